/- Part of a proof: G5. -/
import Derived.Test.YtdngefmliibcgaaGreatM10
import Derived.Test.YtdngefmliibcgaaGreatM11
import Derived.Test.YtdngefmliibcgaaGreatM13
import Derived.Test.YtdngefmliibcgaaGreatM14
import Derived.Test.YtdngefmliibcgaaGreatM18
import Derived.Test.YtdngefmliibcgaaGreatM19
import Derived.Test.YtdngefmliibcgaaGreatM21
import Derived.Test.YtdngefmliibcgaaGreatM22
import Derived.Test.YtdngefmliibcgaaGreatM23
set_option linter.all false
set_option maxRecDepth 20000
set_option maxHeartbeats 20000000
namespace Go.Proofs.YtdngefmliibcgaaGreat
open Go Go.Abs Go.Abs.fJ
theorem Kn{p:Prog}{m:aJ}{t:Nat}{n:Int}(hs:(bn m t).state=1):cY p m t n=fV p t ((bn m t).count+n) 20000 m:=by
 have e0:m.threads.getD t cE=bn m t:=rfl;unfold cY;rw[e0,if_pos hs]
def tight(u:Int)(x:Thread):Int:=(u-x.count-1)*65+(65-x.pc)
theorem Gq{p:Prog}{c:Int}{m:aJ}(H:cp p c m){t:Nat}(ht:t<4)(hg:(iM p m t).2= -1)(u:Int):(bn m t).pc≤64∧tight u (bn (iM p m t).1 t)+1≤tight u (bn m t):=by
 have h1:=H.bn ht;have h2:=rH H h1;have e:(iM p m t).2=(jE p m (bn m t)).2.2:=rfl;have h3:=h2.Ri (e▸hg);have xh:(bn m t).pc<p.code.length:=by
  refine Classical.byContradiction fun hn=> ?_;rw[e]at hg;unfold jE at hg;rw[if_neg hn]at hg;simp at hg
 have h64:=H.prog.qk;rw[rI H ht];have h4:=h2.ph.pc;unfold tight;refine⟨by omega,?_⟩;rcases h3.2 with q|⟨q,q'⟩
 ·rw[q];omega
 ·rw[q,q'];omega
def nc(p:Prog)(m:aJ):Nat→aJ
 |0=>m
 |k+1=>(iM p (nc p m k) 0).1
theorem sg(p:Prog)(m:aJ)(k:Nat):nc p m (k+1)=(iM p (nc p m k) 0).1:=rfl
theorem BW(p:Prog)(m:aJ):nc p m 0=m:=rfl
structure y9 (p:Prog) (d:Int) (m:aJ) (n:Int) (k:Nat):Prop where
 g:cp p d (nc p m k)
 st:(bn (nc p m k) 0).state=1
 lt:(bn (nc p m k) 0).count<(bn m 0).count+n
 le:(k:Int)≤n*65
 tt:(k:Int)+tight ((bn m 0).count+n) (bn (nc p m k) 0)≤n*65
 go:fV p 0 ((bn m 0).count+n) (20000-k) (nc p m k)=cY p m 0 n
theorem y9.zero{p:Prog}{d:Int}{m:aJ}{n:Int}(h:cp p d m)(hs:(bn m 0).state=1)(hn:1≤n):y9 p (d+n) m n 0:=by
 refine⟨h.mono (by omega),hs,by rw[BW];omega,by omega,?_,?_⟩
 ·rw[BW];have:=(h.bn (t:=0) (by omega)).pc;unfold tight;omega
 ·rw[BW,Kn hs]
theorem y9.step{p:Prog}{d:Int}{m:aJ}{n:Int}{k:Nat}(I:y9 p d m n k)(hm:cp p (d-n) m)(hn:n≤6)(ho:(iM p (nc p m k) 0).2= -1):
  cp p d (nc p m (k+1))∧(k:Int)+1≤n*65∧
  ((bn (nc p m (k+1)) 0).count=(bn m 0).count+n→cY p m 0 n=(nc p m (k+1),0))∧
  (¬(bn (nc p m (k+1)) 0).count=(bn m 0).count+n→y9 p d m n (k+1)):=by
 have Pp:=(hm.bn (t:=0) (by omega)).count;have hG:=BM I.g (t:=0) (by omega) (by have:=I.lt;omega);have ht:=Gq I.g (t:=0) (by omega) ho ((bn m 0).count+n);have hl:=vp I.g (t:=0) (by omega) ho ((bn m 0).count+n);have h1:=I.lt;have h2:=I.tt;have h3:=(I.g.bn (t:=0) (by omega)).pc;have h4:=I.go;have hk:(k:Int)+1≤n*65:=by
  have:=ht.1;unfold tight at h2;omega
 have Ld:20000-k=(20000-(k+1))+1:=by omega
 rw[Ld]at h4;rw[sg];refine⟨hG,hk,fun hc=> ?_,fun hc=> ?_⟩
 ·rw[←h4,v8 ho hc]
 ·refine⟨by rw[sg];exact hG,by rw[sg,hl.2.1];exact I.st,by rw[sg];have:=hl.2.2.2;omega,by simpa using hk,by rw[sg];have:=ht.2;omega,?_⟩;rw[sg,←h4,uD ho hc]
theorem y9.stop{p:Prog}{d:Int}{m:aJ}{n:Int}{k:Nat}(I:y9 p d m n k)(hn:n≤6)(ho: ¬(iM p (nc p m k) 0).2= -1):cY p m 0 n=iM p (nc p m k) 0:=by
 have Ld:20000-k=(20000-(k+1))+1:=by have:=I.le;omega
 have h4:=I.go;rw[Ld,uC ho]at h4;exact h4.symm
def vu(f:bR):Nat:=(f.bD % 4).toNat
def Ko(f:bR):Nat:=(f.gP % 8).toNat
def Ww(f:bR):Nat:=(f.gP % 16).toNat
def aac(p:Prog)(f:bR):um:=(j7 p.aq (f.gP % total p.aq) 0).1
def Wx(p:Prog)(m:aJ)(f:bR):Nat:=(nth m.layout.aE (aac p f).region.toNat+(aac p f).offset).toNat
def nd(c:Cell)(b:Int):Cell:=⟨c.tag,AA c.val b⟩
def BX(c:Cell)(b:Int):Cell:=⟨(c.tag+1+b % 2) % 3,c.val⟩
def TO(pc b:Int):Int:=Go.Abs.bits .i64 .xor pc (pw (b % 6))
def rN(x:Thread)(r:Nat)(c:Cell):Thread:=⟨x.state,x.aO.set r c,x.pc,x.count,x.bK,x.saved,x.cz,x.code⟩
def TP(x:Thread)(pc:Int):Thread:=⟨x.state,x.aO,pc,x.count,x.bK,x.saved,x.cz,x.code⟩
def Hv(x:Thread)(r:Nat):Cell:=x.aO.getD r ⟨0,0⟩
def Kp(m:aF)(a:Nat)(b:Int):aF:=⟨m.cells.set a (nd (m.cells.getD a ⟨0,0⟩) b),m.lines⟩
def DZ(m:aF)(w:Nat)(b:Int):aF:=
 if(cf m (w/4)).tag= -1 then m else⟨m.cells,m.lines.set (w/4) ⟨(cf m (w/4)).tag,(cf m (w/4)).eU,(cf m (w/4)).cells.set (w % 4) (nd ((cf m (w/4)).cells.getD (w % 4) ⟨0,0⟩) b)⟩⟩
def ko(p:Prog)(m:aJ)(f:bR):aJ:=
 if f.kind=1 then eO m m.memory (vu f) (rN (bn m (vu f)) (Ko f) (nd (Hv (bn m (vu f)) (Ko f)) f.bit))
 else if f.kind=2 then eO m m.memory (vu f) (rN (bn m (vu f)) (Ko f) (BX (Hv (bn m (vu f)) (Ko f)) f.bit))
 else if f.kind=3 then eO m m.memory (vu f) (TP (bn m (vu f)) (TO (bn m (vu f)).pc f.bit))
 else if f.kind=4 then⟨m.layout,Kp m.memory (Wx p m f) f.bit,m.threads⟩
 else if f.kind=5 then⟨m.layout,DZ m.memory (Ww f) f.bit,m.threads⟩
 else m
def mb(p:Prog)(m:aJ)(f:bR):aJ:=if mS f=true∧jP p m=true then ko p m f else m
theorem RT(f:bR):vu f<4:=by unfold vu;omega
theorem Pd(v b:Int):0≤AA v b∧AA v b≤65535:=by
 unfold AA Go.Abs.bits;exact DU _
theorem za{c:Cell}(h:fA c)(b:Int):fA (nd c b):=⟨h.1,Pd _ _⟩
theorem RU{c:Cell}(h:fA c)(b:Int):fA (BX c b):=⟨by unfold BX;simp only;omega,h.2⟩
theorem aad{a b:Nat}(ha:a<256)(hb:b<256):Go.Abs.bits .i64 .xor (a:Int) (b:Int)=((a^^^b:Nat):Int):=by
 show IntKind.i64.wrap (((BitVec.ofInt 64 (a:Int)^^^BitVec.ofInt 64 (b:Int)).toNat:Nat):Int)=_;rw[BitVec.ofInt_natCast,BitVec.ofInt_natCast,BitVec.toNat_xor,BitVec.toNat_ofNat,BitVec.toNat_ofNat,Nat.mod_eq_of_lt (by omega),Nat.mod_eq_of_lt (by omega)];have:=Nat.xor_lt_two_pow (n:=8) (x:=a) (y:=b) (by omega) (by omega);exact wrap_i64 (by omega)
theorem pw6(v:Int): ∃j:Nat,j<6∧pw (v % 6)=((2^j:Nat):Int)∧2^j<256:=by
 obtain⟨j,e,h⟩:=lu v (n:=6) (by omega);have e':v % 6=(j:Int):=e;refine⟨j,h,by rw[e',yq];push_cast;rfl,?_⟩;have:j=0∨j=1∨j=2∨j=3∨j=4∨j=5:=by omega
 rcases this with rfl|rfl|rfl|rfl|rfl|rfl<;>decide
theorem RV{a:Nat}(ha:a<256)(b:Int): ∃j,j<6∧2^j<256∧TO (a:Int) b=((a^^^2^j:Nat):Int):=by
 obtain⟨j,hj,e,P0⟩:=pw6 b;exact⟨j,hj,P0,by unfold TO;rw[e,aad ha P0]⟩
theorem Wy{pc:Int}(h:0≤pc∧pc≤255)(b:Int):0≤TO pc b∧TO pc b≤255:=by
 obtain⟨a,rfl⟩:=Int.eq_ofNat_of_zero_le h.1;obtain⟨j,hj,P0,e⟩:=RV (a:=a) (by omega) b;have:=Nat.xor_lt_two_pow (n:=8) (x:=a) (y:=2^j) (by omega) (by omega);rw[e];omega
theorem Hw{d:Int}{x:Thread}(h:cW d x){c:Cell}(hc:fA c)(r:Nat):cW d (rN x r c):=
 ⟨h.state,by simp[rN,h.aO],h.cells.set hc r,h.pc,h.count,h.bK,h.saved,h.cz,h.code⟩
theorem Wz{d:Int}{x:Thread}(h:cW d x){pc:Int}(hc:0≤pc∧pc≤255):cW d (TP x pc):=
 ⟨h.state,h.aO,h.cells,hc,h.count,h.bK,h.saved,h.cz,h.code⟩
theorem Hx{m:aF}(h:lZ m)(a:Nat)(b:Int):lZ (Kp m a b):=by
 have hc:=h.cells.set (za (h.cells.getD a) b) a;have hm:=h.mem;exact⟨⟨by simp[Kp,hm.len],hm.lines,hc.dr,hm.line⟩,hc,h.line⟩
theorem Hy{m:aF}(h:lZ m)(w:Nat)(b:Int):lZ (DZ m w b):=by
 unfold DZ;split
 ·exact h
 rename_i ht;have hm:=h.mem;have hl:=h.line (w/4);have hc:cL ((cf m (w/4)).cells.set (w % 4) (nd ((cf m (w/4)).cells.getD (w % 4) ⟨0,0⟩) b)):=hl.set (za (hl.getD _) b) _;refine⟨⟨hm.len,by simp[hm.lines],hm.cells,fun i hi=> ?_⟩,h.cells,fun i=> ?_⟩
 ·simp only[List.length_set]at hi;simp only[List.getElem_set];split
  ·rename_i e;subst e;have hp:=hm.line _ hi;rw[←dZ hi]at hp;exact⟨fun e=>absurd e ht,fun e=>by have:=hp.some e;simp only[List.length_set];exact this,hc.dr⟩
  ·exact hm.line i hi
 ·rw[td _ m.cells];split
  ·exact hc
  ·exact h.line i
theorem Kq{p:Prog}{d:Int}{m:aJ}(H:cp p d m){d':Int}(hd:d≤d')(hb:1000000<d')(f:bR):cp p d' (ko p m f):=by
 have hT:=RT f;have g:=H.bn hT;have no: ∀mem:aF,d'≤1000000→vk (zO m.layout.aE p.aq) mem:=fun _ h=>by omega
 unfold ko;split
 ·exact uA H hd H.mem (no _) ((Hw g (za (g.cells.getD _) _) _).mono hd)
 split
 ·exact uA H hd H.mem (no _) ((Hw g (RU (g.cells.getD _) _) _).mono hd)
 split
 ·exact uA H hd H.mem (no _) ((Wz g (Wy g.pc _)).mono hd)
 split
 ·exact⟨H.prog,H.lay,H.key,Hx H.mem _ _,H.len,fun i hi=>(H.ph i hi).mono hd,no _⟩
 split
 ·exact⟨H.prog,H.lay,H.key,Hy H.mem _ _,H.len,fun i hi=>(H.ph i hi).mono hd,no _⟩
 ·exact H.mono hd
def qG(r:aJ)(v:V)(h:aG):Prop:= ∃vB C L T ids aM k0,v=gD vB C L T r∧dn h k0 vB C L T ids aM r
theorem qG.ba{g:FuncId}{args:List V}{r:aJ}(H: ∃v h k,bt X g args qE 0=some (v,h,k)∧qG r v h):ba X g args=some (.agg (mG r)):=by
 obtain⟨v,h,k,e1,vB,C,L,T,ids,aM,k0,rfl,HA⟩:=H;have e2:kV X (bt X) g args=some (gD vB C L T r,h,k):=e1;have:=HA.cT 6;unfold Go.Abs.ba;rw[e2];simp only[depth];simp[this,V.fo,yP]
section
variable {h h':aG} {k C L T:Nat} {vB:V} {ids aM:Nat→Nat} {m:aJ}
theorem dn.aae(H:dn h k vB C L T ids aM m){a:Nat}(hA:mF a vB C L T ids aM)(hh: ∀i,a≤i→i<k→i≠C→(∀j,j<4→i≠ids j)→h' i=h i):
  vB= .sl false (m.layout.aE.map (V.int .i64))∨ ∃B,vB= .bJ B 0 m.layout.aE.length∧h' B=some ⟨1,m.layout.aE.map (V.int .i64),false⟩∧(B≠C∧B≠L∧B≠T∧B<k)∧(∀j,j<4→ids j≠B)∧ ∀i,i<4→aM i≠B:=by
 rcases H.aE with e|⟨B,e,g1,g2,g3,g4⟩
 ·exact .inl e
 ·exact .inr ⟨B,e,by rw[hh _ (hA.2.2 _ _ _ e) g2.2.2.2 g2.1 fun j hj e=>g3 j hj e.symm,g1],g2,g3,g4⟩
theorem dn.cells(H:dn h k vB C L T ids aM m){a:Nat}(hA:mF a vB C L T ids aM){cs:List Cell}(hp:qh ⟨cs,m.memory.lines⟩)(hC:h' C=some ⟨2,cs.map Cell.enc,false⟩)(hh: ∀i,a≤i→i<k→i≠C→h' i=h i):dn h' k vB C L T ids aM ⟨m.layout,⟨cs,m.memory.lines⟩,m.threads⟩:=by
 have hl:=H.len;have tY:=H.mp.lines;refine⟨hp,⟨hC,?_,fun i g=> ?_⟩,H.sep,H.lt,H.aae hA fun i h1 h2 h3 _=>hh i h1 h2 h3,?_,fun i g=> ?_,hl,H.sm,H.Gd,H.sn,H.Hk,H.OE⟩
 ·rw[hh _ hA.1.2.1 H.lt.2.1 (Ne.symm H.sep.cl)];exact H.mem.lines
 ·have hi:i<4:=by simp only at g;omega
  rw[hh _ (hA.2.1 i hi).1 (H.lt.2.2 i hi) (H.sep.ci i hi)];exact H.mem.line i g
 ·rw[hh _ hA.1.2.2 H.sm.2.2 H.sm.1];exact H.ph
 ·have hi:i<4:=by simp only at g;omega
  rw[hh _ (hA.2.1 i hi).2 (H.sn i hi).2.2.2 (H.sn i hi).1];exact H.KV i g
theorem dn.aaf (H:dn h k vB C L T ids aM m) {a:Nat} (hA:mF a vB C L T ids aM) {r:Nat} (hr:r<m.memory.lines.length) {x:bT} (e1:x.tag=(m.memory.lines[r]).tag) (e2:x.eU=(m.memory.lines[r]).eU) (e3:x.cells.length=(m.memory.lines[r]).cells.length)
  (hp:qh ⟨m.memory.cells,m.memory.lines.set r x⟩) (hC:h' (ids r)=some ⟨2,x.cells.map Cell.enc,false⟩) (hh: ∀i,a≤i→i<k→i≠ids r→h' i=h i):dn h' k vB C L T ids aM ⟨m.layout,⟨m.memory.cells,m.memory.lines.set r x⟩,m.threads⟩:=by
 have hl:=H.len;have tY:=H.mp.lines;have r4:r<4:=by omega
 have hL:=H.mem.lines;refine⟨hp,⟨?_,?_,fun i g=> ?_⟩,H.sep,H.lt,?_,?_,fun i g=> ?_,hl,H.sm,H.Gd,H.sn,H.Hk,H.OE⟩
 ·rw[hh _ hA.1.1 H.lt.1 (Ne.symm (H.sep.ci r r4))];exact H.mem.cells
 ·rw[hh _ hA.1.2.1 H.lt.2.1 (Ne.symm (H.sep.li r r4)),hL,←vY hr,e1,e2,e3,←iU hr (by rw[fY];exact hr),List.set_getElem_self]
 ·simp only[List.length_set]at g;have hi:i<4:=by omega
  simp only[List.getElem_set];split
  ·rename_i e;subst e;exact hC
  ·rename_i e;rw[hh _ (hA.2.1 i hi).1 (H.lt.2.2 i hi) (H.sep.ii i r hi r4 (fun h=>e h.symm))];exact H.mem.line i g
 ·rcases H.aE with e|⟨B,e,g1,g2,g3,g4⟩
  ·exact .inl e
  ·exact .inr ⟨B,e,by rw[hh _ (hA.2.2 _ _ _ e) g2.2.2.2 (Ne.symm (g3 r r4)),g1],g2,g3,g4⟩
 ·rw[hh _ hA.1.2.2 H.sm.2.2 (Ne.symm (H.Gd r r4))];exact H.ph
 ·have hi:i<4:=by simp only at g;omega
  rw[hh _ (hA.2.1 i hi).2 (H.sn i hi).2.2.2 (Ne.symm (H.Hk i r hi r4))];exact H.KV i g
end
theorem sC{ids:Nat→Nat}{l:List Thread}{n:Nat}(h:n<l.length)(r:Nat)(c:Cell):bo ids (l.set n (rN l[n] r c))=bo ids l:=by
 rw[←iu h];have:dw ids n (rN l[n] r c)=(bo ids l)[n]'(by rw[ey];exact h):=by rw[iD h];simp[dw,rN]
 rw[this,List.set_getElem_self]
theorem zc: ∀(l:List Int) (i:Int) (r:Nat),(∀x∈l,1≤x)→0≤i→i<total l→ ∃(k:Nat) (hk:k<l.length),(j7 l i r).1.region=((r+k:Nat):Int)∧0≤(j7 l i r).1.offset∧(j7 l i r).1.offset<l[k]
 | [],i,r,_,h0,h1=>by simp[total]at h1;omega
 |x::l,i,r,hx,h0,h1=>by
  have ht:total (x::l)=x+total l:=by
   have g: ∀(l:List Int) (a:Int),l.foldl (· + ·) a=a+l.foldl (· + ·) 0:=by
    intro l;induction l with
    |nil=>simp
    |cons b l ih=>intro a;rw[List.foldl_cons,List.foldl_cons,ih,ih (0+b)];omega
   unfold total;rw[List.foldl_cons,g];omega
  rw[ht]at h1;rw[j7];by_cases h:0≤i∧i<x
  ·rw[if_pos h];exact⟨0,by simp,by simp,h.1,by simpa using h.2⟩
  ·rw[if_neg h];obtain⟨k,hk,e1,e2,e3⟩:=zc l (i-x) (r+1) (fun y hy=>hx y (by simp[hy])) (by omega) (by omega);exact⟨k+1,by simp;omega,by rw[e1];congr 1;omega,e2,by simpa using e3⟩
theorem ahl{t b:Int}(ht:0≤t∧t≤2)(hb:0≤b∧b≤1):(t+1+b).tmod 3=(t+1+b) % 3:=Int.tmod_eq_emod_of_nonneg (by omega)
theorem aag: ∀k,k<6→IntKind.i64.wrap ((2:Int)^k)=2^k:=by decide+kernel
theorem Kr{p:Prog}{m:aJ}{f:bR}(hf:mS f=true)(hv:jP p m=true):mb p m f=ko p m f:=if_pos ⟨hf,hv⟩
theorem Ks{p:Prog}{m:aJ}{f:bR}(hf: ¬mS f=true):mb p m f=m:=if_neg fun h=>hf h.1
@[simp] theorem sD(ay:List Instr)(aw:List Int)(aA:List (List Int))(ae:List Int)(an:Int)(ak:List Cell)(ah:List bT)(au:List Thread)(fy cR fa dc bX df d:Int)(HG:cp (Prog.mk ay aw aA) d (aJ.mk (Layout.mk ae an) (aF.mk ak ah) au))(hd:d≤1099511627776):ba X 46 [.agg [.sl false (ay.map Instr.enc),.sl false (aw.map (V.int .i64)),.sl false (aA.map bE)],.agg [.sl false (ae.map (V.int .i64)),.int .u16 an,.sl false (ak.map Cell.enc),.sl false (ah.map bT.enc),.sl false (au.map Thread.enc)],.agg [.int .i64 fy,.int .i64 cR,.int .i64 fa,.int .i64 dc,.int .i64 bX,.int .i64 df]]=some (.agg [.sl false ((mb (Prog.mk ay aw aA) (aJ.mk (Layout.mk ae an) (aF.mk ak ah) au) (bR.mk fy cR fa dc bX df)).layout.aE.map (V.int .i64)),.int .u16 (mb (Prog.mk ay aw aA) (aJ.mk (Layout.mk ae an) (aF.mk ak ah) au) (bR.mk fy cR fa dc bX df)).layout.key,.sl false ((mb (Prog.mk ay aw aA) (aJ.mk (Layout.mk ae an) (aF.mk ak ah) au) (bR.mk fy cR fa dc bX df)).memory.cells.map Cell.enc),.sl false ((mb (Prog.mk ay aw aA) (aJ.mk (Layout.mk ae an) (aF.mk ak ah) au) (bR.mk fy cR fa dc bX df)).memory.lines.map bT.enc),.sl false ((mb (Prog.mk ay aw aA) (aJ.mk (Layout.mk ae an) (aF.mk ak ah) au) (bR.mk fy cR fa dc bX df)).threads.map Thread.enc)]):=by
 have MG:=HG.mono hd;have hv:jP (Prog.mk ay aw aA) (aJ.mk (Layout.mk ae an) (aF.mk ak ah) au)=true:=MG.ok;have hp:=HG.prog.lens;have tY:=HG.lens;have hl:au.length=4:=HG.len;have hz:=HG.lay.sz;have hL:=HG.lay;simp only at hz hL;obtain⟨v1,h1,k1,eC,ek,ev,HA,HB⟩:=Hm ae an ak ah au 8 (Prog.mk ay aw aA) _ MG;subst ek;subst ev;simp only[Nat.reduceAdd]at eC HA HB;by_cases hf:mS (bR.mk fy cR fa dc bX df)=true
 case neg=>
  rw[Ks hf];have KK:mS (bR.mk fy cR fa dc bX df)=false:=by simpa using hf
  refine qG.ba (bh (X:=X) (K:=fun v h k=>qG (aJ.mk (Layout.mk ae an) (aF.mk ak ah) au) v h) Tryz.func46 rfl rfl ?_);simp(maxSteps:=10000000) (maxDischargeDepth:=30) (implicitDefEqProofs:=false)[hp,tY,KK,eC,hl,iv,jm];refine⟨_,30,31,194,_,_,_,?_,HA.mono HB (Nat.le_refl _) fun i a b=> ?_⟩
  ·unfold gD;rw[show(aJ.threads (aJ.mk (Layout.mk ae an) (aF.mk ak ah) au)).length=4 from hl]
  ·have c1: ¬i<8:=by omega
   have c2: ¬i=6:=by omega
   have c3: ¬i=3:=by omega
   simp[aS,c1,c2,c3]
 rw[Kr hf hv];obtain⟨n,en,n4⟩:=lu dc (n:=4) (by omega);obtain⟨r,er,r8⟩:=lu bX (n:=8) (by omega);have TQ:dc % 4=n:=en;have TR:bX % 8=r:=er;have eT:vu (bR.mk fy cR fa dc bX df)=n:=by unfold vu;simp only;rw[TQ];rfl
 have eR:Ko (bR.mk fy cR fa dc bX df)=r:=by unfold Ko;simp only;rw[TR];rfl
 have nl:n<au.length:=by omega
 have WA:(n:Int)<4:=by omega
 have WB:(r:Int)<8:=by omega
 have RW:=(MG.ph n nl).aO;have aah:=(MG.ph n nl).cells;have xh:=(MG.ph n nl).pc;simp only at RW aah xh;have rl:r<(au[n]).aO.length:=by omega
 have v7:bn (aJ.mk (Layout.mk ae an) (aF.mk ak ah) au) n=au[n]:=lA nl;have LG:Hv au[n] r=(au[n]).aO[r]:=by unfold Hv;simp[List.getD,rl]
 have Rz:=aah _ (List.getElem_mem rl);have pT:=HA.ph;have pR:=HA.KV n nl;simp only at pT pR;have DX:=ey (uB 129 149 169 189) au;rw[hl]at DX;have gg:=iD (ids:=uB 129 149 169 189) nl;have a1:=(HB.2.1 n n4).2;have a2:=HA.sn n n4;obtain⟨I,hI⟩: ∃I,uB 129 149 169 189 n=I:=⟨_,rfl⟩;rw[hI]at pR a1 a2;simp only[hI]at gg;have b0: ∀j,j<8→(I=j)=False:=fun j _=>by simp;omega
 have rO: ∀j,j<8→(j=I)=False:=fun j _=>by simp;omega
 have b2:(I=194)=False:=by simp;exact a2.2.2.1
 have FZ:(194=I)=False:=by simp;exact fun e=>a2.2.2.1 e.symm
 have b3: ¬I<8:=by omega
 have fb:1≤fa∧fa≤6:=by
  unfold mS at hf;simp only[Bool.and_eq_true,decide_eq_true_eq]at hf;omega
 have hk:fa=1∨fa=2∨fa=3∨fa=4∨fa=5∨fa=6:=by omega
 obtain⟨xt,xv⟩: ∃xt:Int,∃xv:Int,(au[n]).aO[r]=⟨xt,xv⟩:=⟨_,_,rfl⟩;obtain⟨xv,Rf⟩:=xv;rw[Rf]at LG Rz;rcases hk with rfl|rfl|rfl|rfl|rfl|rfl
 ·have eA:ko (Prog.mk ay aw aA) (aJ.mk (Layout.mk ae an) (aF.mk ak ah) au) ⟨fy,cR,1,dc,bX,df⟩=eO (aJ.mk (Layout.mk ae an) (aF.mk ak ah) au) (aJ.memory (aJ.mk (Layout.mk ae an) (aF.mk ak ah) au)) n (rN au[n] r (nd ⟨xt,xv⟩ df)):=by
   unfold ko;rw[if_pos rfl,eT,eR,v7,LG]
  rw[eA];refine qG.ba (bh (X:=X) (K:=fun v h k=>qG (eO (aJ.mk (Layout.mk ae an) (aF.mk ak ah) au) (aJ.memory (aJ.mk (Layout.mk ae an) (aF.mk ak ah) au)) n (rN au[n] r (nd ⟨xt,xv⟩ df))) v h) Tryz.func46 rfl rfl ?_);simp(maxSteps:=10000000) (maxDischargeDepth:=30) (implicitDefEqProofs:=false)[hp,tY,hv,hf,eC,hl,iv,jm,TQ,TR,n4,WA,r8,WB,pT,pR,DX,gg,RW,nl,rl,Rf,b2,FZ,b3,Cell.aU,b0 0 (by omega),rO 0 (by omega),b0 1 (by omega),rO 1 (by omega),b0 2 (by omega),rO 2 (by omega),b0 3 (by omega),rO 3 (by omega),b0 6 (by omega),rO 6 (by omega)];refine⟨_,30,31,194,_,_,_,?_,HA.put HB (Nat.le_refl _) n4 (x:=rN au[n] r (nd ⟨xt,xv⟩ df)) ?_ ?_ ?_⟩
  ·unfold gD;rw[show(eO (aJ.mk (Layout.mk ae an) (aF.mk ak ah) au) (aJ.memory (aJ.mk (Layout.mk ae an) (aF.mk ak ah) au)) n (rN au[n] r (nd ⟨xt,xv⟩ df))).threads.length=4 by simp[eO,hl]];rfl
  ·rw[sC nl];simp[aS,FZ,pT]
  ·rw[hI];simp[aS,rN,nd,b0 3 (by omega),List.map_set,Cell.aU]
  ·intro i a b c4 c5;have c1: ¬i<8:=by omega
   have c2: ¬i=6:=by omega
   have c3: ¬i=3:=by omega
   have c6: ∀j,202≤j→(i=j)=False:=fun j _=>by simp;omega
   rw[hI]at c5;simp[aS,c1,c2,c3,c5]
 ·have eA:ko (Prog.mk ay aw aA) (aJ.mk (Layout.mk ae an) (aF.mk ak ah) au) ⟨fy,cR,2,dc,bX,df⟩=eO (aJ.mk (Layout.mk ae an) (aF.mk ak ah) au) (aJ.memory (aJ.mk (Layout.mk ae an) (aF.mk ak ah) au)) n (rN au[n] r (BX ⟨xt,xv⟩ df)):=by
   unfold ko;rw[if_neg (by simp),if_pos rfl,eT,eR,v7,LG]
  rw[eA];obtain⟨bb,eb,bb2⟩:=lu df (n:=2) (by omega);have eb':df % 2=bb:=eb;have ht:=Rz.1;simp only at ht;have t3:=ahl (t:=xt) (b:=bb) ht (by omega);have wb:IntKind.u8.wrap (bb:Int)=bb:=wrap_u8 (by omega);have w1:IntKind.u8.wrap (xt+1)=xt+1:=wrap_u8 (by omega);have w2:IntKind.u8.wrap (xt+1+bb)=xt+1+bb:=wrap_u8 (by omega);have w3:IntKind.i64.wrap xt=xt:=wrap_i64 (by omega);have w4:IntKind.i64.wrap (xt+1)=xt+1:=wrap_i64 (by omega);have w5:IntKind.i64.wrap (xt+1+bb)=xt+1+bb:=wrap_i64 (by omega);have w6:IntKind.u8.wrap ((xt+1+bb) % 3)=(xt+1+bb) % 3:=wrap_u8 (by omega);have et:BX ⟨xt,xv⟩ df=⟨(xt+1+bb) % 3,xv⟩:=by unfold BX;simp only;rw[eb']
  refine qG.ba (bh (X:=X) (K:=fun v h k=>qG (eO (aJ.mk (Layout.mk ae an) (aF.mk ak ah) au) (aJ.memory (aJ.mk (Layout.mk ae an) (aF.mk ak ah) au)) n (rN au[n] r (BX ⟨xt,xv⟩ df))) v h) Tryz.func46 rfl rfl ?_);simp(maxSteps:=10000000) (maxDischargeDepth:=30) (implicitDefEqProofs:=false)[hp,tY,hv,hf,eC,hl,iv,jm,TQ,TR,n4,WA,r8,WB,pT,pR,DX,gg,RW,nl,rl,Rf,b2,FZ,b3,Cell.aU,b0 0 (by omega),rO 0 (by omega),b0 1 (by omega),rO 1 (by omega),b0 2 (by omega),rO 2 (by omega),b0 3 (by omega),rO 3 (by omega),b0 6 (by omega),rO 6 (by omega),eb',t3,wb,w1,w2,w3,w4,w5,w6];refine⟨_,30,31,194,_,_,_,?_,HA.put HB (Nat.le_refl _) n4 (x:=rN au[n] r (BX ⟨xt,xv⟩ df)) ?_ ?_ ?_⟩
  ·unfold gD;rw[show(eO (aJ.mk (Layout.mk ae an) (aF.mk ak ah) au) (aJ.memory (aJ.mk (Layout.mk ae an) (aF.mk ak ah) au)) n (rN au[n] r (BX ⟨xt,xv⟩ df))).threads.length=4 by simp[eO,hl]];rfl
  ·rw[sC nl];simp[aS,FZ,pT]
  ·rw[hI];simp[aS,rN,et,b0 3 (by omega),List.map_set,Cell.aU]
  ·intro i a b c4 c5;have c1: ¬i<8:=by omega
   have c2: ¬i=6:=by omega
   have c3: ¬i=3:=by omega
   have c6: ∀j,202≤j→(i=j)=False:=fun j _=>by simp;omega
   rw[hI]at c5;simp[aS,c1,c2,c3,c5]
 ·obtain⟨bb,eb,bb2⟩:=lu df (n:=6) (by omega);have eb':df % 6=bb:=eb;have Yn:=aag bb bb2;have hm:min bb 64=bb:=by omega
  have VL:IntKind.i64.bits=64:=rfl;have UC: ¬(bb:Int)<0:=by omega
  have wu:IntKind.u64.wrap (bb:Int)=bb:=wrap_u64 (by omega);have ex:TO (au[n]).pc df=Go.Abs.bits .i64 .xor (au[n]).pc (2^bb):=by unfold TO;rw[eb',yq]
  have eA:ko (Prog.mk ay aw aA) (aJ.mk (Layout.mk ae an) (aF.mk ak ah) au) ⟨fy,cR,3,dc,bX,df⟩=eO (aJ.mk (Layout.mk ae an) (aF.mk ak ah) au) (aJ.memory (aJ.mk (Layout.mk ae an) (aF.mk ak ah) au)) n (TP au[n] (TO (au[n]).pc df)):=by
   unfold ko;rw[if_neg (by simp),if_neg (by simp),if_pos rfl,eT,v7]
  rw[eA,ex];refine qG.ba (bh (X:=X) (K:=fun v h k=>qG (eO (aJ.mk (Layout.mk ae an) (aF.mk ak ah) au) (aJ.memory (aJ.mk (Layout.mk ae an) (aF.mk ak ah) au)) n (TP au[n] (Go.Abs.bits .i64 .xor (au[n]).pc (2^bb)))) v h) Tryz.func46 rfl rfl ?_);simp(maxSteps:=10000000) (maxDischargeDepth:=30) (implicitDefEqProofs:=false)[hp,tY,hv,hf,eC,hl,iv,jm,TQ,TR,n4,WA,r8,WB,pT,pR,DX,gg,RW,nl,rl,Rf,b2,FZ,b3,Cell.aU,b0 0 (by omega),rO 0 (by omega),b0 1 (by omega),rO 1 (by omega),b0 2 (by omega),rO 2 (by omega),b0 3 (by omega),rO 3 (by omega),b0 6 (by omega),rO 6 (by omega),eb',Yn,hm,VL,UC,wu];refine⟨_,30,31,194,_,_,_,?_,HA.put HB (Nat.le_refl _) n4 (x:=TP au[n] (Go.Abs.bits .i64 .xor (au[n]).pc (2^bb))) ?_ ?_ ?_⟩
  ·unfold gD;rw[show(eO (aJ.mk (Layout.mk ae an) (aF.mk ak ah) au) (aJ.memory (aJ.mk (Layout.mk ae an) (aF.mk ak ah) au)) n (TP au[n] (Go.Abs.bits .i64 .xor (au[n]).pc (2^bb)))).threads.length=4 by simp[eO,hl]];rfl
  ·rw[←iu nl];simp[aS,dw,TP,hI,RW]
  ·rw[hI];simp[aS,b2,b0 3 (by omega),b0 6 (by omega),b3,TP,pR]
  ·intro i a b c4 c5;have c1: ¬i<8:=by omega
   have c2: ¬i=6:=by omega
   have c3: ¬i=3:=by omega
   have c6: ∀j,202≤j→(i=j)=False:=fun j _=>by simp;omega
   simp[aS,c1,c2,c3,c4]
 ·have ht:=DJ aw hz.elem;have z1:=hz.pos;have z2:=hz.le;have zl:aw.length≤1000:=by omega
  have zb: ∀x∈aw,0≤x∧x≤1000000:=fun x hx=>by
   obtain⟨i,hi,rfl⟩:=List.getElem_of_mem hx;have:=hz.elem i hi;omega
  have z1': ∀x∈aw,1≤x:=fun x hx=>by
   obtain⟨i,hi,rfl⟩:=List.getElem_of_mem hx;exact(hz.elem i hi).1
  have hTt:=yu aw zl zb;have WR:1≤total aw∧total aw≤4611686018427387904:=by omega
  have vt:=Int.emod_nonneg bX (show total aw≠0 by omega);have xH:=Int.emod_lt_of_pos bX (show 0<total aw by omega);have hAt:=DF aw (bX % total aw) hz ⟨vt,by omega⟩;obtain⟨kk,tT,e1,e2,e3⟩:=zc aw (bX % total aw) 0 z1' vt xH;rw[Nat.zero_add]at e1;have eA:ko (Prog.mk ay aw aA) (aJ.mk (Layout.mk ae an) (aF.mk ak ah) au) ⟨fy,cR,4,dc,bX,df⟩=⟨⟨ae,an⟩,Kp ⟨ak,ah⟩ (Wx (Prog.mk ay aw aA) (aJ.mk (Layout.mk ae an) (aF.mk ak ah) au) ⟨fy,cR,4,dc,bX,df⟩) df,au⟩:=by
   unfold ko;rw[if_neg (by simp),if_neg (by simp),if_neg (by simp),if_pos rfl]
  have eF:Wx (Prog.mk ay aw aA) (aJ.mk (Layout.mk ae an) (aF.mk ak ah) au) ⟨fy,cR,4,dc,bX,df⟩=(nth ae (j7 aw (bX % total aw) 0).1.region.toNat+(j7 aw (bX % total aw) 0).1.offset).toNat:=rfl;obtain⟨⟨⟨sr,so⟩,se⟩,hs⟩: ∃x,j7 aw (bX % total aw) 0=x:=⟨_,rfl⟩;rw[hs]at hAt e1 e2 e3 eF;simp only at hAt e1 e2 e3 eF;subst e1;have Pq:kk<ae.length:=by rw[hL.len];exact tT
  have IE:=hL.base kk Pq tT;have R6:inside aw kk so=true:=lY.2 ⟨kk,tT,rfl,e2,e3⟩;have hAd:=vf ae an aw kk so hL.len (fun i h=>by have:=hL.base i h (hL.len▸h);have:=hz.elem i (hL.len▸h);omega) (fun i h=>by have:=hz.elem i h;omega);rw[if_pos R6,if_pos R6]at hAd;rw[Int.toNat_natCast,db Pq]at hAd eF;obtain⟨A,hAA⟩:=Int.eq_ofNat_of_zero_le (show 0≤ae[kk]+so by omega);have hA5:A<512:=by omega
  rw[hAA]at hAd eF;rw[Int.toNat_natCast]at eF;rw[eA,eF];have ahn:(A:Int)<512:=by omega
  have pC:=HA.mem.cells;have KA:=MG.mem.mem.len;simp only at pC KA;have Al:A<ak.length:=by omega
  obtain⟨yt,yv⟩: ∃xt:Int,∃xv:Int,ak[A]=⟨xt,xv⟩:=⟨_,_,rfl⟩;obtain⟨yv,hyc⟩:=yv;have hg:ak.getD A ⟨0,0⟩=⟨yt,yv⟩:=by simp[List.getD,Al,hyc]
  have eM:Kp ⟨ak,ah⟩ A df=⟨ak.set A (nd ⟨yt,yv⟩ df),ah⟩:=by unfold Kp;simp only;rw[hg]
  have Ru:=Hx MG.mem A df;rw[show(aJ.memory (aJ.mk (Layout.mk ae an) (aF.mk ak ah) au))=⟨ak,ah⟩ from rfl,eM]at Ru;rw[eM];refine qG.ba (bh (X:=X) (K:=fun v h k=>qG ⟨⟨ae,an⟩,⟨ak.set A (nd ⟨yt,yv⟩ df),ah⟩,au⟩ v h) Tryz.func46 rfl rfl ?_);simp(maxSteps:=10000000) (maxDischargeDepth:=30) (implicitDefEqProofs:=false)[hp,tY,hv,hf,eC,hl,iv,jm,TQ,TR,n4,WA,r8,WB,pT,pR,DX,gg,RW,nl,rl,Rf,b2,FZ,b3,Cell.aU,b0 0 (by omega),rO 0 (by omega),b0 1 (by omega),rO 1 (by omega),b0 2 (by omega),rO 2 (by omega),b0 3 (by omega),rO 3 (by omega),b0 6 (by omega),rO 6 (by omega),WR,hTt,hAt,hAd,hz,pC,KA,Al,hA5,ahn,hyc];refine⟨_,30,31,194,_,_,_,?_,HA.cells HB Ru.mem ?_ ?_⟩
  ·unfold gD;simp only;rw[hl]
  ·simp[aS,nd,List.map_set,Cell.aU]
  ·intro i a b c4;have c1: ¬i<8:=by omega
   have c2: ¬i=6:=by omega
   have c3: ¬i=3:=by omega
   have c6: ∀j,202≤j→(i=j)=False:=fun j _=>by simp;omega
   simp[aS,c1,c2,c3,c4,c6]
 ·obtain⟨w,ew,w16⟩:=lu bX (n:=16) (by omega);have ew':bX % 16=w:=ew;have eW:Ww ⟨fy,cR,5,dc,bX,df⟩=w:=by unfold Ww;simp only;rw[ew'];rfl
  have eA:ko (Prog.mk ay aw aA) (aJ.mk (Layout.mk ae an) (aF.mk ak ah) au) ⟨fy,cR,5,dc,bX,df⟩=⟨⟨ae,an⟩,DZ ⟨ak,ah⟩ w df,au⟩:=by
   unfold ko;rw[if_neg (by simp),if_neg (by simp),if_neg (by simp),if_neg (by simp),if_pos rfl,eW]
  have hq:(w:Int).tdiv 4=((w/4:Nat):Int):=by rw[Int.tdiv_eq_ediv_of_nonneg (by omega)];omega
  have VJ:(w:Int).tmod 4=((w % 4:Nat):Int):=by rw[Int.tmod_eq_emod_of_nonneg (by omega)];omega
  have hqw:IntKind.i64.wrap ((w/4:Nat):Int)=((w/4:Nat):Int):=wrap_i64 (by omega);obtain⟨u,hu⟩: ∃u,w/4=u:=⟨_,rfl⟩;obtain⟨t,htt⟩: ∃t,w % 4=t:=⟨_,rfl⟩;have u4:u<4:=by omega
  have t4:t<4:=by omega
  have u4i:(u:Int)<4:=by omega
  have t4i:(t:Int)<4:=by omega
  rw[hu]at hq hqw;rw[htt]at VJ;have lM:=MG.mem.mem.lines;simp only at lM;have ul:u<ah.length:=by omega
  have hLi:cf ⟨ak,ah⟩ u=ah[u]:=dZ ul;have hLP:=MG.mem.mem.line u ul;simp only at hLP;have pL:=HA.mem.lines;have pJ:=HA.mem.line u ul;simp only at pL pJ;have lle:=fY (uB 52 71 90 109) ah;rw[lM]at lle;have lg:=iU (ids:=uB 52 71 90 109) ul;have j1:=(HB.2.1 u u4).1;have j2:=HA.sep.li u u4;have j3:=HA.lt.2.2 u u4;obtain⟨J,hJ⟩: ∃J,uB 52 71 90 109 u=J:=⟨_,rfl⟩;rw[hJ]at pJ j1 j2 j3;simp only[hJ]at lg;have e0: ∀j,j<8→(J=j)=False:=fun j _=>by simp;omega
  have e0': ∀j,j<8→(j=J)=False:=fun j _=>by simp;omega
  have e3: ¬J<8:=by omega
  have e5: ∀j,202≤j→(J=j)=False:=fun j _=>by simp;omega
  rw[eA];by_cases ht:(ah[u]).tag= -1
  ·have eL:DZ ⟨ak,ah⟩ w df=⟨ak,ah⟩:=by unfold DZ;rw[hu,hLi,if_pos ht]
   rw[eL];refine qG.ba (bh (X:=X) (K:=fun v h k=>qG ⟨⟨ae,an⟩,⟨ak,ah⟩,au⟩ v h) Tryz.func46 rfl rfl ?_);simp(maxSteps:=10000000) (maxDischargeDepth:=30) (implicitDefEqProofs:=false)[hp,tY,hv,hf,eC,hl,iv,jm,TQ,TR,n4,WA,r8,WB,pT,pR,DX,gg,RW,nl,rl,Rf,b2,FZ,b3,Cell.aU,b0 0 (by omega),rO 0 (by omega),b0 1 (by omega),rO 1 (by omega),b0 2 (by omega),rO 2 (by omega),b0 3 (by omega),rO 3 (by omega),b0 6 (by omega),rO 6 (by omega),ew',hq,hqw,u4,u4i,pL,lle,lg,ht,ul];refine⟨_,30,31,194,_,_,_,?_,HA.mono HB (Nat.le_refl _) fun i a b=> ?_⟩
   ·unfold gD;simp only;rw[hl]
   ·have c1: ¬i<8:=by omega
    have c2: ¬i=6:=by omega
    have c3: ¬i=3:=by omega
    have c6: ∀j,202≤j→(i=j)=False:=fun j _=>by simp;omega
    simp[aS,c1,c2,c3,c6]
  ·have hc4:=(hLP.some ht).2.2.2;have tl:t<(ah[u]).cells.length:=by omega
   obtain⟨yt,yv⟩: ∃xt:Int,∃xv:Int,(ah[u]).cells[t]=⟨xt,xv⟩:=⟨_,_,rfl⟩;obtain⟨yv,hyc⟩:=yv;have hg:(ah[u]).cells.getD t ⟨0,0⟩=⟨yt,yv⟩:=by simp[List.getD,tl,hyc]
   have eL:DZ ⟨ak,ah⟩ w df=⟨ak,ah.set u ⟨(ah[u]).tag,(ah[u]).eU,(ah[u]).cells.set t (nd ⟨yt,yv⟩ df)⟩⟩:=by
    unfold DZ;rw[hu,htt,hLi,if_neg ht,hg]
   have Ru:=Hy MG.mem w df;rw[show(aJ.memory (aJ.mk (Layout.mk ae an) (aF.mk ak ah) au))=⟨ak,ah⟩ from rfl,eL]at Ru;rw[eL];refine qG.ba (bh (X:=X) (K:=fun v h k=>qG ⟨⟨ae,an⟩,⟨ak,ah.set u ⟨(ah[u]).tag,(ah[u]).eU,(ah[u]).cells.set t (nd ⟨yt,yv⟩ df)⟩⟩,au⟩ v h) Tryz.func46 rfl rfl ?_);simp(maxSteps:=10000000) (maxDischargeDepth:=30) (implicitDefEqProofs:=false)[hp,tY,hv,hf,eC,hl,iv,jm,TQ,TR,n4,WA,r8,WB,pT,pR,DX,gg,RW,nl,rl,Rf,b2,FZ,b3,Cell.aU,b0 0 (by omega),rO 0 (by omega),b0 1 (by omega),rO 1 (by omega),b0 2 (by omega),rO 2 (by omega),b0 3 (by omega),rO 3 (by omega),b0 6 (by omega),rO 6 (by omega),ew',hq,hqw,VJ,u4,u4i,t4,t4i,pL,pJ,lle,lg,ht,ul,tl,hc4,hyc,e3,e5,e0 0 (by omega),e0' 0 (by omega),e0 1 (by omega),e0' 1 (by omega),e0 2 (by omega),e0' 2 (by omega),e0 3 (by omega),e0' 3 (by omega),e0 6 (by omega),e0' 6 (by omega)];refine⟨_,30,31,194,_,_,_,?_,HA.aaf HB ul rfl rfl (by simp) Ru.mem ?_ ?_⟩
   ·unfold gD;simp only;rw[hl]
   ·rw[hJ];simp[aS,nd,e0 3 (by omega),List.map_set,Cell.aU]
   ·intro i a b c4;rw[hJ]at c4;have c1: ¬i<8:=by omega
    have c2: ¬i=6:=by omega
    have c3: ¬i=3:=by omega
    have c6: ∀j,202≤j→(i=j)=False:=fun j _=>by simp;omega
    simp[aS,c1,c2,c3,c4,c6]
 ·have eA:ko (Prog.mk ay aw aA) (aJ.mk (Layout.mk ae an) (aF.mk ak ah) au) ⟨fy,cR,6,dc,bX,df⟩=(aJ.mk (Layout.mk ae an) (aF.mk ak ah) au):=by
   unfold ko;rw[if_neg (by simp),if_neg (by simp),if_neg (by simp),if_neg (by simp),if_neg (by simp)]
  rw[eA];refine qG.ba (bh (X:=X) (K:=fun v h k=>qG (aJ.mk (Layout.mk ae an) (aF.mk ak ah) au) v h) Tryz.func46 rfl rfl ?_);simp(maxSteps:=10000000) (maxDischargeDepth:=30) (implicitDefEqProofs:=false)[hp,tY,hv,hf,eC,hl,iv,jm,TQ,TR,n4,WA,r8,WB,pT,pR,DX,gg,RW,nl,rl,Rf,b2,FZ,b3,Cell.aU,b0 0 (by omega),rO 0 (by omega),b0 1 (by omega),rO 1 (by omega),b0 2 (by omega),rO 2 (by omega),b0 3 (by omega),rO 3 (by omega),b0 6 (by omega),rO 6 (by omega)];refine⟨_,30,31,194,_,_,_,?_,HA.mono HB (Nat.le_refl _) fun i a b=> ?_⟩
  ·unfold gD;rw[show(aJ.threads (aJ.mk (Layout.mk ae an) (aF.mk ak ah) au)).length=4 from hl]
  ·have c1: ¬i<8:=by omega
   have c2: ¬i=6:=by omega
   have c3: ¬i=3:=by omega
   simp[aS,c1,c2,c3]
theorem Pe{p:Prog}{d:Int}{m:aJ}(H:cp p d m){d':Int}(hd:d≤d')(hb:1000000<d')(f:bR):cp p d' (mb p m f):=by
 unfold mb;split
 ·exact Kq H hd hb f
 ·exact H.mono hd
structure Gs (e:Entry):Prop where
 a:e.request.args.length≤1000
 d:e.request.data.length≤1000
 r:e.result.data.length≤1000
structure WC (q:Request):Prop where
 a:q.args.length≤1000
 d:q.data.length≤1000
 av: ∀i (h:i<q.args.length),0≤(q.args[i]).val∧(q.args[i]).val≤65535
 dv: ∀i (h:i<q.data.length),0≤(q.data[i]).val∧(q.data[i]).val≤65535
@[simp] theorem pf(Gt zd x_n mc ou ov mV qw ox:Int)(lE lG:List Canon)(kN kO jz jA:Int)(mq:List Canon)(oy:Int)(pg:Bool)(h:Gs (Entry.mk Gt zd x_n (Request.mk mc ou ov mV qw ox lE lG) (uo.mk (Canon.mk kN kO jz jA) mq oy pg))):ba X 111 [.agg [.int .i64 Gt,.int .i64 zd,.int .i64 x_n,.int .i64 mc,.int .i64 ou,.int .i64 ov,.int .i64 mV,.int .i64 qw,.int .i64 ox,.sl false (lE.map Canon.enc),.sl false (lG.map Canon.enc),.int .u8 kN,.int .u16 kO,.int .i64 jz,.int .i64 jA,.sl false (mq.map Canon.enc),.int .i64 oy,.bool pg]]=some (.bool (!o9 (Entry.mk Gt zd x_n (Request.mk mc ou ov mV qw ox lE lG) (uo.mk (Canon.mk kN kO jz jA) mq oy pg)))):=by
 refine aN Tryz.func111 rfl rfl ?_;have h1:lE.length≤1000000000:=Nat.le_trans h.a (by omega);have h2:lG.length≤1000000000:=Nat.le_trans h.d (by omega);have h3:mq.length≤1000000000:=Nat.le_trans h.r (by omega);simp(maxSteps:=10000000) (maxDischargeDepth:=30) (implicitDefEqProofs:=false)[-Ht,h1,h2,h3]
@[simp] theorem XF(s:List Entry)(hm:s.length≤1000000000)(hE: ∀i (h:i<s.length),Gs s[i]):ba X 183 [.sl false (s.map Entry.enc),.fn 111 [] []]=some (.int .i64 (rh o9 s)):=by
 refine aN Tryz.func183 rfl rfl ?_;simp(maxSteps:=10000000) (maxDischargeDepth:=30) (implicitDefEqProofs:=false)[];refine fh (fun i S=>(S.f 0= .sl false (s.map Entry.enc)∧S.f 1= .fn 111 [] []∧S.f 7= .int .i64 ((s).length:Int)∧S.f 8= .int .i64 (i:Int)∧S.n=1100)∧((s.take i).all o9=true)) (s.length) ?_ 0 (by simp) ?_
 ·rintro i S dQ ⟨eg,jn⟩;have dh:=dY i (by omega);by_cases bk:i<s.length
  ·have up:=sY (p:=o9) bk;rw[jn]at up;have hf:=pf (s[i]).kind (s[i]).bD (s[i]).n (s[i]).request.bD (s[i]).request.stop (s[i]).request.cz (s[i]).request.count (s[i]).request.pc (s[i]).request.call (s[i]).request.args (s[i]).request.data (s[i]).result.value.tag (s[i]).result.value.val (s[i]).result.value.region (s[i]).result.value.offset (s[i]).result.data (s[i]).result.spawn (s[i]).result.wait (hE i bk);cases h:o9 s[i] with
   |false=>
    have e:=rj bk jn h;have KK:ba X 111 [Entry.enc s[i]]=some (.bool true):=by rw[Entry.aU];rw[hf];exact congrArg (fun b=>some (V.bool !b)) h
    simp only[Entry.aU]at KK;simp(maxSteps:=10000000) (maxDischargeDepth:=30) (implicitDefEqProofs:=false)[eg,dQ,dh,bk, -pf,KK,e,Entry.aU]
   |true=>
    rw[h]at up;have KK:ba X 111 [Entry.enc s[i]]=some (.bool false):=by rw[Entry.aU];rw[hf];exact congrArg (fun b=>some (V.bool !b)) h
    simp only[Entry.aU]at KK;simp(maxSteps:=10000000) (maxDischargeDepth:=30) (implicitDefEqProofs:=false)[eg,dQ,dh,bk, -pf,KK,up,Entry.aU]
  ·have mP:s.length=i:=by omega
   subst mP;simp(maxSteps:=10000000) (maxDischargeDepth:=30) (implicitDefEqProofs:=false)[eg,dQ,dh,bk]<;>(
    rw[List.take_length]at jn;exact(pG jn).symm)
 ·simp(maxSteps:=10000000) (maxDischargeDepth:=30) (implicitDefEqProofs:=false)[]<;>(
   rfl)
@[simp] theorem AU(s:List Entry)(hm:s.length≤1000000000)(hE: ∀i (h:i<s.length),Gs s[i]):ba X 110 [.sl false (s.map Entry.enc),.fn 111 [] []]=some (.bool (!(s.all o9))):=by
 refine aN Tryz.func110 rfl rfl ?_;simp(maxSteps:=10000000) (maxDischargeDepth:=30) (implicitDefEqProofs:=false)[hm,hE,pF]
def Pf(f:bR)(r k:Int):Bool:=mS f&& (decide (f.bQ=r)&&decide (f.time=k))
def D0(p:Prog)(r k:Int)(s:List bR×aJ)(f:bR):List bR×aJ:=if Pf f r k=true then(s.1++ [f],mb p s.2 f) else s
def iZ(p:Prog)(fs:List bR)(r k:Int)(m:aJ)(i:Nat):List bR×aJ:=(fs.take i).foldl (D0 p r k) ([],m)
theorem Hz(p:Prog)(fs:List bR)(r k:Int)(m:aJ):iZ p fs r k m 0=([],m):=rfl
theorem BY(p:Prog){fs:List bR}(r k:Int)(m:aJ){i:Nat}(h:i<fs.length):iZ p fs r k m (i+1)=D0 p r k (iZ p fs r k m i) fs[i]:=by unfold iZ;rw[gG h,List.foldl_append];rfl
theorem AV(p:Prog)(fs:List bR)(r k:Int)(m:aJ)(i:Nat):(iZ p fs r k m i).1.length≤i:=by
 induction i with
 |zero=>simp[Hz]
 |succ i ih=>
  by_cases h:i<fs.length
  ·rw[BY p r k m h];unfold D0;split
   ·simp;exact ih
   ·omega
  ·unfold iZ at ih⊢;rw[aQ (by omega)]at ih;rw[aQ (by omega)];omega
theorem D1{Ok:aJ→Prop}{p:Prog}(hA: ∀m f,Ok m→Ok (mb p m f))(fs:List bR)(r k:Int){m:aJ}(h:Ok m)(i:Nat):Ok (iZ p fs r k m i).2:=by
 induction i with
 |zero=>exact h
 |succ i ih=>
  by_cases g:i<fs.length
  ·rw[BY p r k m g];unfold D0;split
   ·exact hA _ _ ih
   ·exact ih
  ·unfold iZ at ih⊢;rw[aQ (by omega)]at ih;rw[aQ (by omega)];exact ih
def sq(p:Prog)(C:aJ→Entry→aJ×Request×Bool)(fs:List bR)(r:Int):List Entry→Int→aJ→aJ×Int
 | [],k,m=>(m,k)
 |x::es,k,m=>if(C (iZ p fs r k m fs.length).2 x).2.2=false∨x.kind=1∧(¬(C (iZ p fs r k m fs.length).2 x).2.1=x.request∨O5 (C (iZ p fs r k m fs.length).2 x).2.1 (iZ p fs r k m fs.length).1=false) then((iZ p fs r k m fs.length).2,k)
  else sq p C fs r es (k+1) (C (iZ p fs r k m fs.length).2 x).1
def RX:Entry:=⟨0,0,0,uE,⟨⟨0,0,0,0⟩,[],0,false⟩⟩
def Gu(p:Prog)(C:aJ→Entry→aJ×Request×Bool)(fs:List bR)(r:Int)(es:List Entry)(m:aJ):Nat→aJ
 |0=>m
 |i+1=>(C (iZ p fs r i (Gu p C fs r es m i) fs.length).2 (es.getD i RX)).1
theorem aal(p:Prog)(C:aJ→Entry→aJ×Request×Bool)(fs:List bR)(r:Int)(es:List Entry)(m:aJ):Gu p C fs r es m 0=m:=rfl
theorem aam(p:Prog)(C:aJ→Entry→aJ×Request×Bool)(fs:List bR)(r:Int){es:List Entry}(m:aJ){i:Nat}(h:i<es.length):Gu p C fs r es m (i+1)=(C (iZ p fs r i (Gu p C fs r es m i) fs.length).2 es[i]).1:=by
 rw[Gu];simp[List.getD,h]
def aan(p:Prog)(C:aJ→Entry→aJ×Request×Bool)(Ok Ok':aJ→Prop)(g:FuncId)(e:Entry):Prop:= ∀m,Ok m→ba X g [.agg [.sl false (p.code.map Instr.enc),.sl false (p.aq.map (V.int .i64)),.sl false (p.data.map bE)],.agg [.sl false (m.layout.aE.map (V.int .i64)),.int .u16 m.layout.key,.sl false (m.memory.cells.map Cell.enc),.sl false (m.memory.lines.map bT.enc),.sl false (m.threads.map Thread.enc)],
  .agg [.int .i64 e.kind,.int .i64 e.bD,.int .i64 e.n,.int .i64 e.request.bD,.int .i64 e.request.stop,.int .i64 e.request.cz,.int .i64 e.request.count,.int .i64 e.request.pc,.int .i64 e.request.call,.sl false (e.request.args.map Canon.enc),.sl false (e.request.data.map Canon.enc),.int .u8 e.result.value.tag,.int .u16 e.result.value.val,.int .i64 e.result.value.region,.int .i64 e.result.value.offset,.sl false (e.result.data.map Canon.enc),.int .i64 e.result.spawn,.bool e.result.wait]]=
 some (.cg [.agg [.sl false ((C m e).1.layout.aE.map (V.int .i64)),.int .u16 (C m e).1.layout.key,.sl false ((C m e).1.memory.cells.map Cell.enc),.sl false ((C m e).1.memory.lines.map bT.enc),.sl false ((C m e).1.threads.map Thread.enc)],
  .agg [.int .i64 (C m e).2.1.bD,.int .i64 (C m e).2.1.stop,.int .i64 (C m e).2.1.cz,.int .i64 (C m e).2.1.count,.int .i64 (C m e).2.1.pc,.int .i64 (C m e).2.1.call,.sl false ((C m e).2.1.args.map Canon.enc),.sl false ((C m e).2.1.data.map Canon.enc)],.bool (C m e).2.2])∧Ok' (C m e).1∧WC (C m e).2.1
theorem Kt (p:Prog) (C:aJ→Entry→aJ×Request×Bool) (fs:List bR) (r k:Int) (m:aJ) {es:List Entry} {i:Nat} (h:i<es.length) {now:List bR} {m1 m2:aJ} {q:Request} {b:Bool}
  (h1:iZ p fs r k m fs.length=(now,m1)) (h2:C m1 es[i]=(m2,q,b)):sq p C fs r (es.drop i) k m=if b=false∨(es[i]).kind=1∧(¬q=(es[i]).request∨O5 q now=false) then(m1,k) else sq p C fs r (es.drop (i+1)) (k+1) m2:=by
 rw[List.drop_eq_getElem_cons h,sq,h1];simp only[h2]
@[simp] theorem wj(ay:List Instr)(aw:List Int)(aA:List (List Int))(aD:List Int)(eh:Int)(entries:List Entry)(bG:List bR)(bQ:Int)(C:aJ→Entry→aJ×Request×Bool)(Ok:Nat→aJ→Prop)(m0:aJ)(hSt:ba X 85 [.agg [.sl false (ay.map Instr.enc),.sl false (aw.map (V.int .i64)),.sl false (aA.map bE)],.agg [.sl false (aD.map (V.int .i64)),.int .u16 eh]]=some (.cg [.agg [.sl false (m0.layout.aE.map (V.int .i64)),.int .u16 m0.layout.key,.sl false (m0.memory.cells.map Cell.enc),.sl false (m0.memory.lines.map bT.enc),.sl false (m0.threads.map Thread.enc)],.int .i64 0]))(ahs:entries.all o9=true)(hEL: ∀i (h:i<entries.length),Gs entries[i])(hen:entries.length≤1000000)(hfn:bG.length≤1000000)(hOk: ∀i m,Ok i m→ ∃d,cp (Prog.mk ay aw aA) d m∧d≤1099511627776)(hA: ∀i m f,Ok i m→Ok i (mb (Prog.mk ay aw aA) m f))(hC: ∀i (h:i<entries.length),aan (Prog.mk ay aw aA) C (Ok i) (Ok (i+1)) 21 entries[i])(h0:Ok 0 m0):ba X 54 [.agg [.sl false (ay.map Instr.enc),.sl false (aw.map (V.int .i64)),.sl false (aA.map bE)],.agg [.sl false (aD.map (V.int .i64)),.int .u16 eh],.sl false (entries.map Entry.enc),.sl false (bG.map bR.enc),.int .i64 bQ]=some (.cg [.agg [.sl false (((sq (Prog.mk ay aw aA) C bG bQ entries 0 m0).1).layout.aE.map (V.int .i64)),.int .u16 ((sq (Prog.mk ay aw aA) C bG bQ entries 0 m0).1).layout.key,.sl false (((sq (Prog.mk ay aw aA) C bG bQ entries 0 m0).1).memory.cells.map Cell.enc),.sl false (((sq (Prog.mk ay aw aA) C bG bQ entries 0 m0).1).memory.lines.map bT.enc),.sl false (((sq (Prog.mk ay aw aA) C bG bQ entries 0 m0).1).threads.map Thread.enc)],.int .i64 ((sq (Prog.mk ay aw aA) C bG bQ entries 0 m0).2)]):=by
 refine aN Tryz.func54 rfl rfl ?_;have aht:entries.length≤1000000000:=by omega
 have hcf:=AU entries aht hEL;rw[ahs]at hcf;simp(maxSteps:=10000000) (maxDischargeDepth:=30) (implicitDefEqProofs:=false)[-AU,hSt,hcf];refine fh (fun i S=>(S.f 2= .sl false (entries.map Entry.enc)∧S.f 3= .sl false (bG.map bR.enc)∧S.f 4= .int .i64 bQ∧S.f 5= .ptr 5 0 0∧S.h 5=some ⟨3,[.agg [.sl false (((Prog.mk ay aw aA)).code.map Instr.enc),.sl false (((Prog.mk ay aw aA)).aq.map (V.int .i64)),.sl false (((Prog.mk ay aw aA)).data.map bE)]],true⟩∧S.f 10= .ptr 10 0 0∧S.h 10=some ⟨5,[.agg [.sl false (jt.layout.aE.map (V.int .i64)),.int .u16 jt.layout.key,.sl false (jt.memory.cells.map Cell.enc),.sl false (jt.memory.lines.map bT.enc),.sl false (jt.threads.map Thread.enc)]],true⟩∧S.f 12= .ptr 12 0 0∧S.h 12=some ⟨5,[.agg [.sl false ((Gu (Prog.mk ay aw aA) C bG bQ entries m0 i).layout.aE.map (V.int .i64)),.int .u16 (Gu (Prog.mk ay aw aA) C bG bQ entries m0 i).layout.key,.sl false ((Gu (Prog.mk ay aw aA) C bG bQ entries m0 i).memory.cells.map Cell.enc),.sl false ((Gu (Prog.mk ay aw aA) C bG bQ entries m0 i).memory.lines.map bT.enc),.sl false ((Gu (Prog.mk ay aw aA) C bG bQ entries m0 i).threads.map Thread.enc)]],true⟩∧S.f 35= .sl false ((entries).map Entry.enc)∧S.f 36= .int .i64 ((entries.length:Int))∧S.f 37= .int .i64 ((i:Int))∧S.n=1100)∧(sq (Prog.mk ay aw aA) C bG bQ entries 0 m0=sq (Prog.mk ay aw aA) C bG bQ (entries.drop i) i (Gu (Prog.mk ay aw aA) C bG bQ entries m0 i)∧Ok i (Gu (Prog.mk ay aw aA) C bG bQ entries m0 i))) (entries.length) ?_ 0 (by simp) ?_
 ·rintro i S dQ ⟨eg,jn⟩;have dh:=dY i (by omega);by_cases bk:i<entries.length
  ·obtain⟨hR,hM⟩:=jn;have us:=aam (Prog.mk ay aw aA) C bG bQ m0 bk;obtain⟨m1,uM⟩: ∃x,Gu (Prog.mk ay aw aA) C bG bQ entries m0 i=x:=⟨_,rfl⟩;rw[uM]at hR hM us;simp(maxSteps:=10000000) (maxDischargeDepth:=30) (implicitDefEqProofs:=false)[eg,dQ,dh,bk,uM];refine fh (fun j S=>(S.f 2= .sl false (entries.map Entry.enc)∧S.f 3= .sl false (bG.map bR.enc)∧S.f 4= .int .i64 bQ∧S.f 5= .ptr 5 0 0∧S.h 5=some ⟨3,[.agg [.sl false (((Prog.mk ay aw aA)).code.map Instr.enc),.sl false (((Prog.mk ay aw aA)).aq.map (V.int .i64)),.sl false (((Prog.mk ay aw aA)).data.map bE)]],true⟩∧S.f 10= .ptr 10 0 0∧S.h 10=some ⟨5,[.agg [.sl false (jt.layout.aE.map (V.int .i64)),.int .u16 jt.layout.key,.sl false (jt.memory.cells.map Cell.enc),.sl false (jt.memory.lines.map bT.enc),.sl false (jt.threads.map Thread.enc)]],true⟩∧S.f 12= .ptr 12 0 0∧S.h 12=some ⟨5,[.agg [.sl false (((iZ (Prog.mk ay aw aA) bG bQ i m1 j).2).layout.aE.map (V.int .i64)),.int .u16 ((iZ (Prog.mk ay aw aA) bG bQ i m1 j).2).layout.key,.sl false (((iZ (Prog.mk ay aw aA) bG bQ i m1 j).2).memory.cells.map Cell.enc),.sl false (((iZ (Prog.mk ay aw aA) bG bQ i m1 j).2).memory.lines.map bT.enc),.sl false (((iZ (Prog.mk ay aw aA) bG bQ i m1 j).2).threads.map Thread.enc)]],true⟩∧S.f 14= .int .i64 ((i:Int))∧S.f 15= .ptr 15 0 0∧S.h 15=some ⟨18,[.agg [.int .i64 (entries[i]).kind,.int .i64 (entries[i]).bD,.int .i64 (entries[i]).n,.int .i64 (entries[i]).request.bD,.int .i64 (entries[i]).request.stop,.int .i64 (entries[i]).request.cz,.int .i64 (entries[i]).request.count,.int .i64 (entries[i]).request.pc,.int .i64 (entries[i]).request.call,.sl false ((entries[i]).request.args.map Canon.enc),.sl false ((entries[i]).request.data.map Canon.enc),.int .u8 (entries[i]).result.value.tag,.int .u16 (entries[i]).result.value.val,.int .i64 (entries[i]).result.value.region,.int .i64 (entries[i]).result.value.offset,.sl false ((entries[i]).result.data.map Canon.enc),.int .i64 (entries[i]).result.spawn,.bool (entries[i]).result.wait]],true⟩∧S.f 16= .bJ 16 0 ((((iZ (Prog.mk ay aw aA) bG bQ i m1 j).1).map bR.enc)).length∧S.h 16=some ⟨6,(((iZ (Prog.mk ay aw aA) bG bQ i m1 j).1).map bR.enc),false⟩∧S.f 35= .sl false ((entries).map Entry.enc)∧S.f 36= .int .i64 ((entries.length:Int))∧S.f 37= .int .i64 ((i:Int))∧S.f 42= .sl false (bG.map bR.enc)∧S.f 43= .int .i64 ((bG).length:Int)∧S.f 44= .int .i64 (j:Int)∧S.n=1100)∧True) (bG.length) ?_ 0 (by simp) ?_
   ·rintro j S mN ⟨xP,FU⟩;have yl:=dY j (by omega);by_cases mQ:j<bG.length
    ·have hs:=BY (Prog.mk ay aw aA) bQ i m1 mQ;have hlen:=AV (Prog.mk ay aw aA) bG bQ i m1 j;have jF:=D1 (Ok:=Ok i) (p:=(Prog.mk ay aw aA)) (hA i) bG bQ i hM j;obtain⟨⟨now,m2⟩,hh⟩: ∃x,iZ (Prog.mk ay aw aA) bG bQ i m1 j=x:=⟨_,rfl⟩;rw[hh]at hs hlen jF;simp only at hlen jF;obtain⟨d,HG,hd⟩:=hOk i m2 jF;obtain⟨⟨ft,fr,fk,RY,fw,fb⟩,hf⟩: ∃x,bG[j]=x:=⟨_,rfl⟩;rw[hf]at hs;have HE:(j:Int)<bG.length:=by omega
     by_cases c1:mS ⟨ft,fr,fk,RY,fw,fb⟩=true
     case neg=>
      have c1':mS ⟨ft,fr,fk,RY,fw,fb⟩=false:=by simpa using c1
      have e1:D0 (Prog.mk ay aw aA) bQ i (now,m2) ⟨ft,fr,fk,RY,fw,fb⟩=(now,m2):=if_neg (by unfold Pf;rw[c1'];simp);rw[e1]at hs;simp(maxSteps:=10000000) (maxDischargeDepth:=30) (implicitDefEqProofs:=false)[dQ,dh,bk,xP,mN,yl,mQ,hh,hs,hf,c1',HE]
     by_cases c2:fr=bQ
     case neg=>
      have e1:D0 (Prog.mk ay aw aA) bQ i (now,m2) ⟨ft,fr,fk,RY,fw,fb⟩=(now,m2):=if_neg (by unfold Pf;rw[c1];simp[c2]);rw[e1]at hs;simp(maxSteps:=10000000) (maxDischargeDepth:=30) (implicitDefEqProofs:=false)[dQ,dh,bk,xP,mN,yl,mQ,hh,hs,hf,c1,c2,HE]
     subst c2;by_cases c3:ft=(i:Int)
     case neg=>
      have e1:D0 (Prog.mk ay aw aA) fr i (now,m2) ⟨ft,fr,fk,RY,fw,fb⟩=(now,m2):=if_neg (by unfold Pf;rw[c1];simp[c3]);rw[e1]at hs;simp(maxSteps:=10000000) (maxDischargeDepth:=30) (implicitDefEqProofs:=false)[dQ,dh,bk,xP,mN,yl,mQ,hh,hs,hf,c1,c3,HE]
     subst c3;have hAp:=sD ay aw aA m2.layout.aE m2.layout.key m2.memory.cells m2.memory.lines m2.threads i fr fk RY fw fb d HG hd;rw[show aJ.mk ⟨m2.layout.aE,m2.layout.key⟩ ⟨m2.memory.cells,m2.memory.lines⟩ m2.threads=m2 from rfl]at hAp;have e1:D0 (Prog.mk ay aw aA) fr i (now,m2) ⟨i,fr,fk,RY,fw,fb⟩=(now++ [⟨i,fr,fk,RY,fw,fb⟩],mb (Prog.mk ay aw aA) m2 ⟨i,fr,fk,RY,fw,fb⟩):=if_pos (by unfold Pf;rw[c1];simp);rw[e1]at hs;have XE:List.take now.length (now.map bR.enc)=now.map bR.enc:=aQ (by simp);have bd:(now.length+1)*48≤140737488355328∧now.length≤4611686018427387903:=by omega
     simp(maxSteps:=10000000) (maxDischargeDepth:=30) (implicitDefEqProofs:=false)[dQ,dh,bk,xP,mN,yl,mQ, -sD,hh,hs,hf,c1,HE,hAp,XE,bd,bR.aU]
    ·have Ky:bG.length=j:=by omega
     subst Ky;have jF:=D1 (Ok:=Ok i) (p:=(Prog.mk ay aw aA)) (hA i) bG bQ i hM bG.length;obtain⟨⟨now,m2⟩,hh⟩: ∃x,iZ (Prog.mk ay aw aA) bG bQ i m1 bG.length=x:=⟨_,rfl⟩;have Pr:=AV (Prog.mk ay aw aA) bG bQ i m1 bG.length;rw[hh]at jF us Pr;simp only at jF us Pr;obtain⟨D2,RZ,KI⟩:=hC i bk m2 jF;obtain⟨⟨m3,q,b⟩,hc⟩: ∃x,C m2 entries[i]=x:=⟨_,rfl⟩;have pz:=Kt (Prog.mk ay aw aA) C bG bQ i m1 bk hh hc;rw[hc]at D2 RZ KI us;simp only at D2 RZ KI us;rw[←hR]at pz;have XE:List.take now.length (now.map bR.enc)=now.map bR.enc:=aQ (by simp);have ze:=aH q.bD q.stop q.cz q.count q.pc q.call q.args q.data (entries[i]).request.bD (entries[i]).request.stop (entries[i]).request.cz (entries[i]).request.count (entries[i]).request.pc (entries[i]).request.call (entries[i]).request.args (entries[i]).request.data (by have:=KI.a;omega) (by have:=KI.d;omega);have Pg:=hY q.bD q.stop q.cz q.count q.pc q.call q.args q.data now (by omega) KI.a KI.d KI.av KI.dv;rw[show Request.mk q.bD q.stop q.cz q.count q.pc q.call q.args q.data=q from rfl]at Pg ze;rw[show Request.mk (entries[i]).request.bD (entries[i]).request.stop (entries[i]).request.cz (entries[i]).request.count (entries[i]).request.pc (entries[i]).request.call (entries[i]).request.args (entries[i]).request.data=(entries[i]).request from rfl]at ze;cases b with
     |false=>
      rw[if_pos (.inl rfl)]at pz;simp(maxSteps:=10000000) (maxDischargeDepth:=30) (implicitDefEqProofs:=false)[dQ,dh,bk,xP,mN,yl,mQ, -aH, -hY,hh,D2,pz]
     |true=>
      by_cases k1:(entries[i]).kind=1
      case neg=>
       rw[if_neg (by simp[k1])]at pz;simp(maxSteps:=10000000) (maxDischargeDepth:=30) (implicitDefEqProofs:=false)[dQ,dh,bk,xP,mN,yl,mQ, -aH, -hY,hh,D2,pz,k1,us,RZ]
      rw[k1]at D2;by_cases s1:q=(entries[i]).request
      case neg=>
       rw[if_pos (.inr ⟨k1,.inl s1⟩)]at pz;rw[decide_eq_false s1]at ze;simp(maxSteps:=10000000) (maxDischargeDepth:=30) (implicitDefEqProofs:=false)[dQ,dh,bk,xP,mN,yl,mQ, -aH, -hY,hh,D2,pz,k1,ze]
      rw[decide_eq_true s1]at ze;cases a1:O5 q now with
      |false=>
       rw[if_pos (.inr ⟨k1,.inr a1⟩)]at pz;rw[a1]at Pg;simp(maxSteps:=10000000) (maxDischargeDepth:=30) (implicitDefEqProofs:=false)[dQ,dh,bk,xP,mN,yl,mQ, -aH, -hY,hh,D2,pz,k1,ze,Pg,XE]
      |true=>
       rw[if_neg (by rw[a1];simp[s1])]at pz;rw[a1]at Pg;simp(maxSteps:=10000000) (maxDischargeDepth:=30) (implicitDefEqProofs:=false)[dQ,dh,bk,xP,mN,yl,mQ, -aH, -hY,hh,D2,pz,k1,ze,Pg,XE,us,RZ]
   ·simp(maxSteps:=10000000) (maxDischargeDepth:=30) (implicitDefEqProofs:=false)[eg,dQ,dh,bk,Hz,uM]
  ·have mP:entries.length=i:=by omega
   subst mP;have wC:sq (Prog.mk ay aw aA) C bG bQ (entries.drop entries.length) entries.length (Gu (Prog.mk ay aw aA) C bG bQ entries m0 entries.length)=(Gu (Prog.mk ay aw aA) C bG bQ entries m0 entries.length,(entries.length:Int)):=by rw[List.drop_length];rfl
   have hRR:=jn.1;rw[wC]at hRR;simp(maxSteps:=10000000) (maxDischargeDepth:=30) (implicitDefEqProofs:=false)[eg,dQ,dh,bk,hRR]
 ·simp(maxSteps:=10000000) (maxDischargeDepth:=30) (implicitDefEqProofs:=false)[aal,h0];exact⟨rfl,rfl,rfl,rfl,rfl⟩
@[simp] theorem Ph(ay:List Instr)(aw:List Int)(aA:List (List Int))(ae:List Int)(an:Int)(ak:List Cell)(ah:List bT)(au:List Thread)(fG aZ pe aK bu bN bF cq bO:Int)(bB bC:List Canon)(bq br bc bf:Int)(bM:List Canon)(bP:Int)(bW:Bool)(d:Int)(HG:cp (Prog.mk ay aw aA) d (aJ.mk (Layout.mk ae an) (aF.mk ak ah) au))(hd:d≤1099511627776)(hE:Gs (Entry.mk fG aZ pe (Request.mk aK bu bN bF cq bO bB bC) (uo.mk (Canon.mk bq br bc bf) bM bP bW)))(hv:o9 (Entry.mk fG aZ pe (Request.mk aK bu bN bF cq bO bB bC) (uo.mk (Canon.mk bq br bc bf) bM bP bW))=true)(hk:fG=1):ba X 21 [.agg [.sl false (ay.map Instr.enc),.sl false (aw.map (V.int .i64)),.sl false (aA.map bE)],.agg [.sl false (ae.map (V.int .i64)),.int .u16 an,.sl false (ak.map Cell.enc),.sl false (ah.map bT.enc),.sl false (au.map Thread.enc)],.agg [.int .i64 fG,.int .i64 aZ,.int .i64 pe,.int .i64 aK,.int .i64 bu,.int .i64 bN,.int .i64 bF,.int .i64 cq,.int .i64 bO,.sl false (bB.map Canon.enc),.sl false (bC.map Canon.enc),.int .u8 bq,.int .u16 br,.int .i64 bc,.int .i64 bf,.sl false (bM.map Canon.enc),.int .i64 bP,.bool bW]]=some (.cg [.agg [.sl false (((ez (Prog.mk ay aw aA) (aJ.mk (Layout.mk ae an) (aF.mk ak ah) au) aZ pe).1).layout.aE.map (V.int .i64)),.int .u16 ((ez (Prog.mk ay aw aA) (aJ.mk (Layout.mk ae an) (aF.mk ak ah) au) aZ pe).1).layout.key,.sl false (((ez (Prog.mk ay aw aA) (aJ.mk (Layout.mk ae an) (aF.mk ak ah) au) aZ pe).1).memory.cells.map Cell.enc),.sl false (((ez (Prog.mk ay aw aA) (aJ.mk (Layout.mk ae an) (aF.mk ak ah) au) aZ pe).1).memory.lines.map bT.enc),.sl false (((ez (Prog.mk ay aw aA) (aJ.mk (Layout.mk ae an) (aF.mk ak ah) au) aZ pe).1).threads.map Thread.enc)],.agg [.int .i64 ((ez (Prog.mk ay aw aA) (aJ.mk (Layout.mk ae an) (aF.mk ak ah) au) aZ pe).2.1).bD,.int .i64 ((ez (Prog.mk ay aw aA) (aJ.mk (Layout.mk ae an) (aF.mk ak ah) au) aZ pe).2.1).stop,.int .i64 ((ez (Prog.mk ay aw aA) (aJ.mk (Layout.mk ae an) (aF.mk ak ah) au) aZ pe).2.1).cz,.int .i64 ((ez (Prog.mk ay aw aA) (aJ.mk (Layout.mk ae an) (aF.mk ak ah) au) aZ pe).2.1).count,.int .i64 ((ez (Prog.mk ay aw aA) (aJ.mk (Layout.mk ae an) (aF.mk ak ah) au) aZ pe).2.1).pc,.int .i64 ((ez (Prog.mk ay aw aA) (aJ.mk (Layout.mk ae an) (aF.mk ak ah) au) aZ pe).2.1).call,.sl false (((ez (Prog.mk ay aw aA) (aJ.mk (Layout.mk ae an) (aF.mk ak ah) au) aZ pe).2.1).args.map Canon.enc),.sl false (((ez (Prog.mk ay aw aA) (aJ.mk (Layout.mk ae an) (aF.mk ak ah) au) aZ pe).2.1).data.map Canon.enc)],.bool true]):=by
 refine aN Tryz.func21 rfl rfl ?_;have h1:bB.length≤1000000000:=Nat.le_trans hE.a (by omega);have h2:bC.length≤1000000000:=Nat.le_trans hE.d (by omega);have h3:bM.length≤1000000000:=Nat.le_trans hE.r (by omega);have hV:=rM fG aZ pe aK bu bN bF cq bO bB bC bq br bc bf bM bP bW h1 h2 h3;rw[hv]at hV;have hm:jP (Prog.mk ay aw aA) (aJ.mk (Layout.mk ae an) (aF.mk ak ah) au)=true:=(HG.mono hd).ok;have hp:=HG.prog.lens;have tY:=HG.lens;have ht:0≤aZ∧aZ<4∧1≤pe∧pe≤64:=by
  unfold o9 at hv;simp only[Bool.and_eq_true,decide_eq_true_eq]at hv;obtain⟨t0,t4,hv⟩:=hv;unfold Gp at hv;rw[if_pos hk]at hv;simp only[Bool.and_eq_true,decide_eq_true_eq]at hv;exact⟨t0,t4,hv.1,hv.2.1⟩
 have hT:=Hs ay aw aA ae an ak ah au aZ pe HG.R hm ⟨ht.1,ht.2.1⟩ ht.2.2;obtain⟨⟨m3,q,z⟩,hq⟩: ∃x,ez (Prog.mk ay aw aA) (aJ.mk (Layout.mk ae an) (aF.mk ak ah) au) aZ pe=x:=⟨_,rfl⟩;rw[hq]at hT⊢;subst hk;simp(maxSteps:=10000000) (maxDischargeDepth:=30) (implicitDefEqProofs:=false)[-rM, -Ht, -Hs,hV,hm,hp,tY,hT]
theorem J9.l{q:Request}(h:J9 q):WC q:=⟨by have:=h.args;omega,by have:=h.data;omega,fun i g=>h.av _ (List.getElem_mem g),fun i g=>h.dv _ (List.getElem_mem g)⟩
theorem Ku{p:Prog}{d:Int}{m:aJ}(HG:cp p d m)(hd:d+64≤1099511627776){t n:Int}(ht:0≤t∧t<4)(hn:1≤n∧n≤64):cp p (d+64) (ez p m t n).1∧WC (ez p m t n).2.1:=by
 obtain⟨k,rfl⟩:=Int.eq_ofNat_of_zero_le ht.1;by_cases hs:(bn m k).state=1
 ·obtain⟨m',q,e,h1,_,_,h2,_⟩:=OO HG hd (t:=k) (by omega) hn hs;rw[e];exact⟨h1,h2.l⟩
 ·have hv:jP p m=true:=(HG.mono (by omega)).ok;have e1:cY p m k n=(m,3):=by unfold cY;exact if_neg hs
  have e:ez p m k n=((kh p m k 3).1,(kh p m k 3).2,0):=by
   unfold ez;rw[if_pos ⟨hv,ht,hn.1,hn.2⟩,Int.toNat_natCast,e1]
  have e2:kh p m k 3=(m,⟨k,3,if(3:Int)=2 then(bn m k).cz else 0,(bn m k).count,(bn m k).pc,0,[],[]⟩):=by unfold kh;rw[if_neg (by decide)]
  rw[e,e2];exact⟨HG.mono (by omega),by simp,by simp,fun i g=>by simp at g,fun i g=>by simp at g⟩
theorem aao{p:Prog}{d:Int}(hd:d+64≤1099511627776){e:Entry}(hE:Gs e)(hv:o9 e=true)(hk:e.kind=1):aan p (fun m e=>((ez p m e.bD e.n).1,(ez p m e.bD e.n).2.1,true)) (cp p d) (cp p (d+64)) 21 e:=by
 intro m HG;have ht:(0≤e.bD∧e.bD<4)∧1≤e.n∧e.n≤64:=by
  unfold o9 at hv;simp only[Bool.and_eq_true,decide_eq_true_eq]at hv;obtain⟨t0,t4,hv⟩:=hv;unfold Gp at hv;rw[if_pos hk]at hv;simp only[Bool.and_eq_true,decide_eq_true_eq]at hv;exact⟨⟨t0,t4⟩,hv.1,hv.2.1⟩
 have h1:=Ku HG hd ht.1 ht.2;refine⟨?_,h1.1,h1.2⟩;obtain⟨k,t,n,⟨q1,q2,q3,q4,q5,q6,q7,q8⟩,⟨⟨r1,r2,r3,r4⟩,r5,r6,r7⟩⟩:=e;exact Ph p.code p.aq p.data m.layout.aE m.layout.key m.memory.cells m.memory.lines m.threads k t n q1 q2 q3 q4 q5 q6 q7 q8 r1 r2 r3 r4 r5 r6 r7 d HG (by omega) hE hv hk
def zS:Prog:=⟨[⟨1,0,0,0,5⟩,⟨18,0,0,0,2⟩,⟨23,0,0,0,0⟩],[1],[[]]⟩
def a3M:aJ:=kJ zS ⟨[3],0⟩
def HF:List Entry:=[⟨1,0,1,⟨0,0,0,1,2,0,[],[]⟩,⟨⟨0,0,0,0⟩,[],0,false⟩⟩,⟨1,0,1,⟨0,1,0,1,3,0,[⟨0,5,0,0⟩],[]⟩,⟨⟨0,0,0,0⟩,[],0,false⟩⟩]
def a3F:List bR:=[⟨1,0,1,0,0,1⟩]
def a3C(m:aJ)(e:Entry):aJ×Request×Bool:=((ez zS m e.bD e.n).1,(ez zS m e.bD e.n).2.1,true)
theorem Pj:rA zS:=DA (by decide+kernel)
theorem Pk:pE [3] [1]:=ln.1 (by decide+kernel)
theorem WD:cp zS 0 a3M:=Kc Pj (fun d hd x hx=>by simp[zS]at hd;subst hd;cases hx) Pk (by simp)
theorem R3:(sq zS a3C a3F 0 HF 0 a3M).2=1:=by decide+kernel
theorem R4:(sq zS a3C [] 0 HF 0 a3M).2=2:=by decide+kernel
theorem Pl:HF.all o9=true:=by decide+kernel
theorem HJ: ∀i (h:i<HF.length),Gs HF[i]:=fun i h=>by
 have h2:i<2:=h;have:i=0∨i=1:=by omega
 rcases this with rfl|rfl<;>exact⟨by simp[HF],by simp[HF],by simp[HF]⟩
theorem R5: ∀i (h:i<HF.length),(HF[i]).kind=1:=fun i h=>by
 have h2:i<2:=h;have:i=0∨i=1:=by omega
 rcases this with rfl|rfl<;>rfl
theorem Pm(fs:List bR)(hf:fs.length≤1000000): ∃bs key cs ls ts,ba X 54 [.agg [.sl false (zS.code.map Instr.enc),.sl false (zS.aq.map (V.int .i64)),.sl false (zS.data.map bE)],.agg [.sl false ([3].map (V.int .i64)),.int .u16 0],.sl false (HF.map Entry.enc),.sl false (fs.map bR.enc),.int .i64 0]=
  some (.cg [.agg [.sl false (List.map (V.int .i64) bs),.int .u16 key,.sl false (List.map Cell.enc cs),.sl false (List.map bT.enc ls),.sl false (List.map Thread.enc ts)],.int .i64 (sq zS a3C fs 0 HF 0 a3M).2]):=by
 have h:=wj zS.code zS.aq zS.data [3] 0 HF fs 0 a3C (fun i m=>cp zS (1000001+64*i) m∧i≤2) a3M
  (RS zS.code zS.aq zS.data [3] 0 Pj Pk) Pl HJ (by decide) hf
  (fun i m hm=>⟨_,hm.1,by have:=hm.2;omega⟩) (fun i m f hm=>⟨Pe hm.1 (Int.le_refl _) (by have:=hm.2;omega) f,hm.2⟩)
  (fun i hi m hm=>by
   have Kz:i<2:=hi;obtain⟨c1,c2,c3⟩:=aao (p:=zS) (d:=1000001+64*i) (by omega) (HJ i hi) (List.all_eq_true.1 Pl _ (List.getElem_mem hi)) (R5 i hi) m hm.1;refine⟨c1,⟨?_,by omega⟩,c3⟩;exact c2.mono (by omega))
  ⟨WD.mono (by omega),by omega⟩
 exact⟨_,_,_,_,_,h⟩
@[simp] theorem Kv:ba X 39 []=some (.bool true):=by
 obtain⟨b1,k1,c1,l1,t1,R1⟩:=Pm a3F (by decide);obtain⟨b2,k2,c2,l2,t2,R2⟩:=Pm [] (by decide);rw[R3]at R1;rw[R4]at R2;simp only[zS,HF,a3F,List.map_cons,List.map_nil,Instr.aU,yh,Entry.aU,bR.aU,Canon.aU]at R1 R2;have hF:mS ⟨1,0,1,0,0,1⟩=true:=by decide
 refine aN Tryz.func39 rfl rfl ?_;simp(maxSteps:=10000000) (maxDischargeDepth:=30) (implicitDefEqProofs:=false)[-wj,R1,R2,hF]
end Go.Proofs.YtdngefmliibcgaaGreat
