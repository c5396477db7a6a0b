/- Part of a proof: H2. -/
import Derived.Test.YtdngefmliibcgaaGreatM29
set_option linter.all false
set_option maxRecDepth 20000
set_option maxHeartbeats 20000000
namespace Go.Proofs.YtdngefmliibcgaaGreat
open Go Go.Abs Go.Abs.kX Qf
variable  {x:Canon}{c:Cell}{pc v d d':Int}{p:Prog}{f:dF}
def Wo(v:Int):List Int:=[IntKind.u8.wrap (v.fdiv 256),IntKind.u8.wrap v]
def be6(v:Int):List Int:=[IntKind.u8.wrap (v.fdiv 1099511627776),IntKind.u8.wrap (v.fdiv 4294967296),IntKind.u8.wrap (v.fdiv 16777216),IntKind.u8.wrap (v.fdiv 65536),IntKind.u8.wrap (v.fdiv 256),IntKind.u8.wrap v]
def wy(x:Canon):List Int:=if x.tag=1 then x.tag::IntKind.u8.wrap (x.region+1)::Wo x.offset else x.tag::0::Wo x.val
def akp(h:x.tag=1):wy x=[1,IntKind.u8.wrap (x.region+1),IntKind.u8.wrap (x.offset.fdiv 256),IntKind.u8.wrap x.offset]:=by unfold wy Wo;rw[if_pos h,h]
def akq(h: ¬x.tag=1):wy x=[x.tag,0,IntKind.u8.wrap (x.val.fdiv 256),IntKind.u8.wrap x.val]:=by unfold wy Wo;rw[if_neg h]
def uV(l:List Canon):List Int:=IntKind.u8.wrap l.length::l.flatMap wy
def JI(x:Canon):(wy x).length=4:=by unfold wy Wo;split<;>rfl
def xH(n:Int)(l:List Canon)(i:Nat):List Int:=IntKind.u8.wrap n::(l.take i).flatMap wy
def NU(n:Int){l:List Canon}{i:Nat}(h:i<l.length):xH n l (i+1)=xH n l i++wy l[i]:=by
 unfold xH;rw[fD h,List.flatMap_append];simp
def NV(n:Int):IntKind.u8.wrap (IntKind.i64.wrap n)=IntKind.u8.wrap n:=by
 simp only[IntKind.wrap,IntKind.signed,IntKind.bits,acB,adX];simp;split<;>omega
def JJ(n:Int)(l:List Canon)(i:Nat)(h:i<=l.length):(xH n l i).length=1+4*i:=by
 induction i with
 |zero=>simp[xH]
 |succ i ih=>rw[NU n (by omega),aaY,ih (by omega),JI];omega
def RH(n:Int)(l:List Canon):xH n l 0=[IntKind.u8.wrap n]:=by simp[xH]
def JK(l:List Canon):xH l.length l l.length=uV l:=by simp[xH,uV]
def C4(l:List Canon):(uV l).length=1+4*l.length:=by rw[<-JK,JJ _ _ _ (aaI _)]
def xf(r:Request):List Int:=(((([IntKind.u8.wrap r.dd,IntKind.u8.wrap r.stop,IntKind.u8.wrap r.dn]++be6 r.count)++ [IntKind.u8.wrap r.pc,IntKind.u8.wrap r.call])++uV r.args)++uV r.data)
def pk(r:Request):List Int×Int:=if lh r=true then(xf r,0) else([],1)
def a87(l:List Int):Int:=l.foldl (fun v c=>v*256+c) 0
def lI(l:List Int):Prop:= ∀x∈l,0<=x/\x<=255
def lI.drop{l:List Int}(h:lI l)(k:Nat):lI (l.drop k):=fun x hx=>h x (abh hx)
def lI.take{l:List Int}(h:lI l)(k:Nat):lI (l.take k):=fun x hx=>h x (aaS hx)
def rdN(r:Reader)(k:Nat):Reader:=if r.b.length<k then⟨[],true⟩ else⟨r.b.drop k,r.short⟩
def rdV(r:Reader)(k:Nat):Int:=if r.b.length<k then 0 else a87 (r.b.take k)
def clR(r:Reader):Reader:=rdN (rdN (rdN r 1) 1) 2
def clT(r:Reader):Int:=IntKind.u8.wrap (rdV r 1)
def clC(r:Reader):Canon:=if clT r=1 then⟨1,0,rdV (rdN r 1) 1-1,rdV (rdN (rdN r 1) 1) 2⟩ else⟨clT r,IntKind.u16.wrap (rdV (rdN (rdN r 1) 1) 2),0,0⟩
def clB(r:Reader):Bool:=decide (clT r=1)||decide (rdV (rdN r 1) 1=0)
def ao8:Nat->Reader×List Canon×Bool->Reader×List Canon×Bool
 |0,s=>s
 |k+1,s=>if s.1.short=true then s else ao8 k (clR s.1,s.2.1++ [clC s.1],s.2.2&&clB s.1)
def RD(r:Reader):Reader×List Canon×Bool:=ao8 (rdV r 1).toNat (rdN r 1,[],true)
def DJ(n:Int):IntKind.u8.wrap n=n % 256:=by
 simp[IntKind.wrap,IntKind.signed,IntKind.bits]
def Tw{a b:Nat}(ha:a<65536)(hb:b<65536):Go.Abs.bits .u16 .xor (a:Int) (b:Int)=((a^^^b:Nat):Int):=by
 show IntKind.u16.wrap (((BitVec.ofInt 16 (a:Int)^^^BitVec.ofInt 16 (b:Int)).toNat:Nat):Int)=_;rw[BitVec.ofInt_natCast,BitVec.ofInt_natCast,BitVec.toNat_xor,BitVec.toNat_ofNat,BitVec.toNat_ofNat,adp (by omega),adp (by omega)];have:=acG (n:=16) (x:=a) (y:=b) (by omega) (by omega);exact wrap_u16 (by omega)
def az2(v:Int): ∃j:Nat,j<16/\pw (v % 16)=((2^j:Nat):Int)/\2^j<65536:=by
 obtain⟨j,e,h⟩:=sA v (n:=16) (by omega);have e':v % 16=(j:Int):=e;refine⟨j,h,by rw[e',GF];push_cast;rfl,?_⟩;exact Nat.pow_lt_pow_right (by omega) h
def adl(b:List Int)(f:dF):(Ap b f).length=b.length:=by unfold Ap;split<;>simp
def ata{b:List Int}(h:lI b)(f:dF):lI (Ap b f):=by
 unfold Ap;split
 ·intro x hx;rcases aaX hx with hx|rfl
  ·exact h x hx
  ·unfold Go.Abs.bits;simp only;rw[DJ];omega
 ·exact h
def xr(f:dF):Nat:=(f.dd % 4).toNat
def OG(f:dF):Nat:=(f.tZ % 8).toNat
def zY(f:dF):Nat:=(f.tZ % 16).toNat
def a2y(p:Prog)(f:dF):BC:=(py p.an (f.tZ % total p.an) 0).1
def Sp(p:Prog)(m:aO)(f:dF):Nat:=(nth m.layout.aD (a2y p f).region.toNat+(a2y p f).offset).toNat
def pN(c:Cell)(b:Int):Cell:=⟨c.tag,yS c.val b⟩
def Lr(c:Cell)(b:Int):Cell:=⟨(c.tag+1+b % 2) % 3,c.val⟩
def TY(pc b:Int):Int:=Go.Abs.bits .i64 .xor pc (pw (b % 6))
def Bd(x:Thread)(r:Nat)(c:Cell):Thread:=⟨x.state,x.bz.set r c,x.pc,x.count,x.cn,x.saved,x.dn,x.code⟩
def pcT(x:Thread)(pc:Int):Thread:=⟨x.state,x.bz,pc,x.count,x.cn,x.saved,x.dn,x.code⟩
def TZ(x:Thread)(r:Nat):Cell:=x.bz.getD r ⟨0,0⟩
def Sq(m:aF)(a:Nat)(b:Int):aF:=⟨m.cells.set a (pN (m.cells.getD a ⟨0,0⟩) b),m.lines⟩
def Ls(m:aF)(w:Nat)(b:Int):aF:=
 if(dZ m (w/4)).tag= -1 then m else⟨m.cells,m.lines.set (w/4) ⟨(dZ m (w/4)).tag,(dZ m (w/4)).iW,(dZ m (w/4)).cells.set (w % 4) (pN ((dZ m (w/4)).cells.getD (w % 4) ⟨0,0⟩) b)⟩⟩
def l9(p:Prog)(m:aO)(f:dF):aO:=
 if f.kind=1 then iZ m m.memory (xr f) (Bd (cg m (xr f)) (OG f) (pN (TZ (cg m (xr f)) (OG f)) f.bit))
 else if f.kind=2 then iZ m m.memory (xr f) (Bd (cg m (xr f)) (OG f) (Lr (TZ (cg m (xr f)) (OG f)) f.bit))
 else if f.kind=3 then iZ m m.memory (xr f) (pcT (cg m (xr f)) (TY (cg m (xr f)).pc f.bit))
 else if f.kind=4 then⟨m.layout,Sq m.memory (Sp p m f) f.bit,m.threads⟩
 else if f.kind=5 then⟨m.layout,Ls m.memory (zY f) f.bit,m.threads⟩
 else m
def mG(p:Prog)(m:aO)(f:dF):aO:=if qA f=true/\jU p m=true then l9 p m f else m
def amc(f:dF):xr f<4:=by unfold xr;omega
def afb(v b:Int):0<=yS v b/\yS v b<=65535:=by
 unfold yS Go.Abs.bits;exact DS _
def He(h:jd c)(b:Int):jd (pN c b):=⟨h.1,afb _ _⟩
def amd(h:jd c)(b:Int):jd (Lr c b):=⟨by unfold Lr;simp only;omega,h.2⟩
def OH{a b:Nat}(ha:a<256)(hb:b<256):Go.Abs.bits .i64 .xor (a:Int) (b:Int)=((a^^^b:Nat):Int):=by
 show IntKind.i64.wrap (((BitVec.ofInt 64 (a:Int)^^^BitVec.ofInt 64 (b:Int)).toNat:Nat):Int)=_;rw[BitVec.ofInt_natCast,BitVec.ofInt_natCast,BitVec.toNat_xor,BitVec.toNat_ofNat,BitVec.toNat_ofNat,adp (by omega),adp (by omega)];have:=acG (n:=8) (x:=a) (y:=b) (by omega) (by omega);exact wrap_i64 (by omega)
def pw6(v:Int): ∃j:Nat,j<6/\pw (v % 6)=((2^j:Nat):Int)/\2^j<256:=by
 obtain⟨j,e,h⟩:=sA v (n:=6) (by omega);have e':v % 6=(j:Int):=e;refine⟨j,h,by rw[e',GF];push_cast;rfl,?_⟩;have:j=0\/j=1\/j=2\/j=3\/j=4\/j=5:=by omega
 rcases this with rfl|rfl|rfl|rfl|rfl|rfl<;>decide
def ame{a:Nat}(ha:a<256)(b:Int): ∃j,j<6/\2^j<256/\TY (a:Int) b=((a^^^2^j:Nat):Int):=by
 obtain⟨j,hj,e,Af⟩:=pw6 b;exact⟨j,hj,Af,by unfold TY;rw[e,OH ha Af]⟩
def aup(h:0<=pc/\pc<=255)(b:Int):0<=TY pc b/\TY pc b<=255:=by
 obtain⟨a,rfl⟩:=aaG h.1;obtain⟨j,hj,Af,e⟩:=ame (a:=a) (by omega) b;have:=acG (n:=8) (x:=a) (y:=2^j) (by omega) (by omega);rw[e];omega
def Sr(h:0<=v/\v<=65535)(b c:Int):yS (yS v b) c=yS (yS v c) b:=by
 obtain⟨a,rfl⟩:=aaG h.1;obtain⟨j,hj,e,Af⟩:=az2 b;obtain⟨i,hi,e',En⟩:=az2 c;unfold yS;have h1:=acG (n:=16) (x:=a) (y:=2^j) (by omega) (by omega);have h2:=acG (n:=16) (x:=a) (y:=2^i) (by omega) (by omega);rw[e,e',Tw (by omega) Af,Tw (by omega) En,Tw (by omega) En,Tw (by omega) Af,Nat.xor_assoc,Nat.xor_comm (2^j),<-Nat.xor_assoc]
def afc(h:0<=v/\v<=255)(b c:Int):TY (TY v b) c=TY (TY v c) b:=by
 obtain⟨a,rfl⟩:=aaG h.1;obtain⟨j,hj,e,Af⟩:=pw6 b;obtain⟨i,hi,e',En⟩:=pw6 c;unfold TY;have h1:=acG (n:=8) (x:=a) (y:=2^j) (by omega) (by omega);have h2:=acG (n:=8) (x:=a) (y:=2^i) (by omega) (by omega);rw[e,e',OH (by omega) Af,OH (by omega) En,OH (by omega) En,OH (by omega) Af,Nat.xor_assoc,Nat.xor_comm (2^j),<-Nat.xor_assoc]
def Be(h:jd c)(b d:Int):pN (pN c b) d=pN (pN c d) b:=by
 unfold pN;simp only;rw[Sr h.2]
def T5{x:Thread}(h:eu d x)(hc:jd c)(r:Nat):eu d (Bd x r c):=
 ⟨h.state,by simp[Bd,h.bz],h.cells.set hc r,h.pc,h.count,h.cn,h.saved,h.dn,h.code⟩
def auq{x:Thread}(h:eu d x)(hc:0<=pc/\pc<=255):eu d (pcT x pc):=
 ⟨h.state,h.bz,h.cells,hc,h.count,h.cn,h.saved,h.dn,h.code⟩
def T6{m:aF}(h:ql m)(a:Nat)(b:Int):ql (Sq m a b):=by
 have hc:=h.cells.set (He (h.cells.getD a) b) a;have hm:=h.mem;exact⟨⟨by simp[Sq,hm.len],hm.lines,hc.gd,hm.line⟩,hc,h.line⟩
def T7{m:aF}(h:ql m)(w:Nat)(b:Int):ql (Ls m w b):=by
 unfold Ls;split
 ·exact h
 rename_i ht;have hm:=h.mem;have hl:=h.line (w/4);have hc:ep ((dZ m (w/4)).cells.set (w % 4) (pN ((dZ m (w/4)).cells.getD (w % 4) ⟨0,0⟩) b)):=hl.set (He (hl.getD _) b) _;refine⟨⟨hm.len,by simp[hm.lines],hm.cells,fun i hi=> ?_⟩,h.cells,fun i=> ?_⟩
 ·simp only[aaN]at hi;simp only[abk];split
  ·rename_i e;subst e;have hp:=hm.line _ hi;rw[<-iq hi]at hp;exact⟨fun e=>absurd e ht,fun e=>by have:=hp.some e;simp only[aaN];exact this,hc.gd⟩
  ·exact hm.line i hi
 ·rw[AV _ m.cells];split
  ·exact hc
  ·exact h.line i
def W5{m:aO}(H:db p d m)(hd:d<=d')(hb:1000000<d')(f:dF):db p d' (l9 p m f):=by
 have hT:=amc f;have g:=H.cg hT;have no: ∀mem:aF,d'<=1000000->zV (Gu m.layout.aD p.an) mem:=fun _ h=>by omega
 unfold l9;split
 ·exact uU H hd H.mem (no _) ((T5 g (He (g.cells.getD _) _) _).mono hd)
 split
 ·exact uU H hd H.mem (no _) ((T5 g (amd (g.cells.getD _) _) _).mono hd)
 split
 ·exact uU H hd H.mem (no _) ((auq g (aup g.pc _)).mono hd)
 split
 ·exact⟨H.prog,H.lay,H.key,T6 H.mem _ _,H.len,fun i hi=>(H.pg i hi).mono hd,no _⟩
 split
 ·exact⟨H.prog,H.lay,H.key,T7 H.mem _ _,H.len,fun i hi=>(H.pg i hi).mono hd,no _⟩
 ·exact H.mono hd
def II(r:aO)(v:V)(h:bh):Prop:= ∃vB C L T ids bu k0,v=jD vB C L T r/\gW h k0 vB C L T ids bu r
def II.bW{g:FuncId}{args:List V}{r:aO}(H: ∃v h k,cL X g args pP 0=some (v,h,k)/\II r v h):bW X g args=some (.agg (mr r)):=by
 obtain⟨v,h,k,e1,vB,C,L,T,ids,bu,k0,rfl,HA⟩:=H;have e2:rM X (cL X) g args=some (jD vB C L T r,h,k):=e1;have:=HA.ed 6;unfold Go.Abs.bW;rw[e2];simp only[depth];simp[this,V.lM,GK]
section
variable {h h':bh} {k C L T:Nat} {vB:V} {ids bu:Nat->Nat} {m:aO}
theorem gW.a2z(H:gW h k vB C L T ids bu m){a:Nat}(hA:oT a vB C L T ids bu)(hh: ∀i,a<=i->i<k->i≠C->(∀j,j<4->i≠ids j)->h' i=h i):
  vB= .sl false (m.layout.aD.map (V.int .i64))\/ ∃B,vB= .cu B 0 m.layout.aD.length/\h' B=some ⟨1,m.layout.aD.map (V.int .i64),false⟩/\(B≠C/\B≠L/\B≠T/\B<k)/\(∀j,j<4->ids j≠B)/\ ∀i,i<4->bu i≠B:=by
 rcases H.aD with e|⟨B,e,g1,g2,g3,g4⟩
 ·exact .inl e
 ·exact .inr ⟨B,e,by rw[hh _ (hA.2.2 _ _ _ e) g2.2.2.2 g2.1 fun j hj e=>g3 j hj e.symm,g1],g2,g3,g4⟩
theorem gW.cells(H:gW h k vB C L T ids bu m){a:Nat}(hA:oT a vB C L T ids bu){cs:List Cell}(hp:uf ⟨cs,m.memory.lines⟩)(hC:h' C=some ⟨2,cs.map Cell.e,false⟩)(hh: ∀i,a<=i->i<k->i≠C->h' i=h i):gW h' k vB C L T ids bu ⟨m.layout,⟨cs,m.memory.lines⟩,m.threads⟩:=by
 have hl:=H.len;have tw:=H.mp.lines;refine⟨hp,⟨hC,?_,fun i g=> ?_⟩,H.sep,H.lt,H.a2z hA fun i h1 h2 h3 _=>hh i h1 h2 h3,?_,fun i g=> ?_,hl,H.xg,H.RK,H.qS,H.Tx,H.JL⟩
 ·rw[hh _ hA.1.2.1 H.lt.2.1 (aaW H.sep.cl)];exact H.mem.lines
 ·have hi:i<4:=by simp only at g;omega
  rw[hh _ (hA.2.1 i hi).1 (H.lt.2.2 i hi) (H.sep.ci i hi)];exact H.mem.line i g
 ·rw[hh _ hA.1.2.2 H.xg.2.2 H.xg.1];exact H.pg
 ·have hi:i<4:=by simp only at g;omega
  rw[hh _ (hA.2.1 i hi).2 (H.qS i hi).2.2.2 (H.qS i hi).1];exact H.GJ i g
theorem gW.a26 (H:gW h k vB C L T ids bu m) {a:Nat} (hA:oT a vB C L T ids bu) {r:Nat} (hr:r<m.memory.lines.length) {x:cy} (e1:x.tag=(m.memory.lines[r]).tag) (e2:x.iW=(m.memory.lines[r]).iW) (e3:x.cells.length=(m.memory.lines[r]).cells.length)
  (hp:uf ⟨m.memory.cells,m.memory.lines.set r x⟩) (hC:h' (ids r)=some ⟨2,x.cells.map Cell.e,false⟩) (hh: ∀i,a<=i->i<k->i≠ids r->h' i=h i):gW h' k vB C L T ids bu ⟨m.layout,⟨m.memory.cells,m.memory.lines.set r x⟩,m.threads⟩:=by
 have hl:=H.len;have tw:=H.mp.lines;have r4:r<4:=by omega
 have hL:=H.mem.lines;refine⟨hp,⟨?_,?_,fun i g=> ?_⟩,H.sep,H.lt,?_,?_,fun i g=> ?_,hl,H.xg,H.RK,H.qS,H.Tx,H.JL⟩
 ·rw[hh _ hA.1.1 H.lt.1 (aaW (H.sep.ci r r4))];exact H.mem.cells
 ·rw[hh _ hA.1.2.1 H.lt.2.1 (aaW (H.sep.li r r4)),hL,<-yM hr,e1,e2,e3,<-jM hr (by rw[jh];exact hr),abO]
 ·simp only[aaN]at g;have hi:i<4:=by omega
  simp only[abk];split
  ·rename_i e;subst e;exact hC
  ·rename_i e;rw[hh _ (hA.2.1 i hi).1 (H.lt.2.2 i hi) (H.sep.ii i r hi r4 (fun h=>e h.symm))];exact H.mem.line i g
 ·rcases H.aD with e|⟨B,e,g1,g2,g3,g4⟩
  ·exact .inl e
  ·exact .inr ⟨B,e,by rw[hh _ (hA.2.2 _ _ _ e) g2.2.2.2 (aaW (g3 r r4)),g1],g2,g3,g4⟩
 ·rw[hh _ hA.1.2.2 H.xg.2.2 (aaW (H.RK r r4))];exact H.pg
 ·have hi:i<4:=by simp only at g;omega
  rw[hh _ (hA.2.1 i hi).2 (H.qS i hi).2.2.2 (aaW (H.Tx i r hi r4))];exact H.GJ i g
end
def Au{ids:Nat->Nat}{l:List Thread}{n:Nat}(h:n<l.length)(r:Nat)(c:Cell):cG ids (l.set n (Bd l[n] r c))=cG ids l:=by
 rw[<-iJ h];have:dJ ids n (Bd l[n] r c)=(cG ids l)[n]'(by rw[fA];exact h):=by rw[fW h];simp[dJ,Bd]
 rw[this,abO]
def Hg: ∀(l:List Int) (i:Int) (r:Nat),(∀x∈l,1<=x)->0<=i->i<total l-> ∃(k:Nat) (hk:k<l.length),(py l i r).1.region=((r+k:Nat):Int)/\0<=(py l i r).1.offset/\(py l i r).1.offset<l[k]
 | [],i,r,_,h0,h1=>by simp[total]at h1;omega
 |x::l,i,r,hx,h0,h1=>by
  have ht:total (x::l)=x+total l:=by
   have g: ∀(l:List Int) (a:Int),l.foldl (· + ·) a=a+l.foldl (· + ·) 0:=by
    intro l;induction l with
    |nil=>simp
    |cons b l ih=>intro a;rw[aeu,aeu,ih,ih (0+b)];omega
   unfold total;rw[aeu,g];omega
  rw[ht]at h1;rw[py];by_cases h:0<=i/\i<x
  ·rw[if_pos h];exact⟨0,by simp,by simp,h.1,by simpa using h.2⟩
  ·rw[if_neg h];obtain⟨k,hk,e1,e2,e3⟩:=Hg l (i-x) (r+1) (fun y hy=>hx y (by simp[hy])) (by omega) (by omega);exact⟨k+1,by simp;omega,by rw[e1];congr 1;omega,e2,by simpa using e3⟩
def bb3{t b:Int}(ht:0<=t/\t<=2)(hb:0<=b/\b<=1):(t+1+b).tmod 3=(t+1+b) % 3:=aaK (by omega)
def a27: ∀k,k<6->IntKind.i64.wrap ((2:Int)^k)=2^k:=by decide+kernel
def W7{m:aO}(hf:qA f=true)(hv:jU p m=true):mG p m f=l9 p m f:=if_pos ⟨hf,hv⟩
def W8{m:aO}(hf: ¬qA f=true):mG p m f=m:=if_neg fun h=>hf h.1
@[simp]def kK(ax:List Instr)(ae:List Int)(ay:List (List Int))(aa:List Int)(aq:Int)(ak:List Cell)(ah:List cy)(au:List Thread)(kU gA kv ir eP ja d:Int)(HG:db (Prog.mk ax ae ay) d (aO.mk (Layout.mk aa aq) (aF.mk ak ah) au))(hd:d<=1099511627776):bW X 46 [KKQ ax ae ay,KKY aa aq ak ah au,.agg [.int .i64 kU,.int .i64 gA,.int .i64 kv,.int .i64 ir,.int .i64 eP,.int .i64 ja]]=some ((KKK (mG (Prog.mk ax ae ay) (aO.mk (Layout.mk aa aq) (aF.mk ak ah) au) (dF.mk kU gA kv ir eP ja)):V)):=by
 have MG:=HG.mono hd;have hv:jU (Prog.mk ax ae ay) (aO.mk (Layout.mk aa aq) (aF.mk ak ah) au)=true:=MG.ok;have hp:=HG.prog.lens;have tw:=HG.lens;have hl:au.length=4:=HG.len;have hz:=HG.lay.sz;have hL:=HG.lay;simp only at hz hL;obtain⟨v1,h1,k1,eC,ek,ev,HA,HB⟩:=Tz aa aq ak ah au 8 (Prog.mk ax ae ay) _ MG;subst ek;subst ev;simp only[Nat.reduceAdd]at eC HA HB;by_cases hf:qA (dF.mk kU gA kv ir eP ja)=true
 case neg=>
  rw[W8 hf];have Xx:qA (dF.mk kU gA kv ir eP ja)=false:=by simpa using hf
  refine II.bW (aaB ?_);simp[Xx,eC,hl,ji,jH];refine⟨_,30,31,194,_,_,_,?_,HA.mono HB (aaI _) fun i a b=> ?_⟩
  ·unfold jD;rw[show(aO.threads (aO.mk (Layout.mk aa aq) (aF.mk ak ah) au)).length=4 from hl]
  ·have c1: ¬i<8:=by omega
   have c2: ¬i=6:=by omega
   have c3: ¬i=3:=by omega
   simp[aR,c1,c2,c3]
 rw[W7 hf hv];obtain⟨n,en,n4⟩:=sA ir (n:=4) (by omega);obtain⟨r,er,r8⟩:=sA eP (n:=8) (by omega);have en':ir % 4=n:=en;have er':eP % 8=r:=er;have eT:xr (dF.mk kU gA kv ir eP ja)=n:=by unfold xr;simp only;rw[en'];rfl
 have eR:OG (dF.mk kU gA kv ir eP ja)=r:=by unfold OG;simp only;rw[er'];rfl
 have nl:n<au.length:=by omega
 have Cm:(n:Int)<4:=by omega
 have r8i:(r:Int)<8:=by omega
 have IA:=(MG.pg n nl).bz;have Nw:=(MG.pg n nl).cells;have D1:=(MG.pg n nl).pc;simp only at IA Nw D1;have rl:r<(au[n]).bz.length:=by omega
 have rI:cg (aO.mk (Layout.mk aa aq) (aF.mk ak ah) au) n=au[n]:=iS nl;have Fu:TZ au[n] r=(au[n]).bz[r]:=by unfold TZ;simp[List.getD,rl]
 have Wz:=Nw _ (aaL rl);have pT:=HA.pg;have pR:=HA.GJ n nl;simp only at pT pR;have Ck:=fA (qW 129 149 169 189) au;rw[hl]at Ck;have gg:=fW (ids:=qW 129 149 169 189) nl;have a1:=(HB.2.1 n n4).2;have a2:=HA.qS n n4;obtain⟨I,hI⟩: ∃I,qW 129 149 169 189 n=I:=⟨_,rfl⟩;rw[hI]at pR a1 a2;simp only[hI]at gg;have b0: ∀j,j<8->(I=j)=False:=fun j _=>by simp;omega
 have b0': ∀j,j<8->(j=I)=False:=fun j _=>by simp;omega
 have b2:(I=194)=False:=by simp;exact a2.2.2.1
 have b2':(194=I)=False:=by simp;exact fun e=>a2.2.2.1 e.symm
 have b3: ¬I<8:=by omega
 have fb:1<=kv/\kv<=6:=by
  unfold qA at hf;simp only[aaF,decide_eq_true_eq]at hf;omega
 have hk:kv=1\/kv=2\/kv=3\/kv=4\/kv=5\/kv=6:=by omega
 obtain⟨xt,xv⟩: ∃xt:Int,∃xv:Int,(au[n]).bz[r]=⟨xt,xv⟩:=⟨_,_,rfl⟩;obtain⟨xv,hxc⟩:=xv;rw[hxc]at Fu Wz;rcases hk with rfl|rfl|rfl|rfl|rfl|rfl
 ·have eA:l9 (Prog.mk ax ae ay) (aO.mk (Layout.mk aa aq) (aF.mk ak ah) au) ⟨kU,gA,1,ir,eP,ja⟩=iZ (aO.mk (Layout.mk aa aq) (aF.mk ak ah) au) (aO.memory (aO.mk (Layout.mk aa aq) (aF.mk ak ah) au)) n (Bd au[n] r (pN ⟨xt,xv⟩ ja)):=by
   unfold l9;rw[if_pos rfl,eT,eR,rI,Fu]
  rw[eA];refine II.bW (aaB ?_);simp[hp,tw,hv,hf,eC,hl,ji,jH,en',er',n4,Cm,r8,r8i,pT,pR,Ck,gg,IA,hxc,b3,Cell.bS,b0' 3 (by omega),b0 6 (by omega),b0' 6 (by omega)];refine⟨_,30,31,194,_,_,_,?_,HA.put HB (aaI _) n4 (x:=Bd au[n] r (pN ⟨xt,xv⟩ ja)) ?_ ?_ ?_⟩
  ·unfold jD;rw[show(iZ (aO.mk (Layout.mk aa aq) (aF.mk ak ah) au) (aO.memory (aO.mk (Layout.mk aa aq) (aF.mk ak ah) au)) n (Bd au[n] r (pN ⟨xt,xv⟩ ja))).threads.length=4 by simp[iZ,hl]];rfl
  ·rw[Au nl];simp[aR,b2',pT]
  ·rw[hI];simp[aR,Bd,pN,b0 3 (by omega),abL,Cell.bS]
  ·intro i a b c4 c5;have c1: ¬i<8:=by omega
   have c2: ¬i=6:=by omega
   have c3: ¬i=3:=by omega
   have c6: ∀j,202<=j->(i=j)=False:=fun j _=>by simp;omega
   rw[hI]at c5;simp[aR,c1,c2,c3,c5]
 ·have eA:l9 (Prog.mk ax ae ay) (aO.mk (Layout.mk aa aq) (aF.mk ak ah) au) ⟨kU,gA,2,ir,eP,ja⟩=iZ (aO.mk (Layout.mk aa aq) (aF.mk ak ah) au) (aO.memory (aO.mk (Layout.mk aa aq) (aF.mk ak ah) au)) n (Bd au[n] r (Lr ⟨xt,xv⟩ ja)):=by
   unfold l9;rw[if_neg (by simp),if_pos rfl,eT,eR,rI,Fu]
  rw[eA];obtain⟨bb,eb,bb2⟩:=sA ja (n:=2) (by omega);have eb':ja % 2=bb:=eb;have ht:=Wz.1;simp only at ht;have t3:=bb3 (t:=xt) (b:=bb) ht (by omega);have wb:IntKind.u8.wrap (bb:Int)=bb:=wrap_u8 (by omega);have w1:IntKind.u8.wrap (xt+1)=xt+1:=wrap_u8 (by omega);have w2:IntKind.u8.wrap (xt+1+bb)=xt+1+bb:=wrap_u8 (by omega);have w3:IntKind.i64.wrap xt=xt:=wrap_i64 (by omega);have w4:IntKind.i64.wrap (xt+1)=xt+1:=wrap_i64 (by omega);have w5:IntKind.i64.wrap (xt+1+bb)=xt+1+bb:=wrap_i64 (by omega);have w6:IntKind.u8.wrap ((xt+1+bb) % 3)=(xt+1+bb) % 3:=wrap_u8 (by omega);have et:Lr ⟨xt,xv⟩ ja=⟨(xt+1+bb) % 3,xv⟩:=by unfold Lr;simp only;rw[eb']
  refine II.bW (aaB ?_);simp[hp,tw,hv,hf,eC,hl,ji,jH,en',er',n4,Cm,r8,r8i,pT,pR,Ck,gg,IA,hxc,b3,Cell.bS,b0' 3 (by omega),b0 6 (by omega),b0' 6 (by omega),eb',t3,wb,w1,w2];refine⟨_,30,31,194,_,_,_,?_,HA.put HB (aaI _) n4 (x:=Bd au[n] r (Lr ⟨xt,xv⟩ ja)) ?_ ?_ ?_⟩
  ·unfold jD;rw[show(iZ (aO.mk (Layout.mk aa aq) (aF.mk ak ah) au) (aO.memory (aO.mk (Layout.mk aa aq) (aF.mk ak ah) au)) n (Bd au[n] r (Lr ⟨xt,xv⟩ ja))).threads.length=4 by simp[iZ,hl]];rfl
  ·rw[Au nl];simp[aR,b2',pT]
  ·rw[hI];simp[aR,Bd,et,b0 3 (by omega),abL,Cell.bS]
  ·intro i a b c4 c5;have c1: ¬i<8:=by omega
   have c2: ¬i=6:=by omega
   have c3: ¬i=3:=by omega
   have c6: ∀j,202<=j->(i=j)=False:=fun j _=>by simp;omega
   rw[hI]at c5;simp[aR,c1,c2,c3,c5]
 ·obtain⟨bb,eb,bb2⟩:=sA ja (n:=6) (by omega);have eb':ja % 6=bb:=eb;have hps:=a27 bb bb2;have hm:min bb 64=bb:=by omega
  have bb4:IntKind.i64.bits=64:=rfl;have Xy: ¬(bb:Int)<0:=by omega
  have wu:IntKind.u64.wrap (bb:Int)=bb:=wrap_u64 (by omega);have ex:TY (au[n]).pc ja=Go.Abs.bits .i64 .xor (au[n]).pc (2^bb):=by unfold TY;rw[eb',GF]
  have eA:l9 (Prog.mk ax ae ay) (aO.mk (Layout.mk aa aq) (aF.mk ak ah) au) ⟨kU,gA,3,ir,eP,ja⟩=iZ (aO.mk (Layout.mk aa aq) (aF.mk ak ah) au) (aO.memory (aO.mk (Layout.mk aa aq) (aF.mk ak ah) au)) n (pcT au[n] (TY (au[n]).pc ja)):=by
   unfold l9;rw[if_neg (by simp),if_neg (by simp),if_pos rfl,eT,rI]
  rw[eA,ex];refine II.bW (aaB ?_);simp[hp,tw,hv,hf,eC,hl,ji,jH,en',er',n4,Cm,r8i,pT,pR,Ck,gg,IA,b3,b0 6 (by omega),eb',hps,hm,bb4,Xy];refine⟨_,30,31,194,_,_,_,?_,HA.put HB (aaI _) n4 (x:=pcT au[n] (Go.Abs.bits .i64 .xor (au[n]).pc (2^bb))) ?_ ?_ ?_⟩
  ·unfold jD;rw[show(iZ (aO.mk (Layout.mk aa aq) (aF.mk ak ah) au) (aO.memory (aO.mk (Layout.mk aa aq) (aF.mk ak ah) au)) n (pcT au[n] (Go.Abs.bits .i64 .xor (au[n]).pc (2^bb)))).threads.length=4 by simp[iZ,hl]];rfl
  ·rw[<-iJ nl];simp[aR,dJ,pcT,hI,IA]
  ·rw[hI];simp[aR,b2,b0 3 (by omega),b0 6 (by omega),b3,pcT,pR]
  ·intro i a b c4 c5;have c1: ¬i<8:=by omega
   have c2: ¬i=6:=by omega
   have c3: ¬i=3:=by omega
   have c6: ∀j,202<=j->(i=j)=False:=fun j _=>by simp;omega
   simp[aR,c1,c2,c3,c4]
 ·have ht:=Np ae hz.elem;have z1:=hz.pos;have z2:=hz.le;have zl:ae.length<=1000:=by omega
  have zb: ∀x∈ae,0<=x/\x<=1000000:=fun x hx=>by
   obtain⟨i,hi,rfl⟩:=abE hx;have:=hz.elem i hi;omega
  have z1': ∀x∈ae,1<=x:=fun x hx=>by
   obtain⟨i,hi,rfl⟩:=abE hx;exact(hz.elem i hi).1
  have hTt:=GH ae zl zb;have ht1:1<=total ae/\total ae<=4611686018427387904:=by omega
  have xh:=acD eP (show total ae≠0 by omega);have tz:=abW eP (show 0<total ae by omega);have hAt:=NT ae (eP % total ae) hz ⟨xh,by omega⟩;obtain⟨kk,xz,e1,e2,e3⟩:=Hg ae (eP % total ae) 0 z1' xh tz;rw[acN]at e1;have eA:l9 (Prog.mk ax ae ay) (aO.mk (Layout.mk aa aq) (aF.mk ak ah) au) ⟨kU,gA,4,ir,eP,ja⟩=⟨⟨aa,aq⟩,Sq ⟨ak,ah⟩ (Sp (Prog.mk ax ae ay) (aO.mk (Layout.mk aa aq) (aF.mk ak ah) au) ⟨kU,gA,4,ir,eP,ja⟩) ja,au⟩:=by
   unfold l9;rw[if_neg (by simp),if_neg (by simp),if_neg (by simp),if_pos rfl]
  have eF:Sp (Prog.mk ax ae ay) (aO.mk (Layout.mk aa aq) (aF.mk ak ah) au) ⟨kU,gA,4,ir,eP,ja⟩=(nth aa (py ae (eP % total ae) 0).1.region.toNat+(py ae (eP % total ae) 0).1.offset).toNat:=rfl;obtain⟨⟨⟨sr,so⟩,se⟩,hs⟩: ∃x,py ae (eP % total ae) 0=x:=⟨_,rfl⟩;rw[hs]at hAt e1 e2 e3 eF;simp only at hAt e1 e2 e3 eF;subst e1;have hkb:kk<aa.length:=by rw[hL.len];exact xz
  have H8:=hL.base kk hkb xz;have xy:inside ae kk so=true:=ld.2 ⟨kk,xz,rfl,e2,e3⟩;have hAd:=CG aa aq ae kk so hL.len (fun i h=>by have:=hL.base i h (hL.len▸h);have:=hz.elem i (hL.len▸h);omega) (fun i h=>by have:=hz.elem i h;omega);rw[if_pos xy,if_pos xy]at hAd;rw[aaH,dC hkb]at hAd eF;obtain⟨A,hAA⟩:=aaG (show 0<=aa[kk]+so by omega);have hA5:A<512:=by omega
  rw[hAA]at hAd eF;rw[aaH]at eF;rw[eA,eF];have bb6:(A:Int)<512:=by omega
  have pC:=HA.mem.cells;have Xj:=MG.mem.mem.len;simp only at pC Xj;have Al:A<ak.length:=by omega
  obtain⟨yt,yv⟩: ∃xt:Int,∃xv:Int,ak[A]=⟨xt,xv⟩:=⟨_,_,rfl⟩;obtain⟨yv,hyc⟩:=yv;have hg:ak.getD A ⟨0,0⟩=⟨yt,yv⟩:=by simp[List.getD,Al,hyc]
  have eM:Sq ⟨ak,ah⟩ A ja=⟨ak.set A (pN ⟨yt,yv⟩ ja),ah⟩:=by unfold Sq;simp only;rw[hg]
  have NZ:=T6 MG.mem A ja;rw[show(aO.memory (aO.mk (Layout.mk aa aq) (aF.mk ak ah) au))=⟨ak,ah⟩ from rfl,eM]at NZ;rw[eM];refine II.bW (aaB ?_);simp[hp,tw,hv,hf,eC,hl,ji,jH,en',er',n4,Cm,r8i,pT,pR,Ck,gg,IA,b3,Cell.bS,b0 6 (by omega),ht1,hTt,hAt,hAd,pC,Xj,hA5,bb6,hyc];refine⟨_,30,31,194,_,_,_,?_,HA.cells HB NZ.mem ?_ ?_⟩
  ·unfold jD;simp only;rw[hl]
  ·simp[aR,pN,abL,Cell.bS]
  ·intro i a b c4;have c1: ¬i<8:=by omega
   have c2: ¬i=6:=by omega
   have c3: ¬i=3:=by omega
   have c6: ∀j,202<=j->(i=j)=False:=fun j _=>by simp;omega
   simp[aR,c1,c2,c3,c4,c6]
 ·obtain⟨w,ew,w16⟩:=sA eP (n:=16) (by omega);have ew':eP % 16=w:=ew;have eW:zY ⟨kU,gA,5,ir,eP,ja⟩=w:=by unfold zY;simp only;rw[ew'];rfl
  have eA:l9 (Prog.mk ax ae ay) (aO.mk (Layout.mk aa aq) (aF.mk ak ah) au) ⟨kU,gA,5,ir,eP,ja⟩=⟨⟨aa,aq⟩,Ls ⟨ak,ah⟩ w ja,au⟩:=by
   unfold l9;rw[if_neg (by simp),if_neg (by simp),if_neg (by simp),if_neg (by simp),if_pos rfl,eW]
  have hq:(w:Int).tdiv 4=((w/4:Nat):Int):=by rw[abD (by omega)];omega
  have O3:(w:Int).tmod 4=((w % 4:Nat):Int):=by rw[aaK (by omega)];omega
  have hqw:IntKind.i64.wrap ((w/4:Nat):Int)=((w/4:Nat):Int):=wrap_i64 (by omega);obtain⟨u,hu⟩: ∃u,w/4=u:=⟨_,rfl⟩;obtain⟨t,htt⟩: ∃t,w % 4=t:=⟨_,rfl⟩;have u4:u<4:=by omega
  have t4:t<4:=by omega
  have u4i:(u:Int)<4:=by omega
  have t4i:(t:Int)<4:=by omega
  rw[hu]at hq hqw;rw[htt]at O3;have jV:=MG.mem.mem.lines;simp only at jV;have ul:u<ah.length:=by omega
  have hLi:dZ ⟨ak,ah⟩ u=ah[u]:=iq ul;have hLP:=MG.mem.mem.line u ul;simp only at hLP;have pL:=HA.mem.lines;have pJ:=HA.mem.line u ul;simp only at pL pJ;have lle:=jh (qW 52 71 90 109) ah;rw[jV]at lle;have lg:=jM (ids:=qW 52 71 90 109) ul;have j1:=(HB.2.1 u u4).1;have j2:=HA.sep.li u u4;have j3:=HA.lt.2.2 u u4;obtain⟨J,hJ⟩: ∃J,qW 52 71 90 109 u=J:=⟨_,rfl⟩;rw[hJ]at pJ j1 j2 j3;simp only[hJ]at lg;have e0: ∀j,j<8->(J=j)=False:=fun j _=>by simp;omega
  have e0': ∀j,j<8->(j=J)=False:=fun j _=>by simp;omega
  have e3: ¬J<8:=by omega
  have e5: ∀j,202<=j->(J=j)=False:=fun j _=>by simp;omega
  rw[eA];by_cases ht:(ah[u]).tag= -1
  ·have eL:Ls ⟨ak,ah⟩ w ja=⟨ak,ah⟩:=by unfold Ls;rw[hu,hLi,if_pos ht]
   rw[eL];refine II.bW (aaB ?_);simp[hp,tw,hv,hf,eC,hl,ji,jH,en',er',n4,Cm,r8i,pT,pR,Ck,gg,IA,b3,b0 6 (by omega),ew',hq,hqw,u4,u4i,pL,lle,lg,ht];refine⟨_,30,31,194,_,_,_,?_,HA.mono HB (aaI _) fun i a b=> ?_⟩
   ·unfold jD;simp only;rw[hl]
   ·have c1: ¬i<8:=by omega
    have c2: ¬i=6:=by omega
    have c3: ¬i=3:=by omega
    have c6: ∀j,202<=j->(i=j)=False:=fun j _=>by simp;omega
    simp[aR,c1,c2,c3,c6]
  ·have hc4:=(hLP.some ht).2.2.2;have tl:t<(ah[u]).cells.length:=by omega
   obtain⟨yt,yv⟩: ∃xt:Int,∃xv:Int,(ah[u]).cells[t]=⟨xt,xv⟩:=⟨_,_,rfl⟩;obtain⟨yv,hyc⟩:=yv;have hg:(ah[u]).cells.getD t ⟨0,0⟩=⟨yt,yv⟩:=by simp[List.getD,tl,hyc]
   have eL:Ls ⟨ak,ah⟩ w ja=⟨ak,ah.set u ⟨(ah[u]).tag,(ah[u]).iW,(ah[u]).cells.set t (pN ⟨yt,yv⟩ ja)⟩⟩:=by
    unfold Ls;rw[hu,htt,hLi,if_neg ht,hg]
   have NZ:=T7 MG.mem w ja;rw[show(aO.memory (aO.mk (Layout.mk aa aq) (aF.mk ak ah) au))=⟨ak,ah⟩ from rfl,eL]at NZ;rw[eL];refine II.bW (aaB ?_);simp[hp,tw,hv,hf,eC,hl,ji,jH,en',er',n4,Cm,r8i,pT,pR,Ck,gg,IA,b3,Cell.bS,b0 6 (by omega),ew',hq,hqw,O3,u4,u4i,t4,t4i,pL,pJ,lle,lg,ht,hc4,hyc,e3,e5,e0' 3 (by omega),e0 6 (by omega),e0' 6 (by omega)];refine⟨_,30,31,194,_,_,_,?_,HA.a26 HB ul rfl rfl (by simp) NZ.mem ?_ ?_⟩
   ·unfold jD;simp only;rw[hl]
   ·rw[hJ];simp[aR,pN,e0 3 (by omega),abL,Cell.bS]
   ·intro i a b c4;rw[hJ]at c4;have c1: ¬i<8:=by omega
    have c2: ¬i=6:=by omega
    have c3: ¬i=3:=by omega
    have c6: ∀j,202<=j->(i=j)=False:=fun j _=>by simp;omega
    simp[aR,c1,c2,c3,c4,c6]
 ·have eA:l9 (Prog.mk ax ae ay) (aO.mk (Layout.mk aa aq) (aF.mk ak ah) au) ⟨kU,gA,6,ir,eP,ja⟩=(aO.mk (Layout.mk aa aq) (aF.mk ak ah) au):=by
   unfold l9;rw[if_neg (by simp),if_neg (by simp),if_neg (by simp),if_neg (by simp),if_neg (by simp)]
  rw[eA];refine II.bW (aaB ?_);simp[hp,tw,hv,hf,eC,hl,ji,jH,en',er',n4,Cm,r8i,pT,pR,Ck,gg,IA,b3,b0 6 (by omega)];refine⟨_,30,31,194,_,_,_,?_,HA.mono HB (aaI _) fun i a b=> ?_⟩
  ·unfold jD;rw[show(aO.threads (aO.mk (Layout.mk aa aq) (aF.mk ak ah) au)).length=4 from hl]
  ·have c1: ¬i<8:=by omega
   have c2: ¬i=6:=by omega
   have c3: ¬i=3:=by omega
   simp[aR,c1,c2,c3]
@[simp]def afg(b:List Int)(n v:Int)(h:bh)(k id m:Nat)(es:List V)(hi:h id=some ⟨1,es,false⟩)(hl:es.length=m)(fg:id<k)(hn:m<=100000):cL X 243 [.cu id 0 m,.int .i64 2,v] h k=some (.cu (k+27) 0 (m+2),aR (aR (aR (aR h id none) (k+13) (some ⟨1,es++ [.int .u8 (IntKind.u8.wrap (v.fdiv 256))],false⟩)) (k+13) none) (k+27) (some ⟨1,es++ [.int .u8 (IntKind.u8.wrap (v.fdiv 256)),.int .u8 (IntKind.u8.wrap v)],false⟩),k+36):=by
 have w8:IntKind.u64.wrap 8=8:=by decide
 have i8:IntKind.i64.wrap 8=8:=by decide
 have w0:IntKind.u64.wrap 0=0:=by decide
 have sT:IntKind.i64.wrap (-1)= -1:=by decide
 have hb:IntKind.i64.bits=64:=rfl;have n1: ∀j,¬id=k+j:=fun j=>by omega
 have n2: ∀j,¬k+j=id:=fun j=>by omega
 have tk0:List.take m es=es:=aZ (by omega);have tk1: ∀a0,List.take (m+1) (es++ [a0])=es++ [a0]:=fun _=>aZ (by simp;omega);have bd1:m+1<=140737488355328:=by omega
 have be1:m+1<=4611686018427387904:=by omega
 have bd2:m+2<=140737488355328:=by omega
 have Wo:m+2<=4611686018427387904:=by omega
 refine MP Tryz.func243 rfl rfl ?_;simp[dO,aaE,sT,hb,hi,hl,i8,tk0,tk1,bd1,bd2,be1,Wo]
@[simp]def aus(b:List Int)(n v:Int)(h:bh)(k id m:Nat)(es:List V)(hi:h id=some ⟨1,es,false⟩)(hl:es.length=m)(fg:id<k)(hn:m<=100000):cL X 243 [.cu id 0 m,.int .i64 6,v] h k=some (.cu (k+83) 0 (m+6),aR (aR (aR (aR (aR (aR (aR (aR (aR (aR (aR (aR h id none) (k+13) (some ⟨1,es++ [.int .u8 (IntKind.u8.wrap (v.fdiv 1099511627776))],false⟩)) (k+13) none) (k+27) (some ⟨1,es++ [.int .u8 (IntKind.u8.wrap (v.fdiv 1099511627776)),.int .u8 (IntKind.u8.wrap (v.fdiv 4294967296))],false⟩)) (k+27) none) (k+41) (some ⟨1,es++ [.int .u8 (IntKind.u8.wrap (v.fdiv 1099511627776)),.int .u8 (IntKind.u8.wrap (v.fdiv 4294967296)),.int .u8 (IntKind.u8.wrap (v.fdiv 16777216))],false⟩)) (k+41) none) (k+55) (some ⟨1,es++ [.int .u8 (IntKind.u8.wrap (v.fdiv 1099511627776)),.int .u8 (IntKind.u8.wrap (v.fdiv 4294967296)),.int .u8 (IntKind.u8.wrap (v.fdiv 16777216)),.int .u8 (IntKind.u8.wrap (v.fdiv 65536))],false⟩)) (k+55) none) (k+69) (some ⟨1,es++ [.int .u8 (IntKind.u8.wrap (v.fdiv 1099511627776)),.int .u8 (IntKind.u8.wrap (v.fdiv 4294967296)),.int .u8 (IntKind.u8.wrap (v.fdiv 16777216)),.int .u8 (IntKind.u8.wrap (v.fdiv 65536)),.int .u8 (IntKind.u8.wrap (v.fdiv 256))],false⟩)) (k+69) none) (k+83) (some ⟨1,es++ [.int .u8 (IntKind.u8.wrap (v.fdiv 1099511627776)),.int .u8 (IntKind.u8.wrap (v.fdiv 4294967296)),.int .u8 (IntKind.u8.wrap (v.fdiv 16777216)),.int .u8 (IntKind.u8.wrap (v.fdiv 65536)),.int .u8 (IntKind.u8.wrap (v.fdiv 256)),.int .u8 (IntKind.u8.wrap v)],false⟩),k+92):=by
 have w40:IntKind.u64.wrap 40=40:=by decide
 have i40:IntKind.i64.wrap 40=40:=by decide
 have w32:IntKind.u64.wrap 32=32:=by decide
 have i32:IntKind.i64.wrap 32=32:=by decide
 have w24:IntKind.u64.wrap 24=24:=by decide
 have i24:IntKind.i64.wrap 24=24:=by decide
 have w16:IntKind.u64.wrap 16=16:=by decide
 have i16:IntKind.i64.wrap 16=16:=by decide
 have w8:IntKind.u64.wrap 8=8:=by decide
 have i8:IntKind.i64.wrap 8=8:=by decide
 have w0:IntKind.u64.wrap 0=0:=by decide
 have sT:IntKind.i64.wrap (-1)= -1:=by decide
 have hb:IntKind.i64.bits=64:=rfl;have n1: ∀j,¬id=k+j:=fun j=>by omega
 have n2: ∀j,¬k+j=id:=fun j=>by omega
 have tk0:List.take m es=es:=aZ (by omega);have tk1: ∀a0,List.take (m+1) (es++ [a0])=es++ [a0]:=fun _=>aZ (by simp;omega);have tk2: ∀a0 a1,List.take (m+2) (es++ [a0,a1])=es++ [a0,a1]:=fun _ _=>aZ (by simp;omega);have tk3: ∀a0 a1 a2,List.take (m+3) (es++ [a0,a1,a2])=es++ [a0,a1,a2]:=fun _ _ _=>aZ (by simp;omega);have Ip: ∀a0 a1 a2 a3,List.take (m+4) (es++ [a0,a1,a2,a3])=es++ [a0,a1,a2,a3]:=fun _ _ _ _=>aZ (by simp;omega);have tk5: ∀a0 a1 a2 a3 a4,List.take (m+5) (es++ [a0,a1,a2,a3,a4])=es++ [a0,a1,a2,a3,a4]:=fun _ _ _ _ _=>aZ (by simp;omega);have bd1:m+1<=140737488355328:=by omega
 have be1:m+1<=4611686018427387904:=by omega
 have bd2:m+2<=140737488355328:=by omega
 have Wo:m+2<=4611686018427387904:=by omega
 have bd3:m+3<=140737488355328:=by omega
 have be3:m+3<=4611686018427387904:=by omega
 have bd4:m+4<=140737488355328:=by omega
 have be4:m+4<=4611686018427387904:=by omega
 have bd5:m+5<=140737488355328:=by omega
 have be5:m+5<=4611686018427387904:=by omega
 have bd6:m+6<=140737488355328:=by omega
 have be6:m+6<=4611686018427387904:=by omega
 refine MP Tryz.func243 rfl rfl ?_;simp[dO,aaE,sT,hb,hi,hl,i40,i32,i24,i16,i8,tk0,tk1,tk2,tk3,Ip,tk5,bd1,bd2,bd3,bd4,bd5,bd6,be1,Wo,be3,be4,be5,be6]
def aut(h:bh)(k id:Nat)(es:List V)(v:V)(h':bh)(k':Nat):Prop:=
 ∃nN,v= .cu nN 0 es.length/\(k<=nN/\nN<k')/\h' nN=some ⟨1,es,false⟩/\ ∀i,i<k->i≠id->h' i=h i
@[simp]def auu(b:List Int)(ey dm kq lW:Int)(h:bh)(k id m:Nat)(es:List V)(hi:h id=some ⟨1,es,false⟩)(hl:es.length=m)(fg:id<k)(hn:m<=90000)(hv:0<=dm/\dm<=65535): ∃w h' k',cL X 270 [.cu id 0 m,KKx ey dm kq lW] h k=some (w,h',k')/\aut h k id (es++(wy (Canon.mk ey dm kq lW)).map (V.int .u8)) w h' k':=by
 have tz:IntKind.i64.wrap dm=dm:=wrap_i64 (by omega);have n1: ∀j,¬id=k+j:=fun j=>by omega
 have n2: ∀j,¬k+j=id:=fun j=>by omega
 have n3: ¬id=k:=by omega
 have n4: ¬k=id:=by omega
 have tk0:List.take m es=es:=aZ (by omega);have bd2:m+2<=140737488355328:=by omega
 have Wo:m+2<=4611686018427387904:=by omega
 by_cases ht:ey=1
 ·subst ht;have hc:=akp (x:=⟨1,dm,kq,lW⟩) rfl;rw[hc];have p1:=fun(H:bh) (hH:H (k+13)=some ⟨1,es++ [.int .u8 1,.int .u8 (IntKind.u8.wrap (kq+1))],false⟩)=>afg [] 0 lW H (k+18) (k+13) (m+2) (es++ [.int .u8 1,.int .u8 (IntKind.u8.wrap (kq+1))]) hH (by simp;omega) (by omega) (by omega);refine aaB ?_;simp[aaE,hi,hl,n3,n4,tk0,bd2,Wo,p1,NV];refine⟨k+45,?_,?_,?_,?_⟩
  ·simp[hl]
  ·omega
  ·simp[aR]
  ·intro i h1 h2;have q1: ∀j,¬i=k+j:=fun j=>by omega
   have q2: ¬i=k:=by omega
   simp[aR,q1,q2,h2]
 ·have hc:=akq (x:=⟨ey,dm,kq,lW⟩) ht;rw[hc];have p1:=fun(H:bh) (hH:H (k+9)=some ⟨1,es++ [.int .u8 ey,.int .u8 0],false⟩)=>afg [] 0 dm H (k+15) (k+9) (m+2) (es++ [.int .u8 ey,.int .u8 0]) hH (by simp;omega) (by omega) (by omega);refine aaB ?_;simp[aaE,hi,hl,n3,n4,tk0,bd2,Wo,p1,ht,tz];refine⟨k+42,?_,?_,?_,?_⟩
  ·simp[hl]
  ·omega
  ·simp[aR]
  ·intro i h1 h2;have q1: ∀j,¬i=k+j:=fun j=>by omega
   have q2: ¬i=k:=by omega
   simp[aR,q1,q2,h2]
@[simp]def afh(b:List Int)(l:List Canon)(h:bh)(k id m:Nat)(es:List V)(hi:h id=some ⟨1,es,false⟩)(hl:es.length=m)(fg:id<k)(hn:m<=50000)(jV:l.length<=1000)(hv: ∀i (h:i<l.length),0<=(l[i]).val/\(l[i]).val<=65535): ∃w h' k',cL X 244 [.cu id 0 m,l] h k=some (w,h',k')/\aut h k id (es++(uV l).map (V.int .u8)) w h' k':=by
 have n1: ∀j,¬id=k+j:=fun j=>by omega
 have n2: ∀j,¬k+j=id:=fun j=>by omega
 have n3: ¬id=k:=by omega
 have tk0:List.take m es=es:=aZ (by omega);have bd1:m+1<=140737488355328:=by omega
 have be1:m+1<=4611686018427387904:=by omega
 have hz:=RH l.length l;rw[<-JK];refine aaB ?_;simp[aaE,hi,hl,tk0,bd1,be1];refine lS (fun i S=>(S.f 13=l/\S.f 14= .int .i64 l.length/\S.f 15=(i:Int))/\ ∃nN,S.f 0= .cu nN 0 (m+(xH l.length l i).length)/\(k<=nN/\nN<S.n)/\S.h nN=some ⟨1,es++(xH l.length l i).map (V.int .u8),false⟩/\ ∀j,j<k->j≠id->S.h j=h j) l.length ?_ 0 (by simp) ?_
 ·rintro i S oE ⟨⟨f13,f14,f15⟩,nN,f0,⟨b1,b2⟩,zT,ot⟩;have hlen:=JJ l.length l i oE;by_cases gY:i<l.length
  ·have bL:(i:Int)<l.length:=by omega
   have ie:=nd i (by omega);have hvi:=hv i gY;obtain⟨⟨ct,cv,cr,co⟩,sw⟩: ∃x,l[i]=x:=⟨_,rfl⟩;have up:=NU l.length gY;rw[sw]at up hvi;have pW:=JI ⟨ct,cv,cr,co⟩;obtain⟨C,hC⟩: ∃C,xH l.length l i=C:=⟨_,rfl⟩;rw[hC]at f0 zT hlen up;have XZ:(es++C.map (V.int .u8)).length=m+C.length:=by simp[hl]
   have n4: ¬S.n=nN:=by omega
   have n5: ∀j,¬S.n+j=nN:=fun j=>by omega
   have n6: ¬nN=S.n:=by omega
   have n7: ∀j,¬nN=S.n+j:=fun j=>by omega
   have cc: ∀H:bh,H nN=some ⟨1,es++C.map (V.int .u8),false⟩-> ∃w h' k',cL X 270 [.cu nN 0 (m+C.length),KKx ct cv cr co] H (S.n+9)=some (w,h',k')/\aut H (S.n+9) nN ((es++C.map (V.int .u8))++(wy ⟨ct,cv,cr,co⟩).map (V.int .u8)) w h' k':=fun H hH=>auu [] ct cv cr co H (S.n+9) nN (m+C.length) (es++C.map (V.int .u8)) hH XZ (by omega) (by omega) hvi;simp[aaE,f13,f14,f15,f0,gY,bL,sw,Canon.bS];obtain⟨w,h',k',e,idn,rfl,⟨c1,c2⟩,aq1,bca⟩:=cc (aR (aR S.h (S.n+3) (some ⟨4,[KKx 0 0 0 0],true⟩)) (S.n+3) (some ⟨4,[KKx ct cv cr co],true⟩)) (by simp[aR,n7,zT]);rw[e];simp[f13,f14,f15,ie];refine⟨idn,?_,?_,?_,?_⟩
   ·rw[up];simp[hl]
   ·omega
   ·rw[aq1,up];simp
   ·intro j h1 h2;rw[bca j (by omega) (by omega)];have q1: ¬j=S.n+3:=by omega
    simp[aR,q1];exact ot j h1 h2
  ·have hei:i=l.length:=by omega
   subst hei;simp[aaE,f14,f15,f0];exact⟨nN,by simp[hl],by omega,zT,ot⟩
 ·simp;refine⟨k+6,by rw[hz];simp,by omega,by rw[hz];simp,?_⟩;intro j h1 h2;have q1: ¬j=k+6:=by omega
  simp[q1,h2]
end Go.Proofs.YtdngefmliibcgaaGreat
