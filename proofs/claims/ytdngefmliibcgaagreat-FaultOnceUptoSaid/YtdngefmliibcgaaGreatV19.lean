/- part -/
import Derived.Test.YtdngefmliibcgaaGreatV18
set_option linter.all false
set_option maxRecDepth 20000
set_option maxHeartbeats 20000000
namespace Go.Proofs.YtdngefmliibcgaaGreat
open Go Go.Abs Go.Abs.kI Qf
variable  {x:Canon}{c:Cell}{pc v d d':Int}{p:Prog}{f:cS}
def WS(v:Int):List Int:=[IntKind.u8.wrap (v.fdiv 256),IntKind.u8.wrap v]
def be6(v:Int):List Int:=[IntKind.u8.wrap (v.fdiv 1099511627776),IntKind.u8.wrap (v.fdiv 4294967296),IntKind.u8.wrap (v.fdiv 16777216),IntKind.u8.wrap (v.fdiv 65536),IntKind.u8.wrap (v.fdiv 256),IntKind.u8.wrap v]
def wD(x:Canon):List Int:=if x.tag=1 then x.tag::IntKind.u8.wrap (x.region+1)::WS x.offset else x.tag::0::WS x.val
def aln(h:x.tag=1):wD x=[1,IntKind.u8.wrap (x.region+1),IntKind.u8.wrap (x.offset.fdiv 256),IntKind.u8.wrap x.offset]:=by unfold wD WS;rw[if_pos h,h]
def alo(h: ¬x.tag=1):wD x=[x.tag,0,IntKind.u8.wrap (x.val.fdiv 256),IntKind.u8.wrap x.val]:=by unfold wD WS;rw[if_neg h]
def u5(l:List Canon):List Int:=IntKind.u8.wrap l.length::l.flatMap wD
def J6(x:Canon):(wD x).length=4:=by unfold wD WS;split<;>rfl
def xP(n:Int)(l:List Canon)(i:Nat):List Int:=IntKind.u8.wrap n::(l.take i).flatMap wD
def Oq(n:Int){l:List Canon}{i:Nat}(h:i<l.length):xP n l (i+1)=xP n l i++wD l[i]:=by
 unfold xP;rw[fD h,List.flatMap_append];simp
def Ot(n:Int):IntKind.u8.wrap (IntKind.i64.wrap n)=IntKind.u8.wrap n:=by
 simp only[IntKind.wrap,IntKind.signed,IntKind.bits,acF,aer];simp;split<;>omega
def J7(n:Int)(l:List Canon)(i:Nat)(h:i<=l.length):(xP n l i).length=1+4*i:=by
 induction i with
 |zero=>simp[xP]
 |succ i ih=>rw[Oq n (by omega),aaY,ih (by omega),J6];omega
def Sk(n:Int)(l:List Canon):xP n l 0=[IntKind.u8.wrap n]:=by simp[xP]
def J8(l:List Canon):xP l.length l l.length=u5 l:=by simp[xP,u5]
def Dd(l:List Canon):(u5 l).length=1+4*l.length:=by rw[<-J8,J7 _ _ _ (aaI _)]
def xq(r:Request):List Int:=(((([IntKind.u8.wrap r.dd,IntKind.u8.wrap r.stop,IntKind.u8.wrap r.dr]++be6 r.count)++ [IntKind.u8.wrap r.pc,IntKind.u8.wrap r.call])++u5 r.args)++u5 r.data)
def ph(r:Request):List Int×Int:=if lk r=true then(xq r,0) else([],1)
def bav(l:List Int):Int:=l.foldl (fun v c=>v*256+c) 0
def lL(l:List Int):Prop:= ∀x∈l,0<=x/\x<=255
def lL.drop{l:List Int}(h:lL l)(k:Nat):lL (l.drop k):=fun x hx=>h x (abB hx)
def lL.take{l:List Int}(h:lL l)(k:Nat):lL (l.take k):=fun x hx=>h x (aaS hx)
def rdN(r:Reader)(k:Nat):Reader:=if r.b.length<k then⟨[],true⟩ else⟨r.b.drop k,r.short⟩
def rdV(r:Reader)(k:Nat):Int:=if r.b.length<k then 0 else bav (r.b.take k)
def clR(r:Reader):Reader:=rdN (rdN (rdN r 1) 1) 2
def clT(r:Reader):Int:=IntKind.u8.wrap (rdV r 1)
def clC(r:Reader):Canon:=if clT r=1 then⟨1,0,rdV (rdN r 1) 1-1,rdV (rdN (rdN r 1) 1) 2⟩ else⟨clT r,IntKind.u16.wrap (rdV (rdN (rdN r 1) 1) 2),0,0⟩
def clB(r:Reader):Bool:=decide (clT r=1)||decide (rdV (rdN r 1) 1=0)
def aqa:Nat->Reader×List Canon×Bool->Reader×List Canon×Bool
 |0,s=>s
 |k+1,s=>if s.1.short=true then s else aqa k (clR s.1,s.2.1++ [clC s.1],s.2.2&&clB s.1)
def Sg(r:Reader):Reader×List Canon×Bool:=aqa (rdV r 1).toNat (rdN r 1,[],true)
def DY(n:Int):IntKind.u8.wrap n=n % 256:=by
 simp[IntKind.wrap,IntKind.signed,IntKind.bits]
def Ou{a b:Nat}(ha:a<65536)(hb:b<65536):Go.Abs.bits .u16 .xor (a:Int) (b:Int)=((a^^^b:Nat):Int):=by
 show IntKind.u16.wrap (((BitVec.ofInt 16 (a:Int)^^^BitVec.ofInt 16 (b:Int)).toNat:Nat):Int)=_;rw[BitVec.ofInt_natCast,BitVec.ofInt_natCast,BitVec.toNat_xor,BitVec.toNat_ofNat,BitVec.toNat_ofNat,adF (by omega),adF (by omega)];have:=acJ (n:=16) (x:=a) (y:=b) (by omega) (by omega);exact wrap_u16 (by omega)
def a1h(v:Int): ∃j:Nat,j<16/\pw (v % 16)=((2^j:Nat):Int)/\2^j<65536:=by
 obtain⟨j,e,h⟩:=sA v (n:=16) (by omega);have e':v % 16=(j:Int):=e;refine⟨j,h,by rw[e',GY];push_cast;rfl,?_⟩;exact Nat.pow_lt_pow_right (by omega) h
def aen(b:List Int)(f:cS):(Au b f).length=b.length:=by unfold Au;split<;>simp
def aub{b:List Int}(h:lL b)(f:cS):lL (Au b f):=by
 unfold Au;split
 ·intro x hx;rcases aaX hx with hx|rfl
  ·exact h x hx
  ·unfold Go.Abs.bits;simp only;rw[DY];omega
 ·exact h
def De(a p:Nat):a^^^ (a^^^p)=p:=by rw[<-Nat.xor_assoc,adS,Nat.zero_xor]
def auc(a j:Nat):a^^^2^j≠a:=by
 intro h;have:a^^^ (a^^^2^j)=a^^^a:=by rw[h]
 rw[De,adS]at this;have:=ae0 j;omega
def qm(f:cS):Nat:=(f.dd % 4).toNat
def I6(f:cS):Nat:=(f.nV % 8).toNat
def qS(f:cS):Nat:=(f.nV % 16).toNat
def a4k(p:Prog)(f:cS):BI:=(oJ p.an (f.nV % total p.an) 0).1
def Hu(p:Prog)(m:aO)(f:cS):Nat:=(nth m.layout.aD (a4k p f).region.toNat+(a4k p f).offset).toNat
def pj(c:Cell)(b:Int):Cell:=⟨c.tag,uZ c.val b⟩
def EE(c:Cell)(b:Int):Cell:=⟨(c.tag+1+b % 2) % 3,c.val⟩
def Yy(pc b:Int):Int:=Go.Abs.bits .i64 .xor pc (pw (b % 6))
def Bg(x:Thread)(r:Nat)(c:Cell):Thread:=⟨x.state,x.bp.set r c,x.pc,x.count,x.cp,x.saved,x.dr,x.code⟩
def pcT(x:Thread)(pc:Int):Thread:=⟨x.state,x.bp,pc,x.count,x.cp,x.saved,x.dr,x.code⟩
def Uw(x:Thread)(r:Nat):Cell:=x.bp.getD r ⟨0,0⟩
def SX(m:aF)(a:Nat)(b:Int):aF:=⟨m.cells.set a (pj (m.cells.getD a ⟨0,0⟩) b),m.lines⟩
def LP(m:aF)(w:Nat)(b:Int):aF:=
 if(dg m (w/4)).tag= -1 then m else⟨m.cells,m.lines.set (w/4) ⟨(dg m (w/4)).tag,(dg m (w/4)).iW,(dg m (w/4)).cells.set (w % 4) (pj ((dg m (w/4)).cells.getD (w % 4) ⟨0,0⟩) b)⟩⟩
def mY(p:Prog)(m:aO)(f:cS):aO:=
 if f.kind=1 then iZ m m.memory (qm f) (Bg (bV m (qm f)) (I6 f) (pj (Uw (bV m (qm f)) (I6 f)) f.bit))
 else if f.kind=2 then iZ m m.memory (qm f) (Bg (bV m (qm f)) (I6 f) (EE (Uw (bV m (qm f)) (I6 f)) f.bit))
 else if f.kind=3 then iZ m m.memory (qm f) (pcT (bV m (qm f)) (Yy (bV m (qm f)).pc f.bit))
 else if f.kind=4 then⟨m.layout,SX m.memory (Hu p m f) f.bit,m.threads⟩
 else if f.kind=5 then⟨m.layout,LP m.memory (qS f) f.bit,m.threads⟩
 else m
def oK(p:Prog)(m:aO)(f:cS):aO:=if pP f=true/\jU p m=true then mY p m f else m
def LQ(f:cS):qm f<4:=by unfold qm;omega
def am9(f:cS):I6 f<8:=by unfold I6;omega
def LR(f:cS):qS f<16:=by unfold qS;omega
def agb(v b:Int):0<=uZ v b/\uZ v b<=65535:=by
 unfold uZ Go.Abs.bits;exact D9 _
def Hv(h:iz c)(b:Int):iz (pj c b):=⟨h.1,agb _ _⟩
def ana(h:iz c)(b:Int):iz (EE c b):=⟨by unfold EE;simp only;omega,h.2⟩
def Pc{a b:Nat}(ha:a<256)(hb:b<256):Go.Abs.bits .i64 .xor (a:Int) (b:Int)=((a^^^b:Nat):Int):=by
 show IntKind.i64.wrap (((BitVec.ofInt 64 (a:Int)^^^BitVec.ofInt 64 (b:Int)).toNat:Nat):Int)=_;rw[BitVec.ofInt_natCast,BitVec.ofInt_natCast,BitVec.toNat_xor,BitVec.toNat_ofNat,BitVec.toNat_ofNat,adF (by omega),adF (by omega)];have:=acJ (n:=8) (x:=a) (y:=b) (by omega) (by omega);exact wrap_i64 (by omega)
def pw6(v:Int): ∃j:Nat,j<6/\pw (v % 6)=((2^j:Nat):Int)/\2^j<256:=by
 obtain⟨j,e,h⟩:=sA v (n:=6) (by omega);have e':v % 6=(j:Int):=e;refine⟨j,h,by rw[e',GY];push_cast;rfl,?_⟩;have:j=0\/j=1\/j=2\/j=3\/j=4\/j=5:=by omega
 rcases this with rfl|rfl|rfl|rfl|rfl|rfl<;>decide
def Ux{a:Nat}(ha:a<256)(b:Int): ∃j,j<6/\2^j<256/\Yy (a:Int) b=((a^^^2^j:Nat):Int):=by
 obtain⟨j,hj,e,yb⟩:=pw6 b;exact⟨j,hj,yb,by unfold Yy;rw[e,Pc ha yb]⟩
def avs(h:0<=pc/\pc<=255)(b:Int):0<=Yy pc b/\Yy pc b<=255:=by
 obtain⟨a,rfl⟩:=aaG h.1;obtain⟨j,hj,yb,e⟩:=Ux (a:=a) (by omega) b;have:=acJ (n:=8) (x:=a) (y:=2^j) (by omega) (by omega);rw[e];omega
def Pd(h:0<=v/\v<=65535)(b:Int):uZ (uZ v b) b=v:=by
 obtain⟨a,rfl⟩:=aaG h.1;obtain⟨j,hj,e,yb⟩:=a1h b;unfold uZ;have:=acJ (n:=16) (x:=a) (y:=2^j) (by omega) (by omega);rw[e,Ou (by omega) yb,Ou (by omega) yb,Nat.xor_assoc,adS,Nat.xor_zero]
def anb(h:0<=v/\v<=255)(b:Int):Yy (Yy v b) b=v:=by
 obtain⟨a,rfl⟩:=aaG h.1;obtain⟨j,hj,e,yb⟩:=pw6 b;unfold Yy;have:=acJ (n:=8) (x:=a) (y:=2^j) (by omega) (by omega);rw[e,Pc (by omega) yb,Pc (by omega) yb,Nat.xor_assoc,adS,Nat.xor_zero]
def zv(h:iz c)(b:Int):pj (pj c b) b=c:=by
 unfold pj;simp only;rw[Pd h.2]
def Uy{x:Thread}(h:ep d x)(hc:iz c)(r:Nat):ep d (Bg x r c):=
 ⟨h.state,by simp[Bg,h.bp],h.cells.set hc r,h.pc,h.count,h.cp,h.saved,h.dr,h.code⟩
def avt{x:Thread}(h:ep d x)(hc:0<=pc/\pc<=255):ep d (pcT x pc):=
 ⟨h.state,h.bp,h.cells,hc,h.count,h.cp,h.saved,h.dr,h.code⟩
def Uz{m:aF}(h:qi m)(a:Nat)(b:Int):qi (SX m a b):=by
 have hc:=h.cells.set (Hv (h.cells.getD a) b) a;have hm:=h.mem;exact⟨⟨by simp[SX,hm.len],hm.lines,hc.gm,hm.line⟩,hc,h.line⟩
def UA{m:aF}(h:qi m)(w:Nat)(b:Int):qi (LP m w b):=by
 unfold LP;split
 ·exact h
 rename_i ht;have hm:=h.mem;have hl:=h.line (w/4);have hc:ed ((dg m (w/4)).cells.set (w % 4) (pj ((dg m (w/4)).cells.getD (w % 4) ⟨0,0⟩) b)):=hl.set (Hv (hl.getD _) b) _;refine⟨⟨hm.len,by simp[hm.lines],hm.cells,fun i hi=> ?_⟩,h.cells,fun i=> ?_⟩
 ·simp only[aaN]at hi;simp only[abA];split
  ·rename_i e;subst e;have hp:=hm.line _ hi;rw[<-fJ hi]at hp;exact⟨fun e=>absurd e ht,fun e=>by have:=hp.some e;simp only[aaN];exact this,hc.gm⟩
  ·exact hm.line i hi
 ·rw[A0 _ m.cells];split
  ·exact hc
  ·exact h.line i
def XG{m:aO}(H:cT p d m)(hd:d<=d')(hb:1000000<d')(f:cS):cT p d' (mY p m f):=by
 have hT:=LQ f;have g:=H.bV hT;have no: ∀mem:aF,d'<=1000000->Ab (GO m.layout.aD p.an) mem:=fun _ h=>by omega
 unfold mY;split
 ·exact uW H hd H.mem (no _) ((Uy g (Hv (g.cells.getD _) _) _).mono hd)
 split
 ·exact uW H hd H.mem (no _) ((Uy g (ana (g.cells.getD _) _) _).mono hd)
 split
 ·exact uW H hd H.mem (no _) ((avt g (avs g.pc _)).mono hd)
 split
 ·exact⟨H.prog,H.lay,H.key,Uz H.mem _ _,H.len,fun i hi=>(H.pe i hi).mono hd,no _⟩
 split
 ·exact⟨H.prog,H.lay,H.key,UA H.mem _ _,H.len,fun i hi=>(H.pe i hi).mono hd,no _⟩
 ·exact H.mono hd
def I7(r:aO)(v:V)(h:bh):Prop:= ∃vB C L T ids bw k0,v=jE vB C L T r/\gX h k0 vB C L T ids bw r
def I7.bU{g:FuncId}{args:List V}{r:aO}(H: ∃v h k,cL X g args pK 0=some (v,h,k)/\I7 r v h):bU X g args=some (.agg (mo r)):=by
 obtain⟨v,h,k,e1,vB,C,L,T,ids,bw,k0,rfl,HA⟩:=H;have e2:rM X (cL X) g args=some (jE vB C L T r,h,k):=e1;have:=HA.eu 6;unfold Go.Abs.bU;rw[e2];simp only[depth];simp[this,V.lP,G1]
section
variable {h h':bh} {k C L T:Nat} {vB:V} {ids bw:Nat->Nat} {m:aO}
theorem gX.a4l(H:gX h k vB C L T ids bw m){a:Nat}(hA:oP a vB C L T ids bw)(hh: ∀i,a<=i->i<k->i≠C->(∀j,j<4->i≠ids j)->h' i=h i):
  vB= .sl false (m.layout.aD.map (V.int .i64))\/ ∃B,vB= .cx B 0 m.layout.aD.length/\h' B=some ⟨1,m.layout.aD.map (V.int .i64),false⟩/\(B≠C/\B≠L/\B≠T/\B<k)/\(∀j,j<4->ids j≠B)/\ ∀i,i<4->bw i≠B:=by
 rcases H.aD with e|⟨B,e,g1,g2,g3,g4⟩
 ·exact .inl e
 ·exact .inr ⟨B,e,by rw[hh _ (hA.2.2 _ _ _ e) g2.2.2.2 g2.1 fun j hj e=>g3 j hj e.symm,g1],g2,g3,g4⟩
theorem gX.cells(H:gX h k vB C L T ids bw m){a:Nat}(hA:oP a vB C L T ids bw){cs:List Cell}(hp:ud ⟨cs,m.memory.lines⟩)(hC:h' C=some ⟨2,cs.map Cell.e,false⟩)(hh: ∀i,a<=i->i<k->i≠C->h' i=h i):gX h' k vB C L T ids bw ⟨m.layout,⟨cs,m.memory.lines⟩,m.threads⟩:=by
 have hl:=H.len;have sE:=H.mp.lines;refine⟨hp,⟨hC,?_,fun i g=> ?_⟩,H.sep,H.lt,H.a4l hA fun i h1 h2 h3 _=>hh i h1 h2 h3,?_,fun i g=> ?_,hl,H.xr,H.Sm,H.qR,H.T7,H.Ka⟩
 ·rw[hh _ hA.1.2.1 H.lt.2.1 (aaU H.sep.cl)];exact H.mem.lines
 ·have hi:i<4:=by simp only at g;omega
  rw[hh _ (hA.2.1 i hi).1 (H.lt.2.2 i hi) (H.sep.ci i hi)];exact H.mem.line i g
 ·rw[hh _ hA.1.2.2 H.xr.2.2 H.xr.1];exact H.pe
 ·have hi:i<4:=by simp only at g;omega
  rw[hh _ (hA.2.1 i hi).2 (H.qR i hi).2.2.2 (H.qR i hi).1];exact H.G0 i g
theorem gX.a4m (H:gX h k vB C L T ids bw m) {a:Nat} (hA:oP a vB C L T ids bw) {r:Nat} (hr:r<m.memory.lines.length) {x:cw} (e1:x.tag=(m.memory.lines[r]).tag) (e2:x.iW=(m.memory.lines[r]).iW) (e3:x.cells.length=(m.memory.lines[r]).cells.length)
  (hp:ud ⟨m.memory.cells,m.memory.lines.set r x⟩) (hC:h' (ids r)=some ⟨2,x.cells.map Cell.e,false⟩) (hh: ∀i,a<=i->i<k->i≠ids r->h' i=h i):gX h' k vB C L T ids bw ⟨m.layout,⟨m.memory.cells,m.memory.lines.set r x⟩,m.threads⟩:=by
 have hl:=H.len;have sE:=H.mp.lines;have r4:r<4:=by omega
 have hL:=H.mem.lines;refine⟨hp,⟨?_,?_,fun i g=> ?_⟩,H.sep,H.lt,?_,?_,fun i g=> ?_,hl,H.xr,H.Sm,H.qR,H.T7,H.Ka⟩
 ·rw[hh _ hA.1.1 H.lt.1 (aaU (H.sep.ci r r4))];exact H.mem.cells
 ·rw[hh _ hA.1.2.1 H.lt.2.1 (aaU (H.sep.li r r4)),hL,<-yU hr,e1,e2,e3,<-jN hr (by rw[jh];exact hr),abS]
 ·simp only[aaN]at g;have hi:i<4:=by omega
  simp only[abA];split
  ·rename_i e;subst e;exact hC
  ·rename_i e;rw[hh _ (hA.2.1 i hi).1 (H.lt.2.2 i hi) (H.sep.ii i r hi r4 (fun h=>e h.symm))];exact H.mem.line i g
 ·rcases H.aD with e|⟨B,e,g1,g2,g3,g4⟩
  ·exact .inl e
  ·exact .inr ⟨B,e,by rw[hh _ (hA.2.2 _ _ _ e) g2.2.2.2 (aaU (g3 r r4)),g1],g2,g3,g4⟩
 ·rw[hh _ hA.1.2.2 H.xr.2.2 (aaU (H.Sm r r4))];exact H.pe
 ·have hi:i<4:=by simp only at g;omega
  rw[hh _ (hA.2.1 i hi).2 (H.qR i hi).2.2.2 (aaU (H.T7 i r hi r4))];exact H.G0 i g
end
def Az{ids:Nat->Nat}{l:List Thread}{n:Nat}(h:n<l.length)(r:Nat)(c:Cell):cG ids (l.set n (Bg l[n] r c))=cG ids l:=by
 rw[<-iK h];have:dM ids n (Bg l[n] r c)=(cG ids l)[n]'(by rw[fA];exact h):=by rw[fY h];simp[dM,Bg]
 rw[this,abS]
def Bh: ∀(l:List Int) (i:Int) (r:Nat),(∀x∈l,1<=x)->0<=i->i<total l-> ∃(k:Nat) (hk:k<l.length),(oJ l i r).1.region=((r+k:Nat):Int)/\0<=(oJ l i r).1.offset/\(oJ l i r).1.offset<l[k]
 | [],i,r,_,h0,h1=>by simp[total]at h1;omega
 |x::l,i,r,hx,h0,h1=>by
  have ht:total (x::l)=x+total l:=by
   have g: ∀(l:List Int) (a:Int),l.foldl (· + ·) a=a+l.foldl (· + ·) 0:=by
    intro l;induction l with
    |nil=>simp
    |cons b l ih=>intro a;rw[aeF,aeF,ih,ih (0+b)];omega
   unfold total;rw[aeF,g];omega
  rw[ht]at h1;rw[oJ];by_cases h:0<=i/\i<x
  ·rw[if_pos h];exact⟨0,by simp,by simp,h.1,by simpa using h.2⟩
  ·rw[if_neg h];obtain⟨k,hk,e1,e2,e3⟩:=Bh l (i-x) (r+1) (fun y hy=>hx y (by simp[hy])) (by omega) (by omega);exact⟨k+1,by simp;omega,by rw[e1];congr 1;omega,e2,by simpa using e3⟩
def bdo{t b:Int}(ht:0<=t/\t<=2)(hb:0<=b/\b<=1):(t+1+b).tmod 3=(t+1+b) % 3:=aaK (by omega)
def a4n: ∀k,k<6->IntKind.i64.wrap ((2:Int)^k)=2^k:=by decide+kernel
def XJ{m:aO}(hf:pP f=true)(hv:jU p m=true):oK p m f=mY p m f:=if_pos ⟨hf,hv⟩
def XK{m:aO}(hf: ¬pP f=true):oK p m f=m:=if_neg fun h=>hf h.1
@[simp]def jW(ax:List Instr)(ae:List Int)(ay:List (List Int))(aa:List Int)(aq:Int)(ak:List Cell)(ah:List cw)(au:List Thread)(kX gA kB ir eP ja d:Int)(HG:cT (Prog.mk ax ae ay) d (aO.mk (Layout.mk aa aq) (aF.mk ak ah) au))(hd:d<=1099511627776):bU X 46 [KKQ ax ae ay,KKY aa aq ak ah au,.agg [.int .i64 kX,.int .i64 gA,.int .i64 kB,.int .i64 ir,.int .i64 eP,.int .i64 ja]]=some ((KKK (oK (Prog.mk ax ae ay) (aO.mk (Layout.mk aa aq) (aF.mk ak ah) au) (cS.mk kX gA kB ir eP ja)):V)):=by
 have MG:=HG.mono hd;have hv:jU (Prog.mk ax ae ay) (aO.mk (Layout.mk aa aq) (aF.mk ak ah) au)=true:=MG.ok;have hp:=HG.prog.lens;have sE:=HG.lens;have hl:au.length=4:=HG.len;have hz:=HG.lay.sz;have hL:=HG.lay;simp only at hz hL;obtain⟨v1,h1,k1,eC,ek,ev,HA,HB⟩:=Ua aa aq ak ah au 8 (Prog.mk ax ae ay) _ MG;subst ek;subst ev;simp only[Nat.reduceAdd]at eC HA HB;by_cases hf:pP (cS.mk kX gA kB ir eP ja)=true
 case neg=>
  rw[XK hf];have X5:pP (cS.mk kX gA kB ir eP ja)=false:=by simpa using hf
  refine I7.bU (aaB ?_);simp[X5,eC,hl,ji,jI];refine⟨_,30,31,194,_,_,_,?_,HA.mono HB (aaI _) fun i a b=> ?_⟩
  ·unfold jE;rw[show(aO.threads (aO.mk (Layout.mk aa aq) (aF.mk ak ah) au)).length=4 from hl]
  ·have c1: ¬i<8:=by omega
   have c2: ¬i=6:=by omega
   have c3: ¬i=3:=by omega
   simp[aR,c1,c2,c3]
 rw[XJ hf hv];obtain⟨n,en,n4⟩:=sA ir (n:=4) (by omega);obtain⟨r,er,r8⟩:=sA eP (n:=8) (by omega);have en':ir % 4=n:=en;have er':eP % 8=r:=er;have eT:qm (cS.mk kX gA kB ir eP ja)=n:=by unfold qm;simp only;rw[en'];rfl
 have eR:I6 (cS.mk kX gA kB ir eP ja)=r:=by unfold I6;simp only;rw[er'];rfl
 have nl:n<au.length:=by omega
 have Ct:(n:Int)<4:=by omega
 have r8i:(r:Int)<8:=by omega
 have IV:=(MG.pe n nl).bp;have N1:=(MG.pe n nl).cells;have Cn:=(MG.pe n nl).pc;simp only at IV N1 Cn;have rl:r<(au[n]).bp.length:=by omega
 have rI:bV (aO.mk (Layout.mk aa aq) (aF.mk ak ah) au) n=au[n]:=iq nl;have FL:Uw au[n] r=(au[n]).bp[r]:=by unfold Uw;simp[List.getD,rl]
 have W3:=N1 _ (aaL rl);have pT:=HA.pe;have pR:=HA.G0 n nl;simp only at pT pR;have Cr:=fA (qW 129 149 169 189) au;rw[hl]at Cr;have gg:=fY (ids:=qW 129 149 169 189) nl;have a1:=(HB.2.1 n n4).2;have a2:=HA.qR n n4;obtain⟨I,hI⟩: ∃I,qW 129 149 169 189 n=I:=⟨_,rfl⟩;rw[hI]at pR a1 a2;simp only[hI]at gg;have b0: ∀j,j<8->(I=j)=False:=fun j _=>by simp;omega
 have b0': ∀j,j<8->(j=I)=False:=fun j _=>by simp;omega
 have b2:(I=194)=False:=by simp;exact a2.2.2.1
 have b2':(194=I)=False:=by simp;exact fun e=>a2.2.2.1 e.symm
 have b3: ¬I<8:=by omega
 have fb:1<=kB/\kB<=6:=by
  unfold pP at hf;simp only[aaF,decide_eq_true_eq]at hf;omega
 have hk:kB=1\/kB=2\/kB=3\/kB=4\/kB=5\/kB=6:=by omega
 obtain⟨xt,xv⟩: ∃xt:Int,∃xv:Int,(au[n]).bp[r]=⟨xt,xv⟩:=⟨_,_,rfl⟩;obtain⟨xv,hxc⟩:=xv;rw[hxc]at FL W3;rcases hk with rfl|rfl|rfl|rfl|rfl|rfl
 ·have eA:mY (Prog.mk ax ae ay) (aO.mk (Layout.mk aa aq) (aF.mk ak ah) au) ⟨kX,gA,1,ir,eP,ja⟩=iZ (aO.mk (Layout.mk aa aq) (aF.mk ak ah) au) (aO.memory (aO.mk (Layout.mk aa aq) (aF.mk ak ah) au)) n (Bg au[n] r (pj ⟨xt,xv⟩ ja)):=by
   unfold mY;rw[if_pos rfl,eT,eR,rI,FL]
  rw[eA];refine I7.bU (aaB ?_);simp[hp,sE,hv,hf,eC,hl,ji,jI,en',er',n4,Ct,r8,r8i,pT,pR,Cr,gg,IV,hxc,b3,Cell.bS,b0' 3 (by omega),b0 6 (by omega),b0' 6 (by omega)];refine⟨_,30,31,194,_,_,_,?_,HA.put HB (aaI _) n4 (x:=Bg au[n] r (pj ⟨xt,xv⟩ ja)) ?_ ?_ ?_⟩
  ·unfold jE;rw[show(iZ (aO.mk (Layout.mk aa aq) (aF.mk ak ah) au) (aO.memory (aO.mk (Layout.mk aa aq) (aF.mk ak ah) au)) n (Bg au[n] r (pj ⟨xt,xv⟩ ja))).threads.length=4 by simp[iZ,hl]];rfl
  ·rw[Az nl];simp[aR,b2',pT]
  ·rw[hI];simp[aR,Bg,pj,b0 3 (by omega),abO,Cell.bS]
  ·intro i a b c4 c5;have c1: ¬i<8:=by omega
   have c2: ¬i=6:=by omega
   have c3: ¬i=3:=by omega
   have c6: ∀j,202<=j->(i=j)=False:=fun j _=>by simp;omega
   rw[hI]at c5;simp[aR,c1,c2,c3,c5]
 ·have eA:mY (Prog.mk ax ae ay) (aO.mk (Layout.mk aa aq) (aF.mk ak ah) au) ⟨kX,gA,2,ir,eP,ja⟩=iZ (aO.mk (Layout.mk aa aq) (aF.mk ak ah) au) (aO.memory (aO.mk (Layout.mk aa aq) (aF.mk ak ah) au)) n (Bg au[n] r (EE ⟨xt,xv⟩ ja)):=by
   unfold mY;rw[if_neg (by simp),if_pos rfl,eT,eR,rI,FL]
  rw[eA];obtain⟨bb,eb,bb2⟩:=sA ja (n:=2) (by omega);have eb':ja % 2=bb:=eb;have ht:=W3.1;simp only at ht;have t3:=bdo (t:=xt) (b:=bb) ht (by omega);have wb:IntKind.u8.wrap (bb:Int)=bb:=wrap_u8 (by omega);have w1:IntKind.u8.wrap (xt+1)=xt+1:=wrap_u8 (by omega);have w2:IntKind.u8.wrap (xt+1+bb)=xt+1+bb:=wrap_u8 (by omega);have w3:IntKind.i64.wrap xt=xt:=wrap_i64 (by omega);have w4:IntKind.i64.wrap (xt+1)=xt+1:=wrap_i64 (by omega);have w5:IntKind.i64.wrap (xt+1+bb)=xt+1+bb:=wrap_i64 (by omega);have w6:IntKind.u8.wrap ((xt+1+bb) % 3)=(xt+1+bb) % 3:=wrap_u8 (by omega);have et:EE ⟨xt,xv⟩ ja=⟨(xt+1+bb) % 3,xv⟩:=by unfold EE;simp only;rw[eb']
  refine I7.bU (aaB ?_);simp[hp,sE,hv,hf,eC,hl,ji,jI,en',er',n4,Ct,r8,r8i,pT,pR,Cr,gg,IV,hxc,b3,Cell.bS,b0' 3 (by omega),b0 6 (by omega),b0' 6 (by omega),eb',t3,wb,w1,w2];refine⟨_,30,31,194,_,_,_,?_,HA.put HB (aaI _) n4 (x:=Bg au[n] r (EE ⟨xt,xv⟩ ja)) ?_ ?_ ?_⟩
  ·unfold jE;rw[show(iZ (aO.mk (Layout.mk aa aq) (aF.mk ak ah) au) (aO.memory (aO.mk (Layout.mk aa aq) (aF.mk ak ah) au)) n (Bg au[n] r (EE ⟨xt,xv⟩ ja))).threads.length=4 by simp[iZ,hl]];rfl
  ·rw[Az nl];simp[aR,b2',pT]
  ·rw[hI];simp[aR,Bg,et,b0 3 (by omega),abO,Cell.bS]
  ·intro i a b c4 c5;have c1: ¬i<8:=by omega
   have c2: ¬i=6:=by omega
   have c3: ¬i=3:=by omega
   have c6: ∀j,202<=j->(i=j)=False:=fun j _=>by simp;omega
   rw[hI]at c5;simp[aR,c1,c2,c3,c5]
 ·obtain⟨bb,eb,bb2⟩:=sA ja (n:=6) (by omega);have eb':ja % 6=bb:=eb;have hps:=a4n bb bb2;have hm:min bb 64=bb:=by omega
  have bdp:IntKind.i64.bits=64:=rfl;have X6: ¬(bb:Int)<0:=by omega
  have wu:IntKind.u64.wrap (bb:Int)=bb:=wrap_u64 (by omega);have ex:Yy (au[n]).pc ja=Go.Abs.bits .i64 .xor (au[n]).pc (2^bb):=by unfold Yy;rw[eb',GY]
  have eA:mY (Prog.mk ax ae ay) (aO.mk (Layout.mk aa aq) (aF.mk ak ah) au) ⟨kX,gA,3,ir,eP,ja⟩=iZ (aO.mk (Layout.mk aa aq) (aF.mk ak ah) au) (aO.memory (aO.mk (Layout.mk aa aq) (aF.mk ak ah) au)) n (pcT au[n] (Yy (au[n]).pc ja)):=by
   unfold mY;rw[if_neg (by simp),if_neg (by simp),if_pos rfl,eT,rI]
  rw[eA,ex];refine I7.bU (aaB ?_);simp[hp,sE,hv,hf,eC,hl,ji,jI,en',er',n4,Ct,r8i,pT,pR,Cr,gg,IV,b3,b0 6 (by omega),eb',hps,hm,bdp,X6];refine⟨_,30,31,194,_,_,_,?_,HA.put HB (aaI _) n4 (x:=pcT au[n] (Go.Abs.bits .i64 .xor (au[n]).pc (2^bb))) ?_ ?_ ?_⟩
  ·unfold jE;rw[show(iZ (aO.mk (Layout.mk aa aq) (aF.mk ak ah) au) (aO.memory (aO.mk (Layout.mk aa aq) (aF.mk ak ah) au)) n (pcT au[n] (Go.Abs.bits .i64 .xor (au[n]).pc (2^bb)))).threads.length=4 by simp[iZ,hl]];rfl
  ·rw[<-iK nl];simp[aR,dM,pcT,hI,IV]
  ·rw[hI];simp[aR,b2,b0 3 (by omega),b0 6 (by omega),b3,pcT,pR]
  ·intro i a b c4 c5;have c1: ¬i<8:=by omega
   have c2: ¬i=6:=by omega
   have c3: ¬i=3:=by omega
   have c6: ∀j,202<=j->(i=j)=False:=fun j _=>by simp;omega
   simp[aR,c1,c2,c3,c4]
 ·have ht:=Gn ae hz.elem;have z1:=hz.pos;have z2:=hz.le;have zl:ae.length<=1000:=by omega
  have zb: ∀x∈ae,0<=x/\x<=1000000:=fun x hx=>by
   obtain⟨i,hi,rfl⟩:=abE hx;have:=hz.elem i hi;omega
  have z1': ∀x∈ae,1<=x:=fun x hx=>by
   obtain⟨i,hi,rfl⟩:=abE hx;exact(hz.elem i hi).1
  have hTt:=GZ ae zl zb;have ht1:1<=total ae/\total ae<=4611686018427387904:=by omega
  have uH:=acD eP (show total ae≠0 by omega);have sU:=abW eP (show 0<total ae by omega);have hAt:=Oo ae (eP % total ae) hz ⟨uH,by omega⟩;obtain⟨kk,v7,e1,e2,e3⟩:=Bh ae (eP % total ae) 0 z1' uH sU;rw[acL]at e1;have eA:mY (Prog.mk ax ae ay) (aO.mk (Layout.mk aa aq) (aF.mk ak ah) au) ⟨kX,gA,4,ir,eP,ja⟩=⟨⟨aa,aq⟩,SX ⟨ak,ah⟩ (Hu (Prog.mk ax ae ay) (aO.mk (Layout.mk aa aq) (aF.mk ak ah) au) ⟨kX,gA,4,ir,eP,ja⟩) ja,au⟩:=by
   unfold mY;rw[if_neg (by simp),if_neg (by simp),if_neg (by simp),if_pos rfl]
  have eF:Hu (Prog.mk ax ae ay) (aO.mk (Layout.mk aa aq) (aF.mk ak ah) au) ⟨kX,gA,4,ir,eP,ja⟩=(nth aa (oJ ae (eP % total ae) 0).1.region.toNat+(oJ ae (eP % total ae) 0).1.offset).toNat:=rfl;obtain⟨⟨⟨sr,so⟩,se⟩,hs⟩: ∃x,oJ ae (eP % total ae) 0=x:=⟨_,rfl⟩;rw[hs]at hAt e1 e2 e3 eF;simp only at hAt e1 e2 e3 eF;subst e1;have U3:kk<aa.length:=by rw[hL.len];exact v7
  have H7:=hL.base kk U3 v7;have wL:inside ae kk so=true:=lj.2 ⟨kk,v7,rfl,e2,e3⟩;have hAd:=CP aa aq ae kk so hL.len (fun i h=>by have:=hL.base i h (hL.len▸h);have:=hz.elem i (hL.len▸h);omega) (fun i h=>by have:=hz.elem i h;omega);rw[if_pos wL,if_pos wL]at hAd;rw[aaH,dE U3]at hAd eF;obtain⟨A,hAA⟩:=aaG (show 0<=aa[kk]+so by omega);have hA5:A<512:=by omega
  rw[hAA]at hAd eF;rw[aaH]at eF;rw[eA,eF];have bds:(A:Int)<512:=by omega
  have pC:=HA.mem.cells;have XV:=MG.mem.mem.len;simp only at pC XV;have Al:A<ak.length:=by omega
  obtain⟨yt,yv⟩: ∃xt:Int,∃xv:Int,ak[A]=⟨xt,xv⟩:=⟨_,_,rfl⟩;obtain⟨yv,hyc⟩:=yv;have hg:ak.getD A ⟨0,0⟩=⟨yt,yv⟩:=by simp[List.getD,Al,hyc]
  have eM:SX ⟨ak,ah⟩ A ja=⟨ak.set A (pj ⟨yt,yv⟩ ja),ah⟩:=by unfold SX;simp only;rw[hg]
  have Ox:=Uz MG.mem A ja;rw[show(aO.memory (aO.mk (Layout.mk aa aq) (aF.mk ak ah) au))=⟨ak,ah⟩ from rfl,eM]at Ox;rw[eM];refine I7.bU (aaB ?_);simp[hp,sE,hv,hf,eC,hl,ji,jI,en',er',n4,Ct,r8i,pT,pR,Cr,gg,IV,b3,Cell.bS,b0 6 (by omega),ht1,hTt,hAt,hAd,pC,XV,hA5,bds,hyc];refine⟨_,30,31,194,_,_,_,?_,HA.cells HB Ox.mem ?_ ?_⟩
  ·unfold jE;simp only;rw[hl]
  ·simp[aR,pj,abO,Cell.bS]
  ·intro i a b c4;have c1: ¬i<8:=by omega
   have c2: ¬i=6:=by omega
   have c3: ¬i=3:=by omega
   have c6: ∀j,202<=j->(i=j)=False:=fun j _=>by simp;omega
   simp[aR,c1,c2,c3,c4,c6]
 ·obtain⟨w,ew,w16⟩:=sA eP (n:=16) (by omega);have ew':eP % 16=w:=ew;have eW:qS ⟨kX,gA,5,ir,eP,ja⟩=w:=by unfold qS;simp only;rw[ew'];rfl
  have eA:mY (Prog.mk ax ae ay) (aO.mk (Layout.mk aa aq) (aF.mk ak ah) au) ⟨kX,gA,5,ir,eP,ja⟩=⟨⟨aa,aq⟩,LP ⟨ak,ah⟩ w ja,au⟩:=by
   unfold mY;rw[if_neg (by simp),if_neg (by simp),if_neg (by simp),if_neg (by simp),if_pos rfl,eW]
  have hq:(w:Int).tdiv 4=((w/4:Nat):Int):=by rw[abD (by omega)];omega
  have Pz:(w:Int).tmod 4=((w % 4:Nat):Int):=by rw[aaK (by omega)];omega
  have hqw:IntKind.i64.wrap ((w/4:Nat):Int)=((w/4:Nat):Int):=wrap_i64 (by omega);obtain⟨u,hu⟩: ∃u,w/4=u:=⟨_,rfl⟩;obtain⟨t,htt⟩: ∃t,w % 4=t:=⟨_,rfl⟩;have u4:u<4:=by omega
  have t4:t<4:=by omega
  have u4i:(u:Int)<4:=by omega
  have t4i:(t:Int)<4:=by omega
  rw[hu]at hq hqw;rw[htt]at Pz;have jX:=MG.mem.mem.lines;simp only at jX;have ul:u<ah.length:=by omega
  have hLi:dg ⟨ak,ah⟩ u=ah[u]:=fJ ul;have hLP:=MG.mem.mem.line u ul;simp only at hLP;have pL:=HA.mem.lines;have pJ:=HA.mem.line u ul;simp only at pL pJ;have lle:=jh (qW 52 71 90 109) ah;rw[jX]at lle;have lg:=jN (ids:=qW 52 71 90 109) ul;have j1:=(HB.2.1 u u4).1;have j2:=HA.sep.li u u4;have j3:=HA.lt.2.2 u u4;obtain⟨J,hJ⟩: ∃J,qW 52 71 90 109 u=J:=⟨_,rfl⟩;rw[hJ]at pJ j1 j2 j3;simp only[hJ]at lg;have e0: ∀j,j<8->(J=j)=False:=fun j _=>by simp;omega
  have e0': ∀j,j<8->(j=J)=False:=fun j _=>by simp;omega
  have e3: ¬J<8:=by omega
  have e5: ∀j,202<=j->(J=j)=False:=fun j _=>by simp;omega
  rw[eA];by_cases ht:(ah[u]).tag= -1
  ·have eL:LP ⟨ak,ah⟩ w ja=⟨ak,ah⟩:=by unfold LP;rw[hu,hLi,if_pos ht]
   rw[eL];refine I7.bU (aaB ?_);simp[hp,sE,hv,hf,eC,hl,ji,jI,en',er',n4,Ct,r8i,pT,pR,Cr,gg,IV,b3,b0 6 (by omega),ew',hq,hqw,u4,u4i,pL,lle,lg,ht];refine⟨_,30,31,194,_,_,_,?_,HA.mono HB (aaI _) fun i a b=> ?_⟩
   ·unfold jE;simp only;rw[hl]
   ·have c1: ¬i<8:=by omega
    have c2: ¬i=6:=by omega
    have c3: ¬i=3:=by omega
    have c6: ∀j,202<=j->(i=j)=False:=fun j _=>by simp;omega
    simp[aR,c1,c2,c3,c6]
  ·have hc4:=(hLP.some ht).2.2.2;have tl:t<(ah[u]).cells.length:=by omega
   obtain⟨yt,yv⟩: ∃xt:Int,∃xv:Int,(ah[u]).cells[t]=⟨xt,xv⟩:=⟨_,_,rfl⟩;obtain⟨yv,hyc⟩:=yv;have hg:(ah[u]).cells.getD t ⟨0,0⟩=⟨yt,yv⟩:=by simp[List.getD,tl,hyc]
   have eL:LP ⟨ak,ah⟩ w ja=⟨ak,ah.set u ⟨(ah[u]).tag,(ah[u]).iW,(ah[u]).cells.set t (pj ⟨yt,yv⟩ ja)⟩⟩:=by
    unfold LP;rw[hu,htt,hLi,if_neg ht,hg]
   have Ox:=UA MG.mem w ja;rw[show(aO.memory (aO.mk (Layout.mk aa aq) (aF.mk ak ah) au))=⟨ak,ah⟩ from rfl,eL]at Ox;rw[eL];refine I7.bU (aaB ?_);simp[hp,sE,hv,hf,eC,hl,ji,jI,en',er',n4,Ct,r8i,pT,pR,Cr,gg,IV,b3,Cell.bS,b0 6 (by omega),ew',hq,hqw,Pz,u4,u4i,t4,t4i,pL,pJ,lle,lg,ht,hc4,hyc,e3,e5,e0' 3 (by omega),e0 6 (by omega),e0' 6 (by omega)];refine⟨_,30,31,194,_,_,_,?_,HA.a4m HB ul rfl rfl (by simp) Ox.mem ?_ ?_⟩
   ·unfold jE;simp only;rw[hl]
   ·rw[hJ];simp[aR,pj,e0 3 (by omega),abO,Cell.bS]
   ·intro i a b c4;rw[hJ]at c4;have c1: ¬i<8:=by omega
    have c2: ¬i=6:=by omega
    have c3: ¬i=3:=by omega
    have c6: ∀j,202<=j->(i=j)=False:=fun j _=>by simp;omega
    simp[aR,c1,c2,c3,c4,c6]
 ·have eA:mY (Prog.mk ax ae ay) (aO.mk (Layout.mk aa aq) (aF.mk ak ah) au) ⟨kX,gA,6,ir,eP,ja⟩=(aO.mk (Layout.mk aa aq) (aF.mk ak ah) au):=by
   unfold mY;rw[if_neg (by simp),if_neg (by simp),if_neg (by simp),if_neg (by simp),if_neg (by simp)]
  rw[eA];refine I7.bU (aaB ?_);simp[hp,sE,hv,hf,eC,hl,ji,jI,en',er',n4,Ct,r8i,pT,pR,Cr,gg,IV,b3,b0 6 (by omega)];refine⟨_,30,31,194,_,_,_,?_,HA.mono HB (aaI _) fun i a b=> ?_⟩
  ·unfold jE;rw[show(aO.threads (aO.mk (Layout.mk aa aq) (aF.mk ak ah) au)).length=4 from hl]
  ·have c1: ¬i<8:=by omega
   have c2: ¬i=6:=by omega
   have c3: ¬i=3:=by omega
   simp[aR,c1,c2,c3]
end Go.Proofs.YtdngefmliibcgaaGreat
