/- Part of a proof: G2. -/
import Derived.Test.YtdngefmliibcgaaGreatM19
set_option linter.all false
set_option maxRecDepth 20000
set_option maxHeartbeats 20000000
namespace Go.Proofs.YtdngefmliibcgaaGreat
open Go Go.Abs Go.Abs.kX Qf
variable  {x x':Thread}{mem Wt:aF}{p:Prog}{g:FuncId}{ts:List Thread}{s:Int}
def akr(h:bh)(k b C L T:Nat)(ids bu:Nat->Nat)(vB:V)(bs:List Int):Prop:=
 vB= .sl false (bs.map (V.int .i64))\/ ∃B,vB= .cu B 0 bs.length/\h B=some ⟨1,bs.map (V.int .i64),false⟩/\(B≠b/\B≠C/\B≠L/\B≠T/\B<k)/\(∀j,j<4->ids j≠B)/\ ∀i,i<4->bu i≠B
structure dU (h:bh) (k b:Nat) (vB:V) (C L T:Nat) (ids bu:Nat->Nat) (m:aO):Prop where
 mem:kz h k b C L ids vB (.int .u16 m.layout.key) (.cu T 0 m.threads.length) m.memory
 aD:akr h k b C L T ids bu vB m.layout.aD
 pg:h T=some ⟨8,cG bu m.threads,true⟩
 GJ: ∀i (g:i<m.threads.length),h (bu i)=some ⟨2,(m.threads[i]).bz.map Cell.e,false⟩
 len:m.threads.length=4
 xg:T≠b/\T≠C/\T≠L/\T<k
 RK: ∀j,j<4->ids j≠T
 qS: ∀i,i<4->bu i≠b/\bu i≠C/\bu i≠L/\bu i≠T/\bu i<k
 Tx: ∀i j,i<4->j<4->ids j≠bu i
 JL: ∀i j,i<4->j<4->i≠j->bu i≠bu j
section
variable {h h':bh} {k k' b C L T:Nat} {vB:V} {ids iI bu:Nat->Nat} {m:aO}
theorem dU.mono(H:dU h k b vB C L T ids bu m)(hk:k<=k')(hh: ∀i,i<k->h' i=h i):dU h' k' b vB C L T ids bu m:=by
 obtain⟨h1,h2,h3,h4,h0,h6,h7,h8,h9,zx⟩:=H;refine⟨h1.mono hk hh,?_,by rw[hh _ h6.2.2.2,h3],fun i g=>by rw[hh _ (h8 i (by omega)).2.2.2.2,h4 i g],h0,⟨h6.1,h6.2.1,h6.2.2.1,by omega⟩,h7,
  fun i hi=>by obtain⟨a1,a3,a4,a5,a6⟩:=h8 i hi;exact⟨a1,a3,a4,a5,by omega⟩,h9,zx⟩
 rcases h2 with e|⟨B,e,g1,g2,g3,g4⟩
 ·exact .inl e
 ·exact .inr ⟨B,e,by rw[hh _ g2.2.2.2.2,g1],by omega,g3,g4⟩
theorem dU.put (H:dU h k b vB C L T ids bu m) (hk:k<=k') {t:Nat} (ht:t<4)  (hT:h' T=some ⟨8,cG bu (m.threads.set t x),true⟩) (hR:h' (bu t)=some ⟨2,x.bz.map Cell.e,false⟩)
  (hh: ∀i,i<k->i≠T->i≠bu t->h' i=h i):dU h' k' b vB C L T ids bu (iZ m m.memory t x):=by
 obtain⟨h1,h2,h3,h4,h0,h6,h7,h8,h9,zx⟩:=H;obtain⟨r1,r3,r4,r5,r6⟩:=h8 t ht;have gY:=h1.lt;refine⟨?_,?_,hT,fun i g=> ?_,by simp[iZ,h0],⟨h6.1,h6.2.1,h6.2.2.1,by omega⟩,h7,fun i hi=>by obtain⟨a1,a3,a4,a5,a6⟩:=h8 i hi;exact⟨a1,a3,a4,a5,by omega⟩,h9,zx⟩
 ·have e:(iZ m m.memory t x).threads.length=m.threads.length:=by simp[iZ]
  rw[e];exact h1.eU hk (hh _ gY.1 (aaW h6.1) (aaW r1)) (hh _ gY.2.1 (aaW h6.2.1) (aaW r3)) (hh _ gY.2.2.1 (aaW h6.2.2.1) (aaW r4)) fun j hj=>hh _ (gY.2.2.2 j hj) (h7 j hj) (h9 t j ht hj)
 ·rcases h2 with e|⟨B,e,g1,g2,g3,g4⟩
  ·exact .inl e
  ·exact .inr ⟨B,e,by rw[hh _ g2.2.2.2.2 g2.2.2.2.1 (aaW (g4 t ht)),g1];rfl,by omega,g3,g4⟩
 ·simp only[iZ,aaN]at g;simp only[iZ,abk];split
  ·rename_i e;subst e;exact hR
  ·rename_i e;rw[hh _ (h8 i (by omega)).2.2.2.2 (h8 i (by omega)).2.2.2.1 (zx i t (by omega) ht (fun h=>e h.symm)),h4 i g]
theorem dU.memory (H:dU h k b vB C L T ids bu m) (hk:k<=k')  (hM:kz h' k' b C L iI vB (.int .u16 m.layout.key) (.cu T 0 m.threads.length) mem)
  (hi: ∀j,j<4->iI j=ids j\/k<=iI j) (hh: ∀i,i<k->i≠C->i≠L->(∀j,j<4->i≠ids j)->h' i=h i):dU h' k' b vB C L T iI bu ⟨m.layout,mem,m.threads⟩:=by
 obtain⟨h1,h2,h3,h4,h0,h6,h7,h8,h9,zx⟩:=H;refine⟨hM,?_,?_,fun i g=> ?_,h0,⟨h6.1,h6.2.1,h6.2.2.1,by omega⟩,fun j hj=> ?_,fun i hi=>by obtain⟨a1,a3,a4,a5,a6⟩:=h8 i hi;exact⟨a1,a3,a4,a5,by omega⟩,fun i j oE hj=> ?_,zx⟩
 ·rcases h2 with e|⟨B,e,g1,g2,g3,g4⟩
  ·exact .inl e
  ·refine .inr ⟨B,e,by rw[hh _ g2.2.2.2.2 g2.2.1 g2.2.2.1 fun j hj=>aaW (g3 j hj),g1],by omega,fun j hj=> ?_,g4⟩;rcases hi j hj with e|e
   ·rw[e];exact g3 j hj
   ·have:=g2.2.2.2.2;omega
 ·rw[hh _ h6.2.2.2 h6.2.1 h6.2.2.1 fun j hj=>aaW (h7 j hj),h3]
 ·obtain⟨a1,a3,a4,a5,a6⟩:=h8 i (by simp only at g;omega);rw[hh _ a6 a3 a4 fun j hj=>aaW (h9 i j (by simp only at g;omega) hj),h4 i g]
 ·rcases hi j hj with e|e
  ·rw[e];exact h7 j hj
  ·have:=h6.2.2.2;omega
 ·rcases hi j hj with e|e
  ·rw[e];exact h9 i j oE hj
  ·have:=(h8 i oE).2.2.2.2;omega
structure gW (h:bh) (k:Nat) (vB:V) (C L T:Nat) (ids bu:Nat->Nat) (m:aO):Prop where
 mp:uf m.memory
 mem:NJ h C L ids m.memory
 sep:Ry C L ids
 lt:C<k/\L<k/\ ∀i,i<4->ids i<k
 aD:vB= .sl false (m.layout.aD.map (V.int .i64))\/ ∃B,vB= .cu B 0 m.layout.aD.length/\h B=some ⟨1,m.layout.aD.map (V.int .i64),false⟩/\(B≠C/\B≠L/\B≠T/\B<k)/\(∀j,j<4->ids j≠B)/\ ∀i,i<4->bu i≠B
 pg:h T=some ⟨8,cG bu m.threads,true⟩
 GJ: ∀i (g:i<m.threads.length),h (bu i)=some ⟨2,(m.threads[i]).bz.map Cell.e,false⟩
 len:m.threads.length=4
 xg:T≠C/\T≠L/\T<k
 RK: ∀j,j<4->ids j≠T
 qS: ∀i,i<4->bu i≠C/\bu i≠L/\bu i≠T/\bu i<k
 Tx: ∀i j,i<4->j<4->ids j≠bu i
 JL: ∀i j,i<4->j<4->i≠j->bu i≠bu j
def jD(vB:V)(C L T:Nat)(m:aO):V:= (KKD vB m.layout.key (.cu C 0 512) (.cu L 0 4) (.cu T 0 m.threads.length):V)
theorem ji(vB:V)(C L T:Nat)(m:aO):(jD vB C L T m).cells=[vB,.int .u16 m.layout.key,.cu C 0 512,.cu L 0 4,.cu T 0 m.threads.length]:=rfl
theorem jH(vB:V)(C L T:Nat)(m:aO):(jD vB C L T m).fits 5=true:=rfl
def oT(k:Nat)(vB:V)(C L T:Nat)(ids bu:Nat->Nat):Prop:=(k<=C/\k<=L/\k<=T)/\(∀j,j<4->k<=ids j/\k<=bu j)/\ ∀B s n,vB= .cu B s n->k<=B
theorem gW.mono(H:gW h k vB C L T ids bu m){a:Nat}(hA:oT a vB C L T ids bu)(hk:k<=k')(hh: ∀i,a<=i->i<k->h' i=h i):gW h' k' vB C L T ids bu m:=by
 obtain⟨h0,h1,h2,h3,h4,h5,h6,h7,h9,zx,FP,LC,h13⟩:=H;obtain⟨⟨aC,aL,aT⟩,aI,aB⟩:=hA;refine⟨h0,⟨by rw[hh _ aC h3.1,h1.cells],by rw[hh _ aL h3.2.1,h1.lines],fun i g=> ?_⟩,h2,⟨by omega,by omega,fun i hi=>by have:=h3.2.2 i hi;omega⟩,?_,by rw[hh _ aT h9.2.2,h5],fun i g=> ?_,h7,by omega,zx,fun i hi=>by have:=FP i hi;omega,LC,h13⟩
 ·have hi:i<4:=by have:=h0.lines;omega
  rw[hh _ (aI i hi).1 (h3.2.2 i hi),h1.line i g]
 ·rcases h4 with e|⟨B,e,g1,g2,g3,g4⟩
  ·exact .inl e
  ·exact .inr ⟨B,e,by rw[hh _ (aB _ _ _ e) g2.2.2.2,g1],by omega,g3,g4⟩
 ·rw[hh _ (aI i (by omega)).2 (FP i (by omega)).2.2.2,h6 i g]
theorem gW.box(H:gW h k vB C L T ids bu m)(hb:b<k->(∀B s n,vB= .cu B s n->b≠B)/\b≠C/\b≠L/\b≠T/\ ∀j,j<4->b≠ids j/\b≠bu j)(hk:b<k')(xz:k<=k')(hB:h' b=some ⟨5,[jD vB C L T m],true⟩)(hh: ∀i,i<k->i≠b->h' i=h i):dU h' k' b vB C L T ids bu m:=by
 obtain⟨h0,h1,h2,h3,h4,h5,h6,h7,h9,zx,FP,LC,h13⟩:=H;have nC:C≠b:=fun e=>by have:=hb (by omega);exact this.2.1 e.symm
 have nL:L≠b:=fun e=>by have:=hb (by omega);exact this.2.2.1 e.symm
 have nT:T≠b:=fun e=>by have:=hb (by omega);exact this.2.2.2.1 e.symm
 have nI: ∀j,j<4->ids j≠b:=fun j hj e=>by have:=hb (by have:=h3.2.2 j hj;omega);exact(this.2.2.2.2 j hj).1 e.symm
 have nR: ∀j,j<4->bu j≠b:=fun j hj e=>by have:=hb (by have:=FP j hj;omega);exact(this.2.2.2.2 j hj).2 e.symm
 refine⟨⟨hB,⟨by rw[hh _ h3.1 nC,h1.cells],by rw[hh _ h3.2.1 nL,h1.lines],fun i g=> ?_⟩,h2,⟨aaW nL,aaW nC⟩,nI,⟨hk,by omega,by omega,fun i hi=>by have:=h3.2.2 i hi;omega⟩,h0⟩,?_,?_,fun i g=> ?_,h7,⟨nT,h9.1,h9.2.1,by omega⟩,zx,fun i hi=> ?_,LC,h13⟩
 ·have hi:i<4:=by have:=h0.lines;omega
  rw[hh _ (h3.2.2 i hi) (nI i hi),h1.line i g]
 ·rcases h4 with e|⟨B,e,g1,g2,g3,g4⟩
  ·exact .inl e
  ·have nB:B≠b:=fun e2=>by have:=hb (by omega);exact this.1 _ _ _ e e2.symm
   exact .inr ⟨B,e,by rw[hh _ g2.2.2.2 nB,g1],⟨nB,g2.1,g2.2.1,g2.2.2.1,by omega⟩,g3,g4⟩
 ·rw[hh _ h9.2.2 nT,h5]
 ·rw[hh _ (FP i (by omega)).2.2.2 (nR i (by omega)),h6 i g]
 ·obtain⟨a2,a3,a4,a5⟩:=FP i hi;exact⟨nR i hi,a2,a3,a4,by omega⟩
theorem dU.at(H:dU h k b vB C L T ids bu m):gW h k vB C L T ids bu m:=by
 obtain⟨h1,h2,h3,h4,h0,h6,h7,h8,h9,zx⟩:=H;refine⟨h1.mem,h1.at_,h1.sep,h1.lt.2,?_,h3,h4,h0,⟨h6.2.1,h6.2.2.1,h6.2.2.2⟩,h7,fun i hi=>(h8 i hi).2,h9,zx⟩;rcases h2 with e|⟨B,e,g1,g2,g3,g4⟩
 ·exact .inl e
 ·exact .inr ⟨B,e,g1,g2.2,g3,g4⟩
theorem dU.xJ(H:dU h k b vB C L T ids bu m):h b=some ⟨5,[jD vB C L T m],true⟩:=H.mem.box
theorem nA{α:Type}{g:V->Option V}{e:α->V}: ∀(l:List α) (f:Nat->α->V) (h: ∀i (hi:i<l.length),g (f i l[i])=some (e l[i])),cF ((l.mapIdx f).map g)=some (l.map e):=by
 intro l;induction l with
 |nil=>intro _ _;rfl
 |cons a l ih=>
  intro f h;have h0:=h 0 (by simp);have:=ih (fun i=>f (i+1)) fun i hi=>h (i+1) (by simpa using hi);simp only[aco]at h0;rw[aeP,aaU,aaU,h0];rw[cF.eq_3,this]
theorem gW.ED(H:gW h k vB C L T ids bu m){hx:bh}(hx1: ∀i,i<4->hx (bu i)=h (bu i))(d:Nat):cF ((cG bu m.threads).map (cx hx (d+2)))=some (m.threads.map Thread.e):=by
 refine nA _ _ fun i hi=> ?_;have hl:=H.len;have:=H.GJ i hi;rw[<-hx1 i (by omega)]at this;simp[dJ,cx,cF,this,Thread.bS]
theorem gW.zK(H:gW h k vB C L T ids bu m){hx:bh}(hx1: ∀i,i<4->hx (ids i)=h (ids i))(d:Nat):cF ((fU ids m.memory.lines).map (cx hx (d+2)))=some (m.memory.lines.map cy.e):=by
 refine nA _ _ fun i hi=> ?_;have hl:=H.mp.lines;have:=H.mem.line i hi;rw[<-hx1 i (by omega)]at this;simp[JA,cx,cF,this,cy.bS]
theorem K5(x:Thread):(Thread.e x).lM=Thread.e x:=by
 simp[Thread.bS,V.lM,eV]
theorem uW(l:List Thread):eV (l.map Thread.e)=l.map Thread.e:=qK K5 l
def mr(m:aO):List V:=[.sl false (m.layout.aD.map (V.int .i64)),.int .u16 m.layout.key,.sl false (m.memory.cells.map Cell.e),.sl false (m.memory.lines.map cy.e),.sl false (m.threads.map Thread.e)]
theorem GK(m:aO):eV (mr m)=mr m:=by
 simp[mr,V.lM,eV]
theorem gW.ed(H:gW h k vB C L T ids bu m)(d:Nat):cx h (d+6) (jD vB C L T m)=some (.agg (mr m)):=by
 have e1:=H.ED (hx:=h) (fun _ _=>rfl) (d+2);have e2:=H.zK (hx:=h) (fun _ _=>rfl) (d+2);have hl:=H.mp.lines;have hc:=H.mp.len;have hn:=H.len;have l1:=fA bu m.threads;have l2:=jh ids m.memory.lines;have t1:(cG bu m.threads).take m.threads.length=cG bu m.threads:=aZ (by omega);have t2:(fU ids m.memory.lines).take 4=fU ids m.memory.lines:=aZ (by omega);have t3:(m.memory.cells.map Cell.e).take 512=m.memory.cells.map Cell.e:=aZ (by simp;omega);rcases H.aD with e|⟨B,e,g1,g2,g3,g4⟩
 ·simp[jD,mr,cx,cF,e,H.mem.cells,H.mem.lines,H.pg,l1,l2,hl,hc,t1,t2,t3,e1,e2]
 ·simp[jD,mr,cx,cF,e,g1,H.mem.cells,H.mem.lines,H.pg,l1,l2,hl,hc,t1,t2,t3,e1,e2]
end
def qB(ids:Nat->Nat)(i:Nat)(x:Thread)(pc:Int)(bz:List Cell):dJ ids i (vM x pc bz)= (KKd x.state (.cu (ids i) 0 bz.length) pc x.count x.cn x.saved x.dn x.code:V):=rfl
def hY(ids:Nat->Nat)(i:Nat)(x:Thread)(pc:Int)(bz:List Cell)(s:Int):dJ ids i (mV x pc bz s)= (KKd x.state (.cu (ids i) 0 bz.length) pc (x.count+1) x.cn s x.dn x.code:V):=rfl
def B0(ids:Nat->Nat)(i:Nat)(x:Thread):dJ ids i (uT x)= (KKd 2 (.cu (ids i) 0 x.bz.length) (x.pc+1) x.count x.cn x.saved x.dn x.code:V):=rfl
def jF(ids:Nat->Nat)(i:Nat)(x:Thread)(w:Int):dJ ids i (iV x w)= (KKd 4 (.cu (ids i) 0 x.bz.length) x.pc x.count x.cn x.saved w 0:V):=rfl
def wz(x:Thread)(pc:Int)(bz:List Cell):(vM x pc bz).bz=bz:=rfl
def jr(x:Thread)(pc:Int)(bz:List Cell)(s:Int):(mV x pc bz s).bz=bz:=rfl
def GL(x:Thread):(uT x).bz=x.bz:=rfl
def nc(x:Thread)(w:Int):(iV x w).bz=x.bz:=rfl
def oJ(x:Thread)(a:Nat)(c:Cell):Gy x a c=x.bz.set a c:=by simp[Gy]
def mJ{a:Nat}(h:a<x.bz.length):kr x a=x.bz[a]:=by simp[kr,List.getD,h]
def Eh(h:bh)(k a b:Nat)(h':bh):Prop:= ∀i,i<k->i≠a->i≠b->h' i=h i
@[simp]def av4(h:bh)(k a b:Nat):Eh h k a b h=True:=eq_true fun _ _ _ _=>rfl
def EE{h:bh}{k a b c:Nat}{h':bh}{o:Option Ob}(g: ¬c<k\/c=a\/c=b):Eh h k a b (aR h' c o)=Eh h k a b h':=by
 apply propext;constructor<;>intro f i hi h1 h2<;>have:=f i hi h1 h2<;>have e: ¬i=c:=(by omega)<;>simpa[aR,e] using this
@[simp]def a89(h:bh)(k a b j:Nat)(h':bh)(o:Option Ob):Eh h k a b (aR h' (k+j) o)=Eh h k a b h':=EE (by omega)
@[simp]def a9a(h:bh)(k a b:Nat)(h':bh)(o:Option Ob):Eh h k a b (aR h' k o)=Eh h k a b h':=EE (by omega)
@[simp]def a9b(h:bh)(k a b:Nat)(h':bh)(o:Option Ob):Eh h k a b (aR h' a o)=Eh h k a b h':=EE (by omega)
@[simp]def a9c(h:bh)(k a b:Nat)(h':bh)(o:Option Ob):Eh h k a b (aR h' b o)=Eh h k a b h':=EE (by omega)
def Wr(h:bh)(k T:Nat)(bu:Nat->Nat)(t:Nat)(ts:List Thread)(x':Thread)(s:Int)(v:V)(h':bh)(k':Nat):Prop:=
 v= .int .i64 s/\h' T=some ⟨8,(cG bu ts).set t (dJ bu t x'),true⟩/\h' (bu t)=some ⟨2,x'.bz.map Cell.e,false⟩/\k<=k'/\ ∀i,i<k->i≠T->i≠bu t->h' i=h i
def fM(h:bh)(k T:Nat)(bu:Nat->Nat)(t:Nat)(ts:List Thread)(x':Thread)(s:Int)(v:V)(h':bh)(k':Nat):Wr h k T bu t ts x' s v h' k'=
 (v= .int .i64 s/\h' T=some ⟨8,(cG bu ts).set t (dJ bu t x'),true⟩/\h' (bu t)=some ⟨2,x'.bz.map Cell.e,false⟩/\k<=k'/\Eh h k T (bu t) h'):=rfl
def gX(r:Option (V×bh×Nat))(p:Prog)(h:bh)(k b:Nat)(vB:V)(C L T:Nat)(ids bu:Nat->Nat)(m:aO)(t:Nat):Prop:= ∃h' k' iI,r=some (.int .i64 (lu p m t).2,h',k')/\dU h' k' b vB C L T iI bu (lu p m t).1/\k<=k'/\(∀j,j<4->iI j=ids j\/k<=iI j)/\
 ∀i,i<k->i≠C->i≠L->(∀j,j<4->i≠ids j)->i≠T->i≠bu t->h' i=h i
def gX.of {r:Option (V×bh×Nat)}  {h:bh} {k b C L T:Nat} {vB:V} {ids bu:Nat->Nat} {m:aO} {t:Nat} (H:dU h k b vB C L T ids bu m) (ht:t<4) (x':Thread) (s:Int) (hs:ny p m (cg m t)=(m.memory,x',s))
  (he: ∃v h' n',r=some (v,h',n')/\Wr h k T bu t m.threads x' s v h' n'):gX r p h k b vB C L T ids bu m t:=by
 obtain⟨v,h',n',e,rfl,g2,g3,g4,g5⟩:=he;have np:t<m.threads.length:=by rw[H.len];exact ht
 have e1:lu p m t=(iZ m m.memory t x',s):=by rw[w7,hs]
 rw[iJ np]at g2;unfold gX;rw[e1];exact⟨h',n',ids,e,H.put g4 ht g2 g3 g5,g4,fun _ _=> .inl rfl,fun i hi _ _ _ Ws hit=>g5 i hi Ws hit⟩
def gX.ao9 {r:Option (V×bh×Nat)}  {h h1:bh} {k k1 b C L T:Nat} {vB:V} {ids iv bu:Nat->Nat} {m:aO} {t:Nat} (H:dU h k b vB C L T ids bu m) (ht:t<4)  (H1:dU h1 k1 b vB C L T iv bu ⟨m.layout,Wt,m.threads⟩) (hk:k<=k1) (fg: ∀j,j<4->iv j=ids j\/k<=iv j)
  (ot: ∀i,i<k->i≠C->i≠L->(∀j,j<4->i≠ids j)->h1 i=h i) (x':Thread) (s:Int) (hs:ny p m (cg m t)=(Wt,x',s))
  (he: ∃v h' n',r=some (v,h',n')/\Wr h1 k1 T bu t m.threads x' s v h' n'):gX r p h k b vB C L T ids bu m t:=by
 obtain⟨v,h',n',e,rfl,g2,g3,g4,g5⟩:=he;have np:t<m.threads.length:=by rw[H.len];exact ht
 have e1:lu p m t=(iZ m Wt t x',s):=by rw[w7,hs]
 rw[iJ np]at g2;unfold gX;rw[e1];exact⟨h',n',iv,e,H1.put g4 ht g2 g3 g5,by omega,fg,fun i hi hiC hiL mz Ws hit=>by rw[g5 i (by omega) Ws hit,ot i hi hiC hiL mz]⟩
def GM{m:aO}{n:Nat}(hn:x.pc=n)(h:n<p.code.length){i:Instr}(hi:p.code[n]=i):ny p m x=iU p m x i:=by
 unfold ny;rw[if_pos (by omega),hn,aaH];simp[List.getD,h,hi]
def JM{m:aO}(h: ¬x.pc<p.code.length):ny p m x=(m.memory,iV x 2,2):=by
 unfold ny;rw[if_neg h]
noncomputable def cH(g:FuncId)(args:List V)(h:bh)(k:Nat):bh:=match cL X g args h k with|some (_,h',_)=>h'|none=>h
noncomputable def cK(g:FuncId)(args:List V)(h:bh)(k:Nat):Nat:=match cL X g args h k with|some (_,_,n)=>n|none=>k
def xK{args:List V}{h h':bh}{k k':Nat}{v:V}(e:cL X g args h k=some (v,h',k')):cH g args h k=h'/\cK g args h k=k':=by
 unfold cH cK;rw[e];exact⟨rfl,rfl⟩
def Below(k:Nat)(h h1:bh):Prop:= ∀i,i<k->h1 i=h i
@[simp]def cE(k:Nat)(h:bh):Below k h h=True:=eq_true fun _ _=>rfl
@[simp]def cM(k j:Nat)(h h1:bh)(v:Option Ob):Below k h (aR h1 (k+j) v)=Below k h h1:=by
 apply propext;constructor<;>intro g i hi
 ·have:=g i hi;rwa[aR,if_neg (by omega)]at this
 ·rw[aR,if_neg (by omega)];exact g i hi
@[simp]def cP(k:Nat)(h h1:bh)(v:Option Ob):Below k h (aR h1 k v)=Below k h h1:=cM k 0 h h1 v
def DK(h:bh)(k T:Nat)(bu:Nat->Nat)(t:Nat)(ts:List Thread)(g:FuncId)(args:List V)(x':Thread)(s:Int)(v:V)(h':bh)(k':Nat):Prop:=
 ∃h1 j,Below k h h1/\Wr (cH g args h1 (k+j)) (cK g args h1 (k+j)) T bu t ts x' s v h' k'
def adn{h h1:bh}{k T:Nat}{bu:Nat->Nat}{t:Nat}{args:List V}{j n:Nat}{E R:List V}(hB:Below k h h1)(hs:bu t≠T)(hE:E=(cG bu ts).set t (dJ bu t x'))(hR:R=x'.bz.map Cell.e):
  DK h k T bu t ts g args x' s (.int .i64 s) (aR (aR (cH g args h1 (k+j)) (bu t) (some ⟨2,R,false⟩)) T (some ⟨8,E,true⟩)) (cK g args h1 (k+j)+n):=
 ⟨h1,j,hB,rfl,by rw[hE];simp[aR],by rw[hR];simp[aR,hs],by omega,fun i _ h1 h2=>by simp[aR,h1,h2]⟩
def ado{h h1:bh}{k T:Nat}{bu:Nat->Nat}{t:Nat}{args:List V}{j n:Nat}{E:List V}(hB:Below k h h1)(hs:bu t≠T)(hE:E=(cG bu ts).set t (dJ bu t x'))(hR:cH g args h1 (k+j) (bu t)=some ⟨2,x'.bz.map Cell.e,false⟩):
  DK h k T bu t ts g args x' s (.int .i64 s) (aR (cH g args h1 (k+j)) T (some ⟨8,E,true⟩)) (cK g args h1 (k+j)+n):=
 ⟨h1,j,hB,rfl,by rw[hE];simp[aR],by simp[aR,hs,hR],by omega,fun i _ h1 h2=>by simp[aR,h1]⟩
@[simp]def Wu(ax:List Instr)(ae:List Int)(ay:List (List Int))(m:V)(t:Int)(h:bh)(k b:Nat)(vB:V)(C L T:Nat)(ids bu:Nat->Nat)(mm:aO)(tn:Nat)(d:Int)(H:dU h k b vB C L T ids bu mm)(HG:db (Prog.mk ax ae ay) d mm)(hd:d<=1099511628776)(ht:tn<4)(hBB: ∃B,vB= .cu B 0 mm.layout.aD.length)(jJ:(cg mm tn).pc<ax.length/\(3<=(ax.getD (cg mm tn).pc.toNat qO).op/\(ax.getD (cg mm tn).pc.toNat qO).op<=14)):gX (cL X 246 [KKQ ax ae ay,.ptr b 0 0,(tn:Int)] h k) (Prog.mk ax ae ay) h k b vB C L T ids bu mm tn:=by
 have hl:=H.len;have np:tn<mm.threads.length:=by omega
 have rz:(tn:Int)<4:=by omega
 have rI:=HG.pg tn np;have hR:=H.GJ tn np;have hg:=fW (ids:=bu) np;have hT:=H.pg;have jV:=fA bu mm.threads;rw[hl]at jV;have hb:=H.xJ;unfold jD at hb;rw[hl]at hb;have ct: ∀(h2:bh) (k2:Nat) (w:Int),h2 T=some ⟨8,cG bu mm.threads,true⟩->cL X 271 [.ptr T tn 0,.int .i64 w] h2 k2=some (.int .i64 2,aR h2 T (some ⟨8,(cG bu mm.threads).set tn (dJ bu tn (iV mm.threads[tn] w)),true⟩),k2+15):=fun h2 k2 w g=>by
  rw[iJ np];exact acw .bad 0 h2 k2 T tn w bu mm.threads g np
 have xU:cg mm tn=mm.threads[tn]:=iS np;obtain⟨x,pO⟩: ∃x,mm.threads[tn]=x:=⟨_,rfl⟩;rw[pO]at rI hR xU;simp only[pO]at hg ct;obtain⟨s1,s3,s4,s5,s6⟩:=H.qS tn ht;have Hv: ¬T=bu tn:=fun e=>s5 e.symm;have s1': ¬b=bu tn:=fun e=>s1 e.symm;obtain⟨u1,u2,u3,u4⟩:=H.xg;have u1': ¬b=T:=fun e=>u1 e.symm;have gY:=H.mem.lt.1;have q1: ∀j,¬b=k+j/\ ¬T=k+j/\ ¬bu tn=k+j/\ ¬k+j=b/\ ¬k+j=T/\ ¬k+j=bu tn:=fun j=>by omega
 have pM: ¬b=k/\ ¬T=k/\ ¬bu tn=k:=by omega
 have D1:=rI.pc;obtain⟨n,hn⟩: ∃n:Nat,x.pc=n:=⟨x.pc.toNat,by omega⟩;have h8:=rI.bz;have XK:ax.length<=64:=HG.prog.rp;have K6:=rI.count;have JN:IntKind.i64.wrap (x.count+1)=x.count+1:=wrap_i64 (by omega);have qM:=nd n (by omega);have frame: ∀(h2:bh),(∀i,i<k->i≠T->i≠bu tn->h2 i=h i)-> ∀i,i<k->i≠T->i≠bu tn->h2 i=h i:=fun _ g=>g;by_cases sv:n<ax.length
 case neg=>
  have:=jJ.1;rw[xU,hn]at this;omega
 have rA: ¬(ax.length:Int)<=n:=by omega
 have hI:=HG.prog.AW (p:=(Prog.mk ax ae ay)) sv;simp only at hI;obtain⟨⟨op,ai,bi,ci,ed⟩,hi⟩: ∃i,ax[n]=i:=⟨_,rfl⟩;rw[hi]at hI;obtain⟨o1,ia,ib,ic,im,ij,il,is⟩:=hI;simp only at o1 ia ib ic im ij il is;obtain⟨a,rfl⟩:=aaG ia.1;obtain⟨b',rfl⟩:=aaG ib.1;obtain⟨c,rfl⟩:=aaG ic.1;have a8:(a:Int)<8/\(b':Int)<8/\(c:Int)<8/\a<8/\b'<8/\c<8:=by omega
 have al:a<x.bz.length:=by omega
 have bl:b'<x.bz.length:=by omega
 have cl:c<x.bz.length:=by omega
 have ie:IntKind.u16.wrap ed=ed:=wrap_u16 im;have hL:=HG.lay;have hlen:=hL.len;simp only at hL hlen;obtain⟨B,LG,EF,⟨nB,nB2,az5,nB3,nBk⟩,nBi,nBr⟩: ∃B,vB= .cu B 0 mm.layout.aD.length/\h B=some ⟨1,mm.layout.aD.map (V.int .i64),false⟩/\(B≠b/\B≠C/\B≠L/\B≠T/\B<k)/\(∀j,j<4->ids j≠B)/\ ∀i,i<4->bu i≠B:=by
  rcases H.aD with e|e
  ·obtain⟨_,e2⟩:=hBB;rw[e]at e2;cases e2
  ·exact e
 have nB4: ∀j,¬B=k+j:=fun j=>by omega
 have NW: ¬B=k:=by omega
 have vL: ∀y:Cell,(⟨y.tag,y.val⟩:Cell)=y:=fun _=>rfl;have pL:(Layout.mk mm.layout.aD mm.layout.key)=mm.layout:=rfl;have hs: ∀r,iU (Prog.mk ax ae ay) mm x ⟨op,a,b',c,ed⟩=r->ny (Prog.mk ax ae ay) mm (cg mm tn)=r:=fun r g=>by rw[xU,GM (p:=(Prog.mk ax ae ay)) hn sv hi,g]
 obtain⟨xa,tK⟩: ∃v,x.bz[a]=v:=⟨_,rfl⟩;obtain⟨xb,xM⟩: ∃v,x.bz[b']=v:=⟨_,rfl⟩;obtain⟨xc,xce⟩: ∃v,x.bz[c]=v:=⟨_,rfl⟩;have ra:kr x a=xa:=by rw[mJ al,tK]
 have rb:kr x b'=xb:=by rw[mJ bl,xM]
 have rc:kr x c=xc:=by rw[mJ cl,xce]
 have ca:jd xa:=by rw[<-ra];exact j6 rI _
 have cb:jd xb:=by rw[<-rb];exact j6 rI _
 have cc:jd xc:=by rw[<-rc];exact j6 rI _
 have gY:=H.mem.lt;have HM: ∀(h1:bh) (j:Nat),Below k h h1->kz h1 (k+j) b C L ids vB (.int .u16 mm.layout.key) (.cu T 0 4) mm.memory:=fun h1 j ju=>by have:=(H.mono (k':=k+j) (by omega) ju).mem;rwa[hl]at this
 have br:fQ 18=true/\fQ 19=true/\fQ 20=true/\fQ 21=true/\fQ 22=true/\fQ 24=true/\ ∀o:Int,0<=o->o<=17->fQ o=false:=⟨by decide,by decide,by decide,by decide,by decide,by decide,fun o h1 h2=>by simp[fQ,jumps];omega⟩;obtain⟨br1,br2,br3,br4,br5,br6,br7⟩:=br;have oc:op=0\/op=1\/op=2\/(3<=op/\op<=14)\/op=15\/op=16\/op=17\/op=18\/op=19\/op=20\/op=21\/op=22\/op=23\/op=24:=by omega
 rcases oc with rfl|rfl|rfl|ho|rfl|rfl|rfl|rfl|rfl|rfl|rfl|rfl|rfl|rfl
 ·exact absurd jJ.2 (by rw[xU,hn,aaH,show ax.getD n qO=ax[n] by simp[List.getD,sv],hi];simp)
 ·exact absurd jJ.2 (by rw[xU,hn,aaH,show ax.getD n qO=ax[n] by simp[List.getD,sv],hi];simp)
 ·exact absurd jJ.2 (by rw[xU,hn,aaH,show ax.getD n qO=ax[n] by simp[List.getD,sv],hi];simp)
 ·obtain⟨⟨dt,dv⟩,w,hdo⟩: ∃r w,qU mm.layout.aD ae op xb xc=(r,w):=⟨_,_,rfl⟩;obtain⟨xbt,xbv⟩:=xb;obtain⟨xct,xcv⟩:=xc;have cb2:=cb.2;have cc2:=cc.2;simp only at cb2 cc2;have m0: ¬op=0/\ ¬op=1/\ ¬op=2/\ ¬op=15/\ ¬op=16/\ ¬op=17/\ ¬op=18/\ ¬op=19/\ ¬op=20/\ ¬op=21/\ ¬op=22/\ ¬op=23/\ ¬op=24:=by omega
  have brf:fQ op=false:=br7 op (by omega) (by omega);by_cases xh:w=0
  ·refine gX.of H ht (vM x (n+1) (x.bz.set a ⟨dt,dv⟩)) (-1) (hs _ (by simp[iU,hn,oJ,rb,rc,hdo,xh,m0])) (aaB ?_);simp[aaE,fM,hb,hT,hR,hg,jV,ht,rz,hn,sv,rA,hi,wz,qB,h8,a8,tK,xM,xce,qM,s5,Hv,q1,pM,m0,brf,hL,LG,EF,nB4,NW,cb2,cc2,hdo,xh,Cell.bS];all_goals ((repeat' apply And.intro)<;>first|omega|rfl)
  ·refine gX.of H ht (iV x w) (2) (hs _ (by simp[iU,rb,rc,hdo,xh,m0])) (aaB ?_);simp[aaE,fM,hb,hT,hR,hg,jV,ht,rz,hn,sv,rA,hi,ct,nc,jF,h8,a8,tK,xM,xce,qM,s5,q1,pM,m0,hL,LG,EF,nB4,NW,cb2,cc2,hdo,xh];all_goals ((repeat' apply And.intro)<;>first|omega|rfl)
 ·exact absurd jJ.2 (by rw[xU,hn,aaH,show ax.getD n qO=ax[n] by simp[List.getD,sv],hi];simp)
 ·exact absurd jJ.2 (by rw[xU,hn,aaH,show ax.getD n qO=ax[n] by simp[List.getD,sv],hi];simp)
 ·exact absurd jJ.2 (by rw[xU,hn,aaH,show ax.getD n qO=ax[n] by simp[List.getD,sv],hi];simp)
 ·exact absurd jJ.2 (by rw[xU,hn,aaH,show ax.getD n qO=ax[n] by simp[List.getD,sv],hi];simp)
 ·exact absurd jJ.2 (by rw[xU,hn,aaH,show ax.getD n qO=ax[n] by simp[List.getD,sv],hi];simp)
 ·exact absurd jJ.2 (by rw[xU,hn,aaH,show ax.getD n qO=ax[n] by simp[List.getD,sv],hi];simp)
 ·exact absurd jJ.2 (by rw[xU,hn,aaH,show ax.getD n qO=ax[n] by simp[List.getD,sv],hi];simp)
 ·exact absurd jJ.2 (by rw[xU,hn,aaH,show ax.getD n qO=ax[n] by simp[List.getD,sv],hi];simp)
 ·exact absurd jJ.2 (by rw[xU,hn,aaH,show ax.getD n qO=ax[n] by simp[List.getD,sv],hi];simp)
 ·exact absurd jJ.2 (by rw[xU,hn,aaH,show ax.getD n qO=ax[n] by simp[List.getD,sv],hi];simp)
@[simp]def az6(ax:List Instr)(ae:List Int)(ay:List (List Int))(m:V)(t:Int)(h:bh)(k b:Nat)(vB:V)(C L T:Nat)(ids bu:Nat->Nat)(mm:aO)(tn:Nat)(d:Int)(H:dU h k b vB C L T ids bu mm)(HG:db (Prog.mk ax ae ay) d mm)(hd:d<=1099511628776)(ht:tn<4)(hBB: ∃B,vB= .cu B 0 mm.layout.aD.length):gX (cL X 246 [KKQ ax ae ay,.ptr b 0 0,(tn:Int)] h k) (Prog.mk ax ae ay) h k b vB C L T ids bu mm tn:=by
 have hl:=H.len;have np:tn<mm.threads.length:=by omega
 have rz:(tn:Int)<4:=by omega
 have rI:=HG.pg tn np;have hR:=H.GJ tn np;have hg:=fW (ids:=bu) np;have hT:=H.pg;have jV:=fA bu mm.threads;rw[hl]at jV;have hb:=H.xJ;unfold jD at hb;rw[hl]at hb;have ct: ∀(h2:bh) (k2:Nat) (w:Int),h2 T=some ⟨8,cG bu mm.threads,true⟩->cL X 271 [.ptr T tn 0,.int .i64 w] h2 k2=some (.int .i64 2,aR h2 T (some ⟨8,(cG bu mm.threads).set tn (dJ bu tn (iV mm.threads[tn] w)),true⟩),k2+15):=fun h2 k2 w g=>by
  rw[iJ np];exact acw .bad 0 h2 k2 T tn w bu mm.threads g np
 have xU:cg mm tn=mm.threads[tn]:=iS np;obtain⟨x,pO⟩: ∃x,mm.threads[tn]=x:=⟨_,rfl⟩;rw[pO]at rI hR xU;simp only[pO]at hg ct;obtain⟨s1,s3,s4,s5,s6⟩:=H.qS tn ht;have Hv: ¬T=bu tn:=fun e=>s5 e.symm;have s1': ¬b=bu tn:=fun e=>s1 e.symm;obtain⟨u1,u2,u3,u4⟩:=H.xg;have u1': ¬b=T:=fun e=>u1 e.symm;have gY:=H.mem.lt.1;have q1: ∀j,¬b=k+j/\ ¬T=k+j/\ ¬bu tn=k+j/\ ¬k+j=b/\ ¬k+j=T/\ ¬k+j=bu tn:=fun j=>by omega
 have pM: ¬b=k/\ ¬T=k/\ ¬bu tn=k:=by omega
 have D1:=rI.pc;obtain⟨n,hn⟩: ∃n:Nat,x.pc=n:=⟨x.pc.toNat,by omega⟩;have h8:=rI.bz;have XK:ax.length<=64:=HG.prog.rp;have K6:=rI.count;have JN:IntKind.i64.wrap (x.count+1)=x.count+1:=wrap_i64 (by omega);have qM:=nd n (by omega);have frame: ∀(h2:bh),(∀i,i<k->i≠T->i≠bu tn->h2 i=h i)-> ∀i,i<k->i≠T->i≠bu tn->h2 i=h i:=fun _ g=>g;by_cases sv:n<ax.length
 case neg=>
  have rA:(ax.length:Int)<=n:=by omega
  refine gX.of H ht (iV x 2) 2 (by rw[xU];exact JM (by simp only;omega)) (aaB ?_);simp[aaE,fM,hb,hT,hR,hg,jV,ht,rz,hn,rA,ct,nc,jF,s5,pM];all_goals ((repeat' apply And.intro)<;>first|omega|rfl)
 have rA: ¬(ax.length:Int)<=n:=by omega
 have hI:=HG.prog.AW (p:=(Prog.mk ax ae ay)) sv;simp only at hI;obtain⟨⟨op,ai,bi,ci,ed⟩,hi⟩: ∃i,ax[n]=i:=⟨_,rfl⟩;rw[hi]at hI;obtain⟨o1,ia,ib,ic,im,ij,il,is⟩:=hI;simp only at o1 ia ib ic im ij il is;obtain⟨a,rfl⟩:=aaG ia.1;obtain⟨b',rfl⟩:=aaG ib.1;obtain⟨c,rfl⟩:=aaG ic.1;have a8:(a:Int)<8/\(b':Int)<8/\(c:Int)<8/\a<8/\b'<8/\c<8:=by omega
 have al:a<x.bz.length:=by omega
 have bl:b'<x.bz.length:=by omega
 have cl:c<x.bz.length:=by omega
 have ie:IntKind.u16.wrap ed=ed:=wrap_u16 im;have hL:=HG.lay;have hlen:=hL.len;simp only at hL hlen;obtain⟨B,LG,EF,⟨nB,nB2,az5,nB3,nBk⟩,nBi,nBr⟩: ∃B,vB= .cu B 0 mm.layout.aD.length/\h B=some ⟨1,mm.layout.aD.map (V.int .i64),false⟩/\(B≠b/\B≠C/\B≠L/\B≠T/\B<k)/\(∀j,j<4->ids j≠B)/\ ∀i,i<4->bu i≠B:=by
  rcases H.aD with e|e
  ·obtain⟨_,e2⟩:=hBB;rw[e]at e2;cases e2
  ·exact e
 have nB4: ∀j,¬B=k+j:=fun j=>by omega
 have NW: ¬B=k:=by omega
 have vL: ∀y:Cell,(⟨y.tag,y.val⟩:Cell)=y:=fun _=>rfl;have pL:(Layout.mk mm.layout.aD mm.layout.key)=mm.layout:=rfl;have hs: ∀r,iU (Prog.mk ax ae ay) mm x ⟨op,a,b',c,ed⟩=r->ny (Prog.mk ax ae ay) mm (cg mm tn)=r:=fun r g=>by rw[xU,GM (p:=(Prog.mk ax ae ay)) hn sv hi,g]
 obtain⟨xa,tK⟩: ∃v,x.bz[a]=v:=⟨_,rfl⟩;obtain⟨xb,xM⟩: ∃v,x.bz[b']=v:=⟨_,rfl⟩;obtain⟨xc,xce⟩: ∃v,x.bz[c]=v:=⟨_,rfl⟩;have ra:kr x a=xa:=by rw[mJ al,tK]
 have rb:kr x b'=xb:=by rw[mJ bl,xM]
 have rc:kr x c=xc:=by rw[mJ cl,xce]
 have ca:jd xa:=by rw[<-ra];exact j6 rI _
 have cb:jd xb:=by rw[<-rb];exact j6 rI _
 have cc:jd xc:=by rw[<-rc];exact j6 rI _
 have gY:=H.mem.lt;have HM: ∀(h1:bh) (j:Nat),Below k h h1->kz h1 (k+j) b C L ids vB (.int .u16 mm.layout.key) (.cu T 0 4) mm.memory:=fun h1 j ju=>by have:=(H.mono (k':=k+j) (by omega) ju).mem;rwa[hl]at this
 have br:fQ 18=true/\fQ 19=true/\fQ 20=true/\fQ 21=true/\fQ 22=true/\fQ 24=true/\ ∀o:Int,0<=o->o<=17->fQ o=false:=⟨by decide,by decide,by decide,by decide,by decide,by decide,fun o h1 h2=>by simp[fQ,jumps];omega⟩;obtain⟨br1,br2,br3,br4,br5,br6,br7⟩:=br;have oc:op=0\/op=1\/op=2\/(3<=op/\op<=14)\/op=15\/op=16\/op=17\/op=18\/op=19\/op=20\/op=21\/op=22\/op=23\/op=24:=by omega
 rcases oc with rfl|rfl|rfl|ho|rfl|rfl|rfl|rfl|rfl|rfl|rfl|rfl|rfl|rfl
 ·refine gX.of H ht (vM x (n+1) x.bz) (-1) (hs _ (by simp[iU,hn,vM])) (aaB ?_);simp[aaE,fM,hb,hT,hR,hg,jV,ht,rz,hn,sv,rA,hi,wz,qB,h8,a8,tK,xM,qM,s5,q1,pM,br7];all_goals ((repeat' apply And.intro)<;>first|omega|rfl)
 ·refine gX.of H ht (vM x (n+1) (x.bz.set a ⟨0,ed⟩)) (-1) (hs _ (by simp[iU,hn,oJ,vM])) (aaB ?_);simp[aaE,fM,hb,hT,hR,hg,jV,ht,rz,hn,sv,rA,hi,wz,qB,h8,a8,tK,xM,qM,ie,s5,Hv,q1,pM,br7,Cell.bS];all_goals ((repeat' apply And.intro)<;>first|omega|rfl)
 ·refine gX.of H ht (vM x (n+1) (x.bz.set a xb)) (-1) (hs _ (by simp[iU,hn,oJ,rb,vM])) (aaB ?_);simp[aaE,fM,hb,hT,hR,hg,jV,ht,rz,hn,sv,rA,hi,wz,qB,h8,a8,tK,xM,qM,s5,Hv,q1,pM,br7];all_goals ((repeat' apply And.intro)<;>first|omega|rfl)
 ·exact Wu ax ae ay m t h k b vB C L T ids bu mm tn d H HG hd ht hBB ⟨by rw[xU,hn];omega,by rw[xU,hn,aaH,show ax.getD n qO=ax[n] by simp[List.getD,sv],hi];exact ho⟩
 ·obtain⟨Iq,rfl⟩:=aaG im.1;have i1:=il rfl;have i2:Iq<ae.length:=by omega
  have i3:Iq<mm.layout.aD.length:=by rw[hlen];exact i2
  have i3i:(Iq:Int)<mm.layout.aD.length:=by omega
  have bb:=hL.base Iq i3 i2;have zz:=hL.sz.elem Iq i2;have FV:IntKind.u16.wrap mm.layout.aD[Iq]=mm.layout.aD[Iq]:=wrap_u16 (by omega);have Cr:nth mm.layout.aD Iq=mm.layout.aD[Iq]:=dC i3;refine gX.of H ht (vM x (n+1) (x.bz.set a ⟨1,mm.layout.aD[Iq]⟩)) (-1) (hs _ (by simp[iU,hn,oJ,Cr])) (aaB ?_);simp[aaE,fM,hb,hT,hR,hg,jV,ht,rz,hn,sv,rA,hi,wz,qB,h8,a8,tK,xM,qM,s5,Hv,q1,pM,br7,Cell.bS,LG,EF,nB4,NW,i3,i3i,FV];all_goals ((repeat' apply And.intro)<;>first|omega|rfl)
 ·obtain⟨r,w,GN⟩: ∃r w,jL mm.layout.aD ae xb ed false=(r,w):=⟨_,_,rfl⟩;have c2:=cb.2;have RL:=sJ (aD:=mm.layout.aD) (an:=ae) hL (p:=xb) (n:=ed) (back:=false);rw[GN]at RL;simp only at RL;by_cases xh:w=0
  case neg=>
   obtain⟨xt,xv⟩:=xb;simp only at c2;refine gX.of H ht (iV x w) 2 (hs _ (by simp[iU,rb,GN,xh])) (aaB ?_);simp[aaE,fM,hb,hT,hR,hg,jV,ht,rz,hn,sv,rA,hi,ct,nc,jF,h8,a8,tK,xM,qM,ie,s5,q1,pM,hL,LG,EF,nB4,NW,im,c2,GN,xh];all_goals ((repeat' apply And.intro)<;>first|omega|rfl)
  obtain⟨av,hr,Ir⟩:=RL xh;subst xh;subst hr;have JO:IntKind.i64.wrap (av:Int)=av:=wrap_i64 (by omega);have lf: ∀(h1:bh) (j:Nat),Below k h h1->cL X 273 [.ptr b 0 2,(av:Int)] h1 (k+j)=some (((KKf (nf mm.memory av):V)),cH 273 [.ptr b 0 2,(av:Int)] h1 (k+j),cK 273 [.ptr b 0 2,(av:Int)] h1 (k+j))/\ ∃iv,dU (cH 273 [.ptr b 0 2,(av:Int)] h1 (k+j)) (cK 273 [.ptr b 0 2,(av:Int)] h1 (k+j)) b vB C L T iv bu ⟨mm.layout,dr mm.memory av,mm.threads⟩/\k+j<=cK 273 [.ptr b 0 2,(av:Int)] h1 (k+j)/\(∀j,j<4->iv j=ids j\/k<=iv j)/\ ∀i,i<k+j->i≠C->i≠L->(∀j,j<4->i≠ids j)->cH 273 [.ptr b 0 2,(av:Int)] h1 (k+j) i=h1 i:=fun h1 j ju=>by
   obtain⟨h',k',iI,e,G,g1,g2,g3⟩:=as2 .bad 0 h1 (k+j) b C L ids vB (.int .u16 mm.layout.key) (.cu T 0 4) mm.memory av (HM h1 j ju) Ir;have e:cL X 273 [.ptr b 0 2,(av:Int)] h1 (k+j)=some (((KKf (nf mm.memory av):V)),h',k'):=e;obtain⟨e1,e2⟩:=xK e;rw[e1,e2];have HH:dU h1 (k+j) b vB C L T ids bu mm:=H.mono (by omega) ju;exact⟨e,iI,HH.memory g1 (by rw[hl];exact G) g2 g3,g1,fun j hj=>by rcases g2 j hj with e|e;exact .inl e;exact .inr (by omega),g3⟩
  have cl:=fun h1 j ju=>(lf h1 j ju).1;have lT: ∀(h1:bh) (j:Nat),Below k h h1->cH 273 [.ptr b 0 2,(av:Int)] h1 (k+j) T=some ⟨8,cG bu mm.threads,true⟩:=fun h1 j ju=>by obtain⟨_,_,G,_⟩:=lf h1 j ju;exact G.pg
  have lR: ∀(h1:bh) (j:Nat),Below k h h1->cH 273 [.ptr b 0 2,(av:Int)] h1 (k+j) (bu tn)=some ⟨2,x.bz.map Cell.e,false⟩:=fun h1 j ju=>by obtain⟨_,_,G,_⟩:=lf h1 j ju;rw[G.GJ tn np];simp only[pO]
  have lF: ∀(h1:bh) (j i:Nat),Below k h h1->i<j->cH 273 [.ptr b 0 2,(av:Int)] h1 (k+j) (k+i)=h1 (k+i):=fun h1 j i ju mz=>by
   obtain⟨_,_,_,_,_,g⟩:=lf h1 j ju;exact g (k+i) (by omega) (by omega) (by omega) fun j hj=>by have:=gY.2.2.2 j hj;omega
  have lF0: ∀(h1:bh) (j:Nat),Below k h h1->0<j->cH 273 [.ptr b 0 2,(av:Int)] h1 (k+j) k=h1 k:=fun h1 j ju mz=>lF h1 j 0 ju mz;have key:gX (cL X 246 [KKQ ax ae ay,.ptr b 0 0,(tn:Int)] h k) (Prog.mk ax ae ay) h k b vB C L T ids bu mm tn:=by
   have he:=bC (X:=X) (g:=246) (args:=[KKQ ax ae ay,.ptr b 0 0,(tn:Int)]) (h:=h) (k:=k) (K:=DK h k T bu tn mm.threads 273 [.ptr b 0 2,(av:Int)] (vM x (n+1) (x.bz.set a (nf mm.memory av))) (-1)) Tryz.func246 rfl rfl (by
    simp[aaE,hb,hT,hR,hg,jV,ht,rz,hn,sv,rA,hi,h8,a8,tK,xM,qM,ie,Hv,q1,pM,br7,hL,LG,EF,nB4,NW,im,c2,GN,JO,cl,lT,lR,lF];exact adn (by simp only[cE,cM,cP]) s5 (by simp only[qB,aaN,h8]) (by simp[wz,Cell.bS]))
   obtain⟨v,h',n',e,h1,j,ju,hE⟩:=he;obtain⟨_,iv,G,g1,gi,g2⟩:=lf h1 j ju;refine gX.ao9 H ht G (by omega) gi (fun i hi hC Io uk=>by rw[g2 i (by omega) hC Io uk,ju i hi]) (vM x (n+1) (x.bz.set a (nf mm.memory av))) (-1) (hs _ (by simp[iU,hn,oJ,rb,GN])) ⟨v,h',n',e,hE⟩
  exact key
 ·obtain⟨r,w,GN⟩: ∃r w,jL mm.layout.aD ae xa ed false=(r,w):=⟨_,_,rfl⟩;have c2:=ca.2;have RL:=sJ (aD:=mm.layout.aD) (an:=ae) hL (p:=xa) (n:=ed) (back:=false);rw[GN]at RL;simp only at RL;by_cases xh:w=0
  case neg=>
   obtain⟨xt,xv⟩:=xa;simp only at c2;refine gX.of H ht (iV x w) 2 (hs _ (by simp[iU,ra,GN,xh])) (aaB ?_);simp[aaE,fM,hb,hT,hR,hg,jV,ht,rz,hn,sv,rA,hi,ct,nc,jF,h8,a8,tK,xM,qM,ie,s5,q1,pM,hL,LG,EF,nB4,NW,im,c2,GN,xh];all_goals ((repeat' apply And.intro)<;>first|omega|rfl)
  obtain⟨av,hr,Ir⟩:=RL xh;subst xh;subst hr;have JO:IntKind.i64.wrap (av:Int)=av:=wrap_i64 (by omega);have lf: ∀(h1:bh) (j:Nat),Below k h h1->cL X 251 [.ptr b 0 2,(av:Int),KKf xb] h1 (k+j)=some ((.dM []),cH 251 [.ptr b 0 2,(av:Int),KKf xb] h1 (k+j),cK 251 [.ptr b 0 2,(av:Int),KKf xb] h1 (k+j))/\ ∃iv,dU (cH 251 [.ptr b 0 2,(av:Int),KKf xb] h1 (k+j)) (cK 251 [.ptr b 0 2,(av:Int),KKf xb] h1 (k+j)) b vB C L T iv bu ⟨mm.layout,mE mm.memory av xb,mm.threads⟩/\k+j<=cK 251 [.ptr b 0 2,(av:Int),KKf xb] h1 (k+j)/\(∀j,j<4->iv j=ids j\/k<=iv j)/\ ∀i,i<k+j->i≠C->i≠L->(∀j,j<4->i≠ids j)->cH 251 [.ptr b 0 2,(av:Int),KKf xb] h1 (k+j) i=h1 i:=fun h1 j ju=>by
   obtain⟨h',k',iI,e,G,g1,g2,g3⟩:=Tv .bad 0 xb.tag xb.val h1 (k+j) b C L ids vB (.int .u16 mm.layout.key) (.cu T 0 4) mm.memory av xb (HM h1 j ju) Ir cb.oG;have e:cL X 251 [.ptr b 0 2,(av:Int),KKf xb] h1 (k+j)=some ((.dM []),h',k'):=e;obtain⟨e1,e2⟩:=xK e;rw[e1,e2];have HH:dU h1 (k+j) b vB C L T ids bu mm:=H.mono (by omega) ju;exact⟨e,iI,HH.memory g1 (by rw[hl];exact G) g2 g3,g1,fun j hj=>by rcases g2 j hj with e|e;exact .inl e;exact .inr (by omega),g3⟩
  have cl:=fun h1 j ju=>(lf h1 j ju).1;have lT: ∀(h1:bh) (j:Nat),Below k h h1->cH 251 [.ptr b 0 2,(av:Int),KKf xb] h1 (k+j) T=some ⟨8,cG bu mm.threads,true⟩:=fun h1 j ju=>by obtain⟨_,_,G,_⟩:=lf h1 j ju;exact G.pg
  have lR: ∀(h1:bh) (j:Nat),Below k h h1->cH 251 [.ptr b 0 2,(av:Int),KKf xb] h1 (k+j) (bu tn)=some ⟨2,x.bz.map Cell.e,false⟩:=fun h1 j ju=>by obtain⟨_,_,G,_⟩:=lf h1 j ju;rw[G.GJ tn np];simp only[pO]
  have lF: ∀(h1:bh) (j i:Nat),Below k h h1->i<j->cH 251 [.ptr b 0 2,(av:Int),KKf xb] h1 (k+j) (k+i)=h1 (k+i):=fun h1 j i ju mz=>by
   obtain⟨_,_,_,_,_,g⟩:=lf h1 j ju;exact g (k+i) (by omega) (by omega) (by omega) fun j hj=>by have:=gY.2.2.2 j hj;omega
  have lF0: ∀(h1:bh) (j:Nat),Below k h h1->0<j->cH 251 [.ptr b 0 2,(av:Int),KKf xb] h1 (k+j) k=h1 k:=fun h1 j ju mz=>lF h1 j 0 ju mz;have key:gX (cL X 246 [KKQ ax ae ay,.ptr b 0 0,(tn:Int)] h k) (Prog.mk ax ae ay) h k b vB C L T ids bu mm tn:=by
   have he:=bC (X:=X) (g:=246) (args:=[KKQ ax ae ay,.ptr b 0 0,(tn:Int)]) (h:=h) (k:=k) (K:=DK h k T bu tn mm.threads 251 [.ptr b 0 2,(av:Int),KKf xb] (vM x (n+1) x.bz) (-1)) Tryz.func246 rfl rfl (by
    simp[aaE,hb,hT,hR,hg,jV,ht,rz,hn,sv,rA,hi,h8,a8,tK,xM,qM,ie,q1,pM,br7,hL,LG,EF,nB4,NW,im,c2,GN,JO,cl,lT,lF];exact ado (by simp only[cE,cM,cP]) s5 (by simp only[qB,h8]) (lR _ _ (by simp only[cE,cM,cP])))
   obtain⟨v,h',n',e,h1,j,ju,hE⟩:=he;obtain⟨_,iv,G,g1,gi,g2⟩:=lf h1 j ju;refine gX.ao9 H ht G (by omega) gi (fun i hi hC Io uk=>by rw[g2 i (by omega) hC Io uk,ju i hi]) (vM x (n+1) x.bz) (-1) (hs _ (by simp[iU,hn,ra,rb,GN])) ⟨v,h',n',e,hE⟩
  exact key
 ·refine gX.of H ht (mV x ed x.bz x.saved) (-1) (hs _ (by simp[iU,mV])) (aaB ?_);simp[aaE,fM,hb,hT,hR,hg,jV,ht,rz,hn,sv,rA,hi,jr,hY,h8,a8,tK,xM,qM,JN,s5,q1,pM,br1];all_goals ((repeat' apply And.intro)<;>first|omega|rfl)
 ·by_cases t0:xa.tag=0
  ·by_cases v0:xa.val=0
   ·refine gX.of H ht (mV x ed x.bz x.saved) (-1) (hs _ (by simp[iU,ra,t0,v0])) (aaB ?_);simp[aaE,fM,hb,hT,hR,hg,jV,ht,rz,hn,sv,rA,hi,jr,hY,h8,a8,tK,xM,qM,JN,s5,q1,pM,br2,t0,v0];all_goals ((repeat' apply And.intro)<;>first|omega|rfl)
   ·refine gX.of H ht (mV x (n+1) x.bz x.saved) (-1) (hs _ (by simp[iU,hn,ra,t0,v0])) (aaB ?_);simp[aaE,fM,hb,hT,hR,hg,jV,ht,rz,hn,sv,rA,hi,jr,hY,h8,a8,tK,xM,qM,JN,s5,q1,pM,br2,t0,v0];all_goals ((repeat' apply And.intro)<;>first|omega|rfl)
  ·refine gX.of H ht (iV x 3) (2) (hs _ (by simp[iU,ra,t0])) (aaB ?_);simp[aaE,fM,hb,hT,hR,hg,jV,ht,rz,hn,sv,rA,hi,ct,nc,jF,h8,a8,tK,xM,qM,s5,q1,pM,t0];all_goals ((repeat' apply And.intro)<;>first|omega|rfl)
 ·by_cases t0:xa.tag=0
  ·by_cases v0:xa.val=0
   ·refine gX.of H ht (mV x (n+1) x.bz x.saved) (-1) (hs _ (by simp[iU,hn,ra,t0,v0])) (aaB ?_);simp[aaE,fM,hb,hT,hR,hg,jV,ht,rz,hn,sv,rA,hi,jr,hY,h8,a8,tK,xM,qM,JN,s5,q1,pM,br3,t0,v0];all_goals ((repeat' apply And.intro)<;>first|omega|rfl)
   ·refine gX.of H ht (mV x ed x.bz x.saved) (-1) (hs _ (by simp[iU,ra,t0,v0])) (aaB ?_);simp[aaE,fM,hb,hT,hR,hg,jV,ht,rz,hn,sv,rA,hi,jr,hY,h8,a8,tK,xM,qM,JN,s5,q1,pM,br3,t0,v0];all_goals ((repeat' apply And.intro)<;>first|omega|rfl)
  ·refine gX.of H ht (iV x 3) (2) (hs _ (by simp[iU,ra,t0])) (aaB ?_);simp[aaE,fM,hb,hT,hR,hg,jV,ht,rz,hn,sv,rA,hi,ct,nc,jF,h8,a8,tK,xM,qM,s5,q1,pM,t0];all_goals ((repeat' apply And.intro)<;>first|omega|rfl)
 ·have atd:IntKind.u16.wrap ((n:Int)+1)=(n:Int)+1:=wrap_u16 (by omega);refine gX.of H ht (mV x ed (x.bz.set a ⟨0,n+1⟩) x.saved) (-1) (hs _ (by simp[iU,hn,oJ])) (aaB ?_);simp[aaE,fM,hb,hT,hR,hg,jV,ht,rz,hn,sv,rA,hi,jr,hY,h8,a8,tK,xM,qM,JN,s5,Hv,q1,pM,br4,Cell.bS,atd];all_goals ((repeat' apply And.intro)<;>first|omega|rfl)
 ·by_cases t0:xa.tag=0
  ·by_cases v0:255<xa.val
   ·refine gX.of H ht (iV x 2) (2) (hs _ (by simp[iU,ra,t0,v0])) (aaB ?_);simp[aaE,fM,hb,hT,hR,hg,jV,ht,rz,hn,sv,rA,hi,ct,nc,jF,h8,a8,tK,xM,qM,s5,q1,pM,t0,v0];all_goals ((repeat' apply And.intro)<;>first|omega|rfl)
   ·have hwv:IntKind.i64.wrap xa.val=xa.val:=wrap_i64 (by have:=ca.2;omega);refine gX.of H ht (mV x xa.val x.bz x.saved) (-1) (hs _ (by simp[iU,ra,t0,v0])) (aaB ?_);simp[aaE,fM,hb,hT,hR,hg,jV,ht,rz,hn,sv,rA,hi,jr,hY,h8,a8,tK,xM,qM,JN,s5,q1,pM,br5,t0,v0,hwv];all_goals ((repeat' apply And.intro)<;>first|omega|rfl)
  ·refine gX.of H ht (iV x 3) (2) (hs _ (by simp[iU,ra,t0])) (aaB ?_);simp[aaE,fM,hb,hT,hR,hg,jV,ht,rz,hn,sv,rA,hi,ct,nc,jF,h8,a8,tK,xM,qM,s5,q1,pM,t0];all_goals ((repeat' apply And.intro)<;>first|omega|rfl)
 ·refine gX.of H ht (uT x) (1) (hs _ (by simp[iU])) (aaB ?_);simp[aaE,fM,hb,hT,hR,hg,jV,ht,rz,hn,sv,rA,hi,GL,B0,h8,a8,tK,xM,qM,s5,q1,pM];all_goals ((repeat' apply And.intro)<;>first|omega|rfl)
 ·by_cases hsv:x.saved= -1
  ·refine gX.of H ht (iV x 1) (2) (hs _ (by simp[iU,hsv])) (aaB ?_);simp[aaE,fM,hb,hT,hR,hg,jV,ht,rz,hn,sv,rA,hi,ct,nc,jF,h8,a8,tK,xM,qM,s5,q1,pM,hsv];all_goals ((repeat' apply And.intro)<;>first|omega|rfl)
  ·refine gX.of H ht (mV x x.saved x.bz (-1)) (-1) (hs _ (by simp[iU,hsv])) (aaB ?_);simp[aaE,fM,hb,hT,hR,hg,jV,ht,rz,hn,sv,rA,hi,jr,hY,h8,a8,tK,xM,qM,JN,s5,q1,pM,br6,hsv];all_goals ((repeat' apply And.intro)<;>first|omega|rfl)
end Go.Proofs.YtdngefmliibcgaaGreat
