/- part -/
import Derived.Test.YtdngefmliibcgaaGreatV08
set_option linter.all false
set_option maxRecDepth 20000
set_option maxHeartbeats 20000000
namespace Go.Proofs.YtdngefmliibcgaaGreat
open Go Go.Abs Go.Abs.kI Qf
variable  {x x':Thread}{mem WW:aF}{p:Prog}{g:FuncId}{ts:List Thread}{s:Int}
def alp(h:bh)(k b C L T:Nat)(ids bw:Nat->Nat)(vB:V)(bs:List Int):Prop:=
 vB= .sl false (bs.map (V.int .i64))\/ ∃B,vB= .cx B 0 bs.length/\h B=some ⟨1,bs.map (V.int .i64),false⟩/\(B≠b/\B≠C/\B≠L/\B≠T/\B<k)/\(∀j,j<4->ids j≠B)/\ ∀i,i<4->bw i≠B
structure dV (h:bh) (k b:Nat) (vB:V) (C L T:Nat) (ids bw:Nat->Nat) (m:aO):Prop where
 mem:kD h k b C L ids vB (.int .u16 m.layout.key) (.cx T 0 m.threads.length) m.memory
 aD:alp h k b C L T ids bw vB m.layout.aD
 pe:h T=some ⟨8,cG bw m.threads,true⟩
 G0: ∀i (g:i<m.threads.length),h (bw i)=some ⟨2,(m.threads[i]).bp.map Cell.e,false⟩
 len:m.threads.length=4
 xr:T≠b/\T≠C/\T≠L/\T<k
 Sm: ∀j,j<4->ids j≠T
 qR: ∀i,i<4->bw i≠b/\bw i≠C/\bw i≠L/\bw i≠T/\bw i<k
 T7: ∀i j,i<4->j<4->ids j≠bw i
 Ka: ∀i j,i<4->j<4->i≠j->bw i≠bw j
section
variable {h h':bh} {k k' b C L T:Nat} {vB:V} {ids iJ bw:Nat->Nat} {m:aO}
theorem dV.mono(H:dV h k b vB C L T ids bw m)(hk:k<=k')(hh: ∀i,i<k->h' i=h i):dV h' k' b vB C L T ids bw m:=by
 obtain⟨h1,h2,h3,h4,h0,h6,h7,h8,h9,zG⟩:=H;refine⟨h1.mono hk hh,?_,by rw[hh _ h6.2.2.2,h3],fun i g=>by rw[hh _ (h8 i (by omega)).2.2.2.2,h4 i g],h0,⟨h6.1,h6.2.1,h6.2.2.1,by omega⟩,h7,
  fun i hi=>by obtain⟨a1,a3,a4,a5,a6⟩:=h8 i hi;exact⟨a1,a3,a4,a5,by omega⟩,h9,zG⟩
 rcases h2 with e|⟨B,e,g1,g2,g3,g4⟩
 ·exact .inl e
 ·exact .inr ⟨B,e,by rw[hh _ g2.2.2.2.2,g1],by omega,g3,g4⟩
theorem dV.put (H:dV h k b vB C L T ids bw m) (hk:k<=k') {t:Nat} (ht:t<4)  (hT:h' T=some ⟨8,cG bw (m.threads.set t x),true⟩) (hR:h' (bw t)=some ⟨2,x.bp.map Cell.e,false⟩)
  (hh: ∀i,i<k->i≠T->i≠bw t->h' i=h i):dV h' k' b vB C L T ids bw (iZ m m.memory t x):=by
 obtain⟨h1,h2,h3,h4,h0,h6,h7,h8,h9,zG⟩:=H;obtain⟨r1,r3,r4,r5,r6⟩:=h8 t ht;have gZ:=h1.lt;refine⟨?_,?_,hT,fun i g=> ?_,by simp[iZ,h0],⟨h6.1,h6.2.1,h6.2.2.1,by omega⟩,h7,fun i hi=>by obtain⟨a1,a3,a4,a5,a6⟩:=h8 i hi;exact⟨a1,a3,a4,a5,by omega⟩,h9,zG⟩
 ·have e:(iZ m m.memory t x).threads.length=m.threads.length:=by simp[iZ]
  rw[e];exact h1.eU hk (hh _ gZ.1 (aaU h6.1) (aaU r1)) (hh _ gZ.2.1 (aaU h6.2.1) (aaU r3)) (hh _ gZ.2.2.1 (aaU h6.2.2.1) (aaU r4)) fun j hj=>hh _ (gZ.2.2.2 j hj) (h7 j hj) (h9 t j ht hj)
 ·rcases h2 with e|⟨B,e,g1,g2,g3,g4⟩
  ·exact .inl e
  ·exact .inr ⟨B,e,by rw[hh _ g2.2.2.2.2 g2.2.2.2.1 (aaU (g4 t ht)),g1];rfl,by omega,g3,g4⟩
 ·simp only[iZ,aaN]at g;simp only[iZ,abA];split
  ·rename_i e;subst e;exact hR
  ·rename_i e;rw[hh _ (h8 i (by omega)).2.2.2.2 (h8 i (by omega)).2.2.2.1 (zG i t (by omega) ht (fun h=>e h.symm)),h4 i g]
theorem dV.memory (H:dV h k b vB C L T ids bw m) (hk:k<=k')  (hM:kD h' k' b C L iJ vB (.int .u16 m.layout.key) (.cx T 0 m.threads.length) mem)
  (hi: ∀j,j<4->iJ j=ids j\/k<=iJ j) (hh: ∀i,i<k->i≠C->i≠L->(∀j,j<4->i≠ids j)->h' i=h i):dV h' k' b vB C L T iJ bw ⟨m.layout,mem,m.threads⟩:=by
 obtain⟨h1,h2,h3,h4,h0,h6,h7,h8,h9,zG⟩:=H;refine⟨hM,?_,?_,fun i g=> ?_,h0,⟨h6.1,h6.2.1,h6.2.2.1,by omega⟩,fun j hj=> ?_,fun i hi=>by obtain⟨a1,a3,a4,a5,a6⟩:=h8 i hi;exact⟨a1,a3,a4,a5,by omega⟩,fun i j oy hj=> ?_,zG⟩
 ·rcases h2 with e|⟨B,e,g1,g2,g3,g4⟩
  ·exact .inl e
  ·refine .inr ⟨B,e,by rw[hh _ g2.2.2.2.2 g2.2.1 g2.2.2.1 fun j hj=>aaU (g3 j hj),g1],by omega,fun j hj=> ?_,g4⟩;rcases hi j hj with e|e
   ·rw[e];exact g3 j hj
   ·have:=g2.2.2.2.2;omega
 ·rw[hh _ h6.2.2.2 h6.2.1 h6.2.2.1 fun j hj=>aaU (h7 j hj),h3]
 ·obtain⟨a1,a3,a4,a5,a6⟩:=h8 i (by simp only at g;omega);rw[hh _ a6 a3 a4 fun j hj=>aaU (h9 i j (by simp only at g;omega) hj),h4 i g]
 ·rcases hi j hj with e|e
  ·rw[e];exact h7 j hj
  ·have:=h6.2.2.2;omega
 ·rcases hi j hj with e|e
  ·rw[e];exact h9 i j oy hj
  ·have:=(h8 i oy).2.2.2.2;omega
structure gX (h:bh) (k:Nat) (vB:V) (C L T:Nat) (ids bw:Nat->Nat) (m:aO):Prop where
 mp:ud m.memory
 mem:Oe h C L ids m.memory
 sep:Sb C L ids
 lt:C<k/\L<k/\ ∀i,i<4->ids i<k
 aD:vB= .sl false (m.layout.aD.map (V.int .i64))\/ ∃B,vB= .cx B 0 m.layout.aD.length/\h B=some ⟨1,m.layout.aD.map (V.int .i64),false⟩/\(B≠C/\B≠L/\B≠T/\B<k)/\(∀j,j<4->ids j≠B)/\ ∀i,i<4->bw i≠B
 pe:h T=some ⟨8,cG bw m.threads,true⟩
 G0: ∀i (g:i<m.threads.length),h (bw i)=some ⟨2,(m.threads[i]).bp.map Cell.e,false⟩
 len:m.threads.length=4
 xr:T≠C/\T≠L/\T<k
 Sm: ∀j,j<4->ids j≠T
 qR: ∀i,i<4->bw i≠C/\bw i≠L/\bw i≠T/\bw i<k
 T7: ∀i j,i<4->j<4->ids j≠bw i
 Ka: ∀i j,i<4->j<4->i≠j->bw i≠bw j
def jE(vB:V)(C L T:Nat)(m:aO):V:= (KKE vB m.layout.key (.cx C 0 512) (.cx L 0 4) (.cx T 0 m.threads.length):V)
theorem ji(vB:V)(C L T:Nat)(m:aO):(jE vB C L T m).cells=[vB,.int .u16 m.layout.key,.cx C 0 512,.cx L 0 4,.cx T 0 m.threads.length]:=rfl
theorem jI(vB:V)(C L T:Nat)(m:aO):(jE vB C L T m).fits 5=true:=rfl
def oP(k:Nat)(vB:V)(C L T:Nat)(ids bw:Nat->Nat):Prop:=(k<=C/\k<=L/\k<=T)/\(∀j,j<4->k<=ids j/\k<=bw j)/\ ∀B s n,vB= .cx B s n->k<=B
theorem gX.mono(H:gX h k vB C L T ids bw m){a:Nat}(hA:oP a vB C L T ids bw)(hk:k<=k')(hh: ∀i,a<=i->i<k->h' i=h i):gX h' k' vB C L T ids bw m:=by
 obtain⟨h0,h1,h2,h3,h4,h5,h6,h7,h9,zG,F9,L7,h13⟩:=H;obtain⟨⟨aC,aL,aT⟩,aI,aB⟩:=hA;refine⟨h0,⟨by rw[hh _ aC h3.1,h1.cells],by rw[hh _ aL h3.2.1,h1.lines],fun i g=> ?_⟩,h2,⟨by omega,by omega,fun i hi=>by have:=h3.2.2 i hi;omega⟩,?_,by rw[hh _ aT h9.2.2,h5],fun i g=> ?_,h7,by omega,zG,fun i hi=>by have:=F9 i hi;omega,L7,h13⟩
 ·have hi:i<4:=by have:=h0.lines;omega
  rw[hh _ (aI i hi).1 (h3.2.2 i hi),h1.line i g]
 ·rcases h4 with e|⟨B,e,g1,g2,g3,g4⟩
  ·exact .inl e
  ·exact .inr ⟨B,e,by rw[hh _ (aB _ _ _ e) g2.2.2.2,g1],by omega,g3,g4⟩
 ·rw[hh _ (aI i (by omega)).2 (F9 i (by omega)).2.2.2,h6 i g]
theorem gX.box(H:gX h k vB C L T ids bw m)(hb:b<k->(∀B s n,vB= .cx B s n->b≠B)/\b≠C/\b≠L/\b≠T/\ ∀j,j<4->b≠ids j/\b≠bw j)(hk:b<k')(v7:k<=k')(hB:h' b=some ⟨5,[jE vB C L T m],true⟩)(hh: ∀i,i<k->i≠b->h' i=h i):dV h' k' b vB C L T ids bw m:=by
 obtain⟨h0,h1,h2,h3,h4,h5,h6,h7,h9,zG,F9,L7,h13⟩:=H;have nC:C≠b:=fun e=>by have:=hb (by omega);exact this.2.1 e.symm
 have nL:L≠b:=fun e=>by have:=hb (by omega);exact this.2.2.1 e.symm
 have nT:T≠b:=fun e=>by have:=hb (by omega);exact this.2.2.2.1 e.symm
 have nI: ∀j,j<4->ids j≠b:=fun j hj e=>by have:=hb (by have:=h3.2.2 j hj;omega);exact(this.2.2.2.2 j hj).1 e.symm
 have nR: ∀j,j<4->bw j≠b:=fun j hj e=>by have:=hb (by have:=F9 j hj;omega);exact(this.2.2.2.2 j hj).2 e.symm
 refine⟨⟨hB,⟨by rw[hh _ h3.1 nC,h1.cells],by rw[hh _ h3.2.1 nL,h1.lines],fun i g=> ?_⟩,h2,⟨aaU nL,aaU nC⟩,nI,⟨hk,by omega,by omega,fun i hi=>by have:=h3.2.2 i hi;omega⟩,h0⟩,?_,?_,fun i g=> ?_,h7,⟨nT,h9.1,h9.2.1,by omega⟩,zG,fun i hi=> ?_,L7,h13⟩
 ·have hi:i<4:=by have:=h0.lines;omega
  rw[hh _ (h3.2.2 i hi) (nI i hi),h1.line i g]
 ·rcases h4 with e|⟨B,e,g1,g2,g3,g4⟩
  ·exact .inl e
  ·have nB:B≠b:=fun e2=>by have:=hb (by omega);exact this.1 _ _ _ e e2.symm
   exact .inr ⟨B,e,by rw[hh _ g2.2.2.2 nB,g1],⟨nB,g2.1,g2.2.1,g2.2.2.1,by omega⟩,g3,g4⟩
 ·rw[hh _ h9.2.2 nT,h5]
 ·rw[hh _ (F9 i (by omega)).2.2.2 (nR i (by omega)),h6 i g]
 ·obtain⟨a2,a3,a4,a5⟩:=F9 i hi;exact⟨nR i hi,a2,a3,a4,by omega⟩
theorem dV.at(H:dV h k b vB C L T ids bw m):gX h k vB C L T ids bw m:=by
 obtain⟨h1,h2,h3,h4,h0,h6,h7,h8,h9,zG⟩:=H;refine⟨h1.mem,h1.at_,h1.sep,h1.lt.2,?_,h3,h4,h0,⟨h6.2.1,h6.2.2.1,h6.2.2.2⟩,h7,fun i hi=>(h8 i hi).2,h9,zG⟩;rcases h2 with e|⟨B,e,g1,g2,g3,g4⟩
 ·exact .inl e
 ·exact .inr ⟨B,e,g1,g2.2,g3,g4⟩
theorem dV.xQ(H:dV h k b vB C L T ids bw m):h b=some ⟨5,[jE vB C L T m],true⟩:=H.mem.box
theorem nq{α:Type}{g:V->Option V}{e:α->V}: ∀(l:List α) (f:Nat->α->V) (h: ∀i (hi:i<l.length),g (f i l[i])=some (e l[i])),cF ((l.mapIdx f).map g)=some (l.map e):=by
 intro l;induction l with
 |nil=>intro _ _;rfl
 |cons a l ih=>
  intro f h;have h0:=h 0 (by simp);have:=ih (fun i=>f (i+1)) fun i hi=>h (i+1) (by simpa using hi);simp only[acB]at h0;rw[aeR,aaV,aaV,h0];rw[cF.eq_3,this]
theorem gX.EW(H:gX h k vB C L T ids bw m){hx:bh}(hx1: ∀i,i<4->hx (bw i)=h (bw i))(d:Nat):cF ((cG bw m.threads).map (cy hx (d+2)))=some (m.threads.map Thread.e):=by
 refine nq _ _ fun i hi=> ?_;have hl:=H.len;have:=H.G0 i hi;rw[<-hx1 i (by omega)]at this;simp[dM,cy,cF,this,Thread.bS]
theorem gX.zS(H:gX h k vB C L T ids bw m){hx:bh}(hx1: ∀i,i<4->hx (ids i)=h (ids i))(d:Nat):cF ((fW ids m.memory.lines).map (cy hx (d+2)))=some (m.memory.lines.map cw.e):=by
 refine nq _ _ fun i hi=> ?_;have hl:=H.mp.lines;have:=H.mem.line i hi;rw[<-hx1 i (by omega)]at this;simp[JW,cy,cF,this,cw.bS]
theorem Ls(x:Thread):(Thread.e x).lP=Thread.e x:=by
 simp[Thread.bS,V.lP,eV]
theorem u6(l:List Thread):eV (l.map Thread.e)=l.map Thread.e:=qI Ls l
def mo(m:aO):List V:=[.sl false (m.layout.aD.map (V.int .i64)),.int .u16 m.layout.key,.sl false (m.memory.cells.map Cell.e),.sl false (m.memory.lines.map cw.e),.sl false (m.threads.map Thread.e)]
theorem G1(m:aO):eV (mo m)=mo m:=by
 simp[mo,V.lP,eV]
theorem gX.eu(H:gX h k vB C L T ids bw m)(d:Nat):cy h (d+6) (jE vB C L T m)=some (.agg (mo m)):=by
 have e1:=H.EW (hx:=h) (fun _ _=>rfl) (d+2);have e2:=H.zS (hx:=h) (fun _ _=>rfl) (d+2);have hl:=H.mp.lines;have hc:=H.mp.len;have hn:=H.len;have l1:=fA bw m.threads;have l2:=jh ids m.memory.lines;have t1:(cG bw m.threads).take m.threads.length=cG bw m.threads:=aZ (by omega);have t2:(fW ids m.memory.lines).take 4=fW ids m.memory.lines:=aZ (by omega);have t3:(m.memory.cells.map Cell.e).take 512=m.memory.cells.map Cell.e:=aZ (by simp;omega);rcases H.aD with e|⟨B,e,g1,g2,g3,g4⟩
 ·simp[jE,mo,cy,cF,e,H.mem.cells,H.mem.lines,H.pe,l1,l2,hl,hc,t1,t2,t3,e1,e2]
 ·simp[jE,mo,cy,cF,e,g1,H.mem.cells,H.mem.lines,H.pe,l1,l2,hl,hc,t1,t2,t3,e1,e2]
end
def qz(ids:Nat->Nat)(i:Nat)(x:Thread)(pc:Int)(bp:List Cell):dM ids i (vS x pc bp)= (KKd x.state (.cx (ids i) 0 bp.length) pc x.count x.cp x.saved x.dr x.code:V):=rfl
def hZ(ids:Nat->Nat)(i:Nat)(x:Thread)(pc:Int)(bp:List Cell)(s:Int):dM ids i (mP x pc bp s)= (KKd x.state (.cx (ids i) 0 bp.length) pc (x.count+1) x.cp s x.dr x.code:V):=rfl
def B4(ids:Nat->Nat)(i:Nat)(x:Thread):dM ids i (uV x)= (KKd 2 (.cx (ids i) 0 x.bp.length) (x.pc+1) x.count x.cp x.saved x.dr x.code:V):=rfl
def jG(ids:Nat->Nat)(i:Nat)(x:Thread)(w:Int):dM ids i (iV x w)= (KKd 4 (.cx (ids i) 0 x.bp.length) x.pc x.count x.cp x.saved w 0:V):=rfl
def wE(x:Thread)(pc:Int)(bp:List Cell):(vS x pc bp).bp=bp:=rfl
def jt(x:Thread)(pc:Int)(bp:List Cell)(s:Int):(mP x pc bp s).bp=bp:=rfl
def G2(x:Thread):(uV x).bp=x.bp:=rfl
def mX(x:Thread)(w:Int):(iV x w).bp=x.bp:=rfl
def oD(x:Thread)(a:Nat)(c:Cell):GS x a c=x.bp.set a c:=by simp[GS]
def mE{a:Nat}(h:a<x.bp.length):ky x a=x.bp[a]:=by simp[ky,List.getD,h]
def EA(h:bh)(k a b:Nat)(h':bh):Prop:= ∀i,i<k->i≠a->i≠b->h' i=h i
@[simp]def axg(h:bh)(k a b:Nat):EA h k a b h=True:=eq_true fun _ _ _ _=>rfl
def EX{h:bh}{k a b c:Nat}{h':bh}{o:Option Ob}(g: ¬c<k\/c=a\/c=b):EA h k a b (aR h' c o)=EA h k a b h':=by
 apply propext;constructor<;>intro f i hi h1 h2<;>have:=f i hi h1 h2<;>have e: ¬i=c:=(by omega)<;>simpa[aR,e] using this
@[simp]def bax(h:bh)(k a b j:Nat)(h':bh)(o:Option Ob):EA h k a b (aR h' (k+j) o)=EA h k a b h':=EX (by omega)
@[simp]def bay(h:bh)(k a b:Nat)(h':bh)(o:Option Ob):EA h k a b (aR h' k o)=EA h k a b h':=EX (by omega)
@[simp]def baz(h:bh)(k a b:Nat)(h':bh)(o:Option Ob):EA h k a b (aR h' a o)=EA h k a b h':=EX (by omega)
@[simp]def ba0(h:bh)(k a b:Nat)(h':bh)(o:Option Ob):EA h k a b (aR h' b o)=EA h k a b h':=EX (by omega)
def WU(h:bh)(k T:Nat)(bw:Nat->Nat)(t:Nat)(ts:List Thread)(x':Thread)(s:Int)(v:V)(h':bh)(k':Nat):Prop:=
 v= .int .i64 s/\h' T=some ⟨8,(cG bw ts).set t (dM bw t x'),true⟩/\h' (bw t)=some ⟨2,x'.bp.map Cell.e,false⟩/\k<=k'/\ ∀i,i<k->i≠T->i≠bw t->h' i=h i
def fP(h:bh)(k T:Nat)(bw:Nat->Nat)(t:Nat)(ts:List Thread)(x':Thread)(s:Int)(v:V)(h':bh)(k':Nat):WU h k T bw t ts x' s v h' k'=
 (v= .int .i64 s/\h' T=some ⟨8,(cG bw ts).set t (dM bw t x'),true⟩/\h' (bw t)=some ⟨2,x'.bp.map Cell.e,false⟩/\k<=k'/\EA h k T (bw t) h'):=rfl
def gY(r:Option (V×bh×Nat))(p:Prog)(h:bh)(k b:Nat)(vB:V)(C L T:Nat)(ids bw:Nat->Nat)(m:aO)(t:Nat):Prop:= ∃h' k' iJ,r=some (.int .i64 (lz p m t).2,h',k')/\dV h' k' b vB C L T iJ bw (lz p m t).1/\k<=k'/\(∀j,j<4->iJ j=ids j\/k<=iJ j)/\
 ∀i,i<k->i≠C->i≠L->(∀j,j<4->i≠ids j)->i≠T->i≠bw t->h' i=h i
def gY.of {r:Option (V×bh×Nat)}  {h:bh} {k b C L T:Nat} {vB:V} {ids bw:Nat->Nat} {m:aO} {t:Nat} (H:dV h k b vB C L T ids bw m) (ht:t<4) (x':Thread) (s:Int) (hs:nn p m (bV m t)=(m.memory,x',s))
  (he: ∃v h' n',r=some (v,h',n')/\WU h k T bw t m.threads x' s v h' n'):gY r p h k b vB C L T ids bw m t:=by
 obtain⟨v,h',n',e,rfl,g2,g3,g4,g5⟩:=he;have nd:t<m.threads.length:=by rw[H.len];exact ht
 have e1:lz p m t=(iZ m m.memory t x',s):=by rw[xj,hs]
 rw[iK nd]at g2;unfold gY;rw[e1];exact⟨h',n',ids,e,H.put g4 ht g2 g3 g5,g4,fun _ _=> .inl rfl,fun i hi _ _ _ WV hit=>g5 i hi WV hit⟩
def gY.aqb {r:Option (V×bh×Nat)}  {h h1:bh} {k k1 b C L T:Nat} {vB:V} {ids iv bw:Nat->Nat} {m:aO} {t:Nat} (H:dV h k b vB C L T ids bw m) (ht:t<4)  (H1:dV h1 k1 b vB C L T iv bw ⟨m.layout,WW,m.threads⟩) (hk:k<=k1) (fa: ∀j,j<4->iv j=ids j\/k<=iv j)
  (nU: ∀i,i<k->i≠C->i≠L->(∀j,j<4->i≠ids j)->h1 i=h i) (x':Thread) (s:Int) (hs:nn p m (bV m t)=(WW,x',s))
  (he: ∃v h' n',r=some (v,h',n')/\WU h1 k1 T bw t m.threads x' s v h' n'):gY r p h k b vB C L T ids bw m t:=by
 obtain⟨v,h',n',e,rfl,g2,g3,g4,g5⟩:=he;have nd:t<m.threads.length:=by rw[H.len];exact ht
 have e1:lz p m t=(iZ m WW t x',s):=by rw[xj,hs]
 rw[iK nd]at g2;unfold gY;rw[e1];exact⟨h',n',iv,e,H1.put g4 ht g2 g3 g5,by omega,fa,fun i hi hiC hiL mj WV hit=>by rw[g5 i (by omega) WV hit,nU i hi hiC hiL mj]⟩
def G3{m:aO}{n:Nat}(hn:x.pc=n)(h:n<p.code.length){i:Instr}(hi:p.code[n]=i):nn p m x=iU p m x i:=by
 unfold nn;rw[if_pos (by omega),hn,aaH];simp[List.getD,h,hi]
def Kb{m:aO}(h: ¬x.pc<p.code.length):nn p m x=(m.memory,iV x 2,2):=by
 unfold nn;rw[if_neg h]
noncomputable def cH(g:FuncId)(args:List V)(h:bh)(k:Nat):bh:=match cL X g args h k with|some (_,h',_)=>h'|none=>h
noncomputable def cK(g:FuncId)(args:List V)(h:bh)(k:Nat):Nat:=match cL X g args h k with|some (_,_,n)=>n|none=>k
def xS{args:List V}{h h':bh}{k k':Nat}{v:V}(e:cL X g args h k=some (v,h',k')):cH g args h k=h'/\cK g args h k=k':=by
 unfold cH cK;rw[e];exact⟨rfl,rfl⟩
def Below(k:Nat)(h h1:bh):Prop:= ∀i,i<k->h1 i=h i
@[simp]def cE(k:Nat)(h:bh):Below k h h=True:=eq_true fun _ _=>rfl
@[simp]def cM(k j:Nat)(h h1:bh)(v:Option Ob):Below k h (aR h1 (k+j) v)=Below k h h1:=by
 apply propext;constructor<;>intro g i hi
 ·have:=g i hi;rwa[aR,if_neg (by omega)]at this
 ·rw[aR,if_neg (by omega)];exact g i hi
@[simp]def cP(k:Nat)(h h1:bh)(v:Option Ob):Below k h (aR h1 k v)=Below k h h1:=cM k 0 h h1 v
def DZ(h:bh)(k T:Nat)(bw:Nat->Nat)(t:Nat)(ts:List Thread)(g:FuncId)(args:List V)(x':Thread)(s:Int)(v:V)(h':bh)(k':Nat):Prop:=
 ∃h1 j,Below k h h1/\WU (cH g args h1 (k+j)) (cK g args h1 (k+j)) T bw t ts x' s v h' k'
def aep{h h1:bh}{k T:Nat}{bw:Nat->Nat}{t:Nat}{args:List V}{j n:Nat}{E R:List V}(hB:Below k h h1)(hs:bw t≠T)(hE:E=(cG bw ts).set t (dM bw t x'))(hR:R=x'.bp.map Cell.e):
  DZ h k T bw t ts g args x' s (.int .i64 s) (aR (aR (cH g args h1 (k+j)) (bw t) (some ⟨2,R,false⟩)) T (some ⟨8,E,true⟩)) (cK g args h1 (k+j)+n):=
 ⟨h1,j,hB,rfl,by rw[hE];simp[aR],by rw[hR];simp[aR,hs],by omega,fun i _ h1 h2=>by simp[aR,h1,h2]⟩
def aeq{h h1:bh}{k T:Nat}{bw:Nat->Nat}{t:Nat}{args:List V}{j n:Nat}{E:List V}(hB:Below k h h1)(hs:bw t≠T)(hE:E=(cG bw ts).set t (dM bw t x'))(hR:cH g args h1 (k+j) (bw t)=some ⟨2,x'.bp.map Cell.e,false⟩):
  DZ h k T bw t ts g args x' s (.int .i64 s) (aR (cH g args h1 (k+j)) T (some ⟨8,E,true⟩)) (cK g args h1 (k+j)+n):=
 ⟨h1,j,hB,rfl,by rw[hE];simp[aR],by simp[aR,hs,hR],by omega,fun i _ h1 h2=>by simp[aR,h1]⟩
@[simp]def WX(ax:List Instr)(ae:List Int)(ay:List (List Int))(m:V)(t:Int)(h:bh)(k b:Nat)(vB:V)(C L T:Nat)(ids bw:Nat->Nat)(mm:aO)(tn:Nat)(d:Int)(H:dV h k b vB C L T ids bw mm)(HG:cT (Prog.mk ax ae ay) d mm)(hd:d<=1099511628776)(ht:tn<4)(hBB: ∃B,vB= .cx B 0 mm.layout.aD.length)(jK:(bV mm tn).pc<ax.length/\(3<=(ax.getD (bV mm tn).pc.toNat qM).op/\(ax.getD (bV mm tn).pc.toNat qM).op<=14)):gY (cL X 246 [KKQ ax ae ay,.ptr b 0 0,(tn:Int)] h k) (Prog.mk ax ae ay) h k b vB C L T ids bw mm tn:=by
 have hl:=H.len;have nd:tn<mm.threads.length:=by omega
 have rz:(tn:Int)<4:=by omega
 have rI:=HG.pe tn nd;have hR:=H.G0 tn nd;have hg:=fY (ids:=bw) nd;have hT:=H.pe;have jX:=fA bw mm.threads;rw[hl]at jX;have hb:=H.xQ;unfold jE at hb;rw[hl]at hb;have ct: ∀(h2:bh) (k2:Nat) (w:Int),h2 T=some ⟨8,cG bw mm.threads,true⟩->cL X 271 [.ptr T tn 0,.int .i64 w] h2 k2=some (.int .i64 2,aR h2 T (some ⟨8,(cG bw mm.threads).set tn (dM bw tn (iV mm.threads[tn] w)),true⟩),k2+15):=fun h2 k2 w g=>by
  rw[iK nd];exact ad0 .bad 0 h2 k2 T tn w bw mm.threads g nd
 have wO:bV mm tn=mm.threads[tn]:=iq nd;obtain⟨x,pH⟩: ∃x,mm.threads[tn]=x:=⟨_,rfl⟩;rw[pH]at rI hR wO;simp only[pH]at hg ct;obtain⟨s1,s3,s4,s5,s6⟩:=H.qR tn ht;have Ia: ¬T=bw tn:=fun e=>s5 e.symm;have s1': ¬b=bw tn:=fun e=>s1 e.symm;obtain⟨u1,u2,u3,u4⟩:=H.xr;have u1': ¬b=T:=fun e=>u1 e.symm;have gZ:=H.mem.lt.1;have q1: ∀j,¬b=k+j/\ ¬T=k+j/\ ¬bw tn=k+j/\ ¬k+j=b/\ ¬k+j=T/\ ¬k+j=bw tn:=fun j=>by omega
 have pG: ¬b=k/\ ¬T=k/\ ¬bw tn=k:=by omega
 have Cn:=rI.pc;obtain⟨n,hn⟩: ∃n:Nat,x.pc=n:=⟨x.pc.toNat,by omega⟩;have h8:=rI.bp;have Yi:ax.length<=64:=HG.prog.rp;have Lt:=rI.count;have Kc:IntKind.i64.wrap (x.count+1)=x.count+1:=wrap_i64 (by omega);have qK:=mZ n (by omega);have frame: ∀(h2:bh),(∀i,i<k->i≠T->i≠bw tn->h2 i=h i)-> ∀i,i<k->i≠T->i≠bw tn->h2 i=h i:=fun _ g=>g;by_cases sw:n<ax.length
 case neg=>
  have:=jK.1;rw[wO,hn]at this;omega
 have rA: ¬(ax.length:Int)<=n:=by omega
 have hI:=HG.prog.A3 (p:=(Prog.mk ax ae ay)) sw;simp only at hI;obtain⟨⟨op,ai,bi,ci,eu⟩,hi⟩: ∃i,ax[n]=i:=⟨_,rfl⟩;rw[hi]at hI;obtain⟨o1,ia,ib,ic,im,ij,il,is⟩:=hI;simp only at o1 ia ib ic im ij il is;obtain⟨a,rfl⟩:=aaG ia.1;obtain⟨b',rfl⟩:=aaG ib.1;obtain⟨c,rfl⟩:=aaG ic.1;have a8:(a:Int)<8/\(b':Int)<8/\(c:Int)<8/\a<8/\b'<8/\c<8:=by omega
 have al:a<x.bp.length:=by omega
 have bl:b'<x.bp.length:=by omega
 have cl:c<x.bp.length:=by omega
 have gS:IntKind.u16.wrap eu=eu:=wrap_u16 im;have hL:=HG.lay;have hlen:=hL.len;simp only at hL hlen;obtain⟨B,Ma,EY,⟨nB,nB2,a1k,nB3,nBk⟩,nBi,nBr⟩: ∃B,vB= .cx B 0 mm.layout.aD.length/\h B=some ⟨1,mm.layout.aD.map (V.int .i64),false⟩/\(B≠b/\B≠C/\B≠L/\B≠T/\B<k)/\(∀j,j<4->ids j≠B)/\ ∀i,i<4->bw i≠B:=by
  rcases H.aD with e|e
  ·obtain⟨_,e2⟩:=hBB;rw[e]at e2;cases e2
  ·exact e
 have nB4: ∀j,¬B=k+j:=fun j=>by omega
 have Ov: ¬B=k:=by omega
 have vL: ∀y:Cell,(⟨y.tag,y.val⟩:Cell)=y:=fun _=>rfl;have pL:(Layout.mk mm.layout.aD mm.layout.key)=mm.layout:=rfl;have hs: ∀r,iU (Prog.mk ax ae ay) mm x ⟨op,a,b',c,eu⟩=r->nn (Prog.mk ax ae ay) mm (bV mm tn)=r:=fun r g=>by rw[wO,G3 (p:=(Prog.mk ax ae ay)) hn sw hi,g]
 obtain⟨xa,tL⟩: ∃v,x.bp[a]=v:=⟨_,rfl⟩;obtain⟨xb,xT⟩: ∃v,x.bp[b']=v:=⟨_,rfl⟩;obtain⟨xc,xce⟩: ∃v,x.bp[c]=v:=⟨_,rfl⟩;have ra:ky x a=xa:=by rw[mE al,tL]
 have rb:ky x b'=xb:=by rw[mE bl,xT]
 have rc:ky x c=xc:=by rw[mE cl,xce]
 have ca:iz xa:=by rw[<-ra];exact ke rI _
 have cb:iz xb:=by rw[<-rb];exact ke rI _
 have cc:iz xc:=by rw[<-rc];exact ke rI _
 have gZ:=H.mem.lt;have HM: ∀(h1:bh) (j:Nat),Below k h h1->kD h1 (k+j) b C L ids vB (.int .u16 mm.layout.key) (.cx T 0 4) mm.memory:=fun h1 j jv=>by have:=(H.mono (k':=k+j) (by omega) jv).mem;rwa[hl]at this
 have br:fU 18=true/\fU 19=true/\fU 20=true/\fU 21=true/\fU 22=true/\fU 24=true/\ ∀o:Int,0<=o->o<=17->fU o=false:=⟨by decide,by decide,by decide,by decide,by decide,by decide,fun o h1 h2=>by simp[fU,jumps];omega⟩;obtain⟨br1,br2,br3,br4,br5,br6,br7⟩:=br;have oc:op=0\/op=1\/op=2\/(3<=op/\op<=14)\/op=15\/op=16\/op=17\/op=18\/op=19\/op=20\/op=21\/op=22\/op=23\/op=24:=by omega
 rcases oc with rfl|rfl|rfl|ho|rfl|rfl|rfl|rfl|rfl|rfl|rfl|rfl|rfl|rfl
 ·exact absurd jK.2 (by rw[wO,hn,aaH,show ax.getD n qM=ax[n] by simp[List.getD,sw],hi];simp)
 ·exact absurd jK.2 (by rw[wO,hn,aaH,show ax.getD n qM=ax[n] by simp[List.getD,sw],hi];simp)
 ·exact absurd jK.2 (by rw[wO,hn,aaH,show ax.getD n qM=ax[n] by simp[List.getD,sw],hi];simp)
 ·obtain⟨⟨dt,dv⟩,w,hdo⟩: ∃r w,qU mm.layout.aD ae op xb xc=(r,w):=⟨_,_,rfl⟩;obtain⟨xbt,xbv⟩:=xb;obtain⟨xct,xcv⟩:=xc;have cb2:=cb.2;have cc2:=cc.2;simp only at cb2 cc2;have m0: ¬op=0/\ ¬op=1/\ ¬op=2/\ ¬op=15/\ ¬op=16/\ ¬op=17/\ ¬op=18/\ ¬op=19/\ ¬op=20/\ ¬op=21/\ ¬op=22/\ ¬op=23/\ ¬op=24:=by omega
  have brf:fU op=false:=br7 op (by omega) (by omega);by_cases uH:w=0
  ·refine gY.of H ht (vS x (n+1) (x.bp.set a ⟨dt,dv⟩)) (-1) (hs _ (by simp[iU,hn,oD,rb,rc,hdo,uH,m0])) (aaB ?_);simp[aaE,fP,hb,hT,hR,hg,jX,ht,rz,hn,sw,rA,hi,wE,qz,h8,a8,tL,xT,xce,qK,s5,Ia,q1,pG,m0,brf,hL,Ma,EY,nB4,Ov,cb2,cc2,hdo,uH,Cell.bS];all_goals ((repeat' apply And.intro)<;>first|omega|rfl)
  ·refine gY.of H ht (iV x w) (2) (hs _ (by simp[iU,rb,rc,hdo,uH,m0])) (aaB ?_);simp[aaE,fP,hb,hT,hR,hg,jX,ht,rz,hn,sw,rA,hi,ct,mX,jG,h8,a8,tL,xT,xce,qK,s5,q1,pG,m0,hL,Ma,EY,nB4,Ov,cb2,cc2,hdo,uH];all_goals ((repeat' apply And.intro)<;>first|omega|rfl)
 ·exact absurd jK.2 (by rw[wO,hn,aaH,show ax.getD n qM=ax[n] by simp[List.getD,sw],hi];simp)
 ·exact absurd jK.2 (by rw[wO,hn,aaH,show ax.getD n qM=ax[n] by simp[List.getD,sw],hi];simp)
 ·exact absurd jK.2 (by rw[wO,hn,aaH,show ax.getD n qM=ax[n] by simp[List.getD,sw],hi];simp)
 ·exact absurd jK.2 (by rw[wO,hn,aaH,show ax.getD n qM=ax[n] by simp[List.getD,sw],hi];simp)
 ·exact absurd jK.2 (by rw[wO,hn,aaH,show ax.getD n qM=ax[n] by simp[List.getD,sw],hi];simp)
 ·exact absurd jK.2 (by rw[wO,hn,aaH,show ax.getD n qM=ax[n] by simp[List.getD,sw],hi];simp)
 ·exact absurd jK.2 (by rw[wO,hn,aaH,show ax.getD n qM=ax[n] by simp[List.getD,sw],hi];simp)
 ·exact absurd jK.2 (by rw[wO,hn,aaH,show ax.getD n qM=ax[n] by simp[List.getD,sw],hi];simp)
 ·exact absurd jK.2 (by rw[wO,hn,aaH,show ax.getD n qM=ax[n] by simp[List.getD,sw],hi];simp)
 ·exact absurd jK.2 (by rw[wO,hn,aaH,show ax.getD n qM=ax[n] by simp[List.getD,sw],hi];simp)
@[simp]def a1l(ax:List Instr)(ae:List Int)(ay:List (List Int))(m:V)(t:Int)(h:bh)(k b:Nat)(vB:V)(C L T:Nat)(ids bw:Nat->Nat)(mm:aO)(tn:Nat)(d:Int)(H:dV h k b vB C L T ids bw mm)(HG:cT (Prog.mk ax ae ay) d mm)(hd:d<=1099511628776)(ht:tn<4)(hBB: ∃B,vB= .cx B 0 mm.layout.aD.length):gY (cL X 246 [KKQ ax ae ay,.ptr b 0 0,(tn:Int)] h k) (Prog.mk ax ae ay) h k b vB C L T ids bw mm tn:=by
 have hl:=H.len;have nd:tn<mm.threads.length:=by omega
 have rz:(tn:Int)<4:=by omega
 have rI:=HG.pe tn nd;have hR:=H.G0 tn nd;have hg:=fY (ids:=bw) nd;have hT:=H.pe;have jX:=fA bw mm.threads;rw[hl]at jX;have hb:=H.xQ;unfold jE at hb;rw[hl]at hb;have ct: ∀(h2:bh) (k2:Nat) (w:Int),h2 T=some ⟨8,cG bw mm.threads,true⟩->cL X 271 [.ptr T tn 0,.int .i64 w] h2 k2=some (.int .i64 2,aR h2 T (some ⟨8,(cG bw mm.threads).set tn (dM bw tn (iV mm.threads[tn] w)),true⟩),k2+15):=fun h2 k2 w g=>by
  rw[iK nd];exact ad0 .bad 0 h2 k2 T tn w bw mm.threads g nd
 have wO:bV mm tn=mm.threads[tn]:=iq nd;obtain⟨x,pH⟩: ∃x,mm.threads[tn]=x:=⟨_,rfl⟩;rw[pH]at rI hR wO;simp only[pH]at hg ct;obtain⟨s1,s3,s4,s5,s6⟩:=H.qR tn ht;have Ia: ¬T=bw tn:=fun e=>s5 e.symm;have s1': ¬b=bw tn:=fun e=>s1 e.symm;obtain⟨u1,u2,u3,u4⟩:=H.xr;have u1': ¬b=T:=fun e=>u1 e.symm;have gZ:=H.mem.lt.1;have q1: ∀j,¬b=k+j/\ ¬T=k+j/\ ¬bw tn=k+j/\ ¬k+j=b/\ ¬k+j=T/\ ¬k+j=bw tn:=fun j=>by omega
 have pG: ¬b=k/\ ¬T=k/\ ¬bw tn=k:=by omega
 have Cn:=rI.pc;obtain⟨n,hn⟩: ∃n:Nat,x.pc=n:=⟨x.pc.toNat,by omega⟩;have h8:=rI.bp;have Yi:ax.length<=64:=HG.prog.rp;have Lt:=rI.count;have Kc:IntKind.i64.wrap (x.count+1)=x.count+1:=wrap_i64 (by omega);have qK:=mZ n (by omega);have frame: ∀(h2:bh),(∀i,i<k->i≠T->i≠bw tn->h2 i=h i)-> ∀i,i<k->i≠T->i≠bw tn->h2 i=h i:=fun _ g=>g;by_cases sw:n<ax.length
 case neg=>
  have rA:(ax.length:Int)<=n:=by omega
  refine gY.of H ht (iV x 2) 2 (by rw[wO];exact Kb (by simp only;omega)) (aaB ?_);simp[aaE,fP,hb,hT,hR,hg,jX,ht,rz,hn,rA,ct,mX,jG,s5,pG];all_goals ((repeat' apply And.intro)<;>first|omega|rfl)
 have rA: ¬(ax.length:Int)<=n:=by omega
 have hI:=HG.prog.A3 (p:=(Prog.mk ax ae ay)) sw;simp only at hI;obtain⟨⟨op,ai,bi,ci,eu⟩,hi⟩: ∃i,ax[n]=i:=⟨_,rfl⟩;rw[hi]at hI;obtain⟨o1,ia,ib,ic,im,ij,il,is⟩:=hI;simp only at o1 ia ib ic im ij il is;obtain⟨a,rfl⟩:=aaG ia.1;obtain⟨b',rfl⟩:=aaG ib.1;obtain⟨c,rfl⟩:=aaG ic.1;have a8:(a:Int)<8/\(b':Int)<8/\(c:Int)<8/\a<8/\b'<8/\c<8:=by omega
 have al:a<x.bp.length:=by omega
 have bl:b'<x.bp.length:=by omega
 have cl:c<x.bp.length:=by omega
 have gS:IntKind.u16.wrap eu=eu:=wrap_u16 im;have hL:=HG.lay;have hlen:=hL.len;simp only at hL hlen;obtain⟨B,Ma,EY,⟨nB,nB2,a1k,nB3,nBk⟩,nBi,nBr⟩: ∃B,vB= .cx B 0 mm.layout.aD.length/\h B=some ⟨1,mm.layout.aD.map (V.int .i64),false⟩/\(B≠b/\B≠C/\B≠L/\B≠T/\B<k)/\(∀j,j<4->ids j≠B)/\ ∀i,i<4->bw i≠B:=by
  rcases H.aD with e|e
  ·obtain⟨_,e2⟩:=hBB;rw[e]at e2;cases e2
  ·exact e
 have nB4: ∀j,¬B=k+j:=fun j=>by omega
 have Ov: ¬B=k:=by omega
 have vL: ∀y:Cell,(⟨y.tag,y.val⟩:Cell)=y:=fun _=>rfl;have pL:(Layout.mk mm.layout.aD mm.layout.key)=mm.layout:=rfl;have hs: ∀r,iU (Prog.mk ax ae ay) mm x ⟨op,a,b',c,eu⟩=r->nn (Prog.mk ax ae ay) mm (bV mm tn)=r:=fun r g=>by rw[wO,G3 (p:=(Prog.mk ax ae ay)) hn sw hi,g]
 obtain⟨xa,tL⟩: ∃v,x.bp[a]=v:=⟨_,rfl⟩;obtain⟨xb,xT⟩: ∃v,x.bp[b']=v:=⟨_,rfl⟩;obtain⟨xc,xce⟩: ∃v,x.bp[c]=v:=⟨_,rfl⟩;have ra:ky x a=xa:=by rw[mE al,tL]
 have rb:ky x b'=xb:=by rw[mE bl,xT]
 have rc:ky x c=xc:=by rw[mE cl,xce]
 have ca:iz xa:=by rw[<-ra];exact ke rI _
 have cb:iz xb:=by rw[<-rb];exact ke rI _
 have cc:iz xc:=by rw[<-rc];exact ke rI _
 have gZ:=H.mem.lt;have HM: ∀(h1:bh) (j:Nat),Below k h h1->kD h1 (k+j) b C L ids vB (.int .u16 mm.layout.key) (.cx T 0 4) mm.memory:=fun h1 j jv=>by have:=(H.mono (k':=k+j) (by omega) jv).mem;rwa[hl]at this
 have br:fU 18=true/\fU 19=true/\fU 20=true/\fU 21=true/\fU 22=true/\fU 24=true/\ ∀o:Int,0<=o->o<=17->fU o=false:=⟨by decide,by decide,by decide,by decide,by decide,by decide,fun o h1 h2=>by simp[fU,jumps];omega⟩;obtain⟨br1,br2,br3,br4,br5,br6,br7⟩:=br;have oc:op=0\/op=1\/op=2\/(3<=op/\op<=14)\/op=15\/op=16\/op=17\/op=18\/op=19\/op=20\/op=21\/op=22\/op=23\/op=24:=by omega
 rcases oc with rfl|rfl|rfl|ho|rfl|rfl|rfl|rfl|rfl|rfl|rfl|rfl|rfl|rfl
 ·refine gY.of H ht (vS x (n+1) x.bp) (-1) (hs _ (by simp[iU,hn,vS])) (aaB ?_);simp[aaE,fP,hb,hT,hR,hg,jX,ht,rz,hn,sw,rA,hi,wE,qz,h8,a8,tL,xT,qK,s5,q1,pG,br7];all_goals ((repeat' apply And.intro)<;>first|omega|rfl)
 ·refine gY.of H ht (vS x (n+1) (x.bp.set a ⟨0,eu⟩)) (-1) (hs _ (by simp[iU,hn,oD,vS])) (aaB ?_);simp[aaE,fP,hb,hT,hR,hg,jX,ht,rz,hn,sw,rA,hi,wE,qz,h8,a8,tL,xT,qK,gS,s5,Ia,q1,pG,br7,Cell.bS];all_goals ((repeat' apply And.intro)<;>first|omega|rfl)
 ·refine gY.of H ht (vS x (n+1) (x.bp.set a xb)) (-1) (hs _ (by simp[iU,hn,oD,rb,vS])) (aaB ?_);simp[aaE,fP,hb,hT,hR,hg,jX,ht,rz,hn,sw,rA,hi,wE,qz,h8,a8,tL,xT,qK,s5,Ia,q1,pG,br7];all_goals ((repeat' apply And.intro)<;>first|omega|rfl)
 ·exact WX ax ae ay m t h k b vB C L T ids bw mm tn d H HG hd ht hBB ⟨by rw[wO,hn];omega,by rw[wO,hn,aaH,show ax.getD n qM=ax[n] by simp[List.getD,sw],hi];exact ho⟩
 ·obtain⟨IK,rfl⟩:=aaG im.1;have i1:=il rfl;have i2:IK<ae.length:=by omega
  have i3:IK<mm.layout.aD.length:=by rw[hlen];exact i2
  have i3i:(IK:Int)<mm.layout.aD.length:=by omega
  have bb:=hL.base IK i3 i2;have zz:=hL.sz.elem IK i2;have Ge:IntKind.u16.wrap mm.layout.aD[IK]=mm.layout.aD[IK]:=wrap_u16 (by omega);have Cz:nth mm.layout.aD IK=mm.layout.aD[IK]:=dE i3;refine gY.of H ht (vS x (n+1) (x.bp.set a ⟨1,mm.layout.aD[IK]⟩)) (-1) (hs _ (by simp[iU,hn,oD,Cz])) (aaB ?_);simp[aaE,fP,hb,hT,hR,hg,jX,ht,rz,hn,sw,rA,hi,wE,qz,h8,a8,tL,xT,qK,s5,Ia,q1,pG,br7,Cell.bS,Ma,EY,nB4,Ov,i3,i3i,Ge];all_goals ((repeat' apply And.intro)<;>first|omega|rfl)
 ·obtain⟨r,w,G4⟩: ∃r w,jM mm.layout.aD ae xb eu false=(r,w):=⟨_,_,rfl⟩;have c2:=cb.2;have Sn:=sJ (aD:=mm.layout.aD) (an:=ae) hL (p:=xb) (n:=eu) (back:=false);rw[G4]at Sn;simp only at Sn;by_cases uH:w=0
  case neg=>
   obtain⟨xt,xv⟩:=xb;simp only at c2;refine gY.of H ht (iV x w) 2 (hs _ (by simp[iU,rb,G4,uH])) (aaB ?_);simp[aaE,fP,hb,hT,hR,hg,jX,ht,rz,hn,sw,rA,hi,ct,mX,jG,h8,a8,tL,xT,qK,gS,s5,q1,pG,hL,Ma,EY,nB4,Ov,im,c2,G4,uH];all_goals ((repeat' apply And.intro)<;>first|omega|rfl)
  obtain⟨av,hr,IL⟩:=Sn uH;subst uH;subst hr;have Kd:IntKind.i64.wrap (av:Int)=av:=wrap_i64 (by omega);have lf: ∀(h1:bh) (j:Nat),Below k h h1->cL X 273 [.ptr b 0 2,(av:Int)] h1 (k+j)=some (((KKf (m7 mm.memory av):V)),cH 273 [.ptr b 0 2,(av:Int)] h1 (k+j),cK 273 [.ptr b 0 2,(av:Int)] h1 (k+j))/\ ∃iv,dV (cH 273 [.ptr b 0 2,(av:Int)] h1 (k+j)) (cK 273 [.ptr b 0 2,(av:Int)] h1 (k+j)) b vB C L T iv bw ⟨mm.layout,dx mm.memory av,mm.threads⟩/\k+j<=cK 273 [.ptr b 0 2,(av:Int)] h1 (k+j)/\(∀j,j<4->iv j=ids j\/k<=iv j)/\ ∀i,i<k+j->i≠C->i≠L->(∀j,j<4->i≠ids j)->cH 273 [.ptr b 0 2,(av:Int)] h1 (k+j) i=h1 i:=fun h1 j jv=>by
   obtain⟨h',k',iJ,e,G,g1,g2,g3⟩:=at3 .bad 0 h1 (k+j) b C L ids vB (.int .u16 mm.layout.key) (.cx T 0 4) mm.memory av (HM h1 j jv) IL;have e:cL X 273 [.ptr b 0 2,(av:Int)] h1 (k+j)=some (((KKf (m7 mm.memory av):V)),h',k'):=e;obtain⟨e1,e2⟩:=xS e;rw[e1,e2];have HH:dV h1 (k+j) b vB C L T ids bw mm:=H.mono (by omega) jv;exact⟨e,iJ,HH.memory g1 (by rw[hl];exact G) g2 g3,g1,fun j hj=>by rcases g2 j hj with e|e;exact .inl e;exact .inr (by omega),g3⟩
  have cl:=fun h1 j jv=>(lf h1 j jv).1;have lT: ∀(h1:bh) (j:Nat),Below k h h1->cH 273 [.ptr b 0 2,(av:Int)] h1 (k+j) T=some ⟨8,cG bw mm.threads,true⟩:=fun h1 j jv=>by obtain⟨_,_,G,_⟩:=lf h1 j jv;exact G.pe
  have lR: ∀(h1:bh) (j:Nat),Below k h h1->cH 273 [.ptr b 0 2,(av:Int)] h1 (k+j) (bw tn)=some ⟨2,x.bp.map Cell.e,false⟩:=fun h1 j jv=>by obtain⟨_,_,G,_⟩:=lf h1 j jv;rw[G.G0 tn nd];simp only[pH]
  have lF: ∀(h1:bh) (j i:Nat),Below k h h1->i<j->cH 273 [.ptr b 0 2,(av:Int)] h1 (k+j) (k+i)=h1 (k+i):=fun h1 j i jv mj=>by
   obtain⟨_,_,_,_,_,g⟩:=lf h1 j jv;exact g (k+i) (by omega) (by omega) (by omega) fun j hj=>by have:=gZ.2.2.2 j hj;omega
  have lF0: ∀(h1:bh) (j:Nat),Below k h h1->0<j->cH 273 [.ptr b 0 2,(av:Int)] h1 (k+j) k=h1 k:=fun h1 j jv mj=>lF h1 j 0 jv mj;have key:gY (cL X 246 [KKQ ax ae ay,.ptr b 0 0,(tn:Int)] h k) (Prog.mk ax ae ay) h k b vB C L T ids bw mm tn:=by
   have he:=bC (X:=X) (g:=246) (args:=[(KKQ ax ae ay:V),.ptr b 0 0,(tn:Int)]) (h:=h) (k:=k) (K:=DZ h k T bw tn mm.threads 273 [.ptr b 0 2,(av:Int)] (vS x (n+1) (x.bp.set a (m7 mm.memory av))) (-1)) Tryz.func246 rfl rfl (by
    simp[aaE,hb,hT,hR,hg,jX,ht,rz,hn,sw,rA,hi,h8,a8,tL,xT,qK,gS,Ia,q1,pG,br7,hL,Ma,EY,nB4,Ov,im,c2,G4,Kd,cl,lT,lR,lF];exact aep (by simp only[cE,cM,cP]) s5 (by simp only[qz,aaN,h8]) (by simp[wE,Cell.bS]))
   obtain⟨v,h',n',e,h1,j,jv,hE⟩:=he;obtain⟨_,iv,G,g1,gi,g2⟩:=lf h1 j jv;refine gY.aqb H ht G (by omega) gi (fun i hi hC II uj=>by rw[g2 i (by omega) hC II uj,jv i hi]) (vS x (n+1) (x.bp.set a (m7 mm.memory av))) (-1) (hs _ (by simp[iU,hn,oD,rb,G4])) ⟨v,h',n',e,hE⟩
  exact key
 ·obtain⟨r,w,G4⟩: ∃r w,jM mm.layout.aD ae xa eu false=(r,w):=⟨_,_,rfl⟩;have c2:=ca.2;have Sn:=sJ (aD:=mm.layout.aD) (an:=ae) hL (p:=xa) (n:=eu) (back:=false);rw[G4]at Sn;simp only at Sn;by_cases uH:w=0
  case neg=>
   obtain⟨xt,xv⟩:=xa;simp only at c2;refine gY.of H ht (iV x w) 2 (hs _ (by simp[iU,ra,G4,uH])) (aaB ?_);simp[aaE,fP,hb,hT,hR,hg,jX,ht,rz,hn,sw,rA,hi,ct,mX,jG,h8,a8,tL,xT,qK,gS,s5,q1,pG,hL,Ma,EY,nB4,Ov,im,c2,G4,uH];all_goals ((repeat' apply And.intro)<;>first|omega|rfl)
  obtain⟨av,hr,IL⟩:=Sn uH;subst uH;subst hr;have Kd:IntKind.i64.wrap (av:Int)=av:=wrap_i64 (by omega);have lf: ∀(h1:bh) (j:Nat),Below k h h1->cL X 251 [.ptr b 0 2,(av:Int),KKf xb] h1 (k+j)=some ((.dP []),cH 251 [.ptr b 0 2,(av:Int),KKf xb] h1 (k+j),cK 251 [.ptr b 0 2,(av:Int),KKf xb] h1 (k+j))/\ ∃iv,dV (cH 251 [.ptr b 0 2,(av:Int),KKf xb] h1 (k+j)) (cK 251 [.ptr b 0 2,(av:Int),KKf xb] h1 (k+j)) b vB C L T iv bw ⟨mm.layout,mA mm.memory av xb,mm.threads⟩/\k+j<=cK 251 [.ptr b 0 2,(av:Int),KKf xb] h1 (k+j)/\(∀j,j<4->iv j=ids j\/k<=iv j)/\ ∀i,i<k+j->i≠C->i≠L->(∀j,j<4->i≠ids j)->cH 251 [.ptr b 0 2,(av:Int),KKf xb] h1 (k+j) i=h1 i:=fun h1 j jv=>by
   obtain⟨h',k',iJ,e,G,g1,g2,g3⟩:=T6 .bad 0 xb.tag xb.val h1 (k+j) b C L ids vB (.int .u16 mm.layout.key) (.cx T 0 4) mm.memory av xb (HM h1 j jv) IL cb.oA;have e:cL X 251 [.ptr b 0 2,(av:Int),KKf xb] h1 (k+j)=some ((.dP []),h',k'):=e;obtain⟨e1,e2⟩:=xS e;rw[e1,e2];have HH:dV h1 (k+j) b vB C L T ids bw mm:=H.mono (by omega) jv;exact⟨e,iJ,HH.memory g1 (by rw[hl];exact G) g2 g3,g1,fun j hj=>by rcases g2 j hj with e|e;exact .inl e;exact .inr (by omega),g3⟩
  have cl:=fun h1 j jv=>(lf h1 j jv).1;have lT: ∀(h1:bh) (j:Nat),Below k h h1->cH 251 [.ptr b 0 2,(av:Int),KKf xb] h1 (k+j) T=some ⟨8,cG bw mm.threads,true⟩:=fun h1 j jv=>by obtain⟨_,_,G,_⟩:=lf h1 j jv;exact G.pe
  have lR: ∀(h1:bh) (j:Nat),Below k h h1->cH 251 [.ptr b 0 2,(av:Int),KKf xb] h1 (k+j) (bw tn)=some ⟨2,x.bp.map Cell.e,false⟩:=fun h1 j jv=>by obtain⟨_,_,G,_⟩:=lf h1 j jv;rw[G.G0 tn nd];simp only[pH]
  have lF: ∀(h1:bh) (j i:Nat),Below k h h1->i<j->cH 251 [.ptr b 0 2,(av:Int),KKf xb] h1 (k+j) (k+i)=h1 (k+i):=fun h1 j i jv mj=>by
   obtain⟨_,_,_,_,_,g⟩:=lf h1 j jv;exact g (k+i) (by omega) (by omega) (by omega) fun j hj=>by have:=gZ.2.2.2 j hj;omega
  have lF0: ∀(h1:bh) (j:Nat),Below k h h1->0<j->cH 251 [.ptr b 0 2,(av:Int),KKf xb] h1 (k+j) k=h1 k:=fun h1 j jv mj=>lF h1 j 0 jv mj;have key:gY (cL X 246 [KKQ ax ae ay,.ptr b 0 0,(tn:Int)] h k) (Prog.mk ax ae ay) h k b vB C L T ids bw mm tn:=by
   have he:=bC (X:=X) (g:=246) (args:=[(KKQ ax ae ay:V),.ptr b 0 0,(tn:Int)]) (h:=h) (k:=k) (K:=DZ h k T bw tn mm.threads 251 [.ptr b 0 2,(av:Int),KKf xb] (vS x (n+1) x.bp) (-1)) Tryz.func246 rfl rfl (by
    simp[aaE,hb,hT,hR,hg,jX,ht,rz,hn,sw,rA,hi,h8,a8,tL,xT,qK,gS,q1,pG,br7,hL,Ma,EY,nB4,Ov,im,c2,G4,Kd,cl,lT,lF];exact aeq (by simp only[cE,cM,cP]) s5 (by simp only[qz,h8]) (lR _ _ (by simp only[cE,cM,cP])))
   obtain⟨v,h',n',e,h1,j,jv,hE⟩:=he;obtain⟨_,iv,G,g1,gi,g2⟩:=lf h1 j jv;refine gY.aqb H ht G (by omega) gi (fun i hi hC II uj=>by rw[g2 i (by omega) hC II uj,jv i hi]) (vS x (n+1) x.bp) (-1) (hs _ (by simp[iU,hn,ra,rb,G4])) ⟨v,h',n',e,hE⟩
  exact key
 ·refine gY.of H ht (mP x eu x.bp x.saved) (-1) (hs _ (by simp[iU,mP])) (aaB ?_);simp[aaE,fP,hb,hT,hR,hg,jX,ht,rz,hn,sw,rA,hi,jt,hZ,h8,a8,tL,xT,qK,Kc,s5,q1,pG,br1];all_goals ((repeat' apply And.intro)<;>first|omega|rfl)
 ·by_cases t0:xa.tag=0
  ·by_cases v0:xa.val=0
   ·refine gY.of H ht (mP x eu x.bp x.saved) (-1) (hs _ (by simp[iU,ra,t0,v0])) (aaB ?_);simp[aaE,fP,hb,hT,hR,hg,jX,ht,rz,hn,sw,rA,hi,jt,hZ,h8,a8,tL,xT,qK,Kc,s5,q1,pG,br2,t0,v0];all_goals ((repeat' apply And.intro)<;>first|omega|rfl)
   ·refine gY.of H ht (mP x (n+1) x.bp x.saved) (-1) (hs _ (by simp[iU,hn,ra,t0,v0])) (aaB ?_);simp[aaE,fP,hb,hT,hR,hg,jX,ht,rz,hn,sw,rA,hi,jt,hZ,h8,a8,tL,xT,qK,Kc,s5,q1,pG,br2,t0,v0];all_goals ((repeat' apply And.intro)<;>first|omega|rfl)
  ·refine gY.of H ht (iV x 3) (2) (hs _ (by simp[iU,ra,t0])) (aaB ?_);simp[aaE,fP,hb,hT,hR,hg,jX,ht,rz,hn,sw,rA,hi,ct,mX,jG,h8,a8,tL,xT,qK,s5,q1,pG,t0];all_goals ((repeat' apply And.intro)<;>first|omega|rfl)
 ·by_cases t0:xa.tag=0
  ·by_cases v0:xa.val=0
   ·refine gY.of H ht (mP x (n+1) x.bp x.saved) (-1) (hs _ (by simp[iU,hn,ra,t0,v0])) (aaB ?_);simp[aaE,fP,hb,hT,hR,hg,jX,ht,rz,hn,sw,rA,hi,jt,hZ,h8,a8,tL,xT,qK,Kc,s5,q1,pG,br3,t0,v0];all_goals ((repeat' apply And.intro)<;>first|omega|rfl)
   ·refine gY.of H ht (mP x eu x.bp x.saved) (-1) (hs _ (by simp[iU,ra,t0,v0])) (aaB ?_);simp[aaE,fP,hb,hT,hR,hg,jX,ht,rz,hn,sw,rA,hi,jt,hZ,h8,a8,tL,xT,qK,Kc,s5,q1,pG,br3,t0,v0];all_goals ((repeat' apply And.intro)<;>first|omega|rfl)
  ·refine gY.of H ht (iV x 3) (2) (hs _ (by simp[iU,ra,t0])) (aaB ?_);simp[aaE,fP,hb,hT,hR,hg,jX,ht,rz,hn,sw,rA,hi,ct,mX,jG,h8,a8,tL,xT,qK,s5,q1,pG,t0];all_goals ((repeat' apply And.intro)<;>first|omega|rfl)
 ·have WY:IntKind.u16.wrap ((n:Int)+1)=(n:Int)+1:=wrap_u16 (by omega);refine gY.of H ht (mP x eu (x.bp.set a ⟨0,n+1⟩) x.saved) (-1) (hs _ (by simp[iU,hn,oD])) (aaB ?_);simp[aaE,fP,hb,hT,hR,hg,jX,ht,rz,hn,sw,rA,hi,jt,hZ,h8,a8,tL,xT,qK,Kc,s5,Ia,q1,pG,br4,Cell.bS,WY];all_goals ((repeat' apply And.intro)<;>first|omega|rfl)
 ·by_cases t0:xa.tag=0
  ·by_cases v0:255<xa.val
   ·refine gY.of H ht (iV x 2) (2) (hs _ (by simp[iU,ra,t0,v0])) (aaB ?_);simp[aaE,fP,hb,hT,hR,hg,jX,ht,rz,hn,sw,rA,hi,ct,mX,jG,h8,a8,tL,xT,qK,s5,q1,pG,t0,v0];all_goals ((repeat' apply And.intro)<;>first|omega|rfl)
   ·have hwv:IntKind.i64.wrap xa.val=xa.val:=wrap_i64 (by have:=ca.2;omega);refine gY.of H ht (mP x xa.val x.bp x.saved) (-1) (hs _ (by simp[iU,ra,t0,v0])) (aaB ?_);simp[aaE,fP,hb,hT,hR,hg,jX,ht,rz,hn,sw,rA,hi,jt,hZ,h8,a8,tL,xT,qK,Kc,s5,q1,pG,br5,t0,v0,hwv];all_goals ((repeat' apply And.intro)<;>first|omega|rfl)
  ·refine gY.of H ht (iV x 3) (2) (hs _ (by simp[iU,ra,t0])) (aaB ?_);simp[aaE,fP,hb,hT,hR,hg,jX,ht,rz,hn,sw,rA,hi,ct,mX,jG,h8,a8,tL,xT,qK,s5,q1,pG,t0];all_goals ((repeat' apply And.intro)<;>first|omega|rfl)
 ·refine gY.of H ht (uV x) (1) (hs _ (by simp[iU])) (aaB ?_);simp[aaE,fP,hb,hT,hR,hg,jX,ht,rz,hn,sw,rA,hi,G2,B4,h8,a8,tL,xT,qK,s5,q1,pG];all_goals ((repeat' apply And.intro)<;>first|omega|rfl)
 ·by_cases hsv:x.saved= -1
  ·refine gY.of H ht (iV x 1) (2) (hs _ (by simp[iU,hsv])) (aaB ?_);simp[aaE,fP,hb,hT,hR,hg,jX,ht,rz,hn,sw,rA,hi,ct,mX,jG,h8,a8,tL,xT,qK,s5,q1,pG,hsv];all_goals ((repeat' apply And.intro)<;>first|omega|rfl)
  ·refine gY.of H ht (mP x x.saved x.bp (-1)) (-1) (hs _ (by simp[iU,hsv])) (aaB ?_);simp[aaE,fP,hb,hT,hR,hg,jX,ht,rz,hn,sw,rA,hi,jt,hZ,h8,a8,tL,xT,qK,Kc,s5,q1,pG,br6,hsv];all_goals ((repeat' apply And.intro)<;>first|omega|rfl)
end Go.Proofs.YtdngefmliibcgaaGreat
