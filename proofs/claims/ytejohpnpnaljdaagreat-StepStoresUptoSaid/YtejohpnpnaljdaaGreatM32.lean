/- Part of a proof: G2. -/
import Derived.Test.YtejohpnpnaljdaaGreatM31
set_option linter.all false
set_option maxRecDepth 20000
set_option maxHeartbeats 20000000
namespace Go.Proofs.YtejohpnpnaljdaaGreat
open Go Go.Abs Go.Abs.lu
def YI(h:aY)(k b C L T:Nat)(ids aZ:Nat->Nat)(vB:V)(bs:List Int):Prop:=
 vB= .sl false (bs.map (V.int .i64))\/ ∃B,vB= .bU B 0 bs.length/\h B=some ⟨1,bs.map (V.int .i64),false⟩/\(B≠b/\B≠C/\B≠L/\B≠T/\B<k)/\(∀j,j<4->ids j≠B)/\ ∀i,i<4->aZ i≠B
structure dc (h:aY) (k b:Nat) (vB:V) (C L T:Nat) (ids aZ:Nat->Nat) (m:bf):Prop where
 mem:ja h k b C L ids vB (.int .u16 m.layout.key) (.bU T 0 m.threads.length) m.memory
 aD:YI h k b C L T ids aZ vB m.layout.aD
 nv:h T=some ⟨8,bZ aZ m.threads,true⟩
 Ez: ∀i (g:i<m.threads.length),h (aZ i)=some ⟨2,(m.threads[i]).bm.map Cell.e,false⟩
 len:m.threads.length=4
 ym:T≠b/\T≠C/\T≠L/\T<k
 YJ: ∀j,j<4->ids j≠T
 qB: ∀i,i<4->aZ i≠b/\aZ i≠C/\aZ i≠L/\aZ i≠T/\aZ i<k
 amk: ∀i j,i<4->j<4->ids j≠aZ i
 M9: ∀i j,i<4->j<4->i≠j->aZ i≠aZ j
section
variable {h h':aY} {k k' b C L T:Nat} {vB:V} {ids ft aZ:Nat->Nat} {m:bf}
theorem dc.mono(H:dc h k b vB C L T ids aZ m)(hk:k<=k')(hh: ∀i,i<k->h' i=h i):dc h' k' b vB C L T ids aZ m:=by
 obtain⟨h1,h2,h3,h4,h0,h6,h7,h8,h9,vE⟩:=H;refine⟨h1.mono hk hh,?_,by rw[hh _ h6.2.2.2,h3],fun i g=>by rw[hh _ (h8 i (by omega)).2.2.2.2,h4 i g],h0,⟨h6.1,h6.2.1,h6.2.2.1,by omega⟩,h7,
  fun i hi=>by obtain⟨a1,a3,a4,a5,a6⟩:=h8 i hi;exact⟨a1,a3,a4,a5,by omega⟩,h9,vE⟩
 rcases h2 with e|⟨B,e,g1,g2,g3,g4⟩
 ·exact .inl e
 ·exact .inr ⟨B,e,by rw[hh _ g2.2.2.2.2,g1],by omega,g3,g4⟩
theorem dc.put (H:dc h k b vB C L T ids aZ m) (hk:k<=k') {t:Nat} (ht:t<4) {x:Thread} (hT:h' T=some ⟨8,bZ aZ (m.threads.set t x),true⟩) (hR:h' (aZ t)=some ⟨2,x.bm.map Cell.e,false⟩)
  (hh: ∀i,i<k->i≠T->i≠aZ t->h' i=h i):dc h' k' b vB C L T ids aZ (kq m m.memory t x):=by
 obtain⟨h1,h2,h3,h4,h0,h6,h7,h8,h9,vE⟩:=H;obtain⟨r1,r3,r4,r5,r6⟩:=h8 t ht;have eX:=h1.lt;refine⟨?_,?_,hT,fun i g=> ?_,by simp[kq,h0],⟨h6.1,h6.2.1,h6.2.2.1,by omega⟩,h7,fun i hi=>by obtain⟨a1,a3,a4,a5,a6⟩:=h8 i hi;exact⟨a1,a3,a4,a5,by omega⟩,h9,vE⟩
 ·have e:(kq m m.memory t x).threads.length=m.threads.length:=by simp[kq]
  rw[e];exact h1.dG hk (hh _ eX.1 (Ne.symm h6.1) (Ne.symm r1)) (hh _ eX.2.1 (Ne.symm h6.2.1) (Ne.symm r3)) (hh _ eX.2.2.1 (Ne.symm h6.2.2.1) (Ne.symm r4)) fun j hj=>hh _ (eX.2.2.2 j hj) (h7 j hj) (h9 t j ht hj)
 ·rcases h2 with e|⟨B,e,g1,g2,g3,g4⟩
  ·exact .inl e
  ·exact .inr ⟨B,e,by rw[hh _ g2.2.2.2.2 g2.2.2.2.1 (Ne.symm (g4 t ht)),g1];rfl,by omega,g3,g4⟩
 ·simp only[kq,List.length_set]at g;simp only[kq,List.getElem_set];split
  ·rename_i e;subst e;exact hR
  ·rename_i e;rw[hh _ (h8 i (by omega)).2.2.2.2 (h8 i (by omega)).2.2.2.1 (vE i t (by omega) ht (fun h=>e h.symm)),h4 i g]
theorem dc.memory (H:dc h k b vB C L T ids aZ m) (hk:k<=k') {mem:aK} (hM:ja h' k' b C L ft vB (.int .u16 m.layout.key) (.bU T 0 m.threads.length) mem)
  (hi: ∀j,j<4->ft j=ids j\/k<=ft j) (hh: ∀i,i<k->i≠C->i≠L->(∀j,j<4->i≠ids j)->h' i=h i):dc h' k' b vB C L T ft aZ ⟨m.layout,mem,m.threads⟩:=by
 obtain⟨h1,h2,h3,h4,h0,h6,h7,h8,h9,vE⟩:=H;refine⟨hM,?_,?_,fun i g=> ?_,h0,⟨h6.1,h6.2.1,h6.2.2.1,by omega⟩,fun j hj=> ?_,fun i hi=>by obtain⟨a1,a3,a4,a5,a6⟩:=h8 i hi;exact⟨a1,a3,a4,a5,by omega⟩,fun i j nf hj=> ?_,vE⟩
 ·rcases h2 with e|⟨B,e,g1,g2,g3,g4⟩
  ·exact .inl e
  ·refine .inr ⟨B,e,by rw[hh _ g2.2.2.2.2 g2.2.1 g2.2.2.1 fun j hj=>Ne.symm (g3 j hj),g1],by omega,fun j hj=> ?_,g4⟩;rcases hi j hj with e|e
   ·rw[e];exact g3 j hj
   ·have:=g2.2.2.2.2;omega
 ·rw[hh _ h6.2.2.2 h6.2.1 h6.2.2.1 fun j hj=>Ne.symm (h7 j hj),h3]
 ·obtain⟨a1,a3,a4,a5,a6⟩:=h8 i (by simp only at g;omega);rw[hh _ a6 a3 a4 fun j hj=>Ne.symm (h9 i j (by simp only at g;omega) hj),h4 i g]
 ·rcases hi j hj with e|e
  ·rw[e];exact h7 j hj
  ·have:=h6.2.2.2;omega
 ·rcases hi j hj with e|e
  ·rw[e];exact h9 i j nf hj
  ·have:=(h8 i nf).2.2.2.2;omega
structure gP (h:aY) (k:Nat) (vB:V) (C L T:Nat) (ids aZ:Nat->Nat) (m:bf):Prop where
 mp:w9 m.memory
 mem:Ir h C L ids m.memory
 sep:Lv C L ids
 lt:C<k/\L<k/\ ∀i,i<4->ids i<k
 aD:vB= .sl false (m.layout.aD.map (V.int .i64))\/ ∃B,vB= .bU B 0 m.layout.aD.length/\h B=some ⟨1,m.layout.aD.map (V.int .i64),false⟩/\(B≠C/\B≠L/\B≠T/\B<k)/\(∀j,j<4->ids j≠B)/\ ∀i,i<4->aZ i≠B
 nv:h T=some ⟨8,bZ aZ m.threads,true⟩
 Ez: ∀i (g:i<m.threads.length),h (aZ i)=some ⟨2,(m.threads[i]).bm.map Cell.e,false⟩
 len:m.threads.length=4
 ym:T≠C/\T≠L/\T<k
 YJ: ∀j,j<4->ids j≠T
 qB: ∀i,i<4->aZ i≠C/\aZ i≠L/\aZ i≠T/\aZ i<k
 amk: ∀i j,i<4->j<4->ids j≠aZ i
 M9: ∀i j,i<4->j<4->i≠j->aZ i≠aZ j
def jo(vB:V)(C L T:Nat)(m:bf):V:= .agg [vB,.int .u16 m.layout.key,.bU C 0 512,.bU L 0 4,.bU T 0 m.threads.length]
theorem mC(vB:V)(C L T:Nat)(m:bf):(jo vB C L T m).cells=[vB,.int .u16 m.layout.key,.bU C 0 512,.bU L 0 4,.bU T 0 m.threads.length]:=rfl
theorem nw(vB:V)(C L T:Nat)(m:bf):(jo vB C L T m).fits 5=true:=rfl
def na(k:Nat)(vB:V)(C L T:Nat)(ids aZ:Nat->Nat):Prop:=(k<=C/\k<=L/\k<=T)/\(∀j,j<4->k<=ids j/\k<=aZ j)/\ ∀B s n,vB= .bU B s n->k<=B
theorem gP.mono(H:gP h k vB C L T ids aZ m){a:Nat}(hA:na a vB C L T ids aZ)(hk:k<=k')(hh: ∀i,a<=i->i<k->h' i=h i):gP h' k' vB C L T ids aZ m:=by
 obtain⟨h0,h1,h2,h3,h4,h5,h6,h7,h9,vE,B5,Ei,Uo⟩:=H;obtain⟨⟨aC,aL,aT⟩,aI,aB⟩:=hA;refine⟨h0,⟨by rw[hh _ aC h3.1,h1.cells],by rw[hh _ aL h3.2.1,h1.lines],fun i g=> ?_⟩,h2,⟨by omega,by omega,fun i hi=>by have:=h3.2.2 i hi;omega⟩,?_,by rw[hh _ aT h9.2.2,h5],fun i g=> ?_,h7,by omega,vE,fun i hi=>by have:=B5 i hi;omega,Ei,Uo⟩
 ·have hi:i<4:=by have:=h0.lines;omega
  rw[hh _ (aI i hi).1 (h3.2.2 i hi),h1.line i g]
 ·rcases h4 with e|⟨B,e,g1,g2,g3,g4⟩
  ·exact .inl e
  ·exact .inr ⟨B,e,by rw[hh _ (aB _ _ _ e) g2.2.2.2,g1],by omega,g3,g4⟩
 ·rw[hh _ (aI i (by omega)).2 (B5 i (by omega)).2.2.2,h6 i g]
theorem gP.box(H:gP h k vB C L T ids aZ m)(hb:b<k->(∀B s n,vB= .bU B s n->b≠B)/\b≠C/\b≠L/\b≠T/\ ∀j,j<4->b≠ids j/\b≠aZ j)(hk:b<k')(vr:k<=k')(hB:h' b=some ⟨5,[jo vB C L T m],true⟩)(hh: ∀i,i<k->i≠b->h' i=h i):dc h' k' b vB C L T ids aZ m:=by
 obtain⟨h0,h1,h2,h3,h4,h5,h6,h7,h9,vE,B5,Ei,Uo⟩:=H;have nC:C≠b:=fun e=>by have:=hb (by omega);exact this.2.1 e.symm
 have nL:L≠b:=fun e=>by have:=hb (by omega);exact this.2.2.1 e.symm
 have nT:T≠b:=fun e=>by have:=hb (by omega);exact this.2.2.2.1 e.symm
 have nI: ∀j,j<4->ids j≠b:=fun j hj e=>by have:=hb (by have:=h3.2.2 j hj;omega);exact(this.2.2.2.2 j hj).1 e.symm
 have nR: ∀j,j<4->aZ j≠b:=fun j hj e=>by have:=hb (by have:=B5 j hj;omega);exact(this.2.2.2.2 j hj).2 e.symm
 refine⟨⟨hB,⟨by rw[hh _ h3.1 nC,h1.cells],by rw[hh _ h3.2.1 nL,h1.lines],fun i g=> ?_⟩,h2,⟨Ne.symm nL,Ne.symm nC⟩,nI,⟨hk,by omega,by omega,fun i hi=>by have:=h3.2.2 i hi;omega⟩,h0⟩,?_,?_,fun i g=> ?_,h7,⟨nT,h9.1,h9.2.1,by omega⟩,vE,fun i hi=> ?_,Ei,Uo⟩
 ·have hi:i<4:=by have:=h0.lines;omega
  rw[hh _ (h3.2.2 i hi) (nI i hi),h1.line i g]
 ·rcases h4 with e|⟨B,e,g1,g2,g3,g4⟩
  ·exact .inl e
  ·have nB:B≠b:=fun e2=>by have:=hb (by omega);exact this.1 _ _ _ e e2.symm
   exact .inr ⟨B,e,by rw[hh _ g2.2.2.2 nB,g1],⟨nB,g2.1,g2.2.1,g2.2.2.1,by omega⟩,g3,g4⟩
 ·rw[hh _ h9.2.2 nT,h5]
 ·rw[hh _ (B5 i (by omega)).2.2.2 (nR i (by omega)),h6 i g]
 ·obtain⟨a2,a3,a4,a5⟩:=B5 i hi;exact⟨nR i hi,a2,a3,a4,by omega⟩
theorem dc.at(H:dc h k b vB C L T ids aZ m):gP h k vB C L T ids aZ m:=by
 obtain⟨h1,h2,h3,h4,h0,h6,h7,h8,h9,vE⟩:=H;refine⟨h1.mem,h1.at_,h1.sep,h1.lt.2,?_,h3,h4,h0,⟨h6.2.1,h6.2.2.1,h6.2.2.2⟩,h7,fun i hi=>(h8 i hi).2,h9,vE⟩;rcases h2 with e|⟨B,e,g1,g2,g3,g4⟩
 ·exact .inl e
 ·exact .inr ⟨B,e,g1,g2.2,g3,g4⟩
theorem dc.sE(H:dc h k b vB C L T ids aZ m):h b=some ⟨5,[jo vB C L T m],true⟩:=H.mem.box
theorem lj{α:Type}{g:V->Option V}{e:α->V}: ∀(l:List α) (f:Nat->α->V) (h: ∀i (hi:i<l.length),g (f i l[i])=some (e l[i])),cn ((l.mapIdx f).map g)=some (l.map e):=by
 intro l;induction l with
 |nil=>intro _ _;rfl
 |cons a l ih=>
  intro f h;have h0:=h 0 (by simp);have:=ih (fun i=>f (i+1)) fun i hi=>h (i+1) (by simpa using hi);simp only[List.getElem_cons_zero]at h0;rw[List.mapIdx_cons,List.map_cons,List.map_cons,h0];rw[cn.eq_3,this]
theorem gP.Bh(H:gP h k vB C L T ids aZ m){hx:aY}(U6: ∀i,i<4->hx (aZ i)=h (aZ i))(d:Nat):cn ((bZ aZ m.threads).map (bT hx (d+2)))=some (m.threads.map Thread.e):=by
 refine lj _ _ fun i hi=> ?_;have hl:=H.len;have:=H.Ez i hi;rw[<-U6 i (by omega)]at this;simp[db,bT,cn,this,Thread.bP]
theorem gP.vQ(H:gP h k vB C L T ids aZ m){hx:aY}(U6: ∀i,i<4->hx (ids i)=h (ids i))(d:Nat):cn ((dY ids m.memory.lines).map (bT hx (d+2)))=some (m.memory.lines.map cx.e):=by
 refine lj _ _ fun i hi=> ?_;have hl:=H.mp.lines;have:=H.mem.line i hi;rw[<-U6 i (by omega)]at this;simp[Eu,bT,cn,this,cx.bP]
theorem FQ(x:Thread):(Thread.e x).jm=Thread.e x:=by
 simp[Thread.bP,V.jm,df]
theorem nV(l:List Thread):df (l.map Thread.e)=l.map Thread.e:=nK FQ l
def kv(m:bf):List V:=[.sl false (m.layout.aD.map (V.int .i64)),.int .u16 m.layout.key,.sl false (m.memory.cells.map Cell.e),.sl false (m.memory.lines.map cx.e),.sl false (m.threads.map Thread.e)]
theorem LC(m:bf):df (kv m)=kv m:=by
 simp[kv,V.jm,df]
theorem gP.dy(H:gP h k vB C L T ids aZ m)(d:Nat):bT h (d+6) (jo vB C L T m)=some (.agg (kv m)):=by
 have e1:=H.Bh (hx:=h) (fun _ _=>rfl) (d+2);have e2:=H.vQ (hx:=h) (fun _ _=>rfl) (d+2);have hl:=H.mp.lines;have hc:=H.mp.len;have hn:=H.len;have l1:=ed aZ m.threads;have l2:=gX ids m.memory.lines;have t1:(bZ aZ m.threads).take m.threads.length=bZ aZ m.threads:=bn (by omega);have t2:(dY ids m.memory.lines).take 4=dY ids m.memory.lines:=bn (by omega);have t3:(m.memory.cells.map Cell.e).take 512=m.memory.cells.map Cell.e:=bn (by simp;omega);rcases H.aD with e|⟨B,e,g1,g2,g3,g4⟩
 ·simp[jo,kv,bT,cn,e,H.mem.cells,H.mem.lines,H.nv,l1,l2,hl,hc,t1,t2,t3,e1,e2]
 ·simp[jo,kv,bT,cn,e,g1,H.mem.cells,H.mem.lines,H.nv,l1,l2,hl,hc,t1,t2,t3,e1,e2]
end
theorem ny(ids:Nat->Nat)(i:Nat)(x:Thread)(pc:Int)(bm:List Cell):db ids i (si x pc bm)= .agg [.int .i64 x.state,.bU (ids i) 0 bm.length,.int .i64 pc,.int .i64 x.count,.int .i64 x.bV,.int .i64 x.saved,.int .i64 x.dd,.int .u16 x.code]:=rfl
theorem eO(ids:Nat->Nat)(i:Nat)(x:Thread)(pc:Int)(bm:List Cell)(s:Int):db ids i (kK x pc bm s)= .agg [.int .i64 x.state,.bU (ids i) 0 bm.length,.int .i64 pc,.int .i64 (x.count+1),.int .i64 x.bV,.int .i64 s,.int .i64 x.dd,.int .u16 x.code]:=rfl
theorem yt(ids:Nat->Nat)(i:Nat)(x:Thread):db ids i (rL x)= .agg [.int .i64 2,.bU (ids i) 0 x.bm.length,.int .i64 (x.pc+1),.int .i64 x.count,.int .i64 x.bV,.int .i64 x.saved,.int .i64 x.dd,.int .u16 x.code]:=rfl
theorem gU(ids:Nat->Nat)(i:Nat)(x:Thread)(w:Int):db ids i (gd x w)= .agg [.int .i64 4,.bU (ids i) 0 x.bm.length,.int .i64 x.pc,.int .i64 x.count,.int .i64 x.bV,.int .i64 x.saved,.int .i64 w,.int .u16 0]:=rfl
theorem sH(x:Thread)(pc:Int)(bm:List Cell):(si x pc bm).bm=bm:=rfl
theorem gE(x:Thread)(pc:Int)(bm:List Cell)(s:Int):(kK x pc bm s).bm=bm:=rfl
theorem Cq(x:Thread):(rL x).bm=x.bm:=rfl
theorem kV(x:Thread)(w:Int):(gd x w).bm=x.bm:=rfl
theorem l5(x:Thread)(a:Nat)(c:Cell):Co x a c=x.bm.set a c:=by simp[Co]
theorem kC{x:Thread}{a:Nat}(h:a<x.bm.length):iR x a=x.bm[a]:=by simp[iR,List.getD,h]
def PB(h:aY)(k T:Nat)(aZ:Nat->Nat)(t:Nat)(ts:List Thread)(x':Thread)(s:Int)(v:V)(h':aY)(k':Nat):Prop:=
 v= .int .i64 s/\h' T=some ⟨8,(bZ aZ ts).set t (db aZ t x'),true⟩/\h' (aZ t)=some ⟨2,x'.bm.map Cell.e,false⟩/\k<=k'/\ ∀i,i<k->i≠T->i≠aZ t->h' i=h i
theorem dS(h:aY)(k T:Nat)(aZ:Nat->Nat)(t:Nat)(ts:List Thread)(x':Thread)(s:Int)(v:V)(h':aY)(k':Nat):PB h k T aZ t ts x' s v h' k'=
 (v= .int .i64 s/\h' T=some ⟨8,(bZ aZ ts).set t (db aZ t x'),true⟩/\h' (aZ t)=some ⟨2,x'.bm.map Cell.e,false⟩/\k<=k'/\ ∀i,i<k->i≠T->i≠aZ t->h' i=h i):=rfl
def eM(r:Option (V×aY×Nat))(p:Prog)(h:aY)(k b:Nat)(vB:V)(C L T:Nat)(ids aZ:Nat->Nat)(m:bf)(t:Nat):Prop:= ∃h' k' ft,r=some (.int .i64 (hZ p m t).2,h',k')/\dc h' k' b vB C L T ft aZ (hZ p m t).1/\k<=k'/\(∀j,j<4->ft j=ids j\/k<=ft j)/\
 ∀i,i<k->i≠C->i≠L->(∀j,j<4->i≠ids j)->i≠T->i≠aZ t->h' i=h i
theorem eM.of {r:Option (V×aY×Nat)} {p:Prog} {h:aY} {k b C L T:Nat} {vB:V} {ids aZ:Nat->Nat} {m:bf} {t:Nat} (H:dc h k b vB C L T ids aZ m) (ht:t<4) (x':Thread) (s:Int) (hs:mB p m (cg m t)=(m.memory,x',s))
  (he: ∃v h' n',r=some (v,h',n')/\PB h k T aZ t m.threads x' s v h' n'):eM r p h k b vB C L T ids aZ m t:=by
 obtain⟨v,h',n',e,rfl,g2,g3,g4,g5⟩:=he;have lp:t<m.threads.length:=by rw[H.len];exact ht
 have e1:hZ p m t=(kq m m.memory t x',s):=by rw[tD,hs]
 rw[gq lp]at g2;unfold eM;rw[e1];exact⟨h',n',ids,e,H.put g4 ht g2 g3 g5,g4,fun _ _=> .inl rfl,fun i hi _ _ _ PC hit=>g5 i hi PC hit⟩
theorem eM.ace {r:Option (V×aY×Nat)} {p:Prog} {h h1:aY} {k k1 b C L T:Nat} {vB:V} {ids fg aZ:Nat->Nat} {m:bf} {t:Nat} (H:dc h k b vB C L T ids aZ m) (ht:t<4) {PD:aK} (H1:dc h1 k1 b vB C L T fg aZ ⟨m.layout,PD,m.threads⟩) (hk:k<=k1) (dg: ∀j,j<4->fg j=ids j\/k<=fg j)
  (lK: ∀i,i<k->i≠C->i≠L->(∀j,j<4->i≠ids j)->h1 i=h i) (x':Thread) (s:Int) (hs:mB p m (cg m t)=(PD,x',s))
  (he: ∃v h' n',r=some (v,h',n')/\PB h1 k1 T aZ t m.threads x' s v h' n'):eM r p h k b vB C L T ids aZ m t:=by
 obtain⟨v,h',n',e,rfl,g2,g3,g4,g5⟩:=he;have lp:t<m.threads.length:=by rw[H.len];exact ht
 have e1:hZ p m t=(kq m PD t x',s):=by rw[tD,hs]
 rw[gq lp]at g2;unfold eM;rw[e1];exact⟨h',n',fg,e,H1.put g4 ht g2 g3 g5,by omega,dg,fun i hi hiC hiL jk PC hit=>by rw[g5 i (by omega) PC hit,lK i hi hiC hiL jk]⟩
theorem Cr{p:Prog}{m:bf}{x:Thread}{n:Nat}(hn:x.pc=n)(h:n<p.code.length){i:Instr}(hi:p.code[n]=i):mB p m x=fR p m x i:=by
 unfold mB;rw[if_pos (by omega),hn,Int.toNat_natCast];simp[List.getD,h,hi]
theorem EA{p:Prog}{m:bf}{x:Thread}(h: ¬x.pc<p.code.length):mB p m x=(m.memory,gd x 2,2):=by
 unfold mB;rw[if_neg h]
noncomputable def cH(g:FuncId)(args:List V)(h:aY)(k:Nat):aY:=match cy X g args h k with|some (_,h',_)=>h'|none=>h
noncomputable def cK(g:FuncId)(args:List V)(h:aY)(k:Nat):Nat:=match cy X g args h k with|some (_,_,n)=>n|none=>k
theorem tS{g:FuncId}{args:List V}{h h':aY}{k k':Nat}{v:V}(e:cy X g args h k=some (v,h',k')):cH g args h k=h'/\cK g args h k=k':=by
 unfold cH cK;rw[e];exact⟨rfl,rfl⟩
def Below(k:Nat)(h h1:aY):Prop:= ∀i,i<k->h1 i=h i
theorem bN(k:Nat)(h:aY):Below k h h=True:=eq_true fun _ _=>rfl
theorem bS(k j:Nat)(h h1:aY)(v:Option Ob):Below k h (aO h1 (k+j) v)=Below k h h1:=by
 apply propext;constructor<;>intro g i hi
 ·have:=g i hi;rwa[aO,if_neg (by omega)]at this
 ·rw[aO,if_neg (by omega)];exact g i hi
theorem cp(k:Nat)(h h1:aY)(v:Option Ob):Below k h (aO h1 k v)=Below k h h1:=bS k 0 h h1 v
def Al(h:aY)(k T:Nat)(aZ:Nat->Nat)(t:Nat)(ts:List Thread)(g:FuncId)(args:List V)(x':Thread)(s:Int)(v:V)(h':aY)(k':Nat):Prop:=
 ∃h1 j,Below k h h1/\PB (cH g args h1 (k+j)) (cK g args h1 (k+j)) T aZ t ts x' s v h' k'
theorem U7{h h1:aY}{k T:Nat}{aZ:Nat->Nat}{t:Nat}{ts:List Thread}{g:FuncId}{args:List V}{x':Thread}{s:Int}{j n:Nat}{E R:List V}(hB:Below k h h1)(hs:aZ t≠T)(hE:E=(bZ aZ ts).set t (db aZ t x'))(hR:R=x'.bm.map Cell.e):
  Al h k T aZ t ts g args x' s (.int .i64 s) (aO (aO (cH g args h1 (k+j)) (aZ t) (some ⟨2,R,false⟩)) T (some ⟨8,E,true⟩)) (cK g args h1 (k+j)+n):=
 ⟨h1,j,hB,rfl,by rw[hE];simp[aO],by rw[hR];simp[aO,hs],by omega,fun i _ h1 h2=>by simp[aO,h1,h2]⟩
theorem U8{h h1:aY}{k T:Nat}{aZ:Nat->Nat}{t:Nat}{ts:List Thread}{g:FuncId}{args:List V}{x':Thread}{s:Int}{j n:Nat}{E:List V}(hB:Below k h h1)(hs:aZ t≠T)(hE:E=(bZ aZ ts).set t (db aZ t x'))(hR:cH g args h1 (k+j) (aZ t)=some ⟨2,x'.bm.map Cell.e,false⟩):
  Al h k T aZ t ts g args x' s (.int .i64 s) (aO (cH g args h1 (k+j)) T (some ⟨8,E,true⟩)) (cK g args h1 (k+j)+n):=
 ⟨h1,j,hB,rfl,by rw[hE];simp[aO],by simp[aO,hs,hR],by omega,fun i _ h1 h2=>by simp[aO,h1]⟩
@[simp] theorem PE(ay:List Instr)(ah:List Int)(az:List (List Int))(m:V)(t:Int)(h:aY)(k b:Nat)(vB:V)(C L T:Nat)(ids aZ:Nat->Nat)(mm:bf)(tn:Nat)(d:Int)(H:dc h k b vB C L T ids aZ mm)(HG:cR (Prog.mk ay ah az) d mm)(hd:d<=1099511628776)(ht:tn<4)(hBB: ∃B,vB= .bU B 0 mm.layout.aD.length)(iA:(cg mm tn).pc<ay.length/\(3<=(ay.getD (cg mm tn).pc.toNat nU).op/\(ay.getD (cg mm tn).pc.toNat nU).op<=14)):eM (cy X 65 [(ay,ah,az),.ptr b 0 0,(tn:Int)] h k) (Prog.mk ay ah az) h k b vB C L T ids aZ mm tn:=by
 have hl:=H.len;have lp:tn<mm.threads.length:=by omega
 have oE:(tn:Int)<4:=by omega
 have qz:=HG.nv tn lp;have hR:=H.Ez tn lp;have hg:=eF (ids:=aZ) lp;have hT:=H.nv;have iU:=ed aZ mm.threads;rw[hl]at iU;have hb:=H.sE;unfold jo at hb;rw[hl]at hb;have ct: ∀(h2:aY) (k2:Nat) (w:Int),h2 T=some ⟨8,bZ aZ mm.threads,true⟩->cy X 113 [.ptr T tn 0,.int .i64 w] h2 k2=some (.int .i64 2,aO h2 T (some ⟨8,(bZ aZ mm.threads).set tn (db aZ tn (gd mm.threads[tn] w)),true⟩),k2+15):=fun h2 k2 w g=>by
  rw[gq lp];exact UO .bad 0 h2 k2 T tn w aZ mm.threads g lp
 have ug:cg mm tn=mm.threads[tn]:=ie lp;obtain⟨x,nq⟩: ∃x,mm.threads[tn]=x:=⟨_,rfl⟩;rw[nq]at qz hR ug;simp only[nq]at hg ct;obtain⟨s1,s3,s4,s5,s6⟩:=H.qB tn ht;have Da: ¬T=aZ tn:=fun e=>s5 e.symm;have s1': ¬b=aZ tn:=fun e=>s1 e.symm;obtain⟨u1,u2,u3,u4⟩:=H.ym;have u1': ¬b=T:=fun e=>u1 e.symm;have eX:=H.mem.lt.1;have q1: ∀j,¬b=k+j:=fun j=>by omega
 have q2: ∀j,¬T=k+j:=fun j=>by omega
 have q3: ∀j,¬aZ tn=k+j:=fun j=>by omega
 have q4: ∀j,¬k+j=b:=fun j=>by omega
 have q5: ∀j,¬k+j=T:=fun j=>by omega
 have q6: ∀j,¬k+j=aZ tn:=fun j=>by omega
 have pq: ¬b=k:=by omega
 have mO: ¬T=k:=by omega
 have oQ: ¬aZ tn=k:=by omega
 have Gq:=qz.pc;obtain⟨n,hn⟩: ∃n:Nat,x.pc=n:=⟨x.pc.toNat,by omega⟩;have h8:=qz.bm;have QX:ay.length<=64:=HG.prog.pk;have FR:=qz.count;have EB:IntKind.i64.wrap (x.count+1)=x.count+1:=wrap_i64 (by omega);have nO:=cS n (by omega);have frame: ∀(h2:aY),(∀i,i<k->i≠T->i≠aZ tn->h2 i=h i)-> ∀i,i<k->i≠T->i≠aZ tn->h2 i=h i:=fun _ g=>g;by_cases oV:n<ay.length
 case neg=>
  have:=iA.1;rw[ug,hn]at this;omega
 have oF: ¬(ay.length:Int)<=n:=by omega
 have hI:=HG.prog.zy (p:=(Prog.mk ay ah az)) oV;simp only at hI;obtain⟨⟨op,ai,bi,ci,dy⟩,hi⟩: ∃i,ay[n]=i:=⟨_,rfl⟩;rw[hi]at hI;obtain⟨o1,ia,ib,ic,im,ij,il,is⟩:=hI;simp only at o1 ia ib ic im ij il is;obtain⟨a,rfl⟩:=Int.eq_ofNat_of_zero_le ia.1;obtain⟨b',rfl⟩:=Int.eq_ofNat_of_zero_le ib.1;obtain⟨c,rfl⟩:=Int.eq_ofNat_of_zero_le ic.1;have qX:(a:Int)<8:=ia.2;have vS:(b':Int)<8:=ib.2;have c8i:(c:Int)<8:=ic.2;have a8:a<8:=by omega
 have b8:b'<8:=by omega
 have c8:c<8:=by omega
 have al:a<x.bm.length:=by omega
 have bl:b'<x.bm.length:=by omega
 have cl:c<x.bm.length:=by omega
 have eY:IntKind.u16.wrap dy=dy:=wrap_u16 im;have hL:=HG.lay;have hlen:=hL.len;simp only at hL hlen;obtain⟨B,Gx,Bi,⟨nB,nB2,amo,nB3,nBk⟩,nBi,nBr⟩: ∃B,vB= .bU B 0 mm.layout.aD.length/\h B=some ⟨1,mm.layout.aD.map (V.int .i64),false⟩/\(B≠b/\B≠C/\B≠L/\B≠T/\B<k)/\(∀j,j<4->ids j≠B)/\ ∀i,i<4->aZ i≠B:=by
  rcases H.aD with e|e
  ·obtain⟨_,e2⟩:=hBB;rw[e]at e2;cases e2
  ·exact e
 have nB4: ∀j,¬B=k+j:=fun j=>by omega
 have IG: ¬B=k:=by omega
 have vL: ∀y:Cell,(⟨y.tag,y.val⟩:Cell)=y:=fun _=>rfl;have pL:(aN.mk mm.layout.aD mm.layout.key)=mm.layout:=rfl;have hs: ∀r,fR (Prog.mk ay ah az) mm x ⟨op,a,b',c,dy⟩=r->mB (Prog.mk ay ah az) mm (cg mm tn)=r:=fun r g=>by rw[ug,Cr (p:=(Prog.mk ay ah az)) hn oV hi,g]
 obtain⟨xa,qF⟩: ∃v,x.bm[a]=v:=⟨_,rfl⟩;obtain⟨xb,tU⟩: ∃v,x.bm[b']=v:=⟨_,rfl⟩;obtain⟨xc,U9⟩: ∃v,x.bm[c]=v:=⟨_,rfl⟩;have ra:iR x a=xa:=by rw[kC al,qF]
 have rb:iR x b'=xb:=by rw[kC bl,tU]
 have rc:iR x c=xc:=by rw[kC cl,U9]
 have ca:hY xa:=by rw[<-ra];exact iH qz _
 have cb:hY xb:=by rw[<-rb];exact iH qz _
 have cc:hY xc:=by rw[<-rc];exact iH qz _
 have eX:=H.mem.lt;have HM: ∀(h1:aY) (j:Nat),Below k h h1->ja h1 (k+j) b C L ids vB (.int .u16 mm.layout.key) (.bU T 0 4) mm.memory:=fun h1 j gG=>by have:=(H.mono (k':=k+j) (by omega) gG).mem;rwa[hl]at this
 have br:dW 18=true/\dW 19=true/\dW 20=true/\dW 21=true/\dW 22=true/\dW 24=true/\ ∀o:Int,0<=o->o<=17->dW o=false:=⟨by decide,by decide,by decide,by decide,by decide,by decide,fun o h1 h2=>by simp[dW,jumps];omega⟩;obtain⟨br1,br2,br3,br4,br5,br6,br7⟩:=br;have oc:op=0\/op=1\/op=2\/(3<=op/\op<=14)\/op=15\/op=16\/op=17\/op=18\/op=19\/op=20\/op=21\/op=22\/op=23\/op=24:=by omega
 rcases oc with rfl|rfl|rfl|ho|rfl|rfl|rfl|rfl|rfl|rfl|rfl|rfl|rfl|rfl
 ·exact absurd iA.2 (by rw[ug,hn,Int.toNat_natCast,show ay.getD n nU=ay[n] by simp[List.getD,oV],hi];simp)
 ·exact absurd iA.2 (by rw[ug,hn,Int.toNat_natCast,show ay.getD n nU=ay[n] by simp[List.getD,oV],hi];simp)
 ·exact absurd iA.2 (by rw[ug,hn,Int.toNat_natCast,show ay.getD n nU=ay[n] by simp[List.getD,oV],hi];simp)
 ·obtain⟨⟨dt,dv⟩,w,YK⟩: ∃r w,n7 mm.layout.aD ah op xb xc=(r,w):=⟨_,_,rfl⟩;obtain⟨xbt,xbv⟩:=xb;obtain⟨xct,xcv⟩:=xc;have cb2:=cb.2;have cc2:=cc.2;simp only at cb2 cc2;have m0: ¬op=0:=by omega
  have m1: ¬op=1:=by omega
  have m2: ¬op=2:=by omega
  have YL: ¬op=15:=by omega
  have YM: ¬op=16:=by omega
  have YN: ¬op=17:=by omega
  have m18: ¬op=18:=by omega
  have m19: ¬op=19:=by omega
  have m20: ¬op=20:=by omega
  have m21: ¬op=21:=by omega
  have m22: ¬op=22:=by omega
  have m23: ¬op=23:=by omega
  have m24: ¬op=24:=by omega
  have brf:dW op=false:=br7 op (by omega) (by omega);by_cases um:w=0
  ·refine eM.of H ht (si x (n+1) (x.bm.set a ⟨dt,dv⟩)) (-1) (hs _ (by simp[fR,hn,l5,rb,rc,YK,um,m0,m1,m2,YL,YM,YN,m18,m19,m20,m21,m22,m23,m24])) (bu (X:=X) Tryz.func65 rfl rfl ?_);simp-implicitDefEqProofs[Nat.add_assoc,dS,hb,hT,hR,hg,iU,ht,oE,hn,oV,oF,hi,sH,ny,h8,a8,b8,c8,qX,vS,c8i,qF,tU,U9,nO,s5,Da,q1,q2,q3,q5,q6,pq,mO,oQ,m0,m1,m2,YL,YM,YN,m18,m19,m20,m21,m22,m23,m24,brf,hL,Gx,Bi,nB4,IG,cb2,cc2,YK,um,Cell.bP];all_goals ((repeat' apply And.intro)<;>first|omega|rfl|(intro i hi e1 e2;have e3:(∀j,¬i=k+j):=(fun j=>(by omega));have e4: ¬i=k:=(by omega);simp[e1,e2,e3,e4]))
  ·refine eM.of H ht (gd x w) (2) (hs _ (by simp[fR,rb,rc,YK,um,m0,m1,m2,YL,YM,YN,m18,m19,m20,m21,m22,m23,m24])) (bu (X:=X) Tryz.func65 rfl rfl ?_);simp-implicitDefEqProofs[Nat.add_assoc,dS,hb,hT,hR,hg,iU,ht,oE,hn,oV,oF,hi,ct,kV,gU,h8,a8,b8,c8,qX,vS,c8i,qF,tU,U9,nO,s5,q1,q2,q3,pq,mO,oQ,m0,m1,m2,YL,YM,YN,m18,m19,m20,m21,m22,m23,m24,hL,Gx,Bi,nB4,IG,cb2,cc2,YK,um];all_goals ((repeat' apply And.intro)<;>first|omega|rfl|(intro i hi e1 e2;have e3:(∀j,¬i=k+j):=(fun j=>(by omega));have e4: ¬i=k:=(by omega);simp[e1,e3,e4]))
 ·exact absurd iA.2 (by rw[ug,hn,Int.toNat_natCast,show ay.getD n nU=ay[n] by simp[List.getD,oV],hi];simp)
 ·exact absurd iA.2 (by rw[ug,hn,Int.toNat_natCast,show ay.getD n nU=ay[n] by simp[List.getD,oV],hi];simp)
 ·exact absurd iA.2 (by rw[ug,hn,Int.toNat_natCast,show ay.getD n nU=ay[n] by simp[List.getD,oV],hi];simp)
 ·exact absurd iA.2 (by rw[ug,hn,Int.toNat_natCast,show ay.getD n nU=ay[n] by simp[List.getD,oV],hi];simp)
 ·exact absurd iA.2 (by rw[ug,hn,Int.toNat_natCast,show ay.getD n nU=ay[n] by simp[List.getD,oV],hi];simp)
 ·exact absurd iA.2 (by rw[ug,hn,Int.toNat_natCast,show ay.getD n nU=ay[n] by simp[List.getD,oV],hi];simp)
 ·exact absurd iA.2 (by rw[ug,hn,Int.toNat_natCast,show ay.getD n nU=ay[n] by simp[List.getD,oV],hi];simp)
 ·exact absurd iA.2 (by rw[ug,hn,Int.toNat_natCast,show ay.getD n nU=ay[n] by simp[List.getD,oV],hi];simp)
 ·exact absurd iA.2 (by rw[ug,hn,Int.toNat_natCast,show ay.getD n nU=ay[n] by simp[List.getD,oV],hi];simp)
 ·exact absurd iA.2 (by rw[ug,hn,Int.toNat_natCast,show ay.getD n nU=ay[n] by simp[List.getD,oV],hi];simp)
end Go.Proofs.YtejohpnpnaljdaaGreat
