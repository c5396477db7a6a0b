/- Part of a proof: G6. -/
import Derived.Test.YtejohpnpnaljdaaGreatM21
import Derived.Test.YtejohpnpnaljdaaGreatM24
import Derived.Test.YtejohpnpnaljdaaGreatM26
import Derived.Test.YtejohpnpnaljdaaGreatM31
import Derived.Test.YtejohpnpnaljdaaGreatM32
import Derived.Test.YtejohpnpnaljdaaGreatM36
import Derived.Test.YtejohpnpnaljdaaGreatM37
set_option linter.all false
set_option maxRecDepth 20000
set_option maxHeartbeats 20000000
namespace Go.Proofs.YtejohpnpnaljdaaGreat
open Go Go.Abs Go.Abs.lu
structure jM (h:aY) (k:Nat) (S:Nat->Prop) (T:Nat) (vB vC vL:V) (es:List V) (m:bf):Prop where
 lt: ∀i,S i->i<k
 Vs:S T
 row:h T=some ⟨8,es,true⟩
 len:es.length=4
 af9:m.threads.length=4
 aga: ∀i (g:i<es.length) (g':i<m.threads.length),∃vR,es[i]= .agg [.int .i64 (m.threads[i]).state,vR,.int .i64 (m.threads[i]).pc,.int .i64 (m.threads[i]).count,.int .i64 (m.threads[i]).bV,.int .i64 (m.threads[i]).saved,.int .i64 (m.threads[i]).dd,.int .u16 (m.threads[i]).code]
 dy: ∀hx:aY,(∀i,S i->i≠T->hx i=h i)-> ∀d,bT hx (d+3) vB=some (.sl false (m.layout.aD.map (V.int .i64)))/\bT hx (d+3) vC=some (.sl false (m.memory.cells.map Cell.e))/\
  bT hx (d+3) vL=some (.sl false (m.memory.lines.map cx.e))/\cn (es.map (bT hx (d+3)))=some (m.threads.map Thread.e)
theorem jM.mono{h h':aY}{k k':Nat}{S:Nat->Prop}{T:Nat}{vB vC vL:V}{es:List V}{m:bf}(H:jM h k S T vB vC vL es m)(hk:k<=k')(hh: ∀i,S i->h' i=h i):jM h' k' S T vB vC vL es m:=by
 obtain⟨h1,h2,h3,h4,h5,h6,h7⟩:=H;exact⟨fun i hi=>by have:=h1 i hi;omega,h2,by rw[hh _ h2,h3],h4,h5,h6,fun hx vz d=>h7 hx (fun i hi hT=>by rw[vz i hi hT,hh i hi]) d⟩
theorem LP(hx:aY)(d:Nat)(x:Thread):bT hx (d+3) (Thread.e x)=some (Thread.e x):=by
 simp[Thread.bP,bT,cn]
theorem Aq(hx:aY)(d:Nat): ∀l:List Thread,cn ((l.map Thread.e).map (bT hx (d+3)))=some (l.map Thread.e)
 | []=>rfl
 |a::l=>by simp only[List.map_cons];rw[LP];rw[cn.eq_3,Aq hx d l]
theorem jM.flat{h:aY}{k T:Nat}{m:bf}(hT:h T=some ⟨8,m.threads.map Thread.e,true⟩)(hl:m.threads.length=4)(hk:T<k):
  jM h k (fun i=>i=T) T (.sl false (m.layout.aD.map (V.int .i64))) (.sl false (m.memory.cells.map Cell.e)) (.sl false (m.memory.lines.map cx.e)) (m.threads.map Thread.e) m:=by
 refine⟨fun i hi=>by rw[hi];exact hk,rfl,hT,by simp[hl],hl,fun i g g'=>⟨.sl false ((m.threads[i]).bm.map Cell.e),?_⟩,fun hx _ d=>⟨by simp[bT],by simp[bT],by simp[bT],Aq hx d _⟩⟩;simp[Thread.bP]
def Vt(vB:V)(C L T:Nat)(ids aZ:Nat->Nat)(i:Nat):Prop:=i=C\/i=L\/i=T\/(∃j,j<4/\(i=ids j\/i=aZ j))\/ ∃s n,vB= .bU i s n
theorem IV{ids:Nat->Nat}{l:List Thread}{i:Nat}(g:i<(bZ ids l).length)(g':i<l.length):(bZ ids l)[i]=db ids i l[i]:=by
 simp[bZ]
theorem jM.deep{h:aY}{k C L T:Nat}{vB:V}{ids aZ:Nat->Nat}{m:bf}(H:gP h k vB C L T ids aZ m):jM h k (Vt vB C L T ids aZ) T vB (.bU C 0 512) (.bU L 0 4) (bZ aZ m.threads) m:=by
 have hl:=H.len;have uj:=H.mp.lines;have Xg:=H.mp.len;refine⟨fun i hi=> ?_,.inr (.inr (.inl rfl)),H.nv,by rw[ed,hl],hl,fun i g g'=>⟨.bU (aZ i) 0 (m.threads[i]).bm.length,?_⟩,fun hx vz d=> ?_⟩
 ·rcases hi with rfl|rfl|rfl|⟨j,hj,rfl|rfl⟩|⟨s,n,e⟩
  ·exact H.lt.1
  ·exact H.lt.2.1
  ·exact H.ym.2.2
  ·exact H.lt.2.2 j hj
  ·exact(H.qB j hj).2.2.2
  ·rcases H.aD with q|⟨B,q,_,g2,_⟩
   ·rw[q]at e;cases e
   ·rw[q]at e;cases e;exact g2.2.2.2
 ·rw[IV g g'];rfl
 ·have nC:C≠T:=fun e=>H.ym.1 e.symm;have nL:L≠T:=fun e=>H.ym.2.1 e.symm;have xC:=vz C (.inl rfl) nC;have xL:=vz L (.inr (.inl rfl)) nL;have xI: ∀j,j<4->hx (ids j)=h (ids j):=fun j hj=>vz _ (.inr (.inr (.inr (.inl ⟨j,hj,.inl rfl⟩)))) (H.YJ j hj);have xR: ∀j,j<4->hx (aZ j)=h (aZ j):=fun j hj=>vz _ (.inr (.inr (.inr (.inl ⟨j,hj,.inr rfl⟩)))) (H.qB j hj).2.2.1;have e1:=H.Bh (hx:=hx) xR (d+1);have e2:=H.vQ (hx:=hx) xI d;have l2:=gX ids m.memory.lines;have t2:(dY ids m.memory.lines).take 4=dY ids m.memory.lines:=bn (by omega);have t3:(m.memory.cells.map Cell.e).take 512=m.memory.cells.map Cell.e:=bn (by simp;omega);refine⟨?_,?_,?_,e1⟩
  ·rcases H.aD with q|⟨B,q,g1,g2,g3,g4⟩
   ·rw[q];simp[bT]
   ·have xB:=vz B (.inr (.inr (.inr (.inr ⟨_,_,q⟩)))) g2.2.2.1;rw[q];simp[bT,xB,g1]
  ·simp[bT,xC,H.mem.cells,Xg,t3]
  ·simp[bT,xL,H.mem.lines,l2,uj,t2,e2]
theorem Cz(l:List Cell):(l.map Cell.e).all V.Jw=true:=by
 rw[List.all_eq_true];intro x hx;obtain⟨c,_,rfl⟩:=List.mem_map.1 hx;rfl
theorem Nd(l:List Int):(l.map (V.int .i64)).all V.Jw=true:=by
 rw[List.all_eq_true];intro x hx;obtain⟨c,_,rfl⟩:=List.mem_map.1 hx;rfl
theorem PV(ids:Nat->Nat)(l:List cx):(dY ids l).all V.Jw=true:=by
 rw[List.all_eq_true];intro x hx;obtain⟨i,hi,rfl⟩:=List.getElem_of_mem hx;simp[dY,Eu,V.Jw,V.Mn]
theorem IW(ids:Nat->Nat)(l:List Thread):(bZ ids l).all V.Jw=true:=by
 rw[List.all_eq_true];intro x hx;obtain⟨i,hi,rfl⟩:=List.getElem_of_mem hx;simp[bZ,db,V.Jw,V.Mn]
theorem gP.pure{h:aY}{k C L T:Nat}{vB:V}{ids aZ:Nat->Nat}{m:bf}(H:gP h k vB C L T ids aZ m):gP (fun i=>jz (h i)) k vB C L T ids aZ m:=by
 obtain⟨h0,h1,h2,h3,h4,h5,h6,h7,h9,vE,B5,Ei,Uo⟩:=H;refine⟨h0,⟨by simp only[h1.cells,jz,Cz,if_true],by simp only[h1.lines,jz,PV,if_true],fun i g=>by simp only[h1.line i g,jz,Cz,if_true]⟩,h2,h3,?_,by simp only[h5,jz,IW,if_true],fun i g=>by simp only[h6 i g,jz,Cz,if_true],h7,h9,vE,B5,Ei,Uo⟩;rcases h4 with e|⟨B,e,g1,g2⟩
 ·exact .inl e
 ·exact .inr ⟨B,e,by simp only[g1,jz,Nd,if_true],g2⟩
theorem gP.put {h h':aY} {k k' C L T:Nat} {vB:V} {ids aZ:Nat->Nat} {m:bf} (H:gP h k vB C L T ids aZ m) {a:Nat} (hA:na a vB C L T ids aZ) (hk:k<=k') {t:Nat} (ht:t<4) {x:Thread}
  (hT:h' T=some ⟨8,bZ aZ (m.threads.set t x),true⟩) (hR:h' (aZ t)=some ⟨2,x.bm.map Cell.e,false⟩) (hh: ∀i,a<=i->i<k->i≠T->i≠aZ t->h' i=h i):gP h' k' vB C L T ids aZ (kq m m.memory t x):=by
 obtain⟨h0,h1,h2,h3,h4,h5,h6,h7,h9,vE,B5,Ei,Uo⟩:=H;obtain⟨⟨aC,aL,aT⟩,aI,aB⟩:=hA;obtain⟨r3,r4,r5,r6⟩:=B5 t ht;refine⟨h0,⟨by rw[hh _ aC h3.1 (Ne.symm h9.1) (Ne.symm r3)];exact h1.cells,by rw[hh _ aL h3.2.1 (Ne.symm h9.2.1) (Ne.symm r4)];exact h1.lines,fun i g=> ?_⟩,h2,⟨by omega,by omega,fun i hi=>by have:=h3.2.2 i hi;omega⟩,?_,hT,fun i g=> ?_,by simp[kq,h7],⟨h9.1,h9.2.1,by omega⟩,vE,fun i hi=>by have:=B5 i hi;omega,Ei,Uo⟩
 ·have hi:i<4:=by have:=h0.lines;simp only[kq]at g;omega
  rw[hh _ (aI i hi).1 (h3.2.2 i hi) (vE i hi) (Ei t i ht hi)];exact h1.line i g
 ·rcases h4 with e|⟨B,e,g1,g2,g3,g4⟩
  ·exact .inl e
  ·exact .inr ⟨B,e,by rw[hh _ (aB _ _ _ e) g2.2.2.2 g2.2.2.1 (Ne.symm (g4 t ht)),g1];rfl,⟨g2.1,g2.2.1,g2.2.2.1,by omega⟩,g3,g4⟩
 ·simp only[kq,List.length_set]at g;simp only[kq,List.getElem_set];split
  ·rename_i e;subst e;exact hR
  ·rename_i e;rw[hh _ (aI i (by omega)).2 (B5 i (by omega)).2.2.2 (B5 i (by omega)).2.2.1 (Uo i t (by omega) ht (fun h=>e h.symm)),h6 i g]
theorem Vt.IX{a:Nat}{vB:V}{C L T:Nat}{ids aZ:Nat->Nat}(H:na a vB C L T ids aZ): ∀i,Vt vB C L T ids aZ i->a<=i:=fun i hi=>by
 obtain⟨⟨aC,aL,aT⟩,aI,aB⟩:=H;rcases hi with rfl|rfl|rfl|⟨j,hj,rfl|rfl⟩|⟨s,n,e⟩
 ·exact aC
 ·exact aL
 ·exact aT
 ·exact(aI j hj).1
 ·exact(aI j hj).2
 ·exact aB _ _ _ e
def gr(p:Prog)(d:Int)(lay:aN)(h:aY)(k:Nat)(S:Nat->Prop)(v:V)(h':aY)(k':Nat):Prop:=
 ∃(b:Bool) (S':Nat->Prop) (T':Nat) (Y6 Y7 Y8:V) (wM:List V) (m':bf),v= .de [.agg [Y6,.int .u16 m'.layout.key,Y7,Y8,.bU T' 0 4],.bool b]/\jM h' k' S' T' Y6 Y7 Y8 wM m'/\cR p d m'/\m'.layout=lay/\k<=k'/\(∀i,i<k->h' i=h i)/\ ∀i,S' i->S i\/k<=i
theorem gr.same{p:Prog}{d:Int}{h h':aY}{k n:Nat}{S:Nat->Prop}{T:Nat}{vB vC vL:V}{es:List V}{m:bf}{b:Bool}(HM:jM h k S T vB vC vL es m)(HG:cR p d m)(hB:Below k h h'):
  gr p d m.layout h k S (.de [.agg [vB,.int .u16 m.layout.key,vC,vL,.bU T 0 4],.bool b]) h' (k+n):=
 ⟨b,S,T,vB,vC,vL,es,m,rfl,HM.mono (by omega) fun i hi=>hB i (HM.lt i hi),HG,rfl,by omega,hB,fun i hi=> .inl hi⟩
theorem gr.new{p:Prog}{d:Int}{lay:aN}{h h':aY}{k n:Nat}{S:Nat->Prop}{C L T:Nat}{vB:V}{ids aZ:Nat->Nat}{m:bf}{b:Bool}(H:gP h' (k+n) vB C L T ids aZ m)(HA:na k vB C L T ids aZ)(HG:cR p d m)(hl:m.layout=lay)(hB:Below k h h'):
  gr p d lay h k S (.de [.agg [vB,.int .u16 m.layout.key,.bU C 0 512,.bU L 0 4,.bU T 0 4],.bool b]) h' (k+n):=
 ⟨b,_,T,vB,_,_,_,m,rfl,.deep H,HG,hl,by omega,hB,fun i hi=> .inr (Vt.IX HA i hi)⟩
theorem dc.threads {h h':aY} {k k' b C L T:Nat} {vB:V} {ids aZ jq:Nat->Nat} {m:bf} {Q2:List Thread} (H:dc h k b vB C L T ids aZ m) (hk:k<=k') (hl:Q2.length=4) (hT:h' T=some ⟨8,bZ jq Q2,true⟩)
  (hR: ∀i (g:i<Q2.length),h' (jq i)=some ⟨2,(Q2[i]).bm.map Cell.e,false⟩) (hi: ∀i,i<4->jq i=aZ i\/(k<=jq i/\jq i<k')) (jk: ∀i j,i<4->j<4->i≠j->jq i≠jq j)
  (hh: ∀i,i<k->i≠T->(∀j,j<4->i≠aZ j)->h' i=h i):dc h' k' b vB C L T ids jq ⟨m.layout,m.memory,Q2⟩:=by
 obtain⟨h1,h2,h3,h4,h0,h6,h7,h8,h9,vE⟩:=H;have eX:=h1.lt;refine⟨?_,?_,hT,hR,hl,⟨h6.1,h6.2.1,h6.2.2.1,by omega⟩,h7,fun i uk=> ?_,fun i j uk hj=> ?_,jk⟩
 ·have e:Q2.length=m.threads.length:=by omega
  simp only[e];exact h1.dG hk (hh _ eX.1 (Ne.symm h6.1) fun j hj=>Ne.symm (h8 j hj).1) (hh _ eX.2.1 (Ne.symm h6.2.1) fun j hj=>Ne.symm (h8 j hj).2.1) (hh _ eX.2.2.1 (Ne.symm h6.2.2.1) fun j hj=>Ne.symm (h8 j hj).2.2.1) fun j hj=>hh _ (eX.2.2.2 j hj) (h7 j hj) fun i uk=>h9 i j uk hj
 ·rcases h2 with e|⟨B,e,g1,g2,g3,g4⟩
  ·exact .inl e
  ·refine .inr ⟨B,e,by rw[hh _ g2.2.2.2.2 g2.2.2.2.1 fun j hj=>Ne.symm (g4 j hj),g1],by omega,g3,fun i uk=> ?_⟩;rcases hi i uk with q|q
   ·rw[q];exact g4 i uk
   ·have:=g2.2.2.2.2;omega
 ·obtain⟨a1,a3,a4,a5,a6⟩:=h8 i uk;rcases hi i uk with q|q
  ·rw[q];exact⟨a1,a3,a4,a5,by omega⟩
  ·have:=h6.2.2.2;have:=eX.1;have:=eX.2.1;have:=eX.2.2.1;exact⟨by omega,by omega,by omega,by omega,q.2⟩
 ·rcases hi i uk with q|q
  ·rw[q];exact h9 i j uk hj
  ·have:=eX.2.2.2 j hj;omega
theorem yC(B s n C L T:Nat)(m:bf):(jo (.bU B s n) C L T m).pu=true:=rfl
theorem na.less{a a':Nat}{vB:V}{C L T:Nat}{ids aZ:Nat->Nat}(H:na a vB C L T ids aZ)(h:a'<=a):na a' vB C L T ids aZ:=by
 obtain⟨⟨aC,aL,aT⟩,aI,aB⟩:=H;exact⟨⟨by omega,by omega,by omega⟩,fun j hj=>by have:=aI j hj;omega,fun B s n e=>by have:=aB B s n e;omega⟩
theorem dc.other{h h':aY}{k k' b C L T a:Nat}{vB:V}{ids aZ:Nat->Nat}{m:bf}(H:dc h k b vB C L T ids aZ m)(hk:k<=k')(ha:a≠b/\a≠C/\a≠L/\a≠T)(hi: ∀j,j<4->a≠ids j/\a≠aZ j)(hB: ∀B s n,vB= .bU B s n->a≠B)(hh: ∀i,i<k->i≠a->h' i=h i):dc h' k' b vB C L T ids aZ m:=by
 obtain⟨h1,h2,h3,h4,h0,h6,h7,h8,h9,vE⟩:=H;have eX:=h1.lt;refine⟨h1.dG hk (hh _ eX.1 (Ne.symm ha.1)) (hh _ eX.2.1 (Ne.symm ha.2.1)) (hh _ eX.2.2.1 (Ne.symm ha.2.2.1)) fun j hj=>hh _ (eX.2.2.2 j hj) (Ne.symm (hi j hj).1),?_,by rw[hh _ h6.2.2.2 (Ne.symm ha.2.2.2),h3],fun i g=>by rw[hh _ (h8 i (by omega)).2.2.2.2 (Ne.symm (hi i (by omega)).2),h4 i g],h0,⟨h6.1,h6.2.1,h6.2.2.1,by omega⟩,h7,fun i hi=>by obtain⟨a1,a3,a4,a5,a6⟩:=h8 i hi;exact⟨a1,a3,a4,a5,by omega⟩,h9,vE⟩;rcases h2 with e|⟨B,e,g1,g2,g3,g4⟩
 ·exact .inl e
 ·exact .inr ⟨B,e,by rw[hh _ g2.2.2.2.2 (Ne.symm (hB _ _ _ e)),g1],by omega,g3,g4⟩
theorem gP.threads {h h':aY} {k k' C L T:Nat} {vB:V} {ids aZ jq:Nat->Nat} {m:bf} {Q2:List Thread} (H:gP h k vB C L T ids aZ m) {a:Nat} (hA:na a vB C L T ids aZ) (hk:k<=k') (hl:Q2.length=4) (hT:h' T=some ⟨8,bZ jq Q2,true⟩)
  (hR: ∀i (g:i<Q2.length),h' (jq i)=some ⟨2,(Q2[i]).bm.map Cell.e,false⟩) (hi: ∀i,i<4->jq i=aZ i\/(k<=jq i/\jq i<k')) (jk: ∀i j,i<4->j<4->i≠j->jq i≠jq j)
  (hh: ∀i,a<=i->i<k->i≠T->(∀j,j<4->i≠aZ j)->h' i=h i):gP h' k' vB C L T ids jq ⟨m.layout,m.memory,Q2⟩:=by
 obtain⟨h0,h1,h2,h3,h4,h5,h6,h7,h9,vE,B5,Ei,Uo⟩:=H;obtain⟨⟨aC,aL,aT⟩,aI,aB⟩:=hA;refine⟨h0,⟨by rw[hh _ aC h3.1 (Ne.symm h9.1) fun j hj=>Ne.symm (B5 j hj).1];exact h1.cells,by rw[hh _ aL h3.2.1 (Ne.symm h9.2.1) fun j hj=>Ne.symm (B5 j hj).2.1];exact h1.lines,fun i g=> ?_⟩,h2,⟨by omega,by omega,fun i hi=>by have:=h3.2.2 i hi;omega⟩,?_,hT,hR,hl,⟨h9.1,h9.2.1,by omega⟩,vE,fun i uk=> ?_,fun i j uk hj=> ?_,jk⟩
 ·have hi:i<4:=by have:=h0.lines;simp only at g;omega
  rw[hh _ (aI i hi).1 (h3.2.2 i hi) (vE i hi) fun j hj=>Ei j i hj hi];exact h1.line i g
 ·rcases h4 with e|⟨B,e,g1,g2,g3,g4⟩
  ·exact .inl e
  ·refine .inr ⟨B,e,by rw[hh _ (aB _ _ _ e) g2.2.2.2 g2.2.2.1 fun j hj=>Ne.symm (g4 j hj),g1],⟨g2.1,g2.2.1,g2.2.2.1,by omega⟩,g3,fun i uk=> ?_⟩;rcases hi i uk with q|q
   ·rw[q];exact g4 i uk
   ·have:=g2.2.2.2;omega
 ·obtain⟨a3,a4,a5,a6⟩:=B5 i uk;rcases hi i uk with q|q
  ·rw[q];exact⟨a3,a4,a5,by omega⟩
  ·have:=h9.2.2;have:=h3.1;have:=h3.2.1;exact⟨by omega,by omega,by omega,q.2⟩
 ·rcases hi i uk with q|q
  ·rw[q];exact Ei i j uk hj
  ·have:=h3.2.2 j hj;omega
theorem agb(cs:List V):(V.agg cs).pu=cs.all V.Mn:=rfl
theorem CA(i s n:Nat):(V.bU i s n).pu=true:=rfl
theorem Y9(i s n:Nat):(V.bU i s n).Mn=true:=rfl
theorem Za(k:IntKind)(n:Int):(V.int k n).Mn=true:=rfl
theorem gP.own{h:aY}{k C L T:Nat}{vB:V}{ids aZ:Nat->Nat}{r:bf}(HA:gP h k vB C L T ids aZ r):GC X h (jo vB C L T r) [(0,4,52)]=some (.agg (kv r)):=by
 have hT:=HA.nv;have hl:=HA.len;have uj:=HA.mp.lines;have Xg:=HA.mp.len;have nC: ¬C=T:=fun e=>HA.ym.1 e.symm;have nL: ¬L=T:=fun e=>HA.ym.2.1 e.symm;have u: ∀i,i≠T->aO h T none i=h i:=fun i hi=>by simp[aO,hi]
 have e1:=HA.Bh (hx:=aO h T none) (fun i hi=>u _ (HA.qB i hi).2.2.1) 10;have e2:=HA.vQ (hx:=aO h T none) (fun i hi=>u _ (HA.YJ i hi)) 9;have l1:=ed aZ r.threads;have l2:=gX ids r.memory.lines;rw[hl]at l1;rw[uj]at l2;have t1:(bZ aZ r.threads).take 4=bZ aZ r.threads:=bn (by omega);have t2:(dY ids r.memory.lines).take 4=dY ids r.memory.lines:=bn (by omega);have t3:(r.memory.cells.map Cell.e).take 512=r.memory.cells.map Cell.e:=bn (by simp;omega);have t4:(r.threads.map Thread.e).take 4=r.threads.map Thread.e:=bn (by simp;omega);unfold jo kv;rcases HA.aD with e|⟨B,e,g1,g2,g3,g4⟩
 ·simp-implicitDefEqProofs[e,hT,hl,Xg,nC,nL,HA.mem.cells,HA.mem.lines,l1,l2,t1,t2,t3,e1,e2]
 ·have nB: ¬B=T:=g2.2.2.1;simp-implicitDefEqProofs[e,g1,hT,hl,Xg,nB,nC,nL,HA.mem.cells,HA.mem.lines,l1,l2,t1,t2,t3,e1,e2]
@[simp] theorem Zb(aa:List Int)(aw:Int)(aq:List Cell)(an:List cx)(ax:List Thread)(p:Prog)(c:Int)(HG:cR p c (bf.mk (aN.mk aa aw) (aK.mk aq an) ax)):lY X [(0,4,52)] 40 [(aa,aw,aq,an,ax)]=some (.agg [.sl false (((bf.mk (aN.mk aa aw) (aK.mk aq an) ax)).layout.aD.map (V.int .i64)),.int .u16 ((bf.mk (aN.mk aa aw) (aK.mk aq an) ax)).layout.key,.sl false (((bf.mk (aN.mk aa aw) (aK.mk aq an) ax)).memory.cells.map Cell.e),.sl false (((bf.mk (aN.mk aa aw) (aK.mk aq an) ax)).memory.lines.map cx.e),.sl false (((bf.mk (aN.mk aa aw) (aK.mk aq an) ax)).threads.map Thread.e)]):=by
 obtain⟨v,h',k',e,_,hv,HA,_⟩:=Bj aa aw aq an ax 0 p c HG;unfold Go.Abs.lY;rw[e];simp only[hv];exact HA.own
def wb(m:bf)(t:Nat):bf:=⟨m.layout,m.memory,m.threads.set t {cg m t with saved:=(cg m t).pc,pc:=(cg m t).bV}⟩
@[simp] theorem PX(aa:List Int)(aw:Int)(aq:List Cell)(an:List cx)(ax:List Thread)(t:Int)(p:Prog)(c:Int)(HG:cR p c (bf.mk (aN.mk aa aw) (aK.mk aq an) ax))(ht:0<=t/\t<4)(hc:F4 (ax.getD t.toNat da)=true):lY X [(0,4,52)] 178 [(aa,aw,aq,an,ax),t]=some (.de [.agg [.sl false ((wb (bf.mk (aN.mk aa aw) (aK.mk aq an) ax) t.toNat).layout.aD.map (V.int .i64)),.int .u16 (wb (bf.mk (aN.mk aa aw) (aK.mk aq an) ax) t.toNat).layout.key,.sl false ((wb (bf.mk (aN.mk aa aw) (aK.mk aq an) ax) t.toNat).memory.cells.map Cell.e),.sl false ((wb (bf.mk (aN.mk aa aw) (aK.mk aq an) ax) t.toNat).memory.lines.map cx.e),.sl false ((wb (bf.mk (aN.mk aa aw) (aK.mk aq an) ax) t.toNat).threads.map Thread.e)],.bool true]):=by
 refine kJ Tryz.func178 rfl rfl ?_;obtain⟨k,rfl⟩:=Int.eq_ofNat_of_zero_le ht.1;have k4:k<4:=by omega
 have LK:(k:Int)<4:=by omega
 have hl:ax.length=4:=HG.len;have kl:k<ax.length:=by omega
 have Nf:=Zb aa aw aq an ax p c HG;have DJ:=uZ aa aw aq an ax k ⟨by omega,by omega⟩ hl;rw[hc]at DJ;have hx:cg (bf.mk (aN.mk aa aw) (aK.mk aq an) ax) k=ax[k]:=ie kl;obtain⟨⟨st,rg,pc,co,ha,sa,tr,cd⟩,nq⟩: ∃x,ax[k]=x:=⟨_,rfl⟩;rw[Int.toNat_natCast];unfold wb;rw[hx,nq];obtain⟨IM,LL⟩: ∃IM,ax.set k ⟨st,rg,ha,co,ha,pc,tr,cd⟩=IM:=⟨_,rfl⟩;have wL:IM.length=4:=by rw[<-LL];simp[hl]
 have uX: ∀(f:Thread->V),List.take 4 (ax.map f)=ax.map f:=fun f=>bn (by simp;omega);have PL: ∀(f:Thread->Option V),List.take 4 (ax.map f)=ax.map f:=fun f=>bn (by simp;omega);have LM: ∀(f:Thread->V),List.take 4 (IM.map f)=IM.map f:=fun f=>bn (by simp;omega);have af6: ∀(f:Thread->Option V),List.take 4 (IM.map f)=IM.map f:=fun f=>bn (by simp;omega);have Dt:(Thread.e ⟨st,rg,pc,co,ha,sa,tr,cd⟩).put 5 (.int .i64 pc)=Thread.e ⟨st,rg,pc,co,ha,pc,tr,cd⟩:=rfl;have A9:(Thread.e ⟨st,rg,pc,co,ha,pc,tr,cd⟩).put 2 (.int .i64 ha)=Thread.e ⟨st,rg,ha,co,ha,pc,tr,cd⟩:=rfl;have jI:(ax.map Thread.e).set k (Thread.e ⟨st,rg,ha,co,ha,pc,tr,cd⟩)=IM.map Thread.e:=by rw[<-LL,List.map_set]
 rw[LL];simp-implicitDefEqProofs[Nf,DJ,LM,jy,hl,wL,k4,LK,nq,Dt,A9,jI]
theorem dB.R{l:List Cell}(h:dB l):xf l:=fun i hi=>by
 obtain⟨h1,h2⟩:=h.at hi;exact⟨h1.1,h2⟩
theorem cR.R{p:Prog}{c:Int}{m:bf}(h:cR p c m):yl m:=by
 refine⟨h.key,h.mem.cells.R,fun i hi=> ?_,fun i hi=>(h.nv i hi).cells.R,fun i hi=>(h.nv i hi).code⟩;have g:=h.mem.line i;have e:iD m.memory i=m.memory.lines[i]:=by unfold iD;simp[List.getD,hi]
 rw[e]at g;exact g.R
theorem u5{p:Prog}{t:Nat}{upto:Int}: ∀(k:Nat) (m:bf),(dI p t upto k m).1.layout=m.layout
 |0,m=>rfl
 |k+1,m=>by
  unfold dI;split
  ·split
   ·rfl
   ·rw[u5 k];rfl
  ·rfl
theorem DK(p:Prog)(m:bf)(t:Nat)(n:Int):(dm p m t n).1.layout=m.layout:=by
 unfold dm;split
 ·exact u5 _ _
 ·rfl
structure Vu (q:Request):Prop where
 args:q.args.length<=3
 data:q.data.length<=16
 one:(q.call=8\/q.call=9\/q.call=11)->1<=q.args.length
 av:fe q.args
 dv:fe q.data
theorem LQ{c:Int}(h:c=8\/c=9\/c=11):(dK c).length=1:=by
 rcases h with rfl|rfl|rfl<;>rfl
theorem Vv{aD:List Int}{key:Int}{ae:List Int}{bm:List Cell}(h:dB bm)(i:Nat):fe (fO aD key ae bm i):=fun c hc=>by
 unfold fO at hc;obtain⟨x,hx,rfl⟩:=List.mem_map.1 hc;exact F2 (h x (List.mem_of_mem_take hx))
theorem Ng{aD:List Int}{key:Int}{ae:List Int}{mem:aK}(h:pn mem)(a i:Nat):fe (mg aD key ae mem a i):=fun c hc=>by
 unfold mg at hc;obtain⟨x,hx,rfl⟩:=List.mem_map.1 hc;exact F2 (dB.look h _)
theorem Zc{p:Prog}{d:Int}{m:bf}{x:Thread}(HM:cR p d m)(hx:dF d x)(t:Int)(hc:0<=oG p x/\oG p x<=15)(hw:FW p m x=0):Vu (IK p m x t):=by
 have h3:=qY hc;have hl:=hx.bm;have e:(fO m.layout.aD m.layout.key p.ae x.bm (dK (oG p x)).length).length=(dK (oG p x)).length:=tE (by omega);unfold FW at hw;obtain⟨_,h2⟩:=An hw;refine⟨by simp only[IK];omega,?_,fun h=> ?_,Vv hx.cells _,?_⟩
 ·simp only[IK];split
  ·rename_i hb;rw[sI];have:=(h2 (by omega)).2;omega
  ·simp
 ·simp only[IK]at h⊢;have:=LQ h;omega
 ·simp only[IK];split
  ·exact Ng HM.mem _ _
  ·exact fe.nil
theorem Vw{p:Prog}{d:Int}{m:bf}{t:Nat}{s:Int}(ht:t<4)(H:Cp p d t (m,s)):cR p d (oY p m t s).1/\(oY p m t s).1.layout=m.layout/\(oY p m t s).2.iu=t/\Vu (oY p m t s).2/\(oY p m t s).2.stop≠3:=by
 have HM:=H.yq;simp only at HM;have hx:=HM.cg ht;have am9: ∀a b c e f,Vu ⟨a,b,c,e,f,0,[],[]⟩:=fun a b c e f=>⟨by simp,by simp,fun h=>by simp only at h;omega,fe.nil,fe.nil⟩;unfold oY;by_cases s1:s=1
 ·subst s1;rw[if_pos rfl];obtain⟨c1,c2,c3,c4⟩:=H.calls rfl;simp only at c1 c2 c3 c4;have hcr:0<=oG p (cg m t)/\oG p (cg m t)<=15:=by
   obtain⟨j,hj⟩: ∃j:Nat,(cg m t).pc-1=j:=⟨((cg m t).pc-1).toNat,by omega⟩;have sx:j<p.code.length:=by omega
   have yZ:qk p.code (cg m t).pc=p.code[j]:=by unfold qk;rw[hj];simp[List.getD,sx]
   have hI:=HM.prog.zy (p:=p) sx;unfold oG;rw[yZ]at c4⊢;exact⟨hI.dy.1,hI.sys c4⟩
  by_cases w0:FW p m (cg m t)=0
  ·rw[if_pos w0];exact⟨HM,rfl,rfl,Zc HM hx _ hcr w0,by simp[IK]⟩
  ·rw[if_neg w0];have hw6:FW p m (cg m t)=6:=by
    rcases PJ m.layout.aD p.ae p.code.length (oG p (cg m t)) (cg m t).bm with h|h
    ·exact absurd h w0
    ·exact h
   refine⟨?_,rfl,rfl,am9 _ _ _ _ _,by simp⟩;obtain⟨g1,g2,g3,g4,g5,g6,g7⟩:=HM;refine⟨g1,g2,g3,g4,by simp[kq,g5],fun i hi=> ?_,g7⟩;simp only[kq,List.length_set]at hi;simp only[kq,List.getElem_set];split
   ·rw[hw6];obtain⟨q1,q2,q3,q4,q5,q6,q7,q8,q9⟩:=hx;exact⟨by simp[gd],q2,q3,q4,q5,q6,q7,by simp[gd],by simp[gd]⟩
   ·exact g6 i hi
 ·rw[if_neg s1];refine⟨HM,rfl,rfl,am9 _ _ _ _ _,?_⟩;have:=H.stop;simp only at this⊢;omega
theorem CC{p:Prog}{d:Int}{m:bf}{t:Nat}{n:Int}(HG:cR p d m)(hd:d+64<=1099511627776)(ht:t<4)(hn:1<=n/\n<=64)(hs:(cg m t).state=1):
  ∃m' q,oH p m t n=(m',q,0)/\cR p (d+64) m'/\m'.layout=m.layout/\q.iu=t/\Vu q/\q.stop≠3:=by
 have hv:jc p m=true:=(HG.mono (by omega)).ok;have hS:=sG HG ht hn.1 hs;have hL:=DK p m t n;obtain⟨⟨m1,s⟩,hms⟩: ∃r,dm p m t n=r:=⟨_,rfl⟩;rw[hms]at hS hL;obtain⟨k1,k2,k3,k4,k5⟩:=Vw ht hS;have e:oH p m t n=((oY p m1 t s).1,(oY p m1 t s).2,0):=by
  unfold oH;rw[if_pos ⟨hv,⟨by omega,by omega⟩,hn.1,hn.2⟩,Int.toNat_natCast,hms]
 exact⟨_,_,e,k1.mono (by omega),by rw[k2];exact hL,k3,k4,k5⟩
theorem Zd{p:Prog}{d:Int}{m:bf}{t:Nat}(HG:cR p d m)(ht:t<4)(hc:F4 (cg m t)=true):cR p d (wb m t)/\(wb m t).layout=m.layout/\(cg (wb m t) t).state=1:=by
 have hx:=HG.cg ht;have hl:=HG.len;unfold F4 at hc;simp only[Bool.and_eq_true,decide_eq_true_eq]at hc;obtain⟨c1,c2,c3⟩:=hc;refine⟨?_,rfl,?_⟩
 ·obtain⟨g1,g2,g3,g4,g5,g6,g7⟩:=HG;refine⟨g1,g2,g3,g4,by simp[wb,g5],fun i hi=> ?_,g7⟩;simp only[wb,List.length_set]at hi;simp only[wb,List.getElem_set];split
  ·obtain⟨q1,q2,q3,q4,q5,q6,q7,q8,q9⟩:=hx;exact⟨q1,q2,q3,by simp only;omega,q5,q6,by simp only;omega,q8,q9⟩
  ·exact g6 i hi
 ·have lp:t<m.threads.length:=by omega
  simp[cg,wb,List.getD,lp];simpa[cg,List.getD,lp] using c1
theorem LR{l:List Thread}{k i:Nat}(h:i<(ki l k).length): ∃t:Nat,t<k/\(ki l k)[i]=(t:Int)/\(l.getD t da).state=1:=by
 have hm:=List.getElem_mem h;unfold ki at hm;obtain⟨t,h1,h2⟩:=List.mem_map.1 hm;obtain⟨h3,h4⟩:=List.mem_filter.1 h1;refine⟨t,List.mem_range.1 h3,?_,by simpa using h4⟩;unfold ki;exact h2.symm
def Vx{α:Type}(f:α->V)(c k:Nat)(l:List α)(v:V)(h:aY)(n:Nat):Prop:=(l=[]/\v= .sl true [])\/(0<l.length/\ ∃id,k<=id/\id<n/\v= .bU id 0 l.length/\h id=some ⟨c,l.map f,false⟩)
theorem Vx.mono{α:Type}{f:α->V}{c k n n':Nat}{l:List α}{v:V}{h h':aY}(H:Vx f c k l v h n)(hn:n<=n')(hh: ∀i,k<=i->i<n->h' i=h i):Vx f c k l v h' n':=by
 rcases H with H|⟨h0,id,k1,k2,e,g⟩
 ·exact .inl H
 ·exact .inr ⟨h0,id,k1,by omega,e,by rw[hh _ k1 k2,g]⟩
def ig(ids:Nat->Nat)(l:List (List Canon)):List V:=l.mapIdx fun i x=> .bU (ids i) 0 x.length
theorem lk(ids:Nat->Nat)(l:List (List Canon)):(ig ids l).length=l.length:=by simp[ig]
theorem LU(ids:Nat->Nat)(l:List (List Canon))(x:List Canon)(n:Nat):ig ids l++ [.bU n 0 x.length]=ig (aO ids l.length n) (l++ [x]):=by
 apply List.ext_getElem?;intro i;simp only[ig,List.mapIdx_append,List.mapIdx_cons,List.mapIdx_nil];rcases Nat.lt_or_ge i l.length with h|h
 ·rw[List.getElem?_append_left (by simpa using h),List.getElem?_append_left (by simpa using h)];simp[aO,Nat.ne_of_lt h]
 ·rw[List.getElem?_append_right (by simpa using h),List.getElem?_append_right (by simpa using h)];simp[aO]
def kW(k n:Nat)(rs:List (List Canon))(v:V)(h:aY):Prop:=(rs=[]/\v= .sl true [])\/(0<rs.length/\ ∃R ids,v= .bU R 0 rs.length/\h R=some ⟨1,ig ids rs,true⟩/\(k<=R/\R<n)/\
 (∀i (g:i<rs.length),h (ids i)=some ⟨4,(rs[i]).map Canon.e,false⟩/\k<=ids i/\ids i<n/\ids i≠R)/\ ∀i j,i<rs.length->j<rs.length->i≠j->ids i≠ids j)
theorem kW.mono{k n n':Nat}{rs:List (List Canon)}{v:V}{h h':aY}(H:kW k n rs v h)(hn:n<=n')(hh: ∀i,k<=i->i<n->h' i=h i):kW k n' rs v h':=by
 rcases H with H|⟨h0,R,ids,e,g,k1,hi,hs⟩
 ·exact .inl H
 ·exact .inr ⟨h0,R,ids,e,by rw[hh _ k1.1 k1.2,g],by omega,fun i q=>⟨by rw[hh _ (hi i q).2.1 (hi i q).2.2.1,(hi i q).1],(hi i q).2.1,by have:=(hi i q).2.2.1;omega,(hi i q).2.2.2⟩,hs⟩
theorem kW.Nh{k m:Nat}{h:aY}{x:List Canon}{id R:Nat}(hR:h R=some ⟨1,[.bU id 0 x.length],true⟩)(hi:h id=some ⟨4,x.map Canon.e,false⟩)(b:k<=id/\id<m/\k<=R/\R<m/\id≠R):kW k m [x] (.bU R 0 1) h:=by
 refine .inr ⟨by simp,R,fun _=>id,rfl,by rw[hR];rfl,by omega,fun i g=> ?_,fun i j a c d=>by simp at a c;omega⟩;have:i=0:=by simp at g;omega
 subst this;exact⟨hi,b.1,b.2.1,b.2.2.2.2⟩
theorem kW.snoc {k n m:Nat} {rs:List (List Canon)} {h h':aY} {x:List Canon} {R R' id:Nat} {ids:Nat->Nat} (hi: ∀i (g:i<rs.length),h (ids i)=some ⟨4,(rs[i]).map Canon.e,false⟩/\k<=ids i/\ids i<n/\ids i≠R) (hs: ∀i j,i<rs.length->j<rs.length->i≠j->ids i≠ids j)
  (hR:h' R'=some ⟨1,ig ids rs++ [.bU id 0 x.length],true⟩) (dg:h' id=some ⟨4,x.map Canon.e,false⟩) (hh: ∀i,k<=i->i<n->i≠R->h' i=h i) (b:k<=n/\n<=id/\id<R'/\R'<m):kW k m (rs++ [x]) (.bU R' 0 (rs.length+1)) h':=by
 refine .inr ⟨by simp,R',aO ids rs.length id,by simp,by rw[hR,LU],by omega,fun i g=> ?_,fun i j a c d=> ?_⟩
 ·rcases Nat.lt_or_ge i rs.length with q|q
  ·obtain⟨a1,a2,a3,a4⟩:=hi i q;rw[aO,if_neg (by omega),List.getElem_append_left q];exact⟨by rw[hh _ a2 a3 a4,a1],a2,by omega,by omega⟩
  ·have:i=rs.length:=by simp at g;omega
   subst this;rw[aO,if_pos rfl];simp only[List.getElem_append_right (Nat.le_refl _),Nat.sub_self,List.getElem_cons_zero];exact⟨dg,by omega,by omega,by omega⟩
 ·simp only[List.length_append,List.length_cons,List.length_nil]at a c;unfold aO;by_cases e1:i=rs.length
  ·have q:=(hi j (by omega)).2.2.1;rw[if_pos e1,if_neg (by omega)];omega
  ·have q:=(hi i (by omega)).2.2.1;rw[if_neg e1];by_cases e2:j=rs.length
   ·rw[if_pos e2];omega
   ·rw[if_neg e2];exact hs i j (by omega) (by omega) d
def rN(aD:List Int)(key:Int)(ae:List Int)(mem:aK)(r:Nat):List Canon:=mg aD key ae mem (nth aD r).toNat (nth ae r).toNat
def iX(aD:List Int)(key:Int)(ae:List Int)(mem:aK)(k:Nat):List (List Canon):=(List.range k).map (rN aD key ae mem)
theorem F5(aD:List Int)(key:Int)(ae:List Int)(mem:aK)(k:Nat):iX aD key ae mem (k+1)=iX aD key ae mem k++ [rN aD key ae mem k]:=by
 unfold iX;rw[List.range_succ,List.map_append];rfl
theorem sd(aD:List Int)(key:Int)(ae:List Int)(mem:aK)(k:Nat):(iX aD key ae mem k).length=k:=by simp[iX]
def RgI(aD:List Int)(key:Int)(ae:List Int)(mem:aK)(k r:Nat)(S:St):Prop:=
 (S.f 2= .sl false (ae.map (V.int .i64))/\S.f 3= .ptr k 0 0/\S.f 4= .ptr (k+1) 0 0/\S.f 12= .sl false (ae.map (V.int .i64))/\S.f 13= .int .i64 (ae.length:Int)/\S.f 14= .int .i64 (r:Int))/\
 (S.h k=some ⟨2,[.agg [.sl false (mem.cells.map Cell.e),.sl false (mem.lines.map cx.e)]],true⟩/\S.h (k+1)=some ⟨2,[.agg [.sl false (aD.map (V.int .i64)),.int .u16 key]],true⟩)/\
 kW (k+2) S.n (iX aD key ae mem r) (S.f 7) S.h/\k+2<=S.n
def RgJ(aD:List Int)(key:Int)(ae:List Int)(mem:aK)(k r n0 o:Nat)(S:St):Prop:=
 (S.f 2= .sl false (ae.map (V.int .i64))/\S.f 3= .ptr k 0 0/\S.f 4= .ptr (k+1) 0 0/\S.f 8= .int .i64 (r:Int)/\S.f 12= .sl false (ae.map (V.int .i64))/\S.f 13= .int .i64 (ae.length:Int)/\S.f 14= .int .i64 (r:Int)/\S.f 19= .int .i64 (nth ae r)/\S.f 20= .int .i64 (o:Int))/\
 (S.h k=some ⟨2,[.agg [.sl false (mem.cells.map Cell.e),.sl false (mem.lines.map cx.e)]],true⟩/\S.h (k+1)=some ⟨2,[.agg [.sl false (aD.map (V.int .i64)),.int .u16 key]],true⟩)/\
 kW (k+2) n0 (iX aD key ae mem r) (S.f 7) S.h/\Vx Canon.e 4 n0 (mg aD key ae mem (nth aD r).toNat o) (S.f 10) S.h S.n/\k+2<=n0/\n0<=S.n
@[simp] theorem PY(cX:List Cell)(bM:List cx)(aj:List Int)(bH:Int)(ae:List Int)(k:Nat)(hL:nr aj ae)(hM:pn ⟨cX,bM⟩): ∃v h' k',cy X 72 [.agg [cX,bM],(aj,bH),ae] m8 k=some (v,h',k')/\kW (k+2) k' (iX aj bH ae ⟨cX,bM⟩ ae.length) v h'/\k+2<=k':=by
 have hb:aj.length=ae.length:=hL.len;have hs4:ae.length<=4:=hL.sz.le;have hMP:w9 ⟨cX,bM⟩:=hM.mem;refine bu (X:=X) (K:=fun v h' k'=>kW (k+2) k' (iX aj bH ae ⟨cX,bM⟩ ae.length) v h'/\k+2<=k') Tryz.func72 rfl rfl ?_;simp-implicitDefEqProofs[Nat.add_assoc];refine cP (fun r S=>RgI aj bH ae ⟨cX,bM⟩ k r S) ae.length ?_ 0 (by omega) ?_
 ·rintro r S hr ⟨⟨f2,f3,f4,f12,f13,f14⟩,⟨h0,h1⟩,HR,hk⟩;simp only at h0 h1;by_cases eX:r<ae.length
  case neg=>
   have er:r=ae.length:=by omega
   subst er;simp-implicitDefEqProofs[f13,f14];exact⟨HR.mono (by omega) fun _ _ _=>rfl,by omega⟩
  have hw:IntKind.i64.wrap ((r:Int)+1)=r+1:=wrap_i64 (by omega);have Ze:r<aj.length:=by omega
  obtain⟨z1,z2⟩:=hL.sz.elem r eX;obtain⟨b1,b2⟩:=hL.base r Ze eX;obtain⟨b,YE⟩: ∃b:Nat,aj[r]=b:=⟨(aj[r]).toNat,by omega⟩;obtain⟨z,hze⟩: ∃z:Nat,ae[r]=z:=⟨(ae[r]).toNat,by omega⟩;have hbn:nth aj r=b:=by rw[cZ Ze,YE]
  have hzn:nth ae r=z:=by rw[cZ eX,hze]
  simp-implicitDefEqProofs[f12,f13,f14,eX,hze];refine cP (fun o S'=>RgJ aj bH ae ⟨cX,bM⟩ k r (S.n+9) o S') z ?_ 0 (by omega) ?_
  ·rintro o S' ho ⟨⟨j2,j3,j4,j8,j12,j13,j14,j19,W1⟩,⟨g0,g1⟩,Q4,HO,hk0,A5⟩;simp only at g0 g1;rw[hzn]at j19;have hzl:(((z:Nat):Int)).toNat=z:=by omega
   have Ps:(((b:Nat):Int)).toNat=b:=by omega
   rw[hbn,Ps]at HO;by_cases Vy:o<z
   case neg=>
    have bI: ¬(o:Int)<z:=by omega
    have eo:o=z:=by omega
    subst eo;have zG:=sI aj bH ae ⟨cX,bM⟩ b o;have nN:=sd aj bH ae ⟨cX,bM⟩ r;have jX:=F5 aj bH ae ⟨cX,bM⟩ r;unfold rN at jX;rw[hbn,hzn,Ps,hzl]at jX;obtain⟨bs,Z9⟩: ∃q,mg aj bH ae ⟨cX,bM⟩ b o=q:=⟨_,rfl⟩;obtain⟨rs,Zf⟩: ∃q,iX aj bH ae ⟨cX,bM⟩ r=q:=⟨_,rfl⟩;rw[Z9]at HO zG jX;rw[Zf]at Q4 nN jX;rcases HO with⟨IL,j10⟩|⟨IL,id,i1,i2,j10,dg⟩
    ·rw[IL]at zG;simp at zG;omega
    have ni: ∀j,¬id=S'.n+j:=fun j=>by omega
    have n1: ∀j,¬k=S'.n+j:=fun j=>by omega
    rcases Q4 with⟨e0,j7⟩|⟨e0,R,ids,j7,r1,r2,r3,r4⟩
    ·simp-implicitDefEqProofs[Nat.add_assoc,j7,j10,j14,j19,W1,bI,eX,hw];refine⟨⟨by simp[aO,j2],by simp[aO,j3],by simp[aO,j4],by simp[aO,j12],by simp[aO,j13],by simp[aO]⟩,⟨?_,?_⟩,?_,by simp only;omega⟩
     ·simp[aO,n1,g0]
     ·simp[aO,n1,g1]
     ·rw[jX,e0];refine kW.Nh (id:=id) (R:=S'.n+4) ?_ ?_ (by simp only;omega)
      ·simp[aO]
      ·simp[aO,ni,dg]
    ·have nR: ∀j,¬R=S'.n+j:=fun j=>by omega
     have rl:=lk ids rs;have rt:(ig ids rs).take rs.length=ig ids rs:=bn (by omega);have rb:rs.length<=1000:=by omega
     simp-implicitDefEqProofs[Nat.add_assoc,j7,j10,j14,j19,W1,bI,eX,hw,r1,nR,rl,rt];refine⟨⟨by omega,by omega⟩,fun _ _=>⟨⟨by simp[aO,j2],by simp[aO,j3],by simp[aO,j4],by simp[aO,j12],by simp[aO,j13],by simp[aO]⟩,⟨?_,?_⟩,?_,by simp only;omega⟩⟩
     ·have n3: ¬k=R:=by omega
      simp[aO,n1,n3,g0]
     ·have n3: ¬k+1=R:=by omega
      simp[aO,n1,n3,g1]
     ·rw[jX];refine kW.snoc (n:=S.n+9) (id:=id) (R:=R) (R':=S'.n+4) (h:=S'.h) (ids:=ids) r3 r4 ?_ ?_ ?_ (by simp only;omega)
      ·simp[aO]
      ·have n3: ¬id=R:=by omega
       simp[aO,ni,n3,dg]
      ·intro i hi1 GW xE;have n4: ∀j,¬i=S'.n+j:=fun j=>by omega
       simp[aO,n4,xE]
   have bI:(o:Int)<z:=by omega
   have Zg:IntKind.i64.wrap ((o:Int)+1)=o+1:=wrap_i64 (by omega);obtain⟨q,hq⟩: ∃q:Nat,b+o=q:=⟨_,rfl⟩;have hq5:q<512:=by omega
   have Pr:(q:Int)<512:=by omega
   have hqw:IntKind.i64.wrap ((b:Int)+o)=q:=by rw[wrap_i64 (by omega)];omega
   have anc:(r:Int)<aj.length:=by omega
   have jX:=IJ aj bH ae ⟨cX,bM⟩ b o;rw[hq]at jX;obtain⟨⟨lt,lv⟩,hlk⟩: ∃c,look ⟨cX,bM⟩ q=c:=⟨_,rfl⟩;have hlp:=dB.look hM q;rw[hlk]at jX hlp;have hlv:=hlp.2;have zG:=sI aj bH ae ⟨cX,bM⟩ b o;obtain⟨bs,Z9⟩: ∃q,mg aj bH ae ⟨cX,bM⟩ b o=q:=⟨_,rfl⟩;rw[Z9]at HO zG jX;have n1: ∀j,¬k=S'.n+j:=fun j=>by omega
   have n2: ∀j,¬k+1=S'.n+j:=fun j=>by omega
   have xY:=ye cX bM q hMP (by omega);rw[Int.toNat_natCast,hlk]at xY;rcases HO with⟨IL,j10⟩|⟨IL,id,i1,i2,j10,dg⟩
   ·simp-implicitDefEqProofs[Nat.add_assoc,j2,j3,j4,j8,j10,j19,W1,g0,g1,bI,Vy,Zg,hL,hqw,Ze,anc,YE,xY,hlv];refine⟨⟨by simp[aO,j2],by simp[aO,j3],by simp[aO,j4],by simp[aO,j8],by simp[aO,j12],by simp[aO,j13],by simp[aO,j14],by simp[aO,j19,hzn],by simp[aO]⟩,⟨by simp[aO,n1,g0],by simp[aO,n1,g1]⟩,?_,?_,by omega,by simp only;omega⟩
    ·simp only[aO,Nat.reduceEqDiff,if_false];exact Q4.mono (by omega) fun i a b=>by
      have n4: ∀j,¬i=S'.n+j:=fun j=>by omega
      simp[n4]
    ·rw[hbn,Ps,jX,IL];refine .inr ⟨by simp,S'.n+17,by omega,by simp only;omega,by simp[aO],by simp[aO,Canon.bP]⟩
   ·have ni: ∀j,¬id=S'.n+j:=fun j=>by omega
    simp-implicitDefEqProofs[Nat.add_assoc,j2,j3,j4,j8,j10,j19,W1,g0,g1,bI,Vy,Zg,hL,hqw,Ze,anc,YE,xY,hlv,dg];refine⟨⟨by omega,by omega⟩,fun _ _=>⟨⟨by simp[aO,j2],by simp[aO,j3],by simp[aO,j4],by simp[aO,j8],by simp[aO,j12],by simp[aO,j13],by simp[aO,j14],by simp[aO,j19,hzn],by simp[aO]⟩,⟨?_,?_⟩,?_,?_,by omega,by simp only;omega⟩⟩
    ·have n3: ¬k=id:=by omega
     simp[aO,n1,n3,g0]
    ·have n3: ¬k+1=id:=by omega
     simp[aO,n1,n3,g1]
    ·simp only[aO,Nat.reduceEqDiff,if_false];exact Q4.mono (by omega) fun i a b=>by
      have n4: ∀j,¬i=S'.n+j:=fun j=>by omega
      have n5: ¬i=id:=by omega
      simp[n4,n5]
    ·rw[hbn,Ps,jX];refine .inr ⟨by simp,S'.n+17,by omega,by simp only;omega,by simp[aO],by simp[aO,Canon.bP]⟩
  ·simp-implicitDefEqProofs[Nat.add_assoc];refine⟨⟨by simp[aO,f2],by simp[aO,f3],by simp[aO,f4],by simp[aO],by simp[aO,f12],by simp[aO,f13],by simp[aO,f14],by simp[aO,hzn],by simp[aO]⟩,⟨by simp only;exact h0,by simp only;exact h1⟩,?_,.inl ⟨rfl,by simp[aO]⟩,by omega,by simp only;omega⟩;exact HR.mono (by omega) fun _ _ _=>rfl
 ·simp-implicitDefEqProofs;refine⟨⟨rfl,by simp[aO],by simp[aO],by simp[aO],by simp[aO],by simp[aO]⟩,⟨by simp[aO],by simp[aO]⟩,.inl ⟨rfl,by simp[aO]⟩,by simp only;omega⟩
def yD(aD:List Int)(key:Int)(ae:List Int)(x:Thread):View:=⟨x.state,x.pc,x.count,x.bV,x.saved,x.dd,x.code,x.bm.map (canon aD key ae)⟩
def mI(aD:List Int)(key:Int)(ae:List Int)(l:List Thread):List View:=l.map (yD aD key ae)
theorem LV{aD:List Int}{key:Int}{ae:List Int}{l:List Thread}{i:Nat}(h:i<l.length):mI aD key ae (l.take (i+1))=mI aD key ae (l.take i)++ [yD aD key ae l[i]]:=by
 unfold mI;rw[fY h,List.map_append];rfl
theorem As(aD:List Int)(key:Int)(ae:List Int)(l:List Thread):(mI aD key ae l).length=l.length:=by simp[mI]
def px(p:Prog)(m:bf):State:=⟨iX m.layout.aD m.layout.key p.ae m.memory p.ae.length,mI m.layout.aD m.layout.key p.ae m.threads⟩
def oL(ids:Nat->Nat)(i:Nat)(v:View):V:= .agg [.int .i64 v.state,.int .i64 v.pc,.int .i64 v.count,.int .i64 v.bV,.int .i64 v.saved,.int .i64 v.dd,.int .u16 v.code,.bU (ids i) 0 v.bm.length]
def iv(ids:Nat->Nat)(l:List View):List V:=l.mapIdx (oL ids)
theorem rf(ids:Nat->Nat)(l:List View):(iv ids l).length=l.length:=by simp[iv]
theorem IY(ids:Nat->Nat)(l:List View)(x:View)(n:Nat):iv ids l++ [oL (fun _=>n) 0 x]=iv (aO ids l.length n) (l++ [x]):=by
 apply List.ext_getElem?;intro i;simp only[iv,List.mapIdx_append,List.mapIdx_cons,List.mapIdx_nil];rcases Nat.lt_or_ge i l.length with h|h
 ·rw[List.getElem?_append_left (by simpa using h),List.getElem?_append_left (by simpa using h)];simp[oL,aO,Nat.ne_of_lt h,List.getElem?_eq_getElem h]
 ·rw[List.getElem?_append_right (by simpa using h),List.getElem?_append_right (by simpa using h)];simp[oL,aO]
def nh(k n:Nat)(vs:List View)(v:V)(h:aY):Prop:=(vs=[]/\v= .sl true [])\/(0<vs.length/\ ∃R ids,v= .bU R 0 vs.length/\h R=some ⟨8,iv ids vs,true⟩/\(k<=R/\R<n)/\
 (∀i (g:i<vs.length),h (ids i)=some ⟨4,(vs[i]).bm.map Canon.e,false⟩/\k<=ids i/\ids i<n/\ids i≠R)/\ ∀i j,i<vs.length->j<vs.length->i≠j->ids i≠ids j)
theorem nh.mono{k n n':Nat}{vs:List View}{v:V}{h h':aY}(H:nh k n vs v h)(hn:n<=n')(hh: ∀i,k<=i->i<n->h' i=h i):nh k n' vs v h':=by
 rcases H with H|⟨h0,R,ids,e,g,k1,hi,hs⟩
 ·exact .inl H
 ·exact .inr ⟨h0,R,ids,e,by rw[hh _ k1.1 k1.2,g],by omega,fun i q=>⟨by rw[hh _ (hi i q).2.1 (hi i q).2.2.1,(hi i q).1],(hi i q).2.1,by have:=(hi i q).2.2.1;omega,(hi i q).2.2.2⟩,hs⟩
theorem nh.Nh{k m:Nat}{h:aY}{x:View}{id R:Nat}(hR:h R=some ⟨8,[oL (fun _=>id) 0 x],true⟩)(hi:h id=some ⟨4,x.bm.map Canon.e,false⟩)(b:k<=id/\id<m/\k<=R/\R<m/\id≠R):nh k m [x] (.bU R 0 1) h:=by
 refine .inr ⟨by simp,R,fun _=>id,rfl,by rw[hR];rfl,by omega,fun i g=> ?_,fun i j a c d=>by simp at a c;omega⟩;have:i=0:=by simp at g;omega
 subst this;exact⟨hi,b.1,b.2.1,b.2.2.2.2⟩
theorem nh.snoc {k n m:Nat} {rs:List View} {h h':aY} {x:View} {R R' id:Nat} {ids:Nat->Nat} (hi: ∀i (g:i<rs.length),h (ids i)=some ⟨4,(rs[i]).bm.map Canon.e,false⟩/\k<=ids i/\ids i<n/\ids i≠R) (hs: ∀i j,i<rs.length->j<rs.length->i≠j->ids i≠ids j)
  (hR:h' R'=some ⟨8,iv ids rs++ [oL (fun _=>id) 0 x],true⟩) (dg:h' id=some ⟨4,x.bm.map Canon.e,false⟩) (hh: ∀i,k<=i->i<n->i≠R->h' i=h i) (b:k<=n/\n<=id/\id<R'/\R'<m):nh k m (rs++ [x]) (.bU R' 0 (rs.length+1)) h':=by
 refine .inr ⟨by simp,R',aO ids rs.length id,by simp,by rw[hR,IY],by omega,fun i g=> ?_,fun i j a c d=> ?_⟩
 ·rcases Nat.lt_or_ge i rs.length with q|q
  ·obtain⟨a1,a2,a3,a4⟩:=hi i q;rw[aO,if_neg (by omega),List.getElem_append_left q];exact⟨by rw[hh _ a2 a3 a4,a1],a2,by omega,by omega⟩
  ·have:i=rs.length:=by simp at g;omega
   subst this;rw[aO,if_pos rfl];simp only[List.getElem_append_right (Nat.le_refl _),Nat.sub_self,List.getElem_cons_zero];exact⟨dg,by omega,by omega,by omega⟩
 ·simp only[List.length_append,List.length_cons,List.length_nil]at a c;unfold aO;by_cases e1:i=rs.length
  ·have q:=(hi j (by omega)).2.2.1;rw[if_pos e1,if_neg (by omega)];omega
  ·have q:=(hi i (by omega)).2.2.1;rw[if_neg e1];by_cases e2:j=rs.length
   ·rw[if_pos e2];omega
   ·rw[if_neg e2];exact hs i j (by omega) (by omega) d
def Zh(k n:Nat)(s:State)(v:V)(h:aY):Prop:= ∃vR vT n1,v= .agg [vR,vT]/\kW k n1 s.regions vR h/\nh n1 n s.threads vT h/\k<=n1/\n1<=n
def StI(p:Prog)(m:bf)(k k1 k2 c5 n1 i:Nat)(vR:V)(S:St):Prop:=
 ∃vT,(S.f 2= .ptr k 0 0/\S.f 3= .ptr k1 0 0/\S.f 4= .ptr k2 0 0/\S.f 5= .ptr c5 0 0/\S.f 20= .sl false (m.threads.map Thread.e)/\S.f 21= .int .i64 4/\S.f 22= .int .i64 (i:Int))/\
 (S.h k=some ⟨3,[.agg [.sl false (p.code.map Instr.e),.sl false (p.ae.map (V.int .i64)),.sl false (p.data.map aS)]],true⟩/\S.h k1=some ⟨5,[.agg (kv m)],true⟩/\S.h k2=some ⟨2,[.agg [.sl true [],.sl true []]],true⟩/\S.h c5=some ⟨2,[.agg [vR,vT]],true⟩)/\
 kW (k+15) n1 (iX m.layout.aD m.layout.key p.ae m.memory p.ae.length) vR S.h/\nh n1 S.n (mI m.layout.aD m.layout.key p.ae (m.threads.take i)) vT S.h/\k+15<=n1/\n1<=S.n
def StJ(p:Prog)(m:bf)(k k1 k2 c5 c8 n1 n2 i:Nat)(vR vT:V)(x:Thread)(j:Nat)(S:St):Prop:=
 ∃vC,(S.f 2= .ptr k 0 0/\S.f 3= .ptr k1 0 0/\S.f 4= .ptr k2 0 0/\S.f 5= .ptr c5 0 0/\S.f 8= .ptr c8 0 0/\S.f 20= .sl false (m.threads.map Thread.e)/\S.f 21= .int .i64 4/\S.f 22= .int .i64 (i:Int)/\S.f 42= .sl false (x.bm.map Cell.e)/\S.f 43= .int .i64 8/\S.f 44= .int .i64 (j:Int))/\
 (S.h k=some ⟨3,[.agg [.sl false (p.code.map Instr.e),.sl false (p.ae.map (V.int .i64)),.sl false (p.data.map aS)]],true⟩/\S.h k1=some ⟨5,[.agg (kv m)],true⟩/\S.h k2=some ⟨2,[.agg [.sl true [],.sl true []]],true⟩/\S.h c5=some ⟨2,[.agg [vR,vT]],true⟩/\
  S.h c8=some ⟨8,[.agg [.int .i64 x.state,.int .i64 x.pc,.int .i64 x.count,.int .i64 x.bV,.int .i64 x.saved,.int .i64 x.dd,.int .u16 x.code,vC]],true⟩)/\
 kW (k+15) n1 (iX m.layout.aD m.layout.key p.ae m.memory p.ae.length) vR S.h/\nh n1 n2 (mI m.layout.aD m.layout.key p.ae (m.threads.take i)) vT S.h/\k+15<=n1/\n1<=n2/\c8+1<=S.n/\Vx Canon.e 4 (c8+1) (fO m.layout.aD m.layout.key p.ae x.bm j) vC S.h S.n
@[simp] theorem Zi(ay:List Instr)(ah:List Int)(az:List (List Int))(aa:List Int)(aw:Int)(aq:List Cell)(an:List cx)(ax:List Thread)(k:Nat)(d:Int)(HG:cR (Prog.mk ay ah az) d (bf.mk (aN.mk aa aw) (aK.mk aq an) ax)): ∃v h' k',cy X 29 [(ay,ah,az),(aa,aw,aq,an,ax)] m8 k=some (v,h',k')/\Zh (k+15) k' (px (Prog.mk ay ah az) (bf.mk (aN.mk aa aw) (aK.mk aq an) ax)) v h':=by
 have hL:nr aa ah:=HG.lay;have hl:ax.length=4:=HG.len;obtain⟨vR,hR,kR,eR,HR,hkR⟩:=PY aq an aa aw ah (k+13) hL HG.mem;simp only[Nat.add_assoc,Nat.reduceAdd]at eR HR hkR;have hz1:1<=ah.length:=hL.sz.pos;have nN:=sd aa aw ah ⟨aq,an⟩ ah.length;obtain⟨R,rfl⟩: ∃R,vR= .bU R 0 ah.length:=by
  rcases HR with⟨e,_⟩|⟨_,R,_,e,_⟩
  ·rw[e]at nN;simp at nN;omega
  ·rw[nN]at e;exact⟨R,e⟩
 refine bu (X:=X) (K:=fun v h' k'=>Zh (k+15) k' (px (Prog.mk ay ah az) (bf.mk (aN.mk aa aw) (aK.mk aq an) ax)) v h') Tryz.func29 rfl rfl ?_;simp-implicitDefEqProofs[Nat.add_assoc,eR,hl];obtain⟨k1,A5⟩: ∃q,k+1=q:=⟨_,rfl⟩;obtain⟨k2,wy⟩: ∃q,k+2=q:=⟨_,rfl⟩;obtain⟨c5,hc5⟩: ∃q,k+11=q:=⟨_,rfl⟩;refine cP (fun i S=>StI (Prog.mk ay ah az) (bf.mk (aN.mk aa aw) (aK.mk aq an) ax) k k1 k2 c5 kR i (.bU R 0 ah.length) S) 4 ?_ 0 (by omega) ?_
 ·rintro i S hi ⟨vT,⟨f2,f3,f4,f5,f20,f21,f22⟩,⟨h0,h1,h2,h5⟩,HRi,HT,Ys,NQ⟩;unfold kv at h1;simp only at h0 h1 f20 HRi HT;by_cases eX:i<4
  case neg=>
   have bI: ¬(i:Int)<4:=by omega
   have ei:i=4:=by omega
   subst ei;rw[bn (by omega)]at HT;have nT: ¬c5=k2:=by omega
   have vl:=As aa aw ah ax;rcases HT with⟨e,_⟩|⟨e0,Q,ids,rfl,r1,r2,r3,r4⟩
   ·rw[e]at vl;simp at vl;omega
   simp-implicitDefEqProofs[Nat.add_assoc,f4,f5,f21,f22,h2,h5];refine⟨_,_,kR,rfl,HRi.mono (Nat.le_refl _) fun j a b=>by rw[aO,if_neg (by omega)],.inr ⟨e0,Q,ids,rfl,?_,by omega,fun j g=> ?_,r4⟩,Ys,by omega⟩
   ·rw[aO,if_neg (by omega)];exact r1
   ·obtain⟨a1,a2,a3,a4⟩:=r3 j g;exact⟨by rw[aO,if_neg (by omega)];exact a1,a2,by omega,a4⟩
  have bI:(i:Int)<4:=by omega
  have Bt:i<ax.length:=by omega
  have hw:IntKind.i64.wrap ((i:Int)+1)=i+1:=wrap_i64 (by omega);have hx:=HG.nv i Bt;obtain⟨x,nq⟩: ∃x,ax[i]=x:=⟨_,rfl⟩;simp only[nq]at hx;have h8:=hx.bm;simp-implicitDefEqProofs[Nat.add_assoc,f20,f21,f22,eX,bI,nq,Thread.bP,h8,hl];obtain⟨c8,hc8⟩: ∃q,S.n+20=q:=⟨_,rfl⟩;refine cP (fun j S'=>StJ (Prog.mk ay ah az) (bf.mk (aN.mk aa aw) (aK.mk aq an) ax) k k1 k2 c5 c8 kR S.n i (.bU R 0 ah.length) vT x j S') 8 ?_ 0 (by omega) ?_
  ·rintro j S' hj ⟨vC,⟨j2,j3,j4,j5,j8,W1,j21,j22,j42,j43,j44⟩,⟨g0,g1,g2,g5,g8⟩,Q4,HT',q1,q2,q3,HO⟩;unfold kv at g1;simp only at g0 g1 W1 Q4 HT' HO;by_cases fX:j<8
   case neg=>
    have Vz: ¬(j:Int)<8:=by omega
    have ej:j=8:=by omega
    subst ej;have qx:=tE (aD:=aa) (key:=aw) (ae:=ah) (bm:=x.bm) (i:=8) (by omega);have hvw:yD aa aw ah x=⟨x.state,x.pc,x.count,x.bV,x.saved,x.dd,x.code,fO aa aw ah x.bm 8⟩:=by
     unfold yD fO;rw[bn (by omega)]
    have jX:=LV (aD:=aa) (key:=aw) (ae:=ah) Bt;rw[nq,hvw]at jX;obtain⟨al,has⟩: ∃q,fO aa aw ah x.bm 8=q:=⟨_,rfl⟩;have hvl:=As aa aw ah (ax.take i);rw[List.length_take_of_le (by omega)]at hvl;obtain⟨vs,hvs⟩: ∃q,mI aa aw ah (ax.take i)=q:=⟨_,rfl⟩;rw[has]at HO qx jX;rw[hvs]at HT' jX hvl;rcases HO with⟨IL,jC⟩|⟨IL,id,i1,i2,rfl,dg⟩
    ·rw[IL]at qx;simp at qx
    have ni: ∀j,¬id=S'.n+j:=fun j=>by omega
    have n1: ∀j,¬k=S'.n+j:=fun j=>by omega
    have m1: ∀j,¬k1=S'.n+j:=fun j=>by omega
    have m2: ∀j,¬k2=S'.n+j:=fun j=>by omega
    have m5: ∀j,¬c5=S'.n+j:=fun j=>by omega
    have nS: ∀j,¬c8=S'.n+j:=fun j=>by omega
    have nk: ¬c8=c5:=by omega
    have nk2: ¬c5=c8:=by omega
    have nk5: ∀j,¬S'.n+j=c5:=fun j=>by omega
    rcases HT' with⟨e0,rfl⟩|⟨e0,Q,ids,rfl,r1,r2,r3,r4⟩
    ·simp-implicitDefEqProofs[Nat.add_assoc,j5,j8,j22,j43,j44,g5,g8,eX,hw,m5];refine⟨.bU (S'.n+5) 0 1,⟨by simp[aO,j2],by simp[aO,j3],by simp[aO,j4],by simp[aO,j5],by simp[aO,W1],by simp[aO,j21],by simp[aO]⟩,⟨?_,?_,?_,by simp[aO]⟩,?_,?_,Ys,by simp only;omega⟩
     ·have w: ¬k=c5:=by omega
      simp[aO,n1,w,g0]
     ·have w: ¬k1=c5:=by omega
      simp[aO,m1,w,g1,kv]
     ·have w: ¬k2=c5:=by omega
      simp[aO,m2,w,g2]
     ·exact Q4.mono (by omega) fun l a b=>by
       have w1: ∀j,¬l=S'.n+j:=fun j=>by omega
       have w2: ¬l=c5:=by omega
       simp[aO,w1,w2]
     ·rw[jX,e0];have w: ¬id=c5:=by omega
      exact nh.Nh (id:=id) (R:=S'.n+5) (by simp[aO,oL,nk5]) (by simp[aO,ni,w,dg]) (by simp only;omega)
    ·have nQ: ∀j,¬Q=S'.n+j:=fun j=>by omega
     have nQ5: ¬c5=Q:=by omega
     have nQ8: ¬c8=Q:=by omega
     have nQ1: ¬k1=Q:=by omega
     have nQ2: ¬k2=Q:=by omega
     have nQ0: ¬k=Q:=by omega
     have rl:=rf ids vs;have rt:(iv ids vs).take vs.length=iv ids vs:=bn (by omega);simp-implicitDefEqProofs[Nat.add_assoc,j5,j8,j22,j43,j44,g5,g8,eX,hw,m5,nQ5,r1,nQ,rl,rt];refine⟨⟨by omega,by omega⟩,fun _ _=>⟨.bU (S'.n+5) 0 (vs.length+1),⟨by simp[aO,j2],by simp[aO,j3],by simp[aO,j4],by simp[aO,j5],by simp[aO,W1],by simp[aO,j21],by simp[aO]⟩,⟨?_,?_,?_,by simp[aO]⟩,?_,?_,Ys,by simp only;omega⟩⟩
     ·have w: ¬k=c5:=by omega
      simp[aO,n1,w,nQ0,g0]
     ·have w: ¬k1=c5:=by omega
      simp[aO,m1,w,nQ1,g1,kv]
     ·have w: ¬k2=c5:=by omega
      simp[aO,m2,w,nQ2,g2]
     ·exact Q4.mono (by omega) fun l a b=>by
       have w1: ∀j,¬l=S'.n+j:=fun j=>by omega
       have w2: ¬l=c5:=by omega
       have w3: ¬l=Q:=by omega
       simp[aO,w1,w2,w3]
     ·rw[jX];have w: ¬id=c5:=by omega
      have w3: ¬id=Q:=by omega
      refine nh.snoc (n:=S.n) (id:=id) (R:=Q) (R':=S'.n+5) (h:=S'.h) (ids:=ids) r3 r4 ?_ ?_ ?_ (by simp only;omega)
      ·simp[aO,oL,nk5]
      ·simp[aO,ni,w,w3,dg]
      ·intro l a b c;have w1: ∀j,¬l=S'.n+j:=fun j=>by omega
       have w2: ¬l=c5:=by omega
       simp[aO,w1,w2,c]
   have Vz:(j:Int)<8:=by omega
   have pM:IntKind.i64.wrap ((j:Int)+1)=j+1:=wrap_i64 (by omega);have sx:j<x.bm.length:=by omega
   have PI:(j:Int)<x.bm.length:=by omega
   obtain⟨⟨ct,cv⟩,qp⟩: ∃c,x.bm[j]=c:=⟨_,rfl⟩;have Nf:=hx.cells.at sx;rw[qp]at Nf;have WU:=Nf.2;have jX:=ED (aD:=aa) (key:=aw) (ae:=ah) sx;rw[qp]at jX;have qx:=tE (aD:=aa) (key:=aw) (ae:=ah) (bm:=x.bm) (i:=j) (by omega);obtain⟨al,has⟩: ∃q,fO aa aw ah x.bm j=q:=⟨_,rfl⟩;rw[has]at HO qx jX;have n1: ∀j,¬k=S'.n+j:=fun j=>by omega
   have m1: ∀j,¬k1=S'.n+j:=fun j=>by omega
   have m2: ∀j,¬k2=S'.n+j:=fun j=>by omega
   have m5: ∀j,¬c5=S'.n+j:=fun j=>by omega
   have nS: ∀j,¬c8=S'.n+j:=fun j=>by omega
   have nk: ¬c5=c8:=by omega
   have nk1: ¬k1=c8:=by omega
   have nk2: ¬k2=c8:=by omega
   have nk0: ¬k=c8:=by omega
   rcases HO with⟨IL,rfl⟩|⟨IL,id,i1,i2,rfl,dg⟩
   ·simp-implicitDefEqProofs[Nat.add_assoc,j2,j3,j8,j42,j43,j44,g0,g1,g8,fX,Vz,pM,hL,sx,PI,qp,Cell.bP,WU,n1,m1,nS];refine⟨.bU (S'.n+14) 0 1,⟨by simp[aO,j2],by simp[aO,j3],by simp[aO,j4],by simp[aO,j5],by simp[aO,j8],by simp[aO,W1],by simp[aO,j21],by simp[aO,j22],by simp[aO,j42],by simp[aO,j43],by simp[aO]⟩,⟨by simp[aO,n1,nk0,g0],by simp[aO,m1,nk1,g1,kv],by simp[aO,m2,nk2,g2],by simp[aO,m5,nk,g5],by simp[aO]⟩,?_,?_,q1,q2,by simp only;omega,?_⟩
    ·exact Q4.mono (by omega) fun l a b=>by
      have w1: ∀j,¬l=S'.n+j:=fun j=>by omega
      have w2: ¬l=c8:=by omega
      simp[aO,w1,w2]
    ·exact HT'.mono (by omega) fun l a b=>by
      have w1: ∀j,¬l=S'.n+j:=fun j=>by omega
      have w2: ¬l=c8:=by omega
      simp[aO,w1,w2]
    ·rw[jX,IL];have w: ∀j,¬S'.n+j=c8:=fun j=>by omega
     refine .inr ⟨by simp,S'.n+14,by omega,by simp only;omega,rfl,by simp[aO,w,Canon.bP]⟩
   ·have ni: ∀j,¬id=S'.n+j:=fun j=>by omega
    have n3: ¬c8=id:=by omega
    simp-implicitDefEqProofs[Nat.add_assoc,j2,j3,j8,j42,j43,j44,g0,g1,g8,fX,Vz,pM,hL,sx,PI,qp,Cell.bP,WU,n1,m1,nS,dg,ni,n3];have x0: ¬k=id:=by omega
    have x1: ¬k1=id:=by omega
    have x2: ¬k2=id:=by omega
    have x5: ¬c5=id:=by omega
    refine⟨⟨by omega,by omega⟩,fun _ _=>⟨.bU (S'.n+14) 0 (al.length+1),⟨by simp[aO,j2],by simp[aO,j3],by simp[aO,j4],by simp[aO,j5],by simp[aO,j8],by simp[aO,W1],by simp[aO,j21],by simp[aO,j22],by simp[aO,j42],by simp[aO,j43],by simp[aO]⟩,⟨by simp[aO,n1,nk0,x0,g0],by simp[aO,m1,nk1,x1,g1,kv],by simp[aO,m2,nk2,x2,g2],by simp[aO,m5,nk,x5,g5],by simp[aO]⟩,?_,?_,q1,q2,by simp only;omega,?_⟩⟩
    ·exact Q4.mono (by omega) fun l a b=>by
      have w1: ∀j,¬l=S'.n+j:=fun j=>by omega
      have w2: ¬l=c8:=by omega
      have w3: ¬l=id:=by omega
      simp[aO,w1,w2,w3]
    ·exact HT'.mono (by omega) fun l a b=>by
      have w1: ∀j,¬l=S'.n+j:=fun j=>by omega
      have w2: ¬l=c8:=by omega
      have w3: ¬l=id:=by omega
      simp[aO,w1,w2,w3]
    ·rw[jX];have w: ∀j,¬S'.n+j=c8:=fun j=>by omega
     refine .inr ⟨by simp,S'.n+14,by omega,by simp only;omega,by simp,by simp[aO,w,Canon.bP]⟩
  ·simp-implicitDefEqProofs;have n1: ∀j,¬k=S.n+j:=fun j=>by omega
   have m1: ∀j,¬k1=S.n+j:=fun j=>by omega
   have m2: ∀j,¬k2=S.n+j:=fun j=>by omega
   have m5: ∀j,¬c5=S.n+j:=fun j=>by omega
   refine⟨.sl true [],⟨by simp[aO,f2],by simp[aO,f3],by simp[aO,f4],by simp[aO,f5],by simp[aO,<-hc8],by simp[aO,f20],by simp[aO,f21],by simp[aO,f22],by simp[aO],by simp[aO],by simp[aO]⟩,⟨by simp[aO,n1,h0],by simp[aO,m1,h1,kv],by simp[aO,m2,h2],by simp[aO,m5,h5],by simp[aO,<-hc8]⟩,?_,?_,Ys,NQ,by simp only;omega,.inl ⟨uW _ _ _ _,rfl⟩⟩
   ·exact HRi.mono (Nat.le_refl _) fun j a b=>by
     have n4: ∀l,¬j=S.n+l:=fun l=>by omega
     simp[aO,n4]
   ·exact HT.mono (Nat.le_refl _) fun j a b=>by
     have n4: ∀l,¬j=S.n+l:=fun l=>by omega
     simp[aO,n4]
 ·simp-implicitDefEqProofs;have n5: ∀j,j<13->k+j<k+13:=fun j hj=>by omega
  refine⟨.sl true [],⟨by simp[aO],by simp[aO,<-A5],by simp[aO,<-wy],by simp[aO,<-hc5],by simp[aO],by simp[aO],by simp[aO]⟩,⟨by simp[aO],by simp[aO,kv,<-A5],by simp[aO,<-wy],by simp[aO,<-hc5]⟩,?_,.inl ⟨rfl,rfl⟩,hkR,by simp only;omega⟩;exact HR.mono (Nat.le_refl _) fun j a b=>by
   have n4: ¬j=k+11:=by omega
   have n5: ¬j<k+13:=by omega
   simp[aO,n4,n5]
def CpI(f:bE)(k k1 c4 c6 i:Nat)(S:St):Prop:= ∃vD,(S.f 1= .ptr k 0 0/\S.f 2= .ptr k1 0 0/\S.f 3= .ptr c6 0 0/\S.f 11= .sl false (f.data.map ba)/\S.f 12= .int .i64 (f.data.length:Int)/\S.f 13= .int .i64 (i:Int))/\
 (S.h k=some ⟨2,[.agg [.sl false (f.data.map ba),.sl false (f.opens.map dT.e)]],true⟩/\S.h k1=some ⟨2,[.agg [.sl true [],.sl true []]],true⟩/\S.h c6=some ⟨2,[.agg [vD,.bU c4 0 f.opens.length]],true⟩/\S.h c4=some ⟨3,f.opens.map dT.e,false⟩)/\
 kW (k+12) S.n (f.data.take i) vD S.h/\k+12<=S.n
@[simp] theorem VQ(aU:List (List Canon))(aR:List dT)(k:Nat)(hl:aU.length<=4)(hx: ∀i (h:i<aU.length),(aU[i]).length<=1000000000)(ho:aR.length<=1000000000): ∃v h' k',cy X 197 [.agg [aU,aR]] m8 k=some (v,h',k')/\ ∃vD,v= .agg [vD,.bU (k+4) 0 aR.length]/\h' (k+4)=some ⟨3,aR.map dT.e,false⟩/\kW (k+12) k' aU vD h'/\k+12<=k':=by
 refine bu (X:=X) (K:=fun v h' k'=> ∃vD,v= .agg [vD,.bU (k+4) 0 aR.length]/\h' (k+4)=some ⟨3,aR.map dT.e,false⟩/\kW (k+12) k' aU vD h'/\k+12<=k') Tryz.func197 rfl rfl ?_;simp-implicitDefEqProofs[Nat.add_assoc];refine⟨⟨by omega,by omega⟩,fun _ _=> ?_⟩;obtain⟨k1,A5⟩: ∃q,k+1=q:=⟨_,rfl⟩;obtain⟨c4,W3⟩: ∃q,k+4=q:=⟨_,rfl⟩;obtain⟨c6,hc6⟩: ∃q,k+6=q:=⟨_,rfl⟩;refine cP (fun i S=>CpI (bE.mk aU aR) k k1 c4 c6 i S) aU.length ?_ 0 (by omega) ?_
 ·rintro i S hi ⟨vD,⟨f1,f2,f3,f11,f12,f13⟩,⟨h0,h1,h6,h4⟩,HR,hk⟩;simp only at h0 f11 f12 HR h6 h4;by_cases eX:i<aU.length
  case neg=>
   have bI: ¬(i:Int)<aU.length:=by omega
   have ei:i=aU.length:=by omega
   subst ei;rw[List.take_length]at HR;have n1: ¬c6=k1:=by omega
   have n2: ¬c4=k1:=by omega
   have qv:vD.fits 1=true/\vD.cells=[vD]:=by
    rcases HR with⟨_,rfl⟩|⟨_,R,_,rfl,_⟩<;>exact⟨rfl,rfl⟩
   rcases HR with⟨e0,rfl⟩|⟨e0,R,ids,rfl,r1,r2,r3,r4⟩
   ·simp-implicitDefEqProofs[Nat.add_assoc,f2,f3,f12,f13,h1,h6,bI];refine⟨.sl true [],by simp[W3],by rw[W3];simp[n2,h4],.inl ⟨e0,rfl⟩,by omega⟩
   ·simp-implicitDefEqProofs[Nat.add_assoc,f2,f3,f12,f13,h1,h6,bI];refine⟨.bU R 0 aU.length,by simp[W3],by rw[W3];simp[n2,h4],.inr ⟨e0,R,ids,rfl,?_,by omega,fun j g=> ?_,r4⟩,by omega⟩
    ·rw[aO,if_neg (by omega)];exact r1
    ·obtain⟨a1,a2,a3,a4⟩:=r3 j g;exact⟨by rw[aO,if_neg (by omega)];exact a1,a2,by omega,a4⟩
  have bI:(i:Int)<aU.length:=by omega
  have hw:IntKind.i64.wrap ((i:Int)+1)=i+1:=wrap_i64 (by omega);have hxi:=hx i eX;obtain⟨x,nq⟩: ∃x,aU[i]=x:=⟨_,rfl⟩;rw[nq]at hxi;have jX:=fY (a:=aU) eX;rw[nq]at jX;have lp:(aU.take i).length=i:=List.length_take_of_le (by omega);obtain⟨rs,Zf⟩: ∃q,aU.take i=q:=⟨_,rfl⟩;rw[Zf]at HR jX lp;have n0: ∀j,¬k=S.n+j:=fun j=>by omega
  have n1: ∀j,¬k1=S.n+j:=fun j=>by omega
  have n4: ∀j,¬c4=S.n+j:=fun j=>by omega
  have n6: ∀j,¬c6=S.n+j:=fun j=>by omega
  have n6': ∀j,¬S.n+j=c6:=fun j=>by omega
  have e0: ¬k=c6:=by omega
  have e1: ¬k1=c6:=by omega
  have e4: ¬c4=c6:=by omega
  rcases HR with⟨r0,rfl⟩|⟨r0,R,ids,rfl,r1,r2,r3,r4⟩
  ·simp-implicitDefEqProofs[Nat.add_assoc,f3,f11,f12,f13,h6,eX,bI,hw,nq,qy,n6];have e9: ∀j,¬S.n+j=c6:=fun j=>by omega
   refine⟨⟨by omega,by omega⟩,fun _ _=>⟨⟨by omega,by omega⟩,.bU (S.n+9) 0 1,⟨by simp[aO,f1],by simp[aO,f2],by simp[aO,f3],by simp[aO,f11],by simp[aO,f12],by simp[aO]⟩,⟨by simp[aO,n0,e0,h0],by simp[aO,n1,e1,h1],by simp[aO],by simp[aO,n4,e4,h4]⟩,?_,by simp only;omega⟩⟩;rw[jX,r0];exact kW.Nh (id:=S.n+7) (R:=S.n+9) (by simp[aO,e9]) (by simp[aO,e9]) (by simp only;omega)
  ·have nR: ∀j,¬R=S.n+j:=fun j=>by omega
   have nR6: ¬c6=R:=by omega
   have rl:=lk ids rs;have rt:(ig ids rs).take rs.length=ig ids rs:=bn (by omega);simp-implicitDefEqProofs[Nat.add_assoc,f3,f11,f12,f13,h6,eX,bI,hw,nq,qy,n6,r1,nR,nR6,rl,rt];have e9: ∀j,¬S.n+j=c6:=fun j=>by omega
   have e10: ∀j,¬S.n+j=R:=fun j=>by omega
   have q0: ¬k=R:=by omega
   have q1: ¬k1=R:=by omega
   have q4: ¬c4=R:=by omega
   refine⟨⟨by omega,by omega⟩,fun _ _=>⟨⟨by omega,by omega⟩,fun _ _=>⟨⟨by omega,by omega⟩,.bU (S.n+9) 0 (rs.length+1),⟨by simp[aO,f1],by simp[aO,f2],by simp[aO,f3],by simp[aO,f11],by simp[aO,f12],by simp[aO]⟩,⟨by simp[aO,n0,e0,q0,h0],by simp[aO,n1,e1,q1,h1],by simp[aO],by simp[aO,n4,e4,q4,h4]⟩,?_,by simp only;omega⟩⟩⟩;rw[jX];refine kW.snoc (n:=S.n) (id:=S.n+7) (R:=R) (R':=S.n+9) (h:=S.h) (ids:=ids) r3 r4 (by simp[aO,e9]) (by simp[aO,e9,e10]) (fun l a b c=> ?_) (by simp only;omega);have w1: ∀j,¬l=S.n+j:=fun j=>by omega
   have w2: ¬l=c6:=by omega
   simp[aO,w1,w2,c]
 ·simp-implicitDefEqProofs;refine⟨.sl true [],⟨by simp[aO],by simp[aO,<-A5],by simp[aO,<-hc6],by simp[aO],by simp[aO],by simp[aO]⟩,⟨by simp[aO],by simp[aO,<-A5],by simp[aO,<-hc6,<-W3],by simp[aO,<-W3]⟩,.inl ⟨by simp,rfl⟩,by simp only;omega⟩
def Agr(ids:Nat->Nat)(n:Nat)(h hx:aY):Prop:= ∀m,m<n->hx (ids m)=h (ids m)
def Qa(ids:Nat->Nat)(n x:Nat):Prop:= ∀m,m<n->ids m≠x
theorem VR(ids:Nat->Nat)(n:Nat)(h:aY):Agr ids n h h:=fun _ _=>rfl
theorem Bk{ids:Nat->Nat}{n:Nat}{h hx:aY}(x:Nat)(v:Option Ob)(ho:Qa ids n x)(H:Agr ids n h hx):Agr ids n h (aO hx x v):=fun m hm=>by
 rw[aO,if_neg (ho m hm)];exact H m hm
def Gew(ids:Nat->Nat)(n c:Nat):Prop:= ∀m,m<n->c<=ids m
theorem L6{ids:Nat->Nat}{n:Nat}{h h':aY}(c:Nat)(ho:Gew ids n c):Agr ids n h (fun id=>if id<c then h' id else h id):=fun m hm=>by
 have:=ho m hm;simp only;rw[if_neg (by omega)]
theorem vf{rs:List (List Canon)}{h hx:aY}{ids:Nat->Nat}(r3: ∀i (g:i<rs.length),h (ids i)=some ⟨4,(rs[i]).map Canon.e,false⟩)(hh:Agr ids rs.length h hx):cn (List.take rs.length (List.map (bT hx 9) (ig ids rs)))=some (rs.map ba):=by
 have t1:List.take rs.length (List.map (bT hx 9) (ig ids rs))=List.map (bT hx 9) (ig ids rs):=bn (by simp[lk]);rw[t1];unfold ig;refine lj _ _ fun i hi=> ?_;have e1:hx (ids i)=some ⟨4,(rs[i]).map Canon.e,false⟩:=by rw[hh i hi,r3 i hi]
 simp[bT,e1,ba]
theorem vV(l:List (List Canon)):df (l.map ba)=l.map ba:=nK (fun x=>by unfold ba;simp[V.jm]) l
theorem L7{ids:Nat->Nat}{rs:List (List Canon)}{j:Nat}(x:List Canon)(D:Nat):(ig ids rs).set j (.bU D 0 x.length)=ig (aO ids j D) (rs.set j x):=by
 apply List.ext_getElem?;intro i;simp only[ig,List.getElem?_mapIdx,List.getElem?_set,List.length_mapIdx];by_cases e:j=i
 ·subst e;by_cases hj:j<rs.length
  ·simp[hj,aO]
  ·simp[hj]
 ·simp only[e,if_false];congr 1;funext y;simp[aO,Ne.symm e]
theorem AA(d l:List Canon)(o:Nat):jL d l o 0=d:=by simp[jL]
theorem Qb{d l:List Canon}{o i:Nat}(ho:o<=d.length)(hi:i<l.length)(h:o+i<(jL d l o i).length):(jL d l o i).set (o+i) l[i]=jL d l o (i+1):=by
 rw[tG ho (by omega)]at h;have h2:o+i<d.length:=by split at h<;>omega
 unfold jL;have l1:(d.take o++l.take i).length=o+i:=by simp;omega
 rw[List.set_append_right (o+i) _ (by omega),l1,Nat.sub_self,fY hi,List.drop_eq_getElem_cons h2,List.set_cons_zero];simp only[List.append_assoc,List.cons_append,List.nil_append,Nat.add_assoc]
theorem Qc{d l:List Canon}{o i:Nat}(ho:o<=d.length)(hi:i<l.length)(h: ¬o+i<(jL d l o i).length):jL d l o i++ [l[i]]=jL d l o (i+1):=by
 rw[tG ho (by omega)]at h;have h2:d.length<=o+i:=by split at h<;>omega
 unfold jL;rw[List.drop_eq_nil_of_le h2,List.drop_eq_nil_of_le (by omega),fY hi];simp
def WrI(d0 l:List Canon)(fo:List dT)(rs:List (List Canon))(ids:Nat->Nat)(h0:aY)(k0 j k o n R i:Nat)(S:St):Prop:= ∃D,
 (S.f 2= .sl false (l.map Canon.e)/\S.f 6= .ptr 1 0 0/\S.f 9= .ptr 6 0 0/\S.f 10= .ptr 12 k 0/\S.f 11= .int .i64 (n:Int)/\S.f 12= .bU D 0 (jL d0 l o i).length/\S.f 57= .int .i64 (n:Int)/\S.f 58= .int .i64 (i:Int))/\
 (S.h 1=some ⟨2,[.agg [.sl true [],.sl true []]],true⟩/\S.h 6=some ⟨2,[.agg [.bU R 0 rs.length,.bU 12 0 fo.length]],true⟩/\S.h 12=some ⟨3,fo.map dT.e,false⟩/\S.h R=some ⟨1,ig ids rs,true⟩/\S.h D=some ⟨4,(jL d0 l o i).map Canon.e,false⟩)/\
 (∀m,m<rs.length->m≠j->S.h (ids m)=h0 (ids m))/\(D=ids j\/k0<=D)/\D<S.n/\k0<=S.n
@[simp] theorem W4(aU:List (List Canon))(aR:List dT)(h:Int)(l:List Canon)(hf:gS (bE.mk aU aR))(iU:l.length<=1000000000):cz X 216 [.agg [aU,aR],h,l]=some (.de [.agg [.sl false (((lP (bE.mk aU aR) h l).1).data.map ba),.sl false (((lP (bE.mk aU aR) h l).1).opens.map dT.e)],.int .i64 ((lP (bE.mk aU aR) h l).2.1),.bool ((lP (bE.mk aU aR) h l).2.2)]):=by
 have hl:=hf.lens;have l1:aU.length<=4:=hl.data;have l2:=hl.each;have l3:aR.length<=1000000000:=hl.opens;simp only at l2;obtain⟨v0,h0,k0,eC,vD,rfl,g12,HR,hk0⟩:=VQ aU aR 8 l1 l2 l3;simp only[Nat.reduceAdd]at eC g12 HR hk0;refine bd Tryz.func216 rfl rfl ?_;have a8u:vD.fits 1=true:=by rcases HR with⟨_,rfl⟩|⟨_,R,_,rfl,_⟩<;>rfl
 cases ho:qq (bE.mk aU aR) h with
 |false=>
  have e:lP (bE.mk aU aR) h l=((bE.mk aU aR),0,false):=by unfold lP;rw[if_neg (fun h=>by rw[ho]at h;cases h.1)]
  rw[e];rcases HR with⟨r0,rfl⟩|⟨r0,R,ids,rfl,r1,r2,r3,r4⟩
  ·simp(maxSteps:=10000000) (maxDischargeDepth:=30) -implicitDefEqProofs[l1,l3,iU,ho,eC,g12];exact r0
  ·have n1: ¬R=1:=by omega
   have n6: ¬R=6:=by omega
   have n8: ¬R<8:=by omega
   have rl:=lk ids aU;have C4: ∀H,Agr ids aU.length h0 H->_:=fun H hO=>vf (fun i g=>(r3 i g).1) hO;have a8:Gew ids aU.length 8:=fun m g=>by have:=r3 m g;omega
   have o1:Qa ids aU.length 1:=fun m g=>by have:=r3 m g;omega
   have o6:Qa ids aU.length 6:=fun m g=>by have:=r3 m g;omega
   simp(maxSteps:=10000000) (maxDischargeDepth:=30) -implicitDefEqProofs[l1,l2,l3,iU,ho,eC,g12,r1,n1,n6,n8,rl,C4,Bk,L6,a8,o1,o6,vV]
 |true=>
  obtain⟨k,rfl,hk,j,hj,e1,e2,e3,e4,e5⟩:=nX hf ho;simp only at hk hj e1 e2 e3 e4 e5;have v8:(k:Int)<aR.length:=by omega
  have W2:(j:Int)<aU.length:=by omega
  rcases HR with⟨r0,rfl⟩|⟨r0,R,ids,rfl,r1,r2,r3,r4⟩
  ·rw[r0]at hj;simp at hj
  have n1: ¬R=1:=by omega
  have n6: ¬R=6:=by omega
  have n8: ¬R<8:=by omega
  have rl:=lk ids aU;have C4: ∀H,Agr ids aU.length h0 H->_:=fun H hO=>vf (fun i g=>(r3 i g).1) hO;have a8:Gew ids aU.length 8:=fun m g=>by have:=r3 m g;omega
  have o1:Qa ids aU.length 1:=fun m g=>by have:=r3 m g;omega
  have o6:Qa ids aU.length 6:=fun m g=>by have:=r3 m g;omega
  by_cases c2:(aR[k]).write=true
  case neg=>
   have e:lP (bE.mk aU aR) k l=((bE.mk aU aR),0,false):=by unfold lP;rw[if_neg (fun h=>c2 (by have:=h.2.1;rw[e1]at this;exact this))]
   have c2':(aR[k]).write=false:=by simpa using c2
   rw[e];simp(maxSteps:=10000000) (maxDischargeDepth:=30) -implicitDefEqProofs[l1,l2,l3,iU,ho,eC,g12,r1,n1,n6,n8,rl,C4,Bk,L6,a8,o1,o6,vV,hk,v8,c2']
  by_cases c3:iQ l=true
  case neg=>
   have e:lP (bE.mk aU aR) k l=((bE.mk aU aR),0,false):=by unfold lP;rw[if_neg (fun h=>c3 h.2.2)]
   rw[e];simp(maxSteps:=10000000) (maxDischargeDepth:=30) -implicitDefEqProofs[l1,l2,l3,iU,ho,eC,g12,r1,n1,n6,n8,rl,C4,Bk,L6,a8,o1,o6,vV,hk,v8,c2,c3]
  obtain⟨⟨fi,off,wr⟩,hoe⟩: ∃x,aR[k]=x:=⟨_,rfl⟩;rw[hoe]at e1 e3 e4 e5 c2;simp only at e3 e4 e5 c2;subst e3 c2;have f64:=(hf.each j hj).2;simp only at f64;obtain⟨o,rfl⟩:=Int.eq_ofNat_of_zero_le e4;obtain⟨d0,JE⟩: ∃d0,aU[j]=d0:=⟨_,rfl⟩;rw[JE]at e2 e5 f64;have tQ:IntKind.i64.wrap (64-(o:Int))=64-o:=wrap_i64 (by omega);obtain⟨n,hn⟩: ∃n:Nat,(if 64-(o:Int)<(l.length:Int) then 64-(o:Int) else l.length)=(n:Int):=by
   split
   ·exact⟨(64-(o:Int)).toNat,by omega⟩
   ·exact⟨l.length,rfl⟩
  have hnl:n<=l.length/\o+n<=64:=by split at hn<;>omega
  have en:oJ (bE.mk aU aR) k l=n:=by unfold oJ;rw[e1];exact hn
  have e:lP (bE.mk aU aR) k l=(⟨aU.set j (jL d0 l o n),aR.set k ⟨(j:Int),(o:Int)+n,true⟩⟩,(n:Int),true):=by
   unfold lP;rw[if_pos ⟨ho,by rw[e1],c3⟩,en,e1,e2];rfl
  obtain⟨N1,Zf⟩: ∃x,aU.set j (jL d0 l o n)=x:=⟨_,rfl⟩;obtain⟨fo',hfo⟩: ∃x,aR.set k ⟨(j:Int),(o:Int)+n,true⟩=x:=⟨_,rfl⟩;rw[Zf,hfo]at e;rw[e];have e6: ∀h',(ig ids aU)[j]= .bU (ids j) 0 d0.length:=fun h'=>by rw[<-JE];simp[ig]
  have e7:h0 (ids j)=some ⟨4,d0.map Canon.e,false⟩:=by rw[<-JE];exact(r3 j hj).1
  have q8: ¬ids j<8:=by have:=r3 j hj;omega
  have q1: ¬ids j=1:=by omega
  have q6: ¬ids j=6:=by omega
  simp(maxSteps:=10000000) (maxDischargeDepth:=30) -implicitDefEqProofs[l1,l2,l3,iU,ho,eC,g12,r1,n1,n6,n8,rl,hk,v8,hoe,c3,hj,W2,tQ,hn,e6,e7,q8,q1,q6];refine cP (fun i S=>WrI d0 l aR aU ids h0 k0 j k o n R i S) n ?_ 0 (by omega) ?_
  ·rintro i S hi ⟨D,⟨f2,f6,f9,f10,f11,f12,f57,f58⟩,⟨g1,g6,VS,gR,gD⟩,gO,hD,hDn,hkn⟩;have rj:=r3 j hj;have d1: ¬D=1:=by omega
   have d6: ¬D=6:=by omega
   have d12: ¬D=12:=by omega
   have dR: ¬D=R:=by omega
   obtain⟨y,hy⟩: ∃y,jL d0 l o i=y:=⟨_,rfl⟩;have hle:=tG (d:=d0) (l:=l) (o:=o) (n:=i) (by omega) (by omega);rw[hy]at f12 gD hle;have hyl:y.length<=64:=by split at hle<;>omega
   by_cases eX:i<n
   ·have bI:(i:Int)<n:=by omega
    have Bt:i<l.length:=by omega
    have eY:=cS i (by omega);obtain⟨q,hq⟩: ∃q,o+i=q:=⟨_,rfl⟩;obtain⟨q,hq⟩: ∃q,o+i=q:=⟨_,rfl⟩;have Zg:IntKind.i64.wrap ((o:Int)+(i:Int))=(q:Int):=by rw[wrap_i64 (by omega)];omega
    have m1: ¬1=D:=by omega
    have m6: ¬6=D:=by omega
    have m12: ¬12=D:=by omega
    have mR: ¬R=D:=by omega
    by_cases hp:q<y.length
    ·have hpi:(q:Int)<(y.length:Int):=by omega
     have agr: ¬(y.length:Int)<=(q:Int):=by omega
     simp(maxSteps:=10000000) (maxDischargeDepth:=30) -implicitDefEqProofs[f2,f6,f9,f10,f11,f12,f57,f58,g1,g6,VS,gR,gD,d1,d6,d12,dR,eX,bI,Bt,eY,Zg,hk,hoe,hp,hpi,agr];have jI: ∀(a c:Canon),(y.map Canon.e).set q (a.e.put 0 (.agg [.int .u8 c.tag,.int .u16 c.val,.int .i64 c.region,.int .i64 c.offset]))=(y.set q c).map Canon.e:=fun a c=>by rw[List.map_set];rfl
     have C4:=Qb (d:=d0) (l:=l) (o:=o) (i:=i) (by omega) Bt (by rw[hy,hq];exact hp);rw[hy,hq]at C4;refine⟨D,⟨by simp[aO,f2],by simp[aO,f6],by simp[aO,f9],by simp[aO,f10],by simp[aO,f11],by simp[aO,f12,<-C4],by simp[aO,f57],by simp[aO]⟩,⟨by simp[aO,m1,g1],by simp[aO,m6,g6],by simp[aO,m12,VS],by simp[aO,mR,gR],?_⟩,fun m hm hmj=> ?_,hD,by simp only;omega,by simp only;omega⟩
     ·simp only[aO,if_true,jI,C4]
     ·have h9:=r3 m hm;have h8:=r4 m j hm hj;have w: ¬ids m=D:=by omega
      simp only[aO,w,if_false];exact gO m hm hmj
    ·have hpi: ¬(q:Int)<(y.length:Int):=by omega
     have agr:(y.length:Int)<=(q:Int):=by omega
     have hya:(y.length+1)*24<=140737488355328/\y.length<=4611686018427387903:=by omega
     simp(maxSteps:=10000000) (maxDischargeDepth:=30) -implicitDefEqProofs[f2,f6,f9,f10,f11,f12,f57,f58,g1,g6,VS,gR,gD,d1,d6,d12,dR,eX,bI,Bt,eY,Zg,hk,hoe,hp,hpi,agr,hya];have C4:=Qc (d:=d0) (l:=l) (o:=o) (i:=i) (by omega) Bt (by rw[hy,hq];exact hp);rw[hy]at C4;obtain⟨N,hN⟩: ∃N,S.n+1+2+9+6=N:=⟨_,rfl⟩;rw[hN];have mN: ¬1=N/\ ¬6=N/\ ¬12=N/\ ¬R=N:=by omega
     obtain⟨mN1,mN6,auz,mNR⟩:=mN;refine⟨N,⟨by simp[aO,f2],by simp[aO,f6],by simp[aO,f9],by simp[aO,f10],by simp[aO,f11],by simp[aO,<-C4],by simp[aO,f57],by simp[aO]⟩,⟨by simp[aO,m1,mN1,g1],by simp[aO,m6,mN6,g6],by simp[aO,m12,auz,VS],by simp[aO,mR,mNR,gR],?_⟩,fun m hm hmj=> ?_,.inr (by omega),by simp only;omega,by simp only;omega⟩
     ·simp only[aO,if_true,<-C4,List.map_append];rfl
     ·have h9:=r3 m hm;have h8:=r4 m j hm hj;have w: ¬ids m=D:=by omega
      have w2: ¬ids m=N:=by omega
      simp only[aO,w,w2,if_false];exact gO m hm hmj
   ·have bI: ¬(i:Int)<n:=by omega
    have ei:i=n:=by omega
    subst ei;rw[hy]at Zf;have y1: ¬R=1/\ ¬R=6/\ ¬R=12:=by omega
    obtain⟨y1,y6,y12⟩:=y1;have z1: ¬1=R/\ ¬6=R/\ ¬12=R:=by omega
    obtain⟨z1,z6,z12⟩:=z1;have VT:=L7 (ids:=ids) (rs:=aU) (j:=j) y D;have acy:(aR.map dT.e).set k ((dT.e ⟨(j:Int),(o:Int),true⟩).put 1 (.int .i64 ((o:Int)+(i:Int))))=(aR.set k ⟨(j:Int),(o:Int)+(i:Int),true⟩).map dT.e:=by rw[List.map_set];rfl
    have R3: ∀a (g:a<(aU.set j y).length),S.h (aO ids j D a)=some ⟨4,((aU.set j y)[a]).map Canon.e,false⟩:=fun a g=>by
     by_cases e:a=j
     ·subst e;simp[aO,gD]
     ·have e': ¬j=a:=fun h=>e h.symm;have ga:a<aU.length:=by simpa using g
      simp only[aO,e,if_false,List.getElem_set_ne e'];rw[gO a ga e];exact(r3 a ga).1
    have O: ∀x,x≠D->(x<20\/x=R)->Qa (aO ids j D) aU.length x:=fun x hx ZA m hm=>by
     have h9:=r3 m hm;by_cases e:m=j
     ·subst e;simp[aO];omega
     ·simp only[aO,e,if_false];omega
    have O1:=O 1 (by omega) (by omega);have O6:=O 6 (by omega) (by omega);have O12:=O 12 (by omega) (by omega);have OR:=O R (by omega) (.inr rfl);obtain⟨ft,qT⟩: ∃x,aO ids j D=x:=⟨_,rfl⟩;have rl':N1.length=aU.length:=by rw[<-Zf];simp
    have fl':fo'.length=aR.length:=by rw[<-hfo];simp
    rw[qT]at VT R3 O1 O6 O12 OR;rw[Zf]at VT;simp only[Zf]at R3;rw[hfo]at acy;have C4: ∀H,Agr ft aU.length S.h H->_:=fun H hO=>vf R3 (by rw[rl'];exact hO);rw[rl']at C4;have fkf: ∀(f:dT->V),List.take aR.length (fo'.map f)=fo'.map f:=fun f=>bn (by simp;omega);have rle:=lk ft N1;have nO:IntKind.i64.wrap ((o:Int)+(i:Int))=(o:Int)+(i:Int):=wrap_i64 (by omega);simp(maxSteps:=10000000) (maxDischargeDepth:=30) -implicitDefEqProofs[f2,f6,f9,f10,f11,f12,f57,f58,g1,g6,VS,gR,gD,d1,d6,d12,dR,eX,bI,hk,hoe,hj,W2,rl,e6,y1,y6,y12,z1,z6,z12,VT,acy,nO,rle,rl',fl',fkf,C4,Bk,VR,O1,O6,O12,OR,vV]
  ·simp(maxSteps:=10000000) (maxDischargeDepth:=30) -implicitDefEqProofs;refine⟨ids j,⟨by simp[aO],by simp[aO],by simp[aO],by simp[aO],by simp[aO],by simp[aO,AA],by simp[aO],by simp[aO]⟩,⟨by simp[aO],by simp[aO],?_,?_,?_⟩,fun m hm _=> ?_,.inl rfl,by simp only;have:=r3 j hj;omega,by simp only;omega⟩
   ·simp[aO,g12]
   ·simp[aO,n6,n8,r1]
   ·simp[aO,q6,q8,e7,AA]
   ·have h9:=r3 m hm;have w1: ¬ids m=6:=by omega
    have w2: ¬ids m<8:=by omega
    simp[aO,w1,w2]
end Go.Proofs.YtejohpnpnaljdaaGreat
