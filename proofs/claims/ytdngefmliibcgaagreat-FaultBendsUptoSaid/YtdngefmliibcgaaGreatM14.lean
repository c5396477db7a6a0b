/- Part of a proof: G6. -/
import Derived.Test.YtdngefmliibcgaaGreatM05
import Derived.Test.YtdngefmliibcgaaGreatM10
import Derived.Test.YtdngefmliibcgaaGreatM12
import Derived.Test.YtdngefmliibcgaaGreatM13
set_option linter.all false
set_option maxRecDepth 20000
set_option maxHeartbeats 20000000
namespace Go.Proofs.YtdngefmliibcgaaGreat
open Go Go.Abs Go.Abs.fJ
structure kD (h:aG) (k:Nat) (S:Nat→Prop) (T:Nat) (vB vC vL:V) (es:List V) (m:aJ):Prop where
 lt: ∀i,S i→i<k
 VY:S T
 row:h T=some ⟨8,es,true⟩
 len:es.length=4
 aqm:m.threads.length=4
 aqn: ∀i (g:i<es.length) (g':i<m.threads.length),∃vR,es[i]= .agg [.int .i64 (m.threads[i]).state,vR,.int .i64 (m.threads[i]).pc,.int .i64 (m.threads[i]).count,.int .i64 (m.threads[i]).bK,.int .i64 (m.threads[i]).saved,.int .i64 (m.threads[i]).cz,.int .u16 (m.threads[i]).code]
 cT: ∀hx:aG,(∀i,S i→i≠T→hx i=h i)→ ∀d,aX hx (d+3) vB=some (.sl false (m.layout.aE.map (V.int .i64)))∧aX hx (d+3) vC=some (.sl false (m.memory.cells.map Cell.enc))∧
  aX hx (d+3) vL=some (.sl false (m.memory.lines.map bT.enc))∧aY (es.map (aX hx (d+3)))=some (m.threads.map Thread.enc)
theorem kD.mono{h h':aG}{k k':Nat}{S:Nat→Prop}{T:Nat}{vB vC vL:V}{es:List V}{m:aJ}(H:kD h k S T vB vC vL es m)(hk:k≤k')(hh: ∀i,S i→h' i=h i):kD h' k' S T vB vC vL es m:=by
 obtain⟨h1,h2,h3,h4,h5,h6,h7⟩:=H;exact⟨fun i hi=>by have:=h1 i hi;omega,h2,by rw[hh _ h2,h3],h4,h5,h6,fun hx rW d=>h7 hx (fun i hi hT=>by rw[rW i hi hT,hh i hi]) d⟩
theorem Gg(hx:aG)(d:Nat)(x:Thread):aX hx (d+3) (Thread.enc x)=some (Thread.enc x):=by
 simp[Thread.aU,aX,aY]
theorem wc(hx:aG)(d:Nat): ∀l:List Thread,aY ((l.map Thread.enc).map (aX hx (d+3)))=some (l.map Thread.enc)
 | []=>rfl
 |a::l=>by simp only[List.map_cons];rw[Gg];rw[aY.eq_3,wc hx d l]
theorem kD.flat{h:aG}{k T:Nat}{m:aJ}(hT:h T=some ⟨8,m.threads.map Thread.enc,true⟩)(hl:m.threads.length=4)(hk:T<k):
  kD h k (fun i=>i=T) T (.sl false (m.layout.aE.map (V.int .i64))) (.sl false (m.memory.cells.map Cell.enc)) (.sl false (m.memory.lines.map bT.enc)) (m.threads.map Thread.enc) m:=by
 refine⟨fun i hi=>by rw[hi];exact hk,rfl,hT,by simp[hl],hl,fun i g g'=>⟨.sl false ((m.threads[i]).aO.map Cell.enc),?_⟩,fun hx _ d=>⟨by simp[aX],by simp[aX],by simp[aX],wc hx d _⟩⟩;simp[Thread.aU]
def Rv(vB:V)(C L T:Nat)(ids aM:Nat→Nat)(i:Nat):Prop:=i=C∨i=L∨i=T∨(∃j,j<4∧(i=ids j∨i=aM j))∨ ∃s n,vB= .bJ i s n
theorem DS{ids:Nat→Nat}{l:List Thread}{i:Nat}(g:i<(bo ids l).length)(g':i<l.length):(bo ids l)[i]=dw ids i l[i]:=by
 simp[bo]
theorem kD.deep{h:aG}{k C L T:Nat}{vB:V}{ids aM:Nat→Nat}{m:aJ}(H:dn h k vB C L T ids aM m):kD h k (Rv vB C L T ids aM) T vB (.bJ C 0 512) (.bJ L 0 4) (bo aM m.threads) m:=by
 have hl:=H.len;have tY:=H.mp.lines;have KA:=H.mp.len;refine⟨fun i hi=> ?_,.inr (.inr (.inl rfl)),H.ph,by rw[ey,hl],hl,fun i g g'=>⟨.bJ (aM i) 0 (m.threads[i]).aO.length,?_⟩,fun hx rW d=> ?_⟩
 ·rcases hi with rfl|rfl|rfl|⟨j,hj,rfl|rfl⟩|⟨s,n,e⟩
  ·exact H.lt.1
  ·exact H.lt.2.1
  ·exact H.sm.2.2
  ·exact H.lt.2.2 j hj
  ·exact(H.sn j hj).2.2.2
  ·rcases H.aE with q|⟨B,q,_,g2,_⟩
   ·rw[q]at e;cases e
   ·rw[q]at e;cases e;exact g2.2.2.2
 ·rw[DS g g'];rfl
 ·have nC:C≠T:=fun e=>H.sm.1 e.symm;have nL:L≠T:=fun e=>H.sm.2.1 e.symm;have xC:=rW C (.inl rfl) nC;have xL:=rW L (.inr (.inl rfl)) nL;have xI: ∀j,j<4→hx (ids j)=h (ids j):=fun j hj=>rW _ (.inr (.inr (.inr (.inl ⟨j,hj,.inl rfl⟩)))) (H.Gd j hj);have xR: ∀j,j<4→hx (aM j)=h (aM j):=fun j hj=>rW _ (.inr (.inr (.inr (.inl ⟨j,hj,.inr rfl⟩)))) (H.sn j hj).2.2.1;have e1:=H.wS (hx:=hx) xR (d+1);have e2:=H.sf (hx:=hx) xI d;have l2:=fY ids m.memory.lines;have t2:(dC ids m.memory.lines).take 4=dC ids m.memory.lines:=aQ (by omega);have t3:(m.memory.cells.map Cell.enc).take 512=m.memory.cells.map Cell.enc:=aQ (by simp;omega);refine⟨?_,?_,?_,e1⟩
  ·rcases H.aE with q|⟨B,q,g1,g2,g3,g4⟩
   ·rw[q];simp[aX]
   ·have xB:=rW B (.inr (.inr (.inr (.inr ⟨_,_,q⟩)))) g2.2.2.1;rw[q];simp[aX,xB,g1]
  ·simp[aX,xC,H.mem.cells,KA,t3]
  ·simp[aX,xL,H.mem.lines,l2,tY,t2,e2]
theorem yT(l:List Cell):(l.map Cell.enc).all V.B5=true:=by
 rw[List.all_eq_true];intro x hx;obtain⟨c,_,rfl⟩:=List.mem_map.1 hx;rfl
theorem Rw(l:List Int):(l.map (V.int .i64)).all V.B5=true:=by
 rw[List.all_eq_true];intro x hx;obtain⟨c,_,rfl⟩:=List.mem_map.1 hx;rfl
theorem J8(ids:Nat→Nat)(l:List bT):(dC ids l).all V.B5=true:=by
 rw[List.all_eq_true];intro x hx;obtain⟨i,hi,rfl⟩:=List.getElem_of_mem hx;simp[dC,AL,V.B5,V.KZ]
theorem DT(ids:Nat→Nat)(l:List Thread):(bo ids l).all V.B5=true:=by
 rw[List.all_eq_true];intro x hx;obtain⟨i,hi,rfl⟩:=List.getElem_of_mem hx;simp[bo,dw,V.B5,V.KZ]
theorem dn.pure{h:aG}{k C L T:Nat}{vB:V}{ids aM:Nat→Nat}{m:aJ}(H:dn h k vB C L T ids aM m):dn (fun i=>iy (h i)) k vB C L T ids aM m:=by
 obtain⟨h0,h1,h2,h3,h4,h5,h6,h7,h9,qF,zI,zi,NK⟩:=H;refine⟨h0,⟨by simp only[h1.cells,iy,yT,if_true],by simp only[h1.lines,iy,J8,if_true],fun i g=>by simp only[h1.line i g,iy,yT,if_true]⟩,h2,h3,?_,by simp only[h5,iy,DT,if_true],fun i g=>by simp only[h6 i g,iy,yT,if_true],h7,h9,qF,zI,zi,NK⟩;rcases h4 with e|⟨B,e,g1,g2⟩
 ·exact .inl e
 ·exact .inr ⟨B,e,by simp only[g1,iy,Rw,if_true],g2⟩
theorem dn.put {h h':aG} {k k' C L T:Nat} {vB:V} {ids aM:Nat→Nat} {m:aJ} (H:dn h k vB C L T ids aM m) {a:Nat} (hA:mF a vB C L T ids aM) (hk:k≤k') {t:Nat} (ht:t<4) {x:Thread}
  (hT:h' T=some ⟨8,bo aM (m.threads.set t x),true⟩) (hR:h' (aM t)=some ⟨2,x.aO.map Cell.enc,false⟩) (hh: ∀i,a≤i→i<k→i≠T→i≠aM t→h' i=h i):dn h' k' vB C L T ids aM (eO m m.memory t x):=by
 obtain⟨h0,h1,h2,h3,h4,h5,h6,h7,h9,qF,zI,zi,NK⟩:=H;obtain⟨⟨aC,aL,aT⟩,aI,aB⟩:=hA;obtain⟨r3,r4,r5,r6⟩:=zI t ht;refine⟨h0,⟨by rw[hh _ aC h3.1 (Ne.symm h9.1) (Ne.symm r3)];exact h1.cells,by rw[hh _ aL h3.2.1 (Ne.symm h9.2.1) (Ne.symm r4)];exact h1.lines,fun i g=> ?_⟩,h2,⟨by omega,by omega,fun i hi=>by have:=h3.2.2 i hi;omega⟩,?_,hT,fun i g=> ?_,by simp[eO,h7],⟨h9.1,h9.2.1,by omega⟩,qF,fun i hi=>by have:=zI i hi;omega,zi,NK⟩
 ·have hi:i<4:=by have:=h0.lines;simp only[eO]at g;omega
  rw[hh _ (aI i hi).1 (h3.2.2 i hi) (qF i hi) (zi t i ht hi)];exact h1.line i g
 ·rcases h4 with e|⟨B,e,g1,g2,g3,g4⟩
  ·exact .inl e
  ·exact .inr ⟨B,e,by rw[hh _ (aB _ _ _ e) g2.2.2.2 g2.2.2.1 (Ne.symm (g4 t ht)),g1];rfl,⟨g2.1,g2.2.1,g2.2.2.1,by omega⟩,g3,g4⟩
 ·simp only[eO,List.length_set]at g;simp only[eO,List.getElem_set];split
  ·rename_i e;subst e;exact hR
  ·rename_i e;rw[hh _ (aI i (by omega)).2 (zI i (by omega)).2.2.2 (zI i (by omega)).2.2.1 (NK i t (by omega) ht (fun h=>e h.symm)),h6 i g]
theorem Rv.OL{a:Nat}{vB:V}{C L T:Nat}{ids aM:Nat→Nat}(H:mF a vB C L T ids aM): ∀i,Rv vB C L T ids aM i→a≤i:=fun i hi=>by
 obtain⟨⟨aC,aL,aT⟩,aI,aB⟩:=H;rcases hi with rfl|rfl|rfl|⟨j,hj,rfl|rfl⟩|⟨s,n,e⟩
 ·exact aC
 ·exact aL
 ·exact aT
 ·exact(aI j hj).1
 ·exact(aI j hj).2
 ·exact aB _ _ _ e
def qs(p:Prog)(d:Int)(lay:Layout)(h:aG)(k:Nat)(S:Nat→Prop)(v:V)(h':aG)(k':Nat):Prop:=
 ∃(b:Bool) (S':Nat→Prop) (T':Nat) (VZ V0 V1:V) (tX:List V) (m':aJ),v= .cg [.agg [VZ,.int .u16 m'.layout.key,V0,V1,.bJ T' 0 4],.bool b]∧kD h' k' S' T' VZ V0 V1 tX m'∧cp p d m'∧m'.layout=lay∧k≤k'∧(∀i,i<k→h' i=h i)∧ ∀i,S' i→S i∨k≤i
theorem qs.same{p:Prog}{d:Int}{h h':aG}{k n:Nat}{S:Nat→Prop}{T:Nat}{vB vC vL:V}{es:List V}{m:aJ}{b:Bool}(HM:kD h k S T vB vC vL es m)(HG:cp p d m)(hB:Below k h h'):
  qs p d m.layout h k S (.cg [.agg [vB,.int .u16 m.layout.key,vC,vL,.bJ T 0 4],.bool b]) h' (k+n):=
 ⟨b,S,T,vB,vC,vL,es,m,rfl,HM.mono (by omega) fun i hi=>hB i (HM.lt i hi),HG,rfl,by omega,hB,fun i hi=> .inl hi⟩
theorem qs.new{p:Prog}{d:Int}{lay:Layout}{h h':aG}{k n:Nat}{S:Nat→Prop}{C L T:Nat}{vB:V}{ids aM:Nat→Nat}{m:aJ}{b:Bool}(H:dn h' (k+n) vB C L T ids aM m)(HA:mF k vB C L T ids aM)(HG:cp p d m)(hl:m.layout=lay)(hB:Below k h h'):
  qs p d lay h k S (.cg [.agg [vB,.int .u16 m.layout.key,.bJ C 0 512,.bJ L 0 4,.bJ T 0 4],.bool b]) h' (k+n):=
 ⟨b,_,T,vB,_,_,_,m,rfl,.deep H,HG,hl,by omega,hB,fun i hi=> .inr (Rv.OL HA i hi)⟩
theorem de.threads {h h':aG} {k k' b C L T:Nat} {vB:V} {ids aM kz:Nat→Nat} {m:aJ} {KW:List Thread} (H:de h k b vB C L T ids aM m) (hk:k≤k') (hl:KW.length=4) (hT:h' T=some ⟨8,bo kz KW,true⟩)
  (hR: ∀i (g:i<KW.length),h' (kz i)=some ⟨2,(KW[i]).aO.map Cell.enc,false⟩) (hi: ∀i,i<4→kz i=aM i∨(k≤kz i∧kz i<k')) (mN: ∀i j,i<4→j<4→i≠j→kz i≠kz j)
  (hh: ∀i,i<k→i≠T→(∀j,j<4→i≠aM j)→h' i=h i):de h' k' b vB C L T ids kz ⟨m.layout,m.memory,KW⟩:=by
 obtain⟨h1,h2,h3,h4,h0,h6,h7,h8,h9,qF⟩:=H;have jw:=h1.lt;refine⟨?_,?_,hT,hR,hl,⟨h6.1,h6.2.1,h6.2.2.1,by omega⟩,h7,fun i yB=> ?_,fun i j yB hj=> ?_,mN⟩
 ·have e:KW.length=m.threads.length:=by omega
  simp only[e];exact h1.bZ hk (hh _ jw.1 (Ne.symm h6.1) fun j hj=>Ne.symm (h8 j hj).1) (hh _ jw.2.1 (Ne.symm h6.2.1) fun j hj=>Ne.symm (h8 j hj).2.1) (hh _ jw.2.2.1 (Ne.symm h6.2.2.1) fun j hj=>Ne.symm (h8 j hj).2.2.1) fun j hj=>hh _ (jw.2.2.2 j hj) (h7 j hj) fun i yB=>h9 i j yB hj
 ·rcases h2 with e|⟨B,e,g1,g2,g3,g4⟩
  ·exact .inl e
  ·refine .inr ⟨B,e,by rw[hh _ g2.2.2.2.2 g2.2.2.2.1 fun j hj=>Ne.symm (g4 j hj),g1],by omega,g3,fun i yB=> ?_⟩;rcases hi i yB with q|q
   ·rw[q];exact g4 i yB
   ·have:=g2.2.2.2.2;omega
 ·obtain⟨a1,a3,a4,a5,a6⟩:=h8 i yB;rcases hi i yB with q|q
  ·rw[q];exact⟨a1,a3,a4,a5,by omega⟩
  ·have:=h6.2.2.2;have:=jw.1;have:=jw.2.1;have:=jw.2.2.1;exact⟨by omega,by omega,by omega,by omega,q.2⟩
 ·rcases hi i yB with q|q
  ·rw[q];exact h9 i j yB hj
  ·have:=jw.2.2.2 j hj;omega
theorem mF.less{a a':Nat}{vB:V}{C L T:Nat}{ids aM:Nat→Nat}(H:mF a vB C L T ids aM)(h:a'≤a):mF a' vB C L T ids aM:=by
 obtain⟨⟨aC,aL,aT⟩,aI,aB⟩:=H;exact⟨⟨by omega,by omega,by omega⟩,fun j hj=>by have:=aI j hj;omega,fun B s n e=>by have:=aB B s n e;omega⟩
theorem dn.threads {h h':aG} {k k' C L T:Nat} {vB:V} {ids aM kz:Nat→Nat} {m:aJ} {KW:List Thread} (H:dn h k vB C L T ids aM m) {a:Nat} (hA:mF a vB C L T ids aM) (hk:k≤k') (hl:KW.length=4) (hT:h' T=some ⟨8,bo kz KW,true⟩)
  (hR: ∀i (g:i<KW.length),h' (kz i)=some ⟨2,(KW[i]).aO.map Cell.enc,false⟩) (hi: ∀i,i<4→kz i=aM i∨(k≤kz i∧kz i<k')) (mN: ∀i j,i<4→j<4→i≠j→kz i≠kz j)
  (hh: ∀i,a≤i→i<k→i≠T→(∀j,j<4→i≠aM j)→h' i=h i):dn h' k' vB C L T ids kz ⟨m.layout,m.memory,KW⟩:=by
 obtain⟨h0,h1,h2,h3,h4,h5,h6,h7,h9,qF,zI,zi,NK⟩:=H;obtain⟨⟨aC,aL,aT⟩,aI,aB⟩:=hA;refine⟨h0,⟨by rw[hh _ aC h3.1 (Ne.symm h9.1) fun j hj=>Ne.symm (zI j hj).1];exact h1.cells,by rw[hh _ aL h3.2.1 (Ne.symm h9.2.1) fun j hj=>Ne.symm (zI j hj).2.1];exact h1.lines,fun i g=> ?_⟩,h2,⟨by omega,by omega,fun i hi=>by have:=h3.2.2 i hi;omega⟩,?_,hT,hR,hl,⟨h9.1,h9.2.1,by omega⟩,qF,fun i yB=> ?_,fun i j yB hj=> ?_,mN⟩
 ·have hi:i<4:=by have:=h0.lines;simp only at g;omega
  rw[hh _ (aI i hi).1 (h3.2.2 i hi) (qF i hi) fun j hj=>zi j i hj hi];exact h1.line i g
 ·rcases h4 with e|⟨B,e,g1,g2,g3,g4⟩
  ·exact .inl e
  ·refine .inr ⟨B,e,by rw[hh _ (aB _ _ _ e) g2.2.2.2 g2.2.2.1 fun j hj=>Ne.symm (g4 j hj),g1],⟨g2.1,g2.2.1,g2.2.2.1,by omega⟩,g3,fun i yB=> ?_⟩;rcases hi i yB with q|q
   ·rw[q];exact g4 i yB
   ·have:=g2.2.2.2;omega
 ·obtain⟨a3,a4,a5,a6⟩:=zI i yB;rcases hi i yB with q|q
  ·rw[q];exact⟨a3,a4,a5,by omega⟩
  ·have:=h9.2.2;have:=h3.1;have:=h3.2.1;exact⟨by omega,by omega,by omega,q.2⟩
 ·rcases hi i yB with q|q
  ·rw[q];exact zi i j yB hj
  ·have:=h3.2.2 j hj;omega
theorem dn.own{h:aG}{k C L T:Nat}{vB:V}{ids aM:Nat→Nat}{r:aJ}(HA:dn h k vB C L T ids aM r):Eb X h (gD vB C L T r) [(0,4,112)]=some (.agg (mG r)):=by
 have hT:=HA.ph;have hl:=HA.len;have tY:=HA.mp.lines;have KA:=HA.mp.len;have nC: ¬C=T:=fun e=>HA.sm.1 e.symm;have nL: ¬L=T:=fun e=>HA.sm.2.1 e.symm;have u: ∀i,i≠T→aS h T none i=h i:=fun i hi=>by simp[aS,hi]
 have e1:=HA.wS (hx:=aS h T none) (fun i hi=>u _ (HA.sn i hi).2.2.1) 10;have e2:=HA.sf (hx:=aS h T none) (fun i hi=>u _ (HA.Gd i hi)) 9;have l1:=ey aM r.threads;have l2:=fY ids r.memory.lines;rw[hl]at l1;rw[tY]at l2;have t1:(bo aM r.threads).take 4=bo aM r.threads:=aQ (by omega);have t2:(dC ids r.memory.lines).take 4=dC ids r.memory.lines:=aQ (by omega);have t3:(r.memory.cells.map Cell.enc).take 512=r.memory.cells.map Cell.enc:=aQ (by simp;omega);have t4:(r.threads.map Thread.enc).take 4=r.threads.map Thread.enc:=aQ (by simp;omega);unfold gD mG;rcases HA.aE with e|⟨B,e,g1,g2,g3,g4⟩
 ·simp(implicitDefEqProofs:=false)[e,hT,hl,tY,KA,nC,nL,HA.mem.cells,HA.mem.lines,l1,l2,t1,t2,t3,t4,e1,e2,ec,nw,jU,nv]
 ·have nB: ¬B=T:=g2.2.2.1;simp(implicitDefEqProofs:=false)[e,g1,hT,hl,tY,KA,nB,nC,nL,HA.mem.cells,HA.mem.lines,l1,l2,t1,t2,t3,t4,e1,e2,ec,nw,jU,nv]
end Go.Proofs.YtdngefmliibcgaaGreat
