/- Part of a proof: G2. -/
import Derived.Test.YtdngefmliibcgaaGreatM10
set_option linter.all false
set_option maxRecDepth 20000
set_option maxHeartbeats 20000000
namespace Go.Proofs.YtdngefmliibcgaaGreat
open Go Go.Abs Go.Abs.fJ
def Rq(h:aG)(k b C L T:Nat)(ids aM:Nat→Nat)(vB:V)(bs:List Int):Prop:=
 vB= .sl false (bs.map (V.int .i64))∨ ∃B,vB= .bJ B 0 bs.length∧h B=some ⟨1,bs.map (V.int .i64),false⟩∧(B≠b∧B≠C∧B≠L∧B≠T∧B<k)∧(∀j,j<4→ids j≠B)∧ ∀i,i<4→aM i≠B
structure de (h:aG) (k b:Nat) (vB:V) (C L T:Nat) (ids aM:Nat→Nat) (m:aJ):Prop where
 mem:jr h k b C L ids vB (.int .u16 m.layout.key) (.bJ T 0 m.threads.length) m.memory
 aE:Rq h k b C L T ids aM vB m.layout.aE
 ph:h T=some ⟨8,bo aM m.threads,true⟩
 KV: ∀i (g:i<m.threads.length),h (aM i)=some ⟨2,(m.threads[i]).aO.map Cell.enc,false⟩
 len:m.threads.length=4
 sm:T≠b∧T≠C∧T≠L∧T<k
 Gd: ∀j,j<4→ids j≠T
 sn: ∀i,i<4→aM i≠b∧aM i≠C∧aM i≠L∧aM i≠T∧aM i<k
 Hk: ∀i j,i<4→j<4→ids j≠aM i
 OE: ∀i j,i<4→j<4→i≠j→aM i≠aM j
section
variable {h h':aG} {k k' b C L T:Nat} {vB:V} {ids iC aM:Nat→Nat} {m:aJ}
theorem de.mono(H:de h k b vB C L T ids aM m)(hk:k≤k')(hh: ∀i,i<k→h' i=h i):de h' k' b vB C L T ids aM m:=by
 obtain⟨h1,h2,h3,h4,h0,h6,h7,h8,h9,qF⟩:=H;refine⟨h1.mono hk hh,?_,by rw[hh _ h6.2.2.2,h3],fun i g=>by rw[hh _ (h8 i (by omega)).2.2.2.2,h4 i g],h0,⟨h6.1,h6.2.1,h6.2.2.1,by omega⟩,h7,
  fun i hi=>by obtain⟨a1,a3,a4,a5,a6⟩:=h8 i hi;exact⟨a1,a3,a4,a5,by omega⟩,h9,qF⟩
 rcases h2 with e|⟨B,e,g1,g2,g3,g4⟩
 ·exact .inl e
 ·exact .inr ⟨B,e,by rw[hh _ g2.2.2.2.2,g1],by omega,g3,g4⟩
theorem de.put (H:de h k b vB C L T ids aM m) (hk:k≤k') {t:Nat} (ht:t<4) {x:Thread} (hT:h' T=some ⟨8,bo aM (m.threads.set t x),true⟩) (hR:h' (aM t)=some ⟨2,x.aO.map Cell.enc,false⟩)
  (hh: ∀i,i<k→i≠T→i≠aM t→h' i=h i):de h' k' b vB C L T ids aM (eO m m.memory t x):=by
 obtain⟨h1,h2,h3,h4,h0,h6,h7,h8,h9,qF⟩:=H;obtain⟨r1,r3,r4,r5,r6⟩:=h8 t ht;have jw:=h1.lt;refine⟨?_,?_,hT,fun i g=> ?_,by simp[eO,h0],⟨h6.1,h6.2.1,h6.2.2.1,by omega⟩,h7,fun i hi=>by obtain⟨a1,a3,a4,a5,a6⟩:=h8 i hi;exact⟨a1,a3,a4,a5,by omega⟩,h9,qF⟩
 ·have e:(eO m m.memory t x).threads.length=m.threads.length:=by simp[eO]
  rw[e];exact h1.bZ hk (hh _ jw.1 (Ne.symm h6.1) (Ne.symm r1)) (hh _ jw.2.1 (Ne.symm h6.2.1) (Ne.symm r3)) (hh _ jw.2.2.1 (Ne.symm h6.2.2.1) (Ne.symm r4)) fun j hj=>hh _ (jw.2.2.2 j hj) (h7 j hj) (h9 t j ht hj)
 ·rcases h2 with e|⟨B,e,g1,g2,g3,g4⟩
  ·exact .inl e
  ·exact .inr ⟨B,e,by rw[hh _ g2.2.2.2.2 g2.2.2.2.1 (Ne.symm (g4 t ht)),g1];rfl,by omega,g3,g4⟩
 ·simp only[eO,List.length_set]at g;simp only[eO,List.getElem_set];split
  ·rename_i e;subst e;exact hR
  ·rename_i e;rw[hh _ (h8 i (by omega)).2.2.2.2 (h8 i (by omega)).2.2.2.1 (qF i t (by omega) ht (fun h=>e h.symm)),h4 i g]
theorem de.memory (H:de h k b vB C L T ids aM m) (hk:k≤k') {mem:aF} (hM:jr h' k' b C L iC vB (.int .u16 m.layout.key) (.bJ T 0 m.threads.length) mem)
  (hi: ∀j,j<4→iC j=ids j∨k≤iC j) (hh: ∀i,i<k→i≠C→i≠L→(∀j,j<4→i≠ids j)→h' i=h i):de h' k' b vB C L T iC aM ⟨m.layout,mem,m.threads⟩:=by
 obtain⟨h1,h2,h3,h4,h0,h6,h7,h8,h9,qF⟩:=H;refine⟨hM,?_,?_,fun i g=> ?_,h0,⟨h6.1,h6.2.1,h6.2.2.1,by omega⟩,fun j hj=> ?_,fun i hi=>by obtain⟨a1,a3,a4,a5,a6⟩:=h8 i hi;exact⟨a1,a3,a4,a5,by omega⟩,fun i j nh hj=> ?_,qF⟩
 ·rcases h2 with e|⟨B,e,g1,g2,g3,g4⟩
  ·exact .inl e
  ·refine .inr ⟨B,e,by rw[hh _ g2.2.2.2.2 g2.2.1 g2.2.2.1 fun j hj=>Ne.symm (g3 j hj),g1],by omega,fun j hj=> ?_,g4⟩;rcases hi j hj with e|e
   ·rw[e];exact g3 j hj
   ·have:=g2.2.2.2.2;omega
 ·rw[hh _ h6.2.2.2 h6.2.1 h6.2.2.1 fun j hj=>Ne.symm (h7 j hj),h3]
 ·obtain⟨a1,a3,a4,a5,a6⟩:=h8 i (by simp only at g;omega);rw[hh _ a6 a3 a4 fun j hj=>Ne.symm (h9 i j (by simp only at g;omega) hj),h4 i g]
 ·rcases hi j hj with e|e
  ·rw[e];exact h7 j hj
  ·have:=h6.2.2.2;omega
 ·rcases hi j hj with e|e
  ·rw[e];exact h9 i j nh hj
  ·have:=(h8 i nh).2.2.2.2;omega
structure dn (h:aG) (k:Nat) (vB:V) (C L T:Nat) (ids aM:Nat→Nat) (m:aJ):Prop where
 mp:qh m.memory
 mem:TD h C L ids m.memory
 sep:Ol C L ids
 lt:C<k∧L<k∧ ∀i,i<4→ids i<k
 aE:vB= .sl false (m.layout.aE.map (V.int .i64))∨ ∃B,vB= .bJ B 0 m.layout.aE.length∧h B=some ⟨1,m.layout.aE.map (V.int .i64),false⟩∧(B≠C∧B≠L∧B≠T∧B<k)∧(∀j,j<4→ids j≠B)∧ ∀i,i<4→aM i≠B
 ph:h T=some ⟨8,bo aM m.threads,true⟩
 KV: ∀i (g:i<m.threads.length),h (aM i)=some ⟨2,(m.threads[i]).aO.map Cell.enc,false⟩
 len:m.threads.length=4
 sm:T≠C∧T≠L∧T<k
 Gd: ∀j,j<4→ids j≠T
 sn: ∀i,i<4→aM i≠C∧aM i≠L∧aM i≠T∧aM i<k
 Hk: ∀i j,i<4→j<4→ids j≠aM i
 OE: ∀i j,i<4→j<4→i≠j→aM i≠aM j
def gD(vB:V)(C L T:Nat)(m:aJ):V:= .agg [vB,.int .u16 m.layout.key,.bJ C 0 512,.bJ L 0 4,.bJ T 0 m.threads.length]
theorem iv(vB:V)(C L T:Nat)(m:aJ):(gD vB C L T m).cells=[vB,.int .u16 m.layout.key,.bJ C 0 512,.bJ L 0 4,.bJ T 0 m.threads.length]:=rfl
theorem jm(vB:V)(C L T:Nat)(m:aJ):(gD vB C L T m).fits 5=true:=rfl
def mF(k:Nat)(vB:V)(C L T:Nat)(ids aM:Nat→Nat):Prop:=(k≤C∧k≤L∧k≤T)∧(∀j,j<4→k≤ids j∧k≤aM j)∧ ∀B s n,vB= .bJ B s n→k≤B
theorem dn.mono(H:dn h k vB C L T ids aM m){a:Nat}(hA:mF a vB C L T ids aM)(hk:k≤k')(hh: ∀i,a≤i→i<k→h' i=h i):dn h' k' vB C L T ids aM m:=by
 obtain⟨h0,h1,h2,h3,h4,h5,h6,h7,h9,qF,zI,zi,NK⟩:=H;obtain⟨⟨aC,aL,aT⟩,aI,aB⟩:=hA;refine⟨h0,⟨by rw[hh _ aC h3.1,h1.cells],by rw[hh _ aL h3.2.1,h1.lines],fun i g=> ?_⟩,h2,⟨by omega,by omega,fun i hi=>by have:=h3.2.2 i hi;omega⟩,?_,by rw[hh _ aT h9.2.2,h5],fun i g=> ?_,h7,by omega,qF,fun i hi=>by have:=zI i hi;omega,zi,NK⟩
 ·have hi:i<4:=by have:=h0.lines;omega
  rw[hh _ (aI i hi).1 (h3.2.2 i hi),h1.line i g]
 ·rcases h4 with e|⟨B,e,g1,g2,g3,g4⟩
  ·exact .inl e
  ·exact .inr ⟨B,e,by rw[hh _ (aB _ _ _ e) g2.2.2.2,g1],by omega,g3,g4⟩
 ·rw[hh _ (aI i (by omega)).2 (zI i (by omega)).2.2.2,h6 i g]
theorem dn.box(H:dn h k vB C L T ids aM m)(hb:b<k→(∀B s n,vB= .bJ B s n→b≠B)∧b≠C∧b≠L∧b≠T∧ ∀j,j<4→b≠ids j∧b≠aM j)(hk:b<k')(tT:k≤k')(hB:h' b=some ⟨5,[gD vB C L T m],true⟩)(hh: ∀i,i<k→i≠b→h' i=h i):de h' k' b vB C L T ids aM m:=by
 obtain⟨h0,h1,h2,h3,h4,h5,h6,h7,h9,qF,zI,zi,NK⟩:=H;have nC:C≠b:=fun e=>by have:=hb (by omega);exact this.2.1 e.symm
 have nL:L≠b:=fun e=>by have:=hb (by omega);exact this.2.2.1 e.symm
 have nT:T≠b:=fun e=>by have:=hb (by omega);exact this.2.2.2.1 e.symm
 have nI: ∀j,j<4→ids j≠b:=fun j hj e=>by have:=hb (by have:=h3.2.2 j hj;omega);exact(this.2.2.2.2 j hj).1 e.symm
 have nR: ∀j,j<4→aM j≠b:=fun j hj e=>by have:=hb (by have:=zI j hj;omega);exact(this.2.2.2.2 j hj).2 e.symm
 refine⟨⟨hB,⟨by rw[hh _ h3.1 nC,h1.cells],by rw[hh _ h3.2.1 nL,h1.lines],fun i g=> ?_⟩,h2,⟨Ne.symm nL,Ne.symm nC⟩,nI,⟨hk,by omega,by omega,fun i hi=>by have:=h3.2.2 i hi;omega⟩,h0⟩,?_,?_,fun i g=> ?_,h7,⟨nT,h9.1,h9.2.1,by omega⟩,qF,fun i hi=> ?_,zi,NK⟩
 ·have hi:i<4:=by have:=h0.lines;omega
  rw[hh _ (h3.2.2 i hi) (nI i hi),h1.line i g]
 ·rcases h4 with e|⟨B,e,g1,g2,g3,g4⟩
  ·exact .inl e
  ·have nB:B≠b:=fun e2=>by have:=hb (by omega);exact this.1 _ _ _ e e2.symm
   exact .inr ⟨B,e,by rw[hh _ g2.2.2.2 nB,g1],⟨nB,g2.1,g2.2.1,g2.2.2.1,by omega⟩,g3,g4⟩
 ·rw[hh _ h9.2.2 nT,h5]
 ·rw[hh _ (zI i (by omega)).2.2.2 (nR i (by omega)),h6 i g]
 ·obtain⟨a2,a3,a4,a5⟩:=zI i hi;exact⟨nR i hi,a2,a3,a4,by omega⟩
theorem de.at(H:de h k b vB C L T ids aM m):dn h k vB C L T ids aM m:=by
 obtain⟨h1,h2,h3,h4,h0,h6,h7,h8,h9,qF⟩:=H;refine⟨h1.mem,h1.at_,h1.sep,h1.lt.2,?_,h3,h4,h0,⟨h6.2.1,h6.2.2.1,h6.2.2.2⟩,h7,fun i hi=>(h8 i hi).2,h9,qF⟩;rcases h2 with e|⟨B,e,g1,g2,g3,g4⟩
 ·exact .inl e
 ·exact .inr ⟨B,e,g1,g2.2,g3,g4⟩
theorem de.AR(H:de h k b vB C L T ids aM m):h b=some ⟨5,[gD vB C L T m],true⟩:=H.mem.box
theorem oq{α:Type}{g:V→Option V}{e:α→V}: ∀(l:List α) (f:Nat→α→V) (h: ∀i (hi:i<l.length),g (f i l[i])=some (e l[i])),aY ((l.mapIdx f).map g)=some (l.map e):=by
 intro l;induction l with
 |nil=>intro _ _;rfl
 |cons a l ih=>
  intro f h;have h0:=h 0 (by simp);have:=ih (fun i=>f (i+1)) fun i hi=>h (i+1) (by simpa using hi);simp only[List.getElem_cons_zero]at h0;rw[List.mapIdx_cons,List.map_cons,List.map_cons,h0];rw[aY.eq_3,this]
theorem dn.wS(H:dn h k vB C L T ids aM m){hx:aG}(hx1: ∀i,i<4→hx (aM i)=h (aM i))(d:Nat):aY ((bo aM m.threads).map (aX hx (d+2)))=some (m.threads.map Thread.enc):=by
 refine oq _ _ fun i hi=> ?_;have hl:=H.len;have:=H.KV i hi;rw[←hx1 i (by omega)]at this;simp[dw,aX,aY,this,Thread.aU]
theorem dn.sf(H:dn h k vB C L T ids aM m){hx:aG}(hx1: ∀i,i<4→hx (ids i)=h (ids i))(d:Nat):aY ((dC ids m.memory.lines).map (aX hx (d+2)))=some (m.memory.lines.map bT.enc):=by
 refine oq _ _ fun i hi=> ?_;have hl:=H.mp.lines;have:=H.mem.line i hi;rw[←hx1 i (by omega)]at this;simp[AL,aX,aY,this,bT.aU]
theorem jU(l:List Cell):cG (l.map Cell.enc)=l.map Cell.enc:=nu (fun _=>rfl) l
theorem nv(l:List Int):cG (l.map (V.int .i64))=l.map (V.int .i64):=nu (fun _=>rfl) l
theorem BP(x:Thread):(Thread.enc x).fo=Thread.enc x:=by
 simp[Thread.aU,V.fo,cG,jU]
theorem Ge(x:bT):(bT.enc x).fo=bT.enc x:=by
 simp[bT.aU,V.fo,cG,jU]
theorem ec(l:List Thread):cG (l.map Thread.enc)=l.map Thread.enc:=nu BP l
theorem nw(l:List bT):cG (l.map bT.enc)=l.map bT.enc:=nu Ge l
def mG(m:aJ):List V:=[.sl false (m.layout.aE.map (V.int .i64)),.int .u16 m.layout.key,.sl false (m.memory.cells.map Cell.enc),.sl false (m.memory.lines.map bT.enc),.sl false (m.threads.map Thread.enc)]
theorem yP(m:aJ):cG (mG m)=mG m:=by
 simp[mG,V.fo,cG,jU,nv,ec,nw]
theorem dn.cT(H:dn h k vB C L T ids aM m)(d:Nat):aX h (d+6) (gD vB C L T m)=some (.agg (mG m)):=by
 have e1:=H.wS (hx:=h) (fun _ _=>rfl) (d+2);have e2:=H.sf (hx:=h) (fun _ _=>rfl) (d+2);have hl:=H.mp.lines;have hc:=H.mp.len;have hn:=H.len;have l1:=ey aM m.threads;have l2:=fY ids m.memory.lines;have t1:(bo aM m.threads).take m.threads.length=bo aM m.threads:=aQ (by omega);have t2:(dC ids m.memory.lines).take 4=dC ids m.memory.lines:=aQ (by omega);have t3:(m.memory.cells.map Cell.enc).take 512=m.memory.cells.map Cell.enc:=aQ (by simp;omega);rcases H.aE with e|⟨B,e,g1,g2,g3,g4⟩
 ·simp[gD,mG,aX,aY,e,H.mem.cells,H.mem.lines,H.ph,l1,l2,hl,hc,t1,t2,t3,e1,e2]
 ·simp[gD,mG,aX,aY,e,g1,H.mem.cells,H.mem.lines,H.ph,l1,l2,hl,hc,t1,t2,t3,e1,e2]
end
theorem bU(ids:Nat→Nat)(i:Nat)(x:Thread)(pc:Int)(aO:List Cell)(s:Int):dw ids i (jT x pc aO s)= .agg [.int .i64 x.state,.bJ (ids i) 0 aO.length,.int .i64 pc,.int .i64 (x.count+1),.int .i64 x.bK,.int .i64 s,.int .i64 x.cz,.int .u16 x.code]:=rfl
theorem j9(ids:Nat→Nat)(i:Nat)(x:Thread):dw ids i (pO x)= .agg [.int .i64 2,.bJ (ids i) 0 x.aO.length,.int .i64 (x.pc+1),.int .i64 x.count,.int .i64 x.bK,.int .i64 x.saved,.int .i64 x.cz,.int .u16 x.code]:=rfl
theorem kc(ids:Nat→Nat)(i:Nat)(x:Thread)(w:Int):dw ids i (fU x w)= .agg [.int .i64 4,.bJ (ids i) 0 x.aO.length,.int .i64 x.pc,.int .i64 x.count,.int .i64 x.bK,.int .i64 x.saved,.int .i64 w,.int .u16 0]:=rfl
theorem dD(x:Thread)(pc:Int)(aO:List Cell):(tO x pc aO).aO=aO:=rfl
theorem cM(x:Thread)(pc:Int)(aO:List Cell)(s:Int):(jT x pc aO s).aO=aO:=rfl
theorem l6(x:Thread):(pO x).aO=x.aO:=rfl
theorem l9(x:Thread)(w:Int):(fU x w).aO=x.aO:=rfl
theorem ky(x:Thread)(a:Nat)(c:Cell):yG x a c=x.aO.set a c:=by simp[yG]
theorem ny{x:Thread}{a:Nat}(h:a<x.aO.length):gV x a=x.aO[a]:=by simp[gV,List.getD,h]
def OF(h:aG)(k T:Nat)(aM:Nat→Nat)(t:Nat)(ts:List Thread)(x':Thread)(s:Int)(v:V)(h':aG)(k':Nat):Prop:=
 v= .int .i64 s∧h' T=some ⟨8,(bo aM ts).set t (dw aM t x'),true⟩∧h' (aM t)=some ⟨2,x'.aO.map Cell.enc,false⟩∧k≤k'∧ ∀i,i<k→i≠T→i≠aM t→h' i=h i
theorem dx(h:aG)(k T:Nat)(aM:Nat→Nat)(t:Nat)(ts:List Thread)(x':Thread)(s:Int)(v:V)(h':aG)(k':Nat):OF h k T aM t ts x' s v h' k'=
 (v= .int .i64 s∧h' T=some ⟨8,(bo aM ts).set t (dw aM t x'),true⟩∧h' (aM t)=some ⟨2,x'.aO.map Cell.enc,false⟩∧k≤k'∧ ∀i,i<k→i≠T→i≠aM t→h' i=h i):=rfl
def o0(r:Option (V×aG×Nat))(p:Prog)(h:aG)(k b:Nat)(vB:V)(C L T:Nat)(ids aM:Nat→Nat)(m:aJ)(t:Nat):Prop:= ∃h' k' iC,r=some (.int .i64 (iM p m t).2,h',k')∧de h' k' b vB C L T iC aM (iM p m t).1∧k≤k'∧(∀j,j<4→iC j=ids j∨k≤iC j)∧
 ∀i,i<k→i≠C→i≠L→(∀j,j<4→i≠ids j)→i≠T→i≠aM t→h' i=h i
theorem o0.of {r:Option (V×aG×Nat)} {p:Prog} {h:aG} {k b C L T:Nat} {vB:V} {ids aM:Nat→Nat} {m:aJ} {t:Nat} (H:de h k b vB C L T ids aM m) (ht:t<4) (x':Thread) (s:Int) (hs:jE p m (bn m t)=(m.memory,x',s))
  (he: ∃v h' n',r=some (v,h',n')∧OF h k T aM t m.threads x' s v h' n'):o0 r p h k b vB C L T ids aM m t:=by
 obtain⟨v,h',n',e,rfl,g2,g3,g4,g5⟩:=he;have nr:t<m.threads.length:=by rw[H.len];exact ht
 have e1:iM p m t=(eO m m.memory t x',s):=by rw[sd,hs]
 rw[iu nr]at g2;unfold o0;rw[e1];exact⟨h',n',ids,e,H.put g4 ht g2 g3 g5,g4,fun _ _=> .inl rfl,fun i hi _ _ _ VW TE=>g5 i hi VW TE⟩
theorem OG{p:Prog}{m:aJ}{x:Thread}{n:Nat}(hn:x.pc=n)(h:n<p.code.length){i:Instr}(hi:p.code[n]=i):jE p m x=gb p m x i:=by
 unfold jE;rw[if_pos (by omega),hn,Int.toNat_natCast];simp[List.getD,h,hi]
theorem J4{p:Prog}{m:aJ}{x:Thread}(h: ¬x.pc<p.code.length):jE p m x=(m.memory,fU x 2,2):=by
 unfold jE;rw[if_neg h]
noncomputable def cH(g:FuncId)(args:List V)(h:aG)(k:Nat):aG:=match bt X g args h k with|some (_,h',_)=>h'|none=>h
noncomputable def cK(g:FuncId)(args:List V)(h:aG)(k:Nat):Nat:=match bt X g args h k with|some (_,_,n)=>n|none=>k
theorem yQ{g:FuncId}{args:List V}{h h':aG}{k k':Nat}{v:V}(e:bt X g args h k=some (v,h',k')):cH g args h k=h'∧cK g args h k=k':=by
 unfold cH cK;rw[e];exact⟨rfl,rfl⟩
def Below(k:Nat)(h h1:aG):Prop:= ∀i,i<k→h1 i=h i
theorem dU(k:Nat)(h:aG):Below k h h=True:=eq_true fun _ _=>rfl
theorem eI(k j:Nat)(h h1:aG)(v:Option Ob):Below k h (aS h1 (k+j) v)=Below k h h1:=by
 apply propext;constructor<;>intro g i hi
 ·have:=g i hi;rwa[aS,if_neg (by omega)]at this
 ·rw[aS,if_neg (by omega)];exact g i hi
theorem dV(k:Nat)(h h1:aG)(v:Option Ob):Below k h (aS h1 k v)=Below k h h1:=eI k 0 h h1 v
def Hl(h:aG)(k T:Nat)(aM:Nat→Nat)(t:Nat)(ts:List Thread)(g:FuncId)(args:List V)(x':Thread)(s:Int)(v:V)(h':aG)(k':Nat):Prop:=
 ∃h1 j,Below k h h1∧OF (cH g args h1 (k+j)) (cK g args h1 (k+j)) T aM t ts x' s v h' k'
def dR(p:Prog)(b T t:Nat):V:= .agg [.sl false (p.code.map Instr.enc),.sl false (p.aq.map (V.int .i64)),.sl false (p.data.map bE),.ptr b 0 0,.ptr T t 0]
structure qt (h:aG) (k cB b C L T:Nat) (ids aM:Nat→Nat) (p:Prog) (t:Nat):Prop where
 box:h cB=some ⟨5,[dR p b T t],true⟩
 lt:cB<k
 ne:cB≠b∧cB≠C∧cB≠L∧cB≠T
 ni: ∀j,j<4→cB≠ids j∧cB≠aM j
def gd(r:Option (V×aG×Nat))(p:Prog)(h:aG)(k b:Nat)(vB:V)(C L T:Nat)(ids aM:Nat→Nat)(m:aJ)(t:Nat)(x:Thread)(i:Instr)(f:Thread→Thread):Prop:=
 ((gb p m x i).2.2= -1∧ ∃h' k' iC,r=some (.int .i64 0,h',k')∧de h' k' b vB C L T iC aM (eO m (gb p m x i).1 t (f (gb p m x i).2.1))∧k≤k'∧(∀j,j<4→iC j=ids j∨k≤iC j)∧
  ∀i,i<k→i≠C→i≠L→(∀j,j<4→i≠ids j)→i≠T→i≠aM t→h' i=h i)∨
 ∃w h' k',gb p m x i=(m.memory,fU x w,2)∧w≠0∧r=some (.int .i64 w,h',k')∧k≤k'∧ ∀i,i<k→h' i=h i
def TL(h:aG)(k:Nat)(w:Int)(v:V)(h':aG)(k':Nat):Prop:=v= .int .i64 w∧k≤k'∧ ∀i,i<k→h' i=h i
theorem dE(h:aG)(k:Nat)(w:Int)(v:V)(h':aG)(k':Nat):TL h k w v h' k'=(v= .int .i64 w∧k≤k'∧ ∀i,i<k→h' i=h i):=rfl
theorem gd.go {r:Option (V×aG×Nat)} {p:Prog} {h:aG} {k b C L T:Nat} {vB:V} {ids aM:Nat→Nat} {m:aJ} {t:Nat} {x:Thread} {i:Instr} {f:Thread→Thread} (H:de h k b vB C L T ids aM m) (ht:t<4) (x':Thread) (hs:gb p m x i=(m.memory,x', -1))
  (he: ∃v h' n',r=some (v,h',n')∧OF h k T aM t m.threads (f x') 0 v h' n'):gd r p h k b vB C L T ids aM m t x i f:=by
 obtain⟨v,h',n',e,rfl,g2,g3,g4,g5⟩:=he;have nr:t<m.threads.length:=by rw[H.len];exact ht
 rw[iu nr]at g2;refine .inl ⟨by rw[hs],h',n',ids,e,?_,g4,fun _ _=> .inl rfl,fun i hi _ _ _ VW TE=>g5 i hi VW TE⟩;rw[hs];exact H.put g4 ht g2 g3 g5
theorem gd.TM {r:Option (V×aG×Nat)} {p:Prog} {h h1:aG} {k k1 b C L T:Nat} {vB:V} {ids ir aM:Nat→Nat} {m:aJ} {t:Nat} {x:Thread} {i:Instr} {f:Thread→Thread} (H:de h k b vB C L T ids aM m) (ht:t<4) {Z1:aF} (H1:de h1 k1 b vB C L T ir aM ⟨m.layout,Z1,m.threads⟩) (hk:k≤k1) (bV: ∀j,j<4→ir j=ids j∨k≤ir j)
  (mJ: ∀i,i<k→i≠C→i≠L→(∀j,j<4→i≠ids j)→h1 i=h i) (x':Thread) (hs:gb p m x i=(Z1,x', -1))
  (he: ∃v h' n',r=some (v,h',n')∧OF h1 k1 T aM t m.threads (f x') 0 v h' n'):gd r p h k b vB C L T ids aM m t x i f:=by
 obtain⟨v,h',n',e,rfl,g2,g3,g4,g5⟩:=he;have nr:t<m.threads.length:=by rw[H.len];exact ht
 rw[iu nr]at g2;refine .inl ⟨by rw[hs],h',n',ir,e,?_,by omega,bV,fun i hi hiC hiL mN VW TE=>by rw[g5 i (by omega) VW TE,mJ i hi hiC hiL mN]⟩;rw[hs];exact H1.put g4 ht g2 g3 g5
theorem gd.cz {r:Option (V×aG×Nat)} {p:Prog} {h:aG} {k b C L T:Nat} {vB:V} {ids aM:Nat→Nat} {m:aJ} {t:Nat} {x:Thread} {i:Instr} {f:Thread→Thread} (w:Int) (hw:w≠0) (hs:gb p m x i=(m.memory,fU x w,2))
  (he: ∃v h' n',r=some (v,h',n')∧TL h k w v h' n'):gd r p h k b vB C L T ids aM m t x i f:=by
 obtain⟨v,h',n',e,rfl,g4,g5⟩:=he;exact .inr ⟨w,h',n',hs,hw,e,g4,g5⟩
def mH(pc:Int)(x:Thread):Thread:=⟨x.state,x.aO,pc,x.count,x.bK,x.saved,x.cz,x.code⟩
theorem bL(ids:Nat→Nat)(i:Nat)(x:Thread)(q pc:Int)(aO:List Cell):dw ids i (mH q (tO x pc aO))= .agg [.int .i64 x.state,.bJ (ids i) 0 aO.length,.int .i64 q,.int .i64 x.count,.int .i64 x.bK,.int .i64 x.saved,.int .i64 x.cz,.int .u16 x.code]:=rfl
theorem cF(x:Thread)(q pc:Int)(aO:List Cell):(mH q (tO x pc aO)).aO=aO:=rfl
@[simp] theorem OW(c:V)(nQ VB VC VD Av:Int)(p:Prog)(h:aG)(k cB b:Nat)(vB:V)(C L T:Nat)(ids aM:Nat→Nat)(mm:aJ)(tn:Nat)(d:Int)(x:Thread)(op:Int)(a b' c:Nat)(cT:Int)(H:de h k b vB C L T ids aM mm)(HG:cp p d mm)(HC:qt h k cB b C L T ids aM p tn)(hd:d≤1099511628776)(ht:tn<4)(Wf:vB= .sl false (mm.layout.aE.map (V.int .i64)))(RJ:bn mm tn=x)(hI:yE p.code.length p.aq.length ⟨op,a,b',c,cT⟩)(gF:op=18∨op=19∨op=20∨op=21∨op=22∨op=24):gd (bt X 264 [.ptr cB 0 0,.agg [.int .i64 op,.int .i64 (a:Int),.int .i64 (b':Int),.int .i64 (c:Int),.int .i64 cT]] h k) p h k b vB C L T ids aM mm tn x ⟨op,a,b',c,cT⟩ id:=by
 have hl:=H.len;have nr:tn<mm.threads.length:=by omega
 have kM:(tn:Int)<4:=by omega
 have v7:=HG.ph tn nr;have hR:=H.KV tn nr;have hg:=iD (ids:=aM) nr;have hT:=H.ph;have lM:=ey aM mm.threads;rw[hl]at lM;have hb:=H.AR;unfold gD at hb;rw[hl,Wf]at hb;have hc:=HC.box;have wB:mm.threads[tn]=x:=by rw[←RJ];exact(lA nr).symm
 rw[wB]at v7 hR;simp only[wB]at hg;obtain⟨s1,s3,s4,s5,s6⟩:=H.sn tn ht;have tq: ¬T=aM tn:=fun e=>s5 e.symm;have tu: ¬b=aM tn:=fun e=>s1 e.symm;obtain⟨u1,u2,u3,u4⟩:=H.sm;have tw: ¬b=T:=fun e=>u1 e.symm;have nm:=HC.lt;obtain⟨e1,e2,e3,e4⟩:=HC.ne;have e5:=(HC.ni tn ht).2;have e6: ¬T=cB:=fun e=>e4 e.symm;have jw:=H.mem.lt.1;have q1: ∀j,¬b=k+j:=fun j=>by omega
 have q2: ∀j,¬T=k+j:=fun j=>by omega
 have q3: ∀j,¬aM tn=k+j:=fun j=>by omega
 have q4: ∀j,¬k+j=b:=fun j=>by omega
 have q5: ∀j,¬k+j=T:=fun j=>by omega
 have q6: ∀j,¬k+j=aM tn:=fun j=>by omega
 have q7: ∀j,¬cB=k+j:=fun j=>by omega
 have q8: ∀j,¬k+j=cB:=fun j=>by omega
 have tz: ¬b=k:=by omega
 have tA: ¬T=k:=by omega
 have tC: ¬aM tn=k:=by omega
 have tD: ¬cB=k:=by omega
 have tE: ¬k=b:=by omega
 have tF: ¬k=T:=by omega
 have tG: ¬k=aM tn:=by omega
 have tH: ¬k=cB:=by omega
 have xh:=v7.pc;obtain⟨n,hn⟩: ∃n:Nat,x.pc=n:=⟨x.pc.toNat,by omega⟩;have h8:=v7.aO;have Wg:p.code.length≤64:=HG.prog.qk;have OX:=v7.count;have tI:IntKind.i64.wrap (x.count+1)=x.count+1:=wrap_i64 (by omega);have qJ:=dY n (by omega);have iW:bo aM mm.threads=(bo aM mm.threads).set tn (.agg [.int .i64 x.state,.bJ (aM tn) 0 8,.int .i64 (n:Int),.int .i64 x.count,.int .i64 x.bK,.int .i64 x.saved,.int .i64 x.cz,.int .u16 x.code]):=by
  have Wh:tn<(bo aM mm.threads).length:=by omega
  have:=hg Wh;rw[h8,hn]at this;rw[←this,List.set_getElem_self]
 obtain⟨o1,ia,ib,ic,im,ij,il,is⟩:=hI;simp only at o1 ia ib ic im ij il is;have wU:(a:Int)<8:=ia.2;have wV:(b':Int)<8:=ib.2;have wW:(c:Int)<8:=ic.2;have a8:a<8:=by omega
 have b8:b'<8:=by omega
 have c8:c<8:=by omega
 have al:a<x.aO.length:=by omega
 have bl:b'<x.aO.length:=by omega
 have cl:c<x.aO.length:=by omega
 have dh:IntKind.u16.wrap cT=cT:=wrap_u16 im;have hL:=HG.lay;have hlen:=hL.len;obtain⟨xa,wg⟩: ∃v,x.aO[a]=v:=⟨_,rfl⟩;obtain⟨xb,wh⟩: ∃v,x.aO[b']=v:=⟨_,rfl⟩;obtain⟨xc,wi⟩: ∃v,x.aO[c]=v:=⟨_,rfl⟩;have ra:gV x a=xa:=by rw[ny al,wg]
 have rb:gV x b'=xb:=by rw[ny bl,wh]
 have rc:gV x c=xc:=by rw[ny cl,wi]
 have ca:fA xa:=by rw[←ra];exact iN v7 _
 have cb:fA xb:=by rw[←rb];exact iN v7 _
 have cc:fA xc:=by rw[←rc];exact iN v7 _
 have jw:=H.mem.lt;obtain⟨pc,ps,pd⟩:=p;simp only at ij il is hc Wg hL hlen;rcases gF with rfl|rfl|rfl|rfl|rfl|rfl
 ·refine gd.go H ht (jT x cT x.aO x.saved) (by simp[gb,hn,ky,ra,rb,rc,tO,jT]) (bh (X:=X) Tryz.func264 rfl rfl ?_);simp(maxSteps:=10000000) (maxDischargeDepth:=30) (implicitDefEqProofs:=false)[Nat.add_assoc,dx,dE,dR,hb,hc,hT,hR,hg,lM,ht,kM,hn,dD,cM,bU,bL,cF,h8,a8,b8,c8,wU,wV,wW,wg,wh,wi,qJ,tI,dh,s1,s5,tq,tu,u1,tw,q1,q2,q3,q4,q5,q6,q7,q8,tz,tA,tC,tD,tE,tF,tG,tH,e1,e2,e3,e4,e5,e6];all_goals ((repeat' apply And.intro)<;>first|omega|rfl|exact iW|(intro i hi e1 e2;have e3:(∀j,¬i=k+j):=(fun j=>(by omega));have e4: ¬i=k:=(by omega);simp[e1,e2,e3,e4])|(intro i hi;have e3:(∀j,¬i=k+j):=(fun j=>(by omega));have e4: ¬i=k:=(by omega);simp[e3,e4]))
 ·by_cases t0:xa.tag=0
  ·by_cases v0:xa.val=0
   ·refine gd.go H ht (jT x cT x.aO x.saved) (by simp[gb,hn,ra,t0,v0]) (bh (X:=X) Tryz.func264 rfl rfl ?_);simp(maxSteps:=10000000) (maxDischargeDepth:=30) (implicitDefEqProofs:=false)[Nat.add_assoc,dx,dE,dR,hb,hc,hT,hR,hg,lM,ht,kM,hn,dD,cM,bU,bL,cF,h8,a8,b8,c8,wU,wV,wW,wg,wh,wi,qJ,tI,dh,s1,s5,tq,tu,u1,tw,q1,q2,q3,q4,q5,q6,q7,q8,tz,tA,tC,tD,tE,tF,tG,tH,e1,e2,e3,e4,e5,e6,t0,v0];all_goals ((repeat' apply And.intro)<;>first|omega|rfl|exact iW|(intro i hi e1 e2;have e3:(∀j,¬i=k+j):=(fun j=>(by omega));have e4: ¬i=k:=(by omega);simp[e1,e2,e3,e4])|(intro i hi;have e3:(∀j,¬i=k+j):=(fun j=>(by omega));have e4: ¬i=k:=(by omega);simp[e3,e4]))
   ·refine gd.go H ht (jT x (n+1) x.aO x.saved) (by simp[gb,hn,ra,t0,v0]) (bh (X:=X) Tryz.func264 rfl rfl ?_);simp(maxSteps:=10000000) (maxDischargeDepth:=30) (implicitDefEqProofs:=false)[Nat.add_assoc,dx,dE,dR,hb,hc,hT,hR,hg,lM,ht,kM,hn,dD,cM,bU,bL,cF,h8,a8,b8,c8,wU,wV,wW,wg,wh,wi,qJ,tI,dh,s1,s5,tq,tu,u1,tw,q1,q2,q3,q4,q5,q6,q7,q8,tz,tA,tC,tD,tE,tF,tG,tH,e1,e2,e3,e4,e5,e6,t0,v0];all_goals ((repeat' apply And.intro)<;>first|omega|rfl|exact iW|(intro i hi e1 e2;have e3:(∀j,¬i=k+j):=(fun j=>(by omega));have e4: ¬i=k:=(by omega);simp[e1,e2,e3,e4])|(intro i hi;have e3:(∀j,¬i=k+j):=(fun j=>(by omega));have e4: ¬i=k:=(by omega);simp[e3,e4]))
  ·refine gd.cz (3) (by decide) (by simp[gb,hn,ra,t0]) (bh (X:=X) Tryz.func264 rfl rfl ?_);simp(maxSteps:=10000000) (maxDischargeDepth:=30) (implicitDefEqProofs:=false)[Nat.add_assoc,dx,dE,dR,hb,hc,hT,hR,hg,lM,ht,kM,hn,dD,cM,bU,bL,cF,h8,a8,b8,c8,wU,wV,wW,wg,wh,wi,qJ,tI,dh,s1,s5,tq,tu,u1,tw,q1,q2,q3,q4,q5,q6,q7,q8,tz,tA,tC,tD,tE,tF,tG,tH,e1,e2,e3,e4,e5,e6,t0];all_goals ((repeat' apply And.intro)<;>first|omega|rfl|exact iW|(intro i hi e1 e2;have e3:(∀j,¬i=k+j):=(fun j=>(by omega));have e4: ¬i=k:=(by omega);simp[e1,e2,e3,e4])|(intro i hi;have e3:(∀j,¬i=k+j):=(fun j=>(by omega));have e4: ¬i=k:=(by omega);simp[e3,e4]))
 ·by_cases t0:xa.tag=0
  ·by_cases v0:xa.val=0
   ·refine gd.go H ht (jT x (n+1) x.aO x.saved) (by simp[gb,hn,ra,t0,v0]) (bh (X:=X) Tryz.func264 rfl rfl ?_);simp(maxSteps:=10000000) (maxDischargeDepth:=30) (implicitDefEqProofs:=false)[Nat.add_assoc,dx,dE,dR,hb,hc,hT,hR,hg,lM,ht,kM,hn,dD,cM,bU,bL,cF,h8,a8,b8,c8,wU,wV,wW,wg,wh,wi,qJ,tI,dh,s1,s5,tq,tu,u1,tw,q1,q2,q3,q4,q5,q6,q7,q8,tz,tA,tC,tD,tE,tF,tG,tH,e1,e2,e3,e4,e5,e6,t0,v0];all_goals ((repeat' apply And.intro)<;>first|omega|rfl|exact iW|(intro i hi e1 e2;have e3:(∀j,¬i=k+j):=(fun j=>(by omega));have e4: ¬i=k:=(by omega);simp[e1,e2,e3,e4])|(intro i hi;have e3:(∀j,¬i=k+j):=(fun j=>(by omega));have e4: ¬i=k:=(by omega);simp[e3,e4]))
   ·refine gd.go H ht (jT x cT x.aO x.saved) (by simp[gb,hn,ra,t0,v0]) (bh (X:=X) Tryz.func264 rfl rfl ?_);simp(maxSteps:=10000000) (maxDischargeDepth:=30) (implicitDefEqProofs:=false)[Nat.add_assoc,dx,dE,dR,hb,hc,hT,hR,hg,lM,ht,kM,hn,dD,cM,bU,bL,cF,h8,a8,b8,c8,wU,wV,wW,wg,wh,wi,qJ,tI,dh,s1,s5,tq,tu,u1,tw,q1,q2,q3,q4,q5,q6,q7,q8,tz,tA,tC,tD,tE,tF,tG,tH,e1,e2,e3,e4,e5,e6,t0,v0];all_goals ((repeat' apply And.intro)<;>first|omega|rfl|exact iW|(intro i hi e1 e2;have e3:(∀j,¬i=k+j):=(fun j=>(by omega));have e4: ¬i=k:=(by omega);simp[e1,e2,e3,e4])|(intro i hi;have e3:(∀j,¬i=k+j):=(fun j=>(by omega));have e4: ¬i=k:=(by omega);simp[e3,e4]))
  ·refine gd.cz (3) (by decide) (by simp[gb,hn,ra,t0]) (bh (X:=X) Tryz.func264 rfl rfl ?_);simp(maxSteps:=10000000) (maxDischargeDepth:=30) (implicitDefEqProofs:=false)[Nat.add_assoc,dx,dE,dR,hb,hc,hT,hR,hg,lM,ht,kM,hn,dD,cM,bU,bL,cF,h8,a8,b8,c8,wU,wV,wW,wg,wh,wi,qJ,tI,dh,s1,s5,tq,tu,u1,tw,q1,q2,q3,q4,q5,q6,q7,q8,tz,tA,tC,tD,tE,tF,tG,tH,e1,e2,e3,e4,e5,e6,t0];all_goals ((repeat' apply And.intro)<;>first|omega|rfl|exact iW|(intro i hi e1 e2;have e3:(∀j,¬i=k+j):=(fun j=>(by omega));have e4: ¬i=k:=(by omega);simp[e1,e2,e3,e4])|(intro i hi;have e3:(∀j,¬i=k+j):=(fun j=>(by omega));have e4: ¬i=k:=(by omega);simp[e3,e4]))
 ·have agy:IntKind.u16.wrap ((n:Int)+1)=(n:Int)+1:=wrap_u16 (by omega);refine gd.go H ht (jT x cT (x.aO.set a ⟨0,n+1⟩) x.saved) (by simp[gb,hn,ky]) (bh (X:=X) Tryz.func264 rfl rfl ?_);simp(maxSteps:=10000000) (maxDischargeDepth:=30) (implicitDefEqProofs:=false)[Nat.add_assoc,dx,dE,dR,hb,hc,hT,hR,hg,lM,ht,kM,hn,dD,cM,bU,bL,cF,h8,a8,b8,c8,wU,wV,wW,wg,wh,wi,qJ,tI,dh,s1,s5,tq,tu,u1,tw,q1,q2,q3,q4,q5,q6,q7,q8,tz,tA,tC,tD,tE,tF,tG,tH,e1,e2,e3,e4,e5,e6,Cell.aU,agy];all_goals ((repeat' apply And.intro)<;>first|omega|rfl|exact iW|(intro i hi e1 e2;have e3:(∀j,¬i=k+j):=(fun j=>(by omega));have e4: ¬i=k:=(by omega);simp[e1,e2,e3,e4])|(intro i hi;have e3:(∀j,¬i=k+j):=(fun j=>(by omega));have e4: ¬i=k:=(by omega);simp[e3,e4]))
 ·by_cases t0:xa.tag=0
  ·by_cases v0:255<xa.val
   ·refine gd.cz (2) (by decide) (by simp[gb,hn,ra,t0,v0]) (bh (X:=X) Tryz.func264 rfl rfl ?_);simp(maxSteps:=10000000) (maxDischargeDepth:=30) (implicitDefEqProofs:=false)[Nat.add_assoc,dx,dE,dR,hb,hc,hT,hR,hg,lM,ht,kM,hn,dD,cM,bU,bL,cF,h8,a8,b8,c8,wU,wV,wW,wg,wh,wi,qJ,tI,dh,s1,s5,tq,tu,u1,tw,q1,q2,q3,q4,q5,q6,q7,q8,tz,tA,tC,tD,tE,tF,tG,tH,e1,e2,e3,e4,e5,e6,t0,v0];all_goals ((repeat' apply And.intro)<;>first|omega|rfl|exact iW|(intro i hi e1 e2;have e3:(∀j,¬i=k+j):=(fun j=>(by omega));have e4: ¬i=k:=(by omega);simp[e1,e2,e3,e4])|(intro i hi;have e3:(∀j,¬i=k+j):=(fun j=>(by omega));have e4: ¬i=k:=(by omega);simp[e3,e4]))
   ·have hwv:IntKind.i64.wrap xa.val=xa.val:=wrap_i64 (by have:=ca.2;omega);refine gd.go H ht (jT x xa.val x.aO x.saved) (by simp[gb,hn,ra,t0,v0]) (bh (X:=X) Tryz.func264 rfl rfl ?_);simp(maxSteps:=10000000) (maxDischargeDepth:=30) (implicitDefEqProofs:=false)[Nat.add_assoc,dx,dE,dR,hb,hc,hT,hR,hg,lM,ht,kM,hn,dD,cM,bU,bL,cF,h8,a8,b8,c8,wU,wV,wW,wg,wh,wi,qJ,tI,dh,s1,s5,tq,tu,u1,tw,q1,q2,q3,q4,q5,q6,q7,q8,tz,tA,tC,tD,tE,tF,tG,tH,e1,e2,e3,e4,e5,e6,t0,v0,hwv];all_goals ((repeat' apply And.intro)<;>first|omega|rfl|exact iW|(intro i hi e1 e2;have e3:(∀j,¬i=k+j):=(fun j=>(by omega));have e4: ¬i=k:=(by omega);simp[e1,e2,e3,e4])|(intro i hi;have e3:(∀j,¬i=k+j):=(fun j=>(by omega));have e4: ¬i=k:=(by omega);simp[e3,e4]))
  ·refine gd.cz (3) (by decide) (by simp[gb,hn,ra,t0]) (bh (X:=X) Tryz.func264 rfl rfl ?_);simp(maxSteps:=10000000) (maxDischargeDepth:=30) (implicitDefEqProofs:=false)[Nat.add_assoc,dx,dE,dR,hb,hc,hT,hR,hg,lM,ht,kM,hn,dD,cM,bU,bL,cF,h8,a8,b8,c8,wU,wV,wW,wg,wh,wi,qJ,tI,dh,s1,s5,tq,tu,u1,tw,q1,q2,q3,q4,q5,q6,q7,q8,tz,tA,tC,tD,tE,tF,tG,tH,e1,e2,e3,e4,e5,e6,t0];all_goals ((repeat' apply And.intro)<;>first|omega|rfl|exact iW|(intro i hi e1 e2;have e3:(∀j,¬i=k+j):=(fun j=>(by omega));have e4: ¬i=k:=(by omega);simp[e1,e2,e3,e4])|(intro i hi;have e3:(∀j,¬i=k+j):=(fun j=>(by omega));have e4: ¬i=k:=(by omega);simp[e3,e4]))
 ·by_cases hsv:x.saved= -1
  ·refine gd.cz (1) (by decide) (by simp[gb,hsv]) (bh (X:=X) Tryz.func264 rfl rfl ?_);simp(maxSteps:=10000000) (maxDischargeDepth:=30) (implicitDefEqProofs:=false)[Nat.add_assoc,dx,dE,dR,hb,hc,hT,hR,hg,lM,ht,kM,hn,dD,cM,bU,bL,cF,h8,a8,b8,c8,wU,wV,wW,wg,wh,wi,qJ,tI,dh,s1,s5,tq,tu,u1,tw,q1,q2,q3,q4,q5,q6,q7,q8,tz,tA,tC,tD,tE,tF,tG,tH,e1,e2,e3,e4,e5,e6,hsv];all_goals ((repeat' apply And.intro)<;>first|omega|rfl|exact iW|(intro i hi e1 e2;have e3:(∀j,¬i=k+j):=(fun j=>(by omega));have e4: ¬i=k:=(by omega);simp[e1,e2,e3,e4])|(intro i hi;have e3:(∀j,¬i=k+j):=(fun j=>(by omega));have e4: ¬i=k:=(by omega);simp[e3,e4]))
  ·refine gd.go H ht (jT x x.saved x.aO (-1)) (by simp[gb,hsv]) (bh (X:=X) Tryz.func264 rfl rfl ?_);simp(maxSteps:=10000000) (maxDischargeDepth:=30) (implicitDefEqProofs:=false)[Nat.add_assoc,dx,dE,dR,hb,hc,hT,hR,hg,lM,ht,kM,hn,dD,cM,bU,bL,cF,h8,a8,b8,c8,wU,wV,wW,wg,wh,wi,qJ,tI,dh,s1,s5,tq,tu,u1,tw,q1,q2,q3,q4,q5,q6,q7,q8,tz,tA,tC,tD,tE,tF,tG,tH,e1,e2,e3,e4,e5,e6,hsv];all_goals ((repeat' apply And.intro)<;>first|omega|rfl|exact iW|(intro i hi e1 e2;have e3:(∀j,¬i=k+j):=(fun j=>(by omega));have e4: ¬i=k:=(by omega);simp[e1,e2,e3,e4])|(intro i hi;have e3:(∀j,¬i=k+j):=(fun j=>(by omega));have e4: ¬i=k:=(by omega);simp[e3,e4]))
theorem Ki{h h1:aG}{k T:Nat}{aM:Nat→Nat}{t:Nat}{ts:List Thread}{g:FuncId}{args:List V}{x':Thread}{s:Int}{j n:Nat}{E R:List V}(hB:Below k h h1)(hs:aM t≠T)(hT:cH g args h1 (k+j) T=some ⟨8,E,true⟩)(hE:E=(bo aM ts).set t (dw aM t x'))(hR:R=x'.aO.map Cell.enc):
  Hl h k T aM t ts g args x' s (.int .i64 s) (aS (cH g args h1 (k+j)) (aM t) (some ⟨2,R,false⟩)) (cK g args h1 (k+j)+n):=
 ⟨h1,j,hB,rfl,by rw[aS,if_neg (fun e=>hs e.symm),hT,hE],by rw[hR];simp[aS],by omega,fun i _ h1 h2=>by simp[aS,h2]⟩
theorem Kj{h h1:aG}{k T:Nat}{aM:Nat→Nat}{t:Nat}{ts:List Thread}{g:FuncId}{args:List V}{x':Thread}{s:Int}{j n:Nat}{E:List V}(hB:Below k h h1)(hT:cH g args h1 (k+j) T=some ⟨8,E,true⟩)(hE:E=(bo aM ts).set t (dw aM t x'))(hR:cH g args h1 (k+j) (aM t)=some ⟨2,x'.aO.map Cell.enc,false⟩):
  Hl h k T aM t ts g args x' s (.int .i64 s) (cH g args h1 (k+j)) (cK g args h1 (k+j)+n):=
 ⟨h1,j,hB,rfl,by rw[hT,hE],hR,by omega,fun i _ _ _=>rfl⟩
@[simp] theorem RK(c:V)(nQ VB VC VD Av:Int)(p:Prog)(h:aG)(k cB b:Nat)(vB:V)(C L T:Nat)(ids aM:Nat→Nat)(mm:aJ)(tn:Nat)(d:Int)(x:Thread)(op:Int)(a b' c:Nat)(cT:Int)(H:de h k b vB C L T ids aM mm)(HG:cp p d mm)(HC:qt h k cB b C L T ids aM p tn)(hd:d≤1099511628776)(ht:tn<4)(Wf:vB= .sl false (mm.layout.aE.map (V.int .i64)))(RJ:bn mm tn=x)(hI:yE p.code.length p.aq.length ⟨op,a,b',c,cT⟩)(gF:0≤op∧op≤17):gd (bt X 265 [.ptr cB 0 0,.agg [.int .i64 op,.int .i64 (a:Int),.int .i64 (b':Int),.int .i64 (c:Int),.int .i64 cT]] h k) p h k b vB C L T ids aM mm tn x ⟨op,a,b',c,cT⟩ (mH x.pc):=by
 have hl:=H.len;have nr:tn<mm.threads.length:=by omega
 have kM:(tn:Int)<4:=by omega
 have v7:=HG.ph tn nr;have hR:=H.KV tn nr;have hg:=iD (ids:=aM) nr;have hT:=H.ph;have lM:=ey aM mm.threads;rw[hl]at lM;have hb:=H.AR;unfold gD at hb;rw[hl,Wf]at hb;have hc:=HC.box;have wB:mm.threads[tn]=x:=by rw[←RJ];exact(lA nr).symm
 rw[wB]at v7 hR;simp only[wB]at hg;obtain⟨s1,s3,s4,s5,s6⟩:=H.sn tn ht;have tq: ¬T=aM tn:=fun e=>s5 e.symm;have tu: ¬b=aM tn:=fun e=>s1 e.symm;obtain⟨u1,u2,u3,u4⟩:=H.sm;have tw: ¬b=T:=fun e=>u1 e.symm;have nm:=HC.lt;obtain⟨e1,e2,e3,e4⟩:=HC.ne;have e5:=(HC.ni tn ht).2;have e6: ¬T=cB:=fun e=>e4 e.symm;have jw:=H.mem.lt.1;have q1: ∀j,¬b=k+j:=fun j=>by omega
 have q2: ∀j,¬T=k+j:=fun j=>by omega
 have q3: ∀j,¬aM tn=k+j:=fun j=>by omega
 have q4: ∀j,¬k+j=b:=fun j=>by omega
 have q5: ∀j,¬k+j=T:=fun j=>by omega
 have q6: ∀j,¬k+j=aM tn:=fun j=>by omega
 have q7: ∀j,¬cB=k+j:=fun j=>by omega
 have q8: ∀j,¬k+j=cB:=fun j=>by omega
 have tz: ¬b=k:=by omega
 have tA: ¬T=k:=by omega
 have tC: ¬aM tn=k:=by omega
 have tD: ¬cB=k:=by omega
 have tE: ¬k=b:=by omega
 have tF: ¬k=T:=by omega
 have tG: ¬k=aM tn:=by omega
 have tH: ¬k=cB:=by omega
 have xh:=v7.pc;obtain⟨n,hn⟩: ∃n:Nat,x.pc=n:=⟨x.pc.toNat,by omega⟩;have h8:=v7.aO;have Wg:p.code.length≤64:=HG.prog.qk;have OX:=v7.count;have tI:IntKind.i64.wrap (x.count+1)=x.count+1:=wrap_i64 (by omega);have qJ:=dY n (by omega);have iW:bo aM mm.threads=(bo aM mm.threads).set tn (.agg [.int .i64 x.state,.bJ (aM tn) 0 8,.int .i64 (n:Int),.int .i64 x.count,.int .i64 x.bK,.int .i64 x.saved,.int .i64 x.cz,.int .u16 x.code]):=by
  have Wh:tn<(bo aM mm.threads).length:=by omega
  have:=hg Wh;rw[h8,hn]at this;rw[←this,List.set_getElem_self]
 obtain⟨o1,ia,ib,ic,im,ij,il,is⟩:=hI;simp only at o1 ia ib ic im ij il is;have wU:(a:Int)<8:=ia.2;have wV:(b':Int)<8:=ib.2;have wW:(c:Int)<8:=ic.2;have a8:a<8:=by omega
 have b8:b'<8:=by omega
 have c8:c<8:=by omega
 have al:a<x.aO.length:=by omega
 have bl:b'<x.aO.length:=by omega
 have cl:c<x.aO.length:=by omega
 have dh:IntKind.u16.wrap cT=cT:=wrap_u16 im;have hL:=HG.lay;have hlen:=hL.len;obtain⟨xa,wg⟩: ∃v,x.aO[a]=v:=⟨_,rfl⟩;obtain⟨xb,wh⟩: ∃v,x.aO[b']=v:=⟨_,rfl⟩;obtain⟨xc,wi⟩: ∃v,x.aO[c]=v:=⟨_,rfl⟩;have ra:gV x a=xa:=by rw[ny al,wg]
 have rb:gV x b'=xb:=by rw[ny bl,wh]
 have rc:gV x c=xc:=by rw[ny cl,wi]
 have ca:fA xa:=by rw[←ra];exact iN v7 _
 have cb:fA xb:=by rw[←rb];exact iN v7 _
 have cc:fA xc:=by rw[←rc];exact iN v7 _
 have jw:=H.mem.lt;obtain⟨pc,ps,pd⟩:=p;simp only at ij il is hc Wg hL hlen;have oc:op=0∨op=1∨op=2∨(3≤op∧op≤14)∨op=15∨op=16∨op=17:=by omega
 rcases oc with rfl|rfl|rfl|ho|rfl|rfl|rfl
 ·refine gd.go H ht (tO x (n+1) x.aO) (by simp[gb,hn,ky,ra,rb,rc,tO,jT]) (bh (X:=X) Tryz.func265 rfl rfl ?_);simp(maxSteps:=10000000) (maxDischargeDepth:=30) (implicitDefEqProofs:=false)[Nat.add_assoc,dx,dE,dR,hb,hc,hT,hR,hg,lM,ht,kM,hn,dD,cM,bU,bL,cF,h8,a8,b8,c8,wU,wV,wW,wg,wh,wi,qJ,tI,dh,s1,s5,tq,tu,u1,tw,q1,q2,q3,q4,q5,q6,q7,q8,tz,tA,tC,tD,tE,tF,tG,tH,e1,e2,e3,e4,e5,e6];all_goals ((repeat' apply And.intro)<;>first|omega|rfl|exact iW|(intro i hi e1 e2;have e3:(∀j,¬i=k+j):=(fun j=>(by omega));have e4: ¬i=k:=(by omega);simp[e1,e2,e3,e4])|(intro i hi;have e3:(∀j,¬i=k+j):=(fun j=>(by omega));have e4: ¬i=k:=(by omega);simp[e3,e4]))
 ·refine gd.go H ht (tO x (n+1) (x.aO.set a ⟨0,cT⟩)) (by simp[gb,hn,ky,ra,rb,rc,tO,jT]) (bh (X:=X) Tryz.func265 rfl rfl ?_);simp(maxSteps:=10000000) (maxDischargeDepth:=30) (implicitDefEqProofs:=false)[Nat.add_assoc,dx,dE,dR,hb,hc,hT,hR,hg,lM,ht,kM,hn,dD,cM,bU,bL,cF,h8,a8,b8,c8,wU,wV,wW,wg,wh,wi,qJ,tI,dh,s1,s5,tq,tu,u1,tw,q1,q2,q3,q4,q5,q6,q7,q8,tz,tA,tC,tD,tE,tF,tG,tH,e1,e2,e3,e4,e5,e6,Cell.aU];all_goals ((repeat' apply And.intro)<;>first|omega|rfl|exact iW|(intro i hi e1 e2;have e3:(∀j,¬i=k+j):=(fun j=>(by omega));have e4: ¬i=k:=(by omega);simp[e1,e2,e3,e4])|(intro i hi;have e3:(∀j,¬i=k+j):=(fun j=>(by omega));have e4: ¬i=k:=(by omega);simp[e3,e4]))
 ·refine gd.go H ht (tO x (n+1) (x.aO.set a xb)) (by simp[gb,hn,ky,ra,rb,rc,tO,jT]) (bh (X:=X) Tryz.func265 rfl rfl ?_);simp(maxSteps:=10000000) (maxDischargeDepth:=30) (implicitDefEqProofs:=false)[Nat.add_assoc,dx,dE,dR,hb,hc,hT,hR,hg,lM,ht,kM,hn,dD,cM,bU,bL,cF,h8,a8,b8,c8,wU,wV,wW,wg,wh,wi,qJ,tI,dh,s1,s5,tq,tu,u1,tw,q1,q2,q3,q4,q5,q6,q7,q8,tz,tA,tC,tD,tE,tF,tG,tH,e1,e2,e3,e4,e5,e6];all_goals ((repeat' apply And.intro)<;>first|omega|rfl|exact iW|(intro i hi e1 e2;have e3:(∀j,¬i=k+j):=(fun j=>(by omega));have e4: ¬i=k:=(by omega);simp[e1,e2,e3,e4])|(intro i hi;have e3:(∀j,¬i=k+j):=(fun j=>(by omega));have e4: ¬i=k:=(by omega);simp[e3,e4]))
 ·obtain⟨⟨dt,dv⟩,w,hdo⟩: ∃r w,tM mm.layout.aE ps op xb xc=(r,w):=⟨_,_,rfl⟩;obtain⟨xbt,xbv⟩:=xb;obtain⟨xct,xcv⟩:=xc;have cb2:=cb.2;have cc2:=cc.2;simp only at cb2 cc2;have m0: ¬op=0:=by omega
  have m1: ¬op=1:=by omega
  have m2: ¬op=2:=by omega
  have m15: ¬op=15:=by omega
  have m16: ¬op=16:=by omega
  have m17: ¬op=17:=by omega
  have m18: ¬op=18:=by omega
  have m19: ¬op=19:=by omega
  have m20: ¬op=20:=by omega
  have m21: ¬op=21:=by omega
  have m22: ¬op=22:=by omega
  have m23: ¬op=23:=by omega
  have m24: ¬op=24:=by omega
  by_cases vt:w=0
  ·refine gd.go H ht (tO x (n+1) (x.aO.set a ⟨dt,dv⟩)) (by simp[gb,hn,ky,ra,rb,rc,hdo,vt,m0,m1,m2,m15,m16,m17,m18,m19,m20,m21,m22,m23,m24]) (bh (X:=X) Tryz.func265 rfl rfl ?_);simp(maxSteps:=10000000) (maxDischargeDepth:=30) (implicitDefEqProofs:=false)[Nat.add_assoc,dx,dE,dR,hb,hc,hT,hR,hg,lM,ht,kM,hn,dD,cM,bU,bL,cF,h8,a8,b8,c8,wU,wV,wW,wg,wh,wi,qJ,tI,dh,s1,s5,tq,tu,u1,tw,q1,q2,q3,q4,q5,q6,q7,q8,tz,tA,tC,tD,tE,tF,tG,tH,e1,e2,e3,e4,e5,e6,m0,m1,m2,m15,m16,m17,m18,m19,m20,m21,m22,m23,m24,hL,cb2,cc2,hdo,vt,Cell.aU];all_goals ((repeat' apply And.intro)<;>first|omega|rfl|exact iW|(intro i hi e1 e2;have e3:(∀j,¬i=k+j):=(fun j=>(by omega));have e4: ¬i=k:=(by omega);simp[e1,e2,e3,e4])|(intro i hi;have e3:(∀j,¬i=k+j):=(fun j=>(by omega));have e4: ¬i=k:=(by omega);simp[e3,e4]))
  ·refine gd.cz (w) (by exact vt) (by simp[gb,hn,ky,ra,rb,rc,hdo,vt,m0,m1,m2,m15,m16,m17,m18,m19,m20,m21,m22,m23,m24]) (bh (X:=X) Tryz.func265 rfl rfl ?_);simp(maxSteps:=10000000) (maxDischargeDepth:=30) (implicitDefEqProofs:=false)[Nat.add_assoc,dx,dE,dR,hb,hc,hT,hR,hg,lM,ht,kM,hn,dD,cM,bU,bL,cF,h8,a8,b8,c8,wU,wV,wW,wg,wh,wi,qJ,tI,dh,s1,s5,tq,tu,u1,tw,q1,q2,q3,q4,q5,q6,q7,q8,tz,tA,tC,tD,tE,tF,tG,tH,e1,e2,e3,e4,e5,e6,m0,m1,m2,m15,m16,m17,m18,m19,m20,m21,m22,m23,m24,hL,cb2,cc2,hdo,vt];all_goals ((repeat' apply And.intro)<;>first|omega|rfl|exact iW|(intro i hi e1 e2;have e3:(∀j,¬i=k+j):=(fun j=>(by omega));have e4: ¬i=k:=(by omega);simp[e1,e2,e3,e4])|(intro i hi;have e3:(∀j,¬i=k+j):=(fun j=>(by omega));have e4: ¬i=k:=(by omega);simp[e3,e4]))
 ·obtain⟨PL,rfl⟩:=Int.eq_ofNat_of_zero_le im.1;have i1:=il rfl;have i2:PL<ps.length:=by omega
  have i3:PL<mm.layout.aE.length:=by rw[hlen];exact i2
  have i3i:(PL:Int)<mm.layout.aE.length:=by omega
  have bb:=hL.base PL i3 i2;have zz:=hL.sz.elem PL i2;have hwb:IntKind.u16.wrap mm.layout.aE[PL]=mm.layout.aE[PL]:=wrap_u16 (by omega);have zh:nth mm.layout.aE PL=mm.layout.aE[PL]:=db i3;refine gd.go H ht (tO x (n+1) (x.aO.set a ⟨1,mm.layout.aE[PL]⟩)) (by simp[gb,hn,ky,zh]) (bh (X:=X) Tryz.func265 rfl rfl ?_);simp(maxSteps:=10000000) (maxDischargeDepth:=30) (implicitDefEqProofs:=false)[Nat.add_assoc,dx,dE,dR,hb,hc,hT,hR,hg,lM,ht,kM,hn,dD,cM,bU,bL,cF,h8,a8,b8,c8,wU,wV,wW,wg,wh,wi,qJ,tI,dh,s1,s5,tq,tu,u1,tw,q1,q2,q3,q4,q5,q6,q7,q8,tz,tA,tC,tD,tE,tF,tG,tH,e1,e2,e3,e4,e5,e6,Cell.aU,i3,i3i,hwb];all_goals ((repeat' apply And.intro)<;>first|omega|rfl|exact iW|(intro i hi e1 e2;have e3:(∀j,¬i=k+j):=(fun j=>(by omega));have e4: ¬i=k:=(by omega);simp[e1,e2,e3,e4])|(intro i hi;have e3:(∀j,¬i=k+j):=(fun j=>(by omega));have e4: ¬i=k:=(by omega);simp[e3,e4]))
 ·obtain⟨r,w,OY⟩: ∃r w,fi mm.layout.aE ps xb cT false=(r,w):=⟨_,_,rfl⟩;have c2:=cb.2;have Wi:=pN (aE:=mm.layout.aE) (aq:=ps) hL (p:=xb) (n:=cT) (back:=false);rw[OY]at Wi;simp only at Wi;by_cases vt:w=0
  case neg=>
   obtain⟨xt,xv⟩:=xb;simp only at c2;refine gd.cz w vt (by simp[gb,ra,rb,OY,vt]) (bh (X:=X) Tryz.func265 rfl rfl ?_);simp(maxSteps:=10000000) (maxDischargeDepth:=30) (implicitDefEqProofs:=false)[Nat.add_assoc,dx,dE,dR,hb,hc,hT,hR,hg,lM,ht,kM,hn,dD,cM,bU,bL,cF,h8,a8,b8,c8,wU,wV,wW,wg,wh,wi,qJ,tI,dh,s1,s5,tq,tu,u1,tw,q1,q2,q3,q4,q5,q6,q7,q8,tz,tA,tC,tD,tE,tF,tG,tH,e1,e2,e3,e4,e5,e6,hL,im,c2,OY,vt];all_goals ((repeat' apply And.intro)<;>first|omega|rfl|exact iW|(intro i hi e1 e2;have e3:(∀j,¬i=k+j):=(fun j=>(by omega));have e4: ¬i=k:=(by omega);simp[e1,e2,e3,e4])|(intro i hi;have e3:(∀j,¬i=k+j):=(fun j=>(by omega));have e4: ¬i=k:=(by omega);simp[e3,e4]))
  obtain⟨av,hr,hav⟩:=Wi vt;subst vt;subst hr;have XD:IntKind.i64.wrap (av:Int)=av:=wrap_i64 (by omega);have HM: ∀(h1:aG) (j:Nat),Below k h h1→jr h1 (k+j) b C L ids vB (.int .u16 mm.layout.key) (.bJ T 0 4) mm.memory:=fun h1 j gY=>by have:=(H.mono (k':=k+j) (by omega) gY).mem;rwa[hl]at this
  have lf: ∀(h1:aG) (j:Nat),Below k h h1→bt X 292 [.ptr b 0 2,.int .i64 (av:Int)] h1 (k+j)=some ((.cg [.agg [.int .u8 (na mm.memory av).tag,.int .u16 (na mm.memory av).val],.bool true]),cH 292 [.ptr b 0 2,.int .i64 (av:Int)] h1 (k+j),cK 292 [.ptr b 0 2,.int .i64 (av:Int)] h1 (k+j))∧ ∃ir,de (cH 292 [.ptr b 0 2,.int .i64 (av:Int)] h1 (k+j)) (cK 292 [.ptr b 0 2,.int .i64 (av:Int)] h1 (k+j)) b vB C L T ir aM ⟨mm.layout,cx mm.memory av,mm.threads⟩∧k+j≤cK 292 [.ptr b 0 2,.int .i64 (av:Int)] h1 (k+j)∧(∀j,j<4→ir j=ids j∨k≤ir j)∧ ∀i,i<k+j→i≠C→i≠L→(∀j,j<4→i≠ids j)→cH 292 [.ptr b 0 2,.int .i64 (av:Int)] h1 (k+j) i=h1 i:=fun h1 j gY=>by
   obtain⟨h',k',iC,e,G,g1,g2,g3⟩:=VP .bad 0 h1 (k+j) b C L ids vB (.int .u16 mm.layout.key) (.bJ T 0 4) mm.memory av (HM h1 j gY) hav;have e:bt X 292 [.ptr b 0 2,.int .i64 (av:Int)] h1 (k+j)=some ((.cg [.agg [.int .u8 (na mm.memory av).tag,.int .u16 (na mm.memory av).val],.bool true]),h',k'):=e;obtain⟨e1,e2⟩:=yQ e;rw[e1,e2];have HH:de h1 (k+j) b vB C L T ids aM mm:=H.mono (by omega) gY;exact⟨e,iC,HH.memory g1 (by rw[hl];exact G) g2 g3,g1,fun j hj=>by rcases g2 j hj with e|e;exact .inl e;exact .inr (by omega),g3⟩
  have cl:=fun h1 j gY=>(lf h1 j gY).1;have lT: ∀(h1:aG) (j:Nat),Below k h h1→cH 292 [.ptr b 0 2,.int .i64 (av:Int)] h1 (k+j) T=some ⟨8,bo aM mm.threads,true⟩:=fun h1 j gY=>by obtain⟨_,_,G,_⟩:=lf h1 j gY;exact G.ph
  have lR: ∀(h1:aG) (j:Nat),Below k h h1→cH 292 [.ptr b 0 2,.int .i64 (av:Int)] h1 (k+j) (aM tn)=some ⟨2,x.aO.map Cell.enc,false⟩:=fun h1 j gY=>by obtain⟨_,_,G,_⟩:=lf h1 j gY;rw[G.KV tn nr];simp only[wB]
  have lF: ∀(h1:aG) (j i:Nat),Below k h h1→i<j→cH 292 [.ptr b 0 2,.int .i64 (av:Int)] h1 (k+j) (k+i)=h1 (k+i):=fun h1 j i gY mN=>by
   obtain⟨_,_,_,_,_,g⟩:=lf h1 j gY;exact g (k+i) (by omega) (by omega) (by omega) fun j hj=>by have:=jw.2.2.2 j hj;omega
  have lF0: ∀(h1:aG) (j:Nat),Below k h h1→0<j→cH 292 [.ptr b 0 2,.int .i64 (av:Int)] h1 (k+j) k=h1 k:=fun h1 j gY mN=>lF h1 j 0 gY mN;have Z2:(bo aM mm.threads)=(bo aM mm.threads).set tn (dw aM tn (mH x.pc (tO x (n+1) (x.aO.set a (na mm.memory av))))):=by
   have e0:dw aM tn (mH x.pc (tO x (n+1) (x.aO.set a (na mm.memory av))))= .agg [.int .i64 x.state,.bJ (aM tn) 0 8,.int .i64 (n:Int),.int .i64 x.count,.int .i64 x.bK,.int .i64 x.saved,.int .i64 x.cz,.int .u16 x.code]:=by
    rw[bL,hn];simp only[List.length_set,h8]
   rw[e0];exact iW
  rw[hn]at Z2;obtain⟨v,h',n',e,h1,j,gY,hE⟩:=bh (X:=X) (g:=265) (args:=[.ptr cB 0 0,.agg [.int .i64 16,.int .i64 (a:Int),.int .i64 (b':Int),.int .i64 (c:Int),.int .i64 cT]]) (h:=h) (k:=k) (K:=Hl h k T aM tn mm.threads 292 [.ptr b 0 2,.int .i64 (av:Int)] (mH x.pc (tO x (n+1) (x.aO.set a (na mm.memory av)))) 0) Tryz.func265 rfl rfl (by
    simp(maxSteps:=10000000) (maxDischargeDepth:=30) (implicitDefEqProofs:=false)[Nat.add_assoc,dx,dE,dR,hb,hc,hT,hR,hg,lM,ht,kM,hn,dD,cM,bU,bL,cF,h8,a8,b8,c8,wU,wV,wW,wg,wh,wi,qJ,tI,dh,s1,s5,tq,tu,u1,tw,q1,q2,q3,q4,q5,q6,q7,q8,tz,tA,tC,tD,tE,tF,tG,tH,e1,e2,e3,e4,e5,e6,hL,im,c2,OY,XD,cl,lT,lR,lF,lF0,dU,eI,dV];exact Ki (by simp only[dU,eI,dV]) s5 (lT _ _ (by simp only[dU,eI,dV])) Z2 (by simp[cF,Cell.aU]))
  obtain⟨_,ir,G,g1,gi,g2⟩:=lf h1 j gY;exact gd.TM H ht G (by omega) gi (fun i hi hC KU wH=>by rw[g2 i (by omega) hC KU wH,gY i hi]) (tO x (n+1) (x.aO.set a (na mm.memory av))) (by simp[gb,hn,ky,ra,rb,OY]) ⟨v,h',n',e,hE⟩
 ·obtain⟨r,w,OY⟩: ∃r w,fi mm.layout.aE ps xa cT false=(r,w):=⟨_,_,rfl⟩;have c2:=ca.2;have Wi:=pN (aE:=mm.layout.aE) (aq:=ps) hL (p:=xa) (n:=cT) (back:=false);rw[OY]at Wi;simp only at Wi;by_cases vt:w=0
  case neg=>
   obtain⟨xt,xv⟩:=xa;simp only at c2;refine gd.cz w vt (by simp[gb,ra,rb,OY,vt]) (bh (X:=X) Tryz.func265 rfl rfl ?_);simp(maxSteps:=10000000) (maxDischargeDepth:=30) (implicitDefEqProofs:=false)[Nat.add_assoc,dx,dE,dR,hb,hc,hT,hR,hg,lM,ht,kM,hn,dD,cM,bU,bL,cF,h8,a8,b8,c8,wU,wV,wW,wg,wh,wi,qJ,tI,dh,s1,s5,tq,tu,u1,tw,q1,q2,q3,q4,q5,q6,q7,q8,tz,tA,tC,tD,tE,tF,tG,tH,e1,e2,e3,e4,e5,e6,hL,im,c2,OY,vt];all_goals ((repeat' apply And.intro)<;>first|omega|rfl|exact iW|(intro i hi e1 e2;have e3:(∀j,¬i=k+j):=(fun j=>(by omega));have e4: ¬i=k:=(by omega);simp[e1,e2,e3,e4])|(intro i hi;have e3:(∀j,¬i=k+j):=(fun j=>(by omega));have e4: ¬i=k:=(by omega);simp[e3,e4]))
  obtain⟨av,hr,hav⟩:=Wi vt;subst vt;subst hr;have XD:IntKind.i64.wrap (av:Int)=av:=wrap_i64 (by omega);have HM: ∀(h1:aG) (j:Nat),Below k h h1→jr h1 (k+j) b C L ids vB (.int .u16 mm.layout.key) (.bJ T 0 4) mm.memory:=fun h1 j gY=>by have:=(H.mono (k':=k+j) (by omega) gY).mem;rwa[hl]at this
  have lf: ∀(h1:aG) (j:Nat),Below k h h1→bt X 237 [.ptr b 0 2,.int .i64 (av:Int),.agg [.int .u8 xb.tag,.int .u16 xb.val]] h1 (k+j)=some ((.bool true),cH 237 [.ptr b 0 2,.int .i64 (av:Int),.agg [.int .u8 xb.tag,.int .u16 xb.val]] h1 (k+j),cK 237 [.ptr b 0 2,.int .i64 (av:Int),.agg [.int .u8 xb.tag,.int .u16 xb.val]] h1 (k+j))∧ ∃ir,de (cH 237 [.ptr b 0 2,.int .i64 (av:Int),.agg [.int .u8 xb.tag,.int .u16 xb.val]] h1 (k+j)) (cK 237 [.ptr b 0 2,.int .i64 (av:Int),.agg [.int .u8 xb.tag,.int .u16 xb.val]] h1 (k+j)) b vB C L T ir aM ⟨mm.layout,mT mm.memory av xb,mm.threads⟩∧k+j≤cK 237 [.ptr b 0 2,.int .i64 (av:Int),.agg [.int .u8 xb.tag,.int .u16 xb.val]] h1 (k+j)∧(∀j,j<4→ir j=ids j∨k≤ir j)∧ ∀i,i<k+j→i≠C→i≠L→(∀j,j<4→i≠ids j)→cH 237 [.ptr b 0 2,.int .i64 (av:Int),.agg [.int .u8 xb.tag,.int .u16 xb.val]] h1 (k+j) i=h1 i:=fun h1 j gY=>by
   obtain⟨h',k',iC,e,G,g1,g2,g3⟩:=Rg .bad 0 xb.tag xb.val h1 (k+j) b C L ids vB (.int .u16 mm.layout.key) (.bJ T 0 4) mm.memory av xb (HM h1 j gY) hav cb.lp;have e:bt X 237 [.ptr b 0 2,.int .i64 (av:Int),.agg [.int .u8 xb.tag,.int .u16 xb.val]] h1 (k+j)=some ((.bool true),h',k'):=e;obtain⟨e1,e2⟩:=yQ e;rw[e1,e2];have HH:de h1 (k+j) b vB C L T ids aM mm:=H.mono (by omega) gY;exact⟨e,iC,HH.memory g1 (by rw[hl];exact G) g2 g3,g1,fun j hj=>by rcases g2 j hj with e|e;exact .inl e;exact .inr (by omega),g3⟩
  have cl:=fun h1 j gY=>(lf h1 j gY).1;have lT: ∀(h1:aG) (j:Nat),Below k h h1→cH 237 [.ptr b 0 2,.int .i64 (av:Int),.agg [.int .u8 xb.tag,.int .u16 xb.val]] h1 (k+j) T=some ⟨8,bo aM mm.threads,true⟩:=fun h1 j gY=>by obtain⟨_,_,G,_⟩:=lf h1 j gY;exact G.ph
  have lR: ∀(h1:aG) (j:Nat),Below k h h1→cH 237 [.ptr b 0 2,.int .i64 (av:Int),.agg [.int .u8 xb.tag,.int .u16 xb.val]] h1 (k+j) (aM tn)=some ⟨2,x.aO.map Cell.enc,false⟩:=fun h1 j gY=>by obtain⟨_,_,G,_⟩:=lf h1 j gY;rw[G.KV tn nr];simp only[wB]
  have lF: ∀(h1:aG) (j i:Nat),Below k h h1→i<j→cH 237 [.ptr b 0 2,.int .i64 (av:Int),.agg [.int .u8 xb.tag,.int .u16 xb.val]] h1 (k+j) (k+i)=h1 (k+i):=fun h1 j i gY mN=>by
   obtain⟨_,_,_,_,_,g⟩:=lf h1 j gY;exact g (k+i) (by omega) (by omega) (by omega) fun j hj=>by have:=jw.2.2.2 j hj;omega
  have lF0: ∀(h1:aG) (j:Nat),Below k h h1→0<j→cH 237 [.ptr b 0 2,.int .i64 (av:Int),.agg [.int .u8 xb.tag,.int .u16 xb.val]] h1 (k+j) k=h1 k:=fun h1 j gY mN=>lF h1 j 0 gY mN;have Z2:(bo aM mm.threads)=(bo aM mm.threads).set tn (dw aM tn (mH x.pc (tO x (n+1) x.aO))):=by
   have e0:dw aM tn (mH x.pc (tO x (n+1) x.aO))= .agg [.int .i64 x.state,.bJ (aM tn) 0 8,.int .i64 (n:Int),.int .i64 x.count,.int .i64 x.bK,.int .i64 x.saved,.int .i64 x.cz,.int .u16 x.code]:=by
    rw[bL,hn];simp only[List.length_set,h8]
   rw[e0];exact iW
  rw[hn]at Z2;obtain⟨v,h',n',e,h1,j,gY,hE⟩:=bh (X:=X) (g:=265) (args:=[.ptr cB 0 0,.agg [.int .i64 17,.int .i64 (a:Int),.int .i64 (b':Int),.int .i64 (c:Int),.int .i64 cT]]) (h:=h) (k:=k) (K:=Hl h k T aM tn mm.threads 237 [.ptr b 0 2,.int .i64 (av:Int),.agg [.int .u8 xb.tag,.int .u16 xb.val]] (mH x.pc (tO x (n+1) x.aO)) 0) Tryz.func265 rfl rfl (by
    simp(maxSteps:=10000000) (maxDischargeDepth:=30) (implicitDefEqProofs:=false)[Nat.add_assoc,dx,dE,dR,hb,hc,hT,hR,hg,lM,ht,kM,hn,dD,cM,bU,bL,cF,h8,a8,b8,c8,wU,wV,wW,wg,wh,wi,qJ,tI,dh,s1,s5,tq,tu,u1,tw,q1,q2,q3,q4,q5,q6,q7,q8,tz,tA,tC,tD,tE,tF,tG,tH,e1,e2,e3,e4,e5,e6,hL,im,c2,OY,XD,cl,lT,lR,lF,lF0,dU,eI,dV];exact Kj (by simp only[dU,eI,dV]) (lT _ _ (by simp only[dU,eI,dV])) Z2 (lR _ _ (by simp only[dU,eI,dV])))
  obtain⟨_,ir,G,g1,gi,g2⟩:=lf h1 j gY;exact gd.TM H ht G (by omega) gi (fun i hi hC KU wH=>by rw[g2 i (by omega) hC KU wH,gY i hi]) (tO x (n+1) x.aO) (by simp[gb,hn,ky,ra,rb,OY]) ⟨v,h',n',e,hE⟩
end Go.Proofs.YtdngefmliibcgaaGreat
