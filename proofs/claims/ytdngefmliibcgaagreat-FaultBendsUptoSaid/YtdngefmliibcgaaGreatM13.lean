/- Part of a proof: F11. -/
import Derived.Test.YtdngefmliibcgaaGreatM06
import Derived.Test.YtdngefmliibcgaaGreatM10
import Derived.Test.YtdngefmliibcgaaGreatM12
set_option linter.all false
set_option maxRecDepth 20000
set_option maxHeartbeats 20000000
namespace Go.Proofs.YtdngefmliibcgaaGreat
open Go Go.Abs Go.Abs.fJ
def uB(a b c d i:Nat):Nat:=if i=0 then a else if i=1 then b else if i=2 then c else d
theorem VX(a b c d:Nat)(l0 l1 l2 l3:bT):dC (uB a b c d) [l0,l1,l2,l3]=[.agg [.int .i64 l0.tag,.bool l0.eU,.bJ a 0 l0.cells.length],.agg [.int .i64 l1.tag,.bool l1.eU,.bJ b 0 l1.cells.length],.agg [.int .i64 l2.tag,.bool l2.eU,.bJ c 0 l2.cells.length],.agg [.int .i64 l3.tag,.bool l3.eU,.bJ d 0 l3.cells.length]]:=rfl
theorem OH(a b c d:Nat)(x0 x1 x2 x3:Thread):bo (uB a b c d) [x0,x1,x2,x3]=[dw (uB a b c d) 0 x0,dw (uB a b c d) 1 x1,dw (uB a b c d) 2 x2,dw (uB a b c d) 3 x3]:=rfl
theorem kC{P:Nat→Prop}{a b c d:Nat}(h:P a∧P b∧P c∧P d)(i:Nat)(hi:i<4):P (uB a b c d i):=by
 have:i=0∨i=1∨i=2∨i=3:=by omega
 rcases this with rfl|rfl|rfl|rfl
 ·exact h.1
 ·exact h.2.1
 ·exact h.2.2.1
 ·exact h.2.2.2
theorem Rr{P:Nat→Nat→Prop}{a b c d a' b' c' d':Nat}(h:(P a a'∧P a b'∧P a c'∧P a d')∧(P b a'∧P b b'∧P b c'∧P b d')∧(P c a'∧P c b'∧P c c'∧P c d')∧(P d a'∧P d b'∧P d c'∧P d d'))(i j:Nat)(hi:i<4)(hj:j<4):P (uB a b c d i) (uB a' b' c' d' j):=
 kC (P:=fun x=>P x (uB a' b' c' d' j)) ⟨kC h.1 j hj,kC h.2.1 j hj,kC h.2.2.1 j hj,kC h.2.2.2 j hj⟩ i hi
theorem OI{a b c d:Nat}(h:a≠b∧a≠c∧a≠d∧b≠c∧b≠d∧c≠d)(i j:Nat)(hi:i<4)(hj:j<4)(mN:i≠j):uB a b c d i≠uB a b c d j:=by
 have e1:i=0∨i=1∨i=2∨i=3:=by omega
 have e2:j=0∨j=1∨j=2∨j=3:=by omega
 rcases e1 with rfl|rfl|rfl|rfl<;>rcases e2 with rfl|rfl|rfl|rfl<;>simp only[uB]<;>simp<;>omega
structure agn (m:aF) (v:V) (h:aG) (C L i0 i1 i2 i3:Nat):Prop where
 val:v= .agg [.bJ C 0 512,.bJ L 0 4]
 cells:h C=some ⟨2,m.cells.map Cell.enc,false⟩
 lines:h L=some ⟨3,dC (uB i0 i1 i2 i3) m.lines,true⟩
 line: ∀i (g:i<m.lines.length),h (uB i0 i1 i2 i3 i)=some ⟨2,(m.lines[i]).cells.map Cell.enc,false⟩
theorem lZ.four{m:aF}(h:lZ m):m.cells.length=512∧ ∃l0 l1 l2 l3,m.lines=[l0,l1,l2,l3]∧l0.cells.length≤1000000000∧l1.cells.length≤1000000000∧l2.cells.length≤1000000000∧l3.cells.length≤1000000000:=by
 obtain⟨l0,l1,l2,l3,e⟩:=Zo h.mem.lines;have hx: ∀i (g:i<m.lines.length),(m.lines[i]).cells.length≤1000000000:=fun i g=>by
  have:=h.mem.line i g;by_cases e:(m.lines[i]).tag= -1
  ·rw[(this.none e).2];simp
  ·rw[(this.some e).2.2.2];omega
 rw[e]at hx;have h0:=hx 0 (by simp);have h1:=hx 1 (by simp);have h2:=hx 2 (by simp);have h3:=hx 3 (by simp);exact⟨h.mem.len,l0,l1,l2,l3,e,h0,h1,h2,h3⟩
theorem cp.four{p:Prog}{c:Int}{m:aJ}(h:cp p c m): ∃x0 x1 x2 x3,m.threads=[x0,x1,x2,x3]∧x0.aO.length=8∧x1.aO.length=8∧x2.aO.length=8∧x3.aO.length=8:=by
 obtain⟨x0,x1,x2,x3,e⟩:=Zo h.len;have hx:=h.ph;rw[e]at hx;exact⟨x0,x1,x2,x3,e,(hx 0 (by simp)).aO,(hx 1 (by simp)).aO,(hx 2 (by simp)).aO,(hx 3 (by simp)).aO⟩
@[simp] theorem Rt(fQ:List Cell)(dp:List bT)(k:Nat)(hM:lZ (aF.mk fQ dp)): ∃v h' k',bt X 151 [.agg [.sl false (fQ.map Cell.enc),.sl false (dp.map bT.enc)]] qE k=some (v,h',k')∧k'=k+96∧agn (aF.mk fQ dp) v h' (k+11) (k+12) (k+33) (k+52) (k+71) (k+90):=by
 obtain⟨hc,l0,l1,l2,l3,e,h0,h1,h2,h3⟩:=hM.four;simp only at hc e;subst e;clear hM;obtain⟨v,h',k',e,g⟩:=bh (X:=X) (g:=151) (args:=[.agg [.sl false (fQ.map Cell.enc),.sl false (([l0,l1,l2,l3]:List bT).map bT.enc)]]) (h:=qE) (k:=k) (K:=fun v h k'=>v= .agg [.bJ (k+11) 0 512,.bJ (k+12) 0 4]∧k'=k+96∧h (k+11)=some ⟨2,fQ.map Cell.enc,false⟩∧h (k+12)=some ⟨3,[.agg [.int .i64 l0.tag,.bool l0.eU,.bJ (k+33) 0 l0.cells.length],.agg [.int .i64 l1.tag,.bool l1.eU,.bJ (k+52) 0 l1.cells.length],.agg [.int .i64 l2.tag,.bool l2.eU,.bJ (k+71) 0 l2.cells.length],.agg [.int .i64 l3.tag,.bool l3.eU,.bJ (k+90) 0 l3.cells.length]],true⟩∧h (k+33)=some ⟨2,l0.cells.map Cell.enc,false⟩∧h (k+52)=some ⟨2,l1.cells.map Cell.enc,false⟩∧h (k+71)=some ⟨2,l2.cells.map Cell.enc,false⟩∧h (k+90)=some ⟨2,l3.cells.map Cell.enc,false⟩) Tryz.func151 rfl rfl (by
  simp(maxSteps:=10000000) (maxDischargeDepth:=30) (implicitDefEqProofs:=false)[jv,Nat.add_assoc,hc];all_goals ((repeat' (first|apply And.intro|intro _))<;>first|omega|rfl))
 obtain⟨g1,g2,g3,g4,g5,g6,g7,g8⟩:=g;refine⟨v,h',k',e,g2,g1,g3,by rw[VX];exact g4,fun i hi=> ?_⟩;have:i=0∨i=1∨i=2∨i=3:=by simp at hi;omega
 rcases this with rfl|rfl|rfl|rfl
 ·exact g5
 ·exact g6
 ·exact g7
 ·exact g8
@[simp] theorem Hm(ae:List Int)(an:Int)(ak:List Cell)(ah:List bT)(au:List Thread)(k:Nat)(p:Prog)(c:Int)(HG:cp p c (aJ.mk (Layout.mk ae an) (aF.mk ak ah) au)): ∃v h' k',bt X 73 [.agg [.sl false (ae.map (V.int .i64)),.int .u16 an,.sl false (ak.map Cell.enc),.sl false (ah.map bT.enc),.sl false (au.map Thread.enc)]] qE k=some (v,h',k')∧k'=k+194∧v=gD (.sl false (ae.map (V.int .i64))) (k+22) (k+23) (k+186) (aJ.mk (Layout.mk ae an) (aF.mk ak ah) au)∧dn h' k' (.sl false (ae.map (V.int .i64))) (k+22) (k+23) (k+186) (uB (k+44) (k+63) (k+82) (k+101)) (uB (k+121) (k+141) (k+161) (k+181)) (aJ.mk (Layout.mk ae an) (aF.mk ak ah) au)∧mF k (.sl false (ae.map (V.int .i64))) (k+22) (k+23) (k+186) (uB (k+44) (k+63) (k+82) (k+101)) (uB (k+121) (k+141) (k+161) (k+181)):=by
 have Ru:lZ ⟨ak,ah⟩:=HG.mem;obtain⟨x0,x1,x2,x3,e,r0,r1,r2,r3⟩:=HG.four;simp only at e;subst e;have xD:ae.length≤1000000000:=HG.lens.aE;obtain⟨vm,hm,km,em,ekm,MC⟩:=Rt ak ah (k+11) Ru;have emv:=MC.val;simp only[Nat.add_assoc,Nat.reduceAdd]at em ekm MC emv;subst ekm;subst emv;obtain⟨v,h',k',e,g⟩:=bh (X:=X) (g:=73) (args:=[.agg [.sl false (ae.map (V.int .i64)),.int .u16 an,.sl false (ak.map Cell.enc),.sl false (ah.map bT.enc),.sl false (([x0,x1,x2,x3]:List Thread).map Thread.enc)]]) (h:=qE) (k:=k) (K:=fun v h k'=>v= .agg [.sl false (ae.map (V.int .i64)),.int .u16 an,.bJ (k+22) 0 512,.bJ (k+23) 0 4,.bJ (k+186) 0 4]∧k'=k+194∧h (k+22)=hm (k+22)∧h (k+23)=hm (k+23)∧h (k+44)=hm (k+44)∧h (k+63)=hm (k+63)∧h (k+82)=hm (k+82)∧h (k+101)=hm (k+101)∧h (k+186)=some ⟨8,[.agg [.int .i64 x0.state,.bJ (k+121) 0 x0.aO.length,.int .i64 x0.pc,.int .i64 x0.count,.int .i64 x0.bK,.int .i64 x0.saved,.int .i64 x0.cz,.int .u16 x0.code],.agg [.int .i64 x1.state,.bJ (k+141) 0 x1.aO.length,.int .i64 x1.pc,.int .i64 x1.count,.int .i64 x1.bK,.int .i64 x1.saved,.int .i64 x1.cz,.int .u16 x1.code],.agg [.int .i64 x2.state,.bJ (k+161) 0 x2.aO.length,.int .i64 x2.pc,.int .i64 x2.count,.int .i64 x2.bK,.int .i64 x2.saved,.int .i64 x2.cz,.int .u16 x2.code],.agg [.int .i64 x3.state,.bJ (k+181) 0 x3.aO.length,.int .i64 x3.pc,.int .i64 x3.count,.int .i64 x3.bK,.int .i64 x3.saved,.int .i64 x3.cz,.int .u16 x3.code]],true⟩∧h (k+121)=some ⟨2,x0.aO.map Cell.enc,false⟩∧h (k+141)=some ⟨2,x1.aO.map Cell.enc,false⟩∧h (k+161)=some ⟨2,x2.aO.map Cell.enc,false⟩∧h (k+181)=some ⟨2,x3.aO.map Cell.enc,false⟩) Tryz.func73 rfl rfl (by
  simp(maxSteps:=10000000) (maxDischargeDepth:=30) (implicitDefEqProofs:=false)[jv,Nat.add_assoc,xD,em,r0,r1,r2,r3];all_goals ((repeat' (first|apply And.intro|intro _))<;>first|omega|rfl))
 obtain⟨g1,g2,gC,gL,i0,i1,i2,i3,gT,t0,t1,t2,t3⟩:=g;subst g2;refine⟨v,h',_,e,rfl,by rw[g1];rfl,?_,⟨⟨by omega,by omega,by omega⟩,fun j hj=>⟨kC (P:=fun x=>k≤x) (by omega) j hj,kC (P:=fun x=>k≤x) (by omega) j hj⟩,fun B s n hB=> ?_⟩⟩
 ·refine⟨Ru.mem,⟨by rw[gC];exact MC.cells,by rw[gL];exact MC.lines,fun i hi=> ?_⟩,⟨by omega,fun i hi=>kC (P:=fun x=>x≠k+22) (by omega) i hi,fun i hi=>kC (P:=fun x=>x≠k+23) (by omega) i hi,fun i j hi hj mN=>OI (by omega) i j hi hj mN⟩,
   ⟨by omega,by omega,fun i hi=>kC (P:=fun x=>x<k+194) (by omega) i hi⟩,?_,by rw[OH];simp only[dw];exact gT,fun i hi=> ?_,rfl,⟨by omega,by omega,by omega⟩,fun i hi=>kC (P:=fun x=>x≠k+186) (by omega) i hi,
   fun i hi=>kC (P:=fun x=>x≠k+22∧x≠k+23∧x≠k+186∧x<k+194) (by omega) i hi,fun i j hi hj=>Ne.symm (Rr (P:=fun x y=>x≠y) (by omega) i j hi hj),fun i j hi hj mN=>OI (by omega) i j hi hj mN⟩
  ·have yB:i<4:=by have:=Ru.mem.lines;simp only at this hi;omega
   have tY:=MC.line i hi;have:i=0∨i=1∨i=2∨i=3:=by omega
   rcases this with rfl|rfl|rfl|rfl
   ·rw[←tY];exact i0
   ·rw[←tY];exact i1
   ·rw[←tY];exact i2
   ·rw[←tY];exact i3
  ·exact .inl rfl
  ·have:i=0∨i=1∨i=2∨i=3:=by simp at hi;omega
   rcases this with rfl|rfl|rfl|rfl
   ·exact t0
   ·exact t1
   ·exact t2
   ·exact t3
 ·cases hB
def jt:aJ:=⟨⟨[],0⟩,⟨[],[]⟩,[]⟩
def yR(r:aJ)(s e:Int)(v:V)(h:aG)(k:Nat):Prop:= ∃vB C L T ids aM k0,v= .cg [gD vB C L T r,.int .i64 s,.int .i64 e]∧dn h k0 vB C L T ids aM r
theorem yR.cT{r:aJ}{s e:Int}{v:V}{h:aG}{k:Nat}(H:yR r s e v h k):(aX h depth v).map V.fo=some (.cg [.agg (mG r),.int .i64 s,.int .i64 e]):=by
 obtain⟨vB,C,L,T,ids,aM,k0,rfl,HA⟩:=H;have:=HA.cT 5;simp only[depth];simp[aX,aY,this,V.fo,cG,yP]
theorem yR.ba{g:FuncId}{args:List V}{r:aJ}{s e:Int}(H: ∃v h k,bt X g args qE 0=some (v,h,k)∧yR r s e v h k):ba X g args=some (.cg [.agg (mG r),.int .i64 s,.int .i64 e]):=by
 obtain⟨v,h,k,e1,hr⟩:=H;have e2:kV X (bt X) g args=some (v,h,k):=e1;unfold Go.Abs.ba;rw[e2];exact hr.cT
def ago(a:Nat)(h1 h:aG):Prop:= ∀i,a≤i→h i=h1 i
theorem ZK{h1 H:aG}{a k K b C L T:Nat}{vB:V}{ids aM:Nat→Nat}{m:aJ}(hb:H b=some ⟨5,[gD vB C L T m],true⟩)(hba:b<a)(hbK:b<K)(hK:k≤K)(HA:dn h1 k vB C L T ids aM m)(HB:mF a vB C L T ids aM)(hO:ago a h1 H):de H K b vB C L T ids aM m:=by
 have HA2:dn H K vB C L T ids aM m:=HA.mono HB hK fun i hi _=>hO i hi;obtain⟨⟨a1,a2,a3⟩,aI,aB⟩:=HB;exact HA2.box (fun _=>⟨fun B s n e=>by have:=aB _ _ _ e;omega,by omega,by omega,by omega,fun j hj=>by have:=aI j hj;omega⟩) hbK (Nat.le_refl _) hb fun _ _ _=>rfl
def OJ(p:Prog)(m:aJ)(t n:Int):aJ×Int×Int:=
 if jP p m=true∧(0≤t∧t<4)∧1≤n∧n≤64 then((cY p m t.toNat n).1,(cY p m t.toNat n).2,0) else(jt,0,1)
theorem uC{p:Prog}{t:Nat}{upto:Int}{k:Nat}{m:aJ}(h: ¬(iM p m t).2= -1):fV p t upto (k+1) m=iM p m t:=by rw[fV,if_neg h]
theorem v8{p:Prog}{t:Nat}{upto:Int}{k:Nat}{m:aJ}(h:(iM p m t).2= -1)(hc:(bn (iM p m t).1 t).count=upto):fV p t upto (k+1) m=((iM p m t).1,0):=by
 rw[fV,if_pos h];exact if_pos hc
theorem uD{p:Prog}{t:Nat}{upto:Int}{k:Nat}{m:aJ}(h:(iM p m t).2= -1)(hc: ¬(bn (iM p m t).1 t).count=upto):fV p t upto (k+1) m=fV p t upto k (iM p m t).1:=by
 rw[fV,if_pos h];exact if_neg hc
theorem v9(p:Prog)(m:aJ)(t:Nat):(iM p m t).1.layout=m.layout:=rfl
theorem yR.own{r:aJ}{s e:Int}{v:V}{h:aG}{k:Nat}(H:yR r s e v h k):Eb X h v [(0,4,112)]=some (.cg [.agg (mG r),.int .i64 s,.int .i64 e]):=by
 obtain⟨vB,C,L,T,ids,aM,k0,rfl,HA⟩:=H;have hT:=HA.ph;have hl:=HA.len;have tY:=HA.mp.lines;have KA:=HA.mp.len;have nC: ¬C=T:=fun e=>HA.sm.1 e.symm;have nL: ¬L=T:=fun e=>HA.sm.2.1 e.symm;have u: ∀i,i≠T→aS h T none i=h i:=fun i hi=>by simp[aS,hi]
 have e1:=HA.wS (hx:=aS h T none) (fun i hi=>u _ (HA.sn i hi).2.2.1) 10;have e2:=HA.sf (hx:=aS h T none) (fun i hi=>u _ (HA.Gd i hi)) 9;have l1:=ey aM r.threads;have l2:=fY ids r.memory.lines;rw[hl]at l1;rw[tY]at l2;have t1:(bo aM r.threads).take 4=bo aM r.threads:=aQ (by omega);have t2:(dC ids r.memory.lines).take 4=dC ids r.memory.lines:=aQ (by omega);have t3:(r.memory.cells.map Cell.enc).take 512=r.memory.cells.map Cell.enc:=aQ (by simp;omega);have t4:(r.threads.map Thread.enc).take 4=r.threads.map Thread.enc:=aQ (by simp;omega);unfold gD mG;rcases HA.aE with e|⟨B,e,g1,g2,g3,g4⟩
 ·simp(implicitDefEqProofs:=false)[e,hT,hl,tY,KA,nC,nL,HA.mem.cells,HA.mem.lines,l1,l2,t1,t2,t3,t4,e1,e2,ec,nw,jU,nv]
 ·have nB: ¬B=T:=g2.2.2.1;simp(implicitDefEqProofs:=false)[e,g1,hT,hl,tY,KA,nB,nC,nL,HA.mem.cells,HA.mem.lines,l1,l2,t1,t2,t3,t4,e1,e2,ec,nw,jU,nv]
theorem yR.ye{g:FuncId}{args:List V}{r:aJ}{s e:Int}(H: ∃v h k,bt X g args qE 0=some (v,h,k)∧yR r s e v h k):ye X [(0,4,112)] g args=some (.cg [.agg (mG r),.int .i64 s,.int .i64 e]):=by
 obtain⟨v,h,k,e1,hr⟩:=H;unfold Go.Abs.ye;rw[e1];exact hr.own
theorem qq(hx:aG)(l:List Thread):aY (l.map (aX hx 12∘Thread.enc))=some (l.map Thread.enc):=yn (fun _=>rfl) l
def jy(aE:List Int)(key:Int)(aq:List Int)(aO:List Cell)(i:Nat):List Canon:=(aO.take i).map (canon aE key aq)
theorem J5{aE:List Int}{key:Int}{aq:List Int}{aO:List Cell}{i:Nat}(h:i<aO.length):jy aE key aq aO (i+1)=jy aE key aq aO i++ [canon aE key aq aO[i]]:=by
 unfold jy;rw[gG h,List.map_append];rfl
theorem yS{aE:List Int}{key:Int}{aq:List Int}{aO:List Cell}{i:Nat}(h:i≤aO.length):(jy aE key aq aO i).length=i:=by
 simp[jy];omega
theorem DQ(aE:List Int)(key:Int)(aq:List Int)(aO:List Cell):jy aE key aq aO 0=[]:=by simp[jy]
def ot(aE:List Int)(key:Int)(aq:List Int)(mem:aF)(a i:Nat):List Canon:=(List.range i).map fun j=>canon aE key aq (look mem (a+j))
theorem OK(aE:List Int)(key:Int)(aq:List Int)(mem:aF)(a i:Nat):ot aE key aq mem a (i+1)=ot aE key aq mem a i++ [canon aE key aq (look mem (a+i))]:=by
 unfold ot;rw[List.range_succ,List.map_append];rfl
theorem AS(aE:List Int)(key:Int)(aq:List Int)(mem:aF)(a i:Nat):(ot aE key aq mem a i).length=i:=by simp[ot]
theorem Gf(aE:List Int)(key:Int)(aq:List Int)(mem:aF)(a:Nat):ot aE key aq mem a 0=[]:=rfl
def lB(p:Prog)(x:Thread):Int:=(ji p.code x.pc).cT
def BQ(p:Prog)(m:aJ)(x:Thread):Int:=rF m.layout.aE p.aq p.code.length (lB p x) x.aO
def uE:Request:=⟨0,0,0,0,0,0,[],[]⟩
def DR(p:Prog)(m:aJ)(x:Thread)(t:Int):Request:=
 ⟨t,1,0,x.count,x.pc,lB p x,jy m.layout.aE m.layout.key p.aq x.aO (b9 (lB p x)).length,if pH (lB p x)=1 then ot m.layout.aE m.layout.key p.aq m.memory (x.aO.getD 1 ⟨0,0⟩).val.toNat (x.aO.getD 2 ⟨0,0⟩).val.toNat else []⟩
def kh(p:Prog)(m:aJ)(t:Nat)(s:Int):aJ×Request:=
 if s=1 then(if BQ p m (bn m t)=0 then(m,DR p m (bn m t) t) else(eO m m.memory t (fU (bn m t) (BQ p m (bn m t))),⟨t,2,BQ p m (bn m t),(bn m t).count,(bn m t).pc,0,[],[]⟩))
 else(m,⟨t,s,if s=2 then(bn m t).cz else 0,(bn m t).count,(bn m t).pc,0,[],[]⟩)
def ez(p:Prog)(m:aJ)(t n:Int):aJ×Request×Int:=
 if jP p m=true∧(0≤t∧t<4)∧1≤n∧n≤64 then((kh p (cY p m t.toNat n).1 t.toNat (cY p m t.toNat n).2).1,(kh p (cY p m t.toNat n).1 t.toNat (cY p m t.toNat n).2).2,0) else(jt,uE,1)
theorem cL.look{m:aF}(h:lZ m)(a:Nat):fA (look m a):=by
 unfold Go.Proofs.YtdngefmliibcgaaGreat.look;split
 ·exact(h.line _).getD _
 ·exact h.cells.getD _
theorem J6(aE aq:List Int)(n:Nat)(c:Int)(aO:List Cell):rF aE aq n c aO=0∨rF aE aq n c aO=6:=by
 unfold rF;split
 ·exact .inr rfl
 split
 ·exact .inr rfl
 split
 ·exact .inr rfl
 ·exact .inl rfl
theorem wa{aE aq:List Int}{n:Nat}{c:Int}{aO:List Cell}(h:rF aE aq n c aO=0):nn (b9 c) (jR c aO)=true∧(0<pH c→(jD aE aq (aO.getD 1 ⟨0,0⟩) (aO.getD 2 ⟨0,0⟩).val).2=0∧(aO.getD 2 ⟨0,0⟩).val≤16):=by
 rw[AK]at h;split at h
 ·cases h
 rename_i h1;split at h
 ·cases h
 rename_i h2;refine⟨by simpa using h1,fun hb=> ?_⟩;refine Classical.byContradiction fun hn=>h2 ⟨hb,?_⟩;by_cases e:(jD aE aq (aO.getD 1 ⟨0,0⟩) (aO.getD 2 ⟨0,0⟩).val).2=0
 ·exact .inr (by omega)
 ·exact .inl e
theorem J7{aE aq:List Int}(hL:pE aE aq){x:Cell}{n:Int}(h:(jD aE aq x n).2=0):x.tag=1∧0≤n∧0≤x.val∧x.val+n≤512:=by
 unfold jD at h;split at h
 case isFalse=>cases h
 rename_i h1;split at h
 case isFalse=>cases h
 rename_i h2;split at h
 ·cases h
 rename_i h3;split at h
 ·cases h
 rename_i h4;obtain⟨k,hk,mI,e,b1,b2⟩:=jh h2;have bb:=hL.base k hk mI;have zz:=hL.sz.elem k mI;have zh:nth aq k=aq[k]:=db mI;rw[e]at h4;simp only[Int.toNat_natCast,zh]at h4;refine⟨h1,by omega,by omega,by omega⟩
end Go.Proofs.YtdngefmliibcgaaGreat
