/- Part of a proof: F11. -/
import Derived.Test.YtdngefmliibcgaaGreatM20
set_option linter.all false
set_option maxRecDepth 20000
set_option maxHeartbeats 20000000
namespace Go.Proofs.YtdngefmliibcgaaGreat
open Go Go.Abs Go.Abs.kX Qf
variable  {a b c d a' b' c' d' j k K C L T t:Nat}{m r:aO}{p:Prog}{h1 h H:bh}{ids bu:Nat->Nat}{upto s e:Int}
def qW(a b c d i:Nat):Nat:=if i=0 then a else if i=1 then b else if i=2 then c else d
def adq(a b c d:Nat)(l0 l1 l2 l3:cy):fU (qW a b c d) [l0,l1,l2,l3]=[(KKt l0.tag l0.iW (.cu a 0 l0.cells.length):V),(KKt l1.tag l1.iW (.cu b 0 l1.cells.length):V),(KKt l2.tag l2.iW (.cu c 0 l2.cells.length):V),(KKt l3.tag l3.iW (.cu d 0 l3.cells.length):V)]:=rfl
def NY(a b c d:Nat)(x0 x1 x2 x3:Thread):cG (qW a b c d) [x0,x1,x2,x3]=[dJ (qW a b c d) 0 x0,dJ (qW a b c d) 1 x1,dJ (qW a b c d) 2 x2,dJ (qW a b c d) 3 x3]:=rfl
def kI{P:Nat->Prop}(h:P a/\P b/\P c/\P d)(i:Nat)(hi:i<4):P (qW a b c d i):=by
 have:i=0\/i=1\/i=2\/i=3:=by omega
 rcases this with rfl|rfl|rfl|rfl
 ·exact h.1
 ·exact h.2.1
 ·exact h.2.2.1
 ·exact h.2.2.2
def Ty{P:Nat->Nat->Prop}(h:(P a a'/\P a b'/\P a c'/\P a d')/\(P b a'/\P b b'/\P b c'/\P b d')/\(P c a'/\P c b'/\P c c'/\P c d')/\(P d a'/\P d b'/\P d c'/\P d d'))(i j:Nat)(hi:i<4)(hj:j<4):P (qW a b c d i) (qW a' b' c' d' j):=
 kI (P:=fun x=>P x (qW a' b' c' d' j)) ⟨kI h.1 j hj,kI h.2.1 j hj,kI h.2.2.1 j hj,kI h.2.2.2 j hj⟩ i hi
def K7(h:a≠b/\a≠c/\a≠d/\b≠c/\b≠d/\c≠d)(i j:Nat)(hi:i<4)(hj:j<4)(mz:i≠j):qW a b c d i≠qW a b c d j:=by
 have e1:i=0\/i=1\/i=2\/i=3:=by omega
 have e2:j=0\/j=1\/j=2\/j=3:=by omega
 rcases e1 with rfl|rfl|rfl|rfl<;>rcases e2 with rfl|rfl|rfl|rfl<;>simp only[qW]<;>simp<;>omega
structure az7 (m:aF) (v:V) (h:bh) (C L i0 i1 i2 i3:Nat):Prop where
 val:v= .agg [.cu C 0 512,.cu L 0 4]
 cells:h C=some ⟨2,m.cells.map Cell.e,false⟩
 lines:h L=some ⟨3,fU (qW i0 i1 i2 i3) m.lines,true⟩
 line: ∀i (g:i<m.lines.length),h (qW i0 i1 i2 i3 i)=some ⟨2,(m.lines[i]).cells.map Cell.e,false⟩
def ql.four{m:aF}(h:ql m):m.cells.length=512/\ ∃l0 l1 l2 l3,m.lines=[l0,l1,l2,l3]/\l0.cells.length<=1000000000/\l1.cells.length<=1000000000/\l2.cells.length<=1000000000/\l3.cells.length<=1000000000:=by
 obtain⟨l0,l1,l2,l3,e⟩:=Ii h.mem.lines;have hx: ∀i (g:i<m.lines.length),(m.lines[i]).cells.length<=1000000000:=fun i g=>by
  have:=h.mem.line i g;by_cases e:(m.lines[i]).tag= -1
  ·rw[(this.none e).2];simp
  ·rw[(this.some e).2.2.2];omega
 rw[e]at hx;have h0:=hx 0 (by simp);have h1:=hx 1 (by simp);have h2:=hx 2 (by simp);have h3:=hx 3 (by simp);exact⟨h.mem.len,l0,l1,l2,l3,e,h0,h1,h2,h3⟩
def db.four{c:Int}(h:db p c m): ∃x0 x1 x2 x3,m.threads=[x0,x1,x2,x3]/\x0.bz.length=8/\x1.bz.length=8/\x2.bz.length=8/\x3.bz.length=8:=by
 obtain⟨x0,x1,x2,x3,e⟩:=Ii h.len;have hx:=h.pg;rw[e]at hx;exact⟨x0,x1,x2,x3,e,(hx 0 (by simp)).bz,(hx 1 (by simp)).bz,(hx 2 (by simp)).bz,(hx 3 (by simp)).bz⟩
@[simp]def aku(dz:List Cell)(bU:List cy)(k:Nat)(hM:ql (aF.mk dz bU)): ∃v h' k',cL X 179 [KKp dz bU] pP k=some (v,h',k')/\k'=k+91/\az7 (aF.mk dz bU) v h' (k+4) (k+83) (k+19) (k+38) (k+57) (k+76):=by
 obtain⟨hc,l0,l1,l2,l3,e,h0,h1,h2,h3⟩:=hM.four;simp only at hc e;subst e;clear hM;obtain⟨v,h',k',e,g⟩:=bC (X:=X) (g:=179) (args:=[(KKp dz ([l0,l1,l2,l3]:List cy):V)]) (h:=pP) (k:=k) (K:=fun v h k'=>v= .agg [.cu (k+4) 0 512,.cu (k+83) 0 4]/\k'=k+91/\h (k+4)=some ⟨2,dz.map Cell.e,false⟩/\h (k+83)=some ⟨3,[KKt l0.tag l0.iW (.cu (k+19) 0 l0.cells.length),KKt l1.tag l1.iW (.cu (k+38) 0 l1.cells.length),KKt l2.tag l2.iW (.cu (k+57) 0 l2.cells.length),KKt l3.tag l3.iW (.cu (k+76) 0 l3.cells.length)],true⟩/\h (k+19)=some ⟨2,l0.cells.map Cell.e,false⟩/\h (k+38)=some ⟨2,l1.cells.map Cell.e,false⟩/\h (k+57)=some ⟨2,l2.cells.map Cell.e,false⟩/\h (k+76)=some ⟨2,l3.cells.map Cell.e,false⟩) Tryz.func179 rfl rfl (by
  simp[dO,aaE,hc];all_goals ((repeat' (first|apply And.intro|intro _))<;>first|omega|rfl))
 obtain⟨g1,g2,g3,g4,g5,g6,g7,g8⟩:=g;refine⟨v,h',k',e,g2,g1,g3,by rw[adq];exact g4,fun i hi=> ?_⟩;have:i=0\/i=1\/i=2\/i=3:=by simp at hi;omega
 rcases this with rfl|rfl|rfl|rfl
 ·exact g5
 ·exact g6
 ·exact g7
 ·exact g8
@[simp]def akv(dz:List Cell)(bU:List cy)(k:Nat)(hM:ql (aF.mk dz bU)): ∃v h' k',cL X 151 [KKp dz bU] pP k=some (v,h',k')/\k'=k+96/\az7 (aF.mk dz bU) v h' (k+11) (k+12) (k+33) (k+52) (k+71) (k+90):=by
 obtain⟨hc,l0,l1,l2,l3,e,h0,h1,h2,h3⟩:=hM.four;simp only at hc e;subst e;clear hM;obtain⟨v,h',k',e,g⟩:=bC (X:=X) (g:=151) (args:=[(KKp dz ([l0,l1,l2,l3]:List cy):V)]) (h:=pP) (k:=k) (K:=fun v h k'=>v= .agg [.cu (k+11) 0 512,.cu (k+12) 0 4]/\k'=k+96/\h (k+11)=some ⟨2,dz.map Cell.e,false⟩/\h (k+12)=some ⟨3,[KKt l0.tag l0.iW (.cu (k+33) 0 l0.cells.length),KKt l1.tag l1.iW (.cu (k+52) 0 l1.cells.length),KKt l2.tag l2.iW (.cu (k+71) 0 l2.cells.length),KKt l3.tag l3.iW (.cu (k+90) 0 l3.cells.length)],true⟩/\h (k+33)=some ⟨2,l0.cells.map Cell.e,false⟩/\h (k+52)=some ⟨2,l1.cells.map Cell.e,false⟩/\h (k+71)=some ⟨2,l2.cells.map Cell.e,false⟩/\h (k+90)=some ⟨2,l3.cells.map Cell.e,false⟩) Tryz.func151 rfl rfl (by
  simp[dO,aaE,hc];all_goals ((repeat' (first|apply And.intro|intro _))<;>first|omega|rfl))
 obtain⟨g1,g2,g3,g4,g5,g6,g7,g8⟩:=g;refine⟨v,h',k',e,g2,g1,g3,by rw[adq];exact g4,fun i hi=> ?_⟩;have:i=0\/i=1\/i=2\/i=3:=by simp at hi;omega
 rcases this with rfl|rfl|rfl|rfl
 ·exact g5
 ·exact g6
 ·exact g7
 ·exact g8
@[simp]def EG(aa:List Int)(aq:Int)(ak:List Cell)(ah:List cy)(au:List Thread)(k:Nat)(p:Prog)(c:Int)(HG:db p c (aO.mk (Layout.mk aa aq) (aF.mk ak ah) au)): ∃v h' k',cL X 103 [KKY aa aq ak ah au] pP k=some (v,h',k')/\k'=k+190/\v=jD (.cu (k+5) 0 aa.length) (k+20) (k+99) (k+182) (aO.mk (Layout.mk aa aq) (aF.mk ak ah) au)/\gW h' k' (.cu (k+5) 0 aa.length) (k+20) (k+99) (k+182) (qW (k+35) (k+54) (k+73) (k+92)) (qW (k+118) (k+137) (k+156) (k+175)) (aO.mk (Layout.mk aa aq) (aF.mk ak ah) au)/\oT k (.cu (k+5) 0 aa.length) (k+20) (k+99) (k+182) (qW (k+35) (k+54) (k+73) (k+92)) (qW (k+118) (k+137) (k+156) (k+175)):=by
 have NZ:ql ⟨ak,ah⟩:=HG.mem;obtain⟨x0,x1,x2,x3,e,r0,r1,r2,r3⟩:=HG.four;simp only at e;subst e;have wF:aa.length<=1000000000:=HG.lens.aD;obtain⟨vm,hm,km,em,ekm,MC⟩:=aku ak ah (k+16) NZ;have emv:=MC.val;simp only[aaE,Nat.reduceAdd]at em ekm MC emv;subst ekm;subst emv;obtain⟨v,h',k',e,g⟩:=bC (X:=X) (g:=103) (args:=[(KKY aa aq ak ah ([x0,x1,x2,x3]:List Thread):V)]) (h:=pP) (k:=k) (K:=fun v h k'=>v= (KKD (.cu (k+5) 0 aa.length) aq (.cu (k+20) 0 512) (.cu (k+99) 0 4) (.cu (k+182) 0 4):V)/\k'=k+190/\h (k+5)=some ⟨1,aa.map (V.int .i64),false⟩/\h (k+20)=hm (k+20)/\h (k+99)=hm (k+99)/\h (k+35)=hm (k+35)/\h (k+54)=hm (k+54)/\h (k+73)=hm (k+73)/\h (k+92)=hm (k+92)/\h (k+182)=some ⟨8,[KKd x0.state (.cu (k+118) 0 x0.bz.length) x0.pc x0.count x0.cn x0.saved x0.dn x0.code,KKd x1.state (.cu (k+137) 0 x1.bz.length) x1.pc x1.count x1.cn x1.saved x1.dn x1.code,KKd x2.state (.cu (k+156) 0 x2.bz.length) x2.pc x2.count x2.cn x2.saved x2.dn x2.code,KKd x3.state (.cu (k+175) 0 x3.bz.length) x3.pc x3.count x3.cn x3.saved x3.dn x3.code],true⟩/\h (k+118)=some ⟨2,x0.bz.map Cell.e,false⟩/\h (k+137)=some ⟨2,x1.bz.map Cell.e,false⟩/\h (k+156)=some ⟨2,x2.bz.map Cell.e,false⟩/\h (k+175)=some ⟨2,x3.bz.map Cell.e,false⟩) Tryz.func103 rfl rfl (by
  simp[dO,aaE,em,r0,r1,r2,r3];all_goals ((repeat' (first|apply And.intro|intro _))<;>first|omega|rfl))
 obtain⟨g1,g2,gB,gC,gL,i0,i1,i2,i3,gT,t0,t1,t2,t3⟩:=g;subst g2;refine⟨v,h',_,e,rfl,by rw[g1];rfl,?_,⟨⟨by omega,by omega,by omega⟩,fun j hj=>⟨kI (P:=fun x=>k<=x) (by omega) j hj,kI (P:=fun x=>k<=x) (by omega) j hj⟩,fun B s n hB=> ?_⟩⟩
 ·refine⟨NZ.mem,⟨by rw[gC];exact MC.cells,by rw[gL];exact MC.lines,fun i hi=> ?_⟩,⟨by omega,fun i hi=>kI (P:=fun x=>x≠k+20) (by omega) i hi,fun i hi=>kI (P:=fun x=>x≠k+99) (by omega) i hi,fun i j hi hj mz=>K7 (by omega) i j hi hj mz⟩,
   ⟨by omega,by omega,fun i hi=>kI (P:=fun x=>x<k+190) (by omega) i hi⟩,?_,by rw[NY];simp only[dJ];exact gT,fun i hi=> ?_,rfl,⟨by omega,by omega,by omega⟩,fun i hi=>kI (P:=fun x=>x≠k+182) (by omega) i hi,
   fun i hi=>kI (P:=fun x=>x≠k+20/\x≠k+99/\x≠k+182/\x<k+190) (by omega) i hi,fun i j hi hj=>aaW (Ty (P:=fun x y=>x≠y) (by omega) i j hi hj),fun i j hi hj mz=>K7 (by omega) i j hi hj mz⟩
  ·have xY:i<4:=by have:=NZ.mem.lines;simp only at this hi;omega
   have tw:=MC.line i hi;have:i=0\/i=1\/i=2\/i=3:=by omega
   rcases this with rfl|rfl|rfl|rfl
   ·rw[<-tw];exact i0
   ·rw[<-tw];exact i1
   ·rw[<-tw];exact i2
   ·rw[<-tw];exact i3
  ·exact .inr ⟨k+5,rfl,gB,⟨by omega,by omega,by omega,by omega⟩,fun j hj=>kI (P:=fun x=>x≠k+5) (by omega) j hj,fun j hj=>kI (P:=fun x=>x≠k+5) (by omega) j hj⟩
  ·have:i=0\/i=1\/i=2\/i=3:=by simp at hi;omega
   rcases this with rfl|rfl|rfl|rfl
   ·exact t0
   ·exact t1
   ·exact t2
   ·exact t3
 ·cases hB;omega
@[simp]def Tz(aa:List Int)(aq:Int)(ak:List Cell)(ah:List cy)(au:List Thread)(k:Nat)(p:Prog)(c:Int)(HG:db p c (aO.mk (Layout.mk aa aq) (aF.mk ak ah) au)): ∃v h' k',cL X 73 [KKY aa aq ak ah au] pP k=some (v,h',k')/\k'=k+194/\v=jD (.sl false (aa.map (V.int .i64))) (k+22) (k+23) (k+186) (aO.mk (Layout.mk aa aq) (aF.mk ak ah) au)/\gW h' k' (.sl false (aa.map (V.int .i64))) (k+22) (k+23) (k+186) (qW (k+44) (k+63) (k+82) (k+101)) (qW (k+121) (k+141) (k+161) (k+181)) (aO.mk (Layout.mk aa aq) (aF.mk ak ah) au)/\oT k (.sl false (aa.map (V.int .i64))) (k+22) (k+23) (k+186) (qW (k+44) (k+63) (k+82) (k+101)) (qW (k+121) (k+141) (k+161) (k+181)):=by
 have NZ:ql ⟨ak,ah⟩:=HG.mem;obtain⟨x0,x1,x2,x3,e,r0,r1,r2,r3⟩:=HG.four;simp only at e;subst e;have wF:aa.length<=1000000000:=HG.lens.aD;obtain⟨vm,hm,km,em,ekm,MC⟩:=akv ak ah (k+11) NZ;have emv:=MC.val;simp only[aaE,Nat.reduceAdd]at em ekm MC emv;subst ekm;subst emv;obtain⟨v,h',k',e,g⟩:=bC (X:=X) (g:=73) (args:=[(KKY aa aq ak ah ([x0,x1,x2,x3]:List Thread):V)]) (h:=pP) (k:=k) (K:=fun v h k'=>v= .agg [aa,.int .u16 aq,.cu (k+22) 0 512,.cu (k+23) 0 4,.cu (k+186) 0 4]/\k'=k+194/\h (k+22)=hm (k+22)/\h (k+23)=hm (k+23)/\h (k+44)=hm (k+44)/\h (k+63)=hm (k+63)/\h (k+82)=hm (k+82)/\h (k+101)=hm (k+101)/\h (k+186)=some ⟨8,[KKd x0.state (.cu (k+121) 0 x0.bz.length) x0.pc x0.count x0.cn x0.saved x0.dn x0.code,KKd x1.state (.cu (k+141) 0 x1.bz.length) x1.pc x1.count x1.cn x1.saved x1.dn x1.code,KKd x2.state (.cu (k+161) 0 x2.bz.length) x2.pc x2.count x2.cn x2.saved x2.dn x2.code,KKd x3.state (.cu (k+181) 0 x3.bz.length) x3.pc x3.count x3.cn x3.saved x3.dn x3.code],true⟩/\h (k+121)=some ⟨2,x0.bz.map Cell.e,false⟩/\h (k+141)=some ⟨2,x1.bz.map Cell.e,false⟩/\h (k+161)=some ⟨2,x2.bz.map Cell.e,false⟩/\h (k+181)=some ⟨2,x3.bz.map Cell.e,false⟩) Tryz.func73 rfl rfl (by
  simp[dO,aaE,wF,em,r0,r1,r2,r3];all_goals ((repeat' (first|apply And.intro|intro _))<;>first|omega|rfl))
 obtain⟨g1,g2,gC,gL,i0,i1,i2,i3,gT,t0,t1,t2,t3⟩:=g;subst g2;refine⟨v,h',_,e,rfl,by rw[g1];rfl,?_,⟨⟨by omega,by omega,by omega⟩,fun j hj=>⟨kI (P:=fun x=>k<=x) (by omega) j hj,kI (P:=fun x=>k<=x) (by omega) j hj⟩,fun B s n hB=> ?_⟩⟩
 ·refine⟨NZ.mem,⟨by rw[gC];exact MC.cells,by rw[gL];exact MC.lines,fun i hi=> ?_⟩,⟨by omega,fun i hi=>kI (P:=fun x=>x≠k+22) (by omega) i hi,fun i hi=>kI (P:=fun x=>x≠k+23) (by omega) i hi,fun i j hi hj mz=>K7 (by omega) i j hi hj mz⟩,
   ⟨by omega,by omega,fun i hi=>kI (P:=fun x=>x<k+194) (by omega) i hi⟩,?_,by rw[NY];simp only[dJ];exact gT,fun i hi=> ?_,rfl,⟨by omega,by omega,by omega⟩,fun i hi=>kI (P:=fun x=>x≠k+186) (by omega) i hi,
   fun i hi=>kI (P:=fun x=>x≠k+22/\x≠k+23/\x≠k+186/\x<k+194) (by omega) i hi,fun i j hi hj=>aaW (Ty (P:=fun x y=>x≠y) (by omega) i j hi hj),fun i j hi hj mz=>K7 (by omega) i j hi hj mz⟩
  ·have xY:i<4:=by have:=NZ.mem.lines;simp only at this hi;omega
   have tw:=MC.line i hi;have:i=0\/i=1\/i=2\/i=3:=by omega
   rcases this with rfl|rfl|rfl|rfl
   ·rw[<-tw];exact i0
   ·rw[<-tw];exact i1
   ·rw[<-tw];exact i2
   ·rw[<-tw];exact i3
  ·exact .inl rfl
  ·have:i=0\/i=1\/i=2\/i=3:=by simp at hi;omega
   rcases this with rfl|rfl|rfl|rfl
   ·exact t0
   ·exact t1
   ·exact t2
   ·exact t3
 ·cases hB
def iT:aO:=⟨⟨[],0⟩,⟨[],[]⟩,[]⟩
def B1(r:aO)(s e:Int)(v:V)(h:bh)(k:Nat):Prop:= ∃vB C L T ids bu k0,v= .dM [jD vB C L T r,.int .i64 s,.int .i64 e]/\gW h k0 vB C L T ids bu r
def B1.ed{r:aO}{s e:Int}{v:V}{h:bh}{k:Nat}(H:B1 r s e v h k):(cx h depth v).map V.lM=some (.dM [.agg (mr r),.int .i64 s,.int .i64 e]):=by
 obtain⟨vB,C,L,T,ids,bu,k0,rfl,HA⟩:=H;have:=HA.ed 5;simp only[depth];simp[cx,cF,this,V.lM,eV,GK]
def B1.bW{g:FuncId}{args:List V}{r:aO}{s e:Int}(H: ∃v h k,cL X g args pP 0=some (v,h,k)/\B1 r s e v h k):bW X g args=some (.dM [.agg (mr r),s,e]):=by
 obtain⟨v,h,k,e1,hr⟩:=H;have e2:rM X (cL X) g args=some (v,h,k):=e1;unfold Go.Abs.bW;rw[e2];exact hr.ed
def RM(a:Nat)(h1 h:bh):Prop:= ∀i,a<=i->h i=h1 i
def yT{v:Option Ob}(hj:j<a):RM a h1 (aR h j v)=RM a h1 h:=by
 apply propext;constructor<;>intro g i hi
 ·have:=g i hi;rwa[aR,if_neg (by omega)]at this
 ·rw[aR,if_neg (by omega)];exact g i hi
def B2(a:Nat)(h0 h1:bh):RM a h1 (fun id=>if id<a then h0 id else h1 id)=True:=eq_true fun i hi=>by simp;omega
def adr{vB:V}(hb:H b=some ⟨5,[jD vB C L T m],true⟩)(hba:b<a)(hbK:b<K)(hK:k<=K)(HA:gW h1 k vB C L T ids bu m)(HB:oT a vB C L T ids bu)(hO:RM a h1 H):dU H K b vB C L T ids bu m:=by
 have HA2:gW H K vB C L T ids bu m:=HA.mono HB hK fun i hi _=>hO i hi;obtain⟨⟨a1,a2,a3⟩,aI,aB⟩:=HB;exact HA2.box (fun _=>⟨fun B s n e=>by have:=aB _ _ _ e;omega,by omega,by omega,by omega,fun j hj=>by have:=aI j hj;omega⟩) hbK (aaI _) hb fun _ _ _=>rfl
def ads(p:Prog)(m:aO)(t n:Int):aO×Int×Int:=
 if jU p m=true/\(0<=t/\t<4)/\1<=n/\n<=64 then((dN p m t.toNat n).1,(dN p m t.toNat n).2,0) else(iT,0,1)
def xi(h: ¬(lu p m t).2= -1):jZ p t upto (k+1) m=lu p m t:=by rw[jZ,if_neg h]
def yU(h:(lu p m t).2= -1)(hc:(cg (lu p m t).1 t).count=upto):jZ p t upto (k+1) m=((lu p m t).1,0):=by
 rw[jZ,if_pos h];exact if_pos hc
def xj(h:(lu p m t).2= -1)(hc: ¬(cg (lu p m t).1 t).count=upto):jZ p t upto (k+1) m=jZ p t upto k (lu p m t).1:=by
 rw[jZ,if_pos h];exact if_neg hc
def uX(p:Prog)(m:aO)(t:Nat):(lu p m t).1.layout=m.layout:=rfl
@[simp]def akw(ax:List Instr)(ae:List Int)(ay:List (List Int))(aa:List Int)(aq:Int)(ak:List Cell)(ah:List cy)(au:List Thread)(t n:Int)(tn:Nat)(hr:An (aO.mk (Layout.mk aa aq) (aF.mk ak ah) au))(hv:jU (Prog.mk ax ae ay) (aO.mk (Layout.mk aa aq) (aF.mk ak ah) au)=true)(n4:tn<4)(hn:1<=n/\n<=64): ∃v h k,cL X 193 [KKQ ax ae ay,.agg (mr (aO.mk (Layout.mk aa aq) (aF.mk ak ah) au)),(tn:Int),.int .i64 n] pP 0=some (v,h,k)/\B1 (dN (Prog.mk ax ae ay) (aO.mk (Layout.mk aa aq) (aF.mk ak ah) au) tn n).1 (dN (Prog.mk ax ae ay) (aO.mk (Layout.mk aa aq) (aF.mk ak ah) au) tn n).2 0 v h k:=by
 have MG:=yN hr hv;have hp:=MG.prog.lens;have hm:=MG.lens;have hl:au.length=4:=MG.len;have nl:tn<au.length:=by omega
 have hx:cg (aO.mk (Layout.mk aa aq) (aF.mk ak ah) au) tn=au[tn]:=iS nl;obtain⟨v1,h1,k1,eC,ek,ev,HA,HB⟩:=EG aa aq ak ah au 29 (Prog.mk ax ae ay) _ MG;subst ek;subst ev;simp only[Nat.reduceAdd]at eC HA HB;have t0:(0:Int)<=tn:=by omega
 have po: ¬(tn:Int)<0:=by omega
 have t4:(tn:Int)<4:=by omega
 have pX: ¬(4:Int)<=tn:=by omega
 have XQ: ¬n<1:=by omega
 have RN: ¬64<n:=by omega
 have hbx: ∀(H:bh) (K:Nat),H 27=some ⟨5,[KKD (.cu 34 0 aa.length) aq (.cu 49 0 512) (.cu 128 0 4) (.cu 211 0 4)],true⟩->RM 29 h1 H->219<=K->dU H K 27 (.cu 34 0 aa.length) 49 128 211 (qW 64 83 102 121) (qW 147 166 185 204) (aO.mk (Layout.mk aa aq) (aF.mk ak ah) au):=fun H K hb hO hK=>
  adr (by rw[hb];unfold jD;simp only[hl]) (by omega) (by omega) hK HA HB hO
 have fin: ∀(H:bh) (K k':Nat) (x:Option Ob) (iI:Nat->Nat) (r:aO) (s:Int),r.layout=⟨aa,aq⟩->dU H K 27 (.cu 34 0 aa.length) 49 128 211 iI (qW 147 166 185 204) r->oT 29 (.cu 34 0 aa.length) 49 128 211 iI (qW 147 166 185 204)->
   B1 r s 0 (.dM [KKD (.cu 34 0 aa.length) aq (.cu 49 0 512) (.cu 128 0 4) (.cu 211 0 4),.int .i64 s,.int .i64 0]) (aR H 2 x) k':=fun H K k' x iI r s qn G GA=>by
  refine⟨_,49,128,211,iI,_,_,?_,G.at.mono GA (aaI _) fun i hi _=>by simp[aR];intro e;omega⟩;unfold jD;rw[G.len,qn]
 by_cases hs:(au[tn]).state=1
 case neg=>
  have e:dN (Prog.mk ax ae ay) (aO.mk (Layout.mk aa aq) (aF.mk ak ah) au) tn n=((aO.mk (Layout.mk aa aq) (aF.mk ak ah) au),3):=by unfold dN;rw[show(aO.threads (aO.mk (Layout.mk aa aq) (aF.mk ak ah) au)).getD tn cw=au[tn] from hx];exact if_neg hs
  rw[e];unfold mr;refine aaB ?_;simp[hp,hm,hv,t0,po,t4,pX,XQ,RN,n4,hl,hs,eC,ji,jH];refine fin _ 300 _ _ _ _ _ rfl (hbx _ _ ?_ ?_ (by omega)) HB;all_goals simp[yT,B2]
 have oM:=eq_true hs;obtain⟨upto,ln⟩: ∃u,(au[tn]).count+n=u:=⟨_,rfl⟩;have hcx:=(MG.pg tn nl).count;simp only at hcx;have hwu:IntKind.i64.wrap ((au[tn]).count+n)=upto:=by rw[ln];exact wrap_i64 (by omega)
 have e:dN (Prog.mk ax ae ay) (aO.mk (Layout.mk aa aq) (aF.mk ak ah) au) tn n=jZ (Prog.mk ax ae ay) tn upto 20000 (aO.mk (Layout.mk aa aq) (aF.mk ak ah) au):=by
  unfold dN;rw[show(aO.threads (aO.mk (Layout.mk aa aq) (aF.mk ak ah) au)).getD tn cw=au[tn] from hx,if_pos hs,ln]
 rw[e];have hT:=HA.pg;have gg0:=fW (ids:=qW 147 166 185 204) nl;have a0b:=fA (qW 147 166 185 204) au;rw[hl]at a0b;unfold mr;refine aaB ?_;simp[hp,hm,hv,t0,po,t4,pX,XQ,RN,n4,hl,oM,eC,ji,jH,hwu,hT,gg0,a0b];refine lS (fun i S=> ∃mi iI,(S.f 2= .int .i64 tn/\S.f 4= .ptr 0 0 0/\S.f 8= .ptr 2 0 0/\S.f 11= .ptr 27 0 0/\S.f 12= .int .i64 upto)/\
   (S.h 0=some ⟨3,[KKQ ax ae ay],true⟩/\S.h 2=some ⟨5,[KKD (.sl true []) 0 (.sl true []) (.sl true []) (.sl true [])],true⟩)/\
   mi.layout=⟨aa,aq⟩/\dU S.h S.n 27 (.cu 34 0 aa.length) 49 128 211 iI (qW 147 166 185 204) mi/\oT 29 (.cu 34 0 aa.length) 49 128 211 iI (qW 147 166 185 204)/\29<=S.n/\
   db (Prog.mk ax ae ay) (1099511627776+64) mi/\(cg mi tn).count<upto/\i+yQ upto (cg mi tn)<=19456/\jZ (Prog.mk ax ae ay) tn upto (20000-i) mi=jZ (Prog.mk ax ae ay) tn upto 20000 (aO.mk (Layout.mk aa aq) (aF.mk ak ah) au)) 19456 ?_ 0 (by simp) ?_
 ·rintro i S hi ⟨mi,iI,⟨f2,f4,f8,f11,f12⟩,⟨Xu,hh2⟩,qn,HI,GA,hK,XR,hc,hle,heq⟩;have a0c:1<=yQ upto (cg mi tn):=by
   have:=(XR.cg n4).pc;unfold yQ;omega
  have En:i<19456:=by omega
  have OV:20000-i=(20000-(i+1))+1:=by omega
  have HI4:=HI.mono (k':=S.n+4) (h':=S.h) (by omega) fun _ _=>rfl;obtain⟨h',k',Wv,eo,G,g1,g2,g3⟩:=az6 ax ae ay .bad 0 S.h (S.n+4) 27 _ _ _ _ _ _ mi tn _ HI4 XR (by omega) n4 ⟨34,by rw[qn]⟩;have GA2:oT 29 (.cu 34 0 aa.length) 49 128 211 Wv (qW 147 166 185 204):=by
   obtain⟨q1,q2,q3⟩:=GA;refine⟨q1,fun j hj=>⟨?_,(q2 j hj).2⟩,q3⟩;rcases g2 j hj with e|e
   ·rw[e];exact(q2 j hj).1
   ·omega
  have low: ∀x,x<27->h' x=S.h x:=fun x hx=>g3 x (by omega) (by omega) (by omega) (fun j hj=>by have:=GA.2.1 j hj;omega) (by omega) (by have:=GA.2.1 tn n4;omega);have z0:=low 0 (by omega);have z2:=low 2 (by omega);rw[Xu]at z0;rw[hh2]at z2;have bx:=G.xJ;have gl:=G.len;unfold jD at bx;rw[gl,uX,qn]at bx;have gT:=G.pg;have gnl:tn<(lu (Prog.mk ax ae ay) mi tn).1.threads.length:=by rw[gl];exact n4
  have gg:=fW (ids:=qW 147 166 185 204) gnl;have Ck:=fA (qW 147 166 185 204) (lu (Prog.mk ax ae ay) mi tn).1.threads;rw[gl]at Ck;have gx:cg (lu (Prog.mk ax ae ay) mi tn).1 tn=(lu (Prog.mk ax ae ay) mi tn).1.threads[tn]:=iS gnl;have Ww:(lu (Prog.mk ax ae ay) mi tn).1.layout=⟨aa,aq⟩:=by rw[uX];exact qn
  by_cases ho:(lu (Prog.mk ax ae ay) mi tn).2= -1
  case neg=>
   rw[<-heq,OV,xi ho];simp[f2,f4,f8,f11,Xu,eo,z2,bx,ho];exact fin _ _ _ _ _ _ _ Ww G GA2
  have zp:=eq_true ho;have hlf:=zJ XR n4 ho upto;by_cases Wx:(cg (lu (Prog.mk ax ae ay) mi tn).1 tn).count=upto
  ·rw[<-heq,OV,yU ho Wx];rw[gx]at Wx;simp[f2,f4,f8,f11,f12,Xu,eo,z2,bx,zp,gT,gg,Ck,n4,t4,Wx];exact fin _ _ _ _ _ _ _ Ww G GA2
  ·have a0d:=xj (k:=20000-(i+1)) ho Wx;have a0e:=Wx;rw[gx]at a0e;simp[f2,f4,f8,f11,f12,Xu,eo,z0,z2,bx,zp,gT,gg,Ck,n4,t4,a0e,En];refine⟨(lu (Prog.mk ax ae ay) mi tn).1,Ww,Wv,?_,GA2,by omega,EC XR n4 (by omega),by omega,by omega,?_⟩
   ·exact G.mono (by omega) fun _ _=>rfl
   ·have hq:=a0d.symm;rw[<-OV,heq]at hq;rw[show 19999-i=20000-(i+1) by omega];exact hq
 ·simp;refine⟨(aO.mk (Layout.mk aa aq) (aF.mk ak ah) au),rfl,qW 64 83 102 121,hbx _ _ ?_ ?_ (by omega),HB,MG.mono (by omega),by rw[hx];omega,?_,rfl⟩
  ·simp
  ·simp[yT,B2]
  ·have:=(MG.pg tn nl).pc;simp only at this;rw[hx];unfold yQ;omega
def B1.own{v:V}(H:B1 r s e v h k):LO X h v [(0,4,112)]=some (.dM [.agg (mr r),.int .i64 s,.int .i64 e]):=by
 obtain⟨vB,C,L,T,ids,bu,k0,rfl,HA⟩:=H;have hT:=HA.pg;have hl:=HA.len;have tw:=HA.mp.lines;have Xj:=HA.mp.len;have nC: ¬C=T:=fun e=>HA.xg.1 e.symm;have nL: ¬L=T:=fun e=>HA.xg.2.1 e.symm;have u: ∀i,i≠T->aR h T none i=h i:=fun i hi=>by simp[aR,hi]
 have e1:=HA.ED (hx:=aR h T none) (fun i hi=>u _ (HA.qS i hi).2.2.1) 10;have e2:=HA.zK (hx:=aR h T none) (fun i hi=>u _ (HA.RK i hi)) 9;have l1:=fA bu r.threads;have l2:=jh ids r.memory.lines;rw[hl]at l1;rw[tw]at l2;have t1:(cG bu r.threads).take 4=cG bu r.threads:=aZ (by omega);have t2:(fU ids r.memory.lines).take 4=fU ids r.memory.lines:=aZ (by omega);have t3:(r.memory.cells.map Cell.e).take 512=r.memory.cells.map Cell.e:=aZ (by simp;omega);have t4:(r.threads.map Thread.e).take 4=r.threads.map Thread.e:=aZ (by simp;omega);unfold jD mr;rcases HA.aD with e|⟨B,e,g1,g2,g3,g4⟩
 ·simp[e,hT,hl,Xj,nC,nL,HA.mem.cells,HA.mem.lines,l1,l2,t1,t2,t3,e1,e2]
 ·have nB: ¬B=T:=g2.2.2.1;simp[e,g1,hT,hl,Xj,nB,nC,nL,HA.mem.cells,HA.mem.lines,l1,l2,t1,t2,t3,e1,e2]
def B1.nr{g:FuncId}{args:List V}{r:aO}{s e:Int}(H: ∃v h k,cL X g args pP 0=some (v,h,k)/\B1 r s e v h k):nr X [(0,4,112)] g args=some (.dM [.agg (mr r),s,e]):=by
 obtain⟨v,h,k,e1,hr⟩:=H;unfold Go.Abs.nr;rw[e1];exact hr.own
@[simp]def akx(ax:List Instr)(ae:List Int)(ay:List (List Int))(aa:List Int)(aq:Int)(ak:List Cell)(ah:List cy)(au:List Thread)(t n:Int)(hr:An (aO.mk (Layout.mk aa aq) (aF.mk ak ah) au))(hv:jU (Prog.mk ax ae ay) (aO.mk (Layout.mk aa aq) (aF.mk ak ah) au)=true)(ht:0<=t/\t<4)(hn:1<=n/\n<=64):nr X [(0,4,112)] 193 [KKQ ax ae ay,KKY aa aq ak ah au,.int .i64 t,.int .i64 n]=some (.dM [KKK ((dN (Prog.mk ax ae ay) (aO.mk (Layout.mk aa aq) (aF.mk ak ah) au) t.toNat n).1),.int .i64 ((dN (Prog.mk ax ae ay) (aO.mk (Layout.mk aa aq) (aF.mk ak ah) au) t.toNat n).2),.int .i64 0]):=by
 obtain⟨k,rfl⟩:=aaG ht.1;exact B1.nr (akw ax ae ay aa aq ak ah au k n k hr hv (by omega) hn)
end Go.Proofs.YtdngefmliibcgaaGreat
