/- part -/
import Derived.Test.YtdngefmliibcgaaGreatV09
set_option linter.all false
set_option maxRecDepth 20000
set_option maxHeartbeats 20000000
namespace Go.Proofs.YtdngefmliibcgaaGreat
open Go Go.Abs Go.Abs.kI Qf
variable  {a b c d a' b' c' d' j k K C L T t:Nat}{m r:aO}{p:Prog}{h1 h H:bh}{ids bw:Nat->Nat}{upto s e:Int}
def qW(a b c d i:Nat):Nat:=if i=0 then a else if i=1 then b else if i=2 then c else d
def aes(a b c d:Nat)(l0 l1 l2 l3:cw):fW (qW a b c d) [l0,l1,l2,l3]=[(KKt l0.tag l0.iW (.cx a 0 l0.cells.length):V),(KKt l1.tag l1.iW (.cx b 0 l1.cells.length):V),(KKt l2.tag l2.iW (.cx c 0 l2.cells.length):V),(KKt l3.tag l3.iW (.cx d 0 l3.cells.length):V)]:=rfl
def Ow(a b c d:Nat)(x0 x1 x2 x3:Thread):cG (qW a b c d) [x0,x1,x2,x3]=[dM (qW a b c d) 0 x0,dM (qW a b c d) 1 x1,dM (qW a b c d) 2 x2,dM (qW a b c d) 3 x3]:=rfl
def kM{P:Nat->Prop}(h:P a/\P b/\P c/\P d)(i:Nat)(hi:i<4):P (qW a b c d i):=by
 have:i=0\/i=1\/i=2\/i=3:=by omega
 rcases this with rfl|rfl|rfl|rfl
 ·exact h.1
 ·exact h.2.1
 ·exact h.2.2.1
 ·exact h.2.2.2
def T8{P:Nat->Nat->Prop}(h:(P a a'/\P a b'/\P a c'/\P a d')/\(P b a'/\P b b'/\P b c'/\P b d')/\(P c a'/\P c b'/\P c c'/\P c d')/\(P d a'/\P d b'/\P d c'/\P d d'))(i j:Nat)(hi:i<4)(hj:j<4):P (qW a b c d i) (qW a' b' c' d' j):=
 kM (P:=fun x=>P x (qW a' b' c' d' j)) ⟨kM h.1 j hj,kM h.2.1 j hj,kM h.2.2.1 j hj,kM h.2.2.2 j hj⟩ i hi
def Lu(h:a≠b/\a≠c/\a≠d/\b≠c/\b≠d/\c≠d)(i j:Nat)(hi:i<4)(hj:j<4)(mj:i≠j):qW a b c d i≠qW a b c d j:=by
 have e1:i=0\/i=1\/i=2\/i=3:=by omega
 have e2:j=0\/j=1\/j=2\/j=3:=by omega
 rcases e1 with rfl|rfl|rfl|rfl<;>rcases e2 with rfl|rfl|rfl|rfl<;>simp only[qW]<;>simp<;>omega
structure a1m (m:aF) (v:V) (h:bh) (C L i0 i1 i2 i3:Nat):Prop where
 val:v= .agg [.cx C 0 512,.cx L 0 4]
 cells:h C=some ⟨2,m.cells.map Cell.e,false⟩
 lines:h L=some ⟨3,fW (qW i0 i1 i2 i3) m.lines,true⟩
 line: ∀i (g:i<m.lines.length),h (qW i0 i1 i2 i3 i)=some ⟨2,(m.lines[i]).cells.map Cell.e,false⟩
def qi.four{m:aF}(h:qi m):m.cells.length=512/\ ∃l0 l1 l2 l3,m.lines=[l0,l1,l2,l3]/\l0.cells.length<=1000000000/\l1.cells.length<=1000000000/\l2.cells.length<=1000000000/\l3.cells.length<=1000000000:=by
 obtain⟨l0,l1,l2,l3,e⟩:=ID h.mem.lines;have hx: ∀i (g:i<m.lines.length),(m.lines[i]).cells.length<=1000000000:=fun i g=>by
  have:=h.mem.line i g;by_cases e:(m.lines[i]).tag= -1
  ·rw[(this.none e).2];simp
  ·rw[(this.some e).2.2.2];omega
 rw[e]at hx;have h0:=hx 0 (by simp);have h1:=hx 1 (by simp);have h2:=hx 2 (by simp);have h3:=hx 3 (by simp);exact⟨h.mem.len,l0,l1,l2,l3,e,h0,h1,h2,h3⟩
def cT.four{c:Int}(h:cT p c m): ∃x0 x1 x2 x3,m.threads=[x0,x1,x2,x3]/\x0.bp.length=8/\x1.bp.length=8/\x2.bp.length=8/\x3.bp.length=8:=by
 obtain⟨x0,x1,x2,x3,e⟩:=ID h.len;have hx:=h.pe;rw[e]at hx;exact⟨x0,x1,x2,x3,e,(hx 0 (by simp)).bp,(hx 1 (by simp)).bp,(hx 2 (by simp)).bp,(hx 3 (by simp)).bp⟩
@[simp]def als(dB:List Cell)(bW:List cw)(k:Nat)(hM:qi (aF.mk dB bW)): ∃v h' k',cL X 179 [KKp dB bW] pK k=some (v,h',k')/\k'=k+91/\a1m (aF.mk dB bW) v h' (k+4) (k+83) (k+19) (k+38) (k+57) (k+76):=by
 obtain⟨hc,l0,l1,l2,l3,e,h0,h1,h2,h3⟩:=hM.four;simp only at hc e;subst e;clear hM;obtain⟨v,h',k',e,g⟩:=bC (X:=X) (g:=179) (args:=[(KKp dB ([l0,l1,l2,l3]:List cw):V)]) (h:=pK) (k:=k) (K:=fun v h k'=>v= .agg [.cx (k+4) 0 512,.cx (k+83) 0 4]/\k'=k+91/\h (k+4)=some ⟨2,dB.map Cell.e,false⟩/\h (k+83)=some ⟨3,[KKt l0.tag l0.iW (.cx (k+19) 0 l0.cells.length),KKt l1.tag l1.iW (.cx (k+38) 0 l1.cells.length),KKt l2.tag l2.iW (.cx (k+57) 0 l2.cells.length),KKt l3.tag l3.iW (.cx (k+76) 0 l3.cells.length)],true⟩/\h (k+19)=some ⟨2,l0.cells.map Cell.e,false⟩/\h (k+38)=some ⟨2,l1.cells.map Cell.e,false⟩/\h (k+57)=some ⟨2,l2.cells.map Cell.e,false⟩/\h (k+76)=some ⟨2,l3.cells.map Cell.e,false⟩) Tryz.func179 rfl rfl (by
  simp[dI,aaE,hc];all_goals ((repeat' (first|apply And.intro|intro _))<;>first|omega|rfl))
 obtain⟨g1,g2,g3,g4,g5,g6,g7,g8⟩:=g;refine⟨v,h',k',e,g2,g1,g3,by rw[aes];exact g4,fun i hi=> ?_⟩;have:i=0\/i=1\/i=2\/i=3:=by simp at hi;omega
 rcases this with rfl|rfl|rfl|rfl
 ·exact g5
 ·exact g6
 ·exact g7
 ·exact g8
@[simp]def alu(dB:List Cell)(bW:List cw)(k:Nat)(hM:qi (aF.mk dB bW)): ∃v h' k',cL X 151 [KKp dB bW] pK k=some (v,h',k')/\k'=k+96/\a1m (aF.mk dB bW) v h' (k+11) (k+12) (k+33) (k+52) (k+71) (k+90):=by
 obtain⟨hc,l0,l1,l2,l3,e,h0,h1,h2,h3⟩:=hM.four;simp only at hc e;subst e;clear hM;obtain⟨v,h',k',e,g⟩:=bC (X:=X) (g:=151) (args:=[(KKp dB ([l0,l1,l2,l3]:List cw):V)]) (h:=pK) (k:=k) (K:=fun v h k'=>v= .agg [.cx (k+11) 0 512,.cx (k+12) 0 4]/\k'=k+96/\h (k+11)=some ⟨2,dB.map Cell.e,false⟩/\h (k+12)=some ⟨3,[KKt l0.tag l0.iW (.cx (k+33) 0 l0.cells.length),KKt l1.tag l1.iW (.cx (k+52) 0 l1.cells.length),KKt l2.tag l2.iW (.cx (k+71) 0 l2.cells.length),KKt l3.tag l3.iW (.cx (k+90) 0 l3.cells.length)],true⟩/\h (k+33)=some ⟨2,l0.cells.map Cell.e,false⟩/\h (k+52)=some ⟨2,l1.cells.map Cell.e,false⟩/\h (k+71)=some ⟨2,l2.cells.map Cell.e,false⟩/\h (k+90)=some ⟨2,l3.cells.map Cell.e,false⟩) Tryz.func151 rfl rfl (by
  simp[dI,aaE,hc];all_goals ((repeat' (first|apply And.intro|intro _))<;>first|omega|rfl))
 obtain⟨g1,g2,g3,g4,g5,g6,g7,g8⟩:=g;refine⟨v,h',k',e,g2,g1,g3,by rw[aes];exact g4,fun i hi=> ?_⟩;have:i=0\/i=1\/i=2\/i=3:=by simp at hi;omega
 rcases this with rfl|rfl|rfl|rfl
 ·exact g5
 ·exact g6
 ·exact g7
 ·exact g8
@[simp]def EZ(aa:List Int)(aq:Int)(ak:List Cell)(ah:List cw)(au:List Thread)(k:Nat)(p:Prog)(c:Int)(HG:cT p c (aO.mk (Layout.mk aa aq) (aF.mk ak ah) au)): ∃v h' k',cL X 103 [KKY aa aq ak ah au] pK k=some (v,h',k')/\k'=k+190/\v=jE (.cx (k+5) 0 aa.length) (k+20) (k+99) (k+182) (aO.mk (Layout.mk aa aq) (aF.mk ak ah) au)/\gX h' k' (.cx (k+5) 0 aa.length) (k+20) (k+99) (k+182) (qW (k+35) (k+54) (k+73) (k+92)) (qW (k+118) (k+137) (k+156) (k+175)) (aO.mk (Layout.mk aa aq) (aF.mk ak ah) au)/\oP k (.cx (k+5) 0 aa.length) (k+20) (k+99) (k+182) (qW (k+35) (k+54) (k+73) (k+92)) (qW (k+118) (k+137) (k+156) (k+175)):=by
 have Ox:qi ⟨ak,ah⟩:=HG.mem;obtain⟨x0,x1,x2,x3,e,r0,r1,r2,r3⟩:=HG.four;simp only at e;subst e;have wM:aa.length<=1000000000:=HG.lens.aD;obtain⟨vm,hm,km,em,ekm,MC⟩:=als ak ah (k+16) Ox;have emv:=MC.val;simp only[aaE,Nat.reduceAdd]at em ekm MC emv;subst ekm;subst emv;obtain⟨v,h',k',e,g⟩:=bC (X:=X) (g:=103) (args:=[(KKY aa aq ak ah ([x0,x1,x2,x3]:List Thread):V)]) (h:=pK) (k:=k) (K:=fun v h k'=>v= (KKE (.cx (k+5) 0 aa.length) aq (.cx (k+20) 0 512) (.cx (k+99) 0 4) (.cx (k+182) 0 4):V)/\k'=k+190/\h (k+5)=some ⟨1,aa.map (V.int .i64),false⟩/\h (k+20)=hm (k+20)/\h (k+99)=hm (k+99)/\h (k+35)=hm (k+35)/\h (k+54)=hm (k+54)/\h (k+73)=hm (k+73)/\h (k+92)=hm (k+92)/\h (k+182)=some ⟨8,[KKd x0.state (.cx (k+118) 0 x0.bp.length) x0.pc x0.count x0.cp x0.saved x0.dr x0.code,KKd x1.state (.cx (k+137) 0 x1.bp.length) x1.pc x1.count x1.cp x1.saved x1.dr x1.code,KKd x2.state (.cx (k+156) 0 x2.bp.length) x2.pc x2.count x2.cp x2.saved x2.dr x2.code,KKd x3.state (.cx (k+175) 0 x3.bp.length) x3.pc x3.count x3.cp x3.saved x3.dr x3.code],true⟩/\h (k+118)=some ⟨2,x0.bp.map Cell.e,false⟩/\h (k+137)=some ⟨2,x1.bp.map Cell.e,false⟩/\h (k+156)=some ⟨2,x2.bp.map Cell.e,false⟩/\h (k+175)=some ⟨2,x3.bp.map Cell.e,false⟩) Tryz.func103 rfl rfl (by
  simp[dI,aaE,em,r0,r1,r2,r3];all_goals ((repeat' (first|apply And.intro|intro _))<;>first|omega|rfl))
 obtain⟨g1,g2,gB,gC,gL,i0,i1,i2,i3,gT,t0,t1,t2,t3⟩:=g;subst g2;refine⟨v,h',_,e,rfl,by rw[g1];rfl,?_,⟨⟨by omega,by omega,by omega⟩,fun j hj=>⟨kM (P:=fun x=>k<=x) (by omega) j hj,kM (P:=fun x=>k<=x) (by omega) j hj⟩,fun B s n hB=> ?_⟩⟩
 ·refine⟨Ox.mem,⟨by rw[gC];exact MC.cells,by rw[gL];exact MC.lines,fun i hi=> ?_⟩,⟨by omega,fun i hi=>kM (P:=fun x=>x≠k+20) (by omega) i hi,fun i hi=>kM (P:=fun x=>x≠k+99) (by omega) i hi,fun i j hi hj mj=>Lu (by omega) i j hi hj mj⟩,
   ⟨by omega,by omega,fun i hi=>kM (P:=fun x=>x<k+190) (by omega) i hi⟩,?_,by rw[Ow];simp only[dM];exact gT,fun i hi=> ?_,rfl,⟨by omega,by omega,by omega⟩,fun i hi=>kM (P:=fun x=>x≠k+182) (by omega) i hi,
   fun i hi=>kM (P:=fun x=>x≠k+20/\x≠k+99/\x≠k+182/\x<k+190) (by omega) i hi,fun i j hi hj=>aaU (T8 (P:=fun x y=>x≠y) (by omega) i j hi hj),fun i j hi hj mj=>Lu (by omega) i j hi hj mj⟩
  ·have yd:i<4:=by have:=Ox.mem.lines;simp only at this hi;omega
   have sE:=MC.line i hi;have:i=0\/i=1\/i=2\/i=3:=by omega
   rcases this with rfl|rfl|rfl|rfl
   ·rw[<-sE];exact i0
   ·rw[<-sE];exact i1
   ·rw[<-sE];exact i2
   ·rw[<-sE];exact i3
  ·exact .inr ⟨k+5,rfl,gB,⟨by omega,by omega,by omega,by omega⟩,fun j hj=>kM (P:=fun x=>x≠k+5) (by omega) j hj,fun j hj=>kM (P:=fun x=>x≠k+5) (by omega) j hj⟩
  ·have:i=0\/i=1\/i=2\/i=3:=by simp at hi;omega
   rcases this with rfl|rfl|rfl|rfl
   ·exact t0
   ·exact t1
   ·exact t2
   ·exact t3
 ·cases hB;omega
@[simp]def Ua(aa:List Int)(aq:Int)(ak:List Cell)(ah:List cw)(au:List Thread)(k:Nat)(p:Prog)(c:Int)(HG:cT p c (aO.mk (Layout.mk aa aq) (aF.mk ak ah) au)): ∃v h' k',cL X 73 [KKY aa aq ak ah au] pK k=some (v,h',k')/\k'=k+194/\v=jE (.sl false (aa.map (V.int .i64))) (k+22) (k+23) (k+186) (aO.mk (Layout.mk aa aq) (aF.mk ak ah) au)/\gX h' k' (.sl false (aa.map (V.int .i64))) (k+22) (k+23) (k+186) (qW (k+44) (k+63) (k+82) (k+101)) (qW (k+121) (k+141) (k+161) (k+181)) (aO.mk (Layout.mk aa aq) (aF.mk ak ah) au)/\oP k (.sl false (aa.map (V.int .i64))) (k+22) (k+23) (k+186) (qW (k+44) (k+63) (k+82) (k+101)) (qW (k+121) (k+141) (k+161) (k+181)):=by
 have Ox:qi ⟨ak,ah⟩:=HG.mem;obtain⟨x0,x1,x2,x3,e,r0,r1,r2,r3⟩:=HG.four;simp only at e;subst e;have wM:aa.length<=1000000000:=HG.lens.aD;obtain⟨vm,hm,km,em,ekm,MC⟩:=alu ak ah (k+11) Ox;have emv:=MC.val;simp only[aaE,Nat.reduceAdd]at em ekm MC emv;subst ekm;subst emv;obtain⟨v,h',k',e,g⟩:=bC (X:=X) (g:=73) (args:=[(KKY aa aq ak ah ([x0,x1,x2,x3]:List Thread):V)]) (h:=pK) (k:=k) (K:=fun v h k'=>v= .agg [aa,.int .u16 aq,.cx (k+22) 0 512,.cx (k+23) 0 4,.cx (k+186) 0 4]/\k'=k+194/\h (k+22)=hm (k+22)/\h (k+23)=hm (k+23)/\h (k+44)=hm (k+44)/\h (k+63)=hm (k+63)/\h (k+82)=hm (k+82)/\h (k+101)=hm (k+101)/\h (k+186)=some ⟨8,[KKd x0.state (.cx (k+121) 0 x0.bp.length) x0.pc x0.count x0.cp x0.saved x0.dr x0.code,KKd x1.state (.cx (k+141) 0 x1.bp.length) x1.pc x1.count x1.cp x1.saved x1.dr x1.code,KKd x2.state (.cx (k+161) 0 x2.bp.length) x2.pc x2.count x2.cp x2.saved x2.dr x2.code,KKd x3.state (.cx (k+181) 0 x3.bp.length) x3.pc x3.count x3.cp x3.saved x3.dr x3.code],true⟩/\h (k+121)=some ⟨2,x0.bp.map Cell.e,false⟩/\h (k+141)=some ⟨2,x1.bp.map Cell.e,false⟩/\h (k+161)=some ⟨2,x2.bp.map Cell.e,false⟩/\h (k+181)=some ⟨2,x3.bp.map Cell.e,false⟩) Tryz.func73 rfl rfl (by
  simp[dI,aaE,wM,em,r0,r1,r2,r3];all_goals ((repeat' (first|apply And.intro|intro _))<;>first|omega|rfl))
 obtain⟨g1,g2,gC,gL,i0,i1,i2,i3,gT,t0,t1,t2,t3⟩:=g;subst g2;refine⟨v,h',_,e,rfl,by rw[g1];rfl,?_,⟨⟨by omega,by omega,by omega⟩,fun j hj=>⟨kM (P:=fun x=>k<=x) (by omega) j hj,kM (P:=fun x=>k<=x) (by omega) j hj⟩,fun B s n hB=> ?_⟩⟩
 ·refine⟨Ox.mem,⟨by rw[gC];exact MC.cells,by rw[gL];exact MC.lines,fun i hi=> ?_⟩,⟨by omega,fun i hi=>kM (P:=fun x=>x≠k+22) (by omega) i hi,fun i hi=>kM (P:=fun x=>x≠k+23) (by omega) i hi,fun i j hi hj mj=>Lu (by omega) i j hi hj mj⟩,
   ⟨by omega,by omega,fun i hi=>kM (P:=fun x=>x<k+194) (by omega) i hi⟩,?_,by rw[Ow];simp only[dM];exact gT,fun i hi=> ?_,rfl,⟨by omega,by omega,by omega⟩,fun i hi=>kM (P:=fun x=>x≠k+186) (by omega) i hi,
   fun i hi=>kM (P:=fun x=>x≠k+22/\x≠k+23/\x≠k+186/\x<k+194) (by omega) i hi,fun i j hi hj=>aaU (T8 (P:=fun x y=>x≠y) (by omega) i j hi hj),fun i j hi hj mj=>Lu (by omega) i j hi hj mj⟩
  ·have yd:i<4:=by have:=Ox.mem.lines;simp only at this hi;omega
   have sE:=MC.line i hi;have:i=0\/i=1\/i=2\/i=3:=by omega
   rcases this with rfl|rfl|rfl|rfl
   ·rw[<-sE];exact i0
   ·rw[<-sE];exact i1
   ·rw[<-sE];exact i2
   ·rw[<-sE];exact i3
  ·exact .inl rfl
  ·have:i=0\/i=1\/i=2\/i=3:=by simp at hi;omega
   rcases this with rfl|rfl|rfl|rfl
   ·exact t0
   ·exact t1
   ·exact t2
   ·exact t3
 ·cases hB
def iT:aO:=⟨⟨[],0⟩,⟨[],[]⟩,[]⟩
def B5(r:aO)(s e:Int)(v:V)(h:bh)(k:Nat):Prop:= ∃vB C L T ids bw k0,v= .dP [jE vB C L T r,.int .i64 s,.int .i64 e]/\gX h k0 vB C L T ids bw r
def B5.eu{r:aO}{s e:Int}{v:V}{h:bh}{k:Nat}(H:B5 r s e v h k):(cy h depth v).map V.lP=some (.dP [.agg (mo r),.int .i64 s,.int .i64 e]):=by
 obtain⟨vB,C,L,T,ids,bw,k0,rfl,HA⟩:=H;have:=HA.eu 5;simp only[depth];simp[cy,cF,this,V.lP,eV,G1]
def B5.bU{g:FuncId}{args:List V}{r:aO}{s e:Int}(H: ∃v h k,cL X g args pK 0=some (v,h,k)/\B5 r s e v h k):bU X g args=some (.dP [.agg (mo r),s,e]):=by
 obtain⟨v,h,k,e1,hr⟩:=H;have e2:rM X (cL X) g args=some (v,h,k):=e1;unfold Go.Abs.bU;rw[e2];exact hr.eu
def So(a:Nat)(h1 h:bh):Prop:= ∀i,a<=i->h i=h1 i
def y9{v:Option Ob}(hj:j<a):So a h1 (aR h j v)=So a h1 h:=by
 apply propext;constructor<;>intro g i hi
 ·have:=g i hi;rwa[aR,if_neg (by omega)]at this
 ·rw[aR,if_neg (by omega)];exact g i hi
def B6(a:Nat)(h0 h1:bh):So a h1 (fun id=>if id<a then h0 id else h1 id)=True:=eq_true fun i hi=>by simp;omega
def aet{vB:V}(hb:H b=some ⟨5,[jE vB C L T m],true⟩)(hba:b<a)(hbK:b<K)(hK:k<=K)(HA:gX h1 k vB C L T ids bw m)(HB:oP a vB C L T ids bw)(hO:So a h1 H):dV H K b vB C L T ids bw m:=by
 have HA2:gX H K vB C L T ids bw m:=HA.mono HB hK fun i hi _=>hO i hi;obtain⟨⟨a1,a2,a3⟩,aI,aB⟩:=HB;exact HA2.box (fun _=>⟨fun B s n e=>by have:=aB _ _ _ e;omega,by omega,by omega,by omega,fun j hj=>by have:=aI j hj;omega⟩) hbK (aaI _) hb fun _ _ _=>rfl
def aeu(p:Prog)(m:aO)(t n:Int):aO×Int×Int:=
 if jU p m=true/\(0<=t/\t<4)/\1<=n/\n<=64 then((dQ p m t.toNat n).1,(dQ p m t.toNat n).2,0) else(iT,0,1)
def xu(h: ¬(lz p m t).2= -1):j9 p t upto (k+1) m=lz p m t:=by rw[j9,if_neg h]
def ze(h:(lz p m t).2= -1)(hc:(bV (lz p m t).1 t).count=upto):j9 p t upto (k+1) m=((lz p m t).1,0):=by
 rw[j9,if_pos h];exact if_pos hc
def xw(h:(lz p m t).2= -1)(hc: ¬(bV (lz p m t).1 t).count=upto):j9 p t upto (k+1) m=j9 p t upto k (lz p m t).1:=by
 rw[j9,if_pos h];exact if_neg hc
def u7(p:Prog)(m:aO)(t:Nat):(lz p m t).1.layout=m.layout:=rfl
@[simp]def alv(ax:List Instr)(ae:List Int)(ay:List (List Int))(aa:List Int)(aq:Int)(ak:List Cell)(ah:List cw)(au:List Thread)(t n:Int)(tn:Nat)(hr:As (aO.mk (Layout.mk aa aq) (aF.mk ak ah) au))(hv:jU (Prog.mk ax ae ay) (aO.mk (Layout.mk aa aq) (aF.mk ak ah) au)=true)(n4:tn<4)(hn:1<=n/\n<=64): ∃v h k,cL X 193 [KKQ ax ae ay,.agg (mo (aO.mk (Layout.mk aa aq) (aF.mk ak ah) au)),(tn:Int),.int .i64 n] pK 0=some (v,h,k)/\B5 (dQ (Prog.mk ax ae ay) (aO.mk (Layout.mk aa aq) (aF.mk ak ah) au) tn n).1 (dQ (Prog.mk ax ae ay) (aO.mk (Layout.mk aa aq) (aF.mk ak ah) au) tn n).2 0 v h k:=by
 have MG:=yV hr hv;have hp:=MG.prog.lens;have hm:=MG.lens;have hl:au.length=4:=MG.len;have nl:tn<au.length:=by omega
 have hx:bV (aO.mk (Layout.mk aa aq) (aF.mk ak ah) au) tn=au[tn]:=iq nl;obtain⟨v1,h1,k1,eC,ek,ev,HA,HB⟩:=EZ aa aq ak ah au 29 (Prog.mk ax ae ay) _ MG;subst ek;subst ev;simp only[Nat.reduceAdd]at eC HA HB;have t0:(0:Int)<=tn:=by omega
 have pk: ¬(tn:Int)<0:=by omega
 have t4:(tn:Int)<4:=by omega
 have pU: ¬(4:Int)<=tn:=by omega
 have Yo: ¬n<1:=by omega
 have Sp: ¬64<n:=by omega
 have hbx: ∀(H:bh) (K:Nat),H 27=some ⟨5,[KKE (.cx 34 0 aa.length) aq (.cx 49 0 512) (.cx 128 0 4) (.cx 211 0 4)],true⟩->So 29 h1 H->219<=K->dV H K 27 (.cx 34 0 aa.length) 49 128 211 (qW 64 83 102 121) (qW 147 166 185 204) (aO.mk (Layout.mk aa aq) (aF.mk ak ah) au):=fun H K hb hO hK=>
  aet (by rw[hb];unfold jE;simp only[hl]) (by omega) (by omega) hK HA HB hO
 have fin: ∀(H:bh) (K k':Nat) (x:Option Ob) (iJ:Nat->Nat) (r:aO) (s:Int),r.layout=⟨aa,aq⟩->dV H K 27 (.cx 34 0 aa.length) 49 128 211 iJ (qW 147 166 185 204) r->oP 29 (.cx 34 0 aa.length) 49 128 211 iJ (qW 147 166 185 204)->
   B5 r s 0 (.dP [KKE (.cx 34 0 aa.length) aq (.cx 49 0 512) (.cx 128 0 4) (.cx 211 0 4),.int .i64 s,.int .i64 0]) (aR H 2 x) k':=fun H K k' x iJ r s qk G GA=>by
  refine⟨_,49,128,211,iJ,_,_,?_,G.at.mono GA (aaI _) fun i hi _=>by simp[aR];intro e;omega⟩;unfold jE;rw[G.len,qk]
 by_cases hs:(au[tn]).state=1
 case neg=>
  have e:dQ (Prog.mk ax ae ay) (aO.mk (Layout.mk aa aq) (aF.mk ak ah) au) tn n=((aO.mk (Layout.mk aa aq) (aF.mk ak ah) au),3):=by unfold dQ;rw[show(aO.threads (aO.mk (Layout.mk aa aq) (aF.mk ak ah) au)).getD tn cn=au[tn] from hx];exact if_neg hs
  rw[e];unfold mo;refine aaB ?_;simp[hp,hm,hv,t0,pk,t4,pU,Yo,Sp,n4,hl,hs,eC,ji,jI];refine fin _ 300 _ _ _ _ _ rfl (hbx _ _ ?_ ?_ (by omega)) HB;all_goals simp[y9,B6]
 have oG:=eq_true hs;obtain⟨upto,lu⟩: ∃u,(au[tn]).count+n=u:=⟨_,rfl⟩;have hcx:=(MG.pe tn nl).count;simp only at hcx;have hwu:IntKind.i64.wrap ((au[tn]).count+n)=upto:=by rw[lu];exact wrap_i64 (by omega)
 have e:dQ (Prog.mk ax ae ay) (aO.mk (Layout.mk aa aq) (aF.mk ak ah) au) tn n=j9 (Prog.mk ax ae ay) tn upto 20000 (aO.mk (Layout.mk aa aq) (aF.mk ak ah) au):=by
  unfold dQ;rw[show(aO.threads (aO.mk (Layout.mk aa aq) (aF.mk ak ah) au)).getD tn cn=au[tn] from hx,if_pos hs,lu]
 rw[e];have hT:=HA.pe;have gg0:=fY (ids:=qW 147 166 185 204) nl;have a1s:=fA (qW 147 166 185 204) au;rw[hl]at a1s;unfold mo;refine aaB ?_;simp[hp,hm,hv,t0,pk,t4,pU,Yo,Sp,n4,hl,oG,eC,ji,jI,hwu,hT,gg0,a1s];refine lW (fun i S=> ∃mi iJ,(S.f 2= .int .i64 tn/\S.f 4= .ptr 0 0 0/\S.f 8= .ptr 2 0 0/\S.f 11= .ptr 27 0 0/\S.f 12= .int .i64 upto)/\
   (S.h 0=some ⟨3,[KKQ ax ae ay],true⟩/\S.h 2=some ⟨5,[KKE (.sl true []) 0 (.sl true []) (.sl true []) (.sl true [])],true⟩)/\
   mi.layout=⟨aa,aq⟩/\dV S.h S.n 27 (.cx 34 0 aa.length) 49 128 211 iJ (qW 147 166 185 204) mi/\oP 29 (.cx 34 0 aa.length) 49 128 211 iJ (qW 147 166 185 204)/\29<=S.n/\
   cT (Prog.mk ax ae ay) (1099511627776+64) mi/\(bV mi tn).count<upto/\i+yY upto (bV mi tn)<=19456/\j9 (Prog.mk ax ae ay) tn upto (20000-i) mi=j9 (Prog.mk ax ae ay) tn upto 20000 (aO.mk (Layout.mk aa aq) (aF.mk ak ah) au)) 19456 ?_ 0 (by simp) ?_
 ·rintro i S hi ⟨mi,iJ,⟨f2,f4,f8,f11,f12⟩,⟨X2,hh2⟩,qk,HI,GA,hK,Yp,hc,hle,heq⟩;have a1u:1<=yY upto (bV mi tn):=by
   have:=(Yp.bV n4).pc;unfold yY;omega
  have LZ:i<19456:=by omega
  have Pr:20000-i=(20000-(i+1))+1:=by omega
  have HI4:=HI.mono (k':=S.n+4) (h':=S.h) (by omega) fun _ _=>rfl;obtain⟨h',k',WZ,eo,G,g1,g2,g3⟩:=a1l ax ae ay .bad 0 S.h (S.n+4) 27 _ _ _ _ _ _ mi tn _ HI4 Yp (by omega) n4 ⟨34,by rw[qk]⟩;have GA2:oP 29 (.cx 34 0 aa.length) 49 128 211 WZ (qW 147 166 185 204):=by
   obtain⟨q1,q2,q3⟩:=GA;refine⟨q1,fun j hj=>⟨?_,(q2 j hj).2⟩,q3⟩;rcases g2 j hj with e|e
   ·rw[e];exact(q2 j hj).1
   ·omega
  have low: ∀x,x<27->h' x=S.h x:=fun x hx=>g3 x (by omega) (by omega) (by omega) (fun j hj=>by have:=GA.2.1 j hj;omega) (by omega) (by have:=GA.2.1 tn n4;omega);have z0:=low 0 (by omega);have z2:=low 2 (by omega);rw[X2]at z0;rw[hh2]at z2;have bx:=G.xQ;have gl:=G.len;unfold jE at bx;rw[gl,u7,qk]at bx;have gT:=G.pe;have gnl:tn<(lz (Prog.mk ax ae ay) mi tn).1.threads.length:=by rw[gl];exact n4
  have gg:=fY (ids:=qW 147 166 185 204) gnl;have Cr:=fA (qW 147 166 185 204) (lz (Prog.mk ax ae ay) mi tn).1.threads;rw[gl]at Cr;have gx:bV (lz (Prog.mk ax ae ay) mi tn).1 tn=(lz (Prog.mk ax ae ay) mi tn).1.threads[tn]:=iq gnl;have W0:(lz (Prog.mk ax ae ay) mi tn).1.layout=⟨aa,aq⟩:=by rw[u7];exact qk
  by_cases ho:(lz (Prog.mk ax ae ay) mi tn).2= -1
  case neg=>
   rw[<-heq,Pr,xu ho];simp[f2,f4,f8,f11,X2,eo,z2,bx,ho];exact fin _ _ _ _ _ _ _ W0 G GA2
  have zy:=eq_true ho;have hlf:=zR Yp n4 ho upto;by_cases W1:(bV (lz (Prog.mk ax ae ay) mi tn).1 tn).count=upto
  ·rw[<-heq,Pr,ze ho W1];rw[gx]at W1;simp[f2,f4,f8,f11,f12,X2,eo,z2,bx,zy,gT,gg,Cr,n4,t4,W1];exact fin _ _ _ _ _ _ _ W0 G GA2
  ·have a1w:=xw (k:=20000-(i+1)) ho W1;have a1x:=W1;rw[gx]at a1x;simp[f2,f4,f8,f11,f12,X2,eo,z0,z2,bx,zy,gT,gg,Cr,n4,t4,a1x,LZ];refine⟨(lz (Prog.mk ax ae ay) mi tn).1,W0,WZ,?_,GA2,by omega,EV Yp n4 (by omega),by omega,by omega,?_⟩
   ·exact G.mono (by omega) fun _ _=>rfl
   ·have hq:=a1w.symm;rw[<-Pr,heq]at hq;rw[show 19999-i=20000-(i+1) by omega];exact hq
 ·simp;refine⟨(aO.mk (Layout.mk aa aq) (aF.mk ak ah) au),rfl,qW 64 83 102 121,hbx _ _ ?_ ?_ (by omega),HB,MG.mono (by omega),by rw[hx];omega,?_,rfl⟩
  ·simp
  ·simp[y9,B6]
  ·have:=(MG.pe tn nl).pc;simp only at this;rw[hx];unfold yY;omega
def B5.own{v:V}(H:B5 r s e v h k):Mi X h v [(0,4,112)]=some (.dP [.agg (mo r),.int .i64 s,.int .i64 e]):=by
 obtain⟨vB,C,L,T,ids,bw,k0,rfl,HA⟩:=H;have hT:=HA.pe;have hl:=HA.len;have sE:=HA.mp.lines;have XV:=HA.mp.len;have nC: ¬C=T:=fun e=>HA.xr.1 e.symm;have nL: ¬L=T:=fun e=>HA.xr.2.1 e.symm;have u: ∀i,i≠T->aR h T none i=h i:=fun i hi=>by simp[aR,hi]
 have e1:=HA.EW (hx:=aR h T none) (fun i hi=>u _ (HA.qR i hi).2.2.1) 10;have e2:=HA.zS (hx:=aR h T none) (fun i hi=>u _ (HA.Sm i hi)) 9;have l1:=fA bw r.threads;have l2:=jh ids r.memory.lines;rw[hl]at l1;rw[sE]at l2;have t1:(cG bw r.threads).take 4=cG bw r.threads:=aZ (by omega);have t2:(fW ids r.memory.lines).take 4=fW ids r.memory.lines:=aZ (by omega);have t3:(r.memory.cells.map Cell.e).take 512=r.memory.cells.map Cell.e:=aZ (by simp;omega);have t4:(r.threads.map Thread.e).take 4=r.threads.map Thread.e:=aZ (by simp;omega);unfold jE mo;rcases HA.aD with e|⟨B,e,g1,g2,g3,g4⟩
 ·simp[e,hT,hl,XV,nC,nL,HA.mem.cells,HA.mem.lines,l1,l2,t1,t2,t3,e1,e2]
 ·have nB: ¬B=T:=g2.2.2.1;simp[e,g1,hT,hl,XV,nB,nC,nL,HA.mem.cells,HA.mem.lines,l1,l2,t1,t2,t3,e1,e2]
def B5.ng{g:FuncId}{args:List V}{r:aO}{s e:Int}(H: ∃v h k,cL X g args pK 0=some (v,h,k)/\B5 r s e v h k):ng X [(0,4,112)] g args=some (.dP [.agg (mo r),s,e]):=by
 obtain⟨v,h,k,e1,hr⟩:=H;unfold Go.Abs.ng;rw[e1];exact hr.own
@[simp]def alw(ax:List Instr)(ae:List Int)(ay:List (List Int))(aa:List Int)(aq:Int)(ak:List Cell)(ah:List cw)(au:List Thread)(t n:Int)(hr:As (aO.mk (Layout.mk aa aq) (aF.mk ak ah) au))(hv:jU (Prog.mk ax ae ay) (aO.mk (Layout.mk aa aq) (aF.mk ak ah) au)=true)(ht:0<=t/\t<4)(hn:1<=n/\n<=64):ng X [(0,4,112)] 193 [KKQ ax ae ay,KKY aa aq ak ah au,.int .i64 t,.int .i64 n]=some (.dP [KKK ((dQ (Prog.mk ax ae ay) (aO.mk (Layout.mk aa aq) (aF.mk ak ah) au) t.toNat n).1),.int .i64 ((dQ (Prog.mk ax ae ay) (aO.mk (Layout.mk aa aq) (aF.mk ak ah) au) t.toNat n).2),.int .i64 0]):=by
 obtain⟨k,rfl⟩:=aaG ht.1;exact B5.ng (alv ax ae ay aa aq ak ah au k n k hr hv (by omega) hn)
end Go.Proofs.YtdngefmliibcgaaGreat
