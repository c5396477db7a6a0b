/- Part of a proof: F11. -/
import Derived.Test.YtejohpnpnaljdaaGreatM31
import Derived.Test.YtejohpnpnaljdaaGreatM32
import Derived.Test.YtejohpnpnaljdaaGreatM33
set_option linter.all false
set_option maxRecDepth 20000
set_option maxHeartbeats 20000000
namespace Go.Proofs.YtejohpnpnaljdaaGreat
open Go Go.Abs Go.Abs.lu
def pG(a b c d i:Nat):Nat:=if i=0 then a else if i=1 then b else if i=2 then c else d
theorem Va(a b c d:Nat)(l0 l1 l2 l3:cx):dY (pG a b c d) [l0,l1,l2,l3]=[.agg [.int .i64 l0.tag,.bool l0.iw,.bU a 0 l0.cells.length],.agg [.int .i64 l1.tag,.bool l1.iw,.bU b 0 l1.cells.length],.agg [.int .i64 l2.tag,.bool l2.iw,.bU c 0 l2.cells.length],.agg [.int .i64 l3.tag,.bool l3.iw,.bU d 0 l3.cells.length]]:=rfl
theorem II(a b c d:Nat)(x0 x1 x2 x3:Thread):bZ (pG a b c d) [x0,x1,x2,x3]=[db (pG a b c d) 0 x0,db (pG a b c d) 1 x1,db (pG a b c d) 2 x2,db (pG a b c d) 3 x3]:=rfl
theorem ji{P:Nat->Prop}{a b c d:Nat}(h:P a/\P b/\P c/\P d)(i:Nat)(hi:i<4):P (pG a b c d i):=by
 have:i=0\/i=1\/i=2\/i=3:=by omega
 rcases this with rfl|rfl|rfl|rfl
 ·exact h.1
 ·exact h.2.1
 ·exact h.2.2.1
 ·exact h.2.2.2
theorem Na{P:Nat->Nat->Prop}{a b c d a' b' c' d':Nat}(h:(P a a'/\P a b'/\P a c'/\P a d')/\(P b a'/\P b b'/\P b c'/\P b d')/\(P c a'/\P c b'/\P c c'/\P c d')/\(P d a'/\P d b'/\P d c'/\P d d'))(i j:Nat)(hi:i<4)(hj:j<4):P (pG a b c d i) (pG a' b' c' d' j):=
 ji (P:=fun x=>P x (pG a' b' c' d' j)) ⟨ji h.1 j hj,ji h.2.1 j hj,ji h.2.2.1 j hj,ji h.2.2.2 j hj⟩ i hi
theorem FT{a b c d:Nat}(h:a≠b/\a≠c/\a≠d/\b≠c/\b≠d/\c≠d)(i j:Nat)(hi:i<4)(hj:j<4)(jk:i≠j):pG a b c d i≠pG a b c d j:=by
 have e1:i=0\/i=1\/i=2\/i=3:=by omega
 have e2:j=0\/j=1\/j=2\/j=3:=by omega
 rcases e1 with rfl|rfl|rfl|rfl<;>rcases e2 with rfl|rfl|rfl|rfl<;>simp only[pG]<;>simp<;>omega
structure amq (m:aK) (v:V) (h:aY) (C L i0 i1 i2 i3:Nat):Prop where
 val:v= .agg [.bU C 0 512,.bU L 0 4]
 cells:h C=some ⟨2,m.cells.map Cell.e,false⟩
 lines:h L=some ⟨3,dY (pG i0 i1 i2 i3) m.lines,true⟩
 line: ∀i (g:i<m.lines.length),h (pG i0 i1 i2 i3 i)=some ⟨2,(m.lines[i]).cells.map Cell.e,false⟩
theorem pn.four{m:aK}(h:pn m):m.cells.length=512/\ ∃l0 l1 l2 l3,m.lines=[l0,l1,l2,l3]/\l0.cells.length<=1000000000/\l1.cells.length<=1000000000/\l2.cells.length<=1000000000/\l3.cells.length<=1000000000:=by
 obtain⟨l0,l1,l2,l3,e⟩:=DB h.mem.lines;have hx: ∀i (g:i<m.lines.length),(m.lines[i]).cells.length<=1000000000:=fun i g=>by
  have:=h.mem.line i g;by_cases e:(m.lines[i]).tag= -1
  ·rw[(this.none e).2];simp
  ·rw[(this.some e).2.2.2];omega
 rw[e]at hx;have h0:=hx 0 (by simp);have h1:=hx 1 (by simp);have h2:=hx 2 (by simp);have h3:=hx 3 (by simp);exact⟨h.mem.len,l0,l1,l2,l3,e,h0,h1,h2,h3⟩
theorem cR.four{p:Prog}{c:Int}{m:bf}(h:cR p c m): ∃x0 x1 x2 x3,m.threads=[x0,x1,x2,x3]/\x0.bm.length=8/\x1.bm.length=8/\x2.bm.length=8/\x3.bm.length=8:=by
 obtain⟨x0,x1,x2,x3,e⟩:=DB h.len;have hx:=h.nv;rw[e]at hx;exact⟨x0,x1,x2,x3,e,(hx 0 (by simp)).bm,(hx 1 (by simp)).bm,(hx 2 (by simp)).bm,(hx 3 (by simp)).bm⟩
@[simp] theorem YP(cX:List Cell)(bM:List cx)(k:Nat)(hM:pn (aK.mk cX bM)): ∃v h' k',cy X 87 [.agg [cX,bM]] m8 k=some (v,h',k')/\k'=k+91/\amq (aK.mk cX bM) v h' (k+4) (k+83) (k+19) (k+38) (k+57) (k+76):=by
 obtain⟨hc,l0,l1,l2,l3,e,h0,h1,h2,h3⟩:=hM.four;simp only at hc e;subst e;clear hM;obtain⟨v,h',k',e,g⟩:=bu (X:=X) (g:=87) (args:=[.agg [cX,.sl false (([l0,l1,l2,l3]:List cx).map cx.e)]]) (h:=m8) (k:=k) (K:=fun v h k'=>v= .agg [.bU (k+4) 0 512,.bU (k+83) 0 4]/\k'=k+91/\h (k+4)=some ⟨2,cX.map Cell.e,false⟩/\h (k+83)=some ⟨3,[.agg [.int .i64 l0.tag,.bool l0.iw,.bU (k+19) 0 l0.cells.length],.agg [.int .i64 l1.tag,.bool l1.iw,.bU (k+38) 0 l1.cells.length],.agg [.int .i64 l2.tag,.bool l2.iw,.bU (k+57) 0 l2.cells.length],.agg [.int .i64 l3.tag,.bool l3.iw,.bU (k+76) 0 l3.cells.length]],true⟩/\h (k+19)=some ⟨2,l0.cells.map Cell.e,false⟩/\h (k+38)=some ⟨2,l1.cells.map Cell.e,false⟩/\h (k+57)=some ⟨2,l2.cells.map Cell.e,false⟩/\h (k+76)=some ⟨2,l3.cells.map Cell.e,false⟩) Tryz.func87 rfl rfl (by
  simp-implicitDefEqProofs[di,Nat.add_assoc,hc];all_goals ((repeat' (first|apply And.intro|intro _))<;>first|omega|rfl))
 obtain⟨g1,g2,g3,g4,g5,g6,g7,g8⟩:=g;refine⟨v,h',k',e,g2,g1,g3,by rw[Va];exact g4,fun i hi=> ?_⟩;have:i=0\/i=1\/i=2\/i=3:=by simp at hi;omega
 rcases this with rfl|rfl|rfl|rfl
 ·exact g5
 ·exact g6
 ·exact g7
 ·exact g8
@[simp] theorem YQ(cX:List Cell)(bM:List cx)(k:Nat)(hM:pn (aK.mk cX bM)): ∃v h' k',cy X 151 [.agg [cX,bM]] m8 k=some (v,h',k')/\k'=k+96/\amq (aK.mk cX bM) v h' (k+11) (k+12) (k+33) (k+52) (k+71) (k+90):=by
 obtain⟨hc,l0,l1,l2,l3,e,h0,h1,h2,h3⟩:=hM.four;simp only at hc e;subst e;clear hM;obtain⟨v,h',k',e,g⟩:=bu (X:=X) (g:=151) (args:=[.agg [cX,.sl false (([l0,l1,l2,l3]:List cx).map cx.e)]]) (h:=m8) (k:=k) (K:=fun v h k'=>v= .agg [.bU (k+11) 0 512,.bU (k+12) 0 4]/\k'=k+96/\h (k+11)=some ⟨2,cX.map Cell.e,false⟩/\h (k+12)=some ⟨3,[.agg [.int .i64 l0.tag,.bool l0.iw,.bU (k+33) 0 l0.cells.length],.agg [.int .i64 l1.tag,.bool l1.iw,.bU (k+52) 0 l1.cells.length],.agg [.int .i64 l2.tag,.bool l2.iw,.bU (k+71) 0 l2.cells.length],.agg [.int .i64 l3.tag,.bool l3.iw,.bU (k+90) 0 l3.cells.length]],true⟩/\h (k+33)=some ⟨2,l0.cells.map Cell.e,false⟩/\h (k+52)=some ⟨2,l1.cells.map Cell.e,false⟩/\h (k+71)=some ⟨2,l2.cells.map Cell.e,false⟩/\h (k+90)=some ⟨2,l3.cells.map Cell.e,false⟩) Tryz.func151 rfl rfl (by
  simp-implicitDefEqProofs[di,Nat.add_assoc,hc];all_goals ((repeat' (first|apply And.intro|intro _))<;>first|omega|rfl))
 obtain⟨g1,g2,g3,g4,g5,g6,g7,g8⟩:=g;refine⟨v,h',k',e,g2,g1,g3,by rw[Va];exact g4,fun i hi=> ?_⟩;have:i=0\/i=1\/i=2\/i=3:=by simp at hi;omega
 rcases this with rfl|rfl|rfl|rfl
 ·exact g5
 ·exact g6
 ·exact g7
 ·exact g8
@[simp] theorem Bj(aa:List Int)(aw:Int)(aq:List Cell)(an:List cx)(ax:List Thread)(k:Nat)(p:Prog)(c:Int)(HG:cR p c (bf.mk (aN.mk aa aw) (aK.mk aq an) ax)): ∃v h' k',cy X 40 [(aa,aw,aq,an,ax)] m8 k=some (v,h',k')/\k'=k+190/\v=jo (.bU (k+5) 0 aa.length) (k+20) (k+99) (k+182) (bf.mk (aN.mk aa aw) (aK.mk aq an) ax)/\gP h' k' (.bU (k+5) 0 aa.length) (k+20) (k+99) (k+182) (pG (k+35) (k+54) (k+73) (k+92)) (pG (k+118) (k+137) (k+156) (k+175)) (bf.mk (aN.mk aa aw) (aK.mk aq an) ax)/\na k (.bU (k+5) 0 aa.length) (k+20) (k+99) (k+182) (pG (k+35) (k+54) (k+73) (k+92)) (pG (k+118) (k+137) (k+156) (k+175)):=by
 have Vb:pn ⟨aq,an⟩:=HG.mem;obtain⟨x0,x1,x2,x3,e,r0,r1,r2,r3⟩:=HG.four;simp only at e;subst e;have sW:aa.length<=1000000000:=HG.lens.aD;obtain⟨vm,hm,km,em,ekm,MC⟩:=YP aq an (k+16) Vb;have emv:=MC.val;simp only[Nat.add_assoc,Nat.reduceAdd]at em ekm MC emv;subst ekm;subst emv;obtain⟨v,h',k',e,g⟩:=bu (X:=X) (g:=40) (args:=[.agg [aa,.int .u16 aw,aq,an,.sl false (([x0,x1,x2,x3]:List Thread).map Thread.e)]]) (h:=m8) (k:=k) (K:=fun v h k'=>v= .agg [.bU (k+5) 0 aa.length,.int .u16 aw,.bU (k+20) 0 512,.bU (k+99) 0 4,.bU (k+182) 0 4]/\k'=k+190/\h (k+5)=some ⟨1,aa.map (V.int .i64),false⟩/\h (k+20)=hm (k+20)/\h (k+99)=hm (k+99)/\h (k+35)=hm (k+35)/\h (k+54)=hm (k+54)/\h (k+73)=hm (k+73)/\h (k+92)=hm (k+92)/\h (k+182)=some ⟨8,[.agg [.int .i64 x0.state,.bU (k+118) 0 x0.bm.length,.int .i64 x0.pc,.int .i64 x0.count,.int .i64 x0.bV,.int .i64 x0.saved,.int .i64 x0.dd,.int .u16 x0.code],.agg [.int .i64 x1.state,.bU (k+137) 0 x1.bm.length,.int .i64 x1.pc,.int .i64 x1.count,.int .i64 x1.bV,.int .i64 x1.saved,.int .i64 x1.dd,.int .u16 x1.code],.agg [.int .i64 x2.state,.bU (k+156) 0 x2.bm.length,.int .i64 x2.pc,.int .i64 x2.count,.int .i64 x2.bV,.int .i64 x2.saved,.int .i64 x2.dd,.int .u16 x2.code],.agg [.int .i64 x3.state,.bU (k+175) 0 x3.bm.length,.int .i64 x3.pc,.int .i64 x3.count,.int .i64 x3.bV,.int .i64 x3.saved,.int .i64 x3.dd,.int .u16 x3.code]],true⟩/\h (k+118)=some ⟨2,x0.bm.map Cell.e,false⟩/\h (k+137)=some ⟨2,x1.bm.map Cell.e,false⟩/\h (k+156)=some ⟨2,x2.bm.map Cell.e,false⟩/\h (k+175)=some ⟨2,x3.bm.map Cell.e,false⟩) Tryz.func40 rfl rfl (by
  simp-implicitDefEqProofs[di,Nat.add_assoc,em,r0,r1,r2,r3];all_goals ((repeat' (first|apply And.intro|intro _))<;>first|omega|rfl))
 obtain⟨g1,g2,gB,gC,gL,i0,i1,i2,i3,gT,t0,t1,t2,t3⟩:=g;subst g2;refine⟨v,h',_,e,rfl,by rw[g1];rfl,?_,⟨⟨by omega,by omega,by omega⟩,fun j hj=>⟨ji (P:=fun x=>k<=x) (by omega) j hj,ji (P:=fun x=>k<=x) (by omega) j hj⟩,fun B s n hB=> ?_⟩⟩
 ·refine⟨Vb.mem,⟨by rw[gC];exact MC.cells,by rw[gL];exact MC.lines,fun i hi=> ?_⟩,⟨by omega,fun i hi=>ji (P:=fun x=>x≠k+20) (by omega) i hi,fun i hi=>ji (P:=fun x=>x≠k+99) (by omega) i hi,fun i j hi hj jk=>FT (by omega) i j hi hj jk⟩,
   ⟨by omega,by omega,fun i hi=>ji (P:=fun x=>x<k+190) (by omega) i hi⟩,?_,by rw[II];simp only[db];exact gT,fun i hi=> ?_,rfl,⟨by omega,by omega,by omega⟩,fun i hi=>ji (P:=fun x=>x≠k+182) (by omega) i hi,
   fun i hi=>ji (P:=fun x=>x≠k+20/\x≠k+99/\x≠k+182/\x<k+190) (by omega) i hi,fun i j hi hj=>Ne.symm (Na (P:=fun x y=>x≠y) (by omega) i j hi hj),fun i j hi hj jk=>FT (by omega) i j hi hj jk⟩
  ·have uk:i<4:=by have:=Vb.mem.lines;simp only at this hi;omega
   have uj:=MC.line i hi;have:i=0\/i=1\/i=2\/i=3:=by omega
   rcases this with rfl|rfl|rfl|rfl
   ·rw[<-uj];exact i0
   ·rw[<-uj];exact i1
   ·rw[<-uj];exact i2
   ·rw[<-uj];exact i3
  ·exact .inr ⟨k+5,rfl,gB,⟨by omega,by omega,by omega,by omega⟩,fun j hj=>ji (P:=fun x=>x≠k+5) (by omega) j hj,fun j hj=>ji (P:=fun x=>x≠k+5) (by omega) j hj⟩
  ·have:i=0\/i=1\/i=2\/i=3:=by simp at hi;omega
   rcases this with rfl|rfl|rfl|rfl
   ·exact t0
   ·exact t1
   ·exact t2
   ·exact t3
 ·cases hB;omega
@[simp] theorem YR(aa:List Int)(aw:Int)(aq:List Cell)(an:List cx)(ax:List Thread)(k:Nat)(p:Prog)(c:Int)(HG:cR p c (bf.mk (aN.mk aa aw) (aK.mk aq an) ax)): ∃v h' k',cy X 109 [(aa,aw,aq,an,ax)] m8 k=some (v,h',k')/\k'=k+194/\v=jo (.sl false (aa.map (V.int .i64))) (k+22) (k+23) (k+186) (bf.mk (aN.mk aa aw) (aK.mk aq an) ax)/\gP h' k' (.sl false (aa.map (V.int .i64))) (k+22) (k+23) (k+186) (pG (k+44) (k+63) (k+82) (k+101)) (pG (k+121) (k+141) (k+161) (k+181)) (bf.mk (aN.mk aa aw) (aK.mk aq an) ax)/\na k (.sl false (aa.map (V.int .i64))) (k+22) (k+23) (k+186) (pG (k+44) (k+63) (k+82) (k+101)) (pG (k+121) (k+141) (k+161) (k+181)):=by
 have Vb:pn ⟨aq,an⟩:=HG.mem;obtain⟨x0,x1,x2,x3,e,r0,r1,r2,r3⟩:=HG.four;simp only at e;subst e;have sW:aa.length<=1000000000:=HG.lens.aD;obtain⟨vm,hm,km,em,ekm,MC⟩:=YQ aq an (k+11) Vb;have emv:=MC.val;simp only[Nat.add_assoc,Nat.reduceAdd]at em ekm MC emv;subst ekm;subst emv;obtain⟨v,h',k',e,g⟩:=bu (X:=X) (g:=109) (args:=[.agg [aa,.int .u16 aw,aq,an,.sl false (([x0,x1,x2,x3]:List Thread).map Thread.e)]]) (h:=m8) (k:=k) (K:=fun v h k'=>v= .agg [aa,.int .u16 aw,.bU (k+22) 0 512,.bU (k+23) 0 4,.bU (k+186) 0 4]/\k'=k+194/\h (k+22)=hm (k+22)/\h (k+23)=hm (k+23)/\h (k+44)=hm (k+44)/\h (k+63)=hm (k+63)/\h (k+82)=hm (k+82)/\h (k+101)=hm (k+101)/\h (k+186)=some ⟨8,[.agg [.int .i64 x0.state,.bU (k+121) 0 x0.bm.length,.int .i64 x0.pc,.int .i64 x0.count,.int .i64 x0.bV,.int .i64 x0.saved,.int .i64 x0.dd,.int .u16 x0.code],.agg [.int .i64 x1.state,.bU (k+141) 0 x1.bm.length,.int .i64 x1.pc,.int .i64 x1.count,.int .i64 x1.bV,.int .i64 x1.saved,.int .i64 x1.dd,.int .u16 x1.code],.agg [.int .i64 x2.state,.bU (k+161) 0 x2.bm.length,.int .i64 x2.pc,.int .i64 x2.count,.int .i64 x2.bV,.int .i64 x2.saved,.int .i64 x2.dd,.int .u16 x2.code],.agg [.int .i64 x3.state,.bU (k+181) 0 x3.bm.length,.int .i64 x3.pc,.int .i64 x3.count,.int .i64 x3.bV,.int .i64 x3.saved,.int .i64 x3.dd,.int .u16 x3.code]],true⟩/\h (k+121)=some ⟨2,x0.bm.map Cell.e,false⟩/\h (k+141)=some ⟨2,x1.bm.map Cell.e,false⟩/\h (k+161)=some ⟨2,x2.bm.map Cell.e,false⟩/\h (k+181)=some ⟨2,x3.bm.map Cell.e,false⟩) Tryz.func109 rfl rfl (by
  simp-implicitDefEqProofs[di,Nat.add_assoc,sW,em,r0,r1,r2,r3];all_goals ((repeat' (first|apply And.intro|intro _))<;>first|omega|rfl))
 obtain⟨g1,g2,gC,gL,i0,i1,i2,i3,gT,t0,t1,t2,t3⟩:=g;subst g2;refine⟨v,h',_,e,rfl,by rw[g1];rfl,?_,⟨⟨by omega,by omega,by omega⟩,fun j hj=>⟨ji (P:=fun x=>k<=x) (by omega) j hj,ji (P:=fun x=>k<=x) (by omega) j hj⟩,fun B s n hB=> ?_⟩⟩
 ·refine⟨Vb.mem,⟨by rw[gC];exact MC.cells,by rw[gL];exact MC.lines,fun i hi=> ?_⟩,⟨by omega,fun i hi=>ji (P:=fun x=>x≠k+22) (by omega) i hi,fun i hi=>ji (P:=fun x=>x≠k+23) (by omega) i hi,fun i j hi hj jk=>FT (by omega) i j hi hj jk⟩,
   ⟨by omega,by omega,fun i hi=>ji (P:=fun x=>x<k+194) (by omega) i hi⟩,?_,by rw[II];simp only[db];exact gT,fun i hi=> ?_,rfl,⟨by omega,by omega,by omega⟩,fun i hi=>ji (P:=fun x=>x≠k+186) (by omega) i hi,
   fun i hi=>ji (P:=fun x=>x≠k+22/\x≠k+23/\x≠k+186/\x<k+194) (by omega) i hi,fun i j hi hj=>Ne.symm (Na (P:=fun x y=>x≠y) (by omega) i j hi hj),fun i j hi hj jk=>FT (by omega) i j hi hj jk⟩
  ·have uk:i<4:=by have:=Vb.mem.lines;simp only at this hi;omega
   have uj:=MC.line i hi;have:i=0\/i=1\/i=2\/i=3:=by omega
   rcases this with rfl|rfl|rfl|rfl
   ·rw[<-uj];exact i0
   ·rw[<-uj];exact i1
   ·rw[<-uj];exact i2
   ·rw[<-uj];exact i3
  ·exact .inl rfl
  ·have:i=0\/i=1\/i=2\/i=3:=by simp at hi;omega
   rcases this with rfl|rfl|rfl|rfl
   ·exact t0
   ·exact t1
   ·exact t2
   ·exact t3
 ·cases hB
def fG:bf:=⟨⟨[],0⟩,⟨[],[]⟩,[]⟩
def yu(r:bf)(s e:Int)(v:V)(h:aY)(k:Nat):Prop:= ∃vB C L T ids aZ k0,v= .de [jo vB C L T r,.int .i64 s,.int .i64 e]/\gP h k0 vB C L T ids aZ r
theorem yu.dy{r:bf}{s e:Int}{v:V}{h:aY}{k:Nat}(H:yu r s e v h k):(bT h depth v).map V.jm=some (.de [.agg (kv r),.int .i64 s,.int .i64 e]):=by
 obtain⟨vB,C,L,T,ids,aZ,k0,rfl,HA⟩:=H;have:=HA.dy 5;simp only[depth];simp[bT,cn,this,V.jm,df,LC]
theorem yu.cz{g:FuncId}{args:List V}{r:bf}{s e:Int}(H: ∃v h k,cy X g args m8 0=some (v,h,k)/\yu r s e v h k):cz X g args=some (.de [.agg (kv r),s,e]):=by
 obtain⟨v,h,k,e1,hr⟩:=H;have e2:cy X g args (fun _=>none) 0=some (v,h,k):=e1;unfold Go.Abs.cz;rw[e2];exact hr.dy
def LG(a:Nat)(h1 h:aY):Prop:= ∀i,a<=i->h i=h1 i
theorem uV{a j:Nat}{h1 h:aY}{v:Option Ob}(hj:j<a):LG a h1 (aO h j v)=LG a h1 h:=by
 apply propext;constructor<;>intro g i hi
 ·have:=g i hi;rwa[aO,if_neg (by omega)]at this
 ·rw[aO,if_neg (by omega)];exact g i hi
theorem yv(a:Nat)(h0 h1:aY):LG a h1 (fun id=>if id<a then h0 id else h1 id)=True:=eq_true fun i hi=>by simp;omega
theorem Vc{h1 H:aY}{a k K b C L T:Nat}{vB:V}{ids aZ:Nat->Nat}{m:bf}(hb:H b=some ⟨5,[jo vB C L T m],true⟩)(hba:b<a)(hbK:b<K)(hK:k<=K)(HA:gP h1 k vB C L T ids aZ m)(HB:na a vB C L T ids aZ)(hO:LG a h1 H):dc H K b vB C L T ids aZ m:=by
 have HA2:gP H K vB C L T ids aZ m:=HA.mono HB hK fun i hi _=>hO i hi;obtain⟨⟨a1,a2,a3⟩,aI,aB⟩:=HB;exact HA2.box (fun _=>⟨fun B s n e=>by have:=aB _ _ _ e;omega,by omega,by omega,by omega,fun j hj=>by have:=aI j hj;omega⟩) hbK (Nat.le_refl _) hb fun _ _ _=>rfl
def AY(p:Prog)(m:bf)(t:Int):bf×Int×Int:=
 if jc p m=true/\0<=t/\t<4 then(if(cg m t.toNat).state=1 then((hZ p m t.toNat).1,(hZ p m t.toNat).2,0) else(fG,0,10)) else(fG,0,1)
theorem YS{p:Prog}{m:bf}{t:Int}(h: ¬(jc p m=true/\0<=t/\t<4)):AY p m t=(fG,0,1):=if_neg h
def pr(p:Prog)(m:bf)(t n:Int):bf×Int×Int:=
 if jc p m=true/\(0<=t/\t<4)/\1<=n/\n<=64 then((dm p m t.toNat n).1,(dm p m t.toNat n).2,0) else(fG,0,1)
theorem zB{p:Prog}{m:bf}{t n:Int}(h: ¬(jc p m=true/\(0<=t/\t<4)/\1<=n/\n<=64)):pr p m t n=(fG,0,1):=if_neg h
theorem yw{p:Prog}{t:Nat}{upto:Int}{k:Nat}{m:bf}(h: ¬(hZ p m t).2= -1):dI p t upto (k+1) m=hZ p m t:=by rw[dI,if_neg h]
theorem Am{p:Prog}{t:Nat}{upto:Int}{k:Nat}{m:bf}(h:(hZ p m t).2= -1)(hc:(cg (hZ p m t).1 t).count=upto):dI p t upto (k+1) m=((hZ p m t).1,0):=by
 rw[dI,if_pos h];exact if_pos hc
theorem yx{p:Prog}{t:Nat}{upto:Int}{k:Nat}{m:bf}(h:(hZ p m t).2= -1)(hc: ¬(cg (hZ p m t).1 t).count=upto):dI p t upto (k+1) m=dI p t upto k (hZ p m t).1:=by
 rw[dI,if_pos h];exact if_neg hc
theorem rM(p:Prog)(m:bf)(t:Nat):(hZ p m t).1.layout=m.layout:=rfl
@[simp] theorem YT(ay:List Instr)(ah:List Int)(az:List (List Int))(aa:List Int)(aw:Int)(aq:List Cell)(an:List cx)(ax:List Thread)(t n:Int)(tn:Nat)(hr:yl (bf.mk (aN.mk aa aw) (aK.mk aq an) ax))(hv:jc (Prog.mk ay ah az) (bf.mk (aN.mk aa aw) (aK.mk aq an) ax)=true)(n4:tn<4)(hn:1<=n/\n<=64): ∃v h k,cy X 24 [(ay,ah,az),.agg (kv (bf.mk (aN.mk aa aw) (aK.mk aq an) ax)),(tn:Int),n] m8 0=some (v,h,k)/\yu (dm (Prog.mk ay ah az) (bf.mk (aN.mk aa aw) (aK.mk aq an) ax) tn n).1 (dm (Prog.mk ay ah az) (bf.mk (aN.mk aa aw) (aK.mk aq an) ax) tn n).2 0 v h k:=by
 have MG:=uT hr hv;have hp:=MG.prog.lens;have hm:=MG.lens;have hl:ax.length=4:=MG.len;have nl:tn<ax.length:=by omega
 have hx:cg (bf.mk (aN.mk aa aw) (aK.mk aq an) ax) tn=ax[tn]:=ie nl;obtain⟨v1,h1,k1,eC,ek,ev,HA,HB⟩:=Bj aa aw aq an ax 29 (Prog.mk ay ah az) _ MG;subst ek;subst ev;simp only[Nat.reduceAdd]at eC HA HB;have t0:(0:Int)<=tn:=by omega
 have QZ: ¬(tn:Int)<0:=by omega
 have t4:(tn:Int)<4:=by omega
 have WT: ¬(4:Int)<=tn:=by omega
 have Nb: ¬n<1:=by omega
 have FU: ¬64<n:=by omega
 have hbx: ∀(H:aY) (K:Nat),H 27=some ⟨5,[.agg [.bU 34 0 aa.length,.int .u16 aw,.bU 49 0 512,.bU 128 0 4,.bU 211 0 4]],true⟩->LG 29 h1 H->219<=K->dc H K 27 (.bU 34 0 aa.length) 49 128 211 (pG 64 83 102 121) (pG 147 166 185 204) (bf.mk (aN.mk aa aw) (aK.mk aq an) ax):=fun H K hb hO hK=>
  Vc (by rw[hb];unfold jo;simp only[hl]) (by omega) (by omega) hK HA HB hO
 have fin: ∀(H:aY) (K k':Nat) (x:Option Ob) (ft:Nat->Nat) (r:bf) (s:Int),r.layout=⟨aa,aw⟩->dc H K 27 (.bU 34 0 aa.length) 49 128 211 ft (pG 147 166 185 204) r->na 29 (.bU 34 0 aa.length) 49 128 211 ft (pG 147 166 185 204)->
   yu r s 0 (.de [.agg [.bU 34 0 aa.length,.int .u16 aw,.bU 49 0 512,.bU 128 0 4,.bU 211 0 4],.int .i64 s,.int .i64 0]) (aO H 2 x) k':=fun H K k' x ft r s nb G GA=>by
  refine⟨_,49,128,211,ft,_,_,?_,G.at.mono GA (Nat.le_refl _) fun i hi _=>by simp[aO];intro e;omega⟩;unfold jo;rw[G.len,nb]
 by_cases hs:(ax[tn]).state=1
 case neg=>
  have e:dm (Prog.mk ay ah az) (bf.mk (aN.mk aa aw) (aK.mk aq an) ax) tn n=((bf.mk (aN.mk aa aw) (aK.mk aq an) ax),3):=by unfold dm;rw[show(bf.threads (bf.mk (aN.mk aa aw) (aK.mk aq an) ax)).getD tn da=ax[tn] from hx];exact if_neg hs
  rw[e];unfold kv;refine bu (X:=X) Tryz.func24 rfl rfl ?_;simp-implicitDefEqProofs[hp,hm,hv,t0,QZ,t4,WT,Nb,FU,n4,hl,hs,eC,mC,nw];refine fin _ 300 _ _ _ _ _ rfl (hbx _ _ ?_ ?_ (by omega)) HB;all_goals simp[uV,yv]
 have ln:=eq_true hs;obtain⟨upto,jX⟩: ∃u,(ax[tn]).count+n=u:=⟨_,rfl⟩;have hcx:=(MG.nv tn nl).count;simp only at hcx;have hwu:IntKind.i64.wrap ((ax[tn]).count+n)=upto:=by rw[jX];exact wrap_i64 (by omega)
 have e:dm (Prog.mk ay ah az) (bf.mk (aN.mk aa aw) (aK.mk aq an) ax) tn n=dI (Prog.mk ay ah az) tn upto 20000 (bf.mk (aN.mk aa aw) (aK.mk aq an) ax):=by
  unfold dm;rw[show(bf.threads (bf.mk (aN.mk aa aw) (aK.mk aq an) ax)).getD tn da=ax[tn] from hx,if_pos hs,jX]
 rw[e];have hT:=HA.nv;have gg0:=eF (ids:=pG 147 166 185 204) nl;have amu:=ed (pG 147 166 185 204) ax;rw[hl]at amu;unfold kv;refine bu (X:=X) Tryz.func24 rfl rfl ?_;simp-implicitDefEqProofs[hp,hm,hv,t0,QZ,t4,WT,Nb,FU,n4,hl,ln,eC,mC,nw,hwu,hT,gg0,amu];refine cP (fun i S=> ∃mi ft,(S.f 2= .int .i64 tn/\S.f 4= .ptr 0 0 0/\S.f 8= .ptr 2 0 0/\S.f 11= .ptr 27 0 0/\S.f 12= .int .i64 upto)/\
   (S.h 0=some ⟨3,[.agg [ay,ah,az]],true⟩/\S.h 2=some ⟨5,[.agg [.sl true [],.int .u16 0,.sl true [],.sl true [],.sl true []]],true⟩)/\
   mi.layout=⟨aa,aw⟩/\dc S.h S.n 27 (.bU 34 0 aa.length) 49 128 211 ft (pG 147 166 185 204) mi/\na 29 (.bU 34 0 aa.length) 49 128 211 ft (pG 147 166 185 204)/\29<=S.n/\
   cR (Prog.mk ay ah az) (1099511627776+64) mi/\(cg mi tn).count<upto/\i+oD upto (cg mi tn)<=19456/\dI (Prog.mk ay ah az) tn upto (20000-i) mi=dI (Prog.mk ay ah az) tn upto 20000 (bf.mk (aN.mk aa aw) (aK.mk aq an) ax)) 19456 ?_ 0 (by simp) ?_
 ·rintro i S hi ⟨mi,ft,⟨f2,f4,f8,f11,f12⟩,⟨QI,hh2⟩,nb,HI,GA,hK,Q0,hc,hle,heq⟩;have amv:1<=oD upto (cg mi tn):=by
   have:=(Q0.cg n4).pc;unfold oD;omega
  have GW:i<19456:=by omega
  have QF:20000-i=(20000-(i+1))+1:=by omega
  have HI4:=HI.mono (k':=S.n+4) (h':=S.h) (by omega) fun _ _=>rfl;obtain⟨h',k',FV,eo,G,g1,g2,g3⟩:=amp ay ah az .bad 0 S.h (S.n+4) 27 _ _ _ _ _ _ mi tn _ HI4 Q0 (by omega) n4 ⟨34,by rw[nb]⟩;have GA2:na 29 (.bU 34 0 aa.length) 49 128 211 FV (pG 147 166 185 204):=by
   obtain⟨q1,q2,q3⟩:=GA;refine⟨q1,fun j hj=>⟨?_,(q2 j hj).2⟩,q3⟩;rcases g2 j hj with e|e
   ·rw[e];exact(q2 j hj).1
   ·omega
  have low: ∀x,x<27->h' x=S.h x:=fun x hx=>g3 x (by omega) (by omega) (by omega) (fun j hj=>by have:=GA.2.1 j hj;omega) (by omega) (by have:=GA.2.1 tn n4;omega);have z0:=low 0 (by omega);have z2:=low 2 (by omega);rw[QI]at z0;rw[hh2]at z2;have bx:=G.sE;have gl:=G.len;unfold jo at bx;rw[gl,rM,nb]at bx;have gT:=G.nv;have gnl:tn<(hZ (Prog.mk ay ah az) mi tn).1.threads.length:=by rw[gl];exact n4
  have gg:=eF (ids:=pG 147 166 185 204) gnl;have Ct:=ed (pG 147 166 185 204) (hZ (Prog.mk ay ah az) mi tn).1.threads;rw[gl]at Ct;have gx:cg (hZ (Prog.mk ay ah az) mi tn).1 tn=(hZ (Prog.mk ay ah az) mi tn).1.threads[tn]:=ie gnl;have PF:(hZ (Prog.mk ay ah az) mi tn).1.layout=⟨aa,aw⟩:=by rw[rM];exact nb
  by_cases ho:(hZ (Prog.mk ay ah az) mi tn).2= -1
  case neg=>
   rw[<-heq,QF,yw ho];simp-implicitDefEqProofs[f2,f4,f8,f11,QI,eo,z2,bx,ho];exact fin _ _ _ _ _ _ _ PF G GA2
  have ud:=eq_true ho;have hlf:=sF Q0 n4 ho upto;by_cases PG:(cg (hZ (Prog.mk ay ah az) mi tn).1 tn).count=upto
  ·rw[<-heq,QF,Am ho PG];rw[gx]at PG;simp-implicitDefEqProofs[f2,f4,f8,f11,f12,QI,eo,z2,bx,ud,gT,gg,Ct,n4,t4,PG];exact fin _ _ _ _ _ _ _ PF G GA2
  ·have amw:=yx (k:=20000-(i+1)) ho PG;have amx:=PG;rw[gx]at amx;simp-implicitDefEqProofs[f2,f4,f8,f11,f12,QI,eo,z0,z2,bx,ud,gT,gg,Ct,n4,t4,amx,GW];refine⟨(hZ (Prog.mk ay ah az) mi tn).1,PF,FV,?_,GA2,by omega,yp Q0 n4 (by omega),by omega,by omega,?_⟩
   ·exact G.mono (by omega) fun _ _=>rfl
   ·have hq:=amw.symm;rw[<-QF,heq]at hq;rw[show 19999-i=20000-(i+1) by omega];exact hq
 ·simp-implicitDefEqProofs;refine⟨(bf.mk (aN.mk aa aw) (aK.mk aq an) ax),rfl,pG 64 83 102 121,hbx _ _ ?_ ?_ (by omega),HB,MG.mono (by omega),by rw[hx];omega,?_,rfl⟩
  ·simp
  ·simp[uV,yv]
  ·have:=(MG.nv tn nl).pc;simp only at this;rw[hx];unfold oD;omega
theorem yu.own{r:bf}{s e:Int}{v:V}{h:aY}{k:Nat}(H:yu r s e v h k):GC X h v [(0,4,52)]=some (.de [.agg (kv r),.int .i64 s,.int .i64 e]):=by
 obtain⟨vB,C,L,T,ids,aZ,k0,rfl,HA⟩:=H;have hT:=HA.nv;have hl:=HA.len;have uj:=HA.mp.lines;have Xg:=HA.mp.len;have nC: ¬C=T:=fun e=>HA.ym.1 e.symm;have nL: ¬L=T:=fun e=>HA.ym.2.1 e.symm;have u: ∀i,i≠T->aO h T none i=h i:=fun i hi=>by simp[aO,hi]
 have e1:=HA.Bh (hx:=aO h T none) (fun i hi=>u _ (HA.qB i hi).2.2.1) 10;have e2:=HA.vQ (hx:=aO h T none) (fun i hi=>u _ (HA.YJ i hi)) 9;have l1:=ed aZ r.threads;have l2:=gX ids r.memory.lines;rw[hl]at l1;rw[uj]at l2;have t1:(bZ aZ r.threads).take 4=bZ aZ r.threads:=bn (by omega);have t2:(dY ids r.memory.lines).take 4=dY ids r.memory.lines:=bn (by omega);have t3:(r.memory.cells.map Cell.e).take 512=r.memory.cells.map Cell.e:=bn (by simp;omega);have t4:(r.threads.map Thread.e).take 4=r.threads.map Thread.e:=bn (by simp;omega);unfold jo kv;rcases HA.aD with e|⟨B,e,g1,g2,g3,g4⟩
 ·simp-implicitDefEqProofs[e,hT,hl,Xg,nC,nL,HA.mem.cells,HA.mem.lines,l1,l2,t1,t2,t3,e1,e2]
 ·have nB: ¬B=T:=g2.2.2.1;simp-implicitDefEqProofs[e,g1,hT,hl,Xg,nB,nC,nL,HA.mem.cells,HA.mem.lines,l1,l2,t1,t2,t3,e1,e2]
theorem yu.lY{g:FuncId}{args:List V}{r:bf}{s e:Int}(H: ∃v h k,cy X g args m8 0=some (v,h,k)/\yu r s e v h k):lY X [(0,4,52)] g args=some (.de [.agg (kv r),s,e]):=by
 obtain⟨v,h,k,e1,hr⟩:=H;unfold Go.Abs.lY;rw[e1];exact hr.own
@[simp] theorem YU(ay:List Instr)(ah:List Int)(az:List (List Int))(aa:List Int)(aw:Int)(aq:List Cell)(an:List cx)(ax:List Thread)(t n:Int)(hr:yl (bf.mk (aN.mk aa aw) (aK.mk aq an) ax))(hv:jc (Prog.mk ay ah az) (bf.mk (aN.mk aa aw) (aK.mk aq an) ax)=true)(ht:0<=t/\t<4)(hn:1<=n/\n<=64):lY X [(0,4,52)] 24 [(ay,ah,az),(aa,aw,aq,an,ax),t,n]=some (.de [.agg [.sl false (((dm (Prog.mk ay ah az) (bf.mk (aN.mk aa aw) (aK.mk aq an) ax) t.toNat n).1).layout.aD.map (V.int .i64)),.int .u16 ((dm (Prog.mk ay ah az) (bf.mk (aN.mk aa aw) (aK.mk aq an) ax) t.toNat n).1).layout.key,.sl false (((dm (Prog.mk ay ah az) (bf.mk (aN.mk aa aw) (aK.mk aq an) ax) t.toNat n).1).memory.cells.map Cell.e),.sl false (((dm (Prog.mk ay ah az) (bf.mk (aN.mk aa aw) (aK.mk aq an) ax) t.toNat n).1).memory.lines.map cx.e),.sl false (((dm (Prog.mk ay ah az) (bf.mk (aN.mk aa aw) (aK.mk aq an) ax) t.toNat n).1).threads.map Thread.e)],.int .i64 ((dm (Prog.mk ay ah az) (bf.mk (aN.mk aa aw) (aK.mk aq an) ax) t.toNat n).2),.int .i64 0]):=by
 obtain⟨k,rfl⟩:=Int.eq_ofNat_of_zero_le ht.1;exact yu.lY (YT ay ah az aa aw aq an ax k n k hr hv (by omega) hn)
end Go.Proofs.YtejohpnpnaljdaaGreat
