/- Part of a proof: H11. -/
import Derived.Test.YtdngefmliibcgaaGreatM19
set_option linter.all false
set_option maxRecDepth 20000
set_option maxHeartbeats 20000000
namespace Go.Proofs.YtdngefmliibcgaaGreat
open Go Go.Abs Go.Abs.fJ
@[simp] theorem OU(b:List Int)(n v:Int)(h:aG)(k id m:Nat)(es:List V)(hi:h id=some ⟨1,es,false⟩)(hl:es.length=m)(bV:id<k)(hn:m≤100000):bt X 243 [.bJ id 0 m,.int .i64 2,.int .i64 v] h k=some (.bJ (k+27) 0 (m+2),aS (aS (aS (aS h id none) (k+13) (some ⟨1,es++ [.int .u8 (IntKind.u8.wrap (v.fdiv 256))],false⟩)) (k+13) none) (k+27) (some ⟨1,es++ [.int .u8 (IntKind.u8.wrap (v.fdiv 256)),.int .u8 (IntKind.u8.wrap v)],false⟩),k+36):=by
 have w8:IntKind.u64.wrap 8=8:=by decide
 have i8:IntKind.i64.wrap 8=8:=by decide
 have w0:IntKind.u64.wrap 0=0:=by decide
 have uM:IntKind.i64.wrap (-1)= -1:=by decide
 have hb:IntKind.i64.bits=64:=rfl;have n1: ∀j,¬id=k+j:=fun j=>by omega
 have n2: ∀j,¬k+j=id:=fun j=>by omega
 have Oc:List.take m es=es:=aQ (by omega);have tk1: ∀a0,List.take (m+1) (es++ [a0])=es++ [a0]:=fun _=>aQ (by simp;omega);have ZW:m+1≤140737488355328:=by omega
 have ZX:m+1≤4611686018427387904:=by omega
 have XA:m+2≤140737488355328:=by omega
 have AB:m+2≤4611686018427387904:=by omega
 obtain⟨v',h',n',e,e1,e2,e3⟩:=bh (X:=X) (args:=[.bJ id 0 m,.int .i64 2,.int .i64 v]) (h:=h) (k:=k) (K:=fun v' h' n'=>v'= .bJ (k+27) 0 (m+2)∧h'=aS (aS (aS (aS h id none) (k+13) (some ⟨1,es++ [.int .u8 (IntKind.u8.wrap (v.fdiv 256))],false⟩)) (k+13) none) (k+27) (some ⟨1,es++ [.int .u8 (IntKind.u8.wrap (v.fdiv 256)),.int .u8 (IntKind.u8.wrap v)],false⟩)∧n'=k+36) Tryz.func243 rfl rfl (by
  simp(maxSteps:=10000000) (maxDischargeDepth:=30) (implicitDefEqProofs:=false)[jv,Nat.add_assoc,uM,hb,hi,hl,hn,n1,n2,w8,w0,i8,Oc,tk1,ZW,XA,ZX,AB])
 rw[e,e1,e2,e3]
@[simp] theorem Wd(b:List Int)(n v:Int)(h:aG)(k id m:Nat)(es:List V)(hi:h id=some ⟨1,es,false⟩)(hl:es.length=m)(bV:id<k)(hn:m≤100000):bt X 243 [.bJ id 0 m,.int .i64 6,.int .i64 v] h k=some (.bJ (k+83) 0 (m+6),aS (aS (aS (aS (aS (aS (aS (aS (aS (aS (aS (aS h id none) (k+13) (some ⟨1,es++ [.int .u8 (IntKind.u8.wrap (v.fdiv 1099511627776))],false⟩)) (k+13) none) (k+27) (some ⟨1,es++ [.int .u8 (IntKind.u8.wrap (v.fdiv 1099511627776)),.int .u8 (IntKind.u8.wrap (v.fdiv 4294967296))],false⟩)) (k+27) none) (k+41) (some ⟨1,es++ [.int .u8 (IntKind.u8.wrap (v.fdiv 1099511627776)),.int .u8 (IntKind.u8.wrap (v.fdiv 4294967296)),.int .u8 (IntKind.u8.wrap (v.fdiv 16777216))],false⟩)) (k+41) none) (k+55) (some ⟨1,es++ [.int .u8 (IntKind.u8.wrap (v.fdiv 1099511627776)),.int .u8 (IntKind.u8.wrap (v.fdiv 4294967296)),.int .u8 (IntKind.u8.wrap (v.fdiv 16777216)),.int .u8 (IntKind.u8.wrap (v.fdiv 65536))],false⟩)) (k+55) none) (k+69) (some ⟨1,es++ [.int .u8 (IntKind.u8.wrap (v.fdiv 1099511627776)),.int .u8 (IntKind.u8.wrap (v.fdiv 4294967296)),.int .u8 (IntKind.u8.wrap (v.fdiv 16777216)),.int .u8 (IntKind.u8.wrap (v.fdiv 65536)),.int .u8 (IntKind.u8.wrap (v.fdiv 256))],false⟩)) (k+69) none) (k+83) (some ⟨1,es++ [.int .u8 (IntKind.u8.wrap (v.fdiv 1099511627776)),.int .u8 (IntKind.u8.wrap (v.fdiv 4294967296)),.int .u8 (IntKind.u8.wrap (v.fdiv 16777216)),.int .u8 (IntKind.u8.wrap (v.fdiv 65536)),.int .u8 (IntKind.u8.wrap (v.fdiv 256)),.int .u8 (IntKind.u8.wrap v)],false⟩),k+92):=by
 have w40:IntKind.u64.wrap 40=40:=by decide
 have i40:IntKind.i64.wrap 40=40:=by decide
 have w32:IntKind.u64.wrap 32=32:=by decide
 have i32:IntKind.i64.wrap 32=32:=by decide
 have w24:IntKind.u64.wrap 24=24:=by decide
 have i24:IntKind.i64.wrap 24=24:=by decide
 have w16:IntKind.u64.wrap 16=16:=by decide
 have i16:IntKind.i64.wrap 16=16:=by decide
 have w8:IntKind.u64.wrap 8=8:=by decide
 have i8:IntKind.i64.wrap 8=8:=by decide
 have w0:IntKind.u64.wrap 0=0:=by decide
 have uM:IntKind.i64.wrap (-1)= -1:=by decide
 have hb:IntKind.i64.bits=64:=rfl;have n1: ∀j,¬id=k+j:=fun j=>by omega
 have n2: ∀j,¬k+j=id:=fun j=>by omega
 have Oc:List.take m es=es:=aQ (by omega);have tk1: ∀a0,List.take (m+1) (es++ [a0])=es++ [a0]:=fun _=>aQ (by simp;omega);have tk2: ∀a0 a1,List.take (m+2) (es++ [a0,a1])=es++ [a0,a1]:=fun _ _=>aQ (by simp;omega);have tk3: ∀a0 a1 a2,List.take (m+3) (es++ [a0,a1,a2])=es++ [a0,a1,a2]:=fun _ _ _=>aQ (by simp;omega);have tk4: ∀a0 a1 a2 a3,List.take (m+4) (es++ [a0,a1,a2,a3])=es++ [a0,a1,a2,a3]:=fun _ _ _ _=>aQ (by simp;omega);have tk5: ∀a0 a1 a2 a3 a4,List.take (m+5) (es++ [a0,a1,a2,a3,a4])=es++ [a0,a1,a2,a3,a4]:=fun _ _ _ _ _=>aQ (by simp;omega);have ZW:m+1≤140737488355328:=by omega
 have ZX:m+1≤4611686018427387904:=by omega
 have XA:m+2≤140737488355328:=by omega
 have AB:m+2≤4611686018427387904:=by omega
 have bd3:m+3≤140737488355328:=by omega
 have be3:m+3≤4611686018427387904:=by omega
 have bd4:m+4≤140737488355328:=by omega
 have be4:m+4≤4611686018427387904:=by omega
 have bd5:m+5≤140737488355328:=by omega
 have be5:m+5≤4611686018427387904:=by omega
 have bd6:m+6≤140737488355328:=by omega
 have JQ:m+6≤4611686018427387904:=by omega
 obtain⟨v',h',n',e,e1,e2,e3⟩:=bh (X:=X) (args:=[.bJ id 0 m,.int .i64 6,.int .i64 v]) (h:=h) (k:=k) (K:=fun v' h' n'=>v'= .bJ (k+83) 0 (m+6)∧h'=aS (aS (aS (aS (aS (aS (aS (aS (aS (aS (aS (aS h id none) (k+13) (some ⟨1,es++ [.int .u8 (IntKind.u8.wrap (v.fdiv 1099511627776))],false⟩)) (k+13) none) (k+27) (some ⟨1,es++ [.int .u8 (IntKind.u8.wrap (v.fdiv 1099511627776)),.int .u8 (IntKind.u8.wrap (v.fdiv 4294967296))],false⟩)) (k+27) none) (k+41) (some ⟨1,es++ [.int .u8 (IntKind.u8.wrap (v.fdiv 1099511627776)),.int .u8 (IntKind.u8.wrap (v.fdiv 4294967296)),.int .u8 (IntKind.u8.wrap (v.fdiv 16777216))],false⟩)) (k+41) none) (k+55) (some ⟨1,es++ [.int .u8 (IntKind.u8.wrap (v.fdiv 1099511627776)),.int .u8 (IntKind.u8.wrap (v.fdiv 4294967296)),.int .u8 (IntKind.u8.wrap (v.fdiv 16777216)),.int .u8 (IntKind.u8.wrap (v.fdiv 65536))],false⟩)) (k+55) none) (k+69) (some ⟨1,es++ [.int .u8 (IntKind.u8.wrap (v.fdiv 1099511627776)),.int .u8 (IntKind.u8.wrap (v.fdiv 4294967296)),.int .u8 (IntKind.u8.wrap (v.fdiv 16777216)),.int .u8 (IntKind.u8.wrap (v.fdiv 65536)),.int .u8 (IntKind.u8.wrap (v.fdiv 256))],false⟩)) (k+69) none) (k+83) (some ⟨1,es++ [.int .u8 (IntKind.u8.wrap (v.fdiv 1099511627776)),.int .u8 (IntKind.u8.wrap (v.fdiv 4294967296)),.int .u8 (IntKind.u8.wrap (v.fdiv 16777216)),.int .u8 (IntKind.u8.wrap (v.fdiv 65536)),.int .u8 (IntKind.u8.wrap (v.fdiv 256)),.int .u8 (IntKind.u8.wrap v)],false⟩)∧n'=k+92) Tryz.func243 rfl rfl (by
  simp(maxSteps:=10000000) (maxDischargeDepth:=30) (implicitDefEqProofs:=false)[jv,Nat.add_assoc,uM,hb,hi,hl,hn,n1,n2,w40,w32,w24,w16,w8,w0,i40,i32,i24,i16,i8,Oc,tk1,tk2,tk3,tk4,tk5,ZW,XA,bd3,bd4,bd5,bd6,ZX,AB,be3,be4,be5,JQ])
 rw[e,e1,e2,e3]
def Kh(h:aG)(k id:Nat)(es:List V)(v:V)(h':aG)(k':Nat):Prop:=
 ∃iI,v= .bJ iI 0 es.length∧(k≤iI∧iI<k')∧h' iI=some ⟨1,es,false⟩∧ ∀i,i<k→i≠id→h' i=h i
@[simp] theorem We(b:List Int)(dy cS eX gU:Int)(h:aG)(k id m:Nat)(es:List V)(hi:h id=some ⟨1,es,false⟩)(hl:es.length=m)(bV:id<k)(hn:m≤90000)(hv:0≤cS∧cS≤65535): ∃w h' k',bt X 270 [.bJ id 0 m,.agg [.int .u8 dy,.int .u16 cS,.int .i64 eX,.int .i64 gU]] h k=some (w,h',k')∧Kh h k id (es++(mB (Canon.mk dy cS eX gU)).map (V.int .u8)) w h' k':=by
 have xH:IntKind.i64.wrap cS=cS:=wrap_i64 (by omega);have n1: ∀j,¬id=k+j:=fun j=>by omega
 have n2: ∀j,¬k+j=id:=fun j=>by omega
 have n3: ¬id=k:=by omega
 have n4: ¬k=id:=by omega
 have Oc:List.take m es=es:=aQ (by omega);have XA:m+2≤140737488355328:=by omega
 have AB:m+2≤4611686018427387904:=by omega
 by_cases ht:dy=1
 ·subst ht;have hc:=Ha (x:=⟨1,cS,eX,gU⟩) rfl;rw[hc];have p1:=fun(H:aG) (hH:H (k+13)=some ⟨1,es++ [.int .u8 1,.int .u8 (IntKind.u8.wrap (eX+1))],false⟩)=>OU [] 0 gU H (k+18) (k+13) (m+2) (es++ [.int .u8 1,.int .u8 (IntKind.u8.wrap (eX+1))]) hH (by simp;omega) (by omega) (by omega);refine bh (X:=X) (K:=fun v h' k'=>Kh h k id _ v h' k') Tryz.func270 rfl rfl ?_;simp(maxSteps:=10000000) (maxDischargeDepth:=30) (implicitDefEqProofs:=false)[Nat.add_assoc,hi,hl,hn,n1,n2,n3,n4,Oc,XA,AB,p1,vX,Canon.aU];refine⟨k+45,?_,?_,?_,?_⟩
  ·simp[hl]
  ·omega
  ·simp[aS]
  ·intro i h1 h2;have q1: ∀j,¬i=k+j:=fun j=>by omega
   have q2: ¬i=k:=by omega
   simp[aS,q1,q2,h2]
 ·have hc:=Hb (x:=⟨dy,cS,eX,gU⟩) ht;rw[hc];have p1:=fun(H:aG) (hH:H (k+9)=some ⟨1,es++ [.int .u8 dy,.int .u8 0],false⟩)=>OU [] 0 cS H (k+15) (k+9) (m+2) (es++ [.int .u8 dy,.int .u8 0]) hH (by simp;omega) (by omega) (by omega);refine bh (X:=X) (K:=fun v h' k'=>Kh h k id _ v h' k') Tryz.func270 rfl rfl ?_;simp(maxSteps:=10000000) (maxDischargeDepth:=30) (implicitDefEqProofs:=false)[Nat.add_assoc,hi,hl,hn,n1,n2,n3,n4,Oc,XA,AB,p1,ht,xH,Canon.aU];refine⟨k+42,?_,?_,?_,?_⟩
  ·simp[hl]
  ·omega
  ·simp[aS]
  ·intro i h1 h2;have q1: ∀j,¬i=k+j:=fun j=>by omega
   have q2: ¬i=k:=by omega
   simp[aS,q1,q2,h2]
@[simp] theorem OV(b:List Int)(l:List Canon)(h:aG)(k id m:Nat)(es:List V)(hi:h id=some ⟨1,es,false⟩)(hl:es.length=m)(bV:id<k)(hn:m≤50000)(lM:l.length≤1000)(hv: ∀i (h:i<l.length),0≤(l[i]).val∧(l[i]).val≤65535): ∃w h' k',bt X 244 [.bJ id 0 m,.sl false (l.map Canon.enc)] h k=some (w,h',k')∧Kh h k id (es++(lx l).map (V.int .u8)) w h' k':=by
 have n1: ∀j,¬id=k+j:=fun j=>by omega
 have n2: ∀j,¬k+j=id:=fun j=>by omega
 have n3: ¬id=k:=by omega
 have Oc:List.take m es=es:=aQ (by omega);have ZW:m+1≤140737488355328:=by omega
 have ZX:m+1≤4611686018427387904:=by omega
 have hz:=yx l.length l;rw[←vj];refine bh (X:=X) (K:=fun v h' k'=>Kh h k id _ v h' k') Tryz.func244 rfl rfl ?_;simp(maxSteps:=10000000) (maxDischargeDepth:=30) (implicitDefEqProofs:=false)[Nat.add_assoc,hi,hl,hn,n1,n2,n3,Oc,ZW,ZX];refine fh (fun i S=>(S.f 13= .sl false (l.map Canon.enc)∧S.f 14= .int .i64 l.length∧S.f 15= .int .i64 (i:Int))∧ ∃iI,S.f 0= .bJ iI 0 (m+(nX l.length l i).length)∧(k≤iI∧iI<S.n)∧S.h iI=some ⟨1,es++(nX l.length l i).map (V.int .u8),false⟩∧ ∀j,j<k→j≠id→S.h j=h j) l.length ?_ 0 (by simp) ?_
 ·rintro i S nh ⟨⟨f13,f14,f15⟩,iI,f0,⟨b1,b2⟩,p8,mJ⟩;have hlen:=vh l.length l i nh;by_cases jw:i<l.length
  ·have bk:(i:Int)<l.length:=by omega
   have dh:=dY i (by omega);have hvi:=hv i jw;obtain⟨⟨ct,cv,cr,co⟩,rX⟩: ∃x,l[i]=x:=⟨_,rfl⟩;have up:=yw l.length jw;rw[rX]at up hvi;have kf:=AD ⟨ct,cv,cr,co⟩;obtain⟨C,hC⟩: ∃C,nX l.length l i=C:=⟨_,rfl⟩;rw[hC]at f0 p8 hlen up;have XB:(es++C.map (V.int .u8)).length=m+C.length:=by simp[hl]
   have n4: ¬S.n=iI:=by omega
   have n5: ∀j,¬S.n+j=iI:=fun j=>by omega
   have n6: ¬iI=S.n:=by omega
   have n7: ∀j,¬iI=S.n+j:=fun j=>by omega
   have cc: ∀H:aG,H iI=some ⟨1,es++C.map (V.int .u8),false⟩→ ∃w h' k',bt X 270 [.bJ iI 0 (m+C.length),.agg [.int .u8 ct,.int .u16 cv,.int .i64 cr,.int .i64 co]] H (S.n+9)=some (w,h',k')∧Kh H (S.n+9) iI ((es++C.map (V.int .u8))++(mB ⟨ct,cv,cr,co⟩).map (V.int .u8)) w h' k':=fun H hH=>We [] ct cv cr co H (S.n+9) iI (m+C.length) (es++C.map (V.int .u8)) hH XB (by omega) (by omega) hvi;simp(maxSteps:=10000000) (maxDischargeDepth:=30) (implicitDefEqProofs:=false)[Nat.add_assoc,f13,f14,f15,f0,p8,n4,n5,n6,n7,jw,bk,dh,rX,Canon.aU];obtain⟨w,h',k',e,idn,rfl,⟨c1,c2⟩,Uj,agu⟩:=cc (aS (aS S.h (S.n+3) (some ⟨4,[.agg [.int .u8 0,.int .u16 0,.int .i64 0,.int .i64 0]],true⟩)) (S.n+3) (some ⟨4,[.agg [.int .u8 ct,.int .u16 cv,.int .i64 cr,.int .i64 co]],true⟩)) (by simp[aS,n6,n7,p8]);rw[e];simp(maxSteps:=10000000) (maxDischargeDepth:=30) (implicitDefEqProofs:=false)[Nat.add_assoc,f13,f14,f15,dh];refine⟨idn,?_,?_,?_,?_⟩
   ·rw[up];simp[hl]
   ·omega
   ·rw[Uj,up];simp
   ·intro j h1 h2;rw[agu j (by omega) (by omega)];have q1: ¬j=S.n+3:=by omega
    simp[aS,q1];exact mJ j h1 h2
  ·have mP:i=l.length:=by omega
   subst mP;simp(maxSteps:=10000000) (maxDischargeDepth:=30) (implicitDefEqProofs:=false)[Nat.add_assoc,f13,f14,f15,f0];exact⟨iI,by simp[hl],by omega,p8,mJ⟩
 ·simp(maxSteps:=10000000) (maxDischargeDepth:=30) (implicitDefEqProofs:=false)[Nat.add_assoc];refine⟨k+6,by rw[hz];simp,by omega,by rw[hz];simp,?_⟩;intro j h1 h2;have q1: ¬j=k+6:=by omega
  simp[q1,h2]
@[simp] theorem oL(cm dN dO cO kT ed:Int)(bY cJ:List Canon)(h1:bY.length≤1000)(h2:cJ.length≤1000)(Ln: ∀i (h:i<bY.length),0≤(bY[i]).val∧(bY[i]).val≤65535)(Uy: ∀i (h:i<cJ.length),0≤(cJ[i]).val∧(cJ[i]).val≤65535):ba X 185 [.agg [.int .i64 cm,.int .i64 dN,.int .i64 dO,.int .i64 cO,.int .i64 kT,.int .i64 ed,.sl false (bY.map Canon.enc),.sl false (cJ.map Canon.enc)]]=some (.cg [.sl false (((fX (Request.mk cm dN dO cO kT ed bY cJ)).1).map (V.int .u8)),.int .i64 ((fX (Request.mk cm dN dO cO kT ed bY cJ)).2)]):=by
 have g1:bY.length≤1000000000:=by omega
 have g2:cJ.length≤1000000000:=by omega
 cases hb:gJ (Request.mk cm dN dO cO kT ed bY cJ) with
 |false=>
  have e:fX (Request.mk cm dN dO cO kT ed bY cJ)=([],1):=by unfold fX;rw[if_neg (by simp[hb])]
  rw[e];refine aN Tryz.func185 rfl rfl ?_;simp(maxSteps:=10000000) (maxDischargeDepth:=30) (implicitDefEqProofs:=false)[g1,g2,hb]
 |true=>
  have e:fX (Request.mk cm dN dO cO kT ed bY cJ)=(jQ (Request.mk cm dN dO cO kT ed bY cJ),0):=by unfold fX;rw[if_pos hb]
  rw[e];have p6:=fun(H:aG) (hH:H 15=some ⟨1,[.int .u8 (IntKind.u8.wrap cm),.int .u8 (IntKind.u8.wrap dN),.int .u8 (IntKind.u8.wrap dO)],false⟩)=>Wd [] 0 cO H 22 15 3 [.int .u8 (IntKind.u8.wrap cm),.int .u8 (IntKind.u8.wrap dN),.int .u8 (IntKind.u8.wrap dO)] hH rfl (by omega) (by omega);obtain⟨E0,hE0⟩: ∃E0:List Int,E0=([IntKind.u8.wrap cm,IntKind.u8.wrap dN,IntKind.u8.wrap dO]++JQ cO)++ [IntKind.u8.wrap kT,IntKind.u8.wrap ed]:=⟨_,rfl⟩;have agw:[V.int .u8 (IntKind.u8.wrap cm),V.int .u8 (IntKind.u8.wrap dN),V.int .u8 (IntKind.u8.wrap dO),V.int .u8 (IntKind.u8.wrap (cO.fdiv 1099511627776)),V.int .u8 (IntKind.u8.wrap (cO.fdiv 4294967296)),V.int .u8 (IntKind.u8.wrap (cO.fdiv 16777216)),V.int .u8 (IntKind.u8.wrap (cO.fdiv 65536)),V.int .u8 (IntKind.u8.wrap (cO.fdiv 256)),V.int .u8 (IntKind.u8.wrap cO),V.int .u8 (IntKind.u8.wrap kT),V.int .u8 (IntKind.u8.wrap ed)]=E0.map (V.int .u8):=by rw[hE0];rfl
  have ZY:E0.length=11:=by rw[hE0];rfl
  have l1:=pM bY;have l2:=pM cJ;obtain⟨n1,Se⟩: ∃x,(E0++lx bY).length=x:=⟨_,rfl⟩;have ara:n1=11+(lx bY).length:=by rw[←Se,List.length_append,ZY]
  have hB:(E0++lx bY)++lx cJ=jQ (Request.mk cm dN dO cO kT ed bY cJ):=by rw[hE0];rfl
  have m1:((E0++lx bY).map (V.int .u8)).length=n1:=by rw[List.length_map];exact Se
  have k1: ∀H:aG,∃i h' k',H 122=some ⟨1,E0.map (V.int .u8),false⟩→bt X 244 [.bJ 122 0 11,.sl false (bY.map Canon.enc)] H 133=some (.bJ i 0 n1,h',k')∧i<k'∧h' i=some ⟨1,(E0++lx bY).map (V.int .u8),false⟩∧ ∀j,j<133→j≠122→h' j=H j:=fun H=>by
   by_cases hH:H 122=some ⟨1,E0.map (V.int .u8),false⟩
   ·obtain⟨w,h',k',e,i,rfl,b,c,d⟩:=OV [] bY H 133 122 11 (E0.map (V.int .u8)) hH (by simpa using ZY) (by omega) (by omega) h1 Ln;rw[←List.map_append]at e c;rw[m1]at e;exact⟨i,h',k',fun _=>⟨e,b.2,c,d⟩⟩
   ·exact⟨0,H,0,fun g=>absurd g hH⟩
  obtain⟨fI,k1⟩:=Classical.skolem.1 k1;obtain⟨fH,k1⟩:=Classical.skolem.1 k1;obtain⟨fK,k1⟩:=Classical.skolem.1 k1;have k2: ∀H:aG,∃i h' k',H 122=some ⟨1,E0.map (V.int .u8),false⟩→bt X 244 [.bJ (fI H) 0 n1,.sl false (cJ.map Canon.enc)] (fH H) (fK H)=some (.bJ i 0 (jQ (Request.mk cm dN dO cO kT ed bY cJ)).length,h',k')∧h' i=some ⟨1,(jQ (Request.mk cm dN dO cO kT ed bY cJ)).map (V.int .u8),false⟩:=fun H=>by
   by_cases hH:H 122=some ⟨1,E0.map (V.int .u8),false⟩
   ·obtain⟨q1,q2,q3,q4⟩:=k1 H hH;obtain⟨w,h',k',e,i,rfl,b,c,d⟩:=OV [] cJ (fH H) (fK H) (fI H) n1 _ q3 m1 q2 (by omega) h2 Uy;rw[←List.map_append,hB]at e c;rw[List.length_map]at e;exact⟨i,h',k',fun _=>⟨e,c⟩⟩
   ·exact⟨0,H,0,fun g=>absurd g hH⟩
  obtain⟨gI,k2⟩:=Classical.skolem.1 k2;obtain⟨gH,k2⟩:=Classical.skolem.1 k2;obtain⟨gK,k2⟩:=Classical.skolem.1 k2;have c1:=fun H hH=>(k1 H hH).1;have c2:=fun H hH=>(k1 H hH).2.2.2;have c3:=fun H hH=>(k2 H hH).1;have c4:=fun H hH=>(k2 H hH).2;refine aN Tryz.func185 rfl rfl ?_;simp(maxSteps:=10000000) (maxDischargeDepth:=30) (implicitDefEqProofs:=false)[g1,g2,hb,p6,agw,c1,c2,c3,c4]
end Go.Proofs.YtdngefmliibcgaaGreat
