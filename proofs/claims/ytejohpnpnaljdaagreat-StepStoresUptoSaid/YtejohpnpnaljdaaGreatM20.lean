/- Part of a proof: S9. -/
import Derived.Test.YtejohpnpnaljdaaGreatM03
import Derived.Test.YtejohpnpnaljdaaGreatM19
set_option linter.all false
set_option maxRecDepth 20000
set_option maxHeartbeats 20000000
namespace Go.Proofs.YtejohpnpnaljdaaGreat
open Go Go.Abs Go.Abs.lu
@[simp] theorem aci:cz X 173 []=some (.agg [.sl false (((⟨[-1, -1, -1, -1],[[],[],[],[]]⟩:bR)).owner.map (V.int .i64)),.sl false (((⟨[-1, -1, -1, -1],[[],[],[],[]]⟩:bR)).queue.map cI)]):=by
 refine bd Tryz.func173 rfl rfl ?_;simp-implicitDefEqProofs[di];all_goals (first|rfl|exact⟨rfl,rfl,rfl,rfl⟩)
@[simp] theorem LN(oT:List (List Int))(hm:oT.length<=1000000000)(hx: ∀i (h:i<oT.length),(oT[i]).length<=1000000000):cz X 196 [oT]=some oT:=by
 refine bd Tryz.func196 rfl rfl ?_;simp-implicitDefEqProofs;refine cP (fun i S=>(S.f 3= .bU 3 0 (((oT.take i).map aS)).length/\S.h 3=some ⟨1,((oT.take i).map aS),false⟩/\S.f 6= .sl false (oT.map aS)/\S.f 7= .int .i64 ((oT).length:Int)/\S.f 8= .int .i64 (i:Int)/\S.n=1100)/\True) (oT.length) ?_ 0 (by simp) ?_
 ·rintro i S kY ⟨dA,hX⟩;have eY:=cS i (by omega);by_cases bI:i<oT.length
  ·have g:=hx i bI;have la:min i oT.length=i:=by omega
   simp-implicitDefEqProofs[dA,eY,bI,la];all_goals ((repeat' (first|apply And.intro|intro _))<;>first|omega|exact pE bI|rfl)
  ·have ko:oT.length=i:=by omega
   subst ko;simp-implicitDefEqProofs[dA]<;>(
    simp)
 ·simp-implicitDefEqProofs<;>(
   simp)
@[simp] theorem YW(l:List Output)(hm:l.length<=1000000000)(hx: ∀i (h:i<l.length),(l[i]).data.length<=1000000000):cz X 198 [l]=some l:=by
 refine bd Tryz.func198 rfl rfl ?_;simp-implicitDefEqProofs;refine cP (fun i S=>(S.f 3= .bU 3 0 (((l.take i).map Output.e)).length/\S.h 3=some ⟨3,((l.take i).map Output.e),false⟩/\S.f 6= .sl false (l.map Output.e)/\S.f 7= .int .i64 ((l).length:Int)/\S.f 8= .int .i64 (i:Int)/\S.n=1100)/\True) (l.length) ?_ 0 (by simp) ?_
 ·rintro i S kY ⟨dA,hX⟩;have eY:=cS i (by omega);by_cases bI:i<l.length
  ·have g:=hx i bI;have la:min i l.length=i:=by omega
   simp-implicitDefEqProofs[dA,eY,bI,la];all_goals ((repeat' (first|apply And.intro|intro _))<;>first|omega|exact pE bI|rfl)
  ·have ko:l.length=i:=by omega
   subst ko;simp-implicitDefEqProofs[dA]<;>(
    simp)
 ·simp-implicitDefEqProofs<;>(
   simp)
@[simp] theorem YX(aU:List (List Canon))(aR:List dT)(hl:aU.length<=4)(hx: ∀i (h:i<aU.length),(aU[i]).length<=1000000000)(ho:aR.length<=1000000000):cz X 197 [.agg [aU,aR]]=some (.agg [.sl false (((bE.mk aU aR)).data.map ba),.sl false (((bE.mk aU aR)).opens.map dT.e)]):=by
 refine bd Tryz.func197 rfl rfl ?_;have hc:aU.length=0\/aU.length=1\/aU.length=2\/aU.length=3\/aU.length=4:=by omega
 rcases hc with h|h|h|h|h
 ·obtain rfl:=ae8 h;simp-implicitDefEqProofs[di];all_goals ((repeat' (first|apply And.intro|intro _))<;>first|omega|rfl)
 ·obtain⟨a,rfl⟩:=Pj h;have ha:=hx 0 (by simp);simp at ha;simp-implicitDefEqProofs[di];all_goals ((repeat' (first|apply And.intro|intro _))<;>first|omega|rfl)
 ·obtain⟨a,b,rfl⟩:=Pk h;have ha:=hx 0 (by simp);have hb:=hx 1 (by simp);simp at ha hb;simp-implicitDefEqProofs[di];all_goals ((repeat' (first|apply And.intro|intro _))<;>first|omega|rfl)
 ·obtain⟨a,b,c,rfl⟩:=Pl h;have ha:=hx 0 (by simp);have hb:=hx 1 (by simp);have hc:=hx 2 (by simp);simp at ha hb hc;simp-implicitDefEqProofs[di];all_goals ((repeat' (first|apply And.intro|intro _))<;>first|omega|rfl)
 ·obtain⟨a,b,c,d,rfl⟩:=DB h;have ha:=hx 0 (by simp);have hb:=hx 1 (by simp);have hc:=hx 2 (by simp);have hd:=hx 3 (by simp);simp at ha hb hc hd;simp-implicitDefEqProofs[di];all_goals ((repeat' (first|apply And.intro|intro _))<;>first|omega|rfl)
structure gS (f:bE):Prop where
 data:f.data.length<=4
 each: ∀i (h:i<f.data.length),iQ f.data[i]=true/\(f.data[i]).length<=64
 opens:f.opens.length=8
 opn: ∀i (h:i<f.opens.length),((f.opens[i]).file= -1/\(f.opens[i]).offset=0/\(f.opens[i]).write=false)\/
  (∃k,∃g:k<f.data.length,(f.opens[i]).file=(k:Int)/\0<=(f.opens[i]).offset/\(f.opens[i]).offset<=(f.data[k]).length)
@[simp] theorem WV(aU:List (List Canon))(aR:List dT)(hf:gS (bE.mk aU aR)):cz X 194 [.agg [aU,aR]]=some (.bool true):=by
 refine bd Tryz.func194 rfl rfl ?_;have h1:aU.length<=4:=hf.data;have h2:aR.length=8:=hf.opens;have h3:=hf.each;have h4:=hf.opn;simp only at h3 h4;have Be: ¬4<(aU.length:Int):=by omega
 simp-implicitDefEqProofs[Be,h2];refine cP (fun i S=>(S.f 1= .ptr 1 0 0/\S.h 1=some ⟨2,[.agg [aU,aR]],true⟩/\S.f 18= .sl false (aU.map ba)/\S.f 19= .int .i64 ((aU).length:Int)/\S.f 20= .int .i64 (i:Int)/\S.n=1100)/\True) (aU.length) ?_ 0 (by simp) ?_
 ·rintro i S kY ⟨dA,hX⟩;have eY:=cS i (by omega);by_cases bI:i<aU.length
  ·obtain⟨g1,g2⟩:=h3 i bI;have g3:(aU[i]).length<=1000000000:=by omega
   have g4:((aU[i]).length:Int)<=64:=by omega
   simp-implicitDefEqProofs[dA,eY,bI,g1,g3,g4]
  ·have ko:aU.length=i:=by omega
   subst ko;simp-implicitDefEqProofs[dA,h2];refine cP (fun j S=>(S.f 1= .ptr 1 0 0/\S.h 1=some ⟨2,[.agg [aU,aR]],true⟩/\S.f 29= .sl false (aR.map dT.e)/\S.f 30= .int .i64 ((aR).length:Int)/\S.f 31= .int .i64 (j:Int)/\S.n=1100)/\True) (aR.length) ?_ 0 (by simp) ?_
   ·rintro j S jk ⟨mW,uN⟩;have pM:=cS j (by omega);by_cases fX:j<aR.length
    ·have hj:=fX;rcases h4 j hj with⟨e1,e2,e3⟩|⟨k,hk,e1,e2,e3⟩
     ·have n0:(-1:Int)<aU.length:=by omega
      simp-implicitDefEqProofs[mW,pM,fX,e1,e2,e3,n0]
     ·have n1: ¬(k:Int)= -1:=by omega
      have n2: ¬(k:Int)< -1:=by omega
      have n3: ¬(aU.length:Int)<=k:=by omega
      have n4: ¬(aR[j]).offset<0:=by omega
      have n5: ¬((aU[k]).length:Int)<(aR[j]).offset:=by omega
      simp-implicitDefEqProofs[mW,pM,fX,hk,e1,n1,n2,n3,n4,n5]
    ·have xO:aR.length=j:=by omega
     subst xO;simp-implicitDefEqProofs[mW]
   ·simp-implicitDefEqProofs[dA]<;>(
     omega)
 ·simp-implicitDefEqProofs<;>(
   trivial)
def yy(v:Int):Canon:=⟨0,v,0,0⟩
theorem PM(l:List Int):iQ (l.map yy)=true:=by
 simp[iQ,yy,nY]
def closed:dT:=⟨-1,0,false⟩
def mU(data:List (List Int)):bE:=⟨data.map (·.map yy),List.replicate 8 closed⟩
theorem EE{data:List (List Int)}(h:data.length<=4)(hx: ∀i (h:i<data.length),(data[i]).length<=64):gS (mU data):=by
 refine⟨by simpa[mU] using h,fun i hi=> ?_,by simp[mU],fun i hi=> .inl ?_⟩
 ·simp[mU]at hi;simp only[mU,List.getElem_map];exact⟨PM _,by simpa using hx i hi⟩
 ·simp only[mU,List.getElem_replicate];exact⟨rfl,rfl,rfl⟩
def qZ(l:List (List Int)):List (List Canon):=l.map fun d=>d.map yy
theorem Vf{l:List (List Int)}{i:Nat}(h:i<l.length):qZ (l.take (i+1))=qZ (l.take i)++ [(l[i]).map yy]:=by
 unfold qZ;rw[fY h,List.map_append];rfl
theorem PN(l:List (List Int)):(qZ l).length=l.length:=by simp[qZ]
def re(l:List Int):List Canon:=l.map yy
theorem IN{l:List Int}{i:Nat}(h:i<l.length):re (l.take (i+1))=re (l.take i)++ [yy l[i]]:=by
 unfold re;rw[fY h,List.map_append];rfl
theorem EF(l:List Int):(re l).length=l.length:=by simp[re]
def sc:List dT:=[closed,closed,closed,closed,closed,closed,closed,closed]
def zC(i:Nat):List dT:=List.replicate i closed++List.replicate (8-i) ⟨0,0,false⟩
@[simp] theorem acj(data:List (List Int))(hm:data.length<=4)(hx: ∀i (h:i<data.length),(data[i]).length<=64):cz X 199 [data]=some (.de [.agg [.sl false ((mU data).data.map ba),.sl false ((mU data).opens.map dT.e)],.int .i64 0]):=by
 refine bd Tryz.func199 rfl rfl ?_;have ju:=EE hm hx;have eq:mU data=⟨qZ data,sc⟩:=rfl;rw[eq]at ju;rw[eq];simp-implicitDefEqProofs;refine cP (fun i S=>(S.f 0= .sl false (data.map aS)/\S.f 2= .ptr 2 0 0/\S.h 2=some ⟨2,[.agg [.sl false (([]:List (List Canon)).map ba),.sl false (([]:List dT).map dT.e)]],true⟩/\S.f 4= .ptr 4 0 0/\S.h 1000=some ⟨1,(⟨[],zC i⟩:bE).data.map ba,false⟩/\S.h 1001=some ⟨3,(⟨[],zC i⟩:bE).opens.map dT.e,false⟩/\S.h 4=some ⟨2,[.agg [.bU 1000 0 ((⟨[],zC i⟩:bE).data.map ba).length,.bU 1001 0 ((⟨[],zC i⟩:bE).opens.map dT.e).length]],true⟩/\S.f 15= .int .i64 (8)/\S.f 16= .int .i64 (i:Int)/\S.n=1102)/\True) (8) ?_ 0 (by simp) ?_
 ·rintro i S kY ⟨dA,hX⟩;by_cases bI:i<8
  ·have:i=0\/i=1\/i=2\/i=3\/i=4\/i=5\/i=6\/i=7:=by omega
   rcases this with rfl|rfl|rfl|rfl|rfl|rfl|rfl|rfl<;>simp-implicitDefEqProofs[dA,bI,zC,closed,dT.bP]<;>rfl
  ·have ko:8=i:=by omega
   subst ko;have e8:zC 8=sc:=rfl;rw[e8]at dA;simp-implicitDefEqProofs[dA];refine cP (fun j S=>(S.f 2= .ptr 2 0 0/\S.h 2=some ⟨2,[.agg [.sl false (([]:List (List Canon)).map ba),.sl false (([]:List dT).map dT.e)]],true⟩/\S.f 4= .ptr 4 0 0/\S.h 1000=some ⟨1,(⟨qZ (data.take j),sc⟩:bE).data.map ba,false⟩/\S.h 1001=some ⟨3,(⟨qZ (data.take j),sc⟩:bE).opens.map dT.e,false⟩/\S.h 4=some ⟨2,[.agg [.bU 1000 0 ((⟨qZ (data.take j),sc⟩:bE).data.map ba).length,.bU 1001 0 ((⟨qZ (data.take j),sc⟩:bE).opens.map dT.e).length]],true⟩/\S.f 25= .sl false (data.map aS)/\S.f 26= .int .i64 ((data).length:Int)/\S.f 27= .int .i64 (j:Int)/\S.n=1102)/\True) (data.length) ?_ 0 (by simp) ?_
   ·rintro j S jk ⟨mW,uN⟩;have pM:=cS j (by omega);by_cases fX:j<data.length
    ·have gx:=hx j fX;have gu:=Vf fX;have gl:(qZ (data.take j)).length=j:=by rw[PN,List.length_take];omega
     simp-implicitDefEqProofs[mW,fX];refine cP (fun k S=>(S.f 2= .ptr 2 0 0/\S.h 2=some ⟨2,[.agg [.sl false (([]:List (List Canon)).map ba),.sl false (([]:List dT).map dT.e)]],true⟩/\S.f 4= .ptr 4 0 0/\S.h 1000=some ⟨1,(⟨qZ (data.take j),sc⟩:bE).data.map ba,false⟩/\S.h 1001=some ⟨3,(⟨qZ (data.take j),sc⟩:bE).opens.map dT.e,false⟩/\S.h 4=some ⟨2,[.agg [.bU 1000 0 ((⟨qZ (data.take j),sc⟩:bE).data.map ba).length,.bU 1001 0 ((⟨qZ (data.take j),sc⟩:bE).opens.map dT.e).length]],true⟩/\S.f 8= .bU 8 0 (((re ((data[j]).take k)).map Canon.e)).length/\S.h 8=some ⟨4,((re ((data[j]).take k)).map Canon.e),false⟩/\S.f 25= .sl false (data.map aS)/\S.f 26= .int .i64 ((data).length:Int)/\S.f 27= .int .i64 (j:Int)/\S.f 31= .sl false ((data[j]).map (V.int .u16))/\S.f 32= .int .i64 (((data[j]).length:Int))/\S.f 33= .int .i64 (k:Int)/\S.n=1102)/\True) ((data[j]).length) ?_ 0 (by simp) ?_
     ·rintro k S E6 ⟨zw,Wu⟩;have DA:=cS k (by omega);by_cases jW:k<(data[j]).length
      ·have gv:=IN jW;have gw:(re ((data[j]).take k)).length=k:=by rw[EF,List.length_take];omega
       simp-implicitDefEqProofs[zw,DA,jW,gv,yy];all_goals ((repeat' (first|apply And.intro|intro _))<;>first|omega|rfl)
      ·have FH:(data[j]).length=k:=by omega
       subst FH;simp-implicitDefEqProofs[pM,fX,zw,gu];all_goals ((repeat' (first|apply And.intro|intro _))<;>first|omega|rfl)
     ·simp-implicitDefEqProofs[mW]<;>(
       first|exact⟨rfl,rfl⟩|rfl)
    ·have xO:data.length=j:=by omega
     subst xO;simp-implicitDefEqProofs[mW,ju]
   ·simp-implicitDefEqProofs[dA]<;>(
     first|exact⟨rfl,rfl⟩|rfl)
 ·simp-implicitDefEqProofs<;>(
   first|exact⟨rfl,rfl⟩|rfl)
def qq(f:bE)(h:Int):Bool:=decide (0<=h)&& (decide (h<f.opens.length)&&decide (¬(f.opens.getD h.toNat closed).file= -1))
@[simp] theorem YY(aU:List (List Canon))(aR:List dT)(h:Int):cz X 225 [.agg [aU,aR],h]=some (.bool (qq (bE.mk aU aR) h)):=by
 refine bd Tryz.func225 rfl rfl ?_;by_cases h1:0<=h
 case neg=>simp-implicitDefEqProofs[h1,qq]
 obtain⟨k,rfl⟩:=Int.eq_ofNat_of_zero_le h1;by_cases h2:k<aR.length
 case neg=>
  have QP: ¬(k:Int)<aR.length:=by omega
  simp-implicitDefEqProofs[h2,QP,qq]
 have QP:(k:Int)<aR.length:=by omega
 by_cases h3:(aR[k]).file= -1
 ·simp-implicitDefEqProofs[h2,QP,h3,qq,List.getD]
 ·simp-implicitDefEqProofs[h2,QP,h3,qq,List.getD]
@[simp] theorem Q1(l:List Output)(hm:l.length<=1000000000)(ho: ∀i (h:i<l.length),(l[i]).seq=i/\0<=(l[i]).socket/\(l[i]).socket<2/\(l[i]).data.length<=16):cz X 195 [l]=some (.bool true):=by
 refine bd Tryz.func195 rfl rfl ?_;simp-implicitDefEqProofs;refine cP (fun i S=>(S.f 5= .sl false (l.map Output.e)/\S.f 6= .int .i64 ((l).length:Int)/\S.f 7= .int .i64 (i:Int)/\S.n=1100)/\True) (l.length) ?_ 0 (by simp) ?_
 ·rintro i S kY ⟨dA,hX⟩;have eY:=cS i (by omega);by_cases bI:i<l.length
  ·obtain⟨o1,o2,o3,o4⟩:=ho i bI;have n2: ¬(l[i]).socket<0:=by omega
   have n3: ¬2<=(l[i]).socket:=by omega
   have n4: ¬16<((l[i]).data.length:Int):=by omega
   simp-implicitDefEqProofs[dA,eY,bI,o1,n2,n3,n4]
  ·have ko:l.length=i:=by omega
   subst ko;simp-implicitDefEqProofs[dA]
 ·simp-implicitDefEqProofs<;>(
   trivial)
structure sJ (o:cN):Prop where
 clock:o.clock.length<=64
 random:o.random.length<=64
 cO:o.cO.length<=2
 input: ∀i (h:i<o.cO.length),(o.cO[i]).length<=64
 files:gS o.files
 cT:o.cT.length<=200
 output: ∀i (h:i<o.cT.length),(o.cT[i]).seq=i/\0<=(o.cT[i]).socket/\(o.cT[i]).socket<2/\(o.cT[i]).data.length<=16/\iQ (o.cT[i]).data=true
@[simp] theorem wA(cw bQ:List Int)(bL:List (List Int))(bc:List (List Canon))(aW:List dT)(bD:List Output)(ho:sJ (cN.mk cw bQ bL (bE.mk bc aW) bD)):cz X 170 [.agg [.sl false (cw.map (V.int .u16)),.sl false (bQ.map (V.int .u16)),bL,bc,aW,bD]]=some (.bool true):=by
 refine bd Tryz.func170 rfl rfl ?_;have h1:cw.length<=64:=ho.clock;have h2:bQ.length<=64:=ho.random;have h3:bL.length<=2:=ho.cO;have h4:=ho.input;have h5:=ho.files;have h6:bD.length<=200:=ho.cT;have h7:=ho.output;simp only at h4 h5 h7;have Be:(cw.length:Int)<=64:=by omega
 have QP:(bQ.length:Int)<=64:=by omega
 have h3i:(bL.length:Int)<=2:=by omega
 have h6i:(bD.length:Int)<=200:=by omega
 have h6m:bD.length<=1000000000:=by omega
 have h8: ∀i (h:i<bD.length),(bD[i]).seq=i/\0<=(bD[i]).socket/\(bD[i]).socket<2/\(bD[i]).data.length<=16:=fun i h=>⟨(h7 i h).1,(h7 i h).2.1,(h7 i h).2.2.1,(h7 i h).2.2.2.1⟩;simp-implicitDefEqProofs;refine cP (fun i S=>(S.f 1= .ptr 1 0 0/\S.h 1=some ⟨6,[.agg [.sl false (cw.map (V.int .u16)),.sl false (bQ.map (V.int .u16)),bL,bc,aW,bD]],true⟩/\S.f 8= .sl false (bL.map aS)/\S.f 9= .int .i64 ((bL).length:Int)/\S.f 10= .int .i64 (i:Int)/\S.n=1100)/\True) (bL.length) ?_ 0 (by simp) ?_
 ·rintro i S kY ⟨dA,hX⟩;have eY:=cS i (by omega);by_cases bI:i<bL.length
  ·have g:=h4 i bI;have g2: ¬64<((bL[i]).length:Int):=by omega
   simp-implicitDefEqProofs[dA,eY,bI,g2]
  ·have ko:bL.length=i:=by omega
   subst ko;simp-implicitDefEqProofs[dA];refine cP (fun j S=>(S.f 1= .ptr 1 0 0/\S.h 1=some ⟨6,[.agg [.sl false (cw.map (V.int .u16)),.sl false (bQ.map (V.int .u16)),bL,bc,aW,bD]],true⟩/\S.f 19= .sl false (bD.map Output.e)/\S.f 20= .int .i64 ((bD).length:Int)/\S.f 21= .int .i64 (j:Int)/\S.n=1100)/\True) (bD.length) ?_ 0 (by simp) ?_
   ·rintro j S jk ⟨mW,uN⟩;have pM:=cS j (by omega);by_cases fX:j<bD.length
    ·obtain⟨q1,q2,q3,q4,q5⟩:=h7 j fX;have q6:(bD[j]).data.length<=1000000000:=by omega
     have q7:((bD[j]).data.length:Int)<=16:=by omega
     simp-implicitDefEqProofs[mW,pM,fX,q5,q6,q7]
    ·have xO:bD.length=j:=by omega
     subst xO;simp-implicitDefEqProofs[mW,Be,QP,h3i,h5,h6i,h6m,h8]
   ·simp-implicitDefEqProofs[dA]<;>(
     trivial)
 ·simp-implicitDefEqProofs<;>(
   trivial)
@[simp] theorem YZ(cw bQ:List Int)(bL:List (List Int))(bc:List (List Canon))(aW:List dT)(bD:List Output)(ho:sJ (cN.mk cw bQ bL (bE.mk bc aW) bD)):cz X 172 [.agg [.sl false (cw.map (V.int .u16)),.sl false (bQ.map (V.int .u16)),bL,bc,aW,bD]]=some (.agg [.sl false (((cN.mk cw bQ bL (bE.mk bc aW) bD)).clock.map (V.int .u16)),.sl false (((cN.mk cw bQ bL (bE.mk bc aW) bD)).random.map (V.int .u16)),.sl false (((cN.mk cw bQ bL (bE.mk bc aW) bD)).cO.map aS),.sl false (((cN.mk cw bQ bL (bE.mk bc aW) bD)).files.data.map ba),.sl false (((cN.mk cw bQ bL (bE.mk bc aW) bD)).files.opens.map dT.e),.sl false (((cN.mk cw bQ bL (bE.mk bc aW) bD)).cT.map Output.e)]):=by
 refine bd Tryz.func172 rfl rfl ?_;have h1:cw.length<=64:=ho.clock;have h2:bQ.length<=64:=ho.random;have h3:bL.length<=2:=ho.cO;have h4:=ho.input;have h5:=ho.files;have h6:bD.length<=200:=ho.cT;have h7:=ho.output;simp only at h4 h5 h7;have f1:bc.length<=4:=h5.data;have f2:aW.length=8:=h5.opens;have f3:=h5.each;simp only at f3;have a1:bL.length<=1000000000:=by omega
 have a2: ∀i (h:i<bL.length),(bL[i]).length<=1000000000:=fun i h=>by have:=h4 i h;omega
 have a3: ∀i (h:i<bc.length),(bc[i]).length<=1000000000:=fun i h=>by have:=(f3 i h).2;omega
 have a4:aW.length<=1000000000:=by omega
 have a5:bD.length<=1000000000:=by omega
 have a6: ∀i (h:i<bD.length),(bD[i]).data.length<=1000000000:=fun i h=>by have:=(h7 i h).2.2.2.1;omega
 simp-implicitDefEqProofs[a1,a2,a3,a4,a5,a6,f1];try omega
@[simp] theorem WW(n:Int)(ok:Bool):cz X 208 [n,ok]=some (.agg [.int .u8 ((⟨⟨0,if ok=true then IntKind.u16.wrap n else 65535,0,0⟩,[], -1,false⟩:sX)).value.tag,.int .u16 ((⟨⟨0,if ok=true then IntKind.u16.wrap n else 65535,0,0⟩,[], -1,false⟩:sX)).value.val,.int .i64 ((⟨⟨0,if ok=true then IntKind.u16.wrap n else 65535,0,0⟩,[], -1,false⟩:sX)).value.region,.int .i64 ((⟨⟨0,if ok=true then IntKind.u16.wrap n else 65535,0,0⟩,[], -1,false⟩:sX)).value.offset,.sl false (((⟨⟨0,if ok=true then IntKind.u16.wrap n else 65535,0,0⟩,[], -1,false⟩:sX)).data.map Canon.e),.int .i64 ((⟨⟨0,if ok=true then IntKind.u16.wrap n else 65535,0,0⟩,[], -1,false⟩:sX)).spawn,.bool ((⟨⟨0,if ok=true then IntKind.u16.wrap n else 65535,0,0⟩,[], -1,false⟩:sX)).wait]):=by
 refine bd Tryz.func208 rfl rfl ?_;have hw:IntKind.u16.wrap 65535=65535:=by decide
 cases ok<;>simp-implicitDefEqProofs[hw]
@[simp] theorem Y0(call:Int):cz X 214 [call]=some (.bool (decide ((1<=call/\call<=7)\/call=13\/call=14))):=by
 refine bd Tryz.func214 rfl rfl ?_;by_cases h1:1<=call
 ·by_cases h2:call<=7
  ·simp-implicitDefEqProofs[h1,h2]
  ·simp-implicitDefEqProofs[h1,h2];by_cases h3:call=13<;>simp[h3]
 ·simp-implicitDefEqProofs[h1];by_cases h3:call=13<;>simp[h3]
def yz(files cO:List (List Int))(clock random:List Int):cN:=⟨clock,random,cO,mU files,[]⟩
theorem Nc {files cO:List (List Int)} {clock random:List Int} (h1:files.length<=4) (h2: ∀i (h:i<files.length),(files[i]).length<=64) (h3:cO.length<=2) (h4: ∀i (h:i<cO.length),(cO[i]).length<=64)
  (h5:clock.length<=64) (h6:random.length<=64):sJ (yz files cO clock random):=
 ⟨h5,h6,h3,h4,EE h1 h2,by simp[yz],fun i h=>by simp[yz]at h⟩
@[simp] theorem DI(files cO:List (List Int))(clock random:List Int)(h1:files.length<=4)(h2: ∀i (h:i<files.length),(files[i]).length<=64)(h3:cO.length<=2)(h4: ∀i (h:i<cO.length),(cO[i]).length<=64)(h5:clock.length<=64)(h6:random.length<=64):cz X 174 [files,cO,.sl false (clock.map (V.int .u16)),.sl false (random.map (V.int .u16))]=some (.de [.agg [.sl false ((yz files cO clock random).clock.map (V.int .u16)),.sl false ((yz files cO clock random).random.map (V.int .u16)),.sl false ((yz files cO clock random).cO.map aS),.sl false ((yz files cO clock random).files.data.map ba),.sl false ((yz files cO clock random).files.opens.map dT.e),.sl false ((yz files cO clock random).cT.map Output.e)],.int .i64 0]):=by
 refine bd Tryz.func174 rfl rfl ?_;have ju:=Nc h1 h2 h3 h4 h5 h6;have a1:cO.length<=1000000000:=by omega
 have a2: ∀i (h:i<cO.length),(cO[i]).length<=1000000000:=fun i h=>by have:=h4 i h;omega
 have eq:yz files cO clock random=⟨clock,random,cO,⟨(mU files).data,(mU files).opens⟩,[]⟩:=rfl;rw[eq]at ju;rw[eq];have key:=wA clock random cO (mU files).data (mU files).opens [] ju;simp only[List.map_nil]at key;simp-implicitDefEqProofs[h1,h2,a1,a2,key];try omega
@[simp] theorem a7u(aU:List (List Canon))(aR:List dT)(hl:aU.length<=4)(hx: ∀i (h:i<aU.length),(aU[i]).length<=1000000000)(ho:aR.length<=1000000000):lY X [(0,1,271)] 197 [.agg [aU,aR]]=some (.agg [aU,aR]):=by
 refine kJ Tryz.func197 rfl rfl ?_;have hc:aU.length=0\/aU.length=1\/aU.length=2\/aU.length=3\/aU.length=4:=by omega
 rcases hc with h|h|h|h|h
 ·obtain rfl:=ae8 h;simp-implicitDefEqProofs[di];all_goals ((repeat' (first|apply And.intro|intro _))<;>first|omega|rfl)
 ·obtain⟨a,rfl⟩:=Pj h;have ha:=hx 0 (by simp);simp at ha;simp-implicitDefEqProofs[di];all_goals ((repeat' (first|apply And.intro|intro _))<;>first|omega|rfl)
 ·obtain⟨a,b,rfl⟩:=Pk h;have ha:=hx 0 (by simp);have hb:=hx 1 (by simp);simp at ha hb;simp-implicitDefEqProofs[di];all_goals ((repeat' (first|apply And.intro|intro _))<;>first|omega|rfl)
 ·obtain⟨a,b,c,rfl⟩:=Pl h;have ha:=hx 0 (by simp);have hb:=hx 1 (by simp);have hc:=hx 2 (by simp);simp at ha hb hc;simp-implicitDefEqProofs[di];all_goals ((repeat' (first|apply And.intro|intro _))<;>first|omega|rfl)
 ·obtain⟨a,b,c,d,rfl⟩:=DB h;have ha:=hx 0 (by simp);have hb:=hx 1 (by simp);have hc:=hx 2 (by simp);have hd:=hx 3 (by simp);simp at ha hb hc hd;simp-implicitDefEqProofs[di];all_goals ((repeat' (first|apply And.intro|intro _))<;>first|omega|rfl)
@[simp] theorem a7v(aU:List (List Canon))(aR:List dT)(hl:aU.length<=4)(hx: ∀i (h:i<aU.length),(aU[i]).length<=1000000000)(ho:aR.length<=1000000000):lY X [(0,0,84),(0,1,271)] 197 [.agg [aU,aR]]=some (.agg [aU,aR]):=by
 refine kJ Tryz.func197 rfl rfl ?_;have hc:aU.length=0\/aU.length=1\/aU.length=2\/aU.length=3\/aU.length=4:=by omega
 rcases hc with h|h|h|h|h
 ·obtain rfl:=ae8 h;simp-implicitDefEqProofs[di];all_goals ((repeat' (first|apply And.intro|intro _))<;>first|omega|rfl)
 ·obtain⟨a,rfl⟩:=Pj h;have ha:=hx 0 (by simp);simp at ha;simp-implicitDefEqProofs[di];all_goals ((repeat' (first|apply And.intro|intro _))<;>first|omega|rfl)
 ·obtain⟨a,b,rfl⟩:=Pk h;have ha:=hx 0 (by simp);have hb:=hx 1 (by simp);simp at ha hb;simp-implicitDefEqProofs[di];all_goals ((repeat' (first|apply And.intro|intro _))<;>first|omega|rfl)
 ·obtain⟨a,b,c,rfl⟩:=Pl h;have ha:=hx 0 (by simp);have hb:=hx 1 (by simp);have hc:=hx 2 (by simp);simp at ha hb hc;simp-implicitDefEqProofs[di];all_goals ((repeat' (first|apply And.intro|intro _))<;>first|omega|rfl)
 ·obtain⟨a,b,c,d,rfl⟩:=DB h;have ha:=hx 0 (by simp);have hb:=hx 1 (by simp);have hc:=hx 2 (by simp);have hd:=hx 3 (by simp);simp at ha hb hc hd;simp-implicitDefEqProofs[di];all_goals ((repeat' (first|apply And.intro|intro _))<;>first|omega|rfl)
def pw(f:bE)(h:Int):bE×Bool:=if qq f h=true then(⟨f.data,f.opens.set h.toNat closed⟩,true) else(f,false)
structure af7 (f:bE):Prop where
 data:f.data.length<=4
 each: ∀i (h:i<f.data.length),(f.data[i]).length<=1000000000
 opens:f.opens.length<=1000000000
theorem gS.lens{f:bE}(h:gS f):af7 f:=⟨h.data,fun i g=>by have:=(h.each i g).2;omega,by have:=h.opens;omega⟩
theorem IP{f:bE}{h:Int}(ho:qq f h=true): ∃k:Nat,h=k/\ ∃g:k<f.opens.length,¬(f.opens[k]).file= -1:=by
 unfold qq at ho;simp only[Bool.and_eq_true,decide_eq_true_eq]at ho;obtain⟨h1,h2,h3⟩:=ho;have hk:h.toNat<f.opens.length:=by omega
 refine⟨h.toNat,by omega,hk,?_⟩;simpa[List.getD,hk] using h3
@[simp] theorem WX(aU:List (List Canon))(aR:List dT)(h:Int)(hf:gS (bE.mk aU aR)):cz X 219 [.agg [aU,aR],h]=some (.de [.agg [.sl false (((pw (bE.mk aU aR) h).1).data.map ba),.sl false (((pw (bE.mk aU aR) h).1).opens.map dT.e)],.bool ((pw (bE.mk aU aR) h).2)]):=by
 refine bd Tryz.func219 rfl rfl ?_;have hl:=hf.lens;have l1:aU.length<=4:=hl.data;have l2:=hl.each;have l3:aR.length<=1000000000:=hl.opens;simp only at l2;cases ho:qq (bE.mk aU aR) h with
 |false=>
  have e:pw (bE.mk aU aR) h=((bE.mk aU aR),false):=by unfold pw;rw[if_neg (by simp[ho])]
  rw[e];simp-implicitDefEqProofs[l1,l2,l3,ho]
 |true=>
  have e:pw (bE.mk aU aR) h=(⟨aU,aR.set h.toNat closed⟩,true):=by unfold pw;rw[if_pos ho]
  rw[e];obtain⟨k,rfl,hk,_⟩:=IP ho;simp only at hk;have hc:dT.e closed= .agg [.int .i64 (-1),.int .i64 0,.bool false]:=rfl;simp-implicitDefEqProofs[l1,l2,l3,ho,hk];rw[show(aR[k].e.put 0 (V.agg [.int .i64 (-1),.int .i64 0,.bool false]))=dT.e closed from rfl,<-List.map_set (f:=dT.e),bn (by simp),sC,List.map_set];try rfl
end Go.Proofs.YtejohpnpnaljdaaGreat
