/- Part of a proof: S23. -/
import Derived.Test.YtejohpnpnaljdaaGreatM24
import Derived.Test.YtejohpnpnaljdaaGreatM26
import Derived.Test.YtejohpnpnaljdaaGreatM27
import Derived.Test.YtejohpnpnaljdaaGreatM31
import Derived.Test.YtejohpnpnaljdaaGreatM38
set_option linter.all false
set_option maxRecDepth 20000
set_option maxHeartbeats 20000000
namespace Go.Proofs.YtejohpnpnaljdaaGreat
open Go Go.Abs Go.Abs.lu
def nA(l:List Canon)(i j:Nat):Int:=if j<i then IntKind.i64.wrap (l.getD j ⟨0,0,0,0⟩).val else 0
def k7(l:List Canon)(i:Nat):List Int:=[nA l i 0,nA l i 1,nA l i 2]
theorem oM(l:List Canon)(i:Nat):(k7 l i).length=3:=rfl
theorem mK(l:List Canon):k7 l 0=[0,0,0]:=rfl
theorem oN{l:List Canon}{i:Nat}(h:i<l.length)(h3:i<3):(k7 l i).set i (IntKind.i64.wrap (l[i]).val)=k7 l (i+1):=by
 have e:l[i]=l.getD i ⟨0,0,0,0⟩:=by simp[List.getD,h]
 rw[e];rcases(by omega:i=0\/i=1\/i=2) with rfl|rfl|rfl<;>simp[k7,nA]
theorem AB: ∀(k:List UInt8) (l:List Int),iq k l=true->l.length=k.length
 | [],[],_=>rfl
 |_::_,[],h=>by simp[iq]at h
 | [],_::_,h=>by simp[iq]at h
 |a::k,b::l,h=>by
  simp only[iq,Bool.and_eq_true]at h;simp[AB k l h.2]
def iy(c a0 a1 a2:Int)(d:List Canon):Request:=⟨0,0,0,0,0,c,[⟨0,a0,0,0⟩,⟨0,a1,0,0⟩,⟨0,a2,0,0⟩],d⟩
theorem EV(x:Int):IntKind.u16.wrap (IntKind.i64.wrap x)=IntKind.u16.wrap x:=by
 simp[IntKind.wrap,IntKind.bits,IntKind.signed];split<;>omega
def ZC(o:cN)(r:Request)(n i:Nat)(S:St):Prop:=
 (S.f 2= .ptr 2 0 0/\S.f 3= .ptr 3 0 0/\S.f 4= .ptr 4 0 0/\S.f 5= .ptr 5 0 0/\S.f 7= .ptr 7 0 0/\S.f 8= .bU 8 0 3/\S.f 74= .sl false (r.args.map Canon.e)/\S.f 75= .int .i64 (n:Int)/\S.f 76= .int .i64 (i:Int))/\
 (S.h 2=some ⟨6,[.agg [.sl false (o.clock.map (V.int .u16)),.sl false (o.random.map (V.int .u16)),.sl false (o.cO.map aS),.sl false (o.files.data.map ba),.sl false (o.files.opens.map dT.e),.sl false (o.cT.map Output.e)]],true⟩/\
  S.h 3=some ⟨8,[.agg [.int .i64 r.iu,.int .i64 r.stop,.int .i64 r.dd,.int .i64 r.count,.int .i64 r.pc,.int .i64 r.call,.sl false (r.args.map Canon.e),.sl false (r.data.map Canon.e)]],true⟩/\
  S.h 4=some ⟨6,[.agg [.sl false [],.sl false [],.sl false [],.sl false [],.sl false [],.sl false []]],true⟩/\
  S.h 5=some ⟨7,[.agg [.int .u8 0,.int .u16 0,.int .i64 0,.int .i64 0,.sl false [],.int .i64 0,.bool false]],true⟩/\
  S.h 7=some ⟨6,[.agg [.sl false (o.clock.map (V.int .u16)),.sl false (o.random.map (V.int .u16)),.sl false (o.cO.map aS),.sl false (o.files.data.map ba),.sl false (o.files.opens.map dT.e),.sl false (o.cT.map Output.e)]],true⟩/\
  S.h 8=some ⟨1,(k7 r.args i).map (V.int .i64),false⟩)/\S.n=1100
@[simp] theorem CQ(aU:List (List Canon))(aR:List dT):cz X 194 [.agg [.sl false [],.sl false []]]=some (.bool false):=by
 refine bd Tryz.func194 rfl rfl ?_;simp-implicitDefEqProofs
@[simp] theorem CR(cw bQ:List Int)(bL:List (List Int))(bc:List (List Canon))(aW:List dT)(bD:List Output):cz X 170 [.agg [.sl false [],.sl false [],.sl false [],.sl false [],.sl false [],.sl false []]]=some (.bool false):=by
 have hv0:=CQ [] [];refine bd Tryz.func170 rfl rfl ?_;simp-implicitDefEqProofs[di,hv0]
@[simp] theorem au3(cw bQ:List Int)(bL:List (List Int))(bc:List (List Canon))(aW:List dT)(bD:List Output)(fQ gh eL dD kZ cM:Int)(bA cE:List Canon)(ho:pQ (cN.mk cw bQ bL (bE.mk bc aW) bD))(h1:bA.length<=1000000000)(h2:cE.length<=1000000000)(hv:fe cE): ∃(o':cN) (x:sX) (e:Int),cz X 210 [.agg [.sl false (cw.map (V.int .u16)),.sl false (bQ.map (V.int .u16)),bL,bc,aW,bD],.agg [fQ,gh,eL,dD,kZ,cM,bA,cE]]=some (.de [.agg [.sl false (o'.clock.map (V.int .u16)),.sl false (o'.random.map (V.int .u16)),.sl false (o'.cO.map aS),.sl false (o'.files.data.map ba),.sl false (o'.files.opens.map dT.e),.sl false (o'.cT.map Output.e)],.agg [.int .u8 x.value.tag,.int .u16 x.value.val,.int .i64 x.value.region,.int .i64 x.value.offset,.sl false (x.data.map Canon.e),.int .i64 x.spawn,.bool x.wait],e])/\pQ o'/\ui x:=by
 by_cases hG:mV (cN.mk cw bQ bL (bE.mk bc aW) bD)
 case neg=>
  have hz:(cN.mk cw bQ bL (bE.mk bc aW) bD)=j9:=by rcases ho with h|h;exact absurd h hG;exact h
  unfold j9 at hz;simp only[cN.mk.injEq,bE.mk.injEq]at hz;obtain⟨rfl,rfl,rfl,⟨rfl,rfl⟩,rfl⟩:=hz;refine⟨j9,k8,1,?_,.inr rfl,qG⟩;have hv0:=CR [] [] [] [] [] [];refine bd Tryz.func210 rfl rfl ?_;simp-implicitDefEqProofs[hv0,j9,k8]
 have hP:=hG.p;refine(?_: ∃(o':cN) (x:sX) (e:Int),_/\pQ o'/\ui x);by_cases hB:rA (Request.mk fQ gh eL dD kZ cM bA cE)=true
 case neg=>
  refine⟨j9,k8,1,?_,.inr rfl,qG⟩;refine bd Tryz.func210 rfl rfl ?_;simp-implicitDefEqProofs[hP,h1,h2,hB,j9,k8]
 have Qe:=eq_true hB;have hd:=(EH hB).1;by_cases iZ:gh=1
 case neg=>
  refine⟨j9,k8,1,?_,.inr rfl,qG⟩;refine bd Tryz.func210 rfl rfl ?_;simp-implicitDefEqProofs[hP,h1,h2,Qe,iZ,j9,k8]
 subst iZ;by_cases hac:(1<=cM/\cM<=7)\/cM=13\/cM=14
 case neg=>
  refine⟨j9,k8,1,?_,.inr rfl,qG⟩;refine bd Tryz.func210 rfl rfl ?_;simp-implicitDefEqProofs[hP,h1,h2,Qe,hac,j9,k8]
 have an3:=eq_true hac;have agu:0<=cM/\cM<=15:=by omega
 by_cases NL:iq (dK cM) (bA.map (·.tag))=true
 case neg=>
  refine⟨j9,k8,1,?_,.inr rfl,qG⟩;refine bd Tryz.func210 rfl rfl ?_;simp-implicitDefEqProofs[hP,h1,h2,Qe,an3,agu,NL,j9,k8]
 have qx:bA.length=(dK cM).length:=by have:=AB _ _ NL;simpa using this
 have a88:bA.length<=3:=by rw[qx];exact qY agu
 have DM:=eq_true NL;by_cases hbu:ph cM=2/\16<(bA.getD 2 ⟨0,0,0,0⟩).val
 case pos=>
  refine⟨j9,k8,1,?_,.inr rfl,qG⟩;refine bd Tryz.func210 rfl rfl ?_;obtain⟨b1,b2⟩:=hbu;have h3:bA.length=3:=by
   rw[qx];rcases hac with h|h|h
   ·obtain⟨a,b⟩:=h;rcases(by omega:cM=1\/cM=2\/cM=3\/cM=4\/cM=5\/cM=6\/cM=7) with rfl|rfl|rfl|rfl|rfl|rfl|rfl<;>first|rfl|(simp[ph]at b1)
   ·subst h;rfl
   ·subst h;rfl
  have h32:2<bA.length:=by omega
  have b3:16<(bA[2]).val:=by simpa[List.getD,h32] using b2
  have agv:(2:Int)<(bA.length:Int):=by omega
  have b4: ¬(bA[2]).val<=16:=by omega
  simp-implicitDefEqProofs[hP,h1,h2,Qe,an3,agu,DM,b1,b4,h32,agv,j9,k8]
 have hf:=hP.files;simp only at hf;have J5:=(EH hB).2;simp only at J5 hd;have hol:=hP.cT;have hox:=hP.output;have Bt:=hP.cO;have hix:=hP.input;simp only at hol hox Bt hix;have au6:bL.length<=1000:=by omega
 have au7: ∀i (h:i<bL.length),(bL[i]).length<=64:=hix;have au8:bD.length<=1000000000:=by omega
 have au9: ∀i (h:i<bD.length),(bD[i]).data.length<=1000000000:=fun i h=>by have:=(hox i h).2.2.2.1;omega
 have tf:cM=1\/cM=2\/cM=3\/cM=4\/cM=5\/cM=6\/cM=7\/cM=13\/cM=14:=by omega
 rcases tf with rfl|rfl|rfl|rfl|rfl|rfl|rfl|rfl|rfl
 ·have hn:bA.length=3:=qx;have AK:(bA.length:Int)=3:=by omega
  obtain⟨a0,Gc⟩: ∃a,nA bA 3 0=a:=⟨_,rfl⟩;obtain⟨a1,Db⟩: ∃a,nA bA 3 1=a:=⟨_,rfl⟩;obtain⟨a2,Jk⟩: ∃a,nA bA 3 2=a:=⟨_,rfl⟩;have hA:k7 bA 3=[a0,a1,a2]:=by simp only[k7,Gc,Db,Jk]
  have ju:=tH hG (r:=iy 1 a0 a1 a2 cE) hd hv;refine⟨(pH (cN.mk cw bQ bL (bE.mk bc aW) bD) (iy 1 a0 a1 a2 cE)).1,(pH (cN.mk cw bQ bL (bE.mk bc aW) bD) (iy 1 a0 a1 a2 cE)).2,0,?_,.inl ju.1,ju.2⟩;obtain⟨D,hD⟩: ∃D,pH (cN.mk cw bQ bL (bE.mk bc aW) bD) (iy 1 a0 a1 a2 cE)=D:=⟨_,rfl⟩;rw[hD];have zG:ph 1=1:=rfl;refine bd Tryz.func210 rfl rfl ?_;simp-implicitDefEqProofs[hP,h1,h2,Qe,DM,zG,AK];refine cP (fun i S=>ZC (cN.mk cw bQ bL (bE.mk bc aW) bD) ⟨fQ,1,eL,dD,kZ,1,bA,cE⟩ 3 i S) 3 ?_ 0 (by omega) ?_
  ·rintro i S hi ⟨⟨f2,f3,f4,f5,f7,f8,f74,f75,f76⟩,⟨g2,g3,g4,g5,g7,g8⟩,gn⟩;simp only at g2 g3 g7 g8 f74 f75;by_cases eX:i<3
   ·have bI:(i:Int)<3:=by omega
    have nu:i<bA.length:=by omega
    have vg:(i:Int)<(bA.length:Int):=by omega
    have xE:i<3:=by omega
    have zO:(i:Int)<3:=by omega
    have eY:=cS i (by omega);have hlen:=oM bA i;have jI:((k7 bA i).map (V.int .i64)).set i (V.int .i64 (IntKind.i64.wrap (bA[i]).val))=(k7 bA (i+1)).map (V.int .i64):=by rw[<-List.map_set,oN nu xE]
    simp-implicitDefEqProofs[f2,f3,f4,f5,f7,f8,f74,f75,f76,g2,g3,g4,g5,g7,g8,gn,eX,bI,nu,vg,eY,hlen];refine⟨by simp[aO],⟨by simp[aO],by simp[aO],by simp[aO],by simp[aO],by simp[aO],by simp[aO,jI]⟩,rfl⟩
   ·have bI: ¬(i:Int)<3:=by omega
    have ei:i=3:=by omega
    subst ei;rw[hA]at g8;have e:D=pH _ (iy 1 a0 a1 a2 cE):=hD.symm;unfold pH iy at e;simp[fU,kr]at e;subst e;simp-implicitDefEqProofs[f2,f3,f4,f5,f7,f8,f75,f76,g2,g3,g4,g5,g7,g8,gn,hf,h2]
  ·simp-implicitDefEqProofs;refine⟨by simp[aO],⟨by simp[aO],by simp[aO],by simp[aO],by simp[aO],by simp[aO],by simp[aO,mK]⟩,rfl⟩
 ·have hn:bA.length=3:=qx;have AK:(bA.length:Int)=3:=by omega
  have h32:2<bA.length:=by omega
  have agv:(2:Int)<(bA.length:Int):=by omega
  have b3: ¬16<(bA[2]).val:=fun h=>hbu ⟨rfl,by simpa[List.getD,h32] using h⟩;have b4:(bA[2]).val<=16:=by omega
  obtain⟨a0,Gc⟩: ∃a,nA bA 3 0=a:=⟨_,rfl⟩;obtain⟨a1,Db⟩: ∃a,nA bA 3 1=a:=⟨_,rfl⟩;obtain⟨a2,Jk⟩: ∃a,nA bA 3 2=a:=⟨_,rfl⟩;have hA:k7 bA 3=[a0,a1,a2]:=by simp only[k7,Gc,Db,Jk]
  have ju:=tH hG (r:=iy 2 a0 a1 a2 cE) hd hv;refine⟨(pH (cN.mk cw bQ bL (bE.mk bc aW) bD) (iy 2 a0 a1 a2 cE)).1,(pH (cN.mk cw bQ bL (bE.mk bc aW) bD) (iy 2 a0 a1 a2 cE)).2,0,?_,.inl ju.1,ju.2⟩;obtain⟨D,hD⟩: ∃D,pH (cN.mk cw bQ bL (bE.mk bc aW) bD) (iy 2 a0 a1 a2 cE)=D:=⟨_,rfl⟩;rw[hD];have zG:ph 2=2:=rfl;refine bd Tryz.func210 rfl rfl ?_;simp-implicitDefEqProofs[hP,h1,h2,Qe,DM,zG,AK,h32,b4];refine cP (fun i S=>ZC (cN.mk cw bQ bL (bE.mk bc aW) bD) ⟨fQ,1,eL,dD,kZ,2,bA,cE⟩ 3 i S) 3 ?_ 0 (by omega) ?_
  ·rintro i S hi ⟨⟨f2,f3,f4,f5,f7,f8,f74,f75,f76⟩,⟨g2,g3,g4,g5,g7,g8⟩,gn⟩;simp only at g2 g3 g7 g8 f74 f75;by_cases eX:i<3
   ·have bI:(i:Int)<3:=by omega
    have nu:i<bA.length:=by omega
    have vg:(i:Int)<(bA.length:Int):=by omega
    have xE:i<3:=by omega
    have zO:(i:Int)<3:=by omega
    have eY:=cS i (by omega);have hlen:=oM bA i;have jI:((k7 bA i).map (V.int .i64)).set i (V.int .i64 (IntKind.i64.wrap (bA[i]).val))=(k7 bA (i+1)).map (V.int .i64):=by rw[<-List.map_set,oN nu xE]
    simp-implicitDefEqProofs[f2,f3,f4,f5,f7,f8,f74,f75,f76,g2,g3,g4,g5,g7,g8,gn,eX,bI,nu,vg,eY,hlen];refine⟨by simp[aO],⟨by simp[aO],by simp[aO],by simp[aO],by simp[aO],by simp[aO],by simp[aO,jI]⟩,rfl⟩
   ·have bI: ¬(i:Int)<3:=by omega
    have ei:i=3:=by omega
    subst ei;rw[hA]at g8;have e:D=pH _ (iy 2 a0 a1 a2 cE):=hD.symm;unfold pH iy at e;simp[fU,kr]at e;subst e;simp-implicitDefEqProofs[f2,f3,f4,f5,f7,f8,f75,f76,g2,g3,g4,g5,g7,g8,gn,hf]
  ·simp-implicitDefEqProofs;refine⟨by simp[aO],⟨by simp[aO],by simp[aO],by simp[aO],by simp[aO],by simp[aO],by simp[aO,mK]⟩,rfl⟩
 ·have hn:bA.length=2:=qx;have AK:(bA.length:Int)=2:=by omega
  obtain⟨a0,Gc⟩: ∃a,nA bA 2 0=a:=⟨_,rfl⟩;obtain⟨a1,Db⟩: ∃a,nA bA 2 1=a:=⟨_,rfl⟩;obtain⟨a2,Jk⟩: ∃a,nA bA 2 2=a:=⟨_,rfl⟩;have hA:k7 bA 2=[a0,a1,a2]:=by simp only[k7,Gc,Db,Jk]
  have ju:=tH hG (r:=iy 3 a0 a1 a2 cE) hd hv;refine⟨(pH (cN.mk cw bQ bL (bE.mk bc aW) bD) (iy 3 a0 a1 a2 cE)).1,(pH (cN.mk cw bQ bL (bE.mk bc aW) bD) (iy 3 a0 a1 a2 cE)).2,0,?_,.inl ju.1,ju.2⟩;obtain⟨D,hD⟩: ∃D,pH (cN.mk cw bQ bL (bE.mk bc aW) bD) (iy 3 a0 a1 a2 cE)=D:=⟨_,rfl⟩;rw[hD];have zG:ph 3=0:=rfl;refine bd Tryz.func210 rfl rfl ?_;simp-implicitDefEqProofs[hP,h1,h2,Qe,DM,zG,AK];refine cP (fun i S=>ZC (cN.mk cw bQ bL (bE.mk bc aW) bD) ⟨fQ,1,eL,dD,kZ,3,bA,cE⟩ 2 i S) 2 ?_ 0 (by omega) ?_
  ·rintro i S hi ⟨⟨f2,f3,f4,f5,f7,f8,f74,f75,f76⟩,⟨g2,g3,g4,g5,g7,g8⟩,gn⟩;simp only at g2 g3 g7 g8 f74 f75;by_cases eX:i<2
   ·have bI:(i:Int)<2:=by omega
    have nu:i<bA.length:=by omega
    have vg:(i:Int)<(bA.length:Int):=by omega
    have xE:i<3:=by omega
    have zO:(i:Int)<3:=by omega
    have eY:=cS i (by omega);have hlen:=oM bA i;have jI:((k7 bA i).map (V.int .i64)).set i (V.int .i64 (IntKind.i64.wrap (bA[i]).val))=(k7 bA (i+1)).map (V.int .i64):=by rw[<-List.map_set,oN nu xE]
    simp-implicitDefEqProofs[f2,f3,f4,f5,f7,f8,f74,f75,f76,g2,g3,g4,g5,g7,g8,gn,eX,bI,nu,vg,xE,zO,eY,hlen];refine⟨by simp[aO],⟨by simp[aO],by simp[aO],by simp[aO],by simp[aO],by simp[aO],by simp[aO,jI]⟩,rfl⟩
   ·have bI: ¬(i:Int)<2:=by omega
    have ei:i=2:=by omega
    subst ei;rw[hA]at g8;by_cases iA:0<=(mP (bE.mk bc aW) a0 a1).2
    ·have e:D=pH _ (iy 3 a0 a1 a2 cE):=hD.symm;unfold pH iy at e;simp[fU,iA]at e;subst e;simp-implicitDefEqProofs[f2,f3,f4,f5,f7,f8,f75,f76,g2,g3,g4,g5,g7,g8,gn,hf,iA]
    ·have e:D=pH _ (iy 3 a0 a1 a2 cE):=hD.symm;unfold pH iy at e;simp[fU,kr,iA]at e;subst e;simp-implicitDefEqProofs[f2,f3,f4,f5,f7,f8,f75,f76,g2,g3,g4,g5,g7,g8,gn,hf,iA]
  ·simp-implicitDefEqProofs;refine⟨by simp[aO],⟨by simp[aO],by simp[aO],by simp[aO],by simp[aO],by simp[aO],by simp[aO,mK]⟩,rfl⟩
 ·have hn:bA.length=1:=qx;have AK:(bA.length:Int)=1:=by omega
  obtain⟨a0,Gc⟩: ∃a,nA bA 1 0=a:=⟨_,rfl⟩;obtain⟨a1,Db⟩: ∃a,nA bA 1 1=a:=⟨_,rfl⟩;obtain⟨a2,Jk⟩: ∃a,nA bA 1 2=a:=⟨_,rfl⟩;have hA:k7 bA 1=[a0,a1,a2]:=by simp only[k7,Gc,Db,Jk]
  have ju:=tH hG (r:=iy 4 a0 a1 a2 cE) hd hv;refine⟨(pH (cN.mk cw bQ bL (bE.mk bc aW) bD) (iy 4 a0 a1 a2 cE)).1,(pH (cN.mk cw bQ bL (bE.mk bc aW) bD) (iy 4 a0 a1 a2 cE)).2,0,?_,.inl ju.1,ju.2⟩;obtain⟨D,hD⟩: ∃D,pH (cN.mk cw bQ bL (bE.mk bc aW) bD) (iy 4 a0 a1 a2 cE)=D:=⟨_,rfl⟩;rw[hD];have zG:ph 4=0:=rfl;refine bd Tryz.func210 rfl rfl ?_;simp-implicitDefEqProofs[hP,h1,h2,Qe,DM,zG,AK];refine cP (fun i S=>ZC (cN.mk cw bQ bL (bE.mk bc aW) bD) ⟨fQ,1,eL,dD,kZ,4,bA,cE⟩ 1 i S) 1 ?_ 0 (by omega) ?_
  ·rintro i S hi ⟨⟨f2,f3,f4,f5,f7,f8,f74,f75,f76⟩,⟨g2,g3,g4,g5,g7,g8⟩,gn⟩;simp only at g2 g3 g7 g8 f74 f75;by_cases eX:i<1
   ·have bI:(i:Int)<1:=by omega
    have nu:i<bA.length:=by omega
    have vg:(i:Int)<(bA.length:Int):=by omega
    have xE:i<3:=by omega
    have zO:(i:Int)<3:=by omega
    have eY:=cS i (by omega);have hlen:=oM bA i;have jI:((k7 bA i).map (V.int .i64)).set i (V.int .i64 (IntKind.i64.wrap (bA[i]).val))=(k7 bA (i+1)).map (V.int .i64):=by rw[<-List.map_set,oN nu xE]
    simp-implicitDefEqProofs[f2,f3,f4,f5,f7,f8,f74,f75,f76,g2,g3,g4,g5,g7,g8,gn,eX,bI,nu,vg,xE,zO,eY,hlen];refine⟨by simp[aO],⟨by simp[aO],by simp[aO],by simp[aO],by simp[aO],by simp[aO],by simp[aO,jI]⟩,rfl⟩
   ·have bI: ¬(i:Int)<1:=by omega
    have ei:i=1:=by omega
    subst ei;rw[hA]at g8;have e:D=pH _ (iy 4 a0 a1 a2 cE):=hD.symm;unfold pH iy at e;simp[fU,kr]at e;subst e;simp-implicitDefEqProofs[f2,f3,f4,f5,f7,f8,f75,f76,g2,g3,g4,g5,g7,g8,gn,hf]
  ·simp-implicitDefEqProofs;refine⟨by simp[aO],⟨by simp[aO],by simp[aO],by simp[aO],by simp[aO],by simp[aO],by simp[aO,mK]⟩,rfl⟩
 ·have hn:bA.length=2:=qx;have AK:(bA.length:Int)=2:=by omega
  obtain⟨a0,Gc⟩: ∃a,nA bA 2 0=a:=⟨_,rfl⟩;obtain⟨a1,Db⟩: ∃a,nA bA 2 1=a:=⟨_,rfl⟩;obtain⟨a2,Jk⟩: ∃a,nA bA 2 2=a:=⟨_,rfl⟩;have hA:k7 bA 2=[a0,a1,a2]:=by simp only[k7,Gc,Db,Jk]
  have ju:=tH hG (r:=iy 5 a0 a1 a2 cE) hd hv;refine⟨(pH (cN.mk cw bQ bL (bE.mk bc aW) bD) (iy 5 a0 a1 a2 cE)).1,(pH (cN.mk cw bQ bL (bE.mk bc aW) bD) (iy 5 a0 a1 a2 cE)).2,0,?_,.inl ju.1,ju.2⟩;obtain⟨D,hD⟩: ∃D,pH (cN.mk cw bQ bL (bE.mk bc aW) bD) (iy 5 a0 a1 a2 cE)=D:=⟨_,rfl⟩;rw[hD];have zG:ph 5=0:=rfl;refine bd Tryz.func210 rfl rfl ?_;simp-implicitDefEqProofs[hP,h1,h2,Qe,DM,zG,AK];refine cP (fun i S=>ZC (cN.mk cw bQ bL (bE.mk bc aW) bD) ⟨fQ,1,eL,dD,kZ,5,bA,cE⟩ 2 i S) 2 ?_ 0 (by omega) ?_
  ·rintro i S hi ⟨⟨f2,f3,f4,f5,f7,f8,f74,f75,f76⟩,⟨g2,g3,g4,g5,g7,g8⟩,gn⟩;simp only at g2 g3 g7 g8 f74 f75;by_cases eX:i<2
   ·have bI:(i:Int)<2:=by omega
    have nu:i<bA.length:=by omega
    have vg:(i:Int)<(bA.length:Int):=by omega
    have xE:i<3:=by omega
    have zO:(i:Int)<3:=by omega
    have eY:=cS i (by omega);have hlen:=oM bA i;have jI:((k7 bA i).map (V.int .i64)).set i (V.int .i64 (IntKind.i64.wrap (bA[i]).val))=(k7 bA (i+1)).map (V.int .i64):=by rw[<-List.map_set,oN nu xE]
    simp-implicitDefEqProofs[f2,f3,f4,f5,f7,f8,f74,f75,f76,g2,g3,g4,g5,g7,g8,gn,eX,bI,nu,vg,xE,zO,eY,hlen];refine⟨by simp[aO],⟨by simp[aO],by simp[aO],by simp[aO],by simp[aO],by simp[aO],by simp[aO,jI]⟩,rfl⟩
   ·have bI: ¬(i:Int)<2:=by omega
    have ei:i=2:=by omega
    subst ei;rw[hA]at g8;have e:D=pH _ (iy 5 a0 a1 a2 cE):=hD.symm;unfold pH iy at e;simp[fU,kr]at e;subst e;simp-implicitDefEqProofs[f2,f3,f4,f5,f7,f8,f75,f76,g2,g3,g4,g5,g7,g8,gn,hf]
  ·simp-implicitDefEqProofs;refine⟨by simp[aO],⟨by simp[aO],by simp[aO],by simp[aO],by simp[aO],by simp[aO],by simp[aO,mK]⟩,rfl⟩
 ·have hn:bA.length=0:=qx;have AK:(bA.length:Int)=0:=by omega
  obtain⟨a0,Gc⟩: ∃a,nA bA 0 0=a:=⟨_,rfl⟩;obtain⟨a1,Db⟩: ∃a,nA bA 0 1=a:=⟨_,rfl⟩;obtain⟨a2,Jk⟩: ∃a,nA bA 0 2=a:=⟨_,rfl⟩;have hA:k7 bA 0=[a0,a1,a2]:=by simp only[k7,Gc,Db,Jk]
  have ju:=tH hG (r:=iy 6 a0 a1 a2 cE) hd hv;refine⟨(pH (cN.mk cw bQ bL (bE.mk bc aW) bD) (iy 6 a0 a1 a2 cE)).1,(pH (cN.mk cw bQ bL (bE.mk bc aW) bD) (iy 6 a0 a1 a2 cE)).2,0,?_,.inl ju.1,ju.2⟩;obtain⟨D,hD⟩: ∃D,pH (cN.mk cw bQ bL (bE.mk bc aW) bD) (iy 6 a0 a1 a2 cE)=D:=⟨_,rfl⟩;rw[hD];have zG:ph 6=0:=rfl;refine bd Tryz.func210 rfl rfl ?_;simp-implicitDefEqProofs[hP,h1,h2,Qe,DM,zG,AK];refine cP (fun i S=>ZC (cN.mk cw bQ bL (bE.mk bc aW) bD) ⟨fQ,1,eL,dD,kZ,6,bA,cE⟩ 0 i S) 0 ?_ 0 (by omega) ?_
  ·rintro i S hi ⟨⟨f2,f3,f4,f5,f7,f8,f74,f75,f76⟩,⟨g2,g3,g4,g5,g7,g8⟩,gn⟩;simp only at g2 g3 g7 g8 f74 f75;by_cases eX:i<0
   ·have bI:(i:Int)<0:=by omega
    have nu:i<bA.length:=by omega
    have vg:(i:Int)<(bA.length:Int):=by omega
    have xE:i<3:=by omega
    have zO:(i:Int)<3:=by omega
    have eY:=cS i (by omega);have hlen:=oM bA i;have jI:((k7 bA i).map (V.int .i64)).set i (V.int .i64 (IntKind.i64.wrap (bA[i]).val))=(k7 bA (i+1)).map (V.int .i64):=by rw[<-List.map_set,oN nu xE]
    simp-implicitDefEqProofs[f2,f3,f4,f5,f7,f8,f74,f75,f76,g2,g3,g4,g5,g7,g8,gn,eX,bI,nu,vg,xE,zO,eY,hlen];refine⟨by simp[aO],⟨by simp[aO],by simp[aO],by simp[aO],by simp[aO],by simp[aO],by simp[aO,jI]⟩,rfl⟩
   ·have bI: ¬(i:Int)<0:=by omega
    have ei:i=0:=by omega
    subst ei;rw[hA]at g8;rcases cw with _|⟨x,xs⟩
    ·have e:D=pH _ (iy 6 a0 a1 a2 cE):=hD.symm;unfold pH iy at e;simp[kr]at e;subst e;simp-implicitDefEqProofs[f2,f3,f4,f5,f7,f75,f76,g2,g3,g4,g5,g7,gn]
    ·have e:D=pH _ (iy 6 a0 a1 a2 cE):=hD.symm;unfold pH iy at e;simp[kr]at e;subst e;have U6:(1:Int)<=(xs.length:Int)+1:=by omega
     have ZA:=EV x;simp-implicitDefEqProofs[f2,f3,f4,f5,f7,f75,f76,g2,g3,g4,g5,g7,gn,U6,ZA]
  ·simp-implicitDefEqProofs;refine⟨by simp[aO],⟨by simp[aO],by simp[aO],by simp[aO],by simp[aO],by simp[aO],by simp[aO,mK]⟩,rfl⟩
 ·have hn:bA.length=0:=qx;have AK:(bA.length:Int)=0:=by omega
  obtain⟨a0,Gc⟩: ∃a,nA bA 0 0=a:=⟨_,rfl⟩;obtain⟨a1,Db⟩: ∃a,nA bA 0 1=a:=⟨_,rfl⟩;obtain⟨a2,Jk⟩: ∃a,nA bA 0 2=a:=⟨_,rfl⟩;have hA:k7 bA 0=[a0,a1,a2]:=by simp only[k7,Gc,Db,Jk]
  have ju:=tH hG (r:=iy 7 a0 a1 a2 cE) hd hv;refine⟨(pH (cN.mk cw bQ bL (bE.mk bc aW) bD) (iy 7 a0 a1 a2 cE)).1,(pH (cN.mk cw bQ bL (bE.mk bc aW) bD) (iy 7 a0 a1 a2 cE)).2,0,?_,.inl ju.1,ju.2⟩;obtain⟨D,hD⟩: ∃D,pH (cN.mk cw bQ bL (bE.mk bc aW) bD) (iy 7 a0 a1 a2 cE)=D:=⟨_,rfl⟩;rw[hD];have zG:ph 7=0:=rfl;refine bd Tryz.func210 rfl rfl ?_;simp-implicitDefEqProofs[hP,h1,h2,Qe,DM,zG,AK];refine cP (fun i S=>ZC (cN.mk cw bQ bL (bE.mk bc aW) bD) ⟨fQ,1,eL,dD,kZ,7,bA,cE⟩ 0 i S) 0 ?_ 0 (by omega) ?_
  ·rintro i S hi ⟨⟨f2,f3,f4,f5,f7,f8,f74,f75,f76⟩,⟨g2,g3,g4,g5,g7,g8⟩,gn⟩;simp only at g2 g3 g7 g8 f74 f75;by_cases eX:i<0
   ·have bI:(i:Int)<0:=by omega
    have nu:i<bA.length:=by omega
    have vg:(i:Int)<(bA.length:Int):=by omega
    have xE:i<3:=by omega
    have zO:(i:Int)<3:=by omega
    have eY:=cS i (by omega);have hlen:=oM bA i;have jI:((k7 bA i).map (V.int .i64)).set i (V.int .i64 (IntKind.i64.wrap (bA[i]).val))=(k7 bA (i+1)).map (V.int .i64):=by rw[<-List.map_set,oN nu xE]
    simp-implicitDefEqProofs[f2,f3,f4,f5,f7,f8,f74,f75,f76,g2,g3,g4,g5,g7,g8,gn,eX,bI,nu,vg,xE,zO,eY,hlen];refine⟨by simp[aO],⟨by simp[aO],by simp[aO],by simp[aO],by simp[aO],by simp[aO],by simp[aO,jI]⟩,rfl⟩
   ·have bI: ¬(i:Int)<0:=by omega
    have ei:i=0:=by omega
    subst ei;rw[hA]at g8;rcases bQ with _|⟨x,xs⟩
    ·have e:D=pH _ (iy 7 a0 a1 a2 cE):=hD.symm;unfold pH iy at e;simp[kr]at e;subst e;simp-implicitDefEqProofs[f2,f3,f4,f5,f7,f75,f76,g2,g3,g4,g5,g7,gn]
    ·have e:D=pH _ (iy 7 a0 a1 a2 cE):=hD.symm;unfold pH iy at e;simp[kr]at e;subst e;have U6:(1:Int)<=(xs.length:Int)+1:=by omega
     have ZA:=EV x;simp-implicitDefEqProofs[f2,f3,f4,f5,f7,f75,f76,g2,g3,g4,g5,g7,gn,U6,ZA]
  ·simp-implicitDefEqProofs;refine⟨by simp[aO],⟨by simp[aO],by simp[aO],by simp[aO],by simp[aO],by simp[aO],by simp[aO,mK]⟩,rfl⟩
 ·have hn:bA.length=3:=qx;have AK:(bA.length:Int)=3:=by omega
  obtain⟨a0,Gc⟩: ∃a,nA bA 3 0=a:=⟨_,rfl⟩;obtain⟨a1,Db⟩: ∃a,nA bA 3 1=a:=⟨_,rfl⟩;obtain⟨a2,Jk⟩: ∃a,nA bA 3 2=a:=⟨_,rfl⟩;have hA:k7 bA 3=[a0,a1,a2]:=by simp only[k7,Gc,Db,Jk]
  have ju:=tH hG (r:=iy 13 a0 a1 a2 cE) hd hv;refine⟨(pH (cN.mk cw bQ bL (bE.mk bc aW) bD) (iy 13 a0 a1 a2 cE)).1,(pH (cN.mk cw bQ bL (bE.mk bc aW) bD) (iy 13 a0 a1 a2 cE)).2,0,?_,.inl ju.1,ju.2⟩;obtain⟨D,hD⟩: ∃D,pH (cN.mk cw bQ bL (bE.mk bc aW) bD) (iy 13 a0 a1 a2 cE)=D:=⟨_,rfl⟩;rw[hD];have zG:ph 13=1:=rfl;refine bd Tryz.func210 rfl rfl ?_;simp-implicitDefEqProofs[hP,h1,h2,Qe,DM,zG,AK];refine cP (fun i S=>ZC (cN.mk cw bQ bL (bE.mk bc aW) bD) ⟨fQ,1,eL,dD,kZ,13,bA,cE⟩ 3 i S) 3 ?_ 0 (by omega) ?_
  ·rintro i S hi ⟨⟨f2,f3,f4,f5,f7,f8,f74,f75,f76⟩,⟨g2,g3,g4,g5,g7,g8⟩,gn⟩;simp only at g2 g3 g7 g8 f74 f75;by_cases eX:i<3
   ·have bI:(i:Int)<3:=by omega
    have nu:i<bA.length:=by omega
    have vg:(i:Int)<(bA.length:Int):=by omega
    have xE:i<3:=by omega
    have zO:(i:Int)<3:=by omega
    have eY:=cS i (by omega);have hlen:=oM bA i;have jI:((k7 bA i).map (V.int .i64)).set i (V.int .i64 (IntKind.i64.wrap (bA[i]).val))=(k7 bA (i+1)).map (V.int .i64):=by rw[<-List.map_set,oN nu xE]
    simp-implicitDefEqProofs[f2,f3,f4,f5,f7,f8,f74,f75,f76,g2,g3,g4,g5,g7,g8,gn,eX,bI,nu,vg,eY,hlen];refine⟨by simp[aO],⟨by simp[aO],by simp[aO],by simp[aO],by simp[aO],by simp[aO],by simp[aO,jI]⟩,rfl⟩
   ·have bI: ¬(i:Int)<3:=by omega
    have ei:i=3:=by omega
    subst ei;rw[hA]at g8;have e:D=pH _ (iy 13 a0 a1 a2 cE):=hD.symm;unfold pH iy at e;simp[fU,kr]at e;subst e;simp-implicitDefEqProofs[f2,f3,f4,f5,f7,f8,f75,f76,g2,g3,g4,g5,g7,g8,gn,h2,au8,au9];exact⟨rfl,rfl⟩
  ·simp-implicitDefEqProofs;refine⟨by simp[aO],⟨by simp[aO],by simp[aO],by simp[aO],by simp[aO],by simp[aO],by simp[aO,mK]⟩,rfl⟩
 ·have hn:bA.length=3:=qx;have AK:(bA.length:Int)=3:=by omega
  have h32:2<bA.length:=by omega
  have agv:(2:Int)<(bA.length:Int):=by omega
  have b3: ¬16<(bA[2]).val:=fun h=>hbu ⟨rfl,by simpa[List.getD,h32] using h⟩;have b4:(bA[2]).val<=16:=by omega
  obtain⟨a0,Gc⟩: ∃a,nA bA 3 0=a:=⟨_,rfl⟩;obtain⟨a1,Db⟩: ∃a,nA bA 3 1=a:=⟨_,rfl⟩;obtain⟨a2,Jk⟩: ∃a,nA bA 3 2=a:=⟨_,rfl⟩;have hA:k7 bA 3=[a0,a1,a2]:=by simp only[k7,Gc,Db,Jk]
  have ju:=tH hG (r:=iy 14 a0 a1 a2 cE) hd hv;refine⟨(pH (cN.mk cw bQ bL (bE.mk bc aW) bD) (iy 14 a0 a1 a2 cE)).1,(pH (cN.mk cw bQ bL (bE.mk bc aW) bD) (iy 14 a0 a1 a2 cE)).2,0,?_,.inl ju.1,ju.2⟩;obtain⟨D,hD⟩: ∃D,pH (cN.mk cw bQ bL (bE.mk bc aW) bD) (iy 14 a0 a1 a2 cE)=D:=⟨_,rfl⟩;rw[hD];have zG:ph 14=2:=rfl;refine bd Tryz.func210 rfl rfl ?_;simp-implicitDefEqProofs[hP,h1,h2,Qe,DM,zG,AK,h32,b4];refine cP (fun i S=>ZC (cN.mk cw bQ bL (bE.mk bc aW) bD) ⟨fQ,1,eL,dD,kZ,14,bA,cE⟩ 3 i S) 3 ?_ 0 (by omega) ?_
  ·rintro i S hi ⟨⟨f2,f3,f4,f5,f7,f8,f74,f75,f76⟩,⟨g2,g3,g4,g5,g7,g8⟩,gn⟩;simp only at g2 g3 g7 g8 f74 f75;by_cases eX:i<3
   ·have bI:(i:Int)<3:=by omega
    have nu:i<bA.length:=by omega
    have vg:(i:Int)<(bA.length:Int):=by omega
    have xE:i<3:=by omega
    have zO:(i:Int)<3:=by omega
    have eY:=cS i (by omega);have hlen:=oM bA i;have jI:((k7 bA i).map (V.int .i64)).set i (V.int .i64 (IntKind.i64.wrap (bA[i]).val))=(k7 bA (i+1)).map (V.int .i64):=by rw[<-List.map_set,oN nu xE]
    simp-implicitDefEqProofs[f2,f3,f4,f5,f7,f8,f74,f75,f76,g2,g3,g4,g5,g7,g8,gn,eX,bI,nu,vg,eY,hlen];refine⟨by simp[aO],⟨by simp[aO],by simp[aO],by simp[aO],by simp[aO],by simp[aO],by simp[aO,jI]⟩,rfl⟩
   ·have bI: ¬(i:Int)<3:=by omega
    have ei:i=3:=by omega
    subst ei;rw[hA]at g8;have e:D=pH _ (iy 14 a0 a1 a2 cE):=hD.symm;unfold pH iy at e;simp[fU,kr]at e;subst e;simp-implicitDefEqProofs[f2,f3,f4,f5,f7,f8,f75,f76,g2,g3,g4,g5,g7,g8,gn,au6,au7]
  ·simp-implicitDefEqProofs;refine⟨by simp[aO],⟨by simp[aO],by simp[aO],by simp[aO],by simp[aO],by simp[aO],by simp[aO,mK]⟩,rfl⟩
end Go.Proofs.YtejohpnpnaljdaaGreat
