/- Part of a proof: S1. -/
import Derived.Test.YtdngefmliibcgaaGreatM03
set_option linter.all false
set_option maxRecDepth 20000
set_option maxHeartbeats 20000000
namespace Go.Proofs.YtdngefmliibcgaaGreat
open Go Go.Abs Go.Abs.fJ
@[simp] theorem Tq(v n:Int)(hn:1≤n∧n≤4611686018427387904):ba X 84 [.int .i64 v,.int .i64 n]=some (.int .i64 (v % n)):=by
 refine aN Tryz.func84 rfl rfl ?_;have h0:(n=0)=False:=by simp;omega
 have h1:=Int.emod_nonneg v (show n≠0 by omega);have h2:=Int.emod_lt_of_pos v (show 0<n by omega);rw[pD (show 0<n by omega)];by_cases hc:v.tmod n<0
 ·simp(maxSteps:=10000000) (maxDischargeDepth:=30) (implicitDefEqProofs:=false)[h0,hc];rw[pD (show 0<n by omega),if_pos hc]at h1 h2;exact wrap_i64 (by omega)
 ·simp(maxSteps:=10000000) (maxDischargeDepth:=30) (implicitDefEqProofs:=false)[h0,hc]
@[simp] theorem Ts(v n:Int)(hn:1≤n∧n≤4611686018427387904):ba X 98 [.int .i64 v,.int .i64 n]=some (.int .i64 (v % n)):=by
 refine aN Tryz.func98 rfl rfl ?_;have h0:(n=0)=False:=by simp;omega
 have h1:=Int.emod_nonneg v (show n≠0 by omega);have h2:=Int.emod_lt_of_pos v (show 0<n by omega);rw[pD (show 0<n by omega)];by_cases hc:v.tmod n<0
 ·simp(maxSteps:=10000000) (maxDischargeDepth:=30) (implicitDefEqProofs:=false)[h0,hc];rw[pD (show 0<n by omega),if_pos hc]at h1 h2;exact wrap_i64 (by omega)
 ·simp(maxSteps:=10000000) (maxDischargeDepth:=30) (implicitDefEqProofs:=false)[h0,hc]
@[simp] theorem Vv(v n:Int)(hn:1≤n∧n≤4611686018427387904):ba X 27 [.int .i64 v,.int .i64 n]=some (.int .i64 (v % n)):=by
 refine aN Tryz.func27 rfl rfl ?_;simp(maxSteps:=10000000) (maxDischargeDepth:=30) (implicitDefEqProofs:=false)[hn]
@[simp] theorem QO(dy cS:Int):ba X 223 [.agg [.int .u8 dy,.int .u16 cS]]=some (.bool (decide (dy≤2))):=by
 refine aN Tryz.func223 rfl rfl ?_;simp(maxSteps:=10000000) (maxDischargeDepth:=30) (implicitDefEqProofs:=false)[]
@[simp] theorem NU(aq:List Int)(hm:aq.length≤1000000000):ba X 216 [.sl false (aq.map (V.int .i64))]=some (.bool (je aq)):=by
 refine aN Tryz.func216 rfl rfl ?_;simp(maxSteps:=10000000) (maxDischargeDepth:=30) (implicitDefEqProofs:=false)[];refine fh (fun i S=>(S.f 0= .sl false (aq.map (V.int .i64))∧S.f 5= .sl false (aq.map (V.int .i64))∧S.f 6= .int .i64 ((aq).length:Int)∧S.f 7= .int .i64 (i:Int)∧S.n=1100)∧((aq.take i).all At=true)) (aq.length) ?_ 0 (by simp) ?_
 ·rintro i S dQ ⟨eg,jn⟩;have dh:=dY i (by omega);by_cases bk:i<aq.length
  ·have key: ¬(1≤aq[i]∧aq[i]≤32)→je aq=false:=fun h=>by
    unfold je;rw[Bw bk (by simpa[At] using h)];rfl
   simp(maxSteps:=10000000) (maxDischargeDepth:=30) (implicitDefEqProofs:=false)[eg,dQ,dh,bk, -List.all_eq_true];rw[sY bk,jn];refine⟨fun h1=>⟨fun h2=>key (by omega),fun h2=>by simp[At,h1,h2]⟩,fun h1=>key (by omega)⟩
  ·have mP:aq.length=i:=by omega
   subst mP;simp(maxSteps:=10000000) (maxDischargeDepth:=30) (implicitDefEqProofs:=false)[eg,dQ,dh,bk]<;>(
    rw[List.take_length]at jn;unfold je;rw[jn];by_cases h0:1≤aq.length
    ·refine⟨fun _=>by simp[h0];omega,fun h=>by omega⟩
    ·refine⟨fun h=>by omega,fun _=>by simp[h0]⟩)
 ·simp(maxSteps:=10000000) (maxDischargeDepth:=30) (implicitDefEqProofs:=false)[]
@[simp] theorem zK(aq:List Int)(hs:aq.length≤1000)(hb: ∀x∈aq,0≤x∧x≤1000000):ba X 106 [.sl false (aq.map (V.int .i64))]=some (.int .i64 (total aq)):=by
 refine aN Tryz.func106 rfl rfl ?_;simp(maxSteps:=10000000) (maxDischargeDepth:=30) (implicitDefEqProofs:=false)[];refine fh (fun i S=>(S.f 3= .int .i64 (total (aq.take i))∧S.f 6= .sl false (aq.map (V.int .i64))∧S.f 7= .int .i64 ((aq).length:Int)∧S.f 8= .int .i64 (i:Int)∧S.n=1100)∧(0≤total (aq.take i)∧total (aq.take i)≤1000000*i)) (aq.length) ?_ 0 (by simp) ?_
 ·rintro i S dQ ⟨eg,jn⟩;have dh:=dY i (by omega);by_cases bk:i<aq.length
  ·simp(maxSteps:=10000000) (maxDischargeDepth:=30) (implicitDefEqProofs:=false)[eg,dQ,dh,bk]<;>(
    have hx:=hb _ (List.getElem_mem bk);rw[gG bk,nP];rw[wrap_i64 (by omega)];exact⟨rfl,by omega,by omega⟩)
  ·have mP:aq.length=i:=by omega
   subst mP;simp(maxSteps:=10000000) (maxDischargeDepth:=30) (implicitDefEqProofs:=false)[eg,dQ,dh,bk]
 ·simp(maxSteps:=10000000) (maxDischargeDepth:=30) (implicitDefEqProofs:=false)[]<;>(
   simp[total])
@[simp] theorem KM(aq:List Int)(gR jo:Int):ba X 178 [.sl false (aq.map (V.int .i64)),.agg [.int .i64 gR,.int .i64 jo]]=some (.bool (inside aq gR jo)):=by
 refine aN Tryz.func178 rfl rfl ?_;by_cases h:0≤gR∧gR<aq.length
 ·obtain⟨k,rfl⟩: ∃k:Nat,gR=k:=⟨gR.toNat,by omega⟩;have hk:k<aq.length:=by omega
  simp(maxSteps:=10000000) (maxDischargeDepth:=30) (implicitDefEqProofs:=false)[hk];unfold inside;simp[List.getD,hk];by_cases h0:0≤jo<;>simp[h0]<;>omega
 ·have:inside aq gR jo=false:=by
   unfold inside;simp;intros;omega
  rw[this];by_cases h0:0≤gR
  ·have h1:(gR<aq.length)=False:=by simp;omega
   simp(maxSteps:=10000000) (maxDischargeDepth:=30) (implicitDefEqProofs:=false)[h0,h1]
  ·simp(maxSteps:=10000000) (maxDischargeDepth:=30) (implicitDefEqProofs:=false)[h0]
@[simp] theorem Vw(aq:List Int)(i:Int)(hz:rf aq)(hi:0≤i∧i≤1000000):ba X 105 [.sl false (aq.map (V.int .i64)),.int .i64 i]=some (.cg [.agg [.int .i64 ((j7 aq i 0).1).region,.int .i64 ((j7 aq i 0).1).offset],.int .i64 ((j7 aq i 0).2)]):=by
 refine aN Tryz.func105 rfl rfl ?_;have hz':=hz.le;simp(maxSteps:=10000000) (maxDischargeDepth:=30) (implicitDefEqProofs:=false)[];refine fh (fun k S=>(S.f 1= .int .i64 (i-total (aq.take k))∧S.f 4= .ptr 4 0 0∧S.h 4=some ⟨2,[.agg [.int .i64 0,.int .i64 0]],true⟩∧S.f 8= .sl false (aq.map (V.int .i64))∧S.f 9= .int .i64 ((aq).length:Int)∧S.f 10= .int .i64 (k:Int)∧S.n=1100)∧(j7 aq i 0=j7 (aq.drop k) (i-total (aq.take k)) k∧0≤total (aq.take k)∧total (aq.take k)≤32*k)) (aq.length) ?_ 0 (by simp) ?_
 ·rintro k S zX ⟨eg,jn⟩;have QP:=dY k (by omega);by_cases nm:k<aq.length
  ·have he:=hz.elem k nm;obtain⟨FU,hP2,hP3⟩:=jn;have hs:j7 (aq.drop k) (i-total (aq.take k)) k=if 0≤i-total (aq.take k)∧i-total (aq.take k)<aq[k] then(⟨k,i-total (aq.take k)⟩,0) else j7 (aq.drop (k+1)) (i-total (aq.take k)-aq[k]) (k+1):=by
    rw[drop_cons nm];rfl
   have ht:total (aq.take (k+1))=total (aq.take k)+aq[k]:=by rw[gG nm,nP]
   have hw:IntKind.i64.wrap (i-total (aq.take k)-aq[k])=i-total (aq.take k)-aq[k]:=wrap_i64 (by omega);rw[FU,hs];simp(maxSteps:=10000000) (maxDischargeDepth:=30) (implicitDefEqProofs:=false)[eg,zX,QP,nm,ht,hw];have hc:(0≤i-total (aq.take k)∧i-total (aq.take k)<aq[k])↔(total (aq.take k)≤i∧i-total (aq.take k)<aq[k]):=by omega
   have e3:i-(total (aq.take k)+aq[k])=i-total (aq.take k)-aq[k]:=by omega
   refine⟨fun h1=>⟨fun h2=> ?_,fun h2=>⟨by omega,?_,by omega,by omega⟩⟩,fun h1=>⟨by omega,?_,by omega,by omega⟩⟩
   ·rw[if_pos ⟨by omega,h2⟩];simp
   ·rw[if_neg (by omega),e3]
   ·rw[if_neg (by omega),e3]
  ·have Zk:aq.length=k:=by omega
   subst Zk;simp(maxSteps:=10000000) (maxDischargeDepth:=30) (implicitDefEqProofs:=false)[eg,zX,QP,nm]<;>(
    rw[jn.1];simp[j7])
 ·simp(maxSteps:=10000000) (maxDischargeDepth:=30) (implicitDefEqProofs:=false)[]<;>(
   simp[total])
@[simp] theorem G0(a b:List Canon)(hm:a.length≤1000000000):ba X 78 [.sl false (a.map Canon.enc),.sl false (b.map Canon.enc)]=some (.bool (decide (a=b))):=by
 refine aN Tryz.func78 rfl rfl ?_;simp(maxSteps:=10000000) (maxDischargeDepth:=30) (implicitDefEqProofs:=false)[];refine⟨fun h e=>h (by rw[e]),fun hl=> ?_⟩;have hl:a.length=b.length:=by omega
 refine fh (fun i S=>(S.f 0= .sl false (a.map Canon.enc)∧S.f 1= .sl false (b.map Canon.enc)∧S.f 12= .int .i64 ((a).length:Int)∧S.f 13= .int .i64 (i:Int)∧S.n=1100)∧(a.take i=b.take i)) (a.length) ?_ 0 (by simp) ?_
 ·rintro i S dQ ⟨eg,jn⟩;have dh:=dY i (by omega);by_cases bk:i<a.length
  ·have hb:i<b.length:=by omega
   simp(maxSteps:=10000000) (maxDischargeDepth:=30) (implicitDefEqProofs:=false)[eg,dQ,dh,bk,hb];refine⟨fun h e=> ?_,fun e1 e2 e3 e4=>GZ bk hb jn ((Canon.eq_iff _ _).2 ⟨e1,e2,e3,e4⟩)⟩;subst e;simp at h
  ·have mP:a.length=i:=by omega
   subst mP;simp(maxSteps:=10000000) (maxDischargeDepth:=30) (implicitDefEqProofs:=false)[eg,dQ,dh,bk]<;>(
    exact Dn (i:=a.length) (by simp) hl jn)
 ·simp(maxSteps:=10000000) (maxDischargeDepth:=30) (implicitDefEqProofs:=false)[]
@[simp] theorem JE(aD:List Int)(eh:Int)(aq:List Int)(addr:Int)(hL:pE aD aq)(ha:0≤addr∧addr≤65535):ba X 267 [.agg [.sl false (aD.map (V.int .i64)),.int .u16 eh],.sl false (aq.map (V.int .i64)),.int .i64 addr]=some (.cg [.agg [.int .i64 ((resolve aD aq addr).1).region,.int .i64 ((resolve aD aq addr).1).offset],.bool ((resolve aD aq addr).2)]):=by
 refine aN Tryz.func267 rfl rfl ?_;have h1:=hL.sz.le;have h2:=hL.len;simp(maxSteps:=10000000) (maxDischargeDepth:=30) (implicitDefEqProofs:=false)[];refine fh (fun k S=>(S.f 1= .sl false (aq.map (V.int .i64))∧S.f 2= .int .i64 addr∧S.f 6= .ptr 6 0 0∧S.h 6=some ⟨2,[.agg [.int .i64 0,.int .i64 0]],true⟩∧S.f 11= .sl false (aD.map (V.int .i64))∧S.f 12= .int .i64 ((aD).length:Int)∧S.f 13= .int .i64 (k:Int)∧S.n=1100)∧(resolve aD aq addr=oF (aD.drop k) (aq.drop k) addr k)) (aD.length) ?_ 0 (by simp) ?_
 ·rintro k S zX ⟨eg,jn⟩;have QP:=dY k (by omega);by_cases nm:k<aD.length
  ·have hk:k<aq.length:=by omega
   have he:=hL.sz.elem k hk;have hb:=hL.base k nm hk;have hs:oF (aD.drop k) (aq.drop k) addr k=if aD[k]≤addr∧addr<aD[k]+aq[k] then(⟨k,addr-aD[k]⟩,true) else oF (aD.drop (k+1)) (aq.drop (k+1)) addr (k+1):=by
    rw[drop_cons nm,drop_cons hk];rfl
   have JF:IntKind.i64.wrap (addr-aD[k])=addr-aD[k]:=wrap_i64 (by omega);simp(maxSteps:=10000000) (maxDischargeDepth:=30) (implicitDefEqProofs:=false)[eg,zX,QP,nm,hk,JF];rw[jn,hs];exact⟨fun a1=>⟨fun a2=>by rw[if_pos ⟨a1,by omega⟩];simp,fun a2=>by rw[if_neg (by omega)]⟩,fun a1=>by rw[if_neg (by omega)]⟩
  ·have Zk:aD.length=k:=by omega
   subst Zk;simp(maxSteps:=10000000) (maxDischargeDepth:=30) (implicitDefEqProofs:=false)[eg,zX,QP,nm]<;>(
    rw[jn];simp[oF])
 ·simp(maxSteps:=10000000) (maxDischargeDepth:=30) (implicitDefEqProofs:=false)[]<;>(
   rfl)
theorem yk(n:Nat)(p:Nat→Bool):(List.range (n+1)).all p=((List.range n).all p&&p n):=by
 rw[List.range_succ,List.all_append];simp
theorem ve{n i:Nat}{p:Nat→Bool}(h:i<n)(hp:p i=false):(List.range n).all p=false:=by
 rw[←Bool.not_eq_true,List.all_eq_true];intro iG;have:=iG i (List.mem_range.2 h);rw[hp]at this;cases this
def sZ(aE aq:List Int)(i j:Nat):Bool:= !(decide (nth aE j≤nth aE i+nth aq i)&&decide (nth aE i≤nth aE j+nth aq j))
theorem rZ(aE aq:List Int)(i:Nat):qg aE aq i=(decide (0≤nth aE i∧nth aE i≤512-nth aq i)&& (List.range i).all (sZ aE aq i)):=rfl
def Dp(aE aq:List Int)(k:Nat):Bool:=(List.range k).all (qg aE aq)
theorem NV(aE aq:List Int)(k:Nat):Dp aE aq (k+1)=(Dp aE aq k&&qg aE aq k):=yk ..
theorem G1{aE aq:List Int}{i:Nat}(h:i<aE.length)(hp:qg aE aq i=false):gQ aE aq=false:=by
 unfold gQ;rw[ve h hp];simp
def Vx(aE aq:List Int)(i j:Nat):Bool:=(List.range j).all (sZ aE aq i)
theorem QQ(aE aq:List Int)(i j:Nat):Vx aE aq i (j+1)=(Vx aE aq i j&&sZ aE aq i j):=yk ..
theorem Vy{aE aq:List Int}{i j:Nat}(h:j<i)(hp:sZ aE aq i j=false):qg aE aq i=false:=by
 rw[rZ,ve h hp];simp
@[simp] theorem NW(aD:List Int)(eh:Int)(aq:List Int)(hm:aD.length≤1000000000∧aq.length≤1000000000):ba X 145 [.agg [.sl false (aD.map (V.int .i64)),.int .u16 eh],.sl false (aq.map (V.int .i64))]=some (.bool (gQ aD aq)):=by
 refine aN Tryz.func145 rfl rfl ?_;have uM:=hm.1;have wN:=hm.2;by_cases hz:je aq=true
 case neg=>
  have:gQ aD aq=false:=by unfold gQ;simp[hz]
  simp(maxSteps:=10000000) (maxDischargeDepth:=30) (implicitDefEqProofs:=false)[wN,hz,this]
 by_cases hl:aD.length=aq.length
 case neg=>
  have h3:((aD.length:Int)=aq.length)=False:=by simp;omega
  have:gQ aD aq=false:=by unfold gQ;simp[hl]
  simp(maxSteps:=10000000) (maxDischargeDepth:=30) (implicitDefEqProofs:=false)[wN,hz,h3,this]
 have hS:=kR.1 hz;have h4:=hS.le;simp(maxSteps:=10000000) (maxDischargeDepth:=30) (implicitDefEqProofs:=false)[wN,hz,hl];refine fh (fun i S=>(S.f 1= .sl false (aq.map (V.int .i64))∧S.f 2= .ptr 2 0 0∧S.h 2=some ⟨2,[.agg [.sl false (aD.map (V.int .i64)),.int .u16 eh]],true⟩∧S.f 20= .sl false (aD.map (V.int .i64))∧S.f 21= .int .i64 ((aD).length:Int)∧S.f 22= .int .i64 (i:Int)∧S.n=1100)∧(Dp aD aq i=true)) (aD.length) ?_ 0 (by simp) ?_
 ·rintro i S dQ ⟨eg,jn⟩;have dh:=dY i (by omega);by_cases bk:i<aD.length
  ·have G2:i<aq.length:=by omega
   have he:=hS.elem i G2;have bad: ¬(0≤aD[i]∧aD[i]≤512-aq[i])→gQ aD aq=false:=fun h=>by
    refine G1 bk ?_;rw[rZ,db bk,db G2,decide_eq_false h,Bool.false_and]
   by_cases zj:0≤aD[i]∧aD[i]<512
   case neg=>
    have:gQ aD aq=false:=bad (by omega);by_cases La:0≤aD[i]
    ·have A6:(512≤aD[i])=True:=by simp;omega
     simp(maxSteps:=10000000) (maxDischargeDepth:=30) (implicitDefEqProofs:=false)[eg,dQ,dh,bk,G2,this,La,A6]
    ·have A6:(0≤aD[i])=False:=by simp;omega
     simp(maxSteps:=10000000) (maxDischargeDepth:=30) (implicitDefEqProofs:=false)[eg,dQ,dh,bk,G2,this,A6]
   obtain⟨b1,b2⟩:=zj;have XP:(512≤aD[i])=False:=by simp;omega
   have hwb:IntKind.i64.wrap (aD[i]+aq[i])=aD[i]+aq[i]:=wrap_i64 (by omega);simp(maxSteps:=10000000) (maxDischargeDepth:=30) (implicitDefEqProofs:=false)[eg,dQ,dh,bk,G2,hwb,b1,b2,XP];by_cases b4:512<aD[i]+aq[i]
   ·simp only[b4,bad (show¬_ by omega),true_implies,true_and];exact⟨fun h=>by omega,fun h=>by omega⟩
   have b5:aD[i]+aq[i]≤512:=by omega
   simp only[b4,b5,false_implies,true_implies,true_and];refine⟨?_,fun h=>by omega⟩;refine fh (fun j S=>(S.f 1= .sl false (aq.map (V.int .i64))∧S.f 2= .ptr 2 0 0∧S.h 2=some ⟨2,[.agg [.sl false (aD.map (V.int .i64)),.int .u16 eh]],true⟩∧S.f 5= .int .i64 (i)∧S.f 6= .int .i64 (aD[i])∧S.f 20= .sl false (aD.map (V.int .i64))∧S.f 21= .int .i64 ((aD).length:Int)∧S.f 22= .int .i64 (i:Int)∧S.f 42= .int .i64 (i)∧S.f 43= .int .i64 (j:Int)∧S.n=1100)∧(Vx aD aq i j=true)) (i) ?_ 0 (by simp) ?_
   ·rintro j S mN ⟨xP,FU⟩;have yl:=dY j (by omega);by_cases mQ:j<i
    ·have vE:j<aD.length:=by omega
     have YF:j<aq.length:=by omega
     have Ky:=hS.elem j YF;have hbj:0≤aD[j]∧aD[j]≤512-aq[j]:=by
      have h1:=List.all_eq_true.1 jn j (List.mem_range.2 (by omega));rw[rZ,db vE,db YF,Bool.and_eq_true,decide_eq_true_eq]at h1;exact h1.1
     have JF:IntKind.i64.wrap (aD[j]+aq[j])=aD[j]+aq[j]:=wrap_i64 (by omega);have P5:sZ aD aq i j= !(decide (aD[j]≤aD[i]+aq[i])&&decide (aD[i]≤aD[j]+aq[j])):=by
      unfold sZ;rw[db bk,db G2,db vE,db YF]
     simp(maxSteps:=10000000) (maxDischargeDepth:=30) (implicitDefEqProofs:=false)[dQ,dh,bk,xP,mN,yl,mQ,G2,YF,vE,hwb,JF];have afk:aD[j]≤aD[i]+aq[i]→aD[i]≤aD[j]+aq[j]→gQ aD aq=false:=fun g1 g2=>G1 bk (Vy mQ (by rw[P5];simp[g1,g2]));rw[QQ,FU,P5];refine⟨fun g1=>⟨fun g2=>afk g2 g1,fun g2=> ?_⟩,fun g1=> ?_⟩
     ·have: ¬aD[j]≤aD[i]+aq[i]:=by omega
      simp[this]
     ·have: ¬aD[i]≤aD[j]+aq[j]:=by omega
      simp[this]
    ·have Ky:i=j:=by omega
     subst Ky;have jF:qg aD aq i=true:=by
      rw[rZ,db bk,db G2];have h3:(List.range i).all (sZ aD aq i)=true:=FU;have h4:0≤aD[i]∧aD[i]≤512-aq[i]:=by omega
      rw[h3];simp[h4]
     simp(maxSteps:=10000000) (maxDischargeDepth:=30) (implicitDefEqProofs:=false)[dQ,dh,bk,xP,mN,yl,mQ,dh];have wG:Dp aD aq (i+1)=true:=by rw[NV,jn,jF];rfl
     first|exact⟨bk,wG⟩|exact wG
   ·simp(maxSteps:=10000000) (maxDischargeDepth:=30) (implicitDefEqProofs:=false)[eg,dQ,dh,bk]<;>(
     rfl)
  ·have mP:aD.length=i:=by omega
   subst mP;simp(maxSteps:=10000000) (maxDischargeDepth:=30) (implicitDefEqProofs:=false)[eg,dQ,dh,bk]<;>(
    have h3:(List.range aD.length).all (qg aD aq)=true:=jn;unfold gQ;rw[hz,h3];simp[hl])
 ·simp(maxSteps:=10000000) (maxDischargeDepth:=30) (implicitDefEqProofs:=false)[]<;>(
   simp[Dp,hl])
@[simp] theorem vf(aD:List Int)(eh:Int)(aq:List Int)(gR jo:Int)(hl:aD.length=aq.length)(hb: ∀i (h:i<aD.length), -1000≤aD[i]∧aD[i]≤1000)(hz: ∀i (h:i<aq.length),aq[i]≤1000):ba X 102 [.agg [.sl false (aD.map (V.int .i64)),.int .u16 eh],.sl false (aq.map (V.int .i64)),.agg [.int .i64 gR,.int .i64 jo]]=some (.cg [.int .i64 (if inside aq gR jo=true then nth aD gR.toNat+jo else 0),.int .i64 (if inside aq gR jo=true then 0 else 6)]):=by
 refine aN Tryz.func102 rfl rfl ?_;by_cases h:inside aq gR jo=true
 ·obtain⟨k,hk,rfl,h1,h2⟩:=lY.1 h;have G3:k<aD.length:=by omega
  have g1:=hb k G3;have g2:=hz k hk;have hw:IntKind.i64.wrap (aD[k]+jo)=aD[k]+jo:=wrap_i64 (by omega);have hk3:((aD.length:Int)≤k)=False:=by simp;omega
  simp(maxSteps:=10000000) (maxDischargeDepth:=30) (implicitDefEqProofs:=false)[h,G3,hw,db G3,hk3]
 ·simp(maxSteps:=10000000) (maxDischargeDepth:=30) (implicitDefEqProofs:=false)[h]
@[simp] theorem NX(aD:List Int)(eh:Int)(aq:List Int)(dy cS:Int)(hL:pE aD aq)(hc:0≤cS∧cS≤65535)(ht:dy=0∨dy=1∨dy=2):ba X 234 [.agg [.sl false (aD.map (V.int .i64)),.int .u16 eh],.sl false (aq.map (V.int .i64)),.agg [.int .u8 dy,.int .u16 cS]]=some (.agg [.int .u8 (canon aD eh aq (Cell.mk dy cS)).tag,.int .u16 (canon aD eh aq (Cell.mk dy cS)).val,.int .i64 (canon aD eh aq (Cell.mk dy cS)).region,.int .i64 (canon aD eh aq (Cell.mk dy cS)).offset]):=by
 refine aN Tryz.func234 rfl rfl ?_;have hw:IntKind.i64.wrap cS=cS:=wrap_i64 (by omega);rcases ht with rfl|rfl|rfl
 ·simp(maxSteps:=10000000) (maxDischargeDepth:=30) (implicitDefEqProofs:=false)[canon]
 ·simp(maxSteps:=10000000) (maxDischargeDepth:=30) (implicitDefEqProofs:=false)[hL,hc,hw,canon];cases hr:(resolve aD aq cS).2<;>simp
 ·simp(maxSteps:=10000000) (maxDischargeDepth:=30) (implicitDefEqProofs:=false)[canon]
@[simp] theorem Px(aD:List Int)(eh:Int)(hm:aD.length≤1000000000):ba X 150 [.agg [.sl false (aD.map (V.int .i64)),.int .u16 eh]]=some (.agg [.sl false (((Layout.mk aD eh)).aE.map (V.int .i64)),.int .u16 ((Layout.mk aD eh)).key]):=by
 refine aN Tryz.func150 rfl rfl ?_;simp(maxSteps:=10000000) (maxDischargeDepth:=30) (implicitDefEqProofs:=false)[];omega
end Go.Proofs.YtdngefmliibcgaaGreat
