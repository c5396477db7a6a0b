/- Part of a proof: S1. -/
import Derived.Test.YtejohpnpnaljdaaGreatM03
set_option linter.all false
set_option maxRecDepth 20000
set_option maxHeartbeats 20000000
namespace Go.Proofs.YtejohpnpnaljdaaGreat
open Go Go.Abs Go.Abs.lu
@[simp] theorem Ad(v n:Int)(hn:1<=n/\n<=4611686018427387904):cz X 62 [v,n]=some (.int .i64 (v % n)):=by
 refine bd Tryz.func62 rfl rfl ?_;have h0:(n=0)=False:=by simp;omega
 have h1:=Int.emod_nonneg v (show n≠0 by omega);have h2:=Int.emod_lt_of_pos v (show 0<n by omega);rw[Em (show 0<n by omega)];by_cases hc:v.tmod n<0
 ·simp-implicitDefEqProofs[h0,hc];rw[Em (show 0<n by omega),if_pos hc]at h1 h2;exact wrap_i64 (by omega)
 ·simp-implicitDefEqProofs[h0,hc]
@[simp] theorem ae6(v n:Int)(hn:1<=n/\n<=4611686018427387904):cz X 22 [v,n]=some (.int .i64 (v % n)):=by
 refine bd Tryz.func22 rfl rfl ?_;simp-implicitDefEqProofs[hn]
@[simp] theorem Ws(fu dp:Int):cz X 120 [.agg [.int .u8 fu,.int .u16 dp]]=some (.bool (decide (fu<=2))):=by
 refine bd Tryz.func120 rfl rfl ?_;simp-implicitDefEqProofs
@[simp] theorem Ye(fu dp:Int):cz X 131 [.agg [.int .u8 fu,.int .u16 dp]]=some (.bool (decide (fu<=2))):=by
 refine bd Tryz.func131 rfl rfl ?_;simp-implicitDefEqProofs
@[simp] theorem Wt(ae:List Int)(hm:ae.length<=1000000000):cz X 74 [ae]=some (.bool (je ae)):=by
 refine bd Tryz.func74 rfl rfl ?_;simp-implicitDefEqProofs;refine cP (fun i S=>(S.f 0= .sl false (ae.map (V.int .i64))/\S.f 5= .sl false (ae.map (V.int .i64))/\S.f 6= .int .i64 ((ae).length:Int)/\S.f 7= .int .i64 (i:Int)/\S.n=1100)/\((ae.take i).all yc=true)) (ae.length) ?_ 0 (by simp) ?_
 ·rintro i S kY ⟨dA,hX⟩;have eY:=cS i (by omega);by_cases bI:i<ae.length
  ·have key: ¬(1<=ae[i]/\ae[i]<=32)->je ae=false:=fun h=>by
    unfold je;rw[r8 bI (by simpa[yc] using h)];rfl
   simp-implicitDefEqProofs[dA,eY,bI, -List.all_eq_true];rw[tz bI,hX];refine⟨fun h1=>⟨fun h2=>key (by omega),fun h2=>by simp[yc,h1,h2]⟩,fun h1=>key (by omega)⟩
  ·have ko:ae.length=i:=by omega
   subst ko;simp-implicitDefEqProofs[dA]<;>(
    rw[List.take_length]at hX;unfold je;rw[hX];by_cases h0:1<=ae.length
    ·refine⟨fun _=>by simp[h0];omega,fun h=>by omega⟩
    ·refine⟨fun h=>by omega,fun _=>by simp[h0]⟩)
 ·simp-implicitDefEqProofs
@[simp] theorem Ux(ae:List Int)(hm:ae.length<=1000000000):cz X 124 [ae]=some (.bool (je ae)):=by
 refine bd Tryz.func124 rfl rfl ?_;simp-implicitDefEqProofs;refine cP (fun i S=>(S.f 0= .sl false (ae.map (V.int .i64))/\S.f 5= .sl false (ae.map (V.int .i64))/\S.f 6= .int .i64 ((ae).length:Int)/\S.f 7= .int .i64 (i:Int)/\S.n=1100)/\((ae.take i).all yc=true)) (ae.length) ?_ 0 (by simp) ?_
 ·rintro i S kY ⟨dA,hX⟩;have eY:=cS i (by omega);by_cases bI:i<ae.length
  ·have key: ¬(1<=ae[i]/\ae[i]<=32)->je ae=false:=fun h=>by
    unfold je;rw[r8 bI (by simpa[yc] using h)];rfl
   simp-implicitDefEqProofs[dA,eY,bI, -List.all_eq_true];rw[tz bI,hX];refine⟨fun h1=>⟨fun h2=>key (by omega),fun h2=>by simp[yc,h1,h2]⟩,fun h1=>key (by omega)⟩
  ·have ko:ae.length=i:=by omega
   subst ko;simp-implicitDefEqProofs[dA]<;>(
    rw[List.take_length]at hX;unfold je;rw[hX];by_cases h0:1<=ae.length
    ·refine⟨fun _=>by simp[h0];omega,fun h=>by omega⟩
    ·refine⟨fun h=>by omega,fun _=>by simp[h0]⟩)
 ·simp-implicitDefEqProofs
@[simp] theorem Dz(ae:List Int)(hs:ae.length<=1000)(hb: ∀x∈ae,0<=x/\x<=1000000):cz X 139 [ae]=some (.int .i64 (total ae)):=by
 refine bd Tryz.func139 rfl rfl ?_;simp-implicitDefEqProofs;refine cP (fun i S=>(S.f 3= .int .i64 (total (ae.take i))/\S.f 6= .sl false (ae.map (V.int .i64))/\S.f 7= .int .i64 ((ae).length:Int)/\S.f 8= .int .i64 (i:Int)/\S.n=1100)/\(0<=total (ae.take i)/\total (ae.take i)<=1000000*i)) (ae.length) ?_ 0 (by simp) ?_
 ·rintro i S kY ⟨dA,hX⟩;have eY:=cS i (by omega);by_cases bI:i<ae.length
  ·simp-implicitDefEqProofs[dA,eY,bI]<;>(
    have hx:=hb _ (List.getElem_mem bI);rw[fY bI,w8];rw[wrap_i64 (by omega)];exact⟨rfl,by omega,by omega⟩)
  ·have ko:ae.length=i:=by omega
   subst ko;simp-implicitDefEqProofs[dA]
 ·simp-implicitDefEqProofs<;>(
   simp[total])
@[simp] theorem Uy(ae:List Int)(dX fy:Int):cz X 122 [ae,.agg [dX,fy]]=some (.bool (inside ae dX fy)):=by
 refine bd Tryz.func122 rfl rfl ?_;by_cases h:0<=dX/\dX<ae.length
 ·obtain⟨k,rfl⟩: ∃k:Nat,dX=k:=⟨dX.toNat,by omega⟩;have hk:k<ae.length:=by omega
  simp-implicitDefEqProofs[hk];unfold inside;simp[List.getD,hk];by_cases h0:0<=fy<;>simp[h0]<;>omega
 ·have:inside ae dX fy=false:=by
   unfold inside;simp;intros;omega
  rw[this];by_cases h0:0<=dX
  ·have h1:(dX<ae.length)=False:=by simp;omega
   simp-implicitDefEqProofs[h0,h1]
  ·simp-implicitDefEqProofs[h0]
@[simp] theorem QN(ae:List Int)(dX fy:Int):cz X 205 [ae,.agg [dX,fy]]=some (.bool (inside ae dX fy)):=by
 refine bd Tryz.func205 rfl rfl ?_;by_cases h:0<=dX/\dX<ae.length
 ·obtain⟨k,rfl⟩: ∃k:Nat,dX=k:=⟨dX.toNat,by omega⟩;have hk:k<ae.length:=by omega
  simp-implicitDefEqProofs[hk];unfold inside;simp[List.getD,hk];by_cases h0:0<=fy<;>simp[h0]<;>omega
 ·have:inside ae dX fy=false:=by
   unfold inside;simp;intros;omega
  rw[this];by_cases h0:0<=dX
  ·have h1:(dX<ae.length)=False:=by simp;omega
   simp-implicitDefEqProofs[h0,h1]
  ·simp-implicitDefEqProofs[h0]
@[simp] theorem ae7(ae:List Int)(i:Int)(hz:mw ae)(hi:0<=i/\i<=1000000):cz X 138 [ae,i]=some (.de [.agg [.int .i64 ((uf ae i 0).1).region,.int .i64 ((uf ae i 0).1).offset],.int .i64 ((uf ae i 0).2)]):=by
 refine bd Tryz.func138 rfl rfl ?_;have hz':=hz.le;simp-implicitDefEqProofs;refine cP (fun k S=>(S.f 1= .int .i64 (i-total (ae.take k))/\S.f 4= .ptr 4 0 0/\S.h 4=some ⟨2,[.agg [.int .i64 0,.int .i64 0]],true⟩/\S.f 8= .sl false (ae.map (V.int .i64))/\S.f 9= .int .i64 ((ae).length:Int)/\S.f 10= .int .i64 (k:Int)/\S.n=1100)/\(uf ae i 0=uf (ae.drop k) (i-total (ae.take k)) k/\0<=total (ae.take k)/\total (ae.take k)<=32*k)) (ae.length) ?_ 0 (by simp) ?_
 ·rintro k S E6 ⟨dA,hX⟩;have DA:=cS k (by omega);by_cases jW:k<ae.length
  ·have he:=hz.elem k jW;obtain⟨uN,Wu,hP3⟩:=hX;have hs:uf (ae.drop k) (i-total (ae.take k)) k=if 0<=i-total (ae.take k)/\i-total (ae.take k)<ae[k] then(⟨k,i-total (ae.take k)⟩,0) else uf (ae.drop (k+1)) (i-total (ae.take k)-ae[k]) (k+1):=by
    rw[drop_cons jW];rfl
   have ht:total (ae.take (k+1))=total (ae.take k)+ae[k]:=by rw[fY jW,w8]
   have hw:IntKind.i64.wrap (i-total (ae.take k)-ae[k])=i-total (ae.take k)-ae[k]:=wrap_i64 (by omega);rw[uN,hs];simp-implicitDefEqProofs[dA,DA,jW,ht,hw];have hc:(0<=i-total (ae.take k)/\i-total (ae.take k)<ae[k])↔(total (ae.take k)<=i/\i-total (ae.take k)<ae[k]):=by omega
   have e3:i-(total (ae.take k)+ae[k])=i-total (ae.take k)-ae[k]:=by omega
   refine⟨fun h1=>⟨fun h2=> ?_,fun h2=>⟨by omega,?_,by omega,by omega⟩⟩,fun h1=>⟨by omega,?_,by omega,by omega⟩⟩
   ·rw[if_pos ⟨by omega,h2⟩];simp
   ·rw[if_neg (by omega),e3]
   ·rw[if_neg (by omega),e3]
  ·have FH:ae.length=k:=by omega
   subst FH;simp-implicitDefEqProofs[dA]<;>(
    rw[hX.1];simp[uf])
 ·simp-implicitDefEqProofs<;>(
   simp[total])
@[simp] theorem Yf(a b:List Cell)(hm:a.length<=1000000000):cz X 118 [a,b]=some (.bool (decide (a=b))):=by
 refine bd Tryz.func118 rfl rfl ?_;simp-implicitDefEqProofs;refine⟨fun h e=>h (by rw[e]),fun hl=> ?_⟩;have hl:a.length=b.length:=by omega
 refine cP (fun i S=>(S.f 0= .sl false (a.map Cell.e)/\S.f 1= .sl false (b.map Cell.e)/\S.f 12= .int .i64 ((a).length:Int)/\S.f 13= .int .i64 (i:Int)/\S.n=1100)/\(a.take i=b.take i)) (a.length) ?_ 0 (by simp) ?_
 ·rintro i S kY ⟨dA,hX⟩;have eY:=cS i (by omega);by_cases bI:i<a.length
  ·have hb:i<b.length:=by omega
   simp-implicitDefEqProofs[dA,eY,bI,hb];refine⟨fun h e=> ?_,fun e1 e2=>Bd bI hb hX ((Cell.eq_iff _ _).2 ⟨e1,e2⟩)⟩;subst e;simp at h
  ·have ko:a.length=i:=by omega
   subst ko;simp-implicitDefEqProofs[dA]<;>(
    exact yb (i:=a.length) (by simp) hl hX)
 ·simp-implicitDefEqProofs
@[simp] theorem Yg(oA:List Int)(Uz:Int)(vF:List Int)(UA:Int)(hm:oA.length<=1000000000):cz X 26 [(oA,Uz),(vF,UA)]=some (.bool (decide ((aN.mk oA Uz)=(aN.mk vF UA)))):=by
 refine bd Tryz.func26 rfl rfl ?_;simp-implicitDefEqProofs;refine⟨fun hk=>⟨fun h e _=>h (by rw[e]),fun hl=> ?_⟩,fun h _ e=>h e⟩;have hl:oA.length=vF.length:=by omega
 refine cP (fun i S=>(S.f 2= .ptr 2 0 0/\S.h 2=some ⟨2,[.agg [oA,.int .u16 Uz]],true⟩/\S.f 3= .ptr 3 0 0/\S.h 3=some ⟨2,[.agg [vF,.int .u16 UA]],true⟩/\S.f 22= .int .i64 ((oA).length:Int)/\S.f 23= .int .i64 (i:Int)/\S.n=1100)/\(oA.take i=vF.take i)) (oA.length) ?_ 0 (by simp) ?_
 ·rintro i S kY ⟨dA,hX⟩;have eY:=cS i (by omega);by_cases bI:i<oA.length
  ·have hb:i<vF.length:=by omega
   simp-implicitDefEqProofs[dA,eY,bI,hb];refine⟨fun h e=> ?_,fun e1=>Bd bI hb hX e1⟩;subst e;simp at h
  ·have ko:oA.length=i:=by omega
   subst ko;simp-implicitDefEqProofs[dA]<;>(
    exact⟨yb (i:=oA.length) (by simp) hl hX,hk⟩)
 ·simp-implicitDefEqProofs
@[simp] theorem QO(aj:List Int)(bH:Int)(ae:List Int)(addr:Int)(hL:nr aj ae)(ha:0<=addr/\addr<=65535):cz X 27 [(aj,bH),ae,addr]=some (.de [.agg [.int .i64 ((resolve aj ae addr).1).region,.int .i64 ((resolve aj ae addr).1).offset],.bool ((resolve aj ae addr).2)]):=by
 refine bd Tryz.func27 rfl rfl ?_;have h1:=hL.sz.le;have h2:=hL.len;simp-implicitDefEqProofs;refine cP (fun k S=>(S.f 1= .sl false (ae.map (V.int .i64))/\S.f 2= .int .i64 addr/\S.f 6= .ptr 6 0 0/\S.h 6=some ⟨2,[.agg [.int .i64 0,.int .i64 0]],true⟩/\S.f 11= .sl false (aj.map (V.int .i64))/\S.f 12= .int .i64 ((aj).length:Int)/\S.f 13= .int .i64 (k:Int)/\S.n=1100)/\(resolve aj ae addr=qR (aj.drop k) (ae.drop k) addr k)) (aj.length) ?_ 0 (by simp) ?_
 ·rintro k S E6 ⟨dA,hX⟩;have DA:=cS k (by omega);by_cases jW:k<aj.length
  ·have hk:k<ae.length:=by omega
   have he:=hL.sz.elem k hk;have hb:=hL.base k jW hk;have hs:qR (aj.drop k) (ae.drop k) addr k=if aj[k]<=addr/\addr<aj[k]+ae[k] then(⟨k,addr-aj[k]⟩,true) else qR (aj.drop (k+1)) (ae.drop (k+1)) addr (k+1):=by
    rw[drop_cons jW,drop_cons hk];rfl
   have tQ:IntKind.i64.wrap (aj[k]+ae[k])=aj[k]+ae[k]:=wrap_i64 (by omega);have En:IntKind.i64.wrap (addr-aj[k])=addr-aj[k]:=wrap_i64 (by omega);simp-implicitDefEqProofs[dA,DA,jW,hk,tQ,En];rw[hX,hs];exact⟨fun a1=>⟨fun a2=>by rw[if_pos ⟨a1,a2⟩];simp,fun a2=>by rw[if_neg (by omega)]⟩,fun a1=>by rw[if_neg (by omega)]⟩
  ·have FH:aj.length=k:=by omega
   subst FH;simp-implicitDefEqProofs[dA]<;>(
    rw[hX];simp[qR])
 ·simp-implicitDefEqProofs<;>(
   rfl)
@[simp] theorem Ph(aj:List Int)(bH:Int)(ae:List Int)(addr:Int)(hL:nr aj ae)(ha:0<=addr/\addr<=65535):cz X 146 [(aj,bH),ae,addr]=some (.de [.agg [.int .i64 ((resolve aj ae addr).1).region,.int .i64 ((resolve aj ae addr).1).offset],.bool ((resolve aj ae addr).2)]):=by
 refine bd Tryz.func146 rfl rfl ?_;have h1:=hL.sz.le;have h2:=hL.len;simp-implicitDefEqProofs;refine cP (fun k S=>(S.f 1= .sl false (ae.map (V.int .i64))/\S.f 2= .int .i64 addr/\S.f 6= .ptr 6 0 0/\S.h 6=some ⟨2,[.agg [.int .i64 0,.int .i64 0]],true⟩/\S.f 11= .sl false (aj.map (V.int .i64))/\S.f 12= .int .i64 ((aj).length:Int)/\S.f 13= .int .i64 (k:Int)/\S.n=1100)/\(resolve aj ae addr=qR (aj.drop k) (ae.drop k) addr k)) (aj.length) ?_ 0 (by simp) ?_
 ·rintro k S E6 ⟨dA,hX⟩;have DA:=cS k (by omega);by_cases jW:k<aj.length
  ·have hk:k<ae.length:=by omega
   have he:=hL.sz.elem k hk;have hb:=hL.base k jW hk;have hs:qR (aj.drop k) (ae.drop k) addr k=if aj[k]<=addr/\addr<aj[k]+ae[k] then(⟨k,addr-aj[k]⟩,true) else qR (aj.drop (k+1)) (ae.drop (k+1)) addr (k+1):=by
    rw[drop_cons jW,drop_cons hk];rfl
   have En:IntKind.i64.wrap (addr-aj[k])=addr-aj[k]:=wrap_i64 (by omega);simp-implicitDefEqProofs[dA,DA,jW,hk,En];rw[hX,hs];exact⟨fun a1=>⟨fun a2=>by rw[if_pos ⟨a1,by omega⟩];simp,fun a2=>by rw[if_neg (by omega)]⟩,fun a1=>by rw[if_neg (by omega)]⟩
  ·have FH:aj.length=k:=by omega
   subst FH;simp-implicitDefEqProofs[dA]<;>(
    rw[hX];simp[qR])
 ·simp-implicitDefEqProofs<;>(
   rfl)
theorem Ce(n:Nat)(p:Nat->Bool):(List.range (n+1)).all p=((List.range n).all p&&p n):=by
 rw[List.range_succ,List.all_append];simp
theorem zv{n i:Nat}{p:Nat->Bool}(h:i<n)(hp:p i=false):(List.range n).all p=false:=by
 rw[<-Bool.not_eq_true,List.all_eq_true];intro kn;have:=kn i (List.mem_range.2 h);rw[hp]at this;cases this
def sb(aD ae:List Int)(i j:Nat):Bool:= !(decide (nth aD j<=nth aD i+nth ae i)&&decide (nth aD i<=nth aD j+nth ae j))
theorem pg(aD ae:List Int)(i:Nat):qQ aD ae i=(decide (0<=nth aD i/\nth aD i<=512-nth ae i)&& (List.range i).all (sb aD ae i)):=rfl
def Ah(aD ae:List Int)(k:Nat):Bool:=(List.range k).all (qQ aD ae)
theorem Iu(aD ae:List Int)(k:Nat):Ah aD ae (k+1)=(Ah aD ae k&&qQ aD ae k):=Ce ..
theorem Bg{aD ae:List Int}{i:Nat}(h:i<aD.length)(hp:qQ aD ae i=false):fP aD ae=false:=by
 unfold fP;rw[zv h hp];simp
def Yu(aD ae:List Int)(i j:Nat):Bool:=(List.range j).all (sb aD ae i)
theorem M5(aD ae:List Int)(i j:Nat):Yu aD ae i (j+1)=(Yu aD ae i j&&sb aD ae i j):=Ce ..
theorem UP{aD ae:List Int}{i j:Nat}(h:j<i)(hp:sb aD ae i j=false):qQ aD ae i=false:=by
 rw[pg,zv h hp];simp
@[simp] theorem WE(aj:List Int)(bH:Int)(ae:List Int)(hm:aj.length<=1000000000/\ae.length<=1000000000):cz X 69 [(aj,bH),ae]=some (.bool (fP aj ae)):=by
 refine bd Tryz.func69 rfl rfl ?_;have rX:=hm.1;have tO:=hm.2;by_cases hz:je ae=true
 case neg=>
  have:fP aj ae=false:=by unfold fP;simp[hz]
  simp-implicitDefEqProofs[tO,hz,this]
 by_cases hl:aj.length=ae.length
 case neg=>
  have h3:((aj.length:Int)=ae.length)=False:=by simp;omega
  have:fP aj ae=false:=by unfold fP;simp[hl]
  simp-implicitDefEqProofs[tO,hz,h3,this]
 have hS:=lD.1 hz;have h4:=hS.le;simp-implicitDefEqProofs[tO,hz,hl];refine cP (fun i S=>(S.f 1= .sl false (ae.map (V.int .i64))/\S.f 2= .ptr 2 0 0/\S.h 2=some ⟨2,[.agg [aj,.int .u16 bH]],true⟩/\S.f 21= .sl false (aj.map (V.int .i64))/\S.f 22= .int .i64 ((aj).length:Int)/\S.f 23= .int .i64 (i:Int)/\S.n=1100)/\(Ah aj ae i=true)) (aj.length) ?_ 0 (by simp) ?_
 ·rintro i S kY ⟨dA,hX⟩;have eY:=cS i (by omega);by_cases bI:i<aj.length
  ·have v8:i<ae.length:=by omega
   have he:=hS.elem i v8;have tQ:IntKind.i64.wrap (512-ae[i])=512-ae[i]:=wrap_i64 (by omega);have bad: ¬(0<=aj[i]/\aj[i]<=512-ae[i])->fP aj ae=false:=fun h=>by
    refine Bg bI ?_;rw[pg,cZ bI,cZ v8,decide_eq_false h,Bool.false_and]
   have a66:i<=aj.length:=by omega
   simp-implicitDefEqProofs[dA,kY,bI,v8,tQ];refine⟨fun a1=>⟨fun a2=>bad (by omega),fun a2=> ?_⟩,fun a1=>bad (by omega)⟩;have Cf:IntKind.i64.wrap (aj[i]+ae[i])=aj[i]+ae[i]:=wrap_i64 (by omega);refine cP (fun j S=>(S.f 1= .sl false (ae.map (V.int .i64))/\S.f 2= .ptr 2 0 0/\S.h 2=some ⟨2,[.agg [aj,.int .u16 bH]],true⟩/\S.f 5= .int .i64 (i)/\S.f 6= .int .i64 (aj[i])/\S.f 21= .sl false (aj.map (V.int .i64))/\S.f 22= .int .i64 ((aj).length:Int)/\S.f 23= .int .i64 (i:Int)/\S.f 42= .sl false ((aj.take i).map (V.int .i64))/\S.f 43= .int .i64 (i)/\S.f 44= .int .i64 (j:Int)/\S.n=1100)/\(Yu aj ae i j=true)) (i) ?_ 0 (by simp) ?_
   ·rintro j S jk ⟨mW,uN⟩;have pM:=cS j (by omega);by_cases fX:j<i
    ·have sx:j<aj.length:=by omega
     have Fq:j<ae.length:=by omega
     have xO:=hS.elem j Fq;have hbj:0<=aj[j]/\aj[j]<=512-ae[j]:=by
      have h1:=List.all_eq_true.1 hX j (List.mem_range.2 (by omega));rw[pg,cZ sx,cZ Fq,Bool.and_eq_true,decide_eq_true_eq]at h1;exact h1.1
     have En:IntKind.i64.wrap (aj[j]+ae[j])=aj[j]+ae[j]:=wrap_i64 (by omega);have QK:sb aj ae i j= !(decide (aj[j]<=aj[i]+ae[i])&&decide (aj[i]<=aj[j]+ae[j])):=by
      unfold sb;rw[cZ bI,cZ v8,cZ sx,cZ Fq]
     simp-implicitDefEqProofs[kY,mW,pM,fX,v8,Fq,Cf,En];have afj:aj[j]<=aj[i]+ae[i]->aj[i]<=aj[j]+ae[j]->fP aj ae=false:=fun g1 g2=>Bg bI (UP fX (by rw[QK];simp[g1,g2]));rw[M5,uN,QK];refine⟨fun g1=>⟨fun g2=>afj g1 g2,fun g2=> ?_⟩,fun g1=> ?_⟩
     ·have: ¬aj[i]<=aj[j]+ae[j]:=by omega
      simp[this]
     ·have: ¬aj[j]<=aj[i]+ae[i]:=by omega
      simp[this]
    ·have xO:i=j:=by omega
     subst xO;have ju:qQ aj ae i=true:=by
      rw[pg,cZ bI,cZ v8];have h3:(List.range i).all (sb aj ae i)=true:=uN;rw[h3];simp[a1,a2]
     simp-implicitDefEqProofs[bI,mW,eY];have jX:Ah aj ae (i+1)=true:=by rw[Iu,hX,ju];rfl
     first|exact⟨bI,jX⟩|exact jX
   ·have la:min i aj.length=i:=by omega
    simp-implicitDefEqProofs[dA];first|exact⟨by omega,rfl⟩|rfl
  ·have ko:aj.length=i:=by omega
   subst ko;simp-implicitDefEqProofs[dA]<;>(
    have h3:(List.range aj.length).all (qQ aj ae)=true:=hX;unfold fP;rw[hz,h3];simp[hl])
 ·simp-implicitDefEqProofs<;>(
   simp[Ah,hl])
@[simp] theorem UQ(aj:List Int)(bH:Int)(ae:List Int)(hm:aj.length<=1000000000/\ae.length<=1000000000):cz X 81 [(aj,bH),ae]=some (.bool (fP aj ae)):=by
 refine bd Tryz.func81 rfl rfl ?_;have rX:=hm.1;have tO:=hm.2;by_cases hz:je ae=true
 case neg=>
  have:fP aj ae=false:=by unfold fP;simp[hz]
  simp-implicitDefEqProofs[tO,hz,this]
 by_cases hl:aj.length=ae.length
 case neg=>
  have h3:((aj.length:Int)=ae.length)=False:=by simp;omega
  have:fP aj ae=false:=by unfold fP;simp[hl]
  simp-implicitDefEqProofs[tO,hz,h3,this]
 have hS:=lD.1 hz;have h4:=hS.le;simp-implicitDefEqProofs[tO,hz,hl];refine cP (fun i S=>(S.f 1= .sl false (ae.map (V.int .i64))/\S.f 2= .ptr 2 0 0/\S.h 2=some ⟨2,[.agg [aj,.int .u16 bH]],true⟩/\S.f 20= .sl false (aj.map (V.int .i64))/\S.f 21= .int .i64 ((aj).length:Int)/\S.f 22= .int .i64 (i:Int)/\S.n=1100)/\(Ah aj ae i=true)) (aj.length) ?_ 0 (by simp) ?_
 ·rintro i S kY ⟨dA,hX⟩;have eY:=cS i (by omega);by_cases bI:i<aj.length
  ·have v8:i<ae.length:=by omega
   have he:=hS.elem i v8;have bad: ¬(0<=aj[i]/\aj[i]<=512-ae[i])->fP aj ae=false:=fun h=>by
    refine Bg bI ?_;rw[pg,cZ bI,cZ v8,decide_eq_false h,Bool.false_and]
   by_cases hb0:0<=aj[i]/\aj[i]<512
   case neg=>
    have:fP aj ae=false:=bad (by omega);by_cases Ys:0<=aj[i]
    ·have NQ:(512<=aj[i])=True:=by simp;omega
     simp-implicitDefEqProofs[dA,bI,this,Ys,NQ]
    ·have NQ:(0<=aj[i])=False:=by simp;omega
     simp-implicitDefEqProofs[dA,bI,v8,this,NQ]
   obtain⟨b1,b2⟩:=hb0;have hb3:(512<=aj[i])=False:=by simp;omega
   have Cf:IntKind.i64.wrap (aj[i]+ae[i])=aj[i]+ae[i]:=wrap_i64 (by omega);simp-implicitDefEqProofs[dA,bI,v8,Cf,b1,hb3];by_cases b4:512<aj[i]+ae[i]
   ·simp only[b4,bad (show¬_ by omega),true_implies,true_and];exact⟨fun h=>by omega,fun h=>by omega⟩
   have b5:aj[i]+ae[i]<=512:=by omega
   simp only[b4,b5,false_implies,true_implies,true_and];refine⟨?_,fun h=>by omega⟩;refine cP (fun j S=>(S.f 1= .sl false (ae.map (V.int .i64))/\S.f 2= .ptr 2 0 0/\S.h 2=some ⟨2,[.agg [aj,.int .u16 bH]],true⟩/\S.f 5= .int .i64 (i)/\S.f 6= .int .i64 (aj[i])/\S.f 20= .sl false (aj.map (V.int .i64))/\S.f 21= .int .i64 ((aj).length:Int)/\S.f 22= .int .i64 (i:Int)/\S.f 42= .int .i64 (i)/\S.f 43= .int .i64 (j:Int)/\S.n=1100)/\(Yu aj ae i j=true)) (i) ?_ 0 (by simp) ?_
   ·rintro j S jk ⟨mW,uN⟩;have pM:=cS j (by omega);by_cases fX:j<i
    ·have sx:j<aj.length:=by omega
     have Fq:j<ae.length:=by omega
     have xO:=hS.elem j Fq;have hbj:0<=aj[j]/\aj[j]<=512-ae[j]:=by
      have h1:=List.all_eq_true.1 hX j (List.mem_range.2 (by omega));rw[pg,cZ sx,cZ Fq,Bool.and_eq_true,decide_eq_true_eq]at h1;exact h1.1
     have En:IntKind.i64.wrap (aj[j]+ae[j])=aj[j]+ae[j]:=wrap_i64 (by omega);have QK:sb aj ae i j= !(decide (aj[j]<=aj[i]+ae[i])&&decide (aj[i]<=aj[j]+ae[j])):=by
      unfold sb;rw[cZ bI,cZ v8,cZ sx,cZ Fq]
     simp-implicitDefEqProofs[mW,pM,fX,v8,Fq,sx,Cf,En];have afj:aj[j]<=aj[i]+ae[i]->aj[i]<=aj[j]+ae[j]->fP aj ae=false:=fun g1 g2=>Bg bI (UP fX (by rw[QK];simp[g1,g2]));rw[M5,uN,QK];refine⟨fun g1=>⟨fun g2=>afj g2 g1,fun g2=> ?_⟩,fun g1=> ?_⟩
     ·have: ¬aj[j]<=aj[i]+ae[i]:=by omega
      simp[this]
     ·have: ¬aj[i]<=aj[j]+ae[j]:=by omega
      simp[this]
    ·have xO:i=j:=by omega
     subst xO;have ju:qQ aj ae i=true:=by
      rw[pg,cZ bI,cZ v8];have h3:(List.range i).all (sb aj ae i)=true:=uN;have h4:0<=aj[i]/\aj[i]<=512-ae[i]:=by omega
      rw[h3];simp[h4]
     simp-implicitDefEqProofs[bI,mW,eY];have jX:Ah aj ae (i+1)=true:=by rw[Iu,hX,ju];rfl
     first|exact⟨bI,jX⟩|exact jX
   ·simp-implicitDefEqProofs[dA]<;>(
     rfl)
  ·have ko:aj.length=i:=by omega
   subst ko;simp-implicitDefEqProofs[dA]<;>(
    have h3:(List.range aj.length).all (qQ aj ae)=true:=hX;unfold fP;rw[hz,h3];simp[hl])
 ·simp-implicitDefEqProofs<;>(
   simp[Ah,hl])
@[simp] theorem QR(aj:List Int)(bH:Int)(ae:List Int)(dX fy:Int)(hl:aj.length=ae.length)(hb: ∀i (h:i<aj.length), -1000<=aj[i]/\aj[i]<=1000)(hz: ∀i (h:i<ae.length),ae[i]<=1000):cz X 223 [(aj,bH),ae,.agg [dX,fy]]=some (.de [.int .i64 (if inside ae dX fy=true then nth aj dX.toNat+fy else 0),.int .i64 (if inside ae dX fy=true then 0 else 6)]):=by
 refine bd Tryz.func223 rfl rfl ?_;by_cases h:inside ae dX fy=true
 ·obtain⟨k,hk,rfl,h1,h2⟩:=kQ.1 h;have wy:k<aj.length:=by omega
  have g1:=hb k wy;have g2:=hz k hk;have hw:IntKind.i64.wrap (aj[k]+fy)=aj[k]+fy:=wrap_i64 (by omega);simp-implicitDefEqProofs[h,wy,hw,cZ wy]
 ·simp-implicitDefEqProofs[h]
@[simp] theorem Pu(aj:List Int)(bH:Int)(ae:List Int)(dX fy:Int)(hl:aj.length=ae.length)(hb: ∀i (h:i<aj.length), -1000<=aj[i]/\aj[i]<=1000)(hz: ∀i (h:i<ae.length),ae[i]<=1000):cz X 184 [(aj,bH),ae,.agg [dX,fy]]=some (.de [.int .i64 (if inside ae dX fy=true then nth aj dX.toNat+fy else 0),.int .i64 (if inside ae dX fy=true then 0 else 6)]):=by
 refine bd Tryz.func184 rfl rfl ?_;by_cases h:inside ae dX fy=true
 ·obtain⟨k,hk,rfl,h1,h2⟩:=kQ.1 h;have wy:k<aj.length:=by omega
  have g1:=hb k wy;have g2:=hz k hk;have hw:IntKind.i64.wrap (aj[k]+fy)=aj[k]+fy:=wrap_i64 (by omega);have hk3:((aj.length:Int)<=k)=False:=by simp;omega
  simp-implicitDefEqProofs[h,wy,hw,cZ wy,hk3]
 ·simp-implicitDefEqProofs[h]
@[simp] theorem WG(aj:List Int)(bH:Int)(ae:List Int)(fu dp:Int)(hL:nr aj ae)(hc:0<=dp/\dp<=65535):cz X 42 [(aj,bH),ae,.agg [.int .u8 fu,.int .u16 dp]]=some (.agg [.int .u8 (canon aj bH ae (Cell.mk fu dp)).tag,.int .u16 (canon aj bH ae (Cell.mk fu dp)).val,.int .i64 (canon aj bH ae (Cell.mk fu dp)).region,.int .i64 (canon aj bH ae (Cell.mk fu dp)).offset]):=by
 refine bd Tryz.func42 rfl rfl ?_;have hw:IntKind.i64.wrap dp=dp:=wrap_i64 (by omega);by_cases h0:fu=0
 ·simp-implicitDefEqProofs[h0,canon]
 by_cases h2:fu=2
 ·simp-implicitDefEqProofs[h2,canon]
 ·simp-implicitDefEqProofs[h0,h2,hL,hc,hw,canon];cases hr:(resolve aj ae dp).2<;>simp
@[simp] theorem UR(ae:List Int)(jT rI iF jE:Int):cz X 76 [ae,.agg [.int .u8 jT,.int .u16 rI,iF,jE]]=some (.bool (proper ae (Canon.mk jT rI iF jE))):=by
 refine bd Tryz.func76 rfl rfl ?_;by_cases h0:jT=0
 ·simp-implicitDefEqProofs[h0,proper];by_cases h:iF=0<;>simp[h]
 by_cases h2:jT=2
 ·simp-implicitDefEqProofs[h2,proper];by_cases h:iF=0<;>simp[h]
 by_cases h1:jT=1
 ·simp-implicitDefEqProofs[h1,proper];by_cases h:rI=0<;>simp[h]
 ·simp-implicitDefEqProofs[h0,h1,h2,proper]
@[simp] theorem ab8(aj:List Int)(bH:Int)(ae:List Int)(jT rI iF jE:Int)(hL:nr aj ae):cz X 78 [(aj,bH),ae,.agg [.int .u8 jT,.int .u16 rI,iF,jE]]=some (.de [.agg [.int .u8 ((raw aj bH ae (Canon.mk jT rI iF jE)).1).tag,.int .u16 ((raw aj bH ae (Canon.mk jT rI iF jE)).1).val],.int .i64 ((raw aj bH ae (Canon.mk jT rI iF jE)).2)]):=by
 refine bd Tryz.func78 rfl rfl ?_;cases hp:proper ae (Canon.mk jT rI iF jE) with
 |false=>simp-implicitDefEqProofs[hp,raw]
 |true=>
  by_cases h0:jT=0
  ·subst h0;simp-implicitDefEqProofs[hp,raw]
  by_cases h2:jT=2
  ·subst h2;simp-implicitDefEqProofs[hp,raw]
  have h1:jT=1:=by
   unfold proper at hp;by_cases h1:jT=1
   ·exact h1
   ·simp[h0,h2,h1]at hp
  have uv:inside ae iF jE=true:=by
   unfold proper at hp;simp[h1]at hp;exact hp.2
  obtain⟨k,hk,rfl,a1,a2⟩:=kQ.1 uv;have wy:k<aj.length:=by have:=hL.len;omega
  have e1:=hL.base k wy hk;have hw:IntKind.i64.wrap (aj[k]+jE)=aj[k]+jE:=wrap_i64 (by omega);subst h1;simp-implicitDefEqProofs[hp,wy,hw,raw,cZ wy]
@[simp] theorem Yv(ae:List Int)(cD:Int)(hz:mw ae)(hs:0<=cD/\cD<=1048575):cz X 31 [ae,cD]=some (.de [.agg [.sl false (((⟨dP ae cD,IntKind.u16.wrap (40503*cD)⟩:aN)).aD.map (V.int .i64)),.int .u16 ((⟨dP ae cD,IntKind.u16.wrap (40503*cD)⟩:aN)).key],.int .i64 0]):=by
 refine bd Tryz.func31 rfl rfl ?_;have hz1:=hz.pos;have hz4:=hz.le;have hmz:ae.length<=1000000000:=by omega
 have ju:=lD.2 hz;have hn0:((ae.length:Int)=0)=False:=eq_false (by omega);have at0:((50*(ae.length:Int))=0)=False:=eq_false (by omega);have at1:IntKind.i64.wrap (50*(ae.length:Int))=50*ae.length:=wrap_i64 (by omega);have hwm:IntKind.i64.wrap (40503*cD)=40503*cD:=wrap_i64 (by omega);have h1:(cD<0)=False:=eq_false (by omega);have h2:(1073741824<cD)=False:=eq_false (by omega);have A2:(ae=[])=False:=eq_false (by rintro rfl;simp at hz1);have hL:0<(ae.length:Int):=by omega
 have hd1:cD.tdiv ae.length=cD/ae.length:=Int.tdiv_eq_ediv_of_nonneg (by omega);have q1:0<=cD/ (ae.length:Int):=Int.ediv_nonneg (by omega) (by omega);have q2:cD/ (ae.length:Int)<=cD:=Int.ediv_le_self _ (by omega);have tQ:IntKind.i64.wrap (cD/ae.length)=cD/ae.length:=wrap_i64 (by omega);have rX:(cD/ae.length).tmod 50=cD/ae.length % 50:=Int.tmod_eq_emod_of_nonneg q1;have En:IntKind.i64.wrap (1+cD/ae.length % 50)=1+cD/ae.length % 50:=wrap_i64 (by omega);simp-implicitDefEqProofs[hmz,ju,A2,hwm,h1,h2,hd1,tQ,rX,En];refine⟨by omega,?_⟩;intro _ _;have JD:cD.tdiv (50*ae.length)=cD/ (50*ae.length):=Int.tdiv_eq_ediv_of_nonneg (by omega);have q3:0<=cD/ (50*(ae.length:Int)):=Int.ediv_nonneg (by omega) (by omega);have q4:cD/ (50*(ae.length:Int))<=cD:=Int.ediv_le_self _ (by omega);have hw3:IntKind.i64.wrap (cD/ (50*ae.length))=cD/ (50*ae.length):=wrap_i64 (by omega);have M6:(cD/ (50*ae.length)).tmod 40=cD/ (50*ae.length) % 40:=Int.tmod_eq_emod_of_nonneg q3;refine cP (fun k S=>(S.f 0= .sl false (ae.map (V.int .i64))/\S.f 1= .int .i64 cD/\S.f 4= .ptr 4 0 0/\S.h 4=some ⟨2,[.agg [.sl false (([]:List Int).map (V.int .i64)),.int .u16 0]],true⟩/\S.f 6= .int .i64 (ae.length)/\S.f 7= .ptr 7 0 0/\S.h 1000=some ⟨1,(⟨(lx ae cD k).1,IntKind.u16.wrap (40503*cD)⟩:aN).aD.map (V.int .i64),false⟩/\S.h 7=some ⟨2,[.agg [.bU 1000 0 ((⟨(lx ae cD k).1,IntKind.u16.wrap (40503*cD)⟩:aN).aD.map (V.int .i64)).length,.int .u16 (⟨(lx ae cD k).1,IntKind.u16.wrap (40503*cD)⟩:aN).key]],true⟩/\S.f 8= .int .i64 ((lx ae cD k).2)/\S.f 36= .int .i64 ((ae).length:Int)/\S.f 37= .int .i64 (k:Int)/\S.n=1101)/\(0<=(lx ae cD k).2/\(lx ae cD k).2<=51+72*k/\(lx ae cD k).1.length=ae.length)) (ae.length) ?_ 0 (by simp) ?_
 ·rintro k S E6 ⟨dA,hX⟩;have DA:=cS k (by omega);by_cases jW:k<ae.length
  ·obtain⟨b1,b2,b3⟩:=hX;obtain⟨r,hr⟩: ∃r:Nat,((k:Int)+cD) % ae.length=r:=⟨(((k:Int)+cD) % ae.length).toNat,by
    have:=Int.emod_nonneg ((k:Int)+cD) (show(ae.length:Int)≠0 by omega);omega⟩
   have nN:r<ae.length:=by
    have:=Int.emod_lt_of_pos ((k:Int)+cD) hL;omega
   have a68:r<(lx ae cD k).1.length:=by omega
   have e:=hz.elem r nN;have at2:IntKind.i64.wrap ((k:Int)+cD)=k+cD:=wrap_i64 (by omega);have xK:((k:Int)+cD).tmod ae.length=r:=by rw[Int.tmod_eq_emod_of_nonneg (by omega),hr]
   have Af:IntKind.i64.wrap (ae[r]+1)=ae[r]+1:=wrap_i64 (by omega);have afh:IntKind.i64.wrap (ae[r]+1+cD/ (50*ae.length) % 40)=ae[r]+1+cD/ (50*ae.length) % 40:=wrap_i64 (by omega);have at3:IntKind.i64.wrap ((lx ae cD k).2+(ae[r]+1+cD/ (50*ae.length) % 40))=(lx ae cD k).2+(ae[r]+1+cD/ (50*ae.length) % 40):=wrap_i64 (by omega);have jX:lx ae cD (k+1)=((lx ae cD k).1.set r (lx ae cD k).2,(lx ae cD k).2+ae[r]+1+cD/ (50*ae.length) % 40):=by
    rw[fm];unfold B7;rw[hr,Int.toNat_natCast,cZ nN]
   simp-implicitDefEqProofs[dA,DA,jW,jX,A2,at0,at1,JD,hw3,M6,at2,xK,nN,Af,afh,at3,b3];omega
  ·have FH:ae.length=k:=by omega
   subst FH;obtain⟨_,_,b3⟩:=hX;have e3:dP ae cD=(lx ae cD ae.length).1:=rfl;simp-implicitDefEqProofs[dA,e3]
 ·have h0:lx ae cD 0=(List.replicate ae.length 0,1+cD/ae.length % 50):=rfl;simp-implicitDefEqProofs[h0];omega
@[simp] theorem WH(aj:List Int)(bH:Int)(hm:aj.length<=1000000000):cz X 150 [(aj,bH)]=some (.agg [.sl false (((aN.mk aj bH)).aD.map (V.int .i64)),.int .u16 ((aN.mk aj bH)).key]):=by
 refine bd Tryz.func150 rfl rfl ?_;simp-implicitDefEqProofs;omega
end Go.Proofs.YtejohpnpnaljdaaGreat
