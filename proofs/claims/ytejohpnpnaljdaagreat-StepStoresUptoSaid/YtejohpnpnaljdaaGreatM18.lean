/- Part of a proof: S6. -/
import Derived.Test.YtejohpnpnaljdaaGreatM17
set_option linter.all false
set_option maxRecDepth 20000
set_option maxHeartbeats 20000000
namespace Go.Proofs.YtejohpnpnaljdaaGreat
open Go Go.Abs Go.Abs.lu
theorem IA: ∀(bs zs:List Int) (a:Int) (r:Nat),(qR bs zs a r).2=true-> ∃k,∃(h:k<bs.length) (h':k<zs.length),(qR bs zs a r).1=⟨((r+k:Nat):Int),a-bs[k]⟩/\bs[k]<=a/\a<bs[k]+zs[k]
 | [],_,_,_,h=>by simp[qR]at h
 |_::_,[],_,_,h=>by simp[qR]at h
 |b::bs,z::zs,a,r,h=>by
  unfold qR at h⊢;split at h
  ·rename_i hc;rw[if_pos hc];exact⟨0,by simp,by simp,by simp,hc.1,hc.2⟩
  ·rename_i hc;rw[if_neg hc];obtain⟨k,h1,h2,e,h3,h4⟩:=IA bs zs a (r+1) h;refine⟨k+1,by simpa using h1,by simpa using h2,?_,by simpa using h3,by simpa using h4⟩;rw[e];simp only[List.getElem_cons_succ,AT.mk.injEq,and_true];omega
theorem jB{aD ae:List Int}{a:Int}(h:(resolve aD ae a).2=true): ∃k,∃(h:k<aD.length) (h':k<ae.length),(resolve aD ae a).1=⟨(k:Int),a-aD[k]⟩/\aD[k]<=a/\a<aD[k]+ae[k]:=by
 obtain⟨k,h1,h2,e,h3⟩:=IA _ _ _ _ h;exact⟨k,h1,h2,by simpa[resolve] using e,h3⟩
def jb(aD ae:List Int)(p:Cell)(n:Int)(back:Bool):Cell×Int:=
 if p.tag=1 then
  if(resolve aD ae p.val).2=true then
   if inside ae (resolve aD ae p.val).1.region (if back=true then(resolve aD ae p.val).1.offset-n else(resolve aD ae p.val).1.offset+n)=true then
    (⟨1,nth aD (resolve aD ae p.val).1.region.toNat+(if back=true then(resolve aD ae p.val).1.offset-n else(resolve aD ae p.val).1.offset+n)⟩,0)
   else(⟨0,0⟩,4)
  else(⟨0,0⟩,4)
 else(⟨0,0⟩,3)
theorem uQ{aD ae:List Int}{p:Cell}{n:Int}{back:Bool}(h: ¬p.tag=1):jb aD ae p n back=(⟨0,0⟩,3):=by unfold jb;rw[if_neg h]
theorem sD{aD ae:List Int}{p:Cell}{n:Int}{back:Bool}(h:p.tag=1)(h2:(resolve aD ae p.val).2=false):jb aD ae p n back=(⟨0,0⟩,4):=by
 unfold jb;rw[if_pos h,if_neg (by simp[h2])]
theorem uR{aD ae:List Int}{p:Cell}{n:Int}{back:Bool}{k:Nat}{o:Int}(h:p.tag=1)(h2:(resolve aD ae p.val).2=true)(e:(resolve aD ae p.val).1=⟨(k:Int),o⟩):
  jb aD ae p n back=if inside ae k (if back=true then o-n else o+n)=true then(⟨1,nth aD k+(if back=true then o-n else o+n)⟩,0) else(⟨0,0⟩,4):=by
 unfold jb;rw[if_pos h,if_pos h2,e];simp
@[simp] theorem Yx(aj:List Int)(bH:Int)(ae:List Int)(oX dZ n:Int)(back:Bool)(hL:nr aj ae)(hp:0<=dZ/\dZ<=65535)(hn:0<=n/\n<=65535):cz X 114 [(aj,bH),ae,.agg [.int .u8 oX,.int .u16 dZ],.int .u16 n,back]=some (.de [.agg [.int .u8 ((jb aj ae (Cell.mk oX dZ) n back).1).tag,.int .u16 ((jb aj ae (Cell.mk oX dZ) n back).1).val],.int .i64 ((jb aj ae (Cell.mk oX dZ) n back).2)]):=by
 refine bd Tryz.func114 rfl rfl ?_;by_cases h1:oX=1
 case neg=>
  have e:=uQ (aD:=aj) (ae:=ae) (p:=(Cell.mk oX dZ)) (n:=n) (back:=back) h1;simp-implicitDefEqProofs[h1,e]
 subst h1;have hw:IntKind.i64.wrap dZ=dZ:=wrap_i64 (by omega);have nO:IntKind.i64.wrap n=n:=wrap_i64 (by omega);cases h2:(resolve aj ae dZ).2 with
 |false=>
  have e:=sD (aD:=aj) (ae:=ae) (p:=⟨1,dZ⟩) (n:=n) (back:=back) rfl h2;simp-implicitDefEqProofs[h2,hw,hL,hp,e]
 |true=>
  obtain⟨k,hk,tP,e,b1,b2⟩:=jB h2;have em:=uR (aD:=aj) (ae:=ae) (p:=⟨1,dZ⟩) (n:=n) (back:=back) rfl h2 e;have bb:=hL.base k hk tP;have zz:=hL.sz.elem k tP;have tQ:IntKind.i64.wrap (dZ-aj[k]-n)=dZ-aj[k]-n:=wrap_i64 (by omega);have En:IntKind.i64.wrap (dZ-aj[k]+n)=dZ-aj[k]+n:=wrap_i64 (by omega);have BH:nth aj k=aj[k]:=cZ hk;cases back with
  |true=>
   simp only[if_true]at em;by_cases hi:inside ae k (dZ-aj[k]-n)=true
   ·have:=(kQ.1 hi);obtain⟨k',wy,ek,o1,o2⟩:=this;have Yy:k=k':=by omega
    subst Yy;have hw3:IntKind.i64.wrap (aj[k]+(dZ-aj[k]-n))=aj[k]+(dZ-aj[k]-n):=wrap_i64 (by omega);have Pq:IntKind.u16.wrap (aj[k]+(dZ-aj[k]-n))=aj[k]+(dZ-aj[k]-n):=wrap_u16 (by omega);rw[if_pos hi,BH]at em;simp-implicitDefEqProofs[h2,hw,nO,hL,hp,e,em,hi,tQ,hw3,Pq,hk]
   ·rw[if_neg hi]at em;simp-implicitDefEqProofs[h2,hw,nO,hL,hp,e,em,hi,tQ]
  |false=>
   simp only[Bool.false_eq_true,if_false]at em;by_cases hi:inside ae k (dZ-aj[k]+n)=true
   ·have:=(kQ.1 hi);obtain⟨k',wy,ek,o1,o2⟩:=this;have Yy:k=k':=by omega
    subst Yy;have hw3:IntKind.i64.wrap (aj[k]+(dZ-aj[k]+n))=aj[k]+(dZ-aj[k]+n):=wrap_i64 (by omega);have Pq:IntKind.u16.wrap (aj[k]+(dZ-aj[k]+n))=aj[k]+(dZ-aj[k]+n):=wrap_u16 (by omega);rw[if_pos hi,BH]at em;simp-implicitDefEqProofs[h2,hw,nO,hL,hp,e,em,hi,En,hw3,Pq,hk]
   ·rw[if_neg hi]at em;simp-implicitDefEqProofs[h2,hw,nO,hL,hp,e,em,hi,En]
@[simp] theorem afo(aj:List Int)(bH:Int)(ae:List Int)(oX dZ n:Int)(back:Bool)(hL:nr aj ae)(hp:0<=dZ/\dZ<=65535)(hn:0<=n/\n<=65535):cz X 154 [(aj,bH),ae,.agg [.int .u8 oX,.int .u16 dZ],.int .u16 n,back]=some (.de [.agg [.int .u8 ((jb aj ae (Cell.mk oX dZ) n back).1).tag,.int .u16 ((jb aj ae (Cell.mk oX dZ) n back).1).val],.int .i64 ((jb aj ae (Cell.mk oX dZ) n back).2)]):=by
 refine bd Tryz.func154 rfl rfl ?_;by_cases h1:oX=1
 case neg=>
  have e:=uQ (aD:=aj) (ae:=ae) (p:=(Cell.mk oX dZ)) (n:=n) (back:=back) h1;simp-implicitDefEqProofs[h1,e]
 subst h1;have hw:IntKind.i64.wrap dZ=dZ:=wrap_i64 (by omega);have nO:IntKind.i64.wrap n=n:=wrap_i64 (by omega);have hwm:IntKind.i64.wrap (0-n)= -n:=by rw[wrap_i64 (by omega)];omega
 have amg:IntKind.i64.wrap (-n)= -n:=wrap_i64 (by omega);cases h2:(resolve aj ae dZ).2 with
 |false=>
  have e:=sD (aD:=aj) (ae:=ae) (p:=⟨1,dZ⟩) (n:=n) (back:=back) rfl h2;simp-implicitDefEqProofs[h2,hw,hL,hp,e]
 |true=>
  obtain⟨k,hk,tP,e,b1,b2⟩:=jB h2;have em:=uR (aD:=aj) (ae:=ae) (p:=⟨1,dZ⟩) (n:=n) (back:=back) rfl h2 e;have bb:=hL.base k hk tP;have zz:=hL.sz.elem k tP;have hlen:=hL.len;have JC: ∀i (h:i<aj.length), -1000<=aj[i]/\aj[i]<=1000:=fun i h=>by
   have:=hL.base i h (by omega);have:=hL.sz.elem i (by omega);omega
  have hzz: ∀i (h:i<ae.length),ae[i]<=1000:=fun i h=>by
   have:=hL.sz.elem i h;omega
  have en:dZ-aj[k]+ -n=dZ-aj[k]-n:=by omega
  have tQ:IntKind.i64.wrap (dZ-aj[k]+ -n)=dZ-aj[k]-n:=by rw[wrap_i64 (by omega)];omega
  have En:IntKind.i64.wrap (dZ-aj[k]+n)=dZ-aj[k]+n:=wrap_i64 (by omega);have BH:nth aj k=aj[k]:=cZ hk;cases back with
  |true=>
   simp only[if_true]at em;by_cases hi:inside ae k (dZ-aj[k]-n)=true
   ·have:=(kQ.1 hi);obtain⟨k',wy,ek,o1,o2⟩:=this;have Yy:k=k':=by omega
    subst Yy;have Pq:IntKind.u16.wrap (aj[k]+(dZ-aj[k]-n))=aj[k]+(dZ-aj[k]-n):=wrap_u16 (by omega);rw[if_pos hi,BH]at em;simp-implicitDefEqProofs[h2,hw,nO,amg,hL,hp,e,em,hi,tQ,Pq,hlen,JC,hzz,BH]
   ·rw[if_neg hi]at em;simp-implicitDefEqProofs[h2,hw,nO,amg,hL,hp,e,em,hi,tQ,hlen,JC,hzz]
  |false=>
   simp only[Bool.false_eq_true,if_false]at em;by_cases hi:inside ae k (dZ-aj[k]+n)=true
   ·have:=(kQ.1 hi);obtain⟨k',wy,ek,o1,o2⟩:=this;have Yy:k=k':=by omega
    subst Yy;have Pq:IntKind.u16.wrap (aj[k]+(dZ-aj[k]+n))=aj[k]+(dZ-aj[k]+n):=wrap_u16 (by omega);rw[if_pos hi,BH]at em;simp-implicitDefEqProofs[h2,hw,nO,hL,hp,e,em,hi,En,Pq,hlen,JC,hzz,BH]
   ·rw[if_neg hi]at em;simp-implicitDefEqProofs[h2,hw,nO,hL,hp,e,em,hi,En,hlen,JC,hzz]
def mA(aD ae:List Int)(b c:Cell):Option Int:=
 if(resolve aD ae b.val).2=true/\(resolve aD ae c.val).2=true/\(resolve aD ae b.val).1.region=(resolve aD ae c.val).1.region then
  some ((resolve aD ae b.val).1.offset-(resolve aD ae c.val).1.offset) else none
def xe(op b c:Int):Cell×Int:=
 if op=3 then(⟨0,IntKind.u16.wrap (b+c)⟩,0)
 else if op=4 then(⟨0,IntKind.u16.wrap (b-c)⟩,0)
 else if op=5 then(⟨0,IntKind.u16.wrap (b*c)⟩,0)
 else if op=6 then(if c=0 then(⟨0,0⟩,5) else(⟨0,IntKind.u16.wrap (b.tdiv c)⟩,0))
 else if op=7 then(if c=0 then(⟨0,0⟩,5) else(⟨0,b.tmod c⟩,0))
 else if op=8 then(⟨0,Go.Abs.bits .u16 .and b c⟩,0)
 else if op=9 then(⟨0,Go.Abs.bits .u16 .or b c⟩,0)
 else if op=10 then(⟨0,Go.Abs.bits .u16 .xor b c⟩,0)
 else if op=11 then(⟨0,IntKind.u16.wrap (b*2^ (min (c.tmod 16).toNat 16))⟩,0)
 else if op=12 then(⟨0,b.fdiv (2^ (min (c.tmod 16).toNat 16))⟩,0)
 else if b<c then(⟨0,1⟩,0) else(⟨0,0⟩,0)
@[simp] theorem QT(op b c:Int)(hb:0<=b/\b<=65535)(hc:0<=c/\c<=65535)(ho:3<=op/\op<=13):cz X 160 [op,.int .u16 b,.int .u16 c]=some (.de [.agg [.int .u8 ((xe op b c).1).tag,.int .u16 ((xe op b c).1).val],.int .i64 ((xe op b c).2)]):=by
 refine bd Tryz.func160 rfl rfl ?_;have ud:op=3\/op=4\/op=5\/op=6\/op=7\/op=8\/op=9\/op=10\/op=11\/op=12\/op=13:=by omega
 have hm:0<=c.tmod 16:=Int.tmod_nonneg _ hc.1;have MK: ¬c.tmod 16<0:=by omega
 have US:IntKind.u16.bits=16:=rfl;by_cases hz:c=0
 ·subst hz;rcases ud with rfl|rfl|rfl|rfl|rfl|rfl|rfl|rfl|rfl|rfl|rfl;all_goals simp-implicitDefEqProofs[xe,US]
  all_goals (by_cases h:b<0<;>simp[h])
 ·rcases ud with rfl|rfl|rfl|rfl|rfl|rfl|rfl|rfl|rfl|rfl|rfl;all_goals simp-implicitDefEqProofs[xe,hz,MK,US]
  all_goals (by_cases h:b<c<;>simp[h])
@[simp] theorem WK(op b c:Int)(hb:0<=b/\b<=65535)(hc:0<=c/\c<=65535)(ho:3<=op/\op<=13):cz X 187 [op,.int .u16 b,.int .u16 c]=some (.de [.agg [.int .u8 ((xe op b c).1).tag,.int .u16 ((xe op b c).1).val],.int .i64 ((xe op b c).2)]):=by
 refine bd Tryz.func187 rfl rfl ?_;have ud:op=3\/op=4\/op=5\/op=6\/op=7\/op=8\/op=9\/op=10\/op=11\/op=12\/op=13:=by omega
 have hm:0<=c.tmod 16:=Int.tmod_nonneg _ hc.1;have MK: ¬c.tmod 16<0:=by omega
 have US:IntKind.u16.bits=16:=rfl;by_cases hz:c=0
 ·subst hz;rcases ud with rfl|rfl|rfl|rfl|rfl|rfl|rfl|rfl|rfl|rfl|rfl;all_goals simp-implicitDefEqProofs[xe,US]
  all_goals (by_cases h:b<0<;>simp[h])
 ·rcases ud with rfl|rfl|rfl|rfl|rfl|rfl|rfl|rfl|rfl|rfl|rfl;all_goals simp-implicitDefEqProofs[xe,hz,MK,US]
  all_goals (by_cases h:b<c<;>simp[h])
@[simp] theorem WL(aj:List Int)(bH:Int)(ae:List Int)(lE eU fu dp:Int)(hL:nr aj ae)(hb:0<=eU/\eU<=65535)(hc:0<=dp/\dp<=65535):cz X 161 [(aj,bH),ae,.agg [.int .u8 lE,.int .u16 eU],.agg [.int .u8 fu,.int .u16 dp]]=some (.de [.agg [.int .i64 ((resolve aj ae eU).1).region,.int .i64 ((resolve aj ae eU).1).offset],.agg [.int .i64 ((resolve aj ae dp).1).region,.int .i64 ((resolve aj ae dp).1).offset],.bool ((resolve aj ae eU).2&& ((resolve aj ae dp).2&&decide ((resolve aj ae eU).1.region=(resolve aj ae dp).1.region)))]):=by
 refine bd Tryz.func161 rfl rfl ?_;have hw:IntKind.i64.wrap eU=eU:=wrap_i64 (by omega);have hw':IntKind.i64.wrap dp=dp:=wrap_i64 (by omega);cases h1:(resolve aj ae eU).2<;>cases h2:(resolve aj ae dp).2<;>simp-implicitDefEqProofs[hL,hb,hc,hw,hw',h1,h2]
@[simp] theorem aca(aj:List Int)(bH:Int)(ae:List Int)(lE eU fu dp:Int)(hL:nr aj ae)(hb:0<=eU/\eU<=65535)(hc:0<=dp/\dp<=65535):cz X 188 [(aj,bH),ae,.agg [.int .u8 lE,.int .u16 eU],.agg [.int .u8 fu,.int .u16 dp]]=some (.de [.int .i64 ((mA aj ae (Cell.mk lE eU) (Cell.mk fu dp)).getD 0),.int .i64 (if mA aj ae (Cell.mk lE eU) (Cell.mk fu dp)=none then 4 else 0)]):=by
 refine bd Tryz.func188 rfl rfl ?_;have hw:IntKind.i64.wrap eU=eU:=wrap_i64 (by omega);have hw':IntKind.i64.wrap dp=dp:=wrap_i64 (by omega);cases h1:(resolve aj ae eU).2 with
 |false=>simp-implicitDefEqProofs[hL,hb,hc,hw,hw',h1,mA]
 |true=>
  cases h2:(resolve aj ae dp).2 with
  |false=>simp-implicitDefEqProofs[hL,hb,hc,hw,hw',h1,h2,mA]
  |true=>
   obtain⟨k,hk,tP,e,b1,b2⟩:=jB h1;obtain⟨j,hj,y9,e',b1',b2'⟩:=jB h2;have bb:=hL.base k hk tP;have bb':=hL.base j hj y9;have tQ:IntKind.i64.wrap (eU-aj[k]-(dp-aj[j]))=eU-aj[k]-(dp-aj[j]):=wrap_i64 (by omega);by_cases hr:(k:Int)=j
   ·have A3:k=j:=by omega
    subst A3;simp-implicitDefEqProofs[hL,hb,hc,hw,hw',h1,h2,e,e',tQ,mA]
   ·have A3: ¬k=j:=by omega
    simp-implicitDefEqProofs[hL,hb,hc,hw,hw',h1,h2,e,e',hr,mA]
def n7(aD ae:List Int)(op:Int)(b c:Cell):Cell×Int:=
 if op<3\/14<op then(⟨0,0⟩,1)
 else if op=14 then(if b.tag=c.tag/\b.val=c.val then⟨0,1⟩ else⟨0,0⟩,0)
 else if b.tag=0/\c.tag=0 then xe op b.val c.val
 else if op=3/\b.tag=1/\c.tag=0 then jb aD ae b c.val false
 else if op=3/\b.tag=0/\c.tag=1 then jb aD ae c b.val false
 else if op=4/\b.tag=1/\c.tag=0 then jb aD ae b c.val true
 else if(op=4\/op=13)/\b.tag=1/\c.tag=1 then
  match mA aD ae b c with
  |none=>(⟨0,0⟩,4)
  |some n=>if op=13 then(if n<0 then⟨0,1⟩ else⟨0,0⟩,0) else(⟨0,IntKind.u16.wrap n⟩,0)
 else(⟨0,0⟩,3)
def mf(aD ae:List Int)(p:Cell)(n:Int):Int×Int:=
 if p.tag=1 then
  if(resolve aD ae p.val).2=true then
   if n<0 then(0,4) else if nth ae (resolve aD ae p.val).1.region.toNat-(resolve aD ae p.val).1.offset<n then(0,4) else(p.val,0)
  else(0,4)
 else(0,3)
@[simp] theorem afp(aj:List Int)(bH:Int)(ae:List Int)(op lE eU fu dp:Int)(hL:nr aj ae)(hb:0<=eU/\eU<=65535)(hc:0<=dp/\dp<=65535):cz X 117 [(aj,bH),ae,op,.agg [.int .u8 lE,.int .u16 eU],.agg [.int .u8 fu,.int .u16 dp]]=some (.de [.agg [.int .u8 ((n7 aj ae op (Cell.mk lE eU) (Cell.mk fu dp)).1).tag,.int .u16 ((n7 aj ae op (Cell.mk lE eU) (Cell.mk fu dp)).1).val],.int .i64 ((n7 aj ae op (Cell.mk lE eU) (Cell.mk fu dp)).2)]):=by
 refine bd Tryz.func117 rfl rfl ?_;by_cases h1:op<3
 ·simp-implicitDefEqProofs[h1,n7]
 by_cases h2:14<op
 ·simp-implicitDefEqProofs[h1,h2,n7]
 by_cases h3:op=14
 ·subst h3;by_cases e1:lE=fu
  ·by_cases e2:eU=dp
   ·simp-implicitDefEqProofs[e1,e2,n7]
   ·simp-implicitDefEqProofs[e1,e2,n7]
  ·simp-implicitDefEqProofs[e1,n7]
 have ho:3<=op/\op<=13:=by omega
 by_cases t1:lE=0
 ·by_cases t2:fu=0
  ·simp-implicitDefEqProofs[h1,h2,h3,t1,t2,ho,hb,hc,n7]
  ·by_cases o3:op=3
   ·by_cases t3:fu=1
    ·simp-implicitDefEqProofs[t1,t3,o3,hL,hb,hc,n7]
    ·simp-implicitDefEqProofs[t1,t2,t3,o3,n7]
   ·by_cases o4:op=4
    ·simp-implicitDefEqProofs[t1,t2,o4,n7]
    ·by_cases IB:op=13
     ·simp-implicitDefEqProofs[t1,t2,IB,n7]
     ·simp-implicitDefEqProofs[h1,h2,h3,t1,t2,o3,o4,IB,n7]
 ·by_cases yh:lE=1
  ·by_cases t2:fu=0
   ·by_cases o3:op=3
    ·simp-implicitDefEqProofs[yh,t2,o3,hL,hb,hc,n7]
    ·by_cases o4:op=4
     ·simp-implicitDefEqProofs[yh,t2,o4,hL,hb,hc,n7]
     ·by_cases IB:op=13
      ·simp-implicitDefEqProofs[yh,t2,IB,n7]
      ·simp-implicitDefEqProofs[h1,h2,h3,yh,t2,o3,o4,IB,n7]
   ·by_cases t3:fu=1
    ·by_cases o:op=4\/op=13
     ·have key:n7 aj ae op (Cell.mk lE eU) (Cell.mk fu dp)=match mA aj ae (Cell.mk lE eU) (Cell.mk fu dp) with|none=>(⟨0,0⟩,4)|some n=>if op=13 then(if n<0 then⟨0,1⟩ else⟨0,0⟩,0) else(⟨0,IntKind.u16.wrap n⟩,0):=by
       rcases o with rfl|rfl<;>simp[n7,yh,t3]<;>rfl
      rw[key];have hu: ∀n:Int,mA aj ae (Cell.mk lE eU) (Cell.mk fu dp)=some n->(resolve aj ae eU).2=true/\(resolve aj ae dp).2=true/\(resolve aj ae eU).1.region=(resolve aj ae dp).1.region/\n=(resolve aj ae eU).1.offset-(resolve aj ae dp).1.offset:=fun n hn=>by
       unfold mA at hn;split at hn
       ·rename_i hc;simp at hn;exact⟨hc.1,hc.2.1,hc.2.2,hn.symm⟩
       ·simp at hn
      have hv:mA aj ae (Cell.mk lE eU) (Cell.mk fu dp)=none->((resolve aj ae eU).2&& ((resolve aj ae dp).2&&decide ((resolve aj ae eU).1.region=(resolve aj ae dp).1.region)))=false:=fun hn=>by
       unfold mA at hn;split at hn
       ·simp at hn
       ·rename_i hc;rw[<-Bool.not_eq_true];simpa using hc
      cases ha:mA aj ae (Cell.mk lE eU) (Cell.mk fu dp) with
      |none=>
       have hv:=hv ha;rcases o with rfl|rfl
       ·simp-implicitDefEqProofs[h1,h2,h3,yh,t3,hL,hb,hc,hv]
       ·simp-implicitDefEqProofs[h1,h2,h3,yh,t3,hL,hb,hc,hv]
      |some n=>
       obtain⟨r1,r2,r3,r4⟩:=hu n ha;have eX:((resolve aj ae eU).1.offset<(resolve aj ae dp).1.offset)↔n<0:=by omega
       obtain⟨k,hk,tP,e,b1,b2⟩:=jB r1;obtain⟨j,hj,y9,e',b1',b2'⟩:=jB r2;have bb:=hL.base k hk tP;have bb':=hL.base j hj y9;have tQ:IntKind.i64.wrap ((resolve aj ae eU).1.offset-(resolve aj ae dp).1.offset)=n:=by rw[<-r4];rw[e,e']at r4;exact wrap_i64 (by simp only at r4;omega)
       rcases o with rfl|rfl
       ·simp-implicitDefEqProofs[h1,h2,h3,yh,t3,hL,hb,hc,r1,r2,r3,tQ]
       ·by_cases hn:n<0
        ·simp-implicitDefEqProofs[h1,h2,h3,yh,t3,hL,hb,hc,r1,r2,r3,eX,hn]
        ·simp-implicitDefEqProofs[h1,h2,h3,yh,t3,hL,hb,hc,r1,r2,r3,eX,hn]
     ·have o3: ¬op=4:=fun h=>o (.inl h);have o4: ¬op=13:=fun h=>o (.inr h);simp-implicitDefEqProofs[h1,h2,h3,yh,t3,o3,o4,n7]
    ·by_cases o3:op=3
     ·simp-implicitDefEqProofs[yh,t2,t3,o3,n7]
     ·by_cases o4:op=4
      ·simp-implicitDefEqProofs[yh,t2,t3,o4,n7]
      ·by_cases IB:op=13
       ·simp-implicitDefEqProofs[yh,t2,t3,IB,n7]
       ·simp-implicitDefEqProofs[h1,h2,h3,yh,t2,t3,o3,o4,IB,n7]
  ·by_cases o3:op=3
   ·simp-implicitDefEqProofs[t1,yh,o3,n7]
   ·by_cases o4:op=4
    ·simp-implicitDefEqProofs[t1,yh,o4,n7]
    ·by_cases IB:op=13
     ·simp-implicitDefEqProofs[t1,yh,IB,n7]
     ·simp-implicitDefEqProofs[h1,h2,h3,t1,yh,o3,o4,IB,n7]
@[simp] theorem amh(aj:List Int)(bH:Int)(ae:List Int)(op lE eU fu dp:Int)(hL:nr aj ae)(hb:0<=eU/\eU<=65535)(hc:0<=dp/\dp<=65535):cz X 157 [(aj,bH),ae,op,.agg [.int .u8 lE,.int .u16 eU],.agg [.int .u8 fu,.int .u16 dp]]=some (.de [.agg [.int .u8 ((n7 aj ae op (Cell.mk lE eU) (Cell.mk fu dp)).1).tag,.int .u16 ((n7 aj ae op (Cell.mk lE eU) (Cell.mk fu dp)).1).val],.int .i64 ((n7 aj ae op (Cell.mk lE eU) (Cell.mk fu dp)).2)]):=by
 refine bd Tryz.func157 rfl rfl ?_;by_cases h1:op<3
 ·simp-implicitDefEqProofs[h1,n7]
 by_cases h2:14<op
 ·simp-implicitDefEqProofs[h1,h2,n7]
 by_cases h3:op=14
 ·subst h3;by_cases e1:lE=fu
  ·by_cases e2:eU=dp
   ·simp-implicitDefEqProofs[e1,e2,n7]
   ·simp-implicitDefEqProofs[e1,e2,n7]
  ·simp-implicitDefEqProofs[e1,n7]
 have ho:3<=op/\op<=13:=by omega
 by_cases t1:lE=0
 ·by_cases t2:fu=0
  ·simp-implicitDefEqProofs[h1,h2,h3,t1,t2,ho,hb,hc,n7]
  ·by_cases t3:fu=1
   ·by_cases o3:op=3
    ·simp-implicitDefEqProofs[t1,t3,o3,hL,hb,hc,n7]
    ·simp-implicitDefEqProofs[h1,h2,h3,t1,t3,o3,n7]
   ·simp-implicitDefEqProofs[h1,h2,h3,t1,t2,t3,n7]
 ·by_cases yh:lE=1
  ·by_cases t2:fu=0
   ·by_cases o3:op=3
    ·simp-implicitDefEqProofs[yh,t2,o3,hL,hb,hc,n7]
    ·by_cases o4:op=4
     ·simp-implicitDefEqProofs[yh,t2,o4,hL,hb,hc,n7]
     ·simp-implicitDefEqProofs[h1,h2,h3,yh,t2,o3,o4,n7]
   ·by_cases t3:fu=1
    ·subst yh t3;by_cases o4:op=4
     ·have key:n7 aj ae op ⟨1,eU⟩ ⟨1,dp⟩=match mA aj ae ⟨1,eU⟩ ⟨1,dp⟩ with|none=>(⟨0,0⟩,4)|some n=>(⟨0,IntKind.u16.wrap n⟩,0):=by
       simp[n7,o4]
      rw[key];cases ha:mA aj ae ⟨1,eU⟩ ⟨1,dp⟩ with
      |none=>simp-implicitDefEqProofs[o4,hL,hb,hc,ha]
      |some n=>simp-implicitDefEqProofs[o4,hL,hb,hc,ha]
     ·by_cases IB:op=13
      ·have key:n7 aj ae op ⟨1,eU⟩ ⟨1,dp⟩=match mA aj ae ⟨1,eU⟩ ⟨1,dp⟩ with|none=>(⟨0,0⟩,4)|some n=>(if n<0 then⟨0,1⟩ else⟨0,0⟩,0):=by
        simp[n7,IB]
       rw[key];cases ha:mA aj ae ⟨1,eU⟩ ⟨1,dp⟩ with
       |none=>simp-implicitDefEqProofs[IB,hL,hb,hc,ha]
       |some n=>
        by_cases hn:n<0
        ·simp-implicitDefEqProofs[IB,hL,hb,hc,ha,hn]
        ·simp-implicitDefEqProofs[IB,hL,hb,hc,ha,hn]
      ·simp-implicitDefEqProofs[h1,h2,h3,o4,IB,n7]
    ·simp-implicitDefEqProofs[h1,h2,h3,yh,t2,t3,n7]
  ·simp-implicitDefEqProofs[h1,h2,h3,t1,yh,n7]
@[simp] theorem UT(aj:List Int)(bH:Int)(ae:List Int)(oX dZ n:Int)(hL:nr aj ae)(hp:0<=dZ/\dZ<=65535)(hn:n<=1000000):cz X 103 [(aj,bH),ae,.agg [.int .u8 oX,.int .u16 dZ],n]=some (.de [.int .i64 ((mf aj ae (Cell.mk oX dZ) n).1),.int .i64 ((mf aj ae (Cell.mk oX dZ) n).2)]):=by
 refine bd Tryz.func103 rfl rfl ?_;by_cases h1:oX=1
 case neg=>simp-implicitDefEqProofs[h1,mf]
 have hw:IntKind.i64.wrap dZ=dZ:=wrap_i64 (by omega);cases h2:(resolve aj ae dZ).2 with
 |false=>simp-implicitDefEqProofs[h1,h2,hw,hL,hp,mf]
 |true=>
  obtain⟨k,hk,tP,e,b1,b2⟩:=jB h2;have bb:=hL.base k hk tP;have zz:=hL.sz.elem k tP;have BH:nth ae k=ae[k]:=cZ tP;have tQ:IntKind.i64.wrap (ae[k]-(dZ-aj[k]))=ae[k]-(dZ-aj[k]):=wrap_i64 (by omega);by_cases h3:n<0
  ·simp-implicitDefEqProofs[h1,h2,hw,hL,hp,e,h3,mf]
  by_cases h4:ae[k]-(dZ-aj[k])<n
  ·simp-implicitDefEqProofs[h1,h2,hw,hL,hp,e,h3,h4,tP,tQ,BH,mf]
  ·simp-implicitDefEqProofs[h1,h2,hw,hL,hp,e,h3,h4,tP,tQ,BH,mf]
end Go.Proofs.YtejohpnpnaljdaaGreat
