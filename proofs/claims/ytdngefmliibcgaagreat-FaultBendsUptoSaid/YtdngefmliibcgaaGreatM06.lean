/- Part of a proof: S6. -/
import Derived.Test.YtdngefmliibcgaaGreatM03
import Derived.Test.YtdngefmliibcgaaGreatM05
set_option linter.all false
set_option maxRecDepth 20000
set_option maxHeartbeats 20000000
namespace Go.Proofs.YtdngefmliibcgaaGreat
open Go Go.Abs Go.Abs.fJ
theorem DD: ∀(bs zs:List Int) (a:Int) (r:Nat),(oF bs zs a r).2=true→ ∃k,∃(h:k<bs.length) (h':k<zs.length),(oF bs zs a r).1=⟨((r+k:Nat):Int),a-bs[k]⟩∧bs[k]≤a∧a<bs[k]+zs[k]
 | [],_,_,_,h=>by simp[oF]at h
 |_::_,[],_,_,h=>by simp[oF]at h
 |b::bs,z::zs,a,r,h=>by
  unfold oF at h⊢;split at h
  ·rename_i hc;rw[if_pos hc];exact⟨0,by simp,by simp,by simp,hc.1,hc.2⟩
  ·rename_i hc;rw[if_neg hc];obtain⟨k,h1,h2,e,h3,h4⟩:=DD bs zs a (r+1) h;refine⟨k+1,by simpa using h1,by simpa using h2,?_,by simpa using h3,by simpa using h4⟩;rw[e];simp only[List.getElem_cons_succ,um.mk.injEq,and_true];omega
theorem jh{aE aq:List Int}{a:Int}(h:(resolve aE aq a).2=true): ∃k,∃(h:k<aE.length) (h':k<aq.length),(resolve aE aq a).1=⟨(k:Int),a-aE[k]⟩∧aE[k]≤a∧a<aE[k]+aq[k]:=by
 obtain⟨k,h1,h2,e,h3⟩:=DD _ _ _ _ h;exact⟨k,h1,h2,by simpa[resolve] using e,h3⟩
def fi(aE aq:List Int)(p:Cell)(n:Int)(back:Bool):Cell×Int:=
 if p.tag=1 then
  if(resolve aE aq p.val).2=true then
   if inside aq (resolve aE aq p.val).1.region (if back=true then(resolve aE aq p.val).1.offset-n else(resolve aE aq p.val).1.offset+n)=true then
    (⟨1,nth aE (resolve aE aq p.val).1.region.toNat+(if back=true then(resolve aE aq p.val).1.offset-n else(resolve aE aq p.val).1.offset+n)⟩,0)
   else(⟨0,0⟩,4)
  else(⟨0,0⟩,4)
 else(⟨0,0⟩,3)
theorem rB{aE aq:List Int}{p:Cell}{n:Int}{back:Bool}(h: ¬p.tag=1):fi aE aq p n back=(⟨0,0⟩,3):=by unfold fi;rw[if_neg h]
theorem pK{aE aq:List Int}{p:Cell}{n:Int}{back:Bool}(h:p.tag=1)(h2:(resolve aE aq p.val).2=false):fi aE aq p n back=(⟨0,0⟩,4):=by
 unfold fi;rw[if_pos h,if_neg (by simp[h2])]
theorem rC{aE aq:List Int}{p:Cell}{n:Int}{back:Bool}{k:Nat}{o:Int}(h:p.tag=1)(h2:(resolve aE aq p.val).2=true)(e:(resolve aE aq p.val).1=⟨(k:Int),o⟩):
  fi aE aq p n back=if inside aq k (if back=true then o-n else o+n)=true then(⟨1,nth aE k+(if back=true then o-n else o+n)⟩,0) else(⟨0,0⟩,4):=by
 unfold fi;rw[if_pos h,if_pos h2,e];simp
@[simp] theorem VH(aD:List Int)(eh:Int)(aq:List Int)(rD fj n:Int)(back:Bool)(hL:pE aD aq)(hp:0≤fj∧fj≤65535)(hn:0≤n∧n≤65535):ba X 291 [.agg [.sl false (aD.map (V.int .i64)),.int .u16 eh],.sl false (aq.map (V.int .i64)),.agg [.int .u8 rD,.int .u16 fj],.int .u16 n,.bool back]=some (.cg [.agg [.int .u8 ((fi aD aq (Cell.mk rD fj) n back).1).tag,.int .u16 ((fi aD aq (Cell.mk rD fj) n back).1).val],.int .i64 ((fi aD aq (Cell.mk rD fj) n back).2)]):=by
 refine aN Tryz.func291 rfl rfl ?_;by_cases h1:rD=1
 case neg=>
  have e:=rB (aE:=aD) (aq:=aq) (p:=(Cell.mk rD fj)) (n:=n) (back:=back) h1;simp(maxSteps:=10000000) (maxDischargeDepth:=30) (implicitDefEqProofs:=false)[h1,e]
 subst h1;have hw:IntKind.i64.wrap fj=fj:=wrap_i64 (by omega);have qJ:IntKind.i64.wrap n=n:=wrap_i64 (by omega);have hwm:IntKind.i64.wrap (0-n)= -n:=by rw[wrap_i64 (by omega)];omega
 have Zu:IntKind.i64.wrap (-n)= -n:=wrap_i64 (by omega);cases h2:(resolve aD aq fj).2 with
 |false=>
  have e:=pK (aE:=aD) (aq:=aq) (p:=⟨1,fj⟩) (n:=n) (back:=back) rfl h2;simp(maxSteps:=10000000) (maxDischargeDepth:=30) (implicitDefEqProofs:=false)[h2,hw,hL,hp,e]
 |true=>
  obtain⟨k,hk,mI,e,b1,b2⟩:=jh h2;have em:=rC (aE:=aD) (aq:=aq) (p:=⟨1,fj⟩) (n:=n) (back:=back) rfl h2 e;have bb:=hL.base k hk mI;have zz:=hL.sz.elem k mI;have hlen:=hL.len;have IE: ∀i (h:i<aD.length), -1000≤aD[i]∧aD[i]≤1000:=fun i h=>by
   have:=hL.base i h (by omega);have:=hL.sz.elem i (by omega);omega
  have Zv: ∀i (h:i<aq.length),aq[i]≤1000:=fun i h=>by
   have:=hL.sz.elem i h;omega
  have en:fj-aD[k]+ -n=fj-aD[k]-n:=by omega
  have xH:IntKind.i64.wrap (fj-aD[k]+ -n)=fj-aD[k]-n:=by rw[wrap_i64 (by omega)];omega
  have JF:IntKind.i64.wrap (fj-aD[k]+n)=fj-aD[k]+n:=wrap_i64 (by omega);have zh:nth aD k=aD[k]:=db hk;cases back with
  |true=>
   simp only[if_true]at em;by_cases hi:inside aq k (fj-aD[k]-n)=true
   ·have:=(lY.1 hi);obtain⟨k',G3,ek,o1,o2⟩:=this;have VI:k=k':=by omega
    subst VI;have Zw:IntKind.u16.wrap (aD[k]+(fj-aD[k]-n))=aD[k]+(fj-aD[k]-n):=wrap_u16 (by omega);rw[if_pos hi,zh]at em;simp(maxSteps:=10000000) (maxDischargeDepth:=30) (implicitDefEqProofs:=false)[h2,hw,qJ,hwm,Zu,hL,hp,e,em,hi,xH,Zw,hk,hlen,IE,Zv,zh]
   ·rw[if_neg hi]at em;simp(maxSteps:=10000000) (maxDischargeDepth:=30) (implicitDefEqProofs:=false)[h2,hw,qJ,hwm,Zu,hL,hp,e,em,hi,xH,hlen,IE,Zv,zh]
  |false=>
   simp only[Bool.false_eq_true,if_false]at em;by_cases hi:inside aq k (fj-aD[k]+n)=true
   ·have:=(lY.1 hi);obtain⟨k',G3,ek,o1,o2⟩:=this;have VI:k=k':=by omega
    subst VI;have Zw:IntKind.u16.wrap (aD[k]+(fj-aD[k]+n))=aD[k]+(fj-aD[k]+n):=wrap_u16 (by omega);rw[if_pos hi,zh]at em;simp(maxSteps:=10000000) (maxDischargeDepth:=30) (implicitDefEqProofs:=false)[h2,hw,qJ,hL,hp,e,em,hi,JF,Zw,hk,hlen,IE,Zv,zh]
   ·rw[if_neg hi]at em;simp(maxSteps:=10000000) (maxDischargeDepth:=30) (implicitDefEqProofs:=false)[h2,hw,qJ,hL,hp,e,em,hi,JF,hlen,IE,Zv,zh]
def nV(aE aq:List Int)(b c:Cell):Option Int:=
 if(resolve aE aq b.val).2=true∧(resolve aE aq c.val).2=true∧(resolve aE aq b.val).1.region=(resolve aE aq c.val).1.region then
  some ((resolve aE aq b.val).1.offset-(resolve aE aq c.val).1.offset) else none
def zM(op b c:Int):Cell×Int:=
 if op=3 then(⟨0,IntKind.u16.wrap (b+c)⟩,0)
 else if op=4 then(⟨0,IntKind.u16.wrap (b-c)⟩,0)
 else if op=5 then(⟨0,IntKind.u16.wrap (b*c)⟩,0)
 else if op=6 then(if c=0 then(⟨0,0⟩,5) else(⟨0,IntKind.u16.wrap (b.tdiv c)⟩,0))
 else if op=7 then(if c=0 then(⟨0,0⟩,5) else(⟨0,b.tmod c⟩,0))
 else if op=8 then(⟨0,Go.Abs.bits .u16 .and b c⟩,0)
 else if op=9 then(⟨0,Go.Abs.bits .u16 .or b c⟩,0)
 else if op=10 then(⟨0,Go.Abs.bits .u16 .xor b c⟩,0)
 else if op=11 then(⟨0,IntKind.u16.wrap (b*2^ (min (c.tmod 16).toNat 16))⟩,0)
 else if op=12 then(⟨0,b.fdiv (2^ (min (c.tmod 16).toNat 16))⟩,0)
 else if b<c then(⟨0,1⟩,0) else(⟨0,0⟩,0)
@[simp] theorem PG(op b c:Int)(hb:0≤b∧b≤65535)(hc:0≤c∧c≤65535)(ho:3≤op∧op≤13):ba X 300 [.int .i64 op,.int .u16 b,.int .u16 c]=some (.cg [.agg [.int .u8 ((zM op b c).1).tag,.int .u16 ((zM op b c).1).val],.int .i64 ((zM op b c).2)]):=by
 refine aN Tryz.func300 rfl rfl ?_;have sF:op=3∨op=4∨op=5∨op=6∨op=7∨op=8∨op=9∨op=10∨op=11∨op=12∨op=13:=by omega
 have hm:0≤c.tmod 16:=Int.tmod_nonneg _ hc.1;have So: ¬c.tmod 16<0:=by omega
 have Q3:IntKind.u16.bits=16:=rfl;by_cases hz:c=0
 ·subst hz;rcases sF with rfl|rfl|rfl|rfl|rfl|rfl|rfl|rfl|rfl|rfl|rfl;all_goals simp(maxSteps:=10000000) (maxDischargeDepth:=30) (implicitDefEqProofs:=false)[zM,Q3]
  all_goals (by_cases h:b<0<;>simp[h])
 ·rcases sF with rfl|rfl|rfl|rfl|rfl|rfl|rfl|rfl|rfl|rfl|rfl;all_goals simp(maxSteps:=10000000) (maxDischargeDepth:=30) (implicitDefEqProofs:=false)[zM,hz,hm,So,Q3]
  all_goals (by_cases h:b<c<;>simp[h])
@[simp] theorem Tw(aD:List Int)(eh:Int)(aq:List Int)(rE jC dy cS:Int)(hL:pE aD aq)(hb:0≤jC∧jC≤65535)(hc:0≤cS∧cS≤65535):ba X 301 [.agg [.sl false (aD.map (V.int .i64)),.int .u16 eh],.sl false (aq.map (V.int .i64)),.agg [.int .u8 rE,.int .u16 jC],.agg [.int .u8 dy,.int .u16 cS]]=some (.cg [.int .i64 ((nV aD aq (Cell.mk rE jC) (Cell.mk dy cS)).getD 0),.int .i64 (if nV aD aq (Cell.mk rE jC) (Cell.mk dy cS)=none then 4 else 0)]):=by
 refine aN Tryz.func301 rfl rfl ?_;have hw:IntKind.i64.wrap jC=jC:=wrap_i64 (by omega);have hw':IntKind.i64.wrap cS=cS:=wrap_i64 (by omega);cases h1:(resolve aD aq jC).2 with
 |false=>simp(maxSteps:=10000000) (maxDischargeDepth:=30) (implicitDefEqProofs:=false)[hL,hb,hc,hw,hw',h1,nV]
 |true=>
  cases h2:(resolve aD aq cS).2 with
  |false=>simp(maxSteps:=10000000) (maxDischargeDepth:=30) (implicitDefEqProofs:=false)[hL,hb,hc,hw,hw',h1,h2,nV]
  |true=>
   obtain⟨k,hk,mI,e,b1,b2⟩:=jh h1;obtain⟨j,hj,Bc,e',Xc,FZ⟩:=jh h2;have bb:=hL.base k hk mI;have bb':=hL.base j hj Bc;have xH:IntKind.i64.wrap (jC-aD[k]-(cS-aD[j]))=jC-aD[k]-(cS-aD[j]):=wrap_i64 (by omega);by_cases hr:(k:Int)=j
   ·have tJ:k=j:=by omega
    subst tJ;simp(maxSteps:=10000000) (maxDischargeDepth:=30) (implicitDefEqProofs:=false)[hL,hb,hc,hw,hw',h1,h2,e,e',xH,nV]
   ·have tJ: ¬k=j:=by omega
    simp(maxSteps:=10000000) (maxDischargeDepth:=30) (implicitDefEqProofs:=false)[hL,hb,hc,hw,hw',h1,h2,e,e',hr,tJ,xH,nV]
def tM(aE aq:List Int)(op:Int)(b c:Cell):Cell×Int:=
 if op<3∨14<op then(⟨0,0⟩,1)
 else if op=14 then(if b.tag=c.tag∧b.val=c.val then⟨0,1⟩ else⟨0,0⟩,0)
 else if b.tag=0∧c.tag=0 then zM op b.val c.val
 else if op=3∧b.tag=1∧c.tag=0 then fi aE aq b c.val false
 else if op=3∧b.tag=0∧c.tag=1 then fi aE aq c b.val false
 else if op=4∧b.tag=1∧c.tag=0 then fi aE aq b c.val true
 else if(op=4∨op=13)∧b.tag=1∧c.tag=1 then
  match nV aE aq b c with
  |none=>(⟨0,0⟩,4)
  |some n=>if op=13 then(if n<0 then⟨0,1⟩ else⟨0,0⟩,0) else(⟨0,IntKind.u16.wrap n⟩,0)
 else(⟨0,0⟩,3)
def jD(aE aq:List Int)(p:Cell)(n:Int):Int×Int:=
 if p.tag=1 then
  if(resolve aE aq p.val).2=true then
   if n<0 then(0,4) else if nth aq (resolve aE aq p.val).1.region.toNat-(resolve aE aq p.val).1.offset<n then(0,4) else(p.val,0)
  else(0,4)
 else(0,3)
@[simp] theorem Zx(aD:List Int)(eh:Int)(aq:List Int)(op rE jC dy cS:Int)(hL:pE aD aq)(hb:0≤jC∧jC≤65535)(hc:0≤cS∧cS≤65535):ba X 293 [.agg [.sl false (aD.map (V.int .i64)),.int .u16 eh],.sl false (aq.map (V.int .i64)),.int .i64 op,.agg [.int .u8 rE,.int .u16 jC],.agg [.int .u8 dy,.int .u16 cS]]=some (.cg [.agg [.int .u8 ((tM aD aq op (Cell.mk rE jC) (Cell.mk dy cS)).1).tag,.int .u16 ((tM aD aq op (Cell.mk rE jC) (Cell.mk dy cS)).1).val],.int .i64 ((tM aD aq op (Cell.mk rE jC) (Cell.mk dy cS)).2)]):=by
 refine aN Tryz.func293 rfl rfl ?_;by_cases h1:op<3
 ·simp(maxSteps:=10000000) (maxDischargeDepth:=30) (implicitDefEqProofs:=false)[h1,tM]
 by_cases h2:14<op
 ·simp(maxSteps:=10000000) (maxDischargeDepth:=30) (implicitDefEqProofs:=false)[h1,h2,tM]
 by_cases h3:op=14
 ·subst h3;by_cases e1:rE=dy
  ·by_cases e2:jC=cS
   ·simp(maxSteps:=10000000) (maxDischargeDepth:=30) (implicitDefEqProofs:=false)[e1,e2,tM]
   ·simp(maxSteps:=10000000) (maxDischargeDepth:=30) (implicitDefEqProofs:=false)[e1,e2,tM]
  ·simp(maxSteps:=10000000) (maxDischargeDepth:=30) (implicitDefEqProofs:=false)[e1,tM]
 have ho:3≤op∧op≤13:=by omega
 by_cases t1:rE=0
 ·by_cases t2:dy=0
  ·simp(maxSteps:=10000000) (maxDischargeDepth:=30) (implicitDefEqProofs:=false)[h1,h2,h3,t1,t2,ho,hb,hc,tM]
  ·by_cases t3:dy=1
   ·by_cases o3:op=3
    ·simp(maxSteps:=10000000) (maxDischargeDepth:=30) (implicitDefEqProofs:=false)[h1,h2,h3,t1,t2,t3,o3,hL,hb,hc,tM]
    ·simp(maxSteps:=10000000) (maxDischargeDepth:=30) (implicitDefEqProofs:=false)[h1,h2,h3,t1,t2,t3,o3,tM]
   ·simp(maxSteps:=10000000) (maxDischargeDepth:=30) (implicitDefEqProofs:=false)[h1,h2,h3,t1,t2,t3,tM]
 ·by_cases Xg:rE=1
  ·by_cases t2:dy=0
   ·by_cases o3:op=3
    ·simp(maxSteps:=10000000) (maxDischargeDepth:=30) (implicitDefEqProofs:=false)[h1,h2,h3,t1,Xg,t2,o3,hL,hb,hc,tM]
    ·by_cases o4:op=4
     ·simp(maxSteps:=10000000) (maxDischargeDepth:=30) (implicitDefEqProofs:=false)[h1,h2,h3,t1,Xg,t2,o3,o4,hL,hb,hc,tM]
     ·simp(maxSteps:=10000000) (maxDischargeDepth:=30) (implicitDefEqProofs:=false)[h1,h2,h3,t1,Xg,t2,o3,o4,tM]
   ·by_cases t3:dy=1
    ·subst Xg t3;by_cases o4:op=4
     ·have key:tM aD aq op ⟨1,jC⟩ ⟨1,cS⟩=match nV aD aq ⟨1,jC⟩ ⟨1,cS⟩ with|none=>(⟨0,0⟩,4)|some n=>(⟨0,IntKind.u16.wrap n⟩,0):=by
       simp[tM,o4]
      rw[key];cases ha:nV aD aq ⟨1,jC⟩ ⟨1,cS⟩ with
      |none=>simp(maxSteps:=10000000) (maxDischargeDepth:=30) (implicitDefEqProofs:=false)[h1,h2,h3,o4,hL,hb,hc,ha]
      |some n=>simp(maxSteps:=10000000) (maxDischargeDepth:=30) (implicitDefEqProofs:=false)[h1,h2,h3,o4,hL,hb,hc,ha]
     ·by_cases Zy:op=13
      ·have key:tM aD aq op ⟨1,jC⟩ ⟨1,cS⟩=match nV aD aq ⟨1,jC⟩ ⟨1,cS⟩ with|none=>(⟨0,0⟩,4)|some n=>(if n<0 then⟨0,1⟩ else⟨0,0⟩,0):=by
        simp[tM,Zy]
       rw[key];cases ha:nV aD aq ⟨1,jC⟩ ⟨1,cS⟩ with
       |none=>simp(maxSteps:=10000000) (maxDischargeDepth:=30) (implicitDefEqProofs:=false)[h1,h2,h3,o4,Zy,hL,hb,hc,ha]
       |some n=>
        by_cases hn:n<0
        ·simp(maxSteps:=10000000) (maxDischargeDepth:=30) (implicitDefEqProofs:=false)[h1,h2,h3,o4,Zy,hL,hb,hc,ha,hn]
        ·simp(maxSteps:=10000000) (maxDischargeDepth:=30) (implicitDefEqProofs:=false)[h1,h2,h3,o4,Zy,hL,hb,hc,ha,hn]
      ·simp(maxSteps:=10000000) (maxDischargeDepth:=30) (implicitDefEqProofs:=false)[h1,h2,h3,o4,Zy,tM]
    ·simp(maxSteps:=10000000) (maxDischargeDepth:=30) (implicitDefEqProofs:=false)[h1,h2,h3,t1,Xg,t2,t3,tM]
  ·simp(maxSteps:=10000000) (maxDischargeDepth:=30) (implicitDefEqProofs:=false)[h1,h2,h3,t1,Xg,tM]
@[simp] theorem Q4(aD:List Int)(eh:Int)(aq:List Int)(rD fj n:Int)(hL:pE aD aq)(hp:0≤fj∧fj≤65535)(hn:n≤1000000):ba X 232 [.agg [.sl false (aD.map (V.int .i64)),.int .u16 eh],.sl false (aq.map (V.int .i64)),.agg [.int .u8 rD,.int .u16 fj],.int .i64 n]=some (.cg [.int .i64 ((jD aD aq (Cell.mk rD fj) n).1),.int .i64 ((jD aD aq (Cell.mk rD fj) n).2)]):=by
 refine aN Tryz.func232 rfl rfl ?_;by_cases h1:rD=1
 case neg=>simp(maxSteps:=10000000) (maxDischargeDepth:=30) (implicitDefEqProofs:=false)[h1,jD]
 have hw:IntKind.i64.wrap fj=fj:=wrap_i64 (by omega);cases h2:(resolve aD aq fj).2 with
 |false=>simp(maxSteps:=10000000) (maxDischargeDepth:=30) (implicitDefEqProofs:=false)[h1,h2,hw,hL,hp,jD]
 |true=>
  obtain⟨k,hk,mI,e,b1,b2⟩:=jh h2;have bb:=hL.base k hk mI;have zz:=hL.sz.elem k mI;have zh:nth aq k=aq[k]:=db mI;have xH:IntKind.i64.wrap (aq[k]-(fj-aD[k]))=aq[k]-(fj-aD[k]):=wrap_i64 (by omega);by_cases h3:n<0
  ·simp(maxSteps:=10000000) (maxDischargeDepth:=30) (implicitDefEqProofs:=false)[h1,h2,hw,hL,hp,e,h3,jD]
  by_cases h4:aq[k]-(fj-aD[k])<n
  ·simp(maxSteps:=10000000) (maxDischargeDepth:=30) (implicitDefEqProofs:=false)[h1,h2,hw,hL,hp,e,h3,h4,mI,xH,zh,jD]
  ·simp(maxSteps:=10000000) (maxDischargeDepth:=30) (implicitDefEqProofs:=false)[h1,h2,hw,hL,hp,e,h3,h4,mI,xH,zh,jD]
def ji(code:List Instr)(pc:Int):Instr:=code.getD (pc-1).toNat ⟨0,0,0,0,0⟩
def vW(code:List Instr)(pc:Int):Int:=if 1≤pc∧pc≤code.length∧(ji code pc).op=23 then(ji code pc).cT else-1
theorem DE{code:List Instr}{pc:Int}(h1:1≤pc∧pc≤code.length)(h2:(ji code pc).op=23):vW code pc=(ji code pc).cT:=by
 unfold vW;rw[if_pos ⟨h1.1,h1.2,h2⟩]
def nn:List UInt8→List Int→Bool
 | [],[]=>true
 |k::ks,t::ts=>Tu k.toNat t&&nn ks ts
 |_,_=>false
def s9(l:List Cell):Prop:= ∀i (h:i<l.length),0≤(l[i]).tag∧0≤(l[i]).val∧(l[i]).val≤65535
def rF(aE aq:List Int)(n:Nat)(c:Int)(aO:List Cell):Int:=
 if nn (b9 c) ((aO.take (b9 c).length).map (·.tag))=false then 6
 else if 0<pH c∧((jD aE aq (aO.getD 1 ⟨0,0⟩) (aO.getD 2 ⟨0,0⟩).val).2≠0∨16<(aO.getD 2 ⟨0,0⟩).val) then 6
 else if(c=10∨c=12)∧(n:Int)≤(aO.getD 0 ⟨0,0⟩).val then 6 else 0
@[simp] theorem Oa(call:Int)(tags:List Int)(hm:tags.length≤1000000000):ba X 230 [.int .i64 call,.sl false (tags.map (V.int .u8))]=some (.bool (decide (0≤call∧call≤15)&&nn (b9 call) tags)):=by
 refine aN Tryz.func230 rfl rfl ?_;by_cases hc:0≤call∧call≤15
 case neg=>
  simp(maxSteps:=10000000) (maxDischargeDepth:=30) (implicitDefEqProofs:=false)[hc]
 have GH: ¬(call<0∨15<call):=by omega
 have eZ: ∀{k:List UInt8} {l:List Int},¬k.length=l.length→nn k l=false:=by
  intro k;induction k with
  |nil=>intro l h;cases l with|nil=>exact absurd rfl h|cons _ _=>rfl
  |cons a k ih=>intro l h;cases l with|nil=>rfl|cons b l=>simp[nn,ih (show¬k.length=l.length by simpa using h)]
 by_cases hl:(tags.length:Int)=(b9 call).length
 case neg=>
  have h2:=eZ (k:=b9 call) (l:=tags) (by omega);simp(maxSteps:=10000000) (maxDischargeDepth:=30) (implicitDefEqProofs:=false)[hc,GH,hl,h2]
 have tK:tags.length=(b9 call).length:=by omega
 clear eZ;rcases nS hc with rfl|rfl|rfl|rfl|rfl|rfl|rfl|rfl|rfl|rfl|rfl|rfl|rfl|rfl|rfl|rfl;all_goals
  simp[b9]at tK;try (obtain⟨a,rfl⟩:=Zl tK)
  try (obtain⟨a,b,rfl⟩:=Zm tK)
  try (obtain⟨a,b,c,rfl⟩:=Zn tK)
  try subst tK
  simp(maxSteps:=10000000) (maxDischargeDepth:=30) (implicitDefEqProofs:=false)[jv,b9,nn,Tu];try grind
@[simp] theorem yp(ay:List Instr)(aw:List Int)(aA:List (List Int))(fP:Int)(bI:List Cell)(jf dz cD dA iJ iK:Int)(hl:ay.length≤1000)(hp:0≤jf∧jf≤255):ba X 156 [.agg [.sl false (ay.map Instr.enc),.sl false (aw.map (V.int .i64)),.sl false (aA.map bE)],.agg [.int .i64 fP,.sl false (bI.map Cell.enc),.int .i64 jf,.int .i64 dz,.int .i64 cD,.int .i64 dA,.int .i64 iJ,.int .u16 iK]]=some (.int .i64 (vW ay jf)):=by
 refine aN Tryz.func156 rfl rfl ?_;have w:IntKind.i64.wrap (jf-1)=jf-1:=wrap_i64 (by omega);by_cases h1:1≤jf
 case neg=>
  have rQ: ¬0≤jf-1:=by omega
  simp(maxSteps:=10000000) (maxDischargeDepth:=30) (implicitDefEqProofs:=false)[w,h1,rQ,vW]
 obtain⟨k,hk⟩: ∃k:Nat,jf-1=k:=⟨(jf-1).toNat,by omega⟩;by_cases h2:k<ay.length
 case neg=>
  have VA: ¬(k:Int)<ay.length:=by omega
  have Xh: ¬jf≤ay.length:=by omega
  rw[hk]at w;simp(maxSteps:=10000000) (maxDischargeDepth:=30) (implicitDefEqProofs:=false)[w,h1,h2,VA,Xh,hk,vW,ji]
 have VA:(k:Int)<ay.length:=by omega
 have Xh:jf≤ay.length:=by omega
 rw[hk]at w;by_cases h3:(ay[k]).op=23
 ·simp(maxSteps:=10000000) (maxDischargeDepth:=30) (implicitDefEqProofs:=false)[w,h1,h2,VA,Xh,h3,hk,List.getD,vW,ji]
 ·simp(maxSteps:=10000000) (maxDischargeDepth:=30) (implicitDefEqProofs:=false)[w,h1,h2,VA,Xh,h3,hk,List.getD,vW,ji]
theorem kK{c:Int}(h:0≤c∧c≤15):(b9 c).length≤3:=by
 rcases nS h with rfl|rfl|rfl|rfl|rfl|rfl|rfl|rfl|rfl|rfl|rfl|rfl|rfl|rfl|rfl|rfl<;>decide
def jR(c:Int)(aO:List Cell):List Int:=(aO.take (b9 c).length).map (·.tag)
theorem F2{c:Int}(h:0≤c∧c≤15){aO:List Cell}(hr:aO.length=8):(jR c aO).length=(b9 c).length:=by
 have:=kK h;simp[jR,hr];omega
theorem JS{c:Int}{aO:List Cell}{i:Nat}(h:i<(jR c aO).length)(hr:i<aO.length):(jR c aO)[i]=(aO[i]).tag:=by simp[jR]
theorem AK(aE aq:List Int)(n:Nat)(c:Int)(aO:List Cell):rF aE aq n c aO=if nn (b9 c) (jR c aO)=false then 6
 else if 0<pH c∧((jD aE aq (aO.getD 1 ⟨0,0⟩) (aO.getD 2 ⟨0,0⟩).val).2≠0∨16<(aO.getD 2 ⟨0,0⟩).val) then 6
 else if(c=10∨c=12)∧(n:Int)≤(aO.getD 0 ⟨0,0⟩).val then 6 else 0:=rfl
theorem AT{c:Int}(h:0≤c∧c≤15):Aw c=((b9 c).length:Int):=if_neg (by omega)
theorem RF{c:Int}(h:0≤c∧c≤15):0≤pH c:=by
 unfold pH;rw[if_neg (by omega)];split
 ·omega
 ·split<;>omega
@[simp] theorem wL(ay:List Instr)(aw:List Int)(aA:List (List Int))(ae:List Int)(an:Int)(ak:List Cell)(ah:List bT)(au:List Thread)(t:Int)(hm:au.length=4)(ht:0≤t∧t<4)(hL:pE ae aw)(hl:ay.length≤1000)(hr:(au.getD t.toNat cE).aO.length=8)(Pt:s9 (au.getD t.toNat cE).aO)(hp:1≤(au.getD t.toNat cE).pc∧(au.getD t.toNat cE).pc≤ay.length)(ho:(ji ay (au.getD t.toNat cE).pc).op=23)(hc:0≤(ji ay (au.getD t.toNat cE).pc).cT∧(ji ay (au.getD t.toNat cE).pc).cT≤15)(xh:(au.getD t.toNat cE).pc≤255):ba X 154 [.agg [.sl false (ay.map Instr.enc),.sl false (aw.map (V.int .i64)),.sl false (aA.map bE)],.agg [.sl false (ae.map (V.int .i64)),.int .u16 an,.sl false (ak.map Cell.enc),.sl false (ah.map bT.enc),.sl false (au.map Thread.enc)],.int .i64 t]=some (.int .i64 (rF ae aw ay.length (ji ay (au.getD t.toNat cE).pc).cT (au.getD t.toNat cE).aO)):=by
 refine aN Tryz.func154 rfl rfl ?_;obtain⟨k,rfl⟩:=Int.eq_ofNat_of_zero_le ht.1;have hk:k<au.length:=by omega
 have G2:(k:Int)<4:=by omega
 have P6: ¬(4:Int)≤(k:Int):=by omega
 have hk4:k<4:=by omega
 have hkz: ¬(k:Int)<0:=by omega
 have hx:au.getD (k:Int).toNat cE=au[k]:=by simp[List.getD,hk]
 rw[hx]at hr Pt hp ho hc xh⊢;have XB:=DE hp ho;have XW:0≤(au[k]).pc∧(au[k]).pc≤255:=by omega
 obtain⟨c,sM⟩: ∃c,(ji ay (au[k]).pc).cT=c:=⟨_,rfl⟩;rw[sM]at hc XB⊢;obtain⟨aO,KX⟩: ∃r,(au[k]).aO=r:=⟨_,rfl⟩;rw[KX]at hr Pt⊢;have k3:=kK hc;have tl:=F2 hc hr;have c0:=Pt 0 (by omega);have c1:=Pt 1 (by omega);have c2:=Pt 2 (by omega);obtain⟨r0,e0⟩: ∃x,aO[0]'(by omega)=x:=⟨_,rfl⟩;obtain⟨⟨XC,RG⟩,e1⟩: ∃x,aO[1]'(by omega)=x:=⟨_,rfl⟩;obtain⟨r2,e2⟩: ∃x,aO[2]'(by omega)=x:=⟨_,rfl⟩;rw[e0]at c0;rw[e1]at c1;rw[e2]at c2;simp only at c1;have g0:aO.getD 0 ⟨0,0⟩=r0:=by simp[List.getD,hr,e0]
 have g1:aO.getD 1 ⟨0,0⟩=⟨XC,RG⟩:=by simp[List.getD,hr,e1]
 have g2:aO.getD 2 ⟨0,0⟩=r2:=by simp[List.getD,hr,e2]
 have q0:aO[0]?.getD ⟨0,0⟩=r0:=g0;have q1:aO[1]?.getD ⟨0,0⟩=⟨XC,RG⟩:=g1;have q2:aO[2]?.getD ⟨0,0⟩=r2:=g2;have l0:0<aO.length:=by omega
 have l1:1<aO.length:=by omega
 have l2:2<aO.length:=by omega
 have v1:0≤RG∧RG≤65535:=by omega
 have v2':r2.val≤1000000:=by omega
 have w0:IntKind.i64.wrap r0.val=r0.val:=wrap_i64 (by omega);have w2:IntKind.i64.wrap r2.val=r2.val:=wrap_i64 (by omega);have hA:Aw c=((b9 c).length:Int):=AT hc;have hbm:=RF hc;have hmx:(if 0<(b9 c).length then((b9 c).length:Int) else 0)=((b9 c).length:Int):=by split<;>omega
 rw[AK,g0,g1,g2];simp(maxSteps:=10000000) (maxDischargeDepth:=30) (implicitDefEqProofs:=false)[hm,hk,G2,P6,hk4,hkz,hl,XW,XB,hA,KX];refine fh (fun i S=>(S.f 3= .ptr 3 0 0∧S.h 3=some ⟨3,[.agg [.sl false (ay.map Instr.enc),.sl false (aw.map (V.int .i64)),.sl false (aA.map bE)]],true⟩∧S.f 4= .ptr 4 0 0∧S.h 4=some ⟨5,[.agg [.sl false (ae.map (V.int .i64)),.int .u16 an,.sl false (ak.map Cell.enc),.sl false (ah.map bT.enc),.sl false (au.map Thread.enc)]],true⟩∧S.f 7= .ptr 7 0 0∧S.h 7=some ⟨8,[.agg [.int .i64 (au[k]).state,.sl false ((au[k]).aO.map Cell.enc),.int .i64 (au[k]).pc,.int .i64 (au[k]).count,.int .i64 (au[k]).bK,.int .i64 (au[k]).saved,.int .i64 (au[k]).cz,.int .u16 (au[k]).code]],true⟩∧S.f 8= .int .i64 (c)∧S.f 9= .bJ 9 0 ((((jR c aO).take i).map (V.int .u8))).length∧S.h 9=some ⟨1,(((jR c aO).take i).map (V.int .u8)),false⟩∧S.f 33= .int .i64 (((b9 c).length:Int))∧S.f 34= .int .i64 (i:Int)∧S.n=1100)∧True) ((b9 c).length) ?_ 0 (by simp) ?_
 ·rintro i S dQ ⟨eg,jn⟩;have dh:=dY i (by omega);by_cases bk:i<(b9 c).length
  ·have i8:i<8:=by omega
   have i8i:(i:Int)<8:=by omega
   have il:i<aO.length:=by omega
   have it:i<(jR c aO).length:=by omega
   have ta:=JS it il;have gi:aO[i]?.getD ⟨0,0⟩=aO[i]:=by rw[List.getElem?_eq_getElem il];rfl
   have tg:=zL (f:=V.int .u8) it;rw[ta]at tg;have b1:i≤140737488355327:=by omega
   have b2:i≤4611686018427387903:=by omega
   have sK:min (i+1) (b9 c).length=i+1:=by omega
   simp(maxSteps:=10000000) (maxDischargeDepth:=30) (implicitDefEqProofs:=false)[eg,dQ,dh,bk,KX,hr,i8,i8i,il,it,gi,tl,tg,b1,b2,sK]
  ·have mP:(b9 c).length=i:=by omega
   subst mP;have kb:(b9 c).length≤1000000000:=by omega
   have tm: ∀f:Int→V,List.take (b9 c).length ((jR c aO).map f)=(jR c aO).map f:=fun f=>aQ (by simp[tl]);have RH: ∀f:Int→Option V,List.take (b9 c).length ((jR c aO).map f)=(jR c aO).map f:=fun f=>aQ (by simp[tl]);have tt:(jR c aO).take (b9 c).length=jR c aO:=aQ (by omega);cases K6:nn (b9 c) (jR c aO) with
   |false=>
    simp(maxSteps:=10000000) (maxDischargeDepth:=30) (implicitDefEqProofs:=false)[eg,dQ,dh,bk,kb,tl,tt,tm,RH,hc,K6]
   |true=>
    by_cases hb:0<pH c
    ·have UC: ¬pH c=0:=by omega
     by_cases hw:(jD ae aw ⟨XC,RG⟩ r2.val).2=0
     ·by_cases h16:16<r2.val
      ·simp(maxSteps:=10000000) (maxDischargeDepth:=30) (implicitDefEqProofs:=false)[eg,dQ,dh,bk,Cell.aU,kb,tl,tt,tm,RH,hc,K6,hb,UC,hL,v1,v2',w2,KX,hr,l0,l1,l2,e0,e1,e2,hw,h16]
      ·have n10: ¬c=10:=fun e=>by rw[e]at hb;revert hb;decide
       have n12: ¬c=12:=fun e=>by rw[e]at hb;revert hb;decide
       simp(maxSteps:=10000000) (maxDischargeDepth:=30) (implicitDefEqProofs:=false)[eg,dQ,dh,bk,Cell.aU,kb,tl,tt,tm,RH,hc,K6,hb,UC,hL,v1,v2',w0,w2,KX,hr,l0,l1,l2,e0,e1,e2,hw,h16,n10,n12]
     ·simp(maxSteps:=10000000) (maxDischargeDepth:=30) (implicitDefEqProofs:=false)[eg,dQ,dh,bk,Cell.aU,kb,tl,tt,tm,RH,hc,K6,hb,UC,hL,v1,v2',w2,KX,hr,l0,l1,l2,e0,e1,e2,hw]
    ·have ZZ:pH c=0:=by omega
     by_cases RI:c=10
     ·have TK:=eq_true RI;by_cases hv:(ay.length:Int)≤r0.val
      ·simp(maxSteps:=10000000) (maxDischargeDepth:=30) (implicitDefEqProofs:=false)[eg,dQ,dh,bk,Cell.aU,kb,tl,tt,tm,RH,hc,K6,ZZ,w0,KX,hr,l0,e0,TK,hv]
      ·simp(maxSteps:=10000000) (maxDischargeDepth:=30) (implicitDefEqProofs:=false)[eg,dQ,dh,bk,Cell.aU,kb,tl,tt,tm,RH,hc,K6,ZZ,w0,KX,hr,l0,e0,TK,hv]
     ·by_cases EM:c=12
      ·have Z0:=eq_true EM;by_cases hv:(ay.length:Int)≤r0.val
       ·simp(maxSteps:=10000000) (maxDischargeDepth:=30) (implicitDefEqProofs:=false)[eg,dQ,dh,bk,Cell.aU,kb,tl,tt,tm,RH,hc,K6,ZZ,w0,KX,hr,l0,e0,RI,Z0,hv]
       ·simp(maxSteps:=10000000) (maxDischargeDepth:=30) (implicitDefEqProofs:=false)[eg,dQ,dh,bk,Cell.aU,kb,tl,tt,tm,RH,hc,K6,ZZ,w0,KX,hr,l0,e0,RI,Z0,hv]
      ·simp(maxSteps:=10000000) (maxDischargeDepth:=30) (implicitDefEqProofs:=false)[eg,dQ,dh,bk,Cell.aU,kb,tl,tt,tm,RH,hc,K6,ZZ,w0,KX,hr,l0,e0,RI,EM]
 ·simp(maxSteps:=10000000) (maxDischargeDepth:=30) (implicitDefEqProofs:=false)[hA,hmx,KX]
end Go.Proofs.YtdngefmliibcgaaGreat
