/- part -/
import Derived.Test.YtdngefmliibcgaaGreatV04
import Derived.Test.YtdngefmliibcgaaGreatV05
set_option linter.all false
set_option maxRecDepth 20000
set_option maxHeartbeats 20000000
namespace Go.Proofs.YtdngefmliibcgaaGreat
open Go Go.Abs Go.Abs.kI Qf
variable  {aD an:List Int}{a k i t:Nat}{p:Prog}{n o pc c d op b saved w:Int}{ids:Nat->Nat}{l r bp:List Cell}{x:Thread}{m:aO}
def N8: ∀(bs zs:List Int) (a:Int) (r:Nat),(rQ bs zs a r).2=true-> ∃k,∃(h:k<bs.length) (h':k<zs.length),(rQ bs zs a r).1=⟨((r+k:Nat):Int),a-bs[k]⟩/\bs[k]<=a/\a<bs[k]+zs[k]
 | [],_,_,_,h=>by simp[rQ]at h
 |_::_,[],_,_,h=>by simp[rQ]at h
 |b::bs,z::zs,a,r,h=>by
  unfold rQ at h⊢;split at h
  ·rename_i hc;rw[if_pos hc];exact⟨0,by simp,by simp,by simp,hc.1,hc.2⟩
  ·rename_i hc;rw[if_neg hc];obtain⟨k,h1,h2,e,h3,h4⟩:=N8 bs zs a (r+1) h;refine⟨k+1,by simpa using h1,by simpa using h2,?_,by simpa using h3,by simpa using h4⟩;rw[e];simp only[acU,BI.mk.injEq,and_true];omega
def j6{a:Int}(h:(resolve aD an a).2=true): ∃k,∃(h:k<aD.length) (h':k<an.length),(resolve aD an a).1=⟨(k:Int),a-aD[k]⟩/\aD[k]<=a/\a<aD[k]+an[k]:=by
 obtain⟨k,h1,h2,e,h3⟩:=N8 _ _ _ _ h;exact⟨k,h1,h2,by simpa[resolve] using e,h3⟩
def jM(aD an:List Int)(p:Cell)(n:Int)(back:Bool):Cell×Int:=
 if p.tag=1 then
  if(resolve aD an p.val).2=true then
   if inside an (resolve aD an p.val).1.region (if back=true then(resolve aD an p.val).1.offset-n else(resolve aD an p.val).1.offset+n)=true then
    (⟨1,nth aD (resolve aD an p.val).1.region.toNat+(if back=true then(resolve aD an p.val).1.offset-n else(resolve aD an p.val).1.offset+n)⟩,0)
   else(⟨0,0⟩,4)
  else(⟨0,0⟩,4)
 else(⟨0,0⟩,3)
def wz{p:Cell}{back:Bool}(h: ¬p.tag=1):jM aD an p n back=(⟨0,0⟩,3):=by unfold jM;rw[if_neg h]
def tJ{p:Cell}{back:Bool}(h:p.tag=1)(h2:(resolve aD an p.val).2=false):jM aD an p n back=(⟨0,0⟩,4):=by
 unfold jM;rw[if_pos h,if_neg (by simp[h2])]
def wA{p:Cell}{back:Bool}(h:p.tag=1)(h2:(resolve aD an p.val).2=true)(e:(resolve aD an p.val).1=⟨(k:Int),o⟩):
  jM aD an p n back=if inside an k (if back=true then o-n else o+n)=true then(⟨1,nth aD k+(if back=true then o-n else o+n)⟩,0) else(⟨0,0⟩,4):=by
 unfold jM;rw[if_pos h,if_pos h2,e];simp
@[simp]def ak7(aw:List Int)(bK:Int)(an:List Int)(o9 eO n:Int)(back:Bool)(hL:nW aw an)(hp:0<=eO/\eO<=65535)(hn:0<=n/\n<=65535):bU X 272 [KKc aw bK,.sl false (an.map (V.int .i64)),KKo o9 eO,.int .u16 n,.bool back]=some (.dP [KKf ((jM aw an (Cell.mk o9 eO) n back).1),.int .i64 ((jM aw an (Cell.mk o9 eO) n back).2)]):=by
 refine aaA ?_;by_cases h1:o9=1
 case neg=>
  have e:=wz (aD:=aw) (an:=an) (p:=(Cell.mk o9 eO)) (n:=n) (back:=back) h1;simp[h1,e]
 subst h1;have hw:IntKind.i64.wrap eO=eO:=wrap_i64 (by omega);have qK:IntKind.i64.wrap n=n:=wrap_i64 (by omega);cases h2:(resolve aw an eO).2 with
 |false=>
  have e:=tJ (aD:=aw) (an:=an) (p:=⟨1,eO⟩) (n:=n) (back:=back) rfl h2;simp[h2,hw,hL,hp,e]
 |true=>
  obtain⟨k,hk,qT,e,b1,b2⟩:=j6 h2;have em:=wA (aD:=aw) (an:=an) (p:=⟨1,eO⟩) (n:=n) (back:=back) rfl h2 e;have bb:=hL.base k hk qT;have zz:=hL.sz.elem k qT;have sU:IntKind.i64.wrap (eO-aw[k]-n)=eO-aw[k]-n:=wrap_i64 (by omega);have H8:IntKind.i64.wrap (eO-aw[k]+n)=eO-aw[k]+n:=wrap_i64 (by omega);have Cz:nth aw k=aw[k]:=dE hk;cases back with
  |true=>
   simp only[if_true]at em;by_cases hi:inside an k (eO-aw[k]-n)=true
   ·have:=(lj.1 hi);obtain⟨k',yc,ek,o1,o2⟩:=this;have ek':k=k':=by omega
    subst ek';have hw3:IntKind.i64.wrap (aw[k]+(eO-aw[k]-n))=aw[k]+(eO-aw[k]-n):=wrap_i64 (by omega);have WB:IntKind.u16.wrap (aw[k]+(eO-aw[k]-n))=aw[k]+(eO-aw[k]-n):=wrap_u16 (by omega);rw[if_pos hi,Cz]at em;simp[h2,hw,qK,hL,hp,e,em,hi,sU,hw3,WB,hk]
   ·rw[if_neg hi]at em;simp[h2,hw,qK,hL,hp,e,em,hi,sU]
  |false=>
   simp only[aaM,if_false]at em;by_cases hi:inside an k (eO-aw[k]+n)=true
   ·have:=(lj.1 hi);obtain⟨k',yc,ek,o1,o2⟩:=this;have ek':k=k':=by omega
    subst ek';have hw3:IntKind.i64.wrap (aw[k]+(eO-aw[k]+n))=aw[k]+(eO-aw[k]+n):=wrap_i64 (by omega);have WB:IntKind.u16.wrap (aw[k]+(eO-aw[k]+n))=aw[k]+(eO-aw[k]+n):=wrap_u16 (by omega);rw[if_pos hi,Cz]at em;simp[h2,hw,qK,hL,hp,e,em,hi,H8,hw3,WB,hk]
   ·rw[if_neg hi]at em;simp[h2,hw,qK,hL,hp,e,em,hi,H8]
@[simp]def atx(aw:List Int)(bK:Int)(an:List Int)(o9 eO n:Int)(back:Bool)(hL:nW aw an)(hp:0<=eO/\eO<=65535)(hn:0<=n/\n<=65535):bU X 291 [KKc aw bK,.sl false (an.map (V.int .i64)),KKo o9 eO,.int .u16 n,.bool back]=some (.dP [KKf ((jM aw an (Cell.mk o9 eO) n back).1),.int .i64 ((jM aw an (Cell.mk o9 eO) n back).2)]):=by
 refine aaA ?_;by_cases h1:o9=1
 case neg=>
  have e:=wz (aD:=aw) (an:=an) (p:=(Cell.mk o9 eO)) (n:=n) (back:=back) h1;simp[h1,e]
 subst h1;have hw:IntKind.i64.wrap eO=eO:=wrap_i64 (by omega);have qK:IntKind.i64.wrap n=n:=wrap_i64 (by omega);have hwm:IntKind.i64.wrap (0-n)= -n:=by rw[wrap_i64 (by omega)];omega
 have a00:IntKind.i64.wrap (-n)= -n:=wrap_i64 (by omega);cases h2:(resolve aw an eO).2 with
 |false=>
  have e:=tJ (aD:=aw) (an:=an) (p:=⟨1,eO⟩) (n:=n) (back:=back) rfl h2;simp[h2,hw,hL,hp,e]
 |true=>
  obtain⟨k,hk,qT,e,b1,b2⟩:=j6 h2;have em:=wA (aD:=aw) (an:=an) (p:=⟨1,eO⟩) (n:=n) (back:=back) rfl h2 e;have bb:=hL.base k hk qT;have zz:=hL.sz.elem k qT;have hlen:=hL.len;have H7: ∀i (h:i<aw.length), -1000<=aw[i]/\aw[i]<=1000:=fun i h=>by
   have:=hL.base i h (by omega);have:=hL.sz.elem i (by omega);omega
  have hzz: ∀i (h:i<an.length),an[i]<=1000:=fun i h=>by
   have:=hL.sz.elem i h;omega
  have en:eO-aw[k]+ -n=eO-aw[k]-n:=by omega
  have sU:IntKind.i64.wrap (eO-aw[k]+ -n)=eO-aw[k]-n:=by rw[wrap_i64 (by omega)];omega
  have H8:IntKind.i64.wrap (eO-aw[k]+n)=eO-aw[k]+n:=wrap_i64 (by omega);have Cz:nth aw k=aw[k]:=dE hk;cases back with
  |true=>
   simp only[if_true]at em;by_cases hi:inside an k (eO-aw[k]-n)=true
   ·have:=(lj.1 hi);obtain⟨k',yc,ek,o1,o2⟩:=this;have ek':k=k':=by omega
    subst ek';have WB:IntKind.u16.wrap (aw[k]+(eO-aw[k]-n))=aw[k]+(eO-aw[k]-n):=wrap_u16 (by omega);rw[if_pos hi,Cz]at em;simp[h2,hw,qK,a00,hL,hp,e,em,hi,sU,WB,hlen,H7,hzz,Cz]
   ·rw[if_neg hi]at em;simp[h2,hw,qK,a00,hL,hp,e,em,hi,sU,hlen,H7,hzz]
  |false=>
   simp only[aaM,if_false]at em;by_cases hi:inside an k (eO-aw[k]+n)=true
   ·have:=(lj.1 hi);obtain⟨k',yc,ek,o1,o2⟩:=this;have ek':k=k':=by omega
    subst ek';have WB:IntKind.u16.wrap (aw[k]+(eO-aw[k]+n))=aw[k]+(eO-aw[k]+n):=wrap_u16 (by omega);rw[if_pos hi,Cz]at em;simp[h2,hw,qK,hL,hp,e,em,hi,H8,WB,hlen,H7,hzz,Cz]
   ·rw[if_neg hi]at em;simp[h2,hw,qK,hL,hp,e,em,hi,H8,hlen,H7,hzz]
def pa(aD an:List Int)(b c:Cell):Option Int:=
 if(resolve aD an b.val).2=true/\(resolve aD an c.val).2=true/\(resolve aD an b.val).1.region=(resolve aD an c.val).1.region then
  some ((resolve aD an b.val).1.offset-(resolve aD an c.val).1.offset) else none
def AX(op b c:Int):Cell×Int:=
 if op=3 then(⟨0,IntKind.u16.wrap (b+c)⟩,0)
 else if op=4 then(⟨0,IntKind.u16.wrap (b-c)⟩,0)
 else if op=5 then(⟨0,IntKind.u16.wrap (b*c)⟩,0)
 else if op=6 then(if c=0 then(⟨0,0⟩,5) else(⟨0,IntKind.u16.wrap (b.tdiv c)⟩,0))
 else if op=7 then(if c=0 then(⟨0,0⟩,5) else(⟨0,b.tmod c⟩,0))
 else if op=8 then(⟨0,Go.Abs.bits .u16 .and b c⟩,0)
 else if op=9 then(⟨0,Go.Abs.bits .u16 .or b c⟩,0)
 else if op=10 then(⟨0,Go.Abs.bits .u16 .xor b c⟩,0)
 else if op=11 then(⟨0,IntKind.u16.wrap (b*2^ (min (c.tmod 16).toNat 16))⟩,0)
 else if op=12 then(⟨0,b.fdiv (2^ (min (c.tmod 16).toNat 16))⟩,0)
 else if b<c then(⟨0,1⟩,0) else(⟨0,0⟩,0)
@[simp]def Yj(op b c:Int)(hb:0<=b/\b<=65535)(hc:0<=c/\c<=65535)(ho:3<=op/\op<=13):bU X 296 [op,.int .u16 b,.int .u16 c]=some (.dP [KKf ((AX op b c).1),.int .i64 ((AX op b c).2)]):=by
 refine aaA ?_;have zy:op=3\/op=4\/op=5\/op=6\/op=7\/op=8\/op=9\/op=10\/op=11\/op=12\/op=13:=by omega
 have hm:0<=c.tmod 16:=aeY _ hc.1;have Tt: ¬c.tmod 16<0:=by omega
 have R7:IntKind.u16.bits=16:=rfl;by_cases hz:c=0
 ·subst hz;rcases zy with rfl|rfl|rfl|rfl|rfl|rfl|rfl|rfl|rfl|rfl|rfl;all_goals simp[AX,R7]
  all_goals (by_cases h:b<0<;>simp[h])
 ·rcases zy with rfl|rfl|rfl|rfl|rfl|rfl|rfl|rfl|rfl|rfl|rfl;all_goals simp[AX,hz,Tt,R7]
  all_goals (by_cases h:b<c<;>simp[h])
@[simp]def ah1(op b c:Int)(hb:0<=b/\b<=65535)(hc:0<=c/\c<=65535)(ho:3<=op/\op<=13):bU X 300 [op,.int .u16 b,.int .u16 c]=some (.dP [KKf ((AX op b c).1),.int .i64 ((AX op b c).2)]):=by
 refine aaA ?_;have zy:op=3\/op=4\/op=5\/op=6\/op=7\/op=8\/op=9\/op=10\/op=11\/op=12\/op=13:=by omega
 have hm:0<=c.tmod 16:=aeY _ hc.1;have Tt: ¬c.tmod 16<0:=by omega
 have R7:IntKind.u16.bits=16:=rfl;by_cases hz:c=0
 ·subst hz;rcases zy with rfl|rfl|rfl|rfl|rfl|rfl|rfl|rfl|rfl|rfl|rfl;all_goals simp[AX,R7]
  all_goals (by_cases h:b<0<;>simp[h])
 ·rcases zy with rfl|rfl|rfl|rfl|rfl|rfl|rfl|rfl|rfl|rfl|rfl;all_goals simp[AX,hz,Tt,R7]
  all_goals (by_cases h:b<c<;>simp[h])
@[simp]def ah2(aw:List Int)(bK:Int)(an:List Int)(nG ik ey dp:Int)(hL:nW aw an)(hb:0<=ik/\ik<=65535)(hc:0<=dp/\dp<=65535):bU X 297 [KKc aw bK,.sl false (an.map (V.int .i64)),KKo nG ik,KKo ey dp]=some (.dP [KKz ((resolve aw an ik).1),KKz ((resolve aw an dp).1),.bool ((resolve aw an ik).2&& ((resolve aw an dp).2&&decide ((resolve aw an ik).1.region=(resolve aw an dp).1.region)))]):=by
 refine aaA ?_;have hw:IntKind.i64.wrap ik=ik:=wrap_i64 (by omega);have hw':IntKind.i64.wrap dp=dp:=wrap_i64 (by omega);cases h1:(resolve aw an ik).2<;>cases h2:(resolve aw an dp).2<;>simp[hL,hb,hc,hw,hw',h1,h2]
@[simp]def ap4(aw:List Int)(bK:Int)(an:List Int)(nG ik ey dp:Int)(hL:nW aw an)(hb:0<=ik/\ik<=65535)(hc:0<=dp/\dp<=65535):bU X 301 [KKc aw bK,.sl false (an.map (V.int .i64)),KKo nG ik,KKo ey dp]=some (.dP [.int .i64 ((pa aw an (Cell.mk nG ik) (Cell.mk ey dp)).getD 0),.int .i64 (if pa aw an (Cell.mk nG ik) (Cell.mk ey dp)=none then 4 else 0)]):=by
 refine aaA ?_;have hw:IntKind.i64.wrap ik=ik:=wrap_i64 (by omega);have hw':IntKind.i64.wrap dp=dp:=wrap_i64 (by omega);cases h1:(resolve aw an ik).2 with
 |false=>simp[hL,hb,hc,hw,hw',h1,pa]
 |true=>
  cases h2:(resolve aw an dp).2 with
  |false=>simp[hL,hb,hc,hw,hw',h1,h2,pa]
  |true=>
   obtain⟨k,hk,qT,e,b1,b2⟩:=j6 h1;obtain⟨j,hj,BB,e',b1',b2'⟩:=j6 h2;have bb:=hL.base k hk qT;have bb':=hL.base j hj BB;have sU:IntKind.i64.wrap (ik-aw[k]-(dp-aw[j]))=ik-aw[k]-(dp-aw[j]):=wrap_i64 (by omega);by_cases hr:(k:Int)=j
   ·have Dw:k=j:=by omega
    subst Dw;simp[hL,hb,hc,hw,hw',h1,h2,e,e',sU,pa]
   ·have Dw: ¬k=j:=by omega
    simp[hL,hb,hc,hw,hw',h1,h2,e,e',hr,pa]
def qU(aD an:List Int)(op:Int)(b c:Cell):Cell×Int:=
 if op<3\/14<op then(⟨0,0⟩,1)
 else if op=14 then(if b.tag=c.tag/\b.val=c.val then⟨0,1⟩ else⟨0,0⟩,0)
 else if b.tag=0/\c.tag=0 then AX op b.val c.val
 else if op=3/\b.tag=1/\c.tag=0 then jM aD an b c.val false
 else if op=3/\b.tag=0/\c.tag=1 then jM aD an c b.val false
 else if op=4/\b.tag=1/\c.tag=0 then jM aD an b c.val true
 else if(op=4\/op=13)/\b.tag=1/\c.tag=1 then
  match pa aD an b c with
  |none=>(⟨0,0⟩,4)
  |some n=>if op=13 then(if n<0 then⟨0,1⟩ else⟨0,0⟩,0) else(⟨0,IntKind.u16.wrap n⟩,0)
 else(⟨0,0⟩,3)
def ko(aD an:List Int)(p:Cell)(n:Int):Int×Int:=
 if p.tag=1 then
  if(resolve aD an p.val).2=true then
   if n<0 then(0,4) else if nth an (resolve aD an p.val).1.region.toNat-(resolve aD an p.val).1.offset<n then(0,4) else(p.val,0)
  else(0,4)
 else(0,3)
@[simp]def atz(aw:List Int)(bK:Int)(an:List Int)(op nG ik ey dp:Int)(hL:nW aw an)(hb:0<=ik/\ik<=65535)(hc:0<=dp/\dp<=65535):bU X 274 [KKc aw bK,.sl false (an.map (V.int .i64)),.int .i64 op,KKo nG ik,KKo ey dp]=some (.dP [KKf ((qU aw an op (Cell.mk nG ik) (Cell.mk ey dp)).1),.int .i64 ((qU aw an op (Cell.mk nG ik) (Cell.mk ey dp)).2)]):=by
 refine aaA ?_;by_cases h1:op<3
 ·simp[h1,qU]
 by_cases h2:14<op
 ·simp[h1,h2,qU]
 by_cases h3:op=14
 ·subst h3;by_cases e1:nG=ey
  ·by_cases e2:ik=dp
   ·simp[e1,e2,qU]
   ·simp[e1,e2,qU]
  ·simp[e1,qU]
 have ho:3<=op/\op<=13:=by omega
 by_cases t1:nG=0
 ·by_cases t2:ey=0
  ·simp[h1,h2,h3,t1,t2,ho,hb,hc,qU]
  ·by_cases o3:op=3
   ·by_cases t3:ey=1
    ·simp[t1,t3,o3,hL,hb,hc,qU]
    ·simp[t1,t2,t3,o3,qU]
   ·by_cases o4:op=4
    ·simp[t1,t2,o4,qU]
    ·by_cases N9:op=13
     ·simp[t1,t2,N9,qU]
     ·simp[h1,h2,h3,t1,t2,o3,o4,N9,qU]
 ·by_cases B1:nG=1
  ·by_cases t2:ey=0
   ·by_cases o3:op=3
    ·simp[B1,t2,o3,hL,hb,hc,qU]
    ·by_cases o4:op=4
     ·simp[B1,t2,o4,hL,hb,hc,qU]
     ·by_cases N9:op=13
      ·simp[B1,t2,N9,qU]
      ·simp[h1,h2,h3,B1,t2,o3,o4,N9,qU]
   ·by_cases t3:ey=1
    ·by_cases o:op=4\/op=13
     ·have key:qU aw an op (Cell.mk nG ik) (Cell.mk ey dp)=match pa aw an (Cell.mk nG ik) (Cell.mk ey dp) with|none=>(⟨0,0⟩,4)|some n=>if op=13 then(if n<0 then⟨0,1⟩ else⟨0,0⟩,0) else(⟨0,IntKind.u16.wrap n⟩,0):=by
       rcases o with rfl|rfl<;>simp[qU,B1,t3]<;>rfl
      rw[key];have hu: ∀n:Int,pa aw an (Cell.mk nG ik) (Cell.mk ey dp)=some n->(resolve aw an ik).2=true/\(resolve aw an dp).2=true/\(resolve aw an ik).1.region=(resolve aw an dp).1.region/\n=(resolve aw an ik).1.offset-(resolve aw an dp).1.offset:=fun n hn=>by
       unfold pa at hn;split at hn
       ·rename_i hc;simp at hn;exact⟨hc.1,hc.2.1,hc.2.2,hn.symm⟩
       ·simp at hn
      have hv:pa aw an (Cell.mk nG ik) (Cell.mk ey dp)=none->((resolve aw an ik).2&& ((resolve aw an dp).2&&decide ((resolve aw an ik).1.region=(resolve aw an dp).1.region)))=false:=fun hn=>by
       unfold pa at hn;split at hn
       ·simp at hn
       ·rename_i hc;rw[<-Bool.not_eq_true];simpa using hc
      cases ha:pa aw an (Cell.mk nG ik) (Cell.mk ey dp) with
      |none=>
       have hv:=hv ha;rcases o with rfl|rfl
       ·simp[h1,h2,h3,B1,t3,hL,hb,hc,hv]
       ·simp[h1,h2,h3,B1,t3,hL,hb,hc,hv]
      |some n=>
       obtain⟨r1,r2,r3,r4⟩:=hu n ha;have gZ:((resolve aw an ik).1.offset<(resolve aw an dp).1.offset)↔n<0:=by omega
       obtain⟨k,hk,qT,e,b1,b2⟩:=j6 r1;obtain⟨j,hj,BB,e',b1',b2'⟩:=j6 r2;have bb:=hL.base k hk qT;have bb':=hL.base j hj BB;have sU:IntKind.i64.wrap ((resolve aw an ik).1.offset-(resolve aw an dp).1.offset)=n:=by rw[<-r4];rw[e,e']at r4;exact wrap_i64 (by simp only at r4;omega)
       rcases o with rfl|rfl
       ·simp[h1,h2,h3,B1,t3,hL,hb,hc,r1,r2,r3,sU]
       ·by_cases hn:n<0
        ·simp[h1,h2,h3,B1,t3,hL,hb,hc,r1,r2,r3,gZ,hn]
        ·simp[h1,h2,h3,B1,t3,hL,hb,hc,r1,r2,r3,gZ,hn]
     ·have o3: ¬op=4:=fun h=>o (.inl h);have o4: ¬op=13:=fun h=>o (.inr h);simp[h1,h2,h3,B1,t3,o3,o4,qU]
    ·by_cases o3:op=3
     ·simp[B1,t2,t3,o3,qU]
     ·by_cases o4:op=4
      ·simp[B1,t2,t3,o4,qU]
      ·by_cases N9:op=13
       ·simp[B1,t2,t3,N9,qU]
       ·simp[h1,h2,h3,B1,t2,t3,o3,o4,N9,qU]
  ·by_cases o3:op=3
   ·simp[t1,B1,o3,qU]
   ·by_cases o4:op=4
    ·simp[t1,B1,o4,qU]
    ·by_cases N9:op=13
     ·simp[t1,B1,N9,qU]
     ·simp[h1,h2,h3,t1,B1,o3,o4,N9,qU]
@[simp]def a01(aw:List Int)(bK:Int)(an:List Int)(op nG ik ey dp:Int)(hL:nW aw an)(hb:0<=ik/\ik<=65535)(hc:0<=dp/\dp<=65535):bU X 293 [KKc aw bK,.sl false (an.map (V.int .i64)),.int .i64 op,KKo nG ik,KKo ey dp]=some (.dP [KKf ((qU aw an op (Cell.mk nG ik) (Cell.mk ey dp)).1),.int .i64 ((qU aw an op (Cell.mk nG ik) (Cell.mk ey dp)).2)]):=by
 refine aaA ?_;by_cases h1:op<3
 ·simp[h1,qU]
 by_cases h2:14<op
 ·simp[h1,h2,qU]
 by_cases h3:op=14
 ·subst h3;by_cases e1:nG=ey
  ·by_cases e2:ik=dp
   ·simp[e1,e2,qU]
   ·simp[e1,e2,qU]
  ·simp[e1,qU]
 have ho:3<=op/\op<=13:=by omega
 by_cases t1:nG=0
 ·by_cases t2:ey=0
  ·simp[h1,h2,h3,t1,t2,ho,hb,hc,qU]
  ·by_cases t3:ey=1
   ·by_cases o3:op=3
    ·simp[t1,t3,o3,hL,hb,hc,qU]
    ·simp[h1,h2,h3,t1,t3,o3,qU]
   ·simp[h1,h2,h3,t1,t2,t3,qU]
 ·by_cases B1:nG=1
  ·by_cases t2:ey=0
   ·by_cases o3:op=3
    ·simp[B1,t2,o3,hL,hb,hc,qU]
    ·by_cases o4:op=4
     ·simp[B1,t2,o4,hL,hb,hc,qU]
     ·simp[h1,h2,h3,B1,t2,o3,o4,qU]
   ·by_cases t3:ey=1
    ·subst B1 t3;by_cases o4:op=4
     ·have key:qU aw an op ⟨1,ik⟩ ⟨1,dp⟩=match pa aw an ⟨1,ik⟩ ⟨1,dp⟩ with|none=>(⟨0,0⟩,4)|some n=>(⟨0,IntKind.u16.wrap n⟩,0):=by
       simp[qU,o4]
      rw[key];cases ha:pa aw an ⟨1,ik⟩ ⟨1,dp⟩ with
      |none=>simp[o4,hL,hb,hc,ha]
      |some n=>simp[o4,hL,hb,hc,ha]
     ·by_cases N9:op=13
      ·have key:qU aw an op ⟨1,ik⟩ ⟨1,dp⟩=match pa aw an ⟨1,ik⟩ ⟨1,dp⟩ with|none=>(⟨0,0⟩,4)|some n=>(if n<0 then⟨0,1⟩ else⟨0,0⟩,0):=by
        simp[qU,N9]
       rw[key];cases ha:pa aw an ⟨1,ik⟩ ⟨1,dp⟩ with
       |none=>simp[N9,hL,hb,hc,ha]
       |some n=>
        by_cases hn:n<0
        ·simp[N9,hL,hb,hc,ha,hn]
        ·simp[N9,hL,hb,hc,ha,hn]
      ·simp[h1,h2,h3,o4,N9,qU]
    ·simp[h1,h2,h3,B1,t2,t3,qU]
  ·simp[h1,h2,h3,t1,B1,qU]
@[simp]def adt(aw:List Int)(bK:Int)(an:List Int)(o9 eO n:Int)(hL:nW aw an)(hp:0<=eO/\eO<=65535)(hn:n<=1000000):bU X 249 [KKc aw bK,.sl false (an.map (V.int .i64)),KKo o9 eO,.int .i64 n]=some (.dP [.int .i64 ((ko aw an (Cell.mk o9 eO) n).1),.int .i64 ((ko aw an (Cell.mk o9 eO) n).2)]):=by
 refine aaA ?_;by_cases h1:o9=1
 case neg=>simp[h1,ko]
 have hw:IntKind.i64.wrap eO=eO:=wrap_i64 (by omega);cases h2:(resolve aw an eO).2 with
 |false=>simp[h1,h2,hw,hL,hp,ko]
 |true=>
  obtain⟨k,hk,qT,e,b1,b2⟩:=j6 h2;have bb:=hL.base k hk qT;have zz:=hL.sz.elem k qT;have Cz:nth an k=an[k]:=dE qT;have sU:IntKind.i64.wrap (an[k]-(eO-aw[k]))=an[k]-(eO-aw[k]):=wrap_i64 (by omega);by_cases h3:n<0
  ·simp[h1,h2,hw,hL,hp,e,h3,ko]
  by_cases h4:an[k]-(eO-aw[k])<n
  ·simp[h1,h2,hw,hL,hp,e,h3,h4,qT,sU,Cz,ko]
  ·simp[h1,h2,hw,hL,hp,e,h3,h4,qT,sU,Cz,ko]
@[simp]def ak8(aw:List Int)(bK:Int)(an:List Int)(o9 eO n:Int)(hL:nW aw an)(hp:0<=eO/\eO<=65535)(hn:n<=1000000):bU X 232 [KKc aw bK,.sl false (an.map (V.int .i64)),KKo o9 eO,.int .i64 n]=some (.dP [.int .i64 ((ko aw an (Cell.mk o9 eO) n).1),.int .i64 ((ko aw an (Cell.mk o9 eO) n).2)]):=by
 refine aaA ?_;by_cases h1:o9=1
 case neg=>simp[h1,ko]
 have hw:IntKind.i64.wrap eO=eO:=wrap_i64 (by omega);cases h2:(resolve aw an eO).2 with
 |false=>simp[h1,h2,hw,hL,hp,ko]
 |true=>
  obtain⟨k,hk,qT,e,b1,b2⟩:=j6 h2;have bb:=hL.base k hk qT;have zz:=hL.sz.elem k qT;have Cz:nth an k=an[k]:=dE qT;have sU:IntKind.i64.wrap (an[k]-(eO-aw[k]))=an[k]-(eO-aw[k]):=wrap_i64 (by omega);by_cases h3:n<0
  ·simp[h1,h2,hw,hL,hp,e,h3,ko]
  by_cases h4:an[k]-(eO-aw[k])<n
  ·simp[h1,h2,hw,hL,hp,e,h3,h4,qT,sU,Cz,ko]
  ·simp[h1,h2,hw,hL,hp,e,h3,h4,qT,sU,Cz,ko]
def kU(code:List Instr)(pc:Int):Instr:=code.getD (pc-1).toNat ⟨0,0,0,0,0⟩
def DU(code:List Instr)(pc:Int):Int:=if 1<=pc/\pc<=code.length/\(kU code pc).op=23 then(kU code pc).eu else-1
def Oa{code:List Instr}(h1:1<=pc/\pc<=code.length)(h2:(kU code pc).op=23):DU code pc=(kU code pc).eu:=by
 unfold DU;rw[if_pos ⟨h1.1,h1.2,h2⟩]
def iI:List UInt8->List Int->Bool
 | [],[]=>true
 |k::ks,t::ts=>Ap k.toNat t&&iI ks ts
 |_,_=>false
def yR(l:List Cell):Prop:= ∀i (h:i<l.length),0<=(l[i]).tag/\0<=(l[i]).val/\(l[i]).val<=65535
def vE(aD an:List Int)(n:Nat)(c:Int)(bp:List Cell):Int:=
 if iI (dh c) ((bp.take (dh c).length).map (·.tag))=false then 6
 else if 0<my c/\((ko aD an (bp.getD 1 ⟨0,0⟩) (bp.getD 2 ⟨0,0⟩).val).2≠0\/16<(bp.getD 2 ⟨0,0⟩).val) then 6
 else if(c=10\/c=12)/\(n:Int)<=(bp.getD 0 ⟨0,0⟩).val then 6 else 0
@[simp]def ah3(di dn db cD gU cu:Int)(bf bT:List Canon)(hc:0<=cu/\cu<=15)(hm:bf.length<=1000000000):bU X 279 [KKZ di dn db cD gU cu bf bT]=some (.bool (iI (dh cu) (bf.map (·.tag)))):=by
 refine aaA ?_;have kz: ∀{k:List UInt8} {l:List Canon},¬k.length=l.length->iI k (l.map (·.tag))=false:=by
  intro k;induction k with
  |nil=>intro l h;cases l with|nil=>exact absurd rfl h|cons _ _=>rfl
  |cons a k ih=>intro l h;cases l with|nil=>rfl|cons b l=>simp[iI,ih (show¬k.length=l.length by simpa using h)]
 by_cases hl:((dh cu).length:Int)=bf.length
 case neg=>
  have h2:=kz (k:=dh cu) (l:=bf) (by omega);simp[hc,hl,h2]
 have Ah:bf.length=(dh cu).length:=by omega
 clear kz;rcases mW hc with rfl|rfl|rfl|rfl|rfl|rfl|rfl|rfl|rfl|rfl|rfl|rfl|rfl|rfl|rfl|rfl;all_goals
  simp[dh]at Ah;try (obtain⟨a,rfl⟩:=RO Ah)
  try (obtain⟨a,b,rfl⟩:=RP Ah)
  try (obtain⟨a,b,c,rfl⟩:=RQ Ah)
  try subst Ah
  simp[dI,dh,iI];try grind
@[simp]def adu(call:Int)(tags:List Int)(hm:tags.length<=1000000000):bU X 230 [call,.sl false (tags.map (V.int .u8))]=some (.bool (decide (0<=call/\call<=15)&&iI (dh call) tags)):=by
 refine aaA ?_;by_cases hc:0<=call/\call<=15
 case neg=>
  simp[hc]
 have EK: ¬(call<0\/15<call):=by omega
 have kz: ∀{k:List UInt8} {l:List Int},¬k.length=l.length->iI k l=false:=by
  intro k;induction k with
  |nil=>intro l h;cases l with|nil=>exact absurd rfl h|cons _ _=>rfl
  |cons a k ih=>intro l h;cases l with|nil=>rfl|cons b l=>simp[iI,ih (show¬k.length=l.length by simpa using h)]
 by_cases hl:(tags.length:Int)=(dh call).length
 case neg=>
  have h2:=kz (k:=dh call) (l:=tags) (by omega);simp[hc,EK,hl,h2]
 have Ah:tags.length=(dh call).length:=by omega
 clear kz;rcases mW hc with rfl|rfl|rfl|rfl|rfl|rfl|rfl|rfl|rfl|rfl|rfl|rfl|rfl|rfl|rfl|rfl;all_goals
  simp[dh]at Ah;try (obtain⟨a,rfl⟩:=RO Ah)
  try (obtain⟨a,b,rfl⟩:=RP Ah)
  try (obtain⟨a,b,c,rfl⟩:=RQ Ah)
  try subst Ah
  simp[dI,dh,iI,Ap];try grind
@[simp]def Gx(ax:List Instr)(ae:List Int)(ay:List (List Int))(iu:Int)(cN:List Cell)(jQ dS da dT jx jy:Int)(hl:ax.length<=1000)(hp:0<=jQ/\jQ<=255):bU X 156 [KKQ ax ae ay,KKg iu cN jQ dS da dT jx jy]=some (.int .i64 (DU ax jQ)):=by
 refine aaA ?_;have w:IntKind.i64.wrap (jQ-1)=jQ-1:=wrap_i64 (by omega);by_cases h1:1<=jQ
 case neg=>
  have uF: ¬0<=jQ-1:=by omega
  simp[w,h1,DU]
 obtain⟨k,hk⟩: ∃k:Nat,jQ-1=k:=⟨(jQ-1).toNat,by omega⟩;by_cases h2:k<ax.length
 case neg=>
  have La: ¬(k:Int)<ax.length:=by omega
  have h2j: ¬jQ<=ax.length:=by omega
  rw[hk]at w;simp[w,h1,h2,La,h2j,hk,DU,kU]
 have La:(k:Int)<ax.length:=by omega
 have h2j:jQ<=ax.length:=by omega
 rw[hk]at w;by_cases h3:(ax[k]).op=23
 ·simp[w,h1,h2,La,h2j,h3,hk,List.getD,DU,kU]
 ·simp[w,h1,h2,La,h2j,h3,hk,List.getD,DU,kU]
def dM(ids:Nat->Nat)(i:Nat)(x:Thread):V:= (KKd x.state (.cx (ids i) 0 x.bp.length) x.pc x.count x.cp x.saved x.dr x.code:V)
def cG(ids:Nat->Nat)(l:List Thread):List V:=l.mapIdx (dM ids)
def fA(ids:Nat->Nat)(l:List Thread):(cG ids l).length=l.length:=by simp[cG]
def fY{l:List Thread}(h:i<l.length)(h':i<(cG ids l).length):(cG ids l)[i]= (KKd (l[i]).state (.cx (ids i) 0 (l[i]).bp.length) (l[i]).pc (l[i]).count (l[i]).cp (l[i]).saved (l[i]).dr (l[i]).code:V):=by
 simp[cG,dM]
def iK{l:List Thread}(h:i<l.length):(cG ids l).set i (dM ids i x)=cG ids (l.set i x):=by
 apply abF;intro j;unfold cG;rw[abN,ack,ack,abN];by_cases hj:i=j
 ·subst hj;simp[h]
 ·rw[if_neg hj,if_neg hj]
def iV(x:Thread)(why:Int):Thread:=⟨4,x.bp,x.pc,x.count,x.cp,x.saved,why,0⟩
@[simp]def ad0(x:V)(why:Int)(h:bh)(k T t:Nat)(w:Int)(ids:Nat->Nat)(ts:List Thread)(hT:h T=some ⟨8,cG ids ts,true⟩)(ht:t<ts.length):cL X 271 [.ptr T t 0,w] h k=some (.int .i64 2,aR h T (some ⟨8,cG ids (ts.set t (iV ts[t] w)),true⟩),k+15):=by
 have hg:=fY (ids:=ids) ht;have jX:=fA ids ts;have lh:=iK (ids:=ids) (x:=iV ts[t] w) ht;obtain⟨v,h',n',e1,e2,e3,e4⟩:=bC (X:=X) (g:=271) (args:=[.ptr T t 0,.int .i64 w]) (h:=h) (k:=k) (K:=fun v h' n'=>v= .int .i64 2/\h'=aR h T (some ⟨8,(cG ids ts).set t (dM ids t (iV ts[t] w)),true⟩)/\n'=k+15) Tryz.func271 rfl rfl (by
  simp[aaE,hT,ht,hg,jX,sy];rfl)
 rw[e1,e2,e3,e4,lh]
def iz(c:Cell):Prop:=(0<=c.tag/\c.tag<=2)/\0<=c.val/\c.val<=65535
def ed(l:List Cell):Prop:= ∀c∈l,iz c
def l4:iz ⟨0,0⟩:=⟨⟨by decide,by decide⟩,by decide,by decide⟩
def ed.at(h:ed l)(hi:i<l.length):iz l[i]:=h _ (aaL hi)
def ed.getD{l:List Cell}(h:ed l)(i:Nat):iz (l.getD i ⟨0,0⟩):=by
 by_cases hi:i<l.length
 ·simp only[List.getD,aaJ hi,abV];exact h.at hi
 ·simp only[List.getD,abI (adY hi),adE];exact l4
def ed.set{l:List Cell}(h:ed l){c:Cell}(hc:iz c)(i:Nat):ed (l.set i c):=by
 intro x hx;rcases aaX hx with hx|rfl
 ·exact h x hx
 ·exact hc
def ed.take{l:List Cell}(h:ed l)(n:Nat):ed (l.take n):=fun x hx=>h x (aaS hx)
def ed.drop{l:List Cell}(h:ed l)(n:Nat):ed (l.drop n):=fun x hx=>h x (abB hx)
def ed.append(h:ed l)(h2:ed r):ed (l++r):=fun x hx=>by
 rcases List.mem_append.1 hx with hx|hx
 ·exact h x hx
 ·exact h2 x hx
def ed.nil:ed []:=fun x hx=>by cases hx
def ed.gm{l:List Cell}(h:ed l):gm l=true:=by
 unfold Go.Proofs.YtdngefmliibcgaaGreat.gm;rw[aaP];intro x hx;have:=(h x hx).1.2;simpa[oA] using this
def ed.Sg(h:ed l):yR l:=fun i hi=>⟨(h.at hi).1.1,(h.at hi).2⟩
def iz.oA{c:Cell}(h:iz c):oA c=true:=by simpa[Go.Proofs.YtdngefmliibcgaaGreat.oA] using h.1.2
def C7(h:gm l=true)(hr:yR l):ed l:=by
 intro x hx;obtain⟨i,hi,rfl⟩:=abE hx;have h1:=List.all_eq_true.1 h _ (aaL hi);have h2:=hr i hi;simp[oA]at h1;exact⟨⟨h2.1,h1⟩,h2.2⟩
structure qi (m:aF):Prop where
 mem:ud m
 cells:ed m.cells
 line: ∀i,ed (dg m i).cells
def A0(c c':List Cell)(l:List cw)(r i:Nat)(x:cw):dg ⟨c,l.set r x⟩ i=if r=i/\r<l.length then x else dg ⟨c',l⟩ i:=by
 unfold dg;simp only[List.getD,abN];by_cases h:r=i
 ·subst h;by_cases h2:r<l.length
  ·simp[h2]
  ·simp[h2]
 ·simp[h]
def qi.back{m:aF}(h:qi m)(r:Nat):ed (kV m r):=by
 unfold kV;split
 ·unfold nm;exact((h.cells.take _).append (h.line r)).append (h.cells.drop _)
 ·exact h.cells
def qi.ad3{m:aF}(h:qi m)(ha:a<512):qi (dx m a):=by
 refine⟨pZ h.mem ha,?_,fun i=> ?_⟩
 ·unfold dx;split
  ·exact h.cells
  ·exact h.back _
 ·unfold dx;split
  ·exact h.line i
  ·rw[A0 _ m.cells];split
   ·exact((h.back _).drop _).take _
   ·exact h.line i
def qi.load{m:aF}(h:qi m)(ha:a<512):iz (m7 m a):=((h.ad3 ha).line _).getD _
def qi.store{m:aF}(h:qi m)(ha:a<512){c:Cell}(hc:iz c):qi (mA m a c):=by
 have hf:=h.ad3 ha;refine⟨GM h.mem ha hc.oA,hf.cells,fun i=> ?_⟩;unfold mA;rw[A0 _ (dx m a).cells];split
 ·exact(hf.line _).set hc _
 ·exact hf.line i
structure ep (c:Int) (x:Thread):Prop where
 state:0<=x.state/\x.state<=4
 bp:x.bp.length=8
 cells:ed x.bp
 pc:0<=x.pc/\x.pc<=255
 count:0<=x.count/\x.count<=c
 cp: -1<=x.cp/\x.cp<=255
 saved: -1<=x.saved/\x.saved<=255
 dr:0<=x.dr/\x.dr<=6
 code:0<=x.code/\x.code<=65535
def ep.mono(h:ep c x)(hd:c<=d):ep d x:=by
 obtain⟨h1,h2,h3,h4,h5,h6,h7,h8,h9⟩:=h;exact⟨h1,h2,h3,h4,⟨h5.1,by omega⟩,h6,h7,h8,h9⟩
def ep.ok(h:ep 1099511627776 x):nX x=true:=by
 obtain⟨h1,h2,h3,h4,h5,h6,h7,h8,h9⟩:=h;unfold nX;rw[h3.gm];simp only[aer,aaF,decide_eq_true_eq];omega
structure cT (p:Prog) (c:Int) (m:aO):Prop where
 prog:rn p
 lay:nW m.layout.aD p.an
 key:0<=m.layout.key/\m.layout.key<=65535
 mem:qi m.memory
 len:m.threads.length=4
 pe: ∀i (h:i<m.threads.length),ep c m.threads[i]
 coh:c<=1000000->Ab (GO m.layout.aD p.an) m.memory
def cT.mono{p:Prog}{c d:Int}{m:aO}(h:cT p c m)(hd:c<=d):cT p d m:=⟨h.prog,h.lay,h.key,h.mem,h.len,fun i hi=>(h.pe i hi).mono hd,fun g=>h.coh (by omega)⟩
def cT.ok{p:Prog}{m:aO}(h:cT p 1099511627776 m):jU p m=true:=by
 unfold jU;simp only[aaF,decide_eq_true_eq];refine⟨zP h.prog,mO.2 h.lay,NN.2 h.mem.mem,h.len,?_⟩;unfold nj;rw[aaP];intro x hx;obtain⟨i,hi,rfl⟩:=abE hx;exact(h.pe i hi).ok
def cT.lens(h:cT p c m):zO m:=by
 have hz:=h.lay.sz.le;have hl:=h.lay.len;have hm:=h.mem.mem.len;have hn:=h.mem.mem.lines;have ht:=h.len;refine⟨by omega,by omega,by omega,fun i hi=> ?_,by omega,fun i hi=> ?_⟩
 ·have:=h.mem.mem.line i hi;by_cases e:(m.memory.lines[i]).tag= -1
  ·rw[(this.none e).2];simp
  ·rw[(this.some e).2.2.2];omega
 ·rw[(h.pe i hi).bp];omega
def rn.lens(h:rn p):BX p:=by
 have:=h.an.le;have:=h.len;have:=h.rp;exact⟨by omega,by omega,by omega⟩
structure As (m:aO):Prop where
 key:0<=m.layout.key/\m.layout.key<=65535
 cells:yR m.memory.cells
 line: ∀i (h:i<m.memory.lines.length),yR (m.memory.lines[i]).cells
 bp: ∀i (h:i<m.threads.length),yR (m.threads[i]).bp
 code: ∀i (h:i<m.threads.length),0<=(m.threads[i]).code/\(m.threads[i]).code<=65535
def yV(hr:As m)(h:jU p m=true):cT p 1099511627776 m:=by
 unfold jU at h;simp only[aaF,decide_eq_true_eq]at h;obtain⟨h1,h2,h3,h4,h5⟩:=h;have hm:=NN.1 h3;refine⟨N7 h1,mO.1 h2,hr.key,⟨hm,C7 hm.cells hr.cells,fun i=> ?_⟩,h4,fun i hi=> ?_,fun g=>by omega⟩
 ·by_cases hi:i<m.memory.lines.length
  ·rw[fJ hi];exact C7 (hm.line i hi).cells (hr.line i hi)
  ·unfold dg;simp only[List.getD,abI (adY hi),adE];exact ed.nil
 ·have:=List.all_eq_true.1 h5 _ (aaL hi);unfold nX at this;simp only[aaF,decide_eq_true_eq]at this;have hc:=hr.code i hi;obtain⟨a1,a2,a3,a4,a5,a6,a7,a8,a9,WE,a11,a12,a13,a14⟩:=this;exact⟨⟨a2,a3⟩,a4,C7 a1 (hr.bp i hi),⟨a5,a6⟩,⟨a7,a8⟩,⟨a9,WE⟩,⟨a11,a12⟩,⟨a13,a14⟩,hc⟩
structure GP (n m:Nat) (i:Instr):Prop where
 op:0<=i.op/\i.op<=24
 a:0<=i.a/\i.a<8
 b:0<=i.b/\i.b<8
 c:0<=i.c/\i.c<8
 eu:0<=i.eu/\i.eu<=65535
 jump:jumps i.op=true->i.eu<n
 lea:i.op=15->i.eu<m
 sys:i.op=23->i.eu<=15
def WG{n m:Nat}{i:Instr}(h:nh i=true)(h2:qp n m i=true):GP n m i:=by
 unfold nh at h;split at h
 ·cases h
 rename_i h1;split at h
 ·cases h
 rename_i ha;split at h
 ·cases h
 rename_i hb;split at h
 ·cases h
 rename_i hc;split at h
 ·cases h
 rename_i hi;unfold qp at h2;simp only[aaF,aaZ,acY,decide_eq_false_iff_not]at h2;refine⟨by omega,by omega,by omega,by omega,by omega,fun hj=> ?_,fun hl=> ?_,fun hs=> ?_⟩
 ·rcases h2.1 with h3|h3
  ·rw[hj]at h3;cases h3
  ·omega
 ·rcases h2.2 with h3|h3
  ·exact absurd hl h3
  ·omega
 ·have hj: ¬jumps i.op=true:=by rw[hs];decide
  rw[if_neg hj,if_neg (by omega),if_pos hs]at h;simpa using h
def rn.A3(h:rn p)(hk:k<p.code.length):GP p.code.length p.an.length p.code[k]:=WG (h.ap3 k hk) (h.range k hk)
def qL(n:Int):0<=IntKind.u16.wrap n/\IntKind.u16.wrap n<=65535:=by
 simp only[IntKind.wrap,IntKind.signed,IntKind.bits,acF];simp;omega
def GQ(n:Int):iz ⟨0,IntKind.u16.wrap n⟩:=⟨⟨by simp,by simp⟩,qL n⟩
def sJ(hL:nW aD an){p:Cell}{back:Bool}(h:(jM aD an p n back).2=0): ∃a:Nat,(jM aD an p n back).1=⟨1,(a:Int)⟩/\a<512:=by
 by_cases h1:p.tag=1
 case neg=>rw[wz h1]at h;cases h
 cases h2:(resolve aD an p.val).2 with
 |false=>rw[tJ h1 h2]at h;cases h
 |true=>
  obtain⟨k,hk,qT,e,b1,b2⟩:=j6 h2;have em:=wA (n:=n) (back:=back) h1 h2 e;have bb:=hL.base k hk qT;have zz:=hL.sz.elem k qT;rw[em]at h⊢;have Cz:nth aD k=aD[k]:=dE hk;by_cases hi:inside an k (if back=true then p.val-aD[k]-n else p.val-aD[k]+n)=true
  ·obtain⟨k',yc,ek,o1,o2⟩:=lj.1 hi;have ek':k=k':=by omega
   subst ek';rw[if_pos hi,Cz];refine⟨(aD[k]+(if back=true then p.val-aD[k]-n else p.val-aD[k]+n)).toNat,?_,by omega⟩;simp only[Cell.mk.injEq,true_and];omega
  ·rw[if_neg hi]at h;exact absurd h (by simp)
def Oh: ∀(bs zs:List Int) (k:Nat) (o:Int) (r:Nat) (hk:k<bs.length) (qT:k<zs.length),0<=o->o<zs[k]->(∀j (h:j<bs.length) (h':j<zs.length),j≠k->bs[j]+zs[j]<bs[k]\/bs[k]+zs[k]<bs[j])->(∀j (h':j<zs.length),1<=zs[j])->rQ bs zs (bs[k]+o) r=(⟨((r+k:Nat):Int),o⟩,true)
 | [],zs,k,o,r,hk,_,_,_,_,_=>by simp at hk
 |b::bs,[],k,o,r,_,qT,_,_,_,_=>by simp at qT
 |b::bs,z::zs,0,o,r,_,_,h0,h1,_,_=>by
  simp only[acB]at h1⊢;unfold rQ;rw[if_pos (by omega)];simp;omega
 |b::bs,z::zs,k+1,o,r,hk,qT,h0,h1,ha,hz=>by
  simp only[acU]at h1⊢;have hkl:k<bs.length:=by simpa using hk
  have bar:k<zs.length:=by simpa using qT
  have h:=ha 0 (by simp) (by simp) (by omega);simp only[acB,acU]at h;unfold rQ;rw[if_neg (by omega),Oh bs zs k o (r+1) hkl bar h0 h1 (fun j hj BB kz=>by
   have:=ha (j+1) (by simp;omega) (by simp;omega) (by omega);simpa using this) (fun j hj=>by have:=hz (j+1) (by simp;omega);simpa using this)]
  simp only[bM,BI.mk.injEq,and_true];omega
def GR(hL:nW aD an)(hk:k<aD.length)(qT:k<an.length)(h0:0<=o)(h1:o<an[k]):resolve aD an (aD[k]+o)=(⟨(k:Int),o⟩,true):=by
 unfold resolve;rw[Oh aD an k o 0 hk qT h0 h1 (fun j h h' kz=>hL.apart j k h h' hk qT kz) (fun j h=>(hL.sz.elem j h).1)];simp
def WH(hL:nW aD an){p:Cell}{back:Bool}(h:(jM aD an p n back).2=0):(resolve aD an (jM aD an p n back).1.val).2=true:=by
 by_cases h1:p.tag=1
 case neg=>rw[wz h1]at h;cases h
 cases h2:(resolve aD an p.val).2 with
 |false=>rw[tJ h1 h2]at h;cases h
 |true=>
  obtain⟨k,hk,qT,e,b1,b2⟩:=j6 h2;have em:=wA (n:=n) (back:=back) h1 h2 e;rw[em]at h⊢;by_cases hi:inside an k (if back=true then p.val-aD[k]-n else p.val-aD[k]+n)=true
  ·obtain⟨k',yc,ek,o1,o2⟩:=lj.1 hi;have ek':k=k':=by omega
   subst ek';rw[if_pos hi,dE hk];simp only;rw[GR hL hk yc o1 o2]
  ·rw[if_neg hi]at h;exact absurd h (by simp)
def A4(aD an:List Int)(p:Cell)(n:Int)(back:Bool):0<=(jM aD an p n back).2/\(jM aD an p n back).2<=6:=by
 by_cases h1:p.tag=1
 case neg=>rw[wz h1];decide
 cases h2:(resolve aD an p.val).2 with
 |false=>rw[tJ h1 h2];decide
 |true=>
  obtain⟨k,hk,qT,e,b1,b2⟩:=j6 h2;rw[wA (n:=n) (back:=back) h1 h2 e];by_cases hi:inside an k (if back=true then p.val-aD[k]-n else p.val-aD[k]+n)=true
  ·rw[if_pos hi];simp
  ·rw[if_neg hi];simp
def C8(op:BinOp)(a b:Int):0<=Go.Abs.bits .u16 op a b/\Go.Abs.bits .u16 op a b<=65535:=by
 unfold Go.Abs.bits;split<;>exact qL _
def ald(hb:0<=b/\b<=65535)(hc:0<=c/\c<=65535):iz (AX op b c).1/\0<=(AX op b c).2/\(AX op b c).2<=6:=by
 have z: ∀t:Int,0<=t/\t<=6->iz ((⟨0,0⟩:Cell),t).1/\0<=((⟨0,0⟩:Cell),t).2/\((⟨0,0⟩:Cell),t).2<=6:=fun t h=>⟨l4,h⟩;have w: ∀n:Int,iz ((⟨0,IntKind.u16.wrap n⟩:Cell),(0:Int)).1/\0<=((⟨0,IntKind.u16.wrap n⟩:Cell),(0:Int)).2/\((⟨0,IntKind.u16.wrap n⟩:Cell),(0:Int)).2<=6:=fun n=>⟨GQ n,by simp⟩;have w2: ∀n:Int,0<=n/\n<=65535->iz ((⟨0,n⟩:Cell),(0:Int)).1/\0<=((⟨0,n⟩:Cell),(0:Int)).2/\((⟨0,n⟩:Cell),(0:Int)).2<=6:=fun n hn=>⟨⟨⟨by simp,by simp⟩,hn⟩,by simp⟩;unfold AX;split
 ·exact w _
 split
 ·exact w _
 split
 ·exact w _
 split
 ·split
  ·exact z _ (by omega)
  ·exact w _
 split
 ·split
  ·exact z _ (by omega)
  ·refine w2 _ ?_;have h1:=aeY c hb.1;have h2:b.tmod c<=b:=by
    rw[aaK hb.1];rcases Int.lt_or_le b c with h|h
    ·rw[Int.emod_eq_of_lt hb.1 h];omega
    ·have:=abW b (show 0<c by omega);omega
   omega
 split
 ·exact w2 _ (C8 ..)
 split
 ·exact w2 _ (C8 ..)
 split
 ·exact w2 _ (C8 ..)
 split
 ·exact w _
 split
 ·refine w2 _ ?_;have hp:(0:Int)<2^ (min (c.tmod 16).toNat 16):=Int.pow_pos (by omega);rw[Int.fdiv_eq_ediv_of_nonneg _ (by omega)];have h1:0<=b/2^ (min (c.tmod 16).toNat 16):=aeX hb.1 (by omega);have h2:b/2^ (min (c.tmod 16).toNat 16)<=b:=aeP _ hb.1;omega
 ·split
  ·exact⟨⟨⟨by simp,by simp⟩,by simp⟩,by simp⟩
  ·exact z 0 (by omega)
def Sh(hL:nW aD an)(p:Cell)(n:Int)(back:Bool):iz (jM aD an p n back).1:=by
 by_cases h:(jM aD an p n back).2=0
 ·obtain⟨a,e,ha⟩:=sJ hL h;rw[e];exact⟨⟨by simp,by simp⟩,by simp only;omega⟩
 ·have:(jM aD an p n back).1=⟨0,0⟩:=by
   by_cases h1:p.tag=1
   case neg=>rw[wz h1]
   cases h2:(resolve aD an p.val).2 with
   |false=>rw[tJ h1 h2]
   |true=>
    obtain⟨k,hk,qT,e,b1,b2⟩:=j6 h2;rw[wA (n:=n) (back:=back) h1 h2 e]at h⊢;by_cases hi:inside an k (if back=true then p.val-aD[k]-n else p.val-aD[k]+n)=true
    ·rw[if_pos hi]at h;exact absurd rfl h
    ·rw[if_neg hi]
  rw[this];exact l4
def ad4(hL:nW aD an){b c:Cell}(hb:iz b)(hc:iz c):iz (qU aD an op b c).1/\0<=(qU aD an op b c).2/\(qU aD an op b c).2<=6:=by
 have mv: ∀p n back,iz (jM aD an p n back).1/\0<=(jM aD an p n back).2/\(jM aD an p n back).2<=6:=fun p n back=>⟨Sh hL p n back,A4 ..⟩;have one:iz (⟨0,1⟩:Cell):=⟨⟨by simp,by simp⟩,by simp⟩;unfold qU;split
 ·exact⟨l4,by simp⟩
 split
 ·refine⟨?_,by simp⟩;simp only;split
  ·exact one
  ·exact l4
 split
 ·exact ald hb.2 hc.2
 split
 ·exact mv ..
 split
 ·exact mv ..
 split
 ·exact mv ..
 split
 ·split
  ·exact⟨l4,by simp⟩
  ·split
   ·refine⟨?_,by simp⟩;simp only;split
    ·exact one
    ·exact l4
   ·exact⟨GQ _,by simp⟩
 ·exact⟨l4,by simp⟩
def qM:Instr:=⟨0,0,0,0,0⟩
def vS(x:Thread)(pc:Int)(bp:List Cell):Thread:=⟨x.state,bp,pc,x.count,x.cp,x.saved,x.dr,x.code⟩
def mP(x:Thread)(pc:Int)(bp:List Cell)(saved:Int):Thread:=⟨x.state,bp,pc,x.count+1,x.cp,saved,x.dr,x.code⟩
def uV(x:Thread):Thread:=⟨2,x.bp,x.pc+1,x.count,x.cp,x.saved,x.dr,x.code⟩
def iZ(m:aO)(mem:aF)(t:Nat)(x:Thread):aO:=⟨m.layout,mem,m.threads.set t x⟩
def ky(x:Thread)(a:Int):Cell:=x.bp.getD a.toNat ⟨0,0⟩
def GS(x:Thread)(a:Int)(c:Cell):List Cell:=x.bp.set a.toNat c
def iU(p:Prog)(m:aO)(x:Thread)(i:Instr):aF×Thread×Int:=
 if i.op=23 then(m.memory,uV x,1)
 else if i.op=0 then(m.memory,vS x (x.pc+1) x.bp, -1)
 else if i.op=1 then(m.memory,vS x (x.pc+1) (GS x i.a ⟨0,i.eu⟩), -1)
 else if i.op=2 then(m.memory,vS x (x.pc+1) (GS x i.a (ky x i.b)), -1)
 else if i.op=15 then(m.memory,vS x (x.pc+1) (GS x i.a ⟨1,nth m.layout.aD i.eu.toNat⟩), -1)
 else if i.op=16 then
  if(jM m.layout.aD p.an (ky x i.b) i.eu false).2=0 then
   (dx m.memory (jM m.layout.aD p.an (ky x i.b) i.eu false).1.val.toNat,
    vS x (x.pc+1) (GS x i.a (m7 m.memory (jM m.layout.aD p.an (ky x i.b) i.eu false).1.val.toNat)), -1)
  else(m.memory,iV x (jM m.layout.aD p.an (ky x i.b) i.eu false).2,2)
 else if i.op=17 then
  if(jM m.layout.aD p.an (ky x i.a) i.eu false).2=0 then
   (mA m.memory (jM m.layout.aD p.an (ky x i.a) i.eu false).1.val.toNat (ky x i.b),vS x (x.pc+1) x.bp, -1)
  else(m.memory,iV x (jM m.layout.aD p.an (ky x i.a) i.eu false).2,2)
 else if i.op=18 then(m.memory,mP x i.eu x.bp x.saved, -1)
 else if i.op=19 then
  if(ky x i.a).tag=0 then(m.memory,mP x (if(ky x i.a).val=0 then i.eu else x.pc+1) x.bp x.saved, -1) else(m.memory,iV x 3,2)
 else if i.op=20 then
  if(ky x i.a).tag=0 then(m.memory,mP x (if(ky x i.a).val=0 then x.pc+1 else i.eu) x.bp x.saved, -1) else(m.memory,iV x 3,2)
 else if i.op=21 then(m.memory,mP x i.eu (GS x i.a ⟨0,x.pc+1⟩) x.saved, -1)
 else if i.op=22 then
  if(ky x i.a).tag=0 then
   if 255<(ky x i.a).val then(m.memory,iV x 2,2) else(m.memory,mP x (ky x i.a).val x.bp x.saved, -1)
  else(m.memory,iV x 3,2)
 else if i.op=24 then
  if x.saved= -1 then(m.memory,iV x 1,2) else(m.memory,mP x x.saved x.bp (-1), -1)
 else if(qU m.layout.aD p.an i.op (ky x i.b) (ky x i.c)).2=0 then
  (m.memory,vS x (x.pc+1) (GS x i.a (qU m.layout.aD p.an i.op (ky x i.b) (ky x i.c)).1), -1)
 else(m.memory,iV x (qU m.layout.aD p.an i.op (ky x i.b) (ky x i.c)).2,2)
def nn(p:Prog)(m:aO)(x:Thread):aF×Thread×Int:=
 if x.pc<p.code.length then iU p m x (p.code.getD x.pc.toNat qM) else(m.memory,iV x 2,2)
def lz(p:Prog)(m:aO)(t:Nat):aO×Int:=
 (iZ m (nn p m (m.threads.getD t cn)).1 t (nn p m (m.threads.getD t cn)).2.1,(nn p m (m.threads.getD t cn)).2.2)
def j9(p:Prog)(t:Nat)(upto:Int):Nat->aO->aO×Int
 |0,m=>(m,0)
 |k+1,m=>if(lz p m t).2= -1 then
   if((lz p m t).1.threads.getD t cn).count=upto then((lz p m t).1,0) else j9 p t upto k (lz p m t).1
  else lz p m t
def dQ(p:Prog)(m:aO)(t:Nat)(n:Int):aO×Int:=
 if(m.threads.getD t cn).state=1 then j9 p t ((m.threads.getD t cn).count+n) 20000 m else(m,3)
structure nH (c:Int) (x:Thread) (r:aF×Thread×Int):Prop where
 mem:qi r.1
 pe:ep (c+1) r.2.1
 stop:r.2.2= -1\/r.2.2=1\/r.2.2=2
 ale:r.2.2= -1->r.2.1.state=x.state/\((r.2.1.count=x.count+1)\/(r.2.1.count=x.count/\r.2.1.pc=x.pc+1))
 calls:r.2.2=1->r.2.1=uV x
 ap7:r.2.2=2->r.2.1.state=4/\r.2.1.count=x.count
def at7(h:ep c x)(Cn:0<=pc/\pc<=255)(hl:bp.length=8)(hr:ed bp):ep (c+1) (vS x pc bp):=
 ⟨h.state,hl,hr,Cn,⟨h.count.1,by have:=h.count.2;simp only[vS];omega⟩,h.cp,h.saved,h.dr,h.code⟩
def ad5(h:ep c x)(Cn:0<=pc/\pc<=255)(hl:bp.length=8)(hr:ed bp)(hs: -1<=saved/\saved<=255):ep (c+1) (mP x pc bp saved):=
 ⟨h.state,hl,hr,Cn,by have:=h.count;simp only[mP];omega,h.cp,hs,h.dr,h.code⟩
def ad6(h:ep c x)(hw:0<=w/\w<=6):ep (c+1) (iV x w):=
 ⟨by simp[iV],h.bp,h.cells,h.pc,by have:=h.count;simp only[iV];omega,h.cp,h.saved,hw,by simp[iV]⟩
def ad7(h:ep c x)(Cn:x.pc<=254):ep (c+1) (uV x):=
 ⟨by simp[uV],h.bp,h.cells,by have:=h.pc;simp only[uV];omega,by have:=h.count;simp only[uV];omega,h.cp,h.saved,h.dr,h.code⟩
def zQ(h:ep c x){a:Int}{v:Cell}(hv:iz v):(GS x a v).length=8/\ed (GS x a v):=
 ⟨by simp[GS,h.bp],h.cells.set hv _⟩
def ke(h:ep c x)(a:Int):iz (ky x a):=h.cells.getD _
def uk(h:ep c x){m:aF}(hm:qi m)(Cn:x.pc<=254)(hr:bp.length=8/\ed bp):nH c x (m,vS x (x.pc+1) bp, -1):=
 ⟨hm,at7 h (by have:=h.pc;omega) hr.1 hr.2,.inl rfl,fun _=>⟨rfl,.inr ⟨rfl,rfl⟩⟩,fun h=>by simp at h,fun h=>by simp at h⟩
def sj(h:ep c x){m:aF}(hm:qi m)(Cn:0<=pc/\pc<=255)(hr:bp.length=8/\ed bp)(hs: -1<=saved/\saved<=255):nH c x (m,mP x pc bp saved, -1):=
 ⟨hm,ad5 h Cn hr.1 hr.2 hs,.inl rfl,fun _=>⟨rfl,.inl rfl⟩,fun h=>by simp at h,fun h=>by simp at h⟩
def oq(h:ep c x){m:aF}(hm:qi m)(hw:0<=w/\w<=6):nH c x (m,iV x w,2):=
 ⟨hm,ad6 h hw,.inr (.inr rfl),fun h=>by simp at h,fun h=>by simp at h,fun _=>⟨rfl,rfl⟩⟩
def qy{α:Type}{P:α->Prop}{c:Prop}[Decidable c]{a b:α}(h1:c->P a)(h2: ¬c->P b):P (if c then a else b):=by
 by_cases h:c
 ·rw[if_pos h];exact h1 h
 ·rw[if_neg h];exact h2 h
def alf(H:cT p d m)(hx:ep c x){i:Instr}(hi:GP p.code.length p.an.length i)(Cn:x.pc<p.code.length):nH c x (iU p m x i):=by
 have h64:=H.prog.rp;have hp:x.pc<=254:=by omega
 have hm:=H.mem;have hr:x.bp.length=8/\ed x.bp:=⟨hx.bp,hx.cells⟩;have him:=hi.eu;unfold iU;refine qy (P:=nH c x) (fun TC=> ?_) fun _=> ?_
 ·exact⟨hm,ad7 hx hp,.inr (.inl rfl),fun h=>by simp at h,fun _=>rfl,fun h=>by simp at h⟩
 refine qy (P:=nH c x) (fun h=> ?_) fun _=> ?_
 ·exact uk hx hm hp hr
 refine qy (P:=nH c x) (fun h=> ?_) fun _=> ?_
 ·exact uk hx hm hp (zQ hx ⟨⟨by simp,by simp⟩,him⟩)
 refine qy (P:=nH c x) (fun h=> ?_) fun _=> ?_
 ·exact uk hx hm hp (zQ hx (ke hx _))
 refine qy (P:=nH c x) (fun h15=> ?_) fun _=> ?_
 ·refine uk hx hm hp (zQ hx ⟨⟨by simp,by simp⟩,?_⟩);have hl:=hi.lea h15;have hlen:=H.lay.len;have h1:i.eu.toNat<m.layout.aD.length:=by omega
  have h2:i.eu.toNat<p.an.length:=by omega
  rw[dE h1];have:=H.lay.base _ h1 h2;have:=H.lay.sz.elem _ h2;simp only;omega
 refine qy (P:=nH c x) (fun h=> ?_) fun _=> ?_
 ·refine qy (P:=nH c x) (fun h0=> ?_) fun _=> ?_
  ·obtain⟨a,e,ha⟩:=sJ H.lay h0;rw[e];exact uk hx (hm.ad3 (by simpa using ha)) hp (zQ hx (hm.load (by simpa using ha)))
  ·exact oq hx hm (A4 ..)
 refine qy (P:=nH c x) (fun h=> ?_) fun _=> ?_
 ·refine qy (P:=nH c x) (fun h0=> ?_) fun _=> ?_
  ·obtain⟨a,e,ha⟩:=sJ H.lay h0;rw[e];exact uk hx (hm.store (by simpa using ha) (ke hx _)) hp hr
  ·exact oq hx hm (A4 ..)
 refine qy (P:=nH c x) (fun ho=> ?_) fun _=> ?_
 ·have:=hi.jump (by rw[ho];decide);exact sj hx hm (by omega) hr hx.saved
 refine qy (P:=nH c x) (fun ho=> ?_) fun _=> ?_
 ·have:=hi.jump (by rw[ho];decide);have:=hx.pc;refine qy (P:=nH c x) (fun h=> ?_) fun _=> ?_
  ·exact sj hx hm (by split<;>omega) hr hx.saved
  ·exact oq hx hm (by omega)
 refine qy (P:=nH c x) (fun ho=> ?_) fun _=> ?_
 ·have:=hi.jump (by rw[ho];decide);have:=hx.pc;refine qy (P:=nH c x) (fun h=> ?_) fun _=> ?_
  ·exact sj hx hm (by split<;>omega) hr hx.saved
  ·exact oq hx hm (by omega)
 refine qy (P:=nH c x) (fun ho=> ?_) fun _=> ?_
 ·have:=hi.jump (by rw[ho];decide);have:=hx.pc;exact sj hx hm (by omega) (zQ hx ⟨⟨by simp,by simp⟩,by simp only;omega⟩) hx.saved
 refine qy (P:=nH c x) (fun ho=> ?_) fun _=> ?_
 ·refine qy (P:=nH c x) (fun h=> ?_) fun _=> ?_
  ·refine qy (P:=nH c x) (fun h=> ?_) fun _=> ?_
   ·exact oq hx hm (by omega)
   ·have:=(ke hx i.a).2;exact sj hx hm (by omega) hr hx.saved
  ·exact oq hx hm (by omega)
 refine qy (P:=nH c x) (fun ho=> ?_) fun _=> ?_
 ·refine qy (P:=nH c x) (fun h=> ?_) fun _=> ?_
  ·exact oq hx hm (by omega)
  ·have:=hx.saved;exact sj hx hm (by omega) hr (by omega)
 refine qy (P:=nH c x) (fun ho=> ?_) fun _=> ?_
 ·exact uk hx hm hp (zQ hx (ad4 H.lay (ke hx _) (ke hx _)).1)
 ·exact oq hx hm (ad4 H.lay (ke hx _) (ke hx _)).2
def yW(H:cT p d m)(hx:ep c x):nH c x (nn p m x):=by
 unfold nn;split
 ·rename_i h;have hk:x.pc.toNat<p.code.length:=by have:=hx.pc;omega
  have e:p.code.getD x.pc.toNat qM=p.code[x.pc.toNat]:=by simp[List.getD,hk]
  rw[e];exact alf H hx (H.prog.A3 hk) h
 ·exact oq hx H.mem (by omega)
def ad8(h:t<m.threads.length):m.threads.getD t cn=m.threads[t]:=by simp[List.getD,h]
def ad9(H:cT p d m)(hC:Ab (GO m.layout.aD p.an) m.memory)(x:Thread)(i:Instr):Ab (GO m.layout.aD p.an) (iU p m x i).1:=by
 have fe: ∀c:Cell,(jM m.layout.aD p.an c i.eu false).2=0->(jM m.layout.aD p.an c i.eu false).1.val.toNat<512/\ ¬GO m.layout.aD p.an (jM m.layout.aD p.an c i.eu false).1.val.toNat:=fun c h=>by
  obtain⟨a,e,ha⟩:=sJ H.lay h;have r:=WH H.lay h;rw[e]at r⊢;simp only[aaH]at r⊢;exact⟨ha,fun g=>by unfold GO at g;rw[g]at r;cases r⟩
 unfold iU;repeat' (refine qy (P:=fun r:aF×Thread×Int=>Ab (GO m.layout.aD p.an) r.1) (fun h=> ?_) fun h=> ?_)
 all_goals first
  |exact hC
  |exact JY H.mem.mem hC (fe _ h).1
  |exact JZ H.mem.mem hC (fe _ h).1 (fe _ h).2 _
def WI(H:cT p d m)(hC:Ab (GO m.layout.aD p.an) m.memory)(x:Thread):Ab (GO m.layout.aD p.an) (nn p m x).1:=by
 unfold nn;split
 ·exact ad9 H hC x _
 ·exact hC
def uW(H:cT p c m)(hcd:c<=d){mem:aF}(hm:qi mem)(hk:d<=1000000->Ab (GO m.layout.aD p.an) mem)(hx:ep d x):cT p d (iZ m mem t x):=by
 refine⟨H.prog,H.lay,H.key,hm,by simp[iZ,H.len],fun i hi=> ?_,hk⟩;simp only[iZ,aaN]at hi;simp only[iZ,abA];split
 ·exact hx
 ·exact(H.pe i hi).mono hcd
end Go.Proofs.YtdngefmliibcgaaGreat
