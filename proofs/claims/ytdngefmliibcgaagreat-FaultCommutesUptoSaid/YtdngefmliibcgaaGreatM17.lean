/- Part of a proof: S6. -/
import Derived.Test.YtdngefmliibcgaaGreatM15
import Derived.Test.YtdngefmliibcgaaGreatM16
set_option linter.all false
set_option maxRecDepth 20000
set_option maxHeartbeats 20000000
namespace Go.Proofs.YtdngefmliibcgaaGreat
open Go Go.Abs Go.Abs.kX Qf
variable  {aD an:List Int}{a k i t:Nat}{p:Prog}{n o pc c d op b saved w:Int}{ids:Nat->Nat}{l r bz:List Cell}{x:Thread}{m:aO}
def ND: ∀(bs zs:List Int) (a:Int) (r:Nat),(rQ bs zs a r).2=true-> ∃k,∃(h:k<bs.length) (h':k<zs.length),(rQ bs zs a r).1=⟨((r+k:Nat):Int),a-bs[k]⟩/\bs[k]<=a/\a<bs[k]+zs[k]
 | [],_,_,_,h=>by simp[rQ]at h
 |_::_,[],_,_,h=>by simp[rQ]at h
 |b::bs,z::zs,a,r,h=>by
  unfold rQ at h⊢;split at h
  ·rename_i hc;rw[if_pos hc];exact⟨0,by simp,by simp,by simp,hc.1,hc.2⟩
  ·rename_i hc;rw[if_neg hc];obtain⟨k,h1,h2,e,h3,h4⟩:=ND bs zs a (r+1) h;refine⟨k+1,by simpa using h1,by simpa using h2,?_,by simpa using h3,by simpa using h4⟩;rw[e];simp only[acR,BC.mk.injEq,and_true];omega
def jY{a:Int}(h:(resolve aD an a).2=true): ∃k,∃(h:k<aD.length) (h':k<an.length),(resolve aD an a).1=⟨(k:Int),a-aD[k]⟩/\aD[k]<=a/\a<aD[k]+an[k]:=by
 obtain⟨k,h1,h2,e,h3⟩:=ND _ _ _ _ h;exact⟨k,h1,h2,by simpa[resolve] using e,h3⟩
def jL(aD an:List Int)(p:Cell)(n:Int)(back:Bool):Cell×Int:=
 if p.tag=1 then
  if(resolve aD an p.val).2=true then
   if inside an (resolve aD an p.val).1.region (if back=true then(resolve aD an p.val).1.offset-n else(resolve aD an p.val).1.offset+n)=true then
    (⟨1,nth aD (resolve aD an p.val).1.region.toNat+(if back=true then(resolve aD an p.val).1.offset-n else(resolve aD an p.val).1.offset+n)⟩,0)
   else(⟨0,0⟩,4)
  else(⟨0,0⟩,4)
 else(⟨0,0⟩,3)
def wo{p:Cell}{back:Bool}(h: ¬p.tag=1):jL aD an p n back=(⟨0,0⟩,3):=by unfold jL;rw[if_neg h]
def tI{p:Cell}{back:Bool}(h:p.tag=1)(h2:(resolve aD an p.val).2=false):jL aD an p n back=(⟨0,0⟩,4):=by
 unfold jL;rw[if_pos h,if_neg (by simp[h2])]
def wq{p:Cell}{back:Bool}(h:p.tag=1)(h2:(resolve aD an p.val).2=true)(e:(resolve aD an p.val).1=⟨(k:Int),o⟩):
  jL aD an p n back=if inside an k (if back=true then o-n else o+n)=true then(⟨1,nth aD k+(if back=true then o-n else o+n)⟩,0) else(⟨0,0⟩,4):=by
 unfold jL;rw[if_pos h,if_pos h2,e];simp
@[simp]def aka(aw:List Int)(bK:Int)(an:List Int)(pb eO n:Int)(back:Bool)(hL:ov aw an)(hp:0<=eO/\eO<=65535)(hn:0<=n/\n<=65535):bW X 272 [KKc aw bK,.sl false (an.map (V.int .i64)),KKo pb eO,.int .u16 n,.bool back]=some (.dM [KKf ((jL aw an (Cell.mk pb eO) n back).1),.int .i64 ((jL aw an (Cell.mk pb eO) n back).2)]):=by
 refine aaA ?_;by_cases h1:pb=1
 case neg=>
  have e:=wo (aD:=aw) (an:=an) (p:=(Cell.mk pb eO)) (n:=n) (back:=back) h1;simp[h1,e]
 subst h1;have hw:IntKind.i64.wrap eO=eO:=wrap_i64 (by omega);have qM:IntKind.i64.wrap n=n:=wrap_i64 (by omega);cases h2:(resolve aw an eO).2 with
 |false=>
  have e:=tI (aD:=aw) (an:=an) (p:=⟨1,eO⟩) (n:=n) (back:=back) rfl h2;simp[h2,hw,hL,hp,e]
 |true=>
  obtain⟨k,hk,qT,e,b1,b2⟩:=jY h2;have em:=wq (aD:=aw) (an:=an) (p:=⟨1,eO⟩) (n:=n) (back:=back) rfl h2 e;have bb:=hL.base k hk qT;have zz:=hL.sz.elem k qT;have tz:IntKind.i64.wrap (eO-aw[k]-n)=eO-aw[k]-n:=wrap_i64 (by omega);have Ht:IntKind.i64.wrap (eO-aw[k]+n)=eO-aw[k]+n:=wrap_i64 (by omega);have Cr:nth aw k=aw[k]:=dC hk;cases back with
  |true=>
   simp only[if_true]at em;by_cases hi:inside an k (eO-aw[k]-n)=true
   ·have:=(ld.1 hi);obtain⟨k',xX,ek,o1,o2⟩:=this;have ek':k=k':=by omega
    subst ek';have hw3:IntKind.i64.wrap (aw[k]+(eO-aw[k]-n))=aw[k]+(eO-aw[k]-n):=wrap_i64 (by omega);have V9:IntKind.u16.wrap (aw[k]+(eO-aw[k]-n))=aw[k]+(eO-aw[k]-n):=wrap_u16 (by omega);rw[if_pos hi,Cr]at em;simp[h2,hw,qM,hL,hp,e,em,hi,tz,hw3,V9,hk]
   ·rw[if_neg hi]at em;simp[h2,hw,qM,hL,hp,e,em,hi,tz]
  |false=>
   simp only[aaM,if_false]at em;by_cases hi:inside an k (eO-aw[k]+n)=true
   ·have:=(ld.1 hi);obtain⟨k',xX,ek,o1,o2⟩:=this;have ek':k=k':=by omega
    subst ek';have hw3:IntKind.i64.wrap (aw[k]+(eO-aw[k]+n))=aw[k]+(eO-aw[k]+n):=wrap_i64 (by omega);have V9:IntKind.u16.wrap (aw[k]+(eO-aw[k]+n))=aw[k]+(eO-aw[k]+n):=wrap_u16 (by omega);rw[if_pos hi,Cr]at em;simp[h2,hw,qM,hL,hp,e,em,hi,Ht,hw3,V9,hk]
   ·rw[if_neg hi]at em;simp[h2,hw,qM,hL,hp,e,em,hi,Ht]
@[simp]def asw(aw:List Int)(bK:Int)(an:List Int)(pb eO n:Int)(back:Bool)(hL:ov aw an)(hp:0<=eO/\eO<=65535)(hn:0<=n/\n<=65535):bW X 291 [KKc aw bK,.sl false (an.map (V.int .i64)),KKo pb eO,.int .u16 n,.bool back]=some (.dM [KKf ((jL aw an (Cell.mk pb eO) n back).1),.int .i64 ((jL aw an (Cell.mk pb eO) n back).2)]):=by
 refine aaA ?_;by_cases h1:pb=1
 case neg=>
  have e:=wo (aD:=aw) (an:=an) (p:=(Cell.mk pb eO)) (n:=n) (back:=back) h1;simp[h1,e]
 subst h1;have hw:IntKind.i64.wrap eO=eO:=wrap_i64 (by omega);have qM:IntKind.i64.wrap n=n:=wrap_i64 (by omega);have hwm:IntKind.i64.wrap (0-n)= -n:=by rw[wrap_i64 (by omega)];omega
 have azl:IntKind.i64.wrap (-n)= -n:=wrap_i64 (by omega);cases h2:(resolve aw an eO).2 with
 |false=>
  have e:=tI (aD:=aw) (an:=an) (p:=⟨1,eO⟩) (n:=n) (back:=back) rfl h2;simp[h2,hw,hL,hp,e]
 |true=>
  obtain⟨k,hk,qT,e,b1,b2⟩:=jY h2;have em:=wq (aD:=aw) (an:=an) (p:=⟨1,eO⟩) (n:=n) (back:=back) rfl h2 e;have bb:=hL.base k hk qT;have zz:=hL.sz.elem k qT;have hlen:=hL.len;have H8: ∀i (h:i<aw.length), -1000<=aw[i]/\aw[i]<=1000:=fun i h=>by
   have:=hL.base i h (by omega);have:=hL.sz.elem i (by omega);omega
  have hzz: ∀i (h:i<an.length),an[i]<=1000:=fun i h=>by
   have:=hL.sz.elem i h;omega
  have en:eO-aw[k]+ -n=eO-aw[k]-n:=by omega
  have tz:IntKind.i64.wrap (eO-aw[k]+ -n)=eO-aw[k]-n:=by rw[wrap_i64 (by omega)];omega
  have Ht:IntKind.i64.wrap (eO-aw[k]+n)=eO-aw[k]+n:=wrap_i64 (by omega);have Cr:nth aw k=aw[k]:=dC hk;cases back with
  |true=>
   simp only[if_true]at em;by_cases hi:inside an k (eO-aw[k]-n)=true
   ·have:=(ld.1 hi);obtain⟨k',xX,ek,o1,o2⟩:=this;have ek':k=k':=by omega
    subst ek';have V9:IntKind.u16.wrap (aw[k]+(eO-aw[k]-n))=aw[k]+(eO-aw[k]-n):=wrap_u16 (by omega);rw[if_pos hi,Cr]at em;simp[h2,hw,qM,azl,hL,hp,e,em,hi,tz,V9,hlen,H8,hzz,Cr]
   ·rw[if_neg hi]at em;simp[h2,hw,qM,azl,hL,hp,e,em,hi,tz,hlen,H8,hzz]
  |false=>
   simp only[aaM,if_false]at em;by_cases hi:inside an k (eO-aw[k]+n)=true
   ·have:=(ld.1 hi);obtain⟨k',xX,ek,o1,o2⟩:=this;have ek':k=k':=by omega
    subst ek';have V9:IntKind.u16.wrap (aw[k]+(eO-aw[k]+n))=aw[k]+(eO-aw[k]+n):=wrap_u16 (by omega);rw[if_pos hi,Cr]at em;simp[h2,hw,qM,hL,hp,e,em,hi,Ht,V9,hlen,H8,hzz,Cr]
   ·rw[if_neg hi]at em;simp[h2,hw,qM,hL,hp,e,em,hi,Ht,hlen,H8,hzz]
def pe(aD an:List Int)(b c:Cell):Option Int:=
 if(resolve aD an b.val).2=true/\(resolve aD an c.val).2=true/\(resolve aD an b.val).1.region=(resolve aD an c.val).1.region then
  some ((resolve aD an b.val).1.offset-(resolve aD an c.val).1.offset) else none
def AS(op b c:Int):Cell×Int:=
 if op=3 then(⟨0,IntKind.u16.wrap (b+c)⟩,0)
 else if op=4 then(⟨0,IntKind.u16.wrap (b-c)⟩,0)
 else if op=5 then(⟨0,IntKind.u16.wrap (b*c)⟩,0)
 else if op=6 then(if c=0 then(⟨0,0⟩,5) else(⟨0,IntKind.u16.wrap (b.tdiv c)⟩,0))
 else if op=7 then(if c=0 then(⟨0,0⟩,5) else(⟨0,b.tmod c⟩,0))
 else if op=8 then(⟨0,Go.Abs.bits .u16 .and b c⟩,0)
 else if op=9 then(⟨0,Go.Abs.bits .u16 .or b c⟩,0)
 else if op=10 then(⟨0,Go.Abs.bits .u16 .xor b c⟩,0)
 else if op=11 then(⟨0,IntKind.u16.wrap (b*2^ (min (c.tmod 16).toNat 16))⟩,0)
 else if op=12 then(⟨0,b.fdiv (2^ (min (c.tmod 16).toNat 16))⟩,0)
 else if b<c then(⟨0,1⟩,0) else(⟨0,0⟩,0)
@[simp]def XL(op b c:Int)(hb:0<=b/\b<=65535)(hc:0<=c/\c<=65535)(ho:3<=op/\op<=13):bW X 296 [op,.int .u16 b,.int .u16 c]=some (.dM [KKf ((AS op b c).1),.int .i64 ((AS op b c).2)]):=by
 refine aaA ?_;have zp:op=3\/op=4\/op=5\/op=6\/op=7\/op=8\/op=9\/op=10\/op=11\/op=12\/op=13:=by omega
 have hm:0<=c.tmod 16:=aeU _ hc.1;have SS: ¬c.tmod 16<0:=by omega
 have Rv:IntKind.u16.bits=16:=rfl;by_cases hz:c=0
 ·subst hz;rcases zp with rfl|rfl|rfl|rfl|rfl|rfl|rfl|rfl|rfl|rfl|rfl;all_goals simp[AS,Rv]
  all_goals (by_cases h:b<0<;>simp[h])
 ·rcases zp with rfl|rfl|rfl|rfl|rfl|rfl|rfl|rfl|rfl|rfl|rfl;all_goals simp[AS,hz,SS,Rv]
  all_goals (by_cases h:b<c<;>simp[h])
@[simp]def ag4(op b c:Int)(hb:0<=b/\b<=65535)(hc:0<=c/\c<=65535)(ho:3<=op/\op<=13):bW X 300 [op,.int .u16 b,.int .u16 c]=some (.dM [KKf ((AS op b c).1),.int .i64 ((AS op b c).2)]):=by
 refine aaA ?_;have zp:op=3\/op=4\/op=5\/op=6\/op=7\/op=8\/op=9\/op=10\/op=11\/op=12\/op=13:=by omega
 have hm:0<=c.tmod 16:=aeU _ hc.1;have SS: ¬c.tmod 16<0:=by omega
 have Rv:IntKind.u16.bits=16:=rfl;by_cases hz:c=0
 ·subst hz;rcases zp with rfl|rfl|rfl|rfl|rfl|rfl|rfl|rfl|rfl|rfl|rfl;all_goals simp[AS,Rv]
  all_goals (by_cases h:b<0<;>simp[h])
 ·rcases zp with rfl|rfl|rfl|rfl|rfl|rfl|rfl|rfl|rfl|rfl|rfl;all_goals simp[AS,hz,SS,Rv]
  all_goals (by_cases h:b<c<;>simp[h])
@[simp]def ag5(aw:List Int)(bK:Int)(an:List Int)(nU ik ey dm:Int)(hL:ov aw an)(hb:0<=ik/\ik<=65535)(hc:0<=dm/\dm<=65535):bW X 297 [KKc aw bK,.sl false (an.map (V.int .i64)),KKo nU ik,KKo ey dm]=some (.dM [KKy ((resolve aw an ik).1),KKy ((resolve aw an dm).1),.bool ((resolve aw an ik).2&& ((resolve aw an dm).2&&decide ((resolve aw an ik).1.region=(resolve aw an dm).1.region)))]):=by
 refine aaA ?_;have hw:IntKind.i64.wrap ik=ik:=wrap_i64 (by omega);have hw':IntKind.i64.wrap dm=dm:=wrap_i64 (by omega);cases h1:(resolve aw an ik).2<;>cases h2:(resolve aw an dm).2<;>simp[hL,hb,hc,hw,hw',h1,h2]
@[simp]def ao2(aw:List Int)(bK:Int)(an:List Int)(nU ik ey dm:Int)(hL:ov aw an)(hb:0<=ik/\ik<=65535)(hc:0<=dm/\dm<=65535):bW X 301 [KKc aw bK,.sl false (an.map (V.int .i64)),KKo nU ik,KKo ey dm]=some (.dM [.int .i64 ((pe aw an (Cell.mk nU ik) (Cell.mk ey dm)).getD 0),.int .i64 (if pe aw an (Cell.mk nU ik) (Cell.mk ey dm)=none then 4 else 0)]):=by
 refine aaA ?_;have hw:IntKind.i64.wrap ik=ik:=wrap_i64 (by omega);have hw':IntKind.i64.wrap dm=dm:=wrap_i64 (by omega);cases h1:(resolve aw an ik).2 with
 |false=>simp[hL,hb,hc,hw,hw',h1,pe]
 |true=>
  cases h2:(resolve aw an dm).2 with
  |false=>simp[hL,hb,hc,hw,hw',h1,h2,pe]
  |true=>
   obtain⟨k,hk,qT,e,b1,b2⟩:=jY h1;obtain⟨j,hj,Bv,e',b1',b2'⟩:=jY h2;have bb:=hL.base k hk qT;have bb':=hL.base j hj Bv;have tz:IntKind.i64.wrap (ik-aw[k]-(dm-aw[j]))=ik-aw[k]-(dm-aw[j]):=wrap_i64 (by omega);by_cases hr:(k:Int)=j
   ·have Df:k=j:=by omega
    subst Df;simp[hL,hb,hc,hw,hw',h1,h2,e,e',tz,pe]
   ·have Df: ¬k=j:=by omega
    simp[hL,hb,hc,hw,hw',h1,h2,e,e',hr,pe]
def qU(aD an:List Int)(op:Int)(b c:Cell):Cell×Int:=
 if op<3\/14<op then(⟨0,0⟩,1)
 else if op=14 then(if b.tag=c.tag/\b.val=c.val then⟨0,1⟩ else⟨0,0⟩,0)
 else if b.tag=0/\c.tag=0 then AS op b.val c.val
 else if op=3/\b.tag=1/\c.tag=0 then jL aD an b c.val false
 else if op=3/\b.tag=0/\c.tag=1 then jL aD an c b.val false
 else if op=4/\b.tag=1/\c.tag=0 then jL aD an b c.val true
 else if(op=4\/op=13)/\b.tag=1/\c.tag=1 then
  match pe aD an b c with
  |none=>(⟨0,0⟩,4)
  |some n=>if op=13 then(if n<0 then⟨0,1⟩ else⟨0,0⟩,0) else(⟨0,IntKind.u16.wrap n⟩,0)
 else(⟨0,0⟩,3)
def kh(aD an:List Int)(p:Cell)(n:Int):Int×Int:=
 if p.tag=1 then
  if(resolve aD an p.val).2=true then
   if n<0 then(0,4) else if nth an (resolve aD an p.val).1.region.toNat-(resolve aD an p.val).1.offset<n then(0,4) else(p.val,0)
  else(0,4)
 else(0,3)
@[simp]def asy(aw:List Int)(bK:Int)(an:List Int)(op nU ik ey dm:Int)(hL:ov aw an)(hb:0<=ik/\ik<=65535)(hc:0<=dm/\dm<=65535):bW X 274 [KKc aw bK,.sl false (an.map (V.int .i64)),.int .i64 op,KKo nU ik,KKo ey dm]=some (.dM [KKf ((qU aw an op (Cell.mk nU ik) (Cell.mk ey dm)).1),.int .i64 ((qU aw an op (Cell.mk nU ik) (Cell.mk ey dm)).2)]):=by
 refine aaA ?_;by_cases h1:op<3
 ·simp[h1,qU]
 by_cases h2:14<op
 ·simp[h1,h2,qU]
 by_cases h3:op=14
 ·subst h3;by_cases e1:nU=ey
  ·by_cases e2:ik=dm
   ·simp[e1,e2,qU]
   ·simp[e1,e2,qU]
  ·simp[e1,qU]
 have ho:3<=op/\op<=13:=by omega
 by_cases t1:nU=0
 ·by_cases t2:ey=0
  ·simp[h1,h2,h3,t1,t2,ho,hb,hc,qU]
  ·by_cases o3:op=3
   ·by_cases t3:ey=1
    ·simp[t1,t3,o3,hL,hb,hc,qU]
    ·simp[t1,t2,t3,o3,qU]
   ·by_cases o4:op=4
    ·simp[t1,t2,o4,qU]
    ·by_cases NF:op=13
     ·simp[t1,t2,NF,qU]
     ·simp[h1,h2,h3,t1,t2,o3,o4,NF,qU]
 ·by_cases BW:nU=1
  ·by_cases t2:ey=0
   ·by_cases o3:op=3
    ·simp[BW,t2,o3,hL,hb,hc,qU]
    ·by_cases o4:op=4
     ·simp[BW,t2,o4,hL,hb,hc,qU]
     ·by_cases NF:op=13
      ·simp[BW,t2,NF,qU]
      ·simp[h1,h2,h3,BW,t2,o3,o4,NF,qU]
   ·by_cases t3:ey=1
    ·by_cases o:op=4\/op=13
     ·have key:qU aw an op (Cell.mk nU ik) (Cell.mk ey dm)=match pe aw an (Cell.mk nU ik) (Cell.mk ey dm) with|none=>(⟨0,0⟩,4)|some n=>if op=13 then(if n<0 then⟨0,1⟩ else⟨0,0⟩,0) else(⟨0,IntKind.u16.wrap n⟩,0):=by
       rcases o with rfl|rfl<;>simp[qU,BW,t3]<;>rfl
      rw[key];have hu: ∀n:Int,pe aw an (Cell.mk nU ik) (Cell.mk ey dm)=some n->(resolve aw an ik).2=true/\(resolve aw an dm).2=true/\(resolve aw an ik).1.region=(resolve aw an dm).1.region/\n=(resolve aw an ik).1.offset-(resolve aw an dm).1.offset:=fun n hn=>by
       unfold pe at hn;split at hn
       ·rename_i hc;simp at hn;exact⟨hc.1,hc.2.1,hc.2.2,hn.symm⟩
       ·simp at hn
      have hv:pe aw an (Cell.mk nU ik) (Cell.mk ey dm)=none->((resolve aw an ik).2&& ((resolve aw an dm).2&&decide ((resolve aw an ik).1.region=(resolve aw an dm).1.region)))=false:=fun hn=>by
       unfold pe at hn;split at hn
       ·simp at hn
       ·rename_i hc;rw[<-Bool.not_eq_true];simpa using hc
      cases ha:pe aw an (Cell.mk nU ik) (Cell.mk ey dm) with
      |none=>
       have hv:=hv ha;rcases o with rfl|rfl
       ·simp[h1,h2,h3,BW,t3,hL,hb,hc,hv]
       ·simp[h1,h2,h3,BW,t3,hL,hb,hc,hv]
      |some n=>
       obtain⟨r1,r2,r3,r4⟩:=hu n ha;have gY:((resolve aw an ik).1.offset<(resolve aw an dm).1.offset)↔n<0:=by omega
       obtain⟨k,hk,qT,e,b1,b2⟩:=jY r1;obtain⟨j,hj,Bv,e',b1',b2'⟩:=jY r2;have bb:=hL.base k hk qT;have bb':=hL.base j hj Bv;have tz:IntKind.i64.wrap ((resolve aw an ik).1.offset-(resolve aw an dm).1.offset)=n:=by rw[<-r4];rw[e,e']at r4;exact wrap_i64 (by simp only at r4;omega)
       rcases o with rfl|rfl
       ·simp[h1,h2,h3,BW,t3,hL,hb,hc,r1,r2,r3,tz]
       ·by_cases hn:n<0
        ·simp[h1,h2,h3,BW,t3,hL,hb,hc,r1,r2,r3,gY,hn]
        ·simp[h1,h2,h3,BW,t3,hL,hb,hc,r1,r2,r3,gY,hn]
     ·have o3: ¬op=4:=fun h=>o (.inl h);have o4: ¬op=13:=fun h=>o (.inr h);simp[h1,h2,h3,BW,t3,o3,o4,qU]
    ·by_cases o3:op=3
     ·simp[BW,t2,t3,o3,qU]
     ·by_cases o4:op=4
      ·simp[BW,t2,t3,o4,qU]
      ·by_cases NF:op=13
       ·simp[BW,t2,t3,NF,qU]
       ·simp[h1,h2,h3,BW,t2,t3,o3,o4,NF,qU]
  ·by_cases o3:op=3
   ·simp[t1,BW,o3,qU]
   ·by_cases o4:op=4
    ·simp[t1,BW,o4,qU]
    ·by_cases NF:op=13
     ·simp[t1,BW,NF,qU]
     ·simp[h1,h2,h3,t1,BW,o3,o4,NF,qU]
@[simp]def azm(aw:List Int)(bK:Int)(an:List Int)(op nU ik ey dm:Int)(hL:ov aw an)(hb:0<=ik/\ik<=65535)(hc:0<=dm/\dm<=65535):bW X 293 [KKc aw bK,.sl false (an.map (V.int .i64)),.int .i64 op,KKo nU ik,KKo ey dm]=some (.dM [KKf ((qU aw an op (Cell.mk nU ik) (Cell.mk ey dm)).1),.int .i64 ((qU aw an op (Cell.mk nU ik) (Cell.mk ey dm)).2)]):=by
 refine aaA ?_;by_cases h1:op<3
 ·simp[h1,qU]
 by_cases h2:14<op
 ·simp[h1,h2,qU]
 by_cases h3:op=14
 ·subst h3;by_cases e1:nU=ey
  ·by_cases e2:ik=dm
   ·simp[e1,e2,qU]
   ·simp[e1,e2,qU]
  ·simp[e1,qU]
 have ho:3<=op/\op<=13:=by omega
 by_cases t1:nU=0
 ·by_cases t2:ey=0
  ·simp[h1,h2,h3,t1,t2,ho,hb,hc,qU]
  ·by_cases t3:ey=1
   ·by_cases o3:op=3
    ·simp[t1,t3,o3,hL,hb,hc,qU]
    ·simp[h1,h2,h3,t1,t3,o3,qU]
   ·simp[h1,h2,h3,t1,t2,t3,qU]
 ·by_cases BW:nU=1
  ·by_cases t2:ey=0
   ·by_cases o3:op=3
    ·simp[BW,t2,o3,hL,hb,hc,qU]
    ·by_cases o4:op=4
     ·simp[BW,t2,o4,hL,hb,hc,qU]
     ·simp[h1,h2,h3,BW,t2,o3,o4,qU]
   ·by_cases t3:ey=1
    ·subst BW t3;by_cases o4:op=4
     ·have key:qU aw an op ⟨1,ik⟩ ⟨1,dm⟩=match pe aw an ⟨1,ik⟩ ⟨1,dm⟩ with|none=>(⟨0,0⟩,4)|some n=>(⟨0,IntKind.u16.wrap n⟩,0):=by
       simp[qU,o4]
      rw[key];cases ha:pe aw an ⟨1,ik⟩ ⟨1,dm⟩ with
      |none=>simp[o4,hL,hb,hc,ha]
      |some n=>simp[o4,hL,hb,hc,ha]
     ·by_cases NF:op=13
      ·have key:qU aw an op ⟨1,ik⟩ ⟨1,dm⟩=match pe aw an ⟨1,ik⟩ ⟨1,dm⟩ with|none=>(⟨0,0⟩,4)|some n=>(if n<0 then⟨0,1⟩ else⟨0,0⟩,0):=by
        simp[qU,NF]
       rw[key];cases ha:pe aw an ⟨1,ik⟩ ⟨1,dm⟩ with
       |none=>simp[NF,hL,hb,hc,ha]
       |some n=>
        by_cases hn:n<0
        ·simp[NF,hL,hb,hc,ha,hn]
        ·simp[NF,hL,hb,hc,ha,hn]
      ·simp[h1,h2,h3,o4,NF,qU]
    ·simp[h1,h2,h3,BW,t2,t3,qU]
  ·simp[h1,h2,h3,t1,BW,qU]
@[simp]def acp(aw:List Int)(bK:Int)(an:List Int)(pb eO n:Int)(hL:ov aw an)(hp:0<=eO/\eO<=65535)(hn:n<=1000000):bW X 249 [KKc aw bK,.sl false (an.map (V.int .i64)),KKo pb eO,.int .i64 n]=some (.dM [.int .i64 ((kh aw an (Cell.mk pb eO) n).1),.int .i64 ((kh aw an (Cell.mk pb eO) n).2)]):=by
 refine aaA ?_;by_cases h1:pb=1
 case neg=>simp[h1,kh]
 have hw:IntKind.i64.wrap eO=eO:=wrap_i64 (by omega);cases h2:(resolve aw an eO).2 with
 |false=>simp[h1,h2,hw,hL,hp,kh]
 |true=>
  obtain⟨k,hk,qT,e,b1,b2⟩:=jY h2;have bb:=hL.base k hk qT;have zz:=hL.sz.elem k qT;have Cr:nth an k=an[k]:=dC qT;have tz:IntKind.i64.wrap (an[k]-(eO-aw[k]))=an[k]-(eO-aw[k]):=wrap_i64 (by omega);by_cases h3:n<0
  ·simp[h1,h2,hw,hL,hp,e,h3,kh]
  by_cases h4:an[k]-(eO-aw[k])<n
  ·simp[h1,h2,hw,hL,hp,e,h3,h4,qT,tz,Cr,kh]
  ·simp[h1,h2,hw,hL,hp,e,h3,h4,qT,tz,Cr,kh]
@[simp]def akb(aw:List Int)(bK:Int)(an:List Int)(pb eO n:Int)(hL:ov aw an)(hp:0<=eO/\eO<=65535)(hn:n<=1000000):bW X 232 [KKc aw bK,.sl false (an.map (V.int .i64)),KKo pb eO,.int .i64 n]=some (.dM [.int .i64 ((kh aw an (Cell.mk pb eO) n).1),.int .i64 ((kh aw an (Cell.mk pb eO) n).2)]):=by
 refine aaA ?_;by_cases h1:pb=1
 case neg=>simp[h1,kh]
 have hw:IntKind.i64.wrap eO=eO:=wrap_i64 (by omega);cases h2:(resolve aw an eO).2 with
 |false=>simp[h1,h2,hw,hL,hp,kh]
 |true=>
  obtain⟨k,hk,qT,e,b1,b2⟩:=jY h2;have bb:=hL.base k hk qT;have zz:=hL.sz.elem k qT;have Cr:nth an k=an[k]:=dC qT;have tz:IntKind.i64.wrap (an[k]-(eO-aw[k]))=an[k]-(eO-aw[k]):=wrap_i64 (by omega);by_cases h3:n<0
  ·simp[h1,h2,hw,hL,hp,e,h3,kh]
  by_cases h4:an[k]-(eO-aw[k])<n
  ·simp[h1,h2,hw,hL,hp,e,h3,h4,qT,tz,Cr,kh]
  ·simp[h1,h2,hw,hL,hp,e,h3,h4,qT,tz,Cr,kh]
def kQ(code:List Instr)(pc:Int):Instr:=code.getD (pc-1).toNat ⟨0,0,0,0,0⟩
def DF(code:List Instr)(pc:Int):Int:=if 1<=pc/\pc<=code.length/\(kQ code pc).op=23 then(kQ code pc).ed else-1
def NG{code:List Instr}(h1:1<=pc/\pc<=code.length)(h2:(kQ code pc).op=23):DF code pc=(kQ code pc).ed:=by
 unfold DF;rw[if_pos ⟨h1.1,h1.2,h2⟩]
def iH:List UInt8->List Int->Bool
 | [],[]=>true
 |k::ks,t::ts=>Aj k.toNat t&&iH ks ts
 |_,_=>false
def yJ(l:List Cell):Prop:= ∀i (h:i<l.length),0<=(l[i]).tag/\0<=(l[i]).val/\(l[i]).val<=65535
def vx(aD an:List Int)(n:Nat)(c:Int)(bz:List Cell):Int:=
 if iH (de c) ((bz.take (de c).length).map (·.tag))=false then 6
 else if 0<mC c/\((kh aD an (bz.getD 1 ⟨0,0⟩) (bz.getD 2 ⟨0,0⟩).val).2≠0\/16<(bz.getD 2 ⟨0,0⟩).val) then 6
 else if(c=10\/c=12)/\(n:Int)<=(bz.getD 0 ⟨0,0⟩).val then 6 else 0
@[simp]def ag6(dg di cY cD gS cp:Int)(bf bT:List Canon)(hc:0<=cp/\cp<=15)(hm:bf.length<=1000000000):bW X 279 [KKZ dg di cY cD gS cp bf bT]=some (.bool (iH (de cp) (bf.map (·.tag)))):=by
 refine aaA ?_;have kC: ∀{k:List UInt8} {l:List Canon},¬k.length=l.length->iH k (l.map (·.tag))=false:=by
  intro k;induction k with
  |nil=>intro l h;cases l with|nil=>exact absurd rfl h|cons _ _=>rfl
  |cons a k ih=>intro l h;cases l with|nil=>rfl|cons b l=>simp[iH,ih (show¬k.length=l.length by simpa using h)]
 by_cases hl:((de cp).length:Int)=bf.length
 case neg=>
  have h2:=kC (k:=de cp) (l:=bf) (by omega);simp[hc,hl,h2]
 have Ac:bf.length=(de cp).length:=by omega
 clear kC;rcases na hc with rfl|rfl|rfl|rfl|rfl|rfl|rfl|rfl|rfl|rfl|rfl|rfl|rfl|rfl|rfl|rfl;all_goals
  simp[de]at Ac;try (obtain⟨a,rfl⟩:=Rh Ac)
  try (obtain⟨a,b,rfl⟩:=Ri Ac)
  try (obtain⟨a,b,c,rfl⟩:=Rj Ac)
  try subst Ac
  simp[dO,de,iH];try grind
@[simp]def acq(call:Int)(tags:List Int)(hm:tags.length<=1000000000):bW X 230 [call,.sl false (tags.map (V.int .u8))]=some (.bool (decide (0<=call/\call<=15)&&iH (de call) tags)):=by
 refine aaA ?_;by_cases hc:0<=call/\call<=15
 case neg=>
  simp[hc]
 have Er: ¬(call<0\/15<call):=by omega
 have kC: ∀{k:List UInt8} {l:List Int},¬k.length=l.length->iH k l=false:=by
  intro k;induction k with
  |nil=>intro l h;cases l with|nil=>exact absurd rfl h|cons _ _=>rfl
  |cons a k ih=>intro l h;cases l with|nil=>rfl|cons b l=>simp[iH,ih (show¬k.length=l.length by simpa using h)]
 by_cases hl:(tags.length:Int)=(de call).length
 case neg=>
  have h2:=kC (k:=de call) (l:=tags) (by omega);simp[hc,Er,hl,h2]
 have Ac:tags.length=(de call).length:=by omega
 clear kC;rcases na hc with rfl|rfl|rfl|rfl|rfl|rfl|rfl|rfl|rfl|rfl|rfl|rfl|rfl|rfl|rfl|rfl;all_goals
  simp[de]at Ac;try (obtain⟨a,rfl⟩:=Rh Ac)
  try (obtain⟨a,b,rfl⟩:=Ri Ac)
  try (obtain⟨a,b,c,rfl⟩:=Rj Ac)
  try subst Ac
  simp[dO,de,iH,Aj];try grind
@[simp]def Gd(ax:List Instr)(ae:List Int)(ay:List (List Int))(iu:Int)(cN:List Cell)(jQ dQ cX dS jw jx:Int)(hl:ax.length<=1000)(hp:0<=jQ/\jQ<=255):bW X 156 [KKQ ax ae ay,KKg iu cN jQ dQ cX dS jw jx]=some (.int .i64 (DF ax jQ)):=by
 refine aaA ?_;have w:IntKind.i64.wrap (jQ-1)=jQ-1:=wrap_i64 (by omega);by_cases h1:1<=jQ
 case neg=>
  have uE: ¬0<=jQ-1:=by omega
  simp[w,h1,DF]
 obtain⟨k,hk⟩: ∃k:Nat,jQ-1=k:=⟨(jQ-1).toNat,by omega⟩;by_cases h2:k<ax.length
 case neg=>
  have KP: ¬(k:Int)<ax.length:=by omega
  have h2j: ¬jQ<=ax.length:=by omega
  rw[hk]at w;simp[w,h1,h2,KP,h2j,hk,DF,kQ]
 have KP:(k:Int)<ax.length:=by omega
 have h2j:jQ<=ax.length:=by omega
 rw[hk]at w;by_cases h3:(ax[k]).op=23
 ·simp[w,h1,h2,KP,h2j,h3,hk,List.getD,DF,kQ]
 ·simp[w,h1,h2,KP,h2j,h3,hk,List.getD,DF,kQ]
def dJ(ids:Nat->Nat)(i:Nat)(x:Thread):V:= (KKd x.state (.cu (ids i) 0 x.bz.length) x.pc x.count x.cn x.saved x.dn x.code:V)
def cG(ids:Nat->Nat)(l:List Thread):List V:=l.mapIdx (dJ ids)
def fA(ids:Nat->Nat)(l:List Thread):(cG ids l).length=l.length:=by simp[cG]
def fW{l:List Thread}(h:i<l.length)(h':i<(cG ids l).length):(cG ids l)[i]= (KKd (l[i]).state (.cu (ids i) 0 (l[i]).bz.length) (l[i]).pc (l[i]).count (l[i]).cn (l[i]).saved (l[i]).dn (l[i]).code:V):=by
 simp[cG,dJ]
def iJ{l:List Thread}(h:i<l.length):(cG ids l).set i (dJ ids i x)=cG ids (l.set i x):=by
 apply abA;intro j;unfold cG;rw[abK,abV,abV,abK];by_cases hj:i=j
 ·subst hj;simp[h]
 ·rw[if_neg hj,if_neg hj]
def iV(x:Thread)(why:Int):Thread:=⟨4,x.bz,x.pc,x.count,x.cn,x.saved,why,0⟩
@[simp]def acw(x:V)(why:Int)(h:bh)(k T t:Nat)(w:Int)(ids:Nat->Nat)(ts:List Thread)(hT:h T=some ⟨8,cG ids ts,true⟩)(ht:t<ts.length):cL X 271 [.ptr T t 0,w] h k=some (.int .i64 2,aR h T (some ⟨8,cG ids (ts.set t (iV ts[t] w)),true⟩),k+15):=by
 have hg:=fW (ids:=ids) ht;have jV:=fA ids ts;have lb:=iJ (ids:=ids) (x:=iV ts[t] w) ht;obtain⟨v,h',n',e1,e2,e3,e4⟩:=bC (X:=X) (g:=271) (args:=[.ptr T t 0,.int .i64 w]) (h:=h) (k:=k) (K:=fun v h' n'=>v= .int .i64 2/\h'=aR h T (some ⟨8,(cG ids ts).set t (dJ ids t (iV ts[t] w)),true⟩)/\n'=k+15) Tryz.func271 rfl rfl (by
  simp[aaE,hT,ht,hg,jV,sy];rfl)
 rw[e1,e2,e3,e4,lb]
def jd(c:Cell):Prop:=(0<=c.tag/\c.tag<=2)/\0<=c.val/\c.val<=65535
def ep(l:List Cell):Prop:= ∀c∈l,jd c
def lX:jd ⟨0,0⟩:=⟨⟨by decide,by decide⟩,by decide,by decide⟩
def ep.at(h:ep l)(hi:i<l.length):jd l[i]:=h _ (aaL hi)
def ep.getD{l:List Cell}(h:ep l)(i:Nat):jd (l.getD i ⟨0,0⟩):=by
 by_cases hi:i<l.length
 ·simp only[List.getD,aaJ hi,abR];exact h.at hi
 ·simp only[List.getD,abC (adU hi),adA];exact lX
def ep.set{l:List Cell}(h:ep l){c:Cell}(hc:jd c)(i:Nat):ep (l.set i c):=by
 intro x hx;rcases aaX hx with hx|rfl
 ·exact h x hx
 ·exact hc
def ep.take{l:List Cell}(h:ep l)(n:Nat):ep (l.take n):=fun x hx=>h x (aaS hx)
def ep.drop{l:List Cell}(h:ep l)(n:Nat):ep (l.drop n):=fun x hx=>h x (abh hx)
def ep.append(h:ep l)(h2:ep r):ep (l++r):=fun x hx=>by
 rcases List.mem_append.1 hx with hx|hx
 ·exact h x hx
 ·exact h2 x hx
def ep.nil:ep []:=fun x hx=>by cases hx
def ep.gd{l:List Cell}(h:ep l):gd l=true:=by
 unfold Go.Proofs.YtdngefmliibcgaaGreat.gd;rw[aaP];intro x hx;have:=(h x hx).1.2;simpa[oG] using this
def ep.RD(h:ep l):yJ l:=fun i hi=>⟨(h.at hi).1.1,(h.at hi).2⟩
def jd.oG{c:Cell}(h:jd c):oG c=true:=by simpa[Go.Proofs.YtdngefmliibcgaaGreat.oG] using h.1.2
def CY(h:gd l=true)(hr:yJ l):ep l:=by
 intro x hx;obtain⟨i,hi,rfl⟩:=abE hx;have h1:=List.all_eq_true.1 h _ (aaL hi);have h2:=hr i hi;simp[oG]at h1;exact⟨⟨h2.1,h1⟩,h2.2⟩
structure ql (m:aF):Prop where
 mem:uf m
 cells:ep m.cells
 line: ∀i,ep (dZ m i).cells
def AV(c c':List Cell)(l:List cy)(r i:Nat)(x:cy):dZ ⟨c,l.set r x⟩ i=if r=i/\r<l.length then x else dZ ⟨c',l⟩ i:=by
 unfold dZ;simp only[List.getD,abK];by_cases h:r=i
 ·subst h;by_cases h2:r<l.length
  ·simp[h2]
  ·simp[h2]
 ·simp[h]
def ql.back{m:aF}(h:ql m)(r:Nat):ep (kS m r):=by
 unfold kS;split
 ·unfold nw;exact((h.cells.take _).append (h.line r)).append (h.cells.drop _)
 ·exact h.cells
def ql.acz{m:aF}(h:ql m)(ha:a<512):ql (dr m a):=by
 refine⟨qk h.mem ha,?_,fun i=> ?_⟩
 ·unfold dr;split
  ·exact h.cells
  ·exact h.back _
 ·unfold dr;split
  ·exact h.line i
  ·rw[AV _ m.cells];split
   ·exact((h.back _).drop _).take _
   ·exact h.line i
def ql.load{m:aF}(h:ql m)(ha:a<512):jd (nf m a):=((h.acz ha).line _).getD _
def ql.store{m:aF}(h:ql m)(ha:a<512){c:Cell}(hc:jd c):ql (mE m a c):=by
 have hf:=h.acz ha;refine⟨Gs h.mem ha hc.oG,hf.cells,fun i=> ?_⟩;unfold mE;rw[AV _ (dr m a).cells];split
 ·exact(hf.line _).set hc _
 ·exact hf.line i
structure eu (c:Int) (x:Thread):Prop where
 state:0<=x.state/\x.state<=4
 bz:x.bz.length=8
 cells:ep x.bz
 pc:0<=x.pc/\x.pc<=255
 count:0<=x.count/\x.count<=c
 cn: -1<=x.cn/\x.cn<=255
 saved: -1<=x.saved/\x.saved<=255
 dn:0<=x.dn/\x.dn<=6
 code:0<=x.code/\x.code<=65535
def eu.mono(h:eu c x)(hd:c<=d):eu d x:=by
 obtain⟨h1,h2,h3,h4,h5,h6,h7,h8,h9⟩:=h;exact⟨h1,h2,h3,h4,⟨h5.1,by omega⟩,h6,h7,h8,h9⟩
def eu.ok(h:eu 1099511627776 x):ox x=true:=by
 obtain⟨h1,h2,h3,h4,h5,h6,h7,h8,h9⟩:=h;unfold ox;rw[h3.gd];simp only[adX,aaF,decide_eq_true_eq];omega
structure db (p:Prog) (c:Int) (m:aO):Prop where
 prog:rn p
 lay:ov m.layout.aD p.an
 key:0<=m.layout.key/\m.layout.key<=65535
 mem:ql m.memory
 len:m.threads.length=4
 pg: ∀i (h:i<m.threads.length),eu c m.threads[i]
 coh:c<=1000000->zV (Gu m.layout.aD p.an) m.memory
def db.mono{p:Prog}{c d:Int}{m:aO}(h:db p c m)(hd:c<=d):db p d m:=⟨h.prog,h.lay,h.key,h.mem,h.len,fun i hi=>(h.pg i hi).mono hd,fun g=>h.coh (by omega)⟩
def db.ok{p:Prog}{m:aO}(h:db p 1099511627776 m):jU p m=true:=by
 unfold jU;simp only[aaF,decide_eq_true_eq];refine⟨zH h.prog,mU.2 h.lay,Ni.2 h.mem.mem,h.len,?_⟩;unfold nv;rw[aaP];intro x hx;obtain⟨i,hi,rfl⟩:=abE hx;exact(h.pg i hi).ok
def db.lens(h:db p c m):zG m:=by
 have hz:=h.lay.sz.le;have hl:=h.lay.len;have hm:=h.mem.mem.len;have hn:=h.mem.mem.lines;have ht:=h.len;refine⟨by omega,by omega,by omega,fun i hi=> ?_,by omega,fun i hi=> ?_⟩
 ·have:=h.mem.mem.line i hi;by_cases e:(m.memory.lines[i]).tag= -1
  ·rw[(this.none e).2];simp
  ·rw[(this.some e).2.2.2];omega
 ·rw[(h.pg i hi).bz];omega
def rn.lens(h:rn p):BR p:=by
 have:=h.an.le;have:=h.len;have:=h.rp;exact⟨by omega,by omega,by omega⟩
structure An (m:aO):Prop where
 key:0<=m.layout.key/\m.layout.key<=65535
 cells:yJ m.memory.cells
 line: ∀i (h:i<m.memory.lines.length),yJ (m.memory.lines[i]).cells
 bz: ∀i (h:i<m.threads.length),yJ (m.threads[i]).bz
 code: ∀i (h:i<m.threads.length),0<=(m.threads[i]).code/\(m.threads[i]).code<=65535
def yN(hr:An m)(h:jU p m=true):db p 1099511627776 m:=by
 unfold jU at h;simp only[aaF,decide_eq_true_eq]at h;obtain⟨h1,h2,h3,h4,h5⟩:=h;have hm:=Ni.1 h3;refine⟨NC h1,mU.1 h2,hr.key,⟨hm,CY hm.cells hr.cells,fun i=> ?_⟩,h4,fun i hi=> ?_,fun g=>by omega⟩
 ·by_cases hi:i<m.memory.lines.length
  ·rw[iq hi];exact CY (hm.line i hi).cells (hr.line i hi)
  ·unfold dZ;simp only[List.getD,abC (adU hi),adA];exact ep.nil
 ·have:=List.all_eq_true.1 h5 _ (aaL hi);unfold ox at this;simp only[aaF,decide_eq_true_eq]at this;have hc:=hr.code i hi;obtain⟨a1,a2,a3,a4,a5,a6,a7,a8,a9,Wc,a11,a12,a13,a14⟩:=this;exact⟨⟨a2,a3⟩,a4,CY a1 (hr.bz i hi),⟨a5,a6⟩,⟨a7,a8⟩,⟨a9,Wc⟩,⟨a11,a12⟩,⟨a13,a14⟩,hc⟩
structure Gv (n m:Nat) (i:Instr):Prop where
 op:0<=i.op/\i.op<=24
 a:0<=i.a/\i.a<8
 b:0<=i.b/\i.b<8
 c:0<=i.c/\i.c<8
 ed:0<=i.ed/\i.ed<=65535
 jump:jumps i.op=true->i.ed<n
 lea:i.op=15->i.ed<m
 sys:i.op=23->i.ed<=15
def Wd{n m:Nat}{i:Instr}(h:nu i=true)(h2:qq n m i=true):Gv n m i:=by
 unfold nu at h;split at h
 ·cases h
 rename_i h1;split at h
 ·cases h
 rename_i ha;split at h
 ·cases h
 rename_i hb;split at h
 ·cases h
 rename_i hc;split at h
 ·cases h
 rename_i hi;unfold qq at h2;simp only[aaF,aaZ,acV,decide_eq_false_iff_not]at h2;refine⟨by omega,by omega,by omega,by omega,by omega,fun hj=> ?_,fun hl=> ?_,fun hs=> ?_⟩
 ·rcases h2.1 with h3|h3
  ·rw[hj]at h3;cases h3
  ·omega
 ·rcases h2.2 with h3|h3
  ·exact absurd hl h3
  ·omega
 ·have hj: ¬jumps i.op=true:=by rw[hs];decide
  rw[if_neg hj,if_neg (by omega),if_pos hs]at h;simpa using h
def rn.AW(h:rn p)(hk:k<p.code.length):Gv p.code.length p.an.length p.code[k]:=Wd (h.ao1 k hk) (h.range k hk)
def qN(n:Int):0<=IntKind.u16.wrap n/\IntKind.u16.wrap n<=65535:=by
 simp only[IntKind.wrap,IntKind.signed,IntKind.bits,acB];simp;omega
def Gw(n:Int):jd ⟨0,IntKind.u16.wrap n⟩:=⟨⟨by simp,by simp⟩,qN n⟩
def sJ(hL:ov aD an){p:Cell}{back:Bool}(h:(jL aD an p n back).2=0): ∃a:Nat,(jL aD an p n back).1=⟨1,(a:Int)⟩/\a<512:=by
 by_cases h1:p.tag=1
 case neg=>rw[wo h1]at h;cases h
 cases h2:(resolve aD an p.val).2 with
 |false=>rw[tI h1 h2]at h;cases h
 |true=>
  obtain⟨k,hk,qT,e,b1,b2⟩:=jY h2;have em:=wq (n:=n) (back:=back) h1 h2 e;have bb:=hL.base k hk qT;have zz:=hL.sz.elem k qT;rw[em]at h⊢;have Cr:nth aD k=aD[k]:=dC hk;by_cases hi:inside an k (if back=true then p.val-aD[k]-n else p.val-aD[k]+n)=true
  ·obtain⟨k',xX,ek,o1,o2⟩:=ld.1 hi;have ek':k=k':=by omega
   subst ek';rw[if_pos hi,Cr];refine⟨(aD[k]+(if back=true then p.val-aD[k]-n else p.val-aD[k]+n)).toNat,?_,by omega⟩;simp only[Cell.mk.injEq,true_and];omega
  ·rw[if_neg hi]at h;exact absurd h (by simp)
def NM: ∀(bs zs:List Int) (k:Nat) (o:Int) (r:Nat) (hk:k<bs.length) (qT:k<zs.length),0<=o->o<zs[k]->(∀j (h:j<bs.length) (h':j<zs.length),j≠k->bs[j]+zs[j]<bs[k]\/bs[k]+zs[k]<bs[j])->(∀j (h':j<zs.length),1<=zs[j])->rQ bs zs (bs[k]+o) r=(⟨((r+k:Nat):Int),o⟩,true)
 | [],zs,k,o,r,hk,_,_,_,_,_=>by simp at hk
 |b::bs,[],k,o,r,_,qT,_,_,_,_=>by simp at qT
 |b::bs,z::zs,0,o,r,_,_,h0,h1,_,_=>by
  simp only[aco]at h1⊢;unfold rQ;rw[if_pos (by omega)];simp;omega
 |b::bs,z::zs,k+1,o,r,hk,qT,h0,h1,ha,hz=>by
  simp only[acR]at h1⊢;have hkl:k<bs.length:=by simpa using hk
  have a83:k<zs.length:=by simpa using qT
  have h:=ha 0 (by simp) (by simp) (by omega);simp only[aco,acR]at h;unfold rQ;rw[if_neg (by omega),NM bs zs k o (r+1) hkl a83 h0 h1 (fun j hj Bv kC=>by
   have:=ha (j+1) (by simp;omega) (by simp;omega) (by omega);simpa using this) (fun j hj=>by have:=hz (j+1) (by simp;omega);simpa using this)]
  simp only[bM,BC.mk.injEq,and_true];omega
def Gx(hL:ov aD an)(hk:k<aD.length)(qT:k<an.length)(h0:0<=o)(h1:o<an[k]):resolve aD an (aD[k]+o)=(⟨(k:Int),o⟩,true):=by
 unfold resolve;rw[NM aD an k o 0 hk qT h0 h1 (fun j h h' kC=>hL.apart j k h h' hk qT kC) (fun j h=>(hL.sz.elem j h).1)];simp
def We(hL:ov aD an){p:Cell}{back:Bool}(h:(jL aD an p n back).2=0):(resolve aD an (jL aD an p n back).1.val).2=true:=by
 by_cases h1:p.tag=1
 case neg=>rw[wo h1]at h;cases h
 cases h2:(resolve aD an p.val).2 with
 |false=>rw[tI h1 h2]at h;cases h
 |true=>
  obtain⟨k,hk,qT,e,b1,b2⟩:=jY h2;have em:=wq (n:=n) (back:=back) h1 h2 e;rw[em]at h⊢;by_cases hi:inside an k (if back=true then p.val-aD[k]-n else p.val-aD[k]+n)=true
  ·obtain⟨k',xX,ek,o1,o2⟩:=ld.1 hi;have ek':k=k':=by omega
   subst ek';rw[if_pos hi,dC hk];simp only;rw[Gx hL hk xX o1 o2]
  ·rw[if_neg hi]at h;exact absurd h (by simp)
def AX(aD an:List Int)(p:Cell)(n:Int)(back:Bool):0<=(jL aD an p n back).2/\(jL aD an p n back).2<=6:=by
 by_cases h1:p.tag=1
 case neg=>rw[wo h1];decide
 cases h2:(resolve aD an p.val).2 with
 |false=>rw[tI h1 h2];decide
 |true=>
  obtain⟨k,hk,qT,e,b1,b2⟩:=jY h2;rw[wq (n:=n) (back:=back) h1 h2 e];by_cases hi:inside an k (if back=true then p.val-aD[k]-n else p.val-aD[k]+n)=true
  ·rw[if_pos hi];simp
  ·rw[if_neg hi];simp
def CZ(op:BinOp)(a b:Int):0<=Go.Abs.bits .u16 op a b/\Go.Abs.bits .u16 op a b<=65535:=by
 unfold Go.Abs.bits;split<;>exact qN _
def akg(hb:0<=b/\b<=65535)(hc:0<=c/\c<=65535):jd (AS op b c).1/\0<=(AS op b c).2/\(AS op b c).2<=6:=by
 have z: ∀t:Int,0<=t/\t<=6->jd ((⟨0,0⟩:Cell),t).1/\0<=((⟨0,0⟩:Cell),t).2/\((⟨0,0⟩:Cell),t).2<=6:=fun t h=>⟨lX,h⟩;have w: ∀n:Int,jd ((⟨0,IntKind.u16.wrap n⟩:Cell),(0:Int)).1/\0<=((⟨0,IntKind.u16.wrap n⟩:Cell),(0:Int)).2/\((⟨0,IntKind.u16.wrap n⟩:Cell),(0:Int)).2<=6:=fun n=>⟨Gw n,by simp⟩;have w2: ∀n:Int,0<=n/\n<=65535->jd ((⟨0,n⟩:Cell),(0:Int)).1/\0<=((⟨0,n⟩:Cell),(0:Int)).2/\((⟨0,n⟩:Cell),(0:Int)).2<=6:=fun n hn=>⟨⟨⟨by simp,by simp⟩,hn⟩,by simp⟩;unfold AS;split
 ·exact w _
 split
 ·exact w _
 split
 ·exact w _
 split
 ·split
  ·exact z _ (by omega)
  ·exact w _
 split
 ·split
  ·exact z _ (by omega)
  ·refine w2 _ ?_;have h1:=aeU c hb.1;have h2:b.tmod c<=b:=by
    rw[aaK hb.1];rcases Int.lt_or_le b c with h|h
    ·rw[Int.emod_eq_of_lt hb.1 h];omega
    ·have:=abW b (show 0<c by omega);omega
   omega
 split
 ·exact w2 _ (CZ ..)
 split
 ·exact w2 _ (CZ ..)
 split
 ·exact w2 _ (CZ ..)
 split
 ·exact w _
 split
 ·refine w2 _ ?_;have hp:(0:Int)<2^ (min (c.tmod 16).toNat 16):=Int.pow_pos (by omega);rw[Int.fdiv_eq_ediv_of_nonneg _ (by omega)];have h1:0<=b/2^ (min (c.tmod 16).toNat 16):=aeT hb.1 (by omega);have h2:b/2^ (min (c.tmod 16).toNat 16)<=b:=aeO _ hb.1;omega
 ·split
  ·exact⟨⟨⟨by simp,by simp⟩,by simp⟩,by simp⟩
  ·exact z 0 (by omega)
def RE(hL:ov aD an)(p:Cell)(n:Int)(back:Bool):jd (jL aD an p n back).1:=by
 by_cases h:(jL aD an p n back).2=0
 ·obtain⟨a,e,ha⟩:=sJ hL h;rw[e];exact⟨⟨by simp,by simp⟩,by simp only;omega⟩
 ·have:(jL aD an p n back).1=⟨0,0⟩:=by
   by_cases h1:p.tag=1
   case neg=>rw[wo h1]
   cases h2:(resolve aD an p.val).2 with
   |false=>rw[tI h1 h2]
   |true=>
    obtain⟨k,hk,qT,e,b1,b2⟩:=jY h2;rw[wq (n:=n) (back:=back) h1 h2 e]at h⊢;by_cases hi:inside an k (if back=true then p.val-aD[k]-n else p.val-aD[k]+n)=true
    ·rw[if_pos hi]at h;exact absurd rfl h
    ·rw[if_neg hi]
  rw[this];exact lX
def ac0(hL:ov aD an){b c:Cell}(hb:jd b)(hc:jd c):jd (qU aD an op b c).1/\0<=(qU aD an op b c).2/\(qU aD an op b c).2<=6:=by
 have mv: ∀p n back,jd (jL aD an p n back).1/\0<=(jL aD an p n back).2/\(jL aD an p n back).2<=6:=fun p n back=>⟨RE hL p n back,AX ..⟩;have one:jd (⟨0,1⟩:Cell):=⟨⟨by simp,by simp⟩,by simp⟩;unfold qU;split
 ·exact⟨lX,by simp⟩
 split
 ·refine⟨?_,by simp⟩;simp only;split
  ·exact one
  ·exact lX
 split
 ·exact akg hb.2 hc.2
 split
 ·exact mv ..
 split
 ·exact mv ..
 split
 ·exact mv ..
 split
 ·split
  ·exact⟨lX,by simp⟩
  ·split
   ·refine⟨?_,by simp⟩;simp only;split
    ·exact one
    ·exact lX
   ·exact⟨Gw _,by simp⟩
 ·exact⟨lX,by simp⟩
def qO:Instr:=⟨0,0,0,0,0⟩
def vM(x:Thread)(pc:Int)(bz:List Cell):Thread:=⟨x.state,bz,pc,x.count,x.cn,x.saved,x.dn,x.code⟩
def mV(x:Thread)(pc:Int)(bz:List Cell)(saved:Int):Thread:=⟨x.state,bz,pc,x.count+1,x.cn,saved,x.dn,x.code⟩
def uT(x:Thread):Thread:=⟨2,x.bz,x.pc+1,x.count,x.cn,x.saved,x.dn,x.code⟩
def iZ(m:aO)(mem:aF)(t:Nat)(x:Thread):aO:=⟨m.layout,mem,m.threads.set t x⟩
def kr(x:Thread)(a:Int):Cell:=x.bz.getD a.toNat ⟨0,0⟩
def Gy(x:Thread)(a:Int)(c:Cell):List Cell:=x.bz.set a.toNat c
def iU(p:Prog)(m:aO)(x:Thread)(i:Instr):aF×Thread×Int:=
 if i.op=23 then(m.memory,uT x,1)
 else if i.op=0 then(m.memory,vM x (x.pc+1) x.bz, -1)
 else if i.op=1 then(m.memory,vM x (x.pc+1) (Gy x i.a ⟨0,i.ed⟩), -1)
 else if i.op=2 then(m.memory,vM x (x.pc+1) (Gy x i.a (kr x i.b)), -1)
 else if i.op=15 then(m.memory,vM x (x.pc+1) (Gy x i.a ⟨1,nth m.layout.aD i.ed.toNat⟩), -1)
 else if i.op=16 then
  if(jL m.layout.aD p.an (kr x i.b) i.ed false).2=0 then
   (dr m.memory (jL m.layout.aD p.an (kr x i.b) i.ed false).1.val.toNat,
    vM x (x.pc+1) (Gy x i.a (nf m.memory (jL m.layout.aD p.an (kr x i.b) i.ed false).1.val.toNat)), -1)
  else(m.memory,iV x (jL m.layout.aD p.an (kr x i.b) i.ed false).2,2)
 else if i.op=17 then
  if(jL m.layout.aD p.an (kr x i.a) i.ed false).2=0 then
   (mE m.memory (jL m.layout.aD p.an (kr x i.a) i.ed false).1.val.toNat (kr x i.b),vM x (x.pc+1) x.bz, -1)
  else(m.memory,iV x (jL m.layout.aD p.an (kr x i.a) i.ed false).2,2)
 else if i.op=18 then(m.memory,mV x i.ed x.bz x.saved, -1)
 else if i.op=19 then
  if(kr x i.a).tag=0 then(m.memory,mV x (if(kr x i.a).val=0 then i.ed else x.pc+1) x.bz x.saved, -1) else(m.memory,iV x 3,2)
 else if i.op=20 then
  if(kr x i.a).tag=0 then(m.memory,mV x (if(kr x i.a).val=0 then x.pc+1 else i.ed) x.bz x.saved, -1) else(m.memory,iV x 3,2)
 else if i.op=21 then(m.memory,mV x i.ed (Gy x i.a ⟨0,x.pc+1⟩) x.saved, -1)
 else if i.op=22 then
  if(kr x i.a).tag=0 then
   if 255<(kr x i.a).val then(m.memory,iV x 2,2) else(m.memory,mV x (kr x i.a).val x.bz x.saved, -1)
  else(m.memory,iV x 3,2)
 else if i.op=24 then
  if x.saved= -1 then(m.memory,iV x 1,2) else(m.memory,mV x x.saved x.bz (-1), -1)
 else if(qU m.layout.aD p.an i.op (kr x i.b) (kr x i.c)).2=0 then
  (m.memory,vM x (x.pc+1) (Gy x i.a (qU m.layout.aD p.an i.op (kr x i.b) (kr x i.c)).1), -1)
 else(m.memory,iV x (qU m.layout.aD p.an i.op (kr x i.b) (kr x i.c)).2,2)
def ny(p:Prog)(m:aO)(x:Thread):aF×Thread×Int:=
 if x.pc<p.code.length then iU p m x (p.code.getD x.pc.toNat qO) else(m.memory,iV x 2,2)
def lu(p:Prog)(m:aO)(t:Nat):aO×Int:=
 (iZ m (ny p m (m.threads.getD t cw)).1 t (ny p m (m.threads.getD t cw)).2.1,(ny p m (m.threads.getD t cw)).2.2)
def jZ(p:Prog)(t:Nat)(upto:Int):Nat->aO->aO×Int
 |0,m=>(m,0)
 |k+1,m=>if(lu p m t).2= -1 then
   if((lu p m t).1.threads.getD t cw).count=upto then((lu p m t).1,0) else jZ p t upto k (lu p m t).1
  else lu p m t
def dN(p:Prog)(m:aO)(t:Nat)(n:Int):aO×Int:=
 if(m.threads.getD t cw).state=1 then jZ p t ((m.threads.getD t cw).count+n) 20000 m else(m,3)
structure nV (c:Int) (x:Thread) (r:aF×Thread×Int):Prop where
 mem:ql r.1
 pg:eu (c+1) r.2.1
 stop:r.2.2= -1\/r.2.2=1\/r.2.2=2
 akh:r.2.2= -1->r.2.1.state=x.state/\((r.2.1.count=x.count+1)\/(r.2.1.count=x.count/\r.2.1.pc=x.pc+1))
 calls:r.2.2=1->r.2.1=uT x
 ao5:r.2.2=2->r.2.1.state=4/\r.2.1.count=x.count
def as6(h:eu c x)(D1:0<=pc/\pc<=255)(hl:bz.length=8)(hr:ep bz):eu (c+1) (vM x pc bz):=
 ⟨h.state,hl,hr,D1,⟨h.count.1,by have:=h.count.2;simp only[vM];omega⟩,h.cn,h.saved,h.dn,h.code⟩
def ac1(h:eu c x)(D1:0<=pc/\pc<=255)(hl:bz.length=8)(hr:ep bz)(hs: -1<=saved/\saved<=255):eu (c+1) (mV x pc bz saved):=
 ⟨h.state,hl,hr,D1,by have:=h.count;simp only[mV];omega,h.cn,hs,h.dn,h.code⟩
def ac2(h:eu c x)(hw:0<=w/\w<=6):eu (c+1) (iV x w):=
 ⟨by simp[iV],h.bz,h.cells,h.pc,by have:=h.count;simp only[iV];omega,h.cn,h.saved,hw,by simp[iV]⟩
def ac3(h:eu c x)(D1:x.pc<=254):eu (c+1) (uT x):=
 ⟨by simp[uT],h.bz,h.cells,by have:=h.pc;simp only[uT];omega,by have:=h.count;simp only[uT];omega,h.cn,h.saved,h.dn,h.code⟩
def zI(h:eu c x){a:Int}{v:Cell}(hv:jd v):(Gy x a v).length=8/\ep (Gy x a v):=
 ⟨by simp[Gy,h.bz],h.cells.set hv _⟩
def j6(h:eu c x)(a:Int):jd (kr x a):=h.cells.getD _
def um(h:eu c x){m:aF}(hm:ql m)(D1:x.pc<=254)(hr:bz.length=8/\ep bz):nV c x (m,vM x (x.pc+1) bz, -1):=
 ⟨hm,as6 h (by have:=h.pc;omega) hr.1 hr.2,.inl rfl,fun _=>⟨rfl,.inr ⟨rfl,rfl⟩⟩,fun h=>by simp at h,fun h=>by simp at h⟩
def si(h:eu c x){m:aF}(hm:ql m)(D1:0<=pc/\pc<=255)(hr:bz.length=8/\ep bz)(hs: -1<=saved/\saved<=255):nV c x (m,mV x pc bz saved, -1):=
 ⟨hm,ac1 h D1 hr.1 hr.2 hs,.inl rfl,fun _=>⟨rfl,.inl rfl⟩,fun h=>by simp at h,fun h=>by simp at h⟩
def oA(h:eu c x){m:aF}(hm:ql m)(hw:0<=w/\w<=6):nV c x (m,iV x w,2):=
 ⟨hm,ac2 h hw,.inr (.inr rfl),fun h=>by simp at h,fun h=>by simp at h,fun _=>⟨rfl,rfl⟩⟩
def qz{α:Type}{P:α->Prop}{c:Prop}[Decidable c]{a b:α}(h1:c->P a)(h2: ¬c->P b):P (if c then a else b):=by
 by_cases h:c
 ·rw[if_pos h];exact h1 h
 ·rw[if_neg h];exact h2 h
def aki(H:db p d m)(hx:eu c x){i:Instr}(hi:Gv p.code.length p.an.length i)(D1:x.pc<p.code.length):nV c x (iU p m x i):=by
 have h64:=H.prog.rp;have hp:x.pc<=254:=by omega
 have hm:=H.mem;have hr:x.bz.length=8/\ep x.bz:=⟨hx.bz,hx.cells⟩;have him:=hi.ed;unfold iU;refine qz (P:=nV c x) (fun S7=> ?_) fun _=> ?_
 ·exact⟨hm,ac3 hx hp,.inr (.inl rfl),fun h=>by simp at h,fun _=>rfl,fun h=>by simp at h⟩
 refine qz (P:=nV c x) (fun h=> ?_) fun _=> ?_
 ·exact um hx hm hp hr
 refine qz (P:=nV c x) (fun h=> ?_) fun _=> ?_
 ·exact um hx hm hp (zI hx ⟨⟨by simp,by simp⟩,him⟩)
 refine qz (P:=nV c x) (fun h=> ?_) fun _=> ?_
 ·exact um hx hm hp (zI hx (j6 hx _))
 refine qz (P:=nV c x) (fun h15=> ?_) fun _=> ?_
 ·refine um hx hm hp (zI hx ⟨⟨by simp,by simp⟩,?_⟩);have hl:=hi.lea h15;have hlen:=H.lay.len;have h1:i.ed.toNat<m.layout.aD.length:=by omega
  have h2:i.ed.toNat<p.an.length:=by omega
  rw[dC h1];have:=H.lay.base _ h1 h2;have:=H.lay.sz.elem _ h2;simp only;omega
 refine qz (P:=nV c x) (fun h=> ?_) fun _=> ?_
 ·refine qz (P:=nV c x) (fun h0=> ?_) fun _=> ?_
  ·obtain⟨a,e,ha⟩:=sJ H.lay h0;rw[e];exact um hx (hm.acz (by simpa using ha)) hp (zI hx (hm.load (by simpa using ha)))
  ·exact oA hx hm (AX ..)
 refine qz (P:=nV c x) (fun h=> ?_) fun _=> ?_
 ·refine qz (P:=nV c x) (fun h0=> ?_) fun _=> ?_
  ·obtain⟨a,e,ha⟩:=sJ H.lay h0;rw[e];exact um hx (hm.store (by simpa using ha) (j6 hx _)) hp hr
  ·exact oA hx hm (AX ..)
 refine qz (P:=nV c x) (fun ho=> ?_) fun _=> ?_
 ·have:=hi.jump (by rw[ho];decide);exact si hx hm (by omega) hr hx.saved
 refine qz (P:=nV c x) (fun ho=> ?_) fun _=> ?_
 ·have:=hi.jump (by rw[ho];decide);have:=hx.pc;refine qz (P:=nV c x) (fun h=> ?_) fun _=> ?_
  ·exact si hx hm (by split<;>omega) hr hx.saved
  ·exact oA hx hm (by omega)
 refine qz (P:=nV c x) (fun ho=> ?_) fun _=> ?_
 ·have:=hi.jump (by rw[ho];decide);have:=hx.pc;refine qz (P:=nV c x) (fun h=> ?_) fun _=> ?_
  ·exact si hx hm (by split<;>omega) hr hx.saved
  ·exact oA hx hm (by omega)
 refine qz (P:=nV c x) (fun ho=> ?_) fun _=> ?_
 ·have:=hi.jump (by rw[ho];decide);have:=hx.pc;exact si hx hm (by omega) (zI hx ⟨⟨by simp,by simp⟩,by simp only;omega⟩) hx.saved
 refine qz (P:=nV c x) (fun ho=> ?_) fun _=> ?_
 ·refine qz (P:=nV c x) (fun h=> ?_) fun _=> ?_
  ·refine qz (P:=nV c x) (fun h=> ?_) fun _=> ?_
   ·exact oA hx hm (by omega)
   ·have:=(j6 hx i.a).2;exact si hx hm (by omega) hr hx.saved
  ·exact oA hx hm (by omega)
 refine qz (P:=nV c x) (fun ho=> ?_) fun _=> ?_
 ·refine qz (P:=nV c x) (fun h=> ?_) fun _=> ?_
  ·exact oA hx hm (by omega)
  ·have:=hx.saved;exact si hx hm (by omega) hr (by omega)
 refine qz (P:=nV c x) (fun ho=> ?_) fun _=> ?_
 ·exact um hx hm hp (zI hx (ac0 H.lay (j6 hx _) (j6 hx _)).1)
 ·exact oA hx hm (ac0 H.lay (j6 hx _) (j6 hx _)).2
def yO(H:db p d m)(hx:eu c x):nV c x (ny p m x):=by
 unfold ny;split
 ·rename_i h;have hk:x.pc.toNat<p.code.length:=by have:=hx.pc;omega
  have e:p.code.getD x.pc.toNat qO=p.code[x.pc.toNat]:=by simp[List.getD,hk]
  rw[e];exact aki H hx (H.prog.AW hk) h
 ·exact oA hx H.mem (by omega)
def ac4(h:t<m.threads.length):m.threads.getD t cw=m.threads[t]:=by simp[List.getD,h]
def ac5(H:db p d m)(hC:zV (Gu m.layout.aD p.an) m.memory)(x:Thread)(i:Instr):zV (Gu m.layout.aD p.an) (iU p m x i).1:=by
 have fe: ∀c:Cell,(jL m.layout.aD p.an c i.ed false).2=0->(jL m.layout.aD p.an c i.ed false).1.val.toNat<512/\ ¬Gu m.layout.aD p.an (jL m.layout.aD p.an c i.ed false).1.val.toNat:=fun c h=>by
  obtain⟨a,e,ha⟩:=sJ H.lay h;have r:=We H.lay h;rw[e]at r⊢;simp only[aaH]at r⊢;exact⟨ha,fun g=>by unfold Gu at g;rw[g]at r;cases r⟩
 unfold iU;repeat' (refine qz (P:=fun r:aF×Thread×Int=>zV (Gu m.layout.aD p.an) r.1) (fun h=> ?_) fun h=> ?_)
 all_goals first
  |exact hC
  |exact JC H.mem.mem hC (fe _ h).1
  |exact JD H.mem.mem hC (fe _ h).1 (fe _ h).2 _
def Wf(H:db p d m)(hC:zV (Gu m.layout.aD p.an) m.memory)(x:Thread):zV (Gu m.layout.aD p.an) (ny p m x).1:=by
 unfold ny;split
 ·exact ac5 H hC x _
 ·exact hC
def uU(H:db p c m)(hcd:c<=d){mem:aF}(hm:ql mem)(hk:d<=1000000->zV (Gu m.layout.aD p.an) mem)(hx:eu d x):db p d (iZ m mem t x):=by
 refine⟨H.prog,H.lay,H.key,hm,by simp[iZ,H.len],fun i hi=> ?_,hk⟩;simp only[iZ,aaN]at hi;simp only[iZ,abk];split
 ·exact hx
 ·exact(H.pg i hi).mono hcd
end Go.Proofs.YtdngefmliibcgaaGreat
