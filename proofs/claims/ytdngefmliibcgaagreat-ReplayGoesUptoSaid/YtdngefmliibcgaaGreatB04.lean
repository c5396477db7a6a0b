import Derived.Test.YtdngefmliibcgaaGreatB03
set_option linter.all false
set_option maxRecDepth 20000
set_option maxHeartbeats 0
namespace Go.Proofs.YtdngefmliibcgaaGreat
open Go Go.Abs Go.Abs.jJ Qf
variable  {aK ax d:List Int}{a n o c pc:Int}{p:ac}{back:Bool}{k i b r:Nat}{l:List gc}
def O8: ∀(bs s:List Int) (a:Int) (r:Nat),(sX bs s a r).2=true-> ∃k,∃(h:k<bs.length) (h':k<s.length),(sX bs s a r).1=⟨((r+k:Nat):Int),a-bs[k]⟩/\bs[k]<=a/\a<bs[k]+s[k]
 | [],_,_,_,h=>by simp[sX]at h
 |_::_,[],_,_,h=>by simp[sX]at h
 |b::bs,z::s,a,r,h=>by
  unfold sX at h⊢;split at h
  .rename_i c;rw[if_pos c];exact⟨0,ai,ai,ai,c.1,c.2⟩
  .rename_i c;rw[if_neg c];obtain⟨k,h1,K,e,S,d⟩:=O8 bs s a (r+1) h;refine⟨k+1,eC,dh,?_,by simpa using S,by simpa using d⟩;rw[e];simp only[y4,FE.mk.injEq,and_true];omega
def jn(h:(resolve aK ax a).2=true): ∃k,∃(h:k<aK.length) (h':k<ax.length),(resolve aK ax a).1=⟨(k:Int),a-aK[k]⟩/\aK[k]<=a/\a<aK[k]+ax[k]:=by
 obtain⟨k,h1,K,e,S⟩:=O8 _ _ _ _ h;exact⟨k,h1,K,by simpa[resolve] using e,S⟩
def ji(aK ax:List Int)(p:ac)(n:Int)(back:Bool):ac×Int:=
 if p.gs=1 then
  if(resolve aK ax p.val).2=true then
   if inside ax (resolve aK ax p.val).1.lm (if back=true then(resolve aK ax p.val).1.iC-n else(resolve aK ax p.val).1.iC+n)=true then
    (⟨1,nth aK (resolve aK ax p.val).1.lm.toNat+(if back=true then(resolve aK ax p.val).1.iC-n else(resolve aK ax p.val).1.iC+n)⟩,0)
   else(⟨0,0⟩,4)
  else(⟨0,0⟩,4)
 else(⟨0,0⟩,3)
def ud(h: ¬p.gs=1):ji aK ax p n back=(⟨0,0⟩,3):=by unfold ji;rw[if_neg h]
def uZ(h:p.gs=1)(K:(resolve aK ax p.val).2=false):ji aK ax p n back=(⟨0,0⟩,4):=by
 unfold ji;rw[if_pos h,if_neg (by simp[K])]
def xr(h:p.gs=1)(K:(resolve aK ax p.val).2=true)(e:(resolve aK ax p.val).1=⟨(k:Int),o⟩):
  ji aK ax p n back=if inside ax k (if back=true then o-n else o+n)=true then(⟨1,nth aK k+(if back=true then o-n else o+n)⟩,0) else(⟨0,0⟩,4):=by
 unfold ji;rw[if_pos h,if_pos K,e];simp
@[simp]def al7(a:List Int)(c:Int)(ax:List Int)(q f n:Int)(back:Bool)(L:fM a ax)(hp:0<=f/\f<=65535)(W:0<=n/\n<=65535):cG X 272 [pp a c,.sl false (ax.map (V.int .i64)),pi q f,.int .u16 n,.bool back]=some (.ed [q' ((ji a ax (ac.mk q f) n back).1),.int .i64 ((ji a ax (ac.mk q f) n back).2)]):=by
 refine ij ?_;by_cases h1:q=1
 case neg=>
  exact nB
 subst h1;have r:=z_ f;have U:=z_ n;cases K:(resolve a ax f).2 with
 |false=>
  have e:=uZ (aK:=a) (ax:=ax) (p:=⟨1,f⟩) (n:=n) (back:=back) rfl K;simp[K,r,L,hp,e]
 |true=>
  obtain⟨k,y,t,e,M,Y⟩:=jn K;have em:=xr (aK:=a) (ax:=ax) (p:=⟨1,f⟩) (n:=n) (back:=back) rfl K e;have b:=L.base k y t;have l:=L.sz.elem k t;have Z:=z_ (f-a[k]-n);have D:=z_ (f-a[k]+n);have F:nth a k=a[k]:=dA y;cases back with
  |true=>
   simp only[if_true]at em;by_cases h:inside ax k (f-a[k]-n)=true
   .have:=(iK.1 h);obtain⟨k',s,d,z,o⟩:=this;have Q:k=k':=ab
    subst Q;have w:=z_ (a[k]+(f-a[k]-n));have g:=y_ (a[k]+(f-a[k]-n));rw[if_pos h,F]at em;simp[K,r,U,L,hp,e,em,h,Z,w,g,y]
   .rw[if_neg h]at em;simp[K,r,U,L,hp,e,em,h,Z]
  |false=>
   simp only[r3,if_false]at em;by_cases h:inside ax k (f-a[k]+n)=true
   .have:=(iK.1 h);obtain⟨k',s,d,z,o⟩:=this;have Q:k=k':=ab
    subst Q;have w:=z_ (a[k]+(f-a[k]+n));have g:=y_ (a[k]+(f-a[k]+n));rw[if_pos h,F]at em;simp[K,r,U,L,hp,e,em,h,D,w,g,y]
   .rw[if_neg h]at em;simp[K,r,U,L,hp,e,em,h,D]
@[simp]def auy(a:List Int)(c:Int)(ax:List Int)(q f n:Int)(back:Bool)(L:fM a ax)(hp:0<=f/\f<=65535)(W:0<=n/\n<=65535):cG X 291 [pp a c,.sl false (ax.map (V.int .i64)),pi q f,.int .u16 n,.bool back]=some (.ed [q' ((ji a ax (ac.mk q f) n back).1),.int .i64 ((ji a ax (ac.mk q f) n back).2)]):=by
 refine ij ?_;by_cases h1:q=1
 case neg=>
  exact nB
 subst h1;have w:=z_ f;have r:=z_ n;have m:IntKind.i64.wrap (0-n)= -n:=g7
 have P:=z_ (-n);cases K:(resolve a ax f).2 with
 |false=>
  have e:=uZ (aK:=a) (ax:=ax) (p:=⟨1,f⟩) (n:=n) (back:=back) rfl K;simp[K,w,L,hp,e]
 |true=>
  obtain⟨k,y,t,e,M,U⟩:=jn K;have em:=xr (aK:=a) (ax:=ax) (p:=⟨1,f⟩) (n:=n) (back:=back) rfl K e;have b:=L.base k y t;have u:=L.sz.elem k t;have l:=L.len;have B: ∀i (h:i<a.length), -1000<=a[i]/\a[i]<=1000:=fun i h=>by
   have:=L.base i h ab;have:=L.sz.elem i ab;omega
  have z: ∀i (h:i<ax.length),ax[i]<=1000:=fun i h=>by
   have:=L.sz.elem i h;omega
  have C:f-a[k]+ -n=f-a[k]-n:=ab
  have Z:IntKind.i64.wrap (f-a[k]+ -n)=f-a[k]-n:=g7
  have D:=z_ (f-a[k]+n);have F:nth a k=a[k]:=dA y;cases back with
  |true=>
   simp only[if_true]at em;by_cases j:inside ax k (f-a[k]-n)=true
   .have:=(iK.1 j);obtain⟨k',s,d,A,o⟩:=this;have Q:k=k':=ab
    subst Q;have g:=y_ (a[k]+(f-a[k]-n));rw[if_pos j,F]at em;simp[K,w,r,P,L,hp,e,em,j,Z,g,l,B,z,F]
   .rw[if_neg j]at em;simp[K,w,r,P,L,hp,e,em,j,Z,l,B,z]
  |false=>
   simp only[r3,if_false]at em;by_cases j:inside ax k (f-a[k]+n)=true
   .have:=(iK.1 j);obtain⟨k',s,d,A,o⟩:=this;have Q:k=k':=ab
    subst Q;have g:=y_ (a[k]+(f-a[k]+n));rw[if_pos j,F]at em;simp[K,w,r,L,hp,e,em,j,D,g,l,B,z,F]
   .rw[if_neg j]at em;simp[K,w,r,L,hp,e,em,j,D,l,B,z]
def nw(aK ax:List Int)(b c:ac):Option Int:=
 if(resolve aK ax b.val).2=true/\(resolve aK ax c.val).2=true/\(resolve aK ax b.val).1.lm=(resolve aK ax c.val).1.lm then
  some ((resolve aK ax b.val).1.iC-(resolve aK ax c.val).1.iC) else none
def zY(op b c:Int):ac×Int:=
 if op=3 then(⟨0,IntKind.u16.wrap (b+c)⟩,0)
 else if op=4 then(⟨0,IntKind.u16.wrap (b-c)⟩,0)
 else if op=5 then(⟨0,IntKind.u16.wrap (b*c)⟩,0)
 else if op=6 then(if c=0 then(⟨0,0⟩,5) else(⟨0,IntKind.u16.wrap (b.tdiv c)⟩,0))
 else if op=7 then(if c=0 then(⟨0,0⟩,5) else(⟨0,b.tmod c⟩,0))
 else if op=8 then(⟨0,Go.Abs.bits .u16 .and b c⟩,0)
 else if op=9 then(⟨0,Go.Abs.bits .u16 .or b c⟩,0)
 else if op=10 then(⟨0,Go.Abs.bits .u16 .xor b c⟩,0)
 else if op=11 then(⟨0,IntKind.u16.wrap (b*2^ (min (c.tmod 16).toNat 16))⟩,0)
 else if op=12 then(⟨0,b.fdiv (2^ (min (c.tmod 16).toNat 16))⟩,0)
 else if b<c then(⟨0,1⟩,0) else(⟨0,0⟩,0)
@[simp]def Y5(op b c:Int)(e:0<=b/\b<=65535)(m:0<=c/\c<=65535)(o:3<=op/\op<=13):cG X 296 [op,.int .u16 b,.int .u16 c]=some (.ed [q' ((zY op b c).1),.int .i64 ((zY op b c).2)]):=by
 refine ij ?_;have z:op=3\/op=4\/op=5\/op=6\/op=7\/op=8\/op=9\/op=10\/op=11\/op=12\/op=13:=ab
 have P:0<=c.tmod 16:=DS _ m.1;have U: ¬c.tmod 16<0:=ab
 have a:IntKind.u16.bits=16:=rfl;by_cases O:c=0
 .subst O;rcases z with rfl|rfl|rfl|rfl|rfl|rfl|rfl|rfl|rfl|rfl|rfl;all_goals simp[zY,a]
  all_goals (by_cases h:b<0<;>simp[h])
 .rcases z with rfl|rfl|rfl|rfl|rfl|rfl|rfl|rfl|rfl|rfl|rfl;all_goals simp[zY,O,U,a]
  all_goals (by_cases h:b<c<;>simp[h])
@[simp]def ai9(op b c:Int)(e:0<=b/\b<=65535)(m:0<=c/\c<=65535)(o:3<=op/\op<=13):cG X 300 [op,.int .u16 b,.int .u16 c]=some (.ed [q' ((zY op b c).1),.int .i64 ((zY op b c).2)]):=by
 refine ij ?_;have z:op=3\/op=4\/op=5\/op=6\/op=7\/op=8\/op=9\/op=10\/op=11\/op=12\/op=13:=ab
 have P:0<=c.tmod 16:=DS _ m.1;have U: ¬c.tmod 16<0:=ab
 have a:IntKind.u16.bits=16:=rfl;by_cases O:c=0
 .subst O;rcases z with rfl|rfl|rfl|rfl|rfl|rfl|rfl|rfl|rfl|rfl|rfl;all_goals simp[zY,a]
  all_goals (by_cases h:b<0<;>simp[h])
 .rcases z with rfl|rfl|rfl|rfl|rfl|rfl|rfl|rfl|rfl|rfl|rfl;all_goals simp[zY,O,U,a]
  all_goals (by_cases h:b<c<;>simp[h])
@[simp]def aja(a:List Int)(I:Int)(ax:List Int)(o i f d:Int)(L:fM a ax)(b:0<=i/\i<=65535)(c:0<=d/\d<=65535):cG X 297 [pp a I,.sl false (ax.map (V.int .i64)),pi o i,pi f d]=some (.ed [y9 ((resolve a ax i).1),y9 ((resolve a ax d).1),.bool ((resolve a ax i).2&& ((resolve a ax d).2&&decide ((resolve a ax i).1.lm=(resolve a ax d).1.lm)))]):=by
 refine ij ?_;have w:=z_ i;have h:=z_ d;cases h1:(resolve a ax i).2<;>cases K:(resolve a ax d).2<;>simp[L,b,c,w,h,h1,K]
@[simp]def aq3(a:List Int)(I:Int)(ax:List Int)(o i f d:Int)(L:fM a ax)(b:0<=i/\i<=65535)(c:0<=d/\d<=65535):cG X 301 [pp a I,.sl false (ax.map (V.int .i64)),pi o i,pi f d]=some (.ed [.int .i64 ((nw a ax (ac.mk o i) (ac.mk f d)).getD 0),.int .i64 (if nw a ax (ac.mk o i) (ac.mk f d)=none then 4 else 0)]):=by
 refine ij ?_;have w:=z_ i;have h:=z_ d;cases h1:(resolve a ax i).2 with
 |false=>simp[L,b,c,w,h,h1,nw]
 |true=>
  cases K:(resolve a ax d).2 with
  |false=>simp[L,b,c,w,h,h1,K,nw]
  |true=>
   obtain⟨k,y,t,e,M,U⟩:=jn h1;obtain⟨j,q,l,F,z,H⟩:=jn K;have p:=L.base k y t;have g:=L.base j q l;have r:=z_ (i-a[k]-(d-a[j]));by_cases C:(k:Int)=j
   .have B:k=j:=ab
    subst B;simp[L,b,c,w,h,h1,K,e,F,r,nw]
   .have B: ¬k=j:=ab
    simp[L,b,c,w,h,h1,K,e,F,C,nw]
def rn(aK ax:List Int)(op:Int)(b c:ac):ac×Int:=
 if op<3\/14<op then(⟨0,0⟩,1)
 else if op=14 then(if b.gs=c.gs/\b.val=c.val then⟨0,1⟩ else⟨0,0⟩,0)
 else if b.gs=0/\c.gs=0 then zY op b.val c.val
 else if op=3/\b.gs=1/\c.gs=0 then ji aK ax b c.val false
 else if op=3/\b.gs=0/\c.gs=1 then ji aK ax c b.val false
 else if op=4/\b.gs=1/\c.gs=0 then ji aK ax b c.val true
 else if(op=4\/op=13)/\b.gs=1/\c.gs=1 then
  match nw aK ax b c with
  |none=>(⟨0,0⟩,4)
  |some n=>if op=13 then(if n<0 then⟨0,1⟩ else⟨0,0⟩,0) else(⟨0,IntKind.u16.wrap n⟩,0)
 else(⟨0,0⟩,3)
def iA(aK ax:List Int)(p:ac)(n:Int):Int×Int:=
 if p.gs=1 then
  if(resolve aK ax p.val).2=true then
   if n<0 then(0,4) else if nth ax (resolve aK ax p.val).1.lm.toNat-(resolve aK ax p.val).1.iC<n then(0,4) else(p.val,0)
  else(0,4)
 else(0,3)
@[simp]def au0(a:List Int)(I:Int)(ax:List Int)(op H i f d:Int)(L:fM a ax)(b:0<=i/\i<=65535)(c:0<=d/\d<=65535):cG X 274 [pp a I,.sl false (ax.map (V.int .i64)),.int .i64 op,pi H i,pi f d]=some (.ed [q' ((rn a ax op (ac.mk H i) (ac.mk f d)).1),.int .i64 ((rn a ax op (ac.mk H i) (ac.mk f d)).2)]):=by
 refine ij ?_;by_cases h1:op<3
 .simp[h1,rn]
 by_cases K:14<op
 .simp[h1,K,rn]
 by_cases S:op=14
 .subst S;by_cases p:H=f
  .by_cases u:i=d
   .simp[p,u,rn]
   .simp[p,u,rn]
  .simp[p,rn]
 have y:3<=op/\op<=13:=ab
 by_cases l:H=0
 .by_cases q:f=0
  .simp[h1,K,S,l,q,y,b,c,rn]
  .by_cases P:op=3
   .by_cases t:f=1
    .simp[l,t,P,L,b,c,rn]
    .simp[l,q,t,P,rn]
   .by_cases Y:op=4
    .simp[l,q,Y,rn]
    .by_cases O:op=13
     .simp[l,q,O,rn]
     .simp[h1,K,S,l,q,P,Y,O,rn]
 .by_cases E:H=1
  .by_cases q:f=0
   .by_cases P:op=3
    .simp[E,q,P,L,b,c,rn]
    .by_cases Y:op=4
     .simp[E,q,Y,L,b,c,rn]
     .by_cases O:op=13
      .simp[E,q,O,rn]
      .simp[h1,K,S,E,q,P,Y,O,rn]
   .by_cases t:f=1
    .by_cases o:op=4\/op=13
     .have key:rn a ax op (ac.mk H i) (ac.mk f d)=match nw a ax (ac.mk H i) (ac.mk f d) with|none=>(⟨0,0⟩,4)|some n=>if op=13 then(if n<0 then⟨0,1⟩ else⟨0,0⟩,0) else(⟨0,IntKind.u16.wrap n⟩,0):=by
       rcases o with rfl|rfl<;>simp[rn,E,t]<;>rfl
      rw[key];have x: ∀n:Int,nw a ax (ac.mk H i) (ac.mk f d)=some n->(resolve a ax i).2=true/\(resolve a ax d).2=true/\(resolve a ax i).1.lm=(resolve a ax d).1.lm/\n=(resolve a ax i).1.iC-(resolve a ax d).1.iC:=fun n W=>by
       unfold nw at W;split at W
       .rename_i c;simp at W;exact⟨c.1,c.2.1,c.2.2,W.symm⟩
       .simp at W
      have v:nw a ax (ac.mk H i) (ac.mk f d)=none->((resolve a ax i).2&& ((resolve a ax d).2&&decide ((resolve a ax i).1.lm=(resolve a ax d).1.lm)))=false:=fun W=>by
       unfold nw at W;split at W
       .simp at W
       .rename_i c;rw[<-Bool.not_eq_true];simpa using c
      cases g:nw a ax (ac.mk H i) (ac.mk f d) with
      |none=>
       have v:=v g;rcases o with rfl|rfl
       .simp[h1,K,S,E,t,L,b,c,v]
       .simp[h1,K,S,E,t,L,b,c,v]
      |some n=>
       obtain⟨U,r,m,s⟩:=x n g;have Z:((resolve a ax i).1.iC<(resolve a ax d).1.iC)↔n<0:=ab
       obtain⟨k,z,G,e,Q,N⟩:=jn U;obtain⟨j,A,D,F,C,J⟩:=jn r;have M:=L.base k z G;have B:=L.base j A D;have w:IntKind.i64.wrap ((resolve a ax i).1.iC-(resolve a ax d).1.iC)=n:=by rw[<-s];rw[e,F]at s;exact wrap_i64 (by simp only at s;omega)
       rcases o with rfl|rfl
       .simp[h1,K,S,E,t,L,b,c,U,r,m,w]
       .by_cases W:n<0
        .simp[h1,K,S,E,t,L,b,c,U,r,m,Z,W]
        .simp[h1,K,S,E,t,L,b,c,U,r,m,Z,W]
     .have P: ¬op=4:=fun h=>o (.inl h);have Y: ¬op=13:=fun h=>o (.inr h);simp[h1,K,S,E,t,P,Y,rn]
    .by_cases P:op=3
     .simp[E,q,t,P,rn]
     .by_cases Y:op=4
      .simp[E,q,t,Y,rn]
      .by_cases O:op=13
       .simp[E,q,t,O,rn]
       .simp[h1,K,S,E,q,t,P,Y,O,rn]
  .by_cases P:op=3
   .simp[l,E,P,rn]
   .by_cases Y:op=4
    .simp[l,E,Y,rn]
    .by_cases O:op=13
     .simp[l,E,O,rn]
     .simp[h1,K,S,l,E,P,Y,O,rn]
@[simp]def a2o(a:List Int)(c:Int)(ax:List Int)(op H i f d:Int)(L:fM a ax)(b:0<=i/\i<=65535)(h:0<=d/\d<=65535):cG X 293 [pp a c,.sl false (ax.map (V.int .i64)),.int .i64 op,pi H i,pi f d]=some (.ed [q' ((rn a ax op (ac.mk H i) (ac.mk f d)).1),.int .i64 ((rn a ax op (ac.mk H i) (ac.mk f d)).2)]):=by
 refine ij ?_;by_cases h1:op<3
 .simp[h1,rn]
 by_cases K:14<op
 .simp[h1,K,rn]
 by_cases S:op=14
 .subst S;by_cases e:H=f
  .by_cases p:i=d
   .simp[e,p,rn]
   .simp[e,p,rn]
  .simp[e,rn]
 have g:3<=op/\op<=13:=ab
 by_cases j:H=0
 .by_cases t:f=0
  .simp[h1,K,S,j,t,g,b,h,rn]
  .by_cases y:f=1
   .by_cases P:op=3
    .simp[j,y,P,L,b,h,rn]
    .simp[h1,K,S,j,y,P,rn]
   .simp[h1,K,S,j,t,y,rn]
 .by_cases E:H=1
  .by_cases t:f=0
   .by_cases P:op=3
    .simp[E,t,P,L,b,h,rn]
    .by_cases o:op=4
     .simp[E,t,o,L,b,h,rn]
     .simp[h1,K,S,E,t,P,o,rn]
   .by_cases y:f=1
    .subst E y;by_cases o:op=4
     .have key:rn a ax op ⟨1,i⟩ ⟨1,d⟩=match nw a ax ⟨1,i⟩ ⟨1,d⟩ with|none=>(⟨0,0⟩,4)|some n=>(⟨0,IntKind.u16.wrap n⟩,0):=by
       simp[rn,o]
      rw[key];cases W:nw a ax ⟨1,i⟩ ⟨1,d⟩ with
      |none=>simp[o,L,b,h,W]
      |some n=>simp[o,L,b,h,W]
     .by_cases O:op=13
      .have key:rn a ax op ⟨1,i⟩ ⟨1,d⟩=match nw a ax ⟨1,i⟩ ⟨1,d⟩ with|none=>(⟨0,0⟩,4)|some n=>(if n<0 then⟨0,1⟩ else⟨0,0⟩,0):=by
        simp[rn,O]
       rw[key];cases W:nw a ax ⟨1,i⟩ ⟨1,d⟩ with
       |none=>simp[O,L,b,h,W]
       |some n=>
        by_cases Y:n<0
        .simp[O,L,b,h,W,Y]
        .simp[O,L,b,h,W,Y]
      .simp[h1,K,S,o,O,rn]
    .simp[h1,K,S,E,t,y,rn]
  .simp[h1,K,S,j,E,rn]
@[simp]def afa(a:List Int)(c:Int)(ax:List Int)(q f n:Int)(h:fM a ax)(hp:0<=f/\f<=65535)(W:n<=1000000):cG X 249 [pp a c,.sl false (ax.map (V.int .i64)),pi q f,.int .i64 n]=some (.ed [.int .i64 ((iA a ax (ac.mk q f) n).1),.int .i64 ((iA a ax (ac.mk q f) n).2)]):=by
 refine ij ?_;by_cases h1:q=1
 case neg=>simp[h1,iA]
 have w:=z_ f;cases K:(resolve a ax f).2 with
 |false=>simp[h1,K,w,h,hp,iA]
 |true=>
  obtain⟨k,y,t,e,M,U⟩:=jn K;have o:=h.base k y t;have z:=h.sz.elem k t;have F:nth ax k=ax[k]:=dA t;have r:=z_ (ax[k]-(f-a[k]));by_cases S:n<0
  .simp[h1,K,w,h,hp,e,S,iA]
  by_cases b:ax[k]-(f-a[k])<n
  .exact nx
  .exact nx
@[simp]def al8(a:List Int)(c:Int)(ax:List Int)(q f n:Int)(h:fM a ax)(hp:0<=f/\f<=65535)(W:n<=1000000):cG X 232 [pp a c,.sl false (ax.map (V.int .i64)),pi q f,.int .i64 n]=some (.ed [.int .i64 ((iA a ax (ac.mk q f) n).1),.int .i64 ((iA a ax (ac.mk q f) n).2)]):=by
 refine ij ?_;by_cases h1:q=1
 case neg=>simp[h1,iA]
 have w:=z_ f;cases K:(resolve a ax f).2 with
 |false=>simp[h1,K,w,h,hp,iA]
 |true=>
  obtain⟨k,y,t,e,M,U⟩:=jn K;have o:=h.base k y t;have z:=h.sz.elem k t;have F:nth ax k=ax[k]:=dA t;have r:=z_ (ax[k]-(f-a[k]));by_cases S:n<0
  .simp[h1,K,w,h,hp,e,S,iA]
  by_cases b:ax[k]-(f-a[k])<n
  .exact nx
  .exact nx
structure AU (p:g9):Prop where
 ax:p.ax.length<=1000000000
 ap:p.ap.length<=1000000000
 hw:p.hw.length<=1000000000
structure yA (m:aN):Prop where
 aK:m.am.aK.length<=1000000000
 cells:m.gt.cells.length<=1000000000
 ge:m.gt.ge.length<=1000000000
 line: ∀i (h:i<m.gt.ge.length),(m.gt.ge[i]).cells.length<=1000000000
 ce:m.ce.length<=1000000000
 bK: ∀i (h:i<m.ce.length),(m.ce[i]).bK.length<=1000000000
def nX(l:List gc):Bool:=l.all oP
def EX(h:i<l.length):nX (l.take (i+1))=(nX (l.take i)&&oP l[i]):=yw h
def Pa(h:i<l.length)(hp:oP l[i]=false):nX l=false:=wO h hp
def C5:nX (l.take l.length)=nX l:=ek
def fO(p:g9)(m:aN):Bool:=decide (jD p=0)&& (jb m.am.aK p.ax&& (yx m.gt&& (decide (m.ce.length=4)&&nX m.ce)))
@[simp]def k7(u:List hu)(q:List Int)(w:List (List Int))(Z:List Int)(k:Int)(d:List ac)(e:List cP)(a:List gc)(hp:AU (wn u q w))(m:yA (w_ Z k d e a)):cG X 23 [iB u q w,ol Z k d e a]=some (.bool (fO (wn u q w) (w_ Z k d e a))):=by
 refine ij ?_;have B:q.length<=1000000000:=hp.ax;have C:w.length<=1000000000:=hp.ap;have Y:u.length<=1000000000:=hp.hw;have r:Z.length<=1000000000:=m.aK;have l:d.length<=1000000000:=m.cells;have U:e.length<=1000000000:=m.ge;have x: ∀i (h:i<e.length),(e[i]).cells.length<=1000000000:=m.line;have o:a.length<=1000000000:=m.ce;have n: ∀i (h:i<a.length),(a[i]).bK.length<=1000000000:=m.bK;by_cases c:jD (wn u q w)=0
 case neg=>
  simp[B,C,Y,c,fO]
 cases b:jb Z q
 case false=>
  simp[B,C,Y,r,c,b,fO]
 cases j:yx ⟨d,e⟩
 case false=>
  simp[B,C,Y,r,l,U,x,c,b,j,fO]
 by_cases A:(a.length:Int)=4
 case neg=>
  have s: ¬a.length=4:=ab
  simp[B,C,Y,r,l,U,x,c,b,j,A,s,fO]
 have s:a.length=4:=ab
 have key:fO (wn u q w) (w_ Z k d e a)=nX a:=by unfold fO;simp only[c,b,j,s];simp
 rw[key];clear key;simp[B,C,Y,r,l,U,x,c,b,j,s];refine dO (fun i S=>(S.f 31=a/\S.f 32=((a).length:Int)/\S.f 33=(i:Int)/\S.n=1100)/\(nX (a.take i)=true)) (a.length) ab ?_ ?_ ?_
 .rintro i S ⟨G,O,z⟩ ⟨N,f⟩;have g:=n i z;cases h:oP a[i]
  .have:=Pa z h;simp[N,z,g,h,this]
  .have:=EX z;simp[N,O,z,g,h,this,f]
 .rintro S ⟨N,f⟩;simp[N]<;>(
   rw[C5]at f;simp[f])
 .simp<;>(
   exact⟨ab,rfl⟩)
@[simp]def afb(e:Int)(c:List ac)(i G d H f g:Int)(h:c.length<=1000000000):cG X 148 [r7 e c i G d H f g]=some (.bool (!oP (gc.mk e c i G d H f g))):=by
 refine ij ?_;simp[h]
@[simp]def jU(W:List Int)(k:Int)(J:List ac)(g:List cP)(d:List gc)(Q:List Int)(b:Int)(R:List ac)(j:List cP)(Z:List gc)(m:yA (w_ W k J g d)):cG X 25 [ol W k J g d,ol Q b R j Z]=some (.bool (decide ((aN.mk (iy.mk W k) (aD.mk J g) d)=(aN.mk (iy.mk Q b) (aD.mk R j) Z)))):=by
 refine ij ?_;have r:W.length<=1000000000:=m.aK;have u:J.length<=1000000000:=m.cells;have U:g.length<=1000000000:=m.ge;have Y: ∀i (h:i<g.length),(g[i]).cells.length<=1000000000:=m.line;have a:d.length<=1000000000:=m.ce;have n: ∀i (h:i<d.length),(d[i]).bK.length<=1000000000:=m.bK;have key:(aN.mk ⟨W,k⟩ ⟨J,g⟩ d=aN.mk ⟨Q,b⟩ ⟨R,j⟩ Z)↔
   (iy.mk W k=iy.mk Q b/\aD.mk J g=aD.mk R j/\d=Z):=by simp[and_assoc]
 by_cases l:iy.mk W k=iy.mk Q b
 case neg=>
  have k1: ¬(aN.mk ⟨W,k⟩ ⟨J,g⟩ d=aN.mk ⟨Q,b⟩ ⟨R,j⟩ Z):=fun h=>l (key.1 h).1;have k2:=decide_eq_false k1;rw[k2];have V:=decide_eq_false l;simp[-iy.mk.injEq,r,l]
 by_cases p:aD.mk J g=aD.mk R j
 case neg=>
  have k1: ¬(aN.mk ⟨W,k⟩ ⟨J,g⟩ d=aN.mk ⟨Q,b⟩ ⟨R,j⟩ Z):=fun h=>p (key.1 h).2.1;have k2:=decide_eq_false k1;rw[k2];simp[-iy.mk.injEq, -aD.mk.injEq,r,u,U,Y,l,p]
 by_cases e:(d.length:Int)=Z.length
 case neg=>
  have k1: ¬(aN.mk ⟨W,k⟩ ⟨J,g⟩ d=aN.mk ⟨Q,b⟩ ⟨R,j⟩ Z):=fun h=>e (by rw[(key.1 h).2.2]);have k2:=decide_eq_false k1;rw[k2];simp[-iy.mk.injEq, -aD.mk.injEq,r,u,U,Y,l,p,e]
 have x:d.length=Z.length:=ab
 have k3:decide (aN.mk ⟨W,k⟩ ⟨J,g⟩ d=aN.mk ⟨Q,b⟩ ⟨R,j⟩ Z)=decide (d=Z):=by
  rw[decide_eq_decide,key];exact⟨fun h=>h.2.2,fun h=>⟨l,p,h⟩⟩
 rw[k3];clear key k3;simp[-iy.mk.injEq, -aD.mk.injEq,r,u,U,Y,l,p,e];refine dO (fun i S=>(S.f 2= .ptr 2 0 0/\S.h 2=some ⟨5,[ol W k J g d],true⟩/\S.f 3= .ptr 3 0 0/\S.h 3=some ⟨5,[ol Q b R j Z],true⟩/\S.f 31=((d).length:Int)/\S.f 32=(i:Int)/\S.n=1100)/\(d.take i=Z.take i)) (d.length) ab ?_ ?_ ?_
 .rintro i S ⟨G,O,c⟩ ⟨N,f⟩;have v:i<Z.length:=ab
  have D:=n i c;by_cases q:d[i]=Z[i]
  .have:=we c v f q;have B:=q▸D;simp[N,O,c, -gc.mk.injEq,v,B,q,this]
  .have: ¬d=Z:=fun h=>q dH;simp[N,c, -gc.mk.injEq,v,D,q,this]
 .rintro S ⟨N,f⟩;simp[N]<;>(
   exact ub (i:=d.length) ab x f)
 .simp<;>(
   first|rfl|omega|exact⟨ab,rfl⟩)
def dc(call:Int):List UInt8:=
 if call=0\/call=8\/call=9\/call=11\/call=12 then [78] else if call=1\/call=2 then [72,80,78] else if call=3 then [78,78] else if call=4 then [72]
 else if call=5 then [72,78] else if call=10 then [78,88] else if call=13\/call=14 then [78,80,78] else []
def kv(call:Int):Int:=if call<0\/15<call then-1 else if call=1\/call=13 then 1 else if call=2\/call=14 then 2 else 0
def rL(call:Int):Int:=if call<0\/15<call then-1 else((dc call).length:Int)
def mn(h:0<=c/\c<=15):c=0\/c=1\/c=2\/c=3\/c=4\/c=5\/c=6\/c=7\/c=8\/c=9\/c=10\/c=11\/c=12\/c=13\/c=14\/c=15:=ab
@[simp]def ajb(call:Int)(h:0<=call/\call<=15):cG X 247 [call]=some (.str (dc call)):=by
 refine ij ?_;rcases mn h with rfl|rfl|rfl|rfl|rfl|rfl|rfl|rfl|rfl|rfl|rfl|rfl|rfl|rfl|rfl|rfl<;>simp[dc]
@[simp]def UG(call:Int):cG X 196 [call]=some (.int .i64 (rL call)):=by
 refine ij ?_;by_cases h:0<=call/\call<=15
 .exact mb
 .by_cases h1:call<0
  .simp[h1,rL]
  .have K:15<call:=ab
   simp[h1,K,rL]
@[simp]def afc(call:Int):cG X 197 [call]=some (.int .i64 (kv call)):=by
 refine ij ?_;by_cases h:0<=call/\call<=15
 .rcases mn h with rfl|rfl|rfl|rfl|rfl|rfl|rfl|rfl|rfl|rfl|rfl|rfl|rfl|rfl|rfl|rfl<;>simp[kv]
 .by_cases h1:call<0
  .simp[h1,kv]
  .have K:15<call:=ab
   simp[h1,K,kv]
@[simp]def Y8(call:Int):cG X 266 [call]=some (.ed [.str (if call<0\/15<call then [] else dc call),.int .i64 (if call<0\/15<call then 0 else kv call),.bool (decide (0<=call/\call<=15))]):=by
 refine ij ?_;by_cases h:0<=call/\call<=15
 .exact mc
 .have k: ¬call=0:=ab
  have t: ¬call=1:=ab
  have A: ¬call=2:=ab
  have J: ¬call=3:=ab
  have Q: ¬call=4:=ab
  have Y: ¬call=5:=ab
  have g: ¬call=6:=ab
  have o: ¬call=7:=ab
  have w: ¬call=8:=ab
  have E: ¬call=9:=ab
  have I: ¬call=10:=ab
  have R: ¬call=11:=ab
  have a: ¬call=12:=ab
  have j: ¬call=13:=ab
  have s: ¬call=14:=ab
  have n: ¬call=15:=ab
  have f:call<0\/15<call:=ab
  simp[k,t,A,J,Q,Y,g,o,w,E,I,R,a,j,s,n,f,h]
@[simp]def QF(call:Int):cG X 228 [call]=some (.int .i64 (rL call)):=by
 refine ij ?_;by_cases h:0<=call/\call<=15
 .exact mb
 .have f:call<0\/15<call:=ab
  simp[h,f,rL]
@[simp]def Xu(call:Int):cG X 231 [call]=some (.int .i64 (kv call)):=by
 refine ij ?_;by_cases h:0<=call/\call<=15
 .exact mc
 .have f:call<0\/15<call:=ab
  simp[h,f,kv]
def wh(kind gs:Int):Bool:=if kind=78 then decide (gs=0) else if kind=72 then decide (gs=2) else if kind=80 then decide (gs=1) else true
def lZ(x:fd):Bool:=
 if x.gs=0\/x.gs=2 then decide (x.lm=0)&&decide (x.iC=0)
 else if x.gs=1 then(if x.lm= -1 then decide (x.val=0)&& (decide (0<=x.iC)&&decide (x.iC<=65535))
  else decide (x.val=0)&& (decide (0<=x.lm)&& (decide (x.lm<4)&& (decide (0<=x.iC)&&decide (x.iC<32))))) else false
def iH(l:List fd):Bool:=l.all lZ
def Pd{l:List fd}(h:i<l.length):iH (l.take (i+1))=(iH (l.take i)&&lZ l[i]):=yw h
def afd{l:List fd}(h:i<l.length)(hp:lZ l[i]=false):iH l=false:=wO h hp
def KP{l:List fd}:iH (l.take l.length)=iH l:=ek
@[simp]def al9(kind gs:Int):cG X 248 [.int .u8 kind,.int .u8 gs]=some (.bool (wh kind gs)):=by
 refine ij ?_;by_cases h1:kind=78
 .simp[h1,wh]
 by_cases K:kind=72
 .simp[K,wh]
 by_cases h:kind=80
 .simp[h,wh]
 .simp[h1,K,h,wh]
@[simp]def ama(j p g h:Int):cG X 242 [v7 j p g h]=some (.bool (lZ (fd.mk j p g h))):=by
 refine ij ?_;by_cases t0:j=0
 .by_cases r:g=0<;>simp[t0,r,lZ]
 by_cases q:j=2
 .by_cases r:g=0<;>simp[q,r,lZ]
 by_cases t:j=1
 case neg=>simp[t0,t,q,lZ]
 by_cases r:g= -1
 .by_cases v:p=0
  .by_cases o:0<=h<;>simp[t,r,v,o,lZ]
  .simp[t,r,v,lZ]
 .by_cases v:p=0
  .by_cases o:0<=g
   .by_cases z:g<4
    .by_cases H:0<=h<;>simp[t,r,v,o,z,H,lZ]
    .simp[t,r,v,o,z,lZ]
   .simp[t,r,v,o,lZ]
  .simp[t,r,v,lZ]
@[simp]def afe(f d q s:Int):cG X 214 [v7 f d q s]=some (.bool (lZ (fd.mk f d q s))):=by
 refine ij ?_;by_cases t0:f=0
 .by_cases r:q=0<;>simp[t0,r,lZ]
 by_cases u:f=2
 .by_cases r:q=0<;>simp[u,r,lZ]
 by_cases t:f=1
 case neg=>simp[t0,t,u,lZ]
 by_cases v:d=0
 case neg=>
  by_cases r:q= -1
  .by_cases o:0<=s<;>simp[t,r,v,o,lZ]
  .simp[t,r,v,lZ]
 by_cases r:q= -1
 .by_cases o:0<=s
  .by_cases H:s<=65535
   .simp[t,r,v,o,H,lZ]
   .simp[t,r,v,o,H,lZ]
  .simp[t,r,v,o,lZ]
 .by_cases o:0<=q
  .by_cases z:q<4
   .by_cases H:0<=s<;>simp[t,r,v,o,z,H,lZ]
   .simp[t,r,v,o,z,lZ]
  .simp[t,r,v,o,lZ]
@[simp]def ajc(l:List fd)(n:Int)(m:l.length<=1000000000):cG X 177 [l,n]=some (.bool (iH l&&decide ((l.length:Int)<=n))):=by
 refine ij ?_;simp;refine dO (fun i S=>(S.f 0=l/\S.f 1= .int .i64 n/\S.f 7=l/\S.f 8=((l).length:Int)/\S.f 9=(i:Int)/\S.n=1100)/\(iH (l.take i)=true)) (l.length) ab ?_ ?_ ?_
 .rintro i S ⟨q,O,c⟩ ⟨d,f⟩;cases h:lZ l[i]
  .have:=afd c h;simp[d,c,h,this]
  .have:=Pd c;simp[d,O,c,h,this,f]
 .rintro S ⟨d,f⟩;simp[d]<;>(
   rw[KP]at f;simp[f])
 .simp<;>(
   rfl)
@[simp]def UH(f d q s:Int):cG X 258 [v7 f d q s]=some (.bool (!lZ (fd.mk f d q s))):=by
 exact lT
def ko(r:io):Bool:=decide (0<=r.cw)&& (decide (r.cw<4)&& (decide (0<=r.j')&& (decide (r.j'<=3)&& (decide (0<=r.dD)&& (decide (r.dD<=6)&& (decide (0<=r.ia)&& (decide (r.ia<=1099511627776)
 && (decide (0<=r.pc)&& (decide (r.pc<=255)&& (decide (0<=r.call)&& (decide (r.call<=15)&& (iH r.args&& (decide (r.args.length<=3)&& (iH r.ap&&decide (r.ap.length<=16)))))))))))))))
@[simp]def eh(W C u g M V:Int)(p S:List fd)(h1:p.length<=1000000000)(h:S.length<=1000000000):cG X 94 [i7 W C u g M V p S]=some (.bool (ko (v_ W C u g M V p S))):=by
 refine ij ?_;by_cases c:0<=W
 case neg=>simp[c,ko]
 by_cases b:W<4
 case neg=>simp[c,b,ko]
 by_cases j:0<=C
 case neg=>simp[c,b,j,ko]
 by_cases r:C<=3
 case neg=>simp[c,b,j,r,ko]
 by_cases z:0<=u
 case neg=>simp[c,b,j,r,z,ko]
 by_cases H:u<=6
 case neg=>simp[c,b,j,r,z,H,ko]
 by_cases P:0<=g
 case neg=>simp[c,b,j,r,z,H,P,ko]
 by_cases Y:g<=1099511627776
 case neg=>simp[c,b,j,r,z,H,P,Y,ko]
 by_cases f:0<=M
 case neg=>simp[c,b,j,r,z,H,P,Y,f,ko]
 by_cases v:M<=255
 case neg=>simp[c,b,j,r,z,H,P,Y,f,v,ko]
 by_cases J:0<=V
 case neg=>simp[c,b,j,r,z,H,P,Y,f,v,J,ko]
 by_cases B:V<=15
 case neg=>simp[c,b,j,r,z,H,P,Y,f,v,J,B,ko]
 cases K:iH p
 case false=>simp[c,b,j,r,z,H,P,Y,f,v,J,B,K,h1,ko]
 by_cases e:(p.length:Int)<=3
 case neg=>
  have T: ¬p.length<=3:=ab
  simp[c,b,j,r,z,H,P,Y,f,v,J,B,K,e,T,h1,ko]
 have T:p.length<=3:=ab
 cases d:iH S
 case false=>simp[c,b,j,r,z,H,P,Y,f,v,J,B,K,e,T,d,h1,h,ko]
 simp[c,b,j,r,z,H,P,Y,f,v,J,B,K,e,T,d,h1,h,ko];try omega
@[simp]def jV(f z p m H k:Int)(w s:List fd)(u a v o F A:Int)(y D:List fd)(h1:w.length<=1000000000)(h:s.length<=1000000000):cG X 22 [i7 f z p m H k w s,i7 u a v o F A y D]=some (.bool (decide ((io.mk f z p m H k w s)=(io.mk u a v o F A y D)))):=by
 refine ij ?_;simp[h1,h,io.eq_iff]
 grind
@[simp]def amb(W C c g d w:Int)(b S:List fd)(h1:b.length<=1000000000)(h:S.length<=1000000000):cG X 91 [i7 W C c g d w b S]=some ((wk ((io.mk W C c g d w b S)):V)):=by
 refine ij ?_;simp;omega
def kq(hw:List hu)(pc:Int):hu:=hw.getD (pc-1).toNat ⟨0,0,0,0,0⟩
def EY(hw:List hu)(pc:Int):Int:=if 1<=pc/\pc<=hw.length/\(kq hw pc).op=23 then(kq hw pc).eA else-1
def Pf{hw:List hu}(h1:1<=pc/\pc<=hw.length)(h:(kq hw pc).op=23):EY hw pc=(kq hw pc).eA:=by
 unfold EY;rw[if_pos ⟨h1.1,h1.2,h⟩]
def gr:List UInt8->List Int->Bool
 | [],[]=>true
 |k::f,t::s=>wh k.toNat t&&gr f s
 |_,_=>false
def Ac(l:List ac):Prop:= ∀i (h:i<l.length),0<=(l[i]).gs/\0<=(l[i]).val/\(l[i]).val<=65535
def qn(aK ax:List Int)(n:Nat)(c:Int)(bK:List ac):Int:=
 if gr (dc c) ((bK.take (dc c).length).map (·.gs))=false then 6
 else if 0<kv c/\((iA aK ax (bK.getD 1 ⟨0,0⟩) (bK.getD 2 ⟨0,0⟩).val).2≠0\/16<(bK.getD 2 ⟨0,0⟩).val) then 6
 else if(c=10\/c=12)/\(n:Int)<=(bK.getD 0 ⟨0,0⟩).val then 6 else 0
@[simp]def ajg(W C u g d V:Int)(p S:List fd)(m:0<=V/\V<=15)(O:p.length<=1000000000):cG X 279 [i7 W C u g d V p S]=some (.bool (gr (dc V) (p.map (·.gs)))):=by
 refine ij ?_;have K: ∀{k:List UInt8} {l:List fd},¬k.length=l.length->gr k (l.map (·.gs))=false:=by
  intro k;induction k with
  |nil=>intro l h;cases l with|nil=>exact absurd rfl h|cons _ _=>rfl
  |cons a k i=>intro l h;cases l with|nil=>rfl|cons b l=>simp[gr,i (show¬k.length=l.length by simpa using h)]
 by_cases G:((dc V).length:Int)=p.length
 case neg=>
  have L:=K (k:=dc V) (l:=p) ab;simp[m,G,L]
 have B:p.length=(dc V).length:=ab
 clear K;rcases mn m with rfl|rfl|rfl|rfl|rfl|rfl|rfl|rfl|rfl|rfl|rfl|rfl|rfl|rfl|rfl|rfl;all_goals
  simp[dc]at B;try (obtain⟨a,rfl⟩:=OT B)
  try (obtain⟨a,b,rfl⟩:=OU B)
  try (obtain⟨a,b,c,rfl⟩:=OV B)
  try subst B
  simp[eJ,dc,gr];try grind
@[simp]def aff(call:Int)(tags:List Int)(O:tags.length<=1000000000):cG X 230 [call,.sl false (tags.map (V.int .u8))]=some (.bool (decide (0<=call/\call<=15)&&gr (dc call) tags)):=by
 refine ij ?_;by_cases m:0<=call/\call<=15
 case neg=>
  simp[m]
 have D: ¬(call<0\/15<call):=ab
 have K: ∀{k:List UInt8} {l:List Int},¬k.length=l.length->gr k l=false:=by
  intro k;induction k with
  |nil=>intro l h;cases l with|nil=>exact absurd rfl h|cons _ _=>rfl
  |cons a k i=>intro l h;cases l with|nil=>rfl|cons b l=>simp[gr,i (show¬k.length=l.length by simpa using h)]
 by_cases G:(tags.length:Int)=(dc call).length
 case neg=>
  have L:=K (k:=dc call) (l:=tags) ab;simp[m,D,G,L]
 have B:tags.length=(dc call).length:=ab
 clear K;rcases mn m with rfl|rfl|rfl|rfl|rfl|rfl|rfl|rfl|rfl|rfl|rfl|rfl|rfl|rfl|rfl|rfl;all_goals
  simp[dc]at B;try (obtain⟨a,rfl⟩:=OT B)
  try (obtain⟨a,b,rfl⟩:=OU B)
  try (obtain⟨a,b,c,rfl⟩:=OV B)
  try subst B
  simp[eJ,dc,gr,wh];try grind
@[simp]def H6(a:List hu)(q:List Int)(t:List (List Int))(e:Int)(c:List ac)(i G d H f g:Int)(l:a.length<=1000)(hp:0<=i/\i<=255):cG X 156 [iB a q t,r7 e c i G d H f g]=some (.int .i64 (EY a i)):=by
 refine ij ?_;have w:=z_ (i-1);by_cases h1:1<=i
 case neg=>
  have u: ¬0<=i-1:=ab
  simp[w,h1,EY]
 obtain⟨k,y⟩: ∃k:Nat,i-1=k:=⟨(i-1).toNat,ab⟩;by_cases K:k<a.length
 case neg=>
  have L: ¬(k:Int)<a.length:=ab
  have h: ¬i<=a.length:=ab
  rw[y]at w;simp[w,h1,K,L,h,y,EY,kq]
 have L:(k:Int)<a.length:=ab
 have h:i<=a.length:=ab
 rw[y]at w;by_cases S:(a[k]).op=23
 .simp[w,h1,K,L,h,S,y,List.getD,EY,kq]
 .simp[w,h1,K,L,h,S,y,List.getD,EY,kq]
structure o9 (p:g9):Prop where
 ax:tA p.ax
 len:p.ap.length=p.ax.length
 ap: ∀i (h:i<p.ap.length) (h':i<p.ax.length),((p.ap[i]).length:Int)<=p.ax[i]
 a2r:1<=p.hw.length
 qH:p.hw.length<=64
 aq4: ∀i (h:i<p.hw.length),nW p.hw[i]=true
 range: ∀i (h:i<p.hw.length),qX p.hw.length p.ax.length p.hw[i]=true
def Pg{p:g9}(h:jD p=0):o9 p:=by
 have h1:kZ p.ax=true:=by
  rw[<-Bool.not_eq_false];intro e;unfold jD at h;rw[if_pos e]at h;cases h
 have K:p.ap.length=p.ax.length:=by
  refine w8 fun e=> ?_;unfold jD at h;rw[if_neg er,if_pos e]at h;cases h
 have S:nv p p.ap.length=true:=by
  rw[<-Bool.not_eq_false];intro e;rw[zW h1 K e]at h;cases h
 have a: ¬p.hw.length<1:=fun e=>by rw[yz h1 K S e]at h;cases h
 have k: ¬64<p.hw.length:=fun e=>by rw[zX h1 K S e]at h;cases h
 rw[wg h1 K S a k]at h;have q:qx p.hw=true:=by
  exact qd
 rw[if_neg (by simp[q])]at h;have y:oS p.hw.length p.ax.length p.hw=true:=by
  exact qd
 refine⟨oF.1 h1,K,fun i j M=> ?_,ab,ab,fun i j=> ?_,fun i j=> ?_⟩
 .have:=List.all_eq_true.1 S i (List.mem_range.2 j);rw[dA M]at this;simpa[List.getD,j] using this
 .exact List.all_eq_true.1 q _ (rx j)
 .exact List.all_eq_true.1 y _ (rx j)
def AV{p:g9}(h:o9 p):jD p=0:=by
 have S:nv p p.ap.length=true:=by
  unfold nv;rw[rZ];intro i j;have j:=List.mem_range.1 j;have q:i<p.ax.length:=by have:=h.len;omega
  rw[dA q];simpa[List.getD,j] using h.ap i j q
 have h1:=h.a2r;have K:=h.qH;rw[wg (oF.2 h.ax) h.len S ab ab,if_neg,if_neg]
 .rw[xC];unfold oS;rw[rZ];intro x hx;obtain⟨i,j,rfl⟩:=vP hx;exact h.range i j
 .rw[xC];unfold qx;rw[rZ];intro x hx;obtain⟨i,j,rfl⟩:=vP hx;exact h.aq4 i j
def uQ(cells:List ac)(b:Nat)(d:List Int):Nat->List ac
 |0=>cells
 |k+1=>(uQ cells b d k).set (b+k) ⟨((uQ cells b d k).getD (b+k) ⟨0,0⟩).gs,nth d k⟩
def Xv(cells:List ac)(b:Nat)(d:List Int):uQ cells b d 0=cells:=rfl
def UI{cells:List ac}(h:k<d.length):uQ cells b d (k+1)=(uQ cells b d k).set (b+k) ⟨((uQ cells b d k).getD (b+k) ⟨0,0⟩).gs,d[k]⟩:=by
 rw[uQ,dA h]
def H7(cells:List ac)(b:Nat)(d:List Int)(k:Nat):(uQ cells b d k).length=cells.length:=by
 induction k with
 |zero=>rfl
 |succ k i=>rw[uQ,rm,i]
def pa(p:g9)(aK:List Int):Nat->List ac
 |0=>List.replicate 512 ⟨0,0⟩
 |r+1=>uQ (pa p aK r) (nth aK r).toNat (p.ap.getD r []) (p.ap.getD r []).length
def xu(p:g9)(aK:List Int):pa p aK 0=List.replicate 512 ⟨0,0⟩:=rfl
def Mf(p:g9)(aK:List Int)(h:r<p.ap.length):pa p aK (r+1)=uQ (pa p aK r) (nth aK r).toNat p.ap[r] (p.ap[r]).length:=by
 rw[pa];simp[List.getD,h]
def C6(p:g9)(aK:List Int)(r:Nat):(pa p aK r).length=512:=by
 induction r with
 |zero=>simp[pa]
 |succ r i=>rw[pa,H7,i]
def afg(x:ac)(v:Int):(ac.e x).put 1 (.int .u16 v)=ac.e ⟨x.gs,v⟩:=rfl
@[simp]def amc(u:List hu)(x:List Int)(a:List (List Int))(y:List Int)(I:Int)(hp:o9 (wn u x a))(L:fM y x):cG X 70 [iB u x a,pp y I]=some (.ed [y6 ((⟨pa (wn u x a) y a.length,fp⟩:aD)),.int .i64 0]):=by
 refine ij ?_;have z:=hp.ax;simp only at z;have E:=z.le;have h:a.length=x.length:=hp.len;have n:y.length=x.length:=L.len;have l:=nd.2 L;have M:y.length<=1000000000/\x.length<=1000000000:=ab
 have g:(fp.map cP.e).length=4:=rfl;simp[l,M,h];refine dO (fun r S=>(S.f 2= .ptr 2 0 0/\S.h 2=some ⟨3,[iB u x a],true⟩/\S.f 3= .ptr 3 0 0/\S.h 3=some ⟨2,[pp y I],true⟩/\S.f 4= .ptr 4 0 0/\S.h 4=some ⟨2,[s_ ([]:List ac) ([]:List cP)],true⟩/\S.f 6= .ptr 6 0 0/\S.h 1000=some ⟨2,(⟨pa (wn u x a) y r,fp⟩:aD).cells.map ac.e,false⟩/\S.h 6=some ⟨2,[.agg [.cX 1000 0 ((⟨pa (wn u x a) y r,fp⟩:aD).cells.map ac.e).length,.sl false ((⟨pa (wn u x a) y r,fp⟩:aD).ge.map cP.e)]],true⟩/\S.f 30=a/\S.f 31=((a).length:Int)/\S.f 32=(r:Int)/\S.n=1101)/\True) (a.length) ab ?_ ?_ ?_
 .rintro r S ⟨Z,j,P⟩ ⟨d,G⟩;have U:r<x.length:=ab
  have c:r<y.length:=ab
  have F:((a[r]).length:Int)<=x[r]:=hp.ap r P U;have C: ¬x[r]<((a[r]).length:Int):=ab
  have K:=L.base r c U;have W:=z.elem r U;obtain⟨b,e⟩: ∃b:Nat,y[r]=b:=⟨(y[r]).toNat,ab⟩;have A:pa (wn u x a) y (r+1)=uQ (pa (wn u x a) y r) b a[r] (a[r]).length:=by
   rw[Mf _ _ P,dA c,e];rfl
  have B:=C6 (wn u x a) y r;simp[d,P,U,C];refine dO (fun k S=>(S.f 2= .ptr 2 0 0/\S.h 2=some ⟨3,[iB u x a],true⟩/\S.f 3= .ptr 3 0 0/\S.h 3=some ⟨2,[pp y I],true⟩/\S.f 4= .ptr 4 0 0/\S.h 4=some ⟨2,[s_ ([]:List ac) ([]:List cP)],true⟩/\S.f 6= .ptr 6 0 0/\S.h 1000=some ⟨2,(⟨uQ (pa (wn u x a) y r) b a[r] k,fp⟩:aD).cells.map ac.e,false⟩/\S.h 6=some ⟨2,[.agg [.cX 1000 0 ((⟨uQ (pa (wn u x a) y r) b a[r] k,fp⟩:aD).cells.map ac.e).length,.sl false ((⟨uQ (pa (wn u x a) y r) b a[r] k,fp⟩:aD).ge.map cP.e)]],true⟩/\S.f 7= .int .i64 ((r:Int))/\S.f 30=a/\S.f 31=((a).length:Int)/\S.f 32=(r:Int)/\S.f 46= .sl false ((a[r]).map (V.int .u16))/\S.f 47= .int .i64 (((a[r]).length:Int))/\S.f 48=(k:Int)/\S.n=1101)/\True) ((a[r]).length) ab ?_ ?_ ?_
  .rintro k S ⟨J,N,o⟩ ⟨m,Y⟩;have D:=H7 (pa (wn u x a) y r) b a[r] k;rw[B]at D;have f:=UI (cells:=pa (wn u x a) y r) (b:=b) o;obtain⟨q,v⟩: ∃q:Nat,b+k=q:=⟨_,rfl⟩;rw[v]at f;have i:q<512:=ab
   have H:(q:Int)<512:=ab
   have w:IntKind.i64.wrap ((b:Int)+k)=(q:Int):=g7
   simp[m,N,o,c,e,D,i,H,w,f,afg,List.getD]
  .rintro S ⟨m,Y⟩;simp[P,m,A,j]
  .simp[d]<;>(
    exact⟨rfl,rfl⟩)
 .rintro S ⟨d,G⟩;simp[d]<;>(
   rw[h])
 .simp<;>(
   simp[xu,h,ac.cN])
def dx(p:g9)(l:iy):aN:=⟨l,⟨pa p l.aK p.ap.length,fp⟩,[⟨1,List.replicate 8 ⟨0,0⟩,0,0, -1, -1,0,0⟩,⟨0,List.replicate 8 ⟨0,0⟩,0,0, -1, -1,0,0⟩,⟨0,List.replicate 8 ⟨0,0⟩,0,0, -1, -1,0,0⟩,⟨0,List.replicate 8 ⟨0,0⟩,0,0, -1, -1,0,0⟩]⟩
@[simp]def tV(u:List hu)(a:List Int)(w:List (List Int))(y:List Int)(c:Int)(hp:o9 (wn u a w))(h:fM y a):cG X 20 [iB u a w,pp y c]=some (.ed [rJ (dx (wn u a w) (iy.mk y c)),.int .i64 0]):=by
 refine ij ?_;have z:=hp.ax;simp only at z;have x:=z.le;have l:w.length=a.length:=hp.len;have e:y.length=a.length:=h.len;have C:=nd.2 h;have t:jD (wn u a w)=0:=AV hp;have Xw:u.length<=64:=hp.qH;have M:y.length<=1000000000/\a.length<=1000000000:=ab
 have U:w.length<=1000000000:=ab
 have b:u.length<=1000000000:=ab
 have k:y.length<=4:=ab
 simp[eJ,hp,h,C,t,M,U,b,dx];all_goals exact i9
end Go.Proofs.YtdngefmliibcgaaGreat
