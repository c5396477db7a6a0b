import Derived.Test.YtdngefmliibcgaaGreatB28
import Derived.Deep.AppendSrc
set_option linter.all false
set_option maxRecDepth 20000
set_option maxHeartbeats 0
namespace Go.Abs
open Go
variable  {P:Program}{t el:TypeId}{x ix y:Operand}{c isS eP kp th:Bool}{es cs ds:List V}{k k1 k2:IntKind}{n m f cap l h kk hh:Nat}{e v v':V}{ob:Ob}{us vs ys:List Value}{s:List UInt8}{args:Array Operand}{mW:Array TypeId}{q p:Int}{lo hi:Option Operand}{ulo uhi:Option Value}{u z:Value}{ps:Array (Nat×Operand)}{h':bI}
def lS{x:TI}(h:sliceB P t x=true):P.underlying t=some (.slice x.elem):=by
 unfold sliceB at h
 grind
section
variable {X:Env} {o:Oper} {a:Act} {w:World} {I:Nat->Prop} {σ:jI} {S S1:St}
theorem LB   (h:o.op= .indexAddr t x ix) (d:X.P.underlying t=some (.slice (X.ti t).elem)) (T:mE X.P (X.ti t).elem (X.ti (X.ti t).elem)) (R:Rel w I σ S.h) (F:jO w I σ S.f a) (hx:oN o)
     {n:Int}  (C:S.ev x= .sl c es) (i:S.ev ix= .int k n) (h0:0<=n/\n<es.length) (V:es[n.toNat]?=some e) (y:e.cells.length=(X.ti (X.ti t).elem).size)
  (s:S1=S.set o.dst (.ref e.cells)):Out X o a w I σ S S1:=by
 have h1:dX w I σ (S.ev x) (a.eval x):=fu (S:=S) F (hx x aT);have K:dX w I σ (S.ev ix) (a.eval ix):=fu (S:=S) F (hx ix aT);rw[C]at h1;rw[i]at K;have Y:=iJ K;obtain⟨ad,cap,p,_,_,_,r⟩:=h1;rcases r with r|⟨b,of,U,rfl,m,f⟩
 .grind
 .have g:=f.get V;have M:U=(X.ti (X.ti t).elem).size:=by rw[<-y];exact g.1.symm
  refine Out.pure (u:= .pointer (some ⟨b,of+n.toNat*(X.ti (X.ti t).elem).size,none⟩)) R ?_ ?_ s
  .simp[execOp,h,p,Y,Instr.indexAt,run_underlying d,asIntOf,h0,run_sizeOf T,rf]
  .exact⟨b,_,rfl,m,by rw[uV,<-M];grind⟩
theorem Js   (h:o.op= .indexAddr t x ix) (d:X.P.underlying t=some (.slice (X.ti t).elem)) (T:mE X.P (X.ti t).elem (X.ti (X.ti t).elem)) (R:Rel w I σ S.h) (F:jO w I σ S.f a) (hx:oN o)
  {id s l:Nat}  {n:Int}  (e:S.ev x= .cX id s l) (i:S.ev ix= .int k n) (h0:0<=n/\n<l) (g:S.h id=some ob) (y:ob.k=(X.ti (X.ti t).elem).size)
  (L:S1=S.set o.dst (.ptr id (s+n.toNat) 0)):Out X o a w I σ S S1:=by
 have h1:dX w I σ (S.ev x) (a.eval x):=fu (S:=S) F (hx x aT);have K:dX w I σ (S.ev ix) (a.eval ix):=fu (S:=S) F (hx ix aT);rw[e]at h1;rw[i]at K;have Y:=iJ K;obtain⟨ad,cap,p,V,_,r⟩:=h1;rcases r with r|⟨b,of,U,c,el,fz,q,rfl,f,_⟩
 .omega
 .have C:U=ob.k:=by
   rcases R.obj id ob g with⟨_,W⟩|⟨m,o',c',Q,E,_⟩
   .grind
   .grind
  refine Out.pure (u:= .pointer (some ⟨b,of+s*U+n.toNat*U,none⟩)) R ?_ ?_ L
  .simp[execOp,h,p,Y,Instr.indexAt,run_underlying d,asIntOf,h0,run_sizeOf T,rf,C,y]
  .exact⟨b,of,U,q,aj⟩
theorem GM{x:TI}(T:mE P t x)(h:x.arr=some m):P.underlying t=some (.array m x.elem):=by
 obtain⟨d,u,b⟩:=T.und;cases d<;>simp_all [By]
theorem Jt   (h:o.op= .indexAddr t x ix) (L:mE X.P t (X.ti t)) (T:mE X.P (X.ti t).elem (X.ti (X.ti t).elem)) (R:Rel w I σ S.h) (F:jO w I σ S.f a) (hx:oN o)
  {id j f m:Nat}  {n:Int} (e:S.ev x= .ptr id j f) (i:S.ev ix= .int k n) (O:(X.ti t).arr=some m) (h0:0<=n/\n<m)
  (s:S1=S.set o.dst (.ptr id j (f+n.toNat*(X.ti (X.ti t).elem).size))):Out X o a w I σ S S1:=by
 have h1:dX w I σ (S.ev x) (a.eval x):=fu (S:=S) F (hx x aT);have K:dX w I σ (S.ev ix) (a.eval ix):=fu (S:=S) F (hx ix aT);rw[e]at h1;rw[i]at K;have Y:=iJ K;obtain⟨b,of,U,l,p⟩:=h1;have c:=GM L O;refine Out.pure (u:= .pointer (some ⟨b,of+j*U+f+n.toNat*(X.ti (X.ti t).elem).size,none⟩)) R ?_ ?_ s
 .simp[execOp,h,p,Y,Instr.indexAt,run_underlying c,asIntOf,h0,run_sizeOf T,rf,Instr.sureAddr]
 .exact⟨b,of,U,l,aj⟩
theorem NI{x:TI}(T:mE P t x){us:Array Value}(m:fW w I σ cs us.toList)(h:part x cs f=some v):
  ∃u,(Go.part t us f).run P w= .ok u w/\dX w I σ v u:=by
 have l:=((ez _ _).1 m).1;unfold part at h;by_cases a:x.agg=true
 .rw[if_pos a]at h;split at h
  .simp only[aS]at h;subst h;refine⟨.agg (us.extract f (f+x.size)),by simp[Go.part,AG T,a,run_sizeOf T],?_⟩;refine⟨_,rfl,?_⟩;rw[ez];refine⟨aj,fun j c u z s=> ?_⟩;rw[z0]at z;split at z
   .rw[ux]at z;have b:us.toList[f+j]?=some u:=by
     simp only[Array.toList_extract,List.extract_eq_take_drop,z0,ux]at s;split at s
     .omega
     .omega
    exact((ez _ _).1 m).2 (f+j) c u z b
   grind
  grind
 .rw[if_neg a]at h;have Y:x.agg=false:=by simpa using a
  obtain⟨u,h1,_,S⟩:=m.get h;exact⟨u,by
   have L:us[f]?=some u:=eC
   simp[Go.part,AG T,Y,L],S⟩
theorem Ju   (h:o.op= .index t x ix) (L:mE X.P t (X.ti t)) (T:mE X.P (X.ti t).elem (X.ti (X.ti t).elem)) (R:Rel w I σ S.h) (F:jO w I σ S.f a) (hx:oN o)
     {n:Int}  (e:S.ev x= .agg cs) (j:S.ev ix= .int k n) (P:(X.ti t).arr=some m) (h0:0<=n/\n<m)
  (i:part (X.ti (X.ti t).elem) cs (n.toNat*(X.ti (X.ti t).elem).size)=some v) (s:S1=S.set o.dst v):Out X o a w I σ S S1:=by
 have h1:dX w I σ (S.ev x) (a.eval x):=fu (S:=S) F (hx x aT);have K:dX w I σ (S.ev ix) (a.eval ix):=fu (S:=S) F (hx ix aT);rw[e]at h1;rw[j]at K;have Y:=iJ K;obtain⟨y,p,c⟩:=h1;have b:=GM L P;obtain⟨u,O,r⟩:=NI T c i;refine Out.pure (u:=u) R ?_ r s;simp[execOp,h,p,Y,Instr.index,run_underlying b,asIntOf,h0,run_sizeOf T,O]
theorem VK    {s:Array Field} {d:Field} (h:o.op= .field t x f) (b:X.P.underlying t=some (.struct s)) (L:s[f]?=some d) (T:mE X.P d.type (X.ti d.type)) (R:Rel w I σ S.h) (F:jO w I σ S.f a) (hx:oN o)
    (e:S.ev x= .agg cs) (i:part (X.ti d.type) cs d.offset=some v) (K:S1=S.set o.dst v):Out X o a w I σ S S1:=by
 have h1:dX w I σ (S.ev x) (a.eval x):=fu (S:=S) F (hx x aT);rw[e]at h1;obtain⟨y,p,c⟩:=h1;obtain⟨u,k,r⟩:=NI T c i;refine Out.pure (u:=u) R ?_ r K;simp[execOp,h,p,Instr.field,asAgg,run_underlying b,L,k]
theorem Jv   (h:o.op= .index t x ix) (c:X.P.underlying t=some .string) (R:Rel w I σ S.h) (F:jO w I σ S.f a) (hx:oN o)
    {n:Int} {b:UInt8} (e:S.ev x= .str s) (i:S.ev ix= .int k n) (h0:0<=n) (T:s[n.toNat]?=some b) (L:S1=S.set o.dst (.int .u8 b.toNat)):Out X o a w I σ S S1:=by
 have h1:dX w I σ (S.ev x) (a.eval x):=fu (S:=S) F (hx x aT);have K:dX w I σ (S.ev ix) (a.eval ix):=fu (S:=S) F (hx ix aT);rw[e]at h1;rw[i]at K;have Y:=iJ K;obtain⟨U,f,rfl⟩:=tP h1;have g:U[n.toNat]?=some b:=by
  have l:n.toNat<U.data.toList.length:=(List.getElem?_eq_some_iff.1 T).1;have B:n.toNat<U.size:=by simpa using l
  rw[getElem?_pos U n.toNat B];have:=(List.getElem?_eq_some_iff.1 T).2;simp at this;rw[<-this];rfl
 refine Out.pure (u:= .int .u8 b.toNat) R ?_ a_ L;simp[execOp,h,f,Y,Instr.index,run_underlying c,asIntOf,h0,g]
theorem YM     (f:o.op= .call ⟨.builtin .len,args,mW⟩) (W:args.toList=[x])  (T:mW[0]?=some t)
  (b:((∃e,X.P.underlying t=some (.slice e))/\(X.ti t).isStr=false)\/(X.P.underlying t=some .string/\(X.ti t).isStr=true)) (R:Rel w I σ S.h) (F:jO w I σ S.f a) (hx:oN o)
  (k:(S.ev x).isStr=(X.ti t).isStr) (h:Gq (S.ev x)=some m) (K:S1=S.set o.dst (.int .i64 m)):Out X o a w I σ S S1:=by
 have B:args= #[x]:=by rw[<-W]
 have h1:dX w I σ (S.ev x) (a.eval x):=fu (S:=S) F (hx x (by simp[f,Op.operands,Call.operands,B]));refine Out.pure (u:= .int .i64 m) R ?_ a_ K;have O:(Builtin.len_ mW o.type #[a.eval x]).run X.P w= .ok (.int .i64 m) w:=by
  rcases b with⟨⟨e,b⟩,n⟩|⟨b,n⟩
  .unfold Gq at h;split at h
   .rename_i c es C;exact k8
   .rename_i id s l C;exact k8
   .rename_i s C;rw[C,n]at k;cases k
   grind
  .cases C:S.ev x with
   |str s=>
    rw[C]at h1 h;obtain⟨U,g,rfl⟩:=tP h1;simp only[Gq,aS]at h;subst h;have:U.data.toList.length=U.size:=uy;simp[Builtin.len_,T,g,run_underlying b,goInt]
   |_=>rw[C,n]at k;cases k
 simp[execOp,f,B,resolve,invoke,builtin,O]
theorem zE{d q:Nat}{v:Option V}(h:Zm d v m=some q):(v=none/\q=d)\/ ∃k n,v=some (.int k n)/\0<=n/\n<=m/\q=n.toNat:=by
 unfold Zm at h
 grind
theorem BY   {G i:Option V}   (b:bounds G i n=some (l,h)) (Z:n<=cap) (w:World)
  (o: ∀v,G=some v-> ∃u,ulo=some u/\dX w I σ v u) (a:G=none->ulo=none) (j: ∀v,i=some v-> ∃u,uhi=some u/\dX w I σ v u) (d:i=none->uhi=none):
  (Instr.sliceBounds isS n cap ulo uhi none).run P w= .ok (l,h,cap) w/\l<=h/\h<=n:=by
 unfold bounds at b;cases h1:Zm n i n with
 |none=>grind
 |some q=>
  simp only[h1]at b;cases K:Zm 0 G q with
  |none=>grind
  |some p=>
   simp only[K,aS,cy]at b;obtain⟨rfl,rfl⟩:=b;rcases zE h1 with⟨rfl,rfl⟩|⟨k,m,rfl,W,H,rfl⟩
   .rw[d rfl];rcases zE K with⟨rfl,rfl⟩|⟨k,m,rfl,W,H,rfl⟩
    .rw[a rfl];exact⟨by simp[Instr.sliceBounds],ab,ab⟩
    .obtain⟨u,rfl,r⟩:=o _ rfl;rw[iJ r];exact⟨by simp[Instr.sliceBounds,Instr.sliceBound,asIntOf,W,H],ab,ab⟩
   .obtain⟨u,rfl,r⟩:=j _ rfl;rw[iJ r];have c:m<=(cap:Int):=ab
    rcases zE K with⟨rfl,rfl⟩|⟨k',J,rfl,Y,F,rfl⟩
    .rw[a rfl];exact⟨by simp[Instr.sliceBounds,Instr.sliceBound,asIntOf,W,c],ab,ab⟩
    .obtain⟨u,rfl,r⟩:=o _ rfl;rw[iJ r];have X:J<=max m 0:=ab
     exact⟨by simp[Instr.sliceBounds,Instr.sliceBound,asIntOf,W,c,Y,X],ab,ab⟩
theorem Eu   {o i:Option V}     (b:bounds o i n=some (l,h)) (d:i=some (.int k2 q)) (Z:n<=cap) (w:World)
  (R: ∀v,o=some v-> ∃u,ulo=some u/\dX w I σ v u) (a:o=none->ulo=none):
  (Instr.sliceBounds isS n cap ulo (some (.int k2 q)) (some (.int k1 q))).run P w= .ok (l,h,h) w/\l<=h/\h<=n:=by
 unfold bounds at b;cases h1:Zm n i n with
 |none=>grind
 |some z=>
  simp only[h1]at b;cases K:Zm 0 o z with
  |none=>grind
  |some p=>
   simp only[K,aS,cy]at b;obtain⟨rfl,rfl⟩:=b;rcases zE h1 with⟨h0,_⟩|⟨k,m,h0,X,H,rfl⟩
   .grind
   .rw[d]at h0;obtain⟨rfl,rfl⟩:=h0;have c:q<=(cap:Int):=ab
    have x:q<=max q 0:=ab
    rcases zE K with⟨rfl,rfl⟩|⟨k',J,rfl,Y,F,rfl⟩
    .rw[a rfl];exact⟨by simp[Instr.sliceBounds,Instr.sliceBound,asIntOf,X,c,x],ab,ab⟩
    .obtain⟨u,rfl,r⟩:=R _ rfl;rw[iJ r];have W:J<=max q 0:=ab
     exact⟨by simp[Instr.sliceBounds,Instr.sliceBound,asIntOf,X,c,x,Y,W],ab,ab⟩
theorem Zy(h1:dX w I σ (.sl c es) u)(P:es.all (fun e=>e.cells.length==kk)=true)(G:l<=h)(d:h<=es.length)(c':Bool)(O:h<=m)(B:c'=true->m=h):
  ∃ad cap,u= .slice ad es.length cap/\es.length<=cap/\(m<=cap->dX w I σ (.sl c' ((es.take h).drop l)) (.slice (if m=l then ad else ad.map (·.add (l*kk))) (h-l) (m-l))):=by
 obtain⟨ad,cap,p,f,x,_,r⟩:=h1;refine⟨ad,cap,p,f,fun V=> ?_⟩;have n:((es.take h).drop l).length=h-l:=aA
 refine⟨_,_,by rw[n],ab,ab,fun q=>aj,?_⟩;by_cases C:h=l
 .grind
 .right;have K:es≠ []:=by intro h0;subst h0;simp at d;omega
  rcases r with r|⟨b,of,k,rfl,o,g⟩
  .grind
  .have y:k=kk:=by
    cases es with
    |nil=>grind
    |cons e es=>
     have:=(g.get (i:=0) (e:=e) ai).1
     grind
   subst y;have z:=g.TX l (h-l);refine⟨b,of+l*k,k,?_,o,by rw[zz];omega⟩;rw[if_neg ab];simp[rf]
theorem tQ{S:St}{a:Act}{o:Oper}(F:jO w I σ S.f a)(hx:oN o)(q:Option Operand)(x: ∀y,q=some y->y∈o.op.operands.toList):
  (∀v,q.map S.ev=some v-> ∃u,q.map a.eval=some u/\dX w I σ v u)/\(q.map S.ev=none->q.map a.eval=none):=by
 cases q with
 |none=>simp
 |some y=>
  refine⟨fun v h=>⟨a.eval y,rfl,?_⟩,ai⟩;simp at h;subst h;exact fu (S:=S) F (hx y (x y rfl))
theorem LC    (f:o.op= .slice t x lo hi none) (R:Rel w I σ S.h) (F:jO w I σ S.f a) (hx:oN o)
  (b:X.P.underlying t=some (.slice (X.ti t).elem)) (T:mE X.P (X.ti t).elem (X.ti (X.ti t).elem))    (C:S.ev x= .sl c es)
  (n:es.all (fun e=>e.cells.length==(X.ti (X.ti t).elem).size)=true) (j:bounds (lo.map S.ev) (hi.map S.ev) es.length=some (l,h)) (K:S1=S.set o.dst (.sl false ((es.take h).drop l))):Out X o a w I σ S S1:=by
 have h1:dX w I σ (S.ev x) (a.eval x):=fu (S:=S) F (hx x bz);have H:=tQ F hx lo bR;have Y:=tQ F hx hi bR;rw[C]at h1;have v: ∃ad cap,a.eval x= .slice ad es.length cap/\es.length<=cap:=by
  exact oR
 obtain⟨ad,cap,p,g⟩:=v;have N:=BY (isS:=true) (P:=X.P) j g w H.1 H.2 Y.1 Y.2;obtain⟨d,B,i,q,z⟩:=Zy h1 n N.2.1 N.2.2 false (m:=cap) ab ai;rw[p]at i;obtain⟨rfl,rfl⟩:=i;refine Out.pure (u:=_) R ?_ (z (iX _)) K;simp[execOp,f,p,Instr.sliceAt,Instr.slice,run_underlying b,N.1,run_sizeOf T]
theorem Jw  {m:Operand}  (f:o.op= .slice t x lo hi (some m)) (R:Rel w I σ S.h) (F:jO w I σ S.f a) (hx:oN o)
  (j:X.P.underlying t=some (.slice (X.ti t).elem)) (T:mE X.P (X.ti t).elem (X.ti (X.ti t).elem))      (C:S.ev x= .sl c es)
  (n:es.all (fun e=>e.cells.length==(X.ti (X.ti t).elem).size)=true) (O:S.ev m= .int k1 q) (b:hi.map S.ev=some (.int k2 q)) (k:bounds (lo.map S.ev) (hi.map S.ev) es.length=some (l,h))
  (L:S1=S.set o.dst (.sl true ((es.take h).drop l))):Out X o a w I σ S S1:=by
 have h1:dX w I σ (S.ev x) (a.eval x):=fu (S:=S) F (hx x bz);have K:dX w I σ (S.ev m) (a.eval m):=fu (S:=S) F (hx m bz);have H:=tQ F hx lo bR;have J:=tQ F hx hi bR;rw[C]at h1;rw[O]at K;have d:=iJ K;obtain⟨U,Q,Y⟩:=J.1 _ b;have Z:=iJ Y;subst Z;have E: ∃ad cap,a.eval x= .slice ad es.length cap/\es.length<=cap:=by
  exact oH
 obtain⟨ad,cap,p,g⟩:=E;have N:=Eu (isS:=true) (P:=X.P) (k1:=k1) (k2:=k2) (q:=q) k b g w H.1 H.2;obtain⟨v,B,i,r,z⟩:=Zy h1 n N.2.1 N.2.2 true (m:=h) (iX _) ai;rw[p]at i;obtain⟨rfl,rfl⟩:=i;refine Out.pure (u:=_) R ?_ (z ab) L;simp[execOp,f,p,Instr.sliceAt,Instr.slice,run_underlying j,d,Q,N.1,run_sizeOf T]
theorem T7{h:bI}(R:Rel w I σ h){id s n:Nat}(h1:dX w I σ (.cX id s n) u)(g:h id=some ob)(y:ob.k=kk)(G:l<=hh)(d:hh<=n)(O:hh<=m):
  ∃ad cap,u= .slice ad n cap/\n<=cap/\(m<=cap->dX w I σ (.cX id (s+l) (hh-l)) (.slice (if m=l then ad else ad.map (·.add (l*kk))) (hh-l) (m-l))):=by
 obtain⟨ad,cap,p,e,x,r⟩:=h1;refine⟨ad,cap,p,e,fun V=> ?_⟩;refine⟨_,_,rfl,ab,ab,?_⟩;by_cases C:m=l
 .omega
 .right;rcases r with r|⟨b,of,k,c,el,fz,q,rfl,f,N⟩
  .omega
  .have M:k=ob.k:=by
    rcases R.obj id ob g with⟨_,W⟩|⟨o,o',c',Q,E,_⟩
    .grind
    .grind
   refine⟨b,of,k,c,el,fz,q,?_,f,?_⟩
   .rw[if_neg C,<-y,<-M];simp[rf,t1,X6]
   .have:(s+l+(m-l))*k<=(s+cap)*k:=ul _ ab;omega
theorem Jx    (e:o.op= .slice t x lo hi none) (R:Rel w I σ S.h) (F:jO w I σ S.f a) (hx:oN o)
  (b:X.P.underlying t=some (.slice (X.ti t).elem)) (T:mE X.P (X.ti t).elem (X.ti (X.ti t).elem)) {id s n l h:Nat}  (C:S.ev x= .cX id s n) (v:S.h id=some ob) (z:ob.k=(X.ti (X.ti t).elem).size)
  (g:bounds (lo.map S.ev) (hi.map S.ev) n=some (l,h)) (K:S1=S.set o.dst (.cX id (s+l) (h-l))):Out X o a w I σ S S1:=by
 have h1:dX w I σ (S.ev x) (a.eval x):=fu (S:=S) F (hx x bd);have H:=tQ F hx lo bj;have Y:=tQ F hx hi bj;rw[C]at h1;have E: ∃ad cap,a.eval x= .slice ad n cap/\n<=cap:=by
  exact oR
 obtain⟨ad,cap,p,f⟩:=E;have N:=BY (isS:=true) (P:=X.P) g f w H.1 H.2 Y.1 Y.2;obtain⟨d,B,i,q,A⟩:=T7 R h1 v z N.2.1 N.2.2 (m:=cap) ab;rw[p]at i;obtain⟨rfl,rfl⟩:=i;refine Out.pure (u:=_) R ?_ (A (iX _)) K;simp[execOp,e,p,Instr.sliceAt,Instr.slice,run_underlying b,N.1,run_sizeOf T]
theorem GO  {m:Operand}  (e:o.op= .slice t x lo hi (some m)) (R:Rel w I σ S.h) (F:jO w I σ S.f a) (hx:oN o)
  (c:X.P.underlying t=some (.slice (X.ti t).elem)) (T:mE X.P (X.ti t).elem (X.ti (X.ti t).elem)) {id s n l h:Nat}    (C:S.ev x= .cX id s n) (v:S.h id=some ob) (z:ob.k=(X.ti (X.ti t).elem).size)
  (O:S.ev m= .int k1 q) (b:hi.map S.ev=some (.int k2 q)) (g:bounds (lo.map S.ev) (hi.map S.ev) n=some (l,h)) (L:S1=S.set o.dst (.cX id (s+l) (h-l))):Out X o a w I σ S S1:=by
 have h1:dX w I σ (S.ev x) (a.eval x):=fu (S:=S) F (hx x bd);have K:dX w I σ (S.ev m) (a.eval m):=fu (S:=S) F (hx m bd);have H:=tQ F hx lo bj;have J:=tQ F hx hi bj;rw[C]at h1;rw[O]at K;have d:=iJ K;obtain⟨U,Q,Y⟩:=J.1 _ b;have Z:=iJ Y;subst Z;have E: ∃ad cap,a.eval x= .slice ad n cap/\n<=cap:=by
  exact oH
 obtain⟨ad,cap,p,f⟩:=E;have N:=Eu (isS:=true) (P:=X.P) (k1:=k1) (k2:=k2) (q:=q) g b f w H.1 H.2;obtain⟨D,B,i,r,A⟩:=T7 R h1 v z N.2.1 N.2.2 (m:=h) (iX _);rw[p]at i;obtain⟨rfl,rfl⟩:=i;refine Out.pure (u:=_) R ?_ (A ab) L;simp[execOp,e,p,Instr.sliceAt,Instr.slice,run_underlying c,d,Q,N.1,run_sizeOf T]
theorem Jy    (e:o.op= .slice t x lo hi none) (R:Rel w I σ S.h) (F:jO w I σ S.f a) (hx:oN o)
  (c:X.P.underlying t=some .string)   (C:S.ev x= .str s) (f:bounds (lo.map S.ev) (hi.map S.ev) s.length=some (l,h)) (K:S1=S.set o.dst (.str ((s.take h).drop l))):Out X o a w I σ S S1:=by
 have h1:dX w I σ (S.ev x) (a.eval x):=fu (S:=S) F (hx x bd);have T:=tQ F hx lo bj;have Y:=tQ F hx hi bj;rw[C]at h1;obtain⟨b,W,rfl⟩:=tP h1;have H:b.data.toList.length=b.size:=uy;rw[H]at f;have N:=BY (isS:=false) (P:=X.P) f (iX _) w T.1 T.2 Y.1 Y.2;refine Out.pure (u:= .string (b.extract l h)) R ?_ ?_ K
 .simp[execOp,e,W,Instr.sliceAt,Instr.slice,run_underlying c,N.1]
 .exact⟨_,rfl,by simp[ByteArray.data_extract,List.extract_eq_take_drop,zz]⟩
end
def flat(es:List V):List V:=es.flatMap V.cells
def tq(e:V)(es:List V):flat (e::es)=e.cells++flat es:=rfl
def tY(es xs:List V):flat (es++xs)=flat es++flat xs:=by simp[flat]
def pW{k:Nat}(h: ∀e∈es,e.cells.length=k):(flat es).length=es.length*k:=by
 induction es with
 |nil=>simp[flat]
 |cons e es i=>
  rw[tq,ta,i (fun x hx=>h x aj),h e ai,s9,t1];omega
section
variable {w w':World} {I I':Nat->Prop} {σ σ':jI}
theorem fW.append(h1:fW w I σ cs us)(K:fW w I σ ds vs):fW w I σ (cs++ds) (us++vs):=by
 induction cs generalizing us with
 |nil=>subst h1;grind
 |cons c cs i=>
  obtain⟨u,r,rfl,S,a,h⟩:=h1;exact⟨u,r++vs,rfl,S,a,i h⟩
theorem fW.split(h:fW w I σ (cs++ds) us): ∃s f,us=s++f/\fW w I σ cs s/\fW w I σ ds f:=by
 induction cs generalizing us with
 |nil=>exact⟨[],us,rfl,f_,aj⟩
 |cons c cs i=>
  obtain⟨u,r,rfl,S,a,j⟩:=h;obtain⟨s,f,rfl,q,y⟩:=i j;exact⟨u::s,f,rfl,by exact⟨u,s,rfl,S,a,q⟩,y⟩
theorem vg(E:Ext w I σ w' I' σ'){k b:Nat}: ∀{es:List V} {us:List Value} {o:Nat},(∀e∈es,e.cells.length=k)->fW w I σ (flat es) us->(∀j u,us[j]?=some u->w'.cell? ⟨b,o+j,none⟩=some u)->ey w' I' σ' es k b o
 | [],_,_,_,_,_=>dZ
 |e::es,us,o,h,r,m=>by
  obtain⟨s,f,rfl,h1,K⟩:=r.split;have G:s.length=k:=by rw[<-((ez _ _).1 h1).1];exact h e ai
  rw[lg];refine⟨h e ai,fun j c q=> ?_,vg E (fun x hx=>h x aj) K (fun j u a=> ?_)⟩
  .obtain⟨u,a,S,d⟩:=h1.get q;have l:j<s.length:=(List.getElem?_eq_some_iff.1 a).1;exact⟨u,m j u aj,S,d.ext E⟩
  .have:=m (k+j) u aj
   grind
theorem tZ{k b:Nat}: ∀{es:List V} {o:Nat},ey w I σ es k b o-> ∃us:List Value,us.length=es.length*k/\(∀j u,us[j]?=some u->w.cell? ⟨b,o+j,none⟩=some u)/\fW w I σ (flat es) us
 | [],o,_=>⟨[],ai,ai,dg⟩
 |e::es,o,h=>by
  rw[lg]at h;obtain⟨h1,K,S⟩:=h;obtain⟨W,l,N,r⟩:=K.FF;obtain⟨s,x,Y,Q⟩:=tZ S;refine⟨W++s,aj,fun j u a=> ?_,by exact r.append Q⟩
  grind
theorem ey.lens{k b o:Nat}(h:ey w I σ es k b o): ∀e∈es,e.cells.length=k:=by
 intro e C;obtain⟨i,j,rfl⟩:=List.mem_iff_getElem.1 C;exact(h.get (i:=i) ai).1
theorem zF(n:Nat)(v:V):flat (List.replicate n v)=(List.replicate n v.cells).flatten:=by
 induction n with
 |zero=>rfl
 |succ n i=>rw[DF,tq,i,DF,List.flatten_cons]
theorem BB(h:fW w I σ cs us)(n:Nat):fW w I σ (List.replicate n cs).flatten (List.replicate n us).flatten:=by
 induction n with
 |zero=>simp[fW]
 |succ n i=>exact h.append i
theorem mA{m:Type}(l:List m)(hp:0<l.length): ∀(n j:Nat),(List.replicate n l).flatten[j]?=if j<n*l.length then l[j % l.length]? else none
 |0,j=>ai
 |n+1,j=>by
  rw[DF,List.flatten_cons];by_cases h:j<l.length
  .rw[ug h,if_pos aj,Nat.mod_eq_of_lt h]
  .rw[tu ab,mA l hp n (j-l.length)];by_cases K:j-l.length<n*l.length
   .rw[if_pos K,if_pos aj,<-Nat.mod_eq_sub_mod (a:=j) (b:=l.length) ab]
   grind
theorem Kk(z:Array Value)(k n:Nat)(h:z.size=k)(hp:0<k):((Array.range (n*k)).map (z[· % z.size]!)).toList=(List.replicate n z.toList).flatten:=by
 subst h;apply tl;intro j;rw[mA z.toList ab];simp only[uy,y2,Do];by_cases q:j<n*z.size
 .have m:j % z.size<z.size:=Nat.mod_lt _ hp
  grind
 grind
theorem GP{vs xs:List V}(h1:fW w I σ xs us)(K:fW w I σ vs ys)(l:n+vs.length<=xs.length):
  fW w I σ (lK n vs xs) (us.take n++ys++us.drop (n+ys.length)):=by
 have e:=((ez _ _).1 h1).1;have o:=((ez _ _).1 K).1;rw[ez];refine⟨by rw[tO];grind,fun j c u m h=> ?_⟩;rw[rh _ _ _ _ l]at m;split at m
 .rw[ug aj,tu aj]at h;simp only[sr]at h;rw[show j-min n us.length=j-n from ab]at h;exact((ez _ _).1 K).2 _ c u m h
 .by_cases z:j<n
  .rw[vD,ug aj,z0,if_pos z]at h;exact((ez _ _).1 h1).2 _ c u m h
  .rw[tu aj,ux]at h;simp only[ta,sr]at h;rw[show n+ys.length+(j-(min n us.length+ys.length))=j from ab]at h;exact((ez _ _).1 h1).2 _ c u m h
theorem GQ: ∀(vs:List Value) (off j:Nat) (cs:Array Value),off+j+vs.length<=cs.size->
  ((vs.zipIdx j).foldl (fun cs (p:Value×Nat)=>cs.setIfInBounds (off+p.2) p.1) cs).toList=cs.toList.take (off+j)++vs++cs.toList.drop (off+j+vs.length)
 | [],off,j,cs,h=>ai
 |v::vs,off,j,cs,h=>by
  simp only[List.zipIdx_cons,List.foldl_cons];rw[GQ vs off (j+1) (cs.setIfInBounds (off+j) v) aj];have e:=list_seg_step cs.toList (off+j) v vs ab;simpa[Array.toList_setIfInBounds,X6] using e
theorem Ew(u:Value)(off:Nat)(cs:Array Value)(h:off+u.cells.size<=cs.size):
  u.cells.zipIdx.foldl (fun cs (p:Value×Nat)=>cs.setIfInBounds (off+p.2) p.1) cs=qF cs off u.cells.toList:=by
 apply Array.ext';rw[<-Array.foldl_toList];have:u.cells.zipIdx.toList=u.cells.toList.zipIdx:=ai
 have:=GQ u.cells.toList off 0 cs ab;simpa[qF] using this
theorem DL{Q:List (Nat×Nat)}{place:Nat->Option (Nat×Nat)}(hp: ∀(i:Nat) x,Q[i]?=some x->place i=some x)(N: ∀x∈Q,0<x.2):
  ∀{ps:List (Nat×V)} {cs s:List V} {us:Array Value} {Fw:List (Nat×Value)},fW w I σ cs us.toList->iT w I σ (ps.map (·.2)) (Fw.map (·.2))->ps.map (·.1)=Fw.map (·.1)->yX Q cs ps=some s->
   ∃D:Array Value,Instr.fill place us Fw=some D/\fW w I σ s D.toList
 | [],cs,s,us,Fw,c,C,j,h=>by
  simp only[yX,aS]at h;subst h;cases Fw with
  |nil=>exact⟨us,rfl,c⟩
  |cons _ _=>grind
 |(i,v)::ps,cs,s,us,Fw,c,C,j,h=>by
  cases Fw with
  |nil=>grind
  |cons p Fw=>
   obtain⟨y,u⟩:=p;simp only[r2,ui]at j;obtain⟨rfl,j⟩:=j;simp only[r2,iT]at C;obtain⟨t,r,E,m,C⟩:=C;obtain⟨rfl,rfl⟩:=E;simp only[yX]at h;cases e:Q[i]? with
   |none=>grind
   |some x=>
    obtain⟨o,k⟩:=x;simp only[e]at h;split at h
    .rename_i U;simp only[X8,decide_eq_true_eq]at U;have q:=m.cells U.1;have l:=((ez _ _).1 c).1;have T:=((ez _ _).1 q.2).1;have a:u.cells.size=k:=g0
     have L:us.size=cs.length:=by simpa using l.symm
     have G:=GP (n:=o) c q.2 ab;obtain⟨D,h1,K⟩:=DL hp N G C j h;refine⟨D,?_,K⟩;simp only[Instr.fill,hp i _ e];rw[if_neg]
     .rw[Ew u o us ab];exact h1
     grind
    grind
end
section
variable {X:Env} {o:Oper} {a:Act} {w:World} {I:Nat->Prop} {σ:jI} {S S1:St}
theorem DM{S:St}{a:Act}{o:Oper}(F:jO w I σ S.f a)(hx:oN o)(ps:List (Nat×Operand))(h: ∀y∈ps,y.2∈o.op.operands.toList):
  iT w I σ ((ps.map fun p=>(p.1,S.ev p.2)).map (·.2)) ((ps.map fun p=>(p.1,a.eval p.2)).map (·.2))/\(ps.map fun p=>(p.1,S.ev p.2)).map (·.1)=(ps.map fun p=>(p.1,a.eval p.2)).map (·.1):=by
 refine⟨?_,ai⟩;induction ps with
 |nil=>simp[iT]
 |cons p ps i=>
  exact⟨_,_,rfl,fu (S:=S) F (hx p.2 (h p ai)),i (fun y G=>h y aj)⟩
theorem rl{x:TI}(T:mE P t x)(h:Kd x.zero z=true):fW w I σ x.zero.cells z.cells.toList:=((Nz T h).cells T.aso).2
theorem NJ(h:0<P.cellsOf t)(w:World):(sizeOf t).run P w= .ok (P.cellsOf t) w:=by
 unfold Program.cellsOf at h⊢;cases j:P.info? t with
 |none=>grind
 |some i=>simp[sizeOf,typeInfo,j]
theorem Ey{P:Program}(w:World): ∀(s:List Field),(∀f∈s,0<P.cellsOf f.type)->
  (s.mapM fun f=>Functor.map (Prod.mk f.offset) (sizeOf f.type)).run P w= .ok (s.map fun f=>(f.offset,P.cellsOf f.type)) w
 | [],_=>ai
 |f::s,h=>by
  simp[CD,NJ (h f ai),Ey w s (fun x hx=>h x aj)]
theorem Kl    (e:o.op= .build t ps) (T:mE X.P t (X.ti t)) (v:(X.ti t).arr=none\/mE X.P (X.ti t).elem (X.ti (X.ti t).elem)) (R:Rel w I σ S.h) (F:jO w I σ S.f a) (hx:oN o)
  (h:((X.ti t).arr=none/\yX (X.ti t).x9 (X.ti t).zero.cells (ps.toList.map fun p=>(p.1,S.ev p.2))=some cs/\(X.ti t).x9≠ [])\/
   ∃m,(X.ti t).arr=some m/\yX ((List.range m).map fun i=>(i*(X.ti (X.ti t).elem).size,(X.ti (X.ti t).elem).size)) (X.ti t).zero.cells (ps.toList.map fun p=>(p.1,S.ev p.2))=some cs)
  (s:S1=S.set o.dst (.agg cs)):Out X o a w I σ S S1:=by
 obtain⟨z,O,k⟩:=GH T w;have V:=rl (w:=w) (I:=I) (σ:=σ) T k;have B:=DM F hx ps.toList eF;obtain⟨d,C,b⟩:=T.und;rcases h with⟨n,h,Z⟩|⟨m,Q,h⟩
 .cases d with
  |struct A=>
   simp only[By,X8,beq_iff_eq]at b;obtain⟨⟨⟨⟨_,Y⟩,_⟩,_⟩,N⟩:=b;have W: ∀(i:Nat) x,(X.ti t).x9[i]?=some x->((A.map fun f=>(f.offset,X.P.cellsOf f.type))[·]?) i=some x:=by
    intro i x j;rw[Y]at j;simpa using j
   obtain⟨D,h1,K⟩:=DL W (fun x J=>aj) V B.1 B.2 h;refine Out.pure (u:= .agg D) R ?_ (by exact⟨D,rfl,K⟩) s;have g:=Ey (P:=X.P) w A.toList (fun f h=>of_decide_eq_true (List.all_eq_true.1 N f h));simp only[Do]at h1;simp[execOp,e,Instr.build,O,run_underlying C,Ef,g,h1]
  |_=>
   exfalso;simp[By]at b
   grind
 .have c:=GM T Q;have U:=v.resolve_left aj;obtain⟨D,h1,K⟩:=DL (place:=fun i=>some (i*(X.ti (X.ti t).elem).size,(X.ti (X.ti t).elem).size)) (fun i x j=>aj) (fun x J=>by
   obtain⟨i,_,rfl⟩:=List.mem_map.1 J;exact U.pos) V B.1 B.2 h
  refine Out.pure (u:= .agg D) R ?_ (by exact⟨D,rfl,K⟩) s;simp[execOp,e,Instr.build,O,run_underlying c,run_sizeOf U,h1]
end
section
variable {X:Env} {o:Oper} {a:Act} {w:World} {I:Nat->Prop} {σ:jI} {S S1:St}
theorem zH {h:bI} (R:Rel w I σ h) {k:Nat}     (c:Array Value) (W:h n=none) (s:σ n=none)
  (y: ∀e∈es,e.cells.length=k) (r:fW w I (mJ eP σ) (flat es) us) (m: ∀(j:Nat) u,us[j]?=some u->c[j]?=some u):
  Step w I σ h n (w.alloc (.cells c el)) I (bB σ n (some (w.heap.size,0,k))) (bB h n (some ⟨k,es,eP⟩)) (n+1):=by
 have l:us.length=es.length*k:=by rw[<-((ez _ _).1 r).1,pW y]
 refine Lv R c W s ?_ ?_
 .by_cases h0:us.length=0
  .omega
  .have a:us[us.length-1]?=some (us[us.length-1]' ab):=ai
   grind
 .have E:Ext w I σ (w.alloc (.cells c el)) I (bB σ n (some (w.heap.size,0,k))):=(Ext.alloc R.eA _).trans (Ext.Vy s);refine vg (E.r8 eP) y r (fun j u b=> ?_)
  simp_all
theorem CP(w:World)(I:Nat->Prop)(σ:jI){k:Nat}{c:Array Value}(V:l<=cap)(h:cap<=maxLen)(q:cap*k<=c.size):
  dX (w.alloc (.cells c el)) I (bB σ n (some (w.heap.size,0,k))) (.cX n 0 l) (.slice (some ⟨w.heap.size,0,none⟩) l cap):=by
 exact⟨_,cap,rfl,V,h,.inr ⟨w.heap.size,0,k,c,el,(0,0),al,ai,Bo w _,aj⟩⟩
theorem Jz  {l c:Operand}  {n m:Int} (f:o.op= .makeSlice t l c) (d:X.P.underlying t=some (.slice (X.ti t).elem)) (T:mE X.P (X.ti t).elem (X.ti (X.ti t).elem)) (R:Rel w I σ S.h) (F:jO w I σ S.f a) (hx:oN o)
  (W:S.h S.n=none) (q:σ S.n=none) (G:S.ev l= .int k1 n) (D:S.ev c= .int k2 m) (p:0<=n/\n<=m/\m*(X.ti (X.ti t).elem).bytes<=2^47/\m<=2^62)
   (L:S1=(S.new ⟨(X.ti (X.ti t).elem).size,List.replicate n.toNat (X.ti (X.ti t).elem).zero,kp⟩).set o.dst (.cX S.n 0 n.toNat)):Out X o a w I σ S S1:=by
 subst L;have h1:dX w I σ (S.ev l) (a.eval l):=fu (S:=S) F (hx l bz);have K:dX w I σ (S.ev c) (a.eval c):=fu (S:=S) F (hx c bz);rw[G]at h1;rw[D]at K;have x:=iJ h1;have U:=iJ K;obtain⟨i,z,B,E,g,Q,b⟩:=T.info;have V:=rl (w:=w) (I:=I) (σ:=mJ kp σ) T b;have N:z.cells.size=(X.ti (X.ti t).elem).size:=by
  have:=((ez _ _).1 V).1;exact pr
 have y:(i.bytes:Int)*m<=281474976710656:=by
  rw[g,Int.mul_comm];omega
 have O:=run_make (P:=X.P) w t (X.ti t).elem i z d B Q k1 k2 n m p.1 p.2.1 y ab;rw[E]at O;have s:(madeCells z.cells (m.toNat*(X.ti (X.ti t).elem).size)).toList=(List.replicate m.toNat z.cells.toList).flatten:=by
  unfold madeCells;rw[<-N];exact Kk z.cells _ _ rfl (by rw[N];exact T.pos)
 have r: ∀e∈List.replicate n.toNat (X.ti (X.ti t).elem).zero,e.cells.length=(X.ti (X.ti t).elem).size:=by
  intro e C;rw[D' C];exact T.Zr
 have v:fW w I (mJ kp σ) (flat (List.replicate n.toNat (X.ti (X.ti t).elem).zero)) (List.replicate n.toNat z.cells.toList).flatten:=by
  rw[zF];exact BB V n.toNat
 refine⟨_,_,I,_,.slice (some ⟨w.heap.size,0,none⟩) n.toNat m.toNat,.cX S.n 0 n.toNat,?_,.inl rfl,?_,sT _ _ _ _ rfl,CP w I σ (k:=(X.ti (X.ti t).elem).size) (c:=madeCells z.cells (m.toNat*(X.ti (X.ti t).elem).size)) (el:=(X.ti t).elem) ab cv (by rw[size_madeCells];omega)⟩
 .simp[execOp,f,x,U,O]
 .rw[fw,ik];refine zH R _ W q r v (fun j u h=> ?_);have M:0<z.cells.toList.length:=by simp[N];exact T.pos
  rw[mA _ M]at h;rw[<-Array.getElem?_toList,s,mA _ M];split at h
  .rename_i A;rw[if_pos (va A (ul _ ab))];omega
  grind
theorem Ua      (m:Bool) (h:o.op= .call ⟨.builtin (if m then .max else .min),args,mW⟩) (W:args.toList=[x,y]) (R:Rel w I σ S.h) (F:jO w I σ S.f a) (hx:oN o)
  (h1:S.ev x= .int k p) (K:S.ev y= .int k q) (s:S1=S.set o.dst (.int k (if m then(if q>p then q else p) else(if q<p then q else p)))):Out X o a w I σ S S1:=by
 have B:args= #[x,y]:=by rw[<-W]
 have U:dX w I σ (S.ev x) (a.eval x):=fu (S:=S) F (hx x fl);have r:dX w I σ (S.ev y) (a.eval y):=fu (S:=S) F (hx y fl);rw[h1]at U;rw[K]at r;refine Out.pure (u:= .int k (if m then(if q>p then q else p) else(if q<p then q else p))) R ?_ (by simp only[dX]) s;cases m
 .simp[execOp,h,B,resolve,invoke,builtin,iJ U,iJ r,Builtin.min_,Builtin.min2]
 .simp[execOp,h,B,resolve,invoke,builtin,iJ U,iJ r,Builtin.max_,Builtin.max2]
end
def NL{k:Nat}: ∀{es:List V} (i:Nat) (v:V),(∀e∈es,e.cells.length=k)->v.cells.length=k->i<es.length->flat (es.set i v)=lK (i*k) v.cells (flat es)
 | [],i,v,_,_,m=>aj
 |e::es,0,v,h,l,_=>by
  rw[z4,tq,tq,yo];have C:=h e ai;apply tl;intro j;rw[rh _ _ _ _ aj]
  grind
 |e::es,i+1,v,h,l,m=>by
  rw[List.set_cons_succ,tq,tq,NL i v (fun x hx=>h x aj) l aj];have C:=h e ai;have y:=pW (fun x hx=>h x aj: ∀x∈es,x.cells.length=k);have N:(i+1)*k<=es.length*k:=ul _ aj;rw[t1]at N;apply tl;intro j;rw[rh _ _ _ _ aj];by_cases q:j<k
  .grind
  .rw[tu ab,rh _ _ _ _ ab,tu ab,C]
   grind
section
variable {w:World} {I:Nat->Prop} {σ:jI}
theorem Km{k:Nat}(hp:0<k): ∀{ps:List (Nat×V)} {es B:List V} {us:Array Value} {Fw:List (Nat×Value)},(∀e∈es,e.cells.length=k)->fW w I σ (flat es) us.toList->
  iT w I σ (ps.map (·.2)) (Fw.map (·.2))->ps.map (·.1)=Fw.map (·.1)->rE k es ps=some B->
   ∃D:Array Value,Instr.fill (fun i=>some (i*k,k)) us Fw=some D/\fW w I σ (flat B) D.toList/\(∀e∈B,e.cells.length=k)/\B.length=es.length
 | [],es,B,us,Fw,y,c,C,j,f=>by
  simp only[rE,aS]at f;subst f;cases Fw with
  |nil=>exact⟨us,rfl,c,y,rfl⟩
  |cons _ _=>grind
 |(i,v)::ps,es,B,us,Fw,y,c,C,j,f=>by
  cases Fw with
  |nil=>grind
  |cons p Fw=>
   obtain⟨s,u⟩:=p;simp only[r2,ui]at j;obtain⟨rfl,j⟩:=j;simp only[r2,iT]at C;obtain⟨o,r,E,m,C⟩:=C;obtain⟨rfl,rfl⟩:=E;simp only[rE]at f;split at f
   .rename_i U;simp only[X8,decide_eq_true_eq]at U;have q:=m.cells U.1;have l:=((ez _ _).1 c).1;rw[pW y]at l;have T:=((ez _ _).1 q.2).1;have a:u.cells.size=k:=g0
    have L:us.size=es.length*k:=by simpa using l.symm
    have N:(i+1)*k<=es.length*k:=ul _ U.2;rw[t1]at N;have G:=GP (n:=i*k) c q.2 (by rw[pW y,q.1];omega);rw[<-NL i v y q.1 U.2]at G;have t: ∀e∈es.set i v,e.cells.length=k:=by
     intro e E;rcases vb E with h|h
     .grind
     .grind
    obtain⟨D,h1,K,S,b⟩:=Km hp t G C j f;refine⟨D,?_,K,S,aj⟩;simp only[Instr.fill];rw[if_neg]
    .rw[Ew u (i*k) us ab];exact h1
    grind
   grind
theorem LD{h:bI}(R:Rel w I σ h)(c:Array Value)(el:TypeId)(n:Nat):Step w I σ h n (w.alloc (.cells c el)) (fun b=>I b\/b=w.heap.size) σ h n:=by
 have E:Ext w I σ (w.alloc (.cells c el)) (fun b=>I b\/b=w.heap.size) σ:=
  (Ext.alloc R.eA _).trans ⟨fun _ _=>rfl,fun _ c _ fz a=>⟨c,fz,a,rfl⟩,fun b e=> .inl e,fun _ _ a=>a⟩
 have O: ∀b,ju σ h b->b<w.heap.size:=fun b e=>by
  obtain⟨_,c,el,a⟩:=R.owned e;exact a.lt
 refine⟨E,R.eP E (fun b e=> ?_) (fun b e=>⟨QV w _ b (O b e),?_⟩) (fun _ _=>rfl),rfl,rfl,rfl,bu,fun b e _=>QV w _ b e,fun b e=> .inr e,fun b e=> ?_,iX _,fun _ _=>rfl,fun _ _ W=>W⟩
 .rw[GC];rcases e with e|rfl
  .have:=R.eA b e;omega
  omega
 .rintro(i|rfl)
  .exact(R.owned e).1 i
  grind
 grind
end
section
variable {X:Env} {o:Oper} {a:Act} {w:World} {I:Nat->Prop} {σ:jI} {S S1:St}
theorem vh   (u:X.P.underlying t=some (.slice (X.ti t).elem)) (T:mE X.P (X.ti t).elem (X.ti (X.ti t).elem)) (v:n*(X.ti (X.ti t).elem).size<=2^24)
  {ps:List (Nat×V)}  {Fw:Array (Nat×Value)} {w:World} {J:Nat->Prop} {τ:jI} (r:iT w J τ (ps.map (·.2)) (Fw.toList.map (·.2))) (j:ps.map (·.1)=Fw.toList.map (·.1))
  (f:rE (X.ti (X.ti t).elem).size (List.replicate n (X.ti (X.ti t).elem).zero) ps=some es):
  ∃us:Array Value,(Instr.buildSlice t n Fw).run X.P w= .ok (.slice (some ⟨w.heap.size,0,none⟩) n n) (w.alloc (.cells us (X.ti t).elem))/\fW w J τ (flat es) us.toList/\(∀e∈es,e.cells.length=(X.ti (X.ti t).elem).size)/\es.length=n:=by
 obtain⟨z,O,h⟩:=GH T w;have L:=rl (w:=w) (I:=J) (σ:=τ) T h;have N:z.cells.size=(X.ti (X.ti t).elem).size:=by
  have:=((ez _ _).1 L).1;exact pr
 have P: ∀e∈List.replicate n (X.ti (X.ti t).elem).zero,e.cells.length=(X.ti (X.ti t).elem).size:=by
  intro e C;rw[D' C];exact T.Zr
 have m:fW w J τ (flat (List.replicate n (X.ti (X.ti t).elem).zero)) ((Array.range (n*(X.ti (X.ti t).elem).size)).map (z.cells[· % z.cells.size]!)).toList:=by
  rw[zF,<-N,Kk z.cells _ _ rfl (by rw[N];exact T.pos)];exact BB L n
 obtain⟨us,h1,K,S,a⟩:=Km T.pos P m r j f;refine⟨us,?_,K,S,aj⟩;have F: ¬(2^24<n*(X.ti (X.ti t).elem).size):=ab
 have p:=T.pos;by_cases h0:n=0
 .subst h0;have x:Instr.fill (fun i=>some (i*(X.ti (X.ti t).elem).size,(X.ti (X.ti t).elem).size)) #[] Fw.toList=some us:=by
   simpa[Array.range_zero'] using h1
  simp[Instr.buildSlice,run_underlying u,run_sizeOf T,newRow,x,Array.range_zero']
 .have k:n*(X.ti (X.ti t).elem).size≠0:=by
   have:=Nat.mul_pos (Nat.pos_of_ne_zero h0) p;omega
  simp[Instr.buildSlice,run_underlying u,run_sizeOf T,newRow,F,O,h1];omega
theorem Bk     (e:o.op= .buildSlice t n ps) (b:X.P.underlying t=some (.slice (X.ti t).elem)) (T:mE X.P (X.ti t).elem (X.ti (X.ti t).elem)) (v:n*(X.ti (X.ti t).elem).size<=2^24)
  (R:Rel w I σ S.h) (F:jO w I σ S.f a) (hx:oN o) (W:S.h S.n=none) (r:σ S.n=none)
  (f:rE (X.ti (X.ti t).elem).size (List.replicate n (X.ti (X.ti t).elem).zero) (ps.toList.map fun p=>(p.1,S.ev p.2))=some es)
  (K:S1=(S.new ⟨(X.ti (X.ti t).elem).size,es,true⟩).set o.dst (.cX S.n 0 n)):Out X o a w I σ S S1:=by
 subst K;have B:=DM F hx ps.toList eF;obtain⟨s,O,q,z,h⟩:=vh (Fw:=ps.map fun p=>(p.1,a.eval p.2)) b T v (by simpa using B.1) ai f;have L:s.size=n*(X.ti (X.ti t).elem).size:=by
  have:=((ez _ _).1 q).1;rw[pW z,h]at this;simpa using this.symm
 have m:n<=maxLen:=by
  exact mv
 refine⟨_,_,I,_,.slice (some ⟨w.heap.size,0,none⟩) n n,.cX S.n 0 n,?_,.inl rfl,?_,sT _ _ _ _ rfl,CP w I σ (k:=(X.ti (X.ti t).elem).size) (c:=s) (el:=(X.ti t).elem) (iX _) m ab⟩
 .simp[execOp,e,O]
 .rw[fw,ik];exact zH R s W r z (us:=s.toList) (by simpa[mJ] using q) (fun j u N=>aj)
theorem GR{h:bI}(g:pQ (fun _=>none) v=some (v',h')):pQ h v=some (v',h):=by
 cases v<;>simp_all [pQ]
theorem GS{h:bI}: ∀{cs s:List V} {h':bI},eY (fun _=>none) cs=some (s,h')->eY h cs=some (s,h)
 | [],_,_,g=>by simp only[eY,aS,cy]at g⊢;grind
 |c::cs,_,_,g=>by
  have key: ∀{c':V} {h1:bI},pQ (fun _=>none) c=some (c',h1)->h1=fun _=>none:=by
   intro c' h1 K;cases c<;>simp_all [pQ]
  simp only[eY]at g⊢;split at g
  case h_2=>grind
  rename_i c' h1 m;have:=key m;subst this;split at g
  case h_2=>grind
  rename_i s K B;obtain⟨rfl,_⟩:=g;simp only[GR (h:=h) m,GS (h:=h) B]
theorem VN{h:bI}(g:re (fun _=>none) v=some (v',h')):re h v=some (v',h):=by
 cases v with
 |agg cs=>
  simp only[re]at g⊢;split at g
  case h_2=>grind
  rename_i s h1 c;obtain⟨rfl,_⟩:=g;simp only[GS (h:=h) c]
 |_=>exact GR (by simpa[re] using g)
theorem GU: ∀{cs s:List V} {h':bI},eY (fun _=>none) cs=some (s,h')->h'=fun _=>none
 | [],_,_,h=>by simp only[eY,aS,cy]at h;grind
 |c::cs,_,_,h=>by
  simp only[eY]at h;split at h
  case h_2=>grind
  rename_i c' h1 m;have:h1=fun _=>none:=by cases c<;>simp_all [pQ]
  subst this;split at h
  case h_2=>grind
  rename_i s K B;obtain⟨_,rfl⟩:=h;exact GU B
theorem VO(h:re (fun _=>none) v=some (v',h')):h'=fun _=>none:=by
 cases v with
 |agg cs=>
  simp only[re]at h;split at h
  case h_2=>grind
  rename_i s h1 c;obtain⟨_,rfl⟩:=h;exact GU c
 |_=>simp_all [re,pQ]
theorem GV{h:bI}: ∀{ps z:List (Nat×V)} {h':bI},mV (fun _=>none) ps=some (z,h')->mV h ps=some (z,h)
 | [],_,_,g=>by simp only[mV,aS,cy]at g⊢;grind
 |(i,v)::ps,_,_,g=>by
  simp only[mV]at g⊢;split at g
  case h_2=>grind
  rename_i c' h1 c;have:=VO c;subst this;split at g
  case h_2=>grind
  rename_i s K B;obtain⟨rfl,_⟩:=g;simp only[VN (h:=h) c,GV (h:=h) B]
theorem vj     {l:List (Nat×V)} {h:bI}  (f:o.op= .buildSlice t n ps) (g:X.P.underlying t=some (.slice (X.ti t).elem)) (T:mE X.P (X.ti t).elem (X.ti (X.ti t).elem)) (E:n*(X.ti (X.ti t).elem).size<=2^24)
  (R:Rel w I σ S.h) (F:jO w I σ S.f a) (hx:oN o) (i:S.h S.n=none) (r:σ S.n=none)
  (Y:mV S.h (ps.toList.map fun p=>(p.1,S.ev p.2))=some (l,h))
  (L:rE (X.ti (X.ti t).elem).size (List.replicate n (X.ti (X.ti t).elem).zero) l=some es)
  (K:S1=if th then(({S with h:=h}:St).new ⟨(X.ti (X.ti t).elem).size,es,false⟩).set o.dst (.cX S.n 0 n) else({S with h:=h}:St).set o.dst (.sl true es)):Out X o a w I σ S S1:=by
 subst K;have B:=DM F hx ps.toList (by intro y G;simp only[f,Op.operands];grind);obtain⟨v,d,U,M,A⟩:=Kj R B.1 Y S.n;obtain⟨s,O,q,z,e⟩:=vh (Fw:=ps.map fun p=>(p.1,a.eval p.2)) g T E (by simpa using U) bu L;have Z:s.size=n*(X.ti (X.ti t).elem).size:=by
  have:=((ez _ _).1 q).1;rw[pW z,e]at this;simpa using this.symm
 have m:n<=maxLen:=by
  exact mv
 have W:h S.n=none:=by
  cases x:h S.n with
  |none=>rfl
  |some ob=>grind
 cases th with
 |true=>
  refine⟨_,_,v,_,.slice (some ⟨w.heap.size,0,none⟩) n n,.cX S.n 0 n,?_,.inl rfl,?_,?_,CP w v σ (k:=(X.ti (X.ti t).elem).size) (c:=s) (el:=(X.ti t).elem) (iX _) m ab⟩
  .simp[execOp,f,O]
  .simp only[if_true];rw[fw,ik];exact d.trans (zH d.rel s W r z (us:=s.toList) (by simpa[mJ] using q) (fun j u N=>aj))
  .exact sT _ _ _ _ rfl
 |false=>
  refine⟨_,w.alloc (.cells s (X.ti t).elem),(fun b=>v b\/b=w.heap.size),σ,.slice (some ⟨w.heap.size,0,none⟩) n n,.sl true es,?_,.inl rfl,?_,?_,?_⟩
  .simp[execOp,f,O]
  .simp only[r3,if_false];rw[fw,ik];exact d.trans (LD d.rel s (X.ti t).elem S.n)
  .exact sT _ _ _ _ rfl
  .refine⟨_,n,aj,ab,m,fun _=>e.symm,.inr ⟨w.heap.size,0,(X.ti (X.ti t).elem).size,rfl,.inr rfl,?_⟩⟩;refine vg (LD d.rel s (X.ti t).elem S.n).ext.Ls z (us:=s.toList) q (fun j u N=> ?_)
   simp_all
end
end Go.Abs
