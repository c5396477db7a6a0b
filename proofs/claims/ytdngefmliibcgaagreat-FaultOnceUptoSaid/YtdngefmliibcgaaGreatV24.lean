/- part -/
import Derived.Test.YtdngefmliibcgaaGreatV23
import Derived.Deep.AppendSrc
set_option linter.all false
set_option maxRecDepth 20000
set_option maxHeartbeats 20000000
namespace Go.Abs
open Go
variable  {P:Program}{t el:TypeId}{x ix y:Operand}{c isS eU kp th:Bool}{es cs ds:List V}{k k1 k2:IntKind}{n id s l m j f cap h kk hh:Nat}{e v v':V}{ob:Ob}{us vs ys:List Value}{args:Array Operand}{mH:Array TypeId}{q p:Int}{lo hi:Option Operand}{ulo uhi:Option Value}{u z:Value}{ps:Array (Nat×Operand)}{h':bh}
def lI{x:TI}(h:sliceB P t x=true):P.underlying t=some (.slice x.elem):=by
 unfold sliceB at h
 grind
section
variable {X:Env} {o:Oper} {a:Act} {w:World} {I:Nat->Prop} {σ:ju} {S S1:St}
theorem KI   (ho:o.op= .indexAddr t x ix) (hu:X.P.underlying t=some (.slice (X.ti t).elem)) (T:mh X.P (X.ti t).elem (X.ti (X.ti t).elem)) (R:Rel w I σ S.h) (F:jw w I σ S.f a) (hx:nP o)
     {n:Int}  (he:S.ev x= .sl c es) (hi:S.ev ix= .int k n) (h0:0<=n/\n<es.length) (hg:es[n.toNat]?=some e) (hk:e.cells.length=(X.ti (X.ti t).elem).size)
  (hs:S1=S.set o.dst (.ref e.cells)):Out X o a w I σ S S1:=by
 have h1:dD w I σ (S.ev x) (a.eval x):=fj (S:=S) F (hx x (by simp[ho,Op.operands]));have h2:dD w I σ (S.ev ix) (a.eval ix):=fj (S:=S) F (hx ix (by simp[ho,Op.operands]));rw[he]at h1;rw[hi]at h2;have LZ:=iG h2;obtain⟨ad,cap,rK,_,_,_,hr⟩:=h1;rcases hr with hr|⟨b,of,kk,rfl,hI,fX⟩
 ·grind
 ·have hgk:=fX.get hg;have v7:kk=(X.ti (X.ti t).elem).size:=by rw[<-hk];exact hgk.1.symm
  refine Out.pure (u:= .pointer (some ⟨b,of+n.toNat*(X.ti (X.ti t).elem).size,none⟩)) R ?_ ?_ hs
  ·simp[execOp,ho,rK,LZ,Instr.indexAt,run_underlying hu,asIntOf,h0,run_sizeOf T,qu]
  ·exact⟨b,_,rfl,hI,by rw[tH,<-v7];grind⟩
theorem Ii   (ho:o.op= .indexAddr t x ix) (hu:X.P.underlying t=some (.slice (X.ti t).elem)) (T:mh X.P (X.ti t).elem (X.ti (X.ti t).elem)) (R:Rel w I σ S.h) (F:jw w I σ S.f a) (hx:nP o)
    {n:Int}  (he:S.ev x= .cx id s l) (hi:S.ev ix= .int k n) (h0:0<=n/\n<l) (hg:S.h id=some ob) (hk:ob.k=(X.ti (X.ti t).elem).size)
  (hs:S1=S.set o.dst (.ptr id (s+n.toNat) 0)):Out X o a w I σ S S1:=by
 have h1:dD w I σ (S.ev x) (a.eval x):=fj (S:=S) F (hx x (by simp[ho,Op.operands]));have h2:dD w I σ (S.ev ix) (a.eval ix):=fj (S:=S) F (hx ix (by simp[ho,Op.operands]));rw[he]at h1;rw[hi]at h2;have LZ:=iG h2;obtain⟨ad,cap,rK,UX,_,hr⟩:=h1;rcases hr with hr|⟨b,of,kk,c,el,fz,mQ,rfl,hb,_⟩
 ·omega
 ·have v7:kk=ob.k:=by
   rcases R.obj id ob hg with⟨_,hn⟩|⟨b',o',c',PR,oG,_⟩
   ·grind
   ·grind
  refine Out.pure (u:= .pointer (some ⟨b,of+s*kk+n.toNat*kk,none⟩)) R ?_ ?_ hs
  ·simp[execOp,ho,rK,LZ,Instr.indexAt,run_underlying hu,asIntOf,h0,run_sizeOf T,qu,v7,hk]
  ·exact⟨b,of,kk,mQ,by grind⟩
theorem Fp{x:TI}(T:mh P t x)(h:x.arr=some m):P.underlying t=some (.array m x.elem):=by
 obtain⟨d,hd,hb⟩:=T.und;cases d<;>simp_all [Af]
theorem Ij   (ho:o.op= .indexAddr t x ix) (T0:mh X.P t (X.ti t)) (T:mh X.P (X.ti t).elem (X.ti (X.ti t).elem)) (R:Rel w I σ S.h) (F:jw w I σ S.f a) (hx:nP o)
    {n:Int} (he:S.ev x= .ptr id j f) (hi:S.ev ix= .int k n) (hm:(X.ti t).arr=some m) (h0:0<=n/\n<m)
  (hs:S1=S.set o.dst (.ptr id j (f+n.toNat*(X.ti (X.ti t).elem).size))):Out X o a w I σ S S1:=by
 have h1:dD w I σ (S.ev x) (a.eval x):=fj (S:=S) F (hx x (by simp[ho,Op.operands]));have h2:dD w I σ (S.ev ix) (a.eval ix):=fj (S:=S) F (hx ix (by simp[ho,Op.operands]));rw[he]at h1;rw[hi]at h2;have LZ:=iG h2;obtain⟨b,of,kk,mQ,hp⟩:=h1;have hu:=Fp T0 hm;refine Out.pure (u:= .pointer (some ⟨b,of+j*kk+f+n.toNat*(X.ti (X.ti t).elem).size,none⟩)) R ?_ ?_ hs
 ·simp[execOp,ho,hp,LZ,Instr.indexAt,run_underlying hu,asIntOf,h0,run_sizeOf T,qu,Instr.sureAddr]
 ·exact⟨b,of,kk,mQ,by grind⟩
theorem My{x:TI}(T:mh P t x){us:Array Value}(hc:fR w I σ cs us.toList)(hv:part x cs f=some v):
  ∃u,(Go.part t us f).run P w= .ok u w/\dD w I σ v u:=by
 have hl:=((dO _ _).1 hc).1;unfold part at hv;by_cases ha:x.agg=true
 ·rw[if_pos ha]at hv;split at hv
  ·simp only[aA]at hv;subst hv;refine⟨.agg (us.extract f (f+x.size)),by simp[Go.part,zA T,ha,run_sizeOf T],?_⟩;refine⟨_,rfl,?_⟩;rw[dO];refine⟨by grind,fun j c u xX huj=> ?_⟩;rw[adP]at xX;split at xX
   ·rw[abX]at xX;have a7u:us.toList[f+j]?=some u:=by
     simp only[Array.toList_extract,List.extract_eq_take_drop,adP,abX]at huj;split at huj
     ·omega
     ·omega
    exact((dO _ _).1 hc).2 (f+j) c u xX a7u
   grind
  grind
 ·rw[if_neg ha]at hv;have XU:x.agg=false:=by simpa using ha
  obtain⟨u,h1,_,h3⟩:=hc.get hv;exact⟨u,by
   have uF:us[f]?=some u:=by simpa using h1
   simp[Go.part,zA T,XU,uF],h3⟩
theorem Ik   (ho:o.op= .index t x ix) (T0:mh X.P t (X.ti t)) (T:mh X.P (X.ti t).elem (X.ti (X.ti t).elem)) (R:Rel w I σ S.h) (F:jw w I σ S.f a) (hx:nP o)
     {n:Int}  (he:S.ev x= .agg cs) (hi:S.ev ix= .int k n) (hm:(X.ti t).arr=some m) (h0:0<=n/\n<m)
  (hv:part (X.ti (X.ti t).elem) cs (n.toNat*(X.ti (X.ti t).elem).size)=some v) (hs:S1=S.set o.dst v):Out X o a w I σ S S1:=by
 have h1:dD w I σ (S.ev x) (a.eval x):=fj (S:=S) F (hx x (by simp[ho,Op.operands]));have h2:dD w I σ (S.ev ix) (a.eval ix):=fj (S:=S) F (hx ix (by simp[ho,Op.operands]));rw[he]at h1;rw[hi]at h2;have LZ:=iG h2;obtain⟨us,hp,hc⟩:=h1;have hu:=Fp T0 hm;obtain⟨u,kr,hr⟩:=My T hc hv;refine Out.pure (u:=u) R ?_ hr hs;simp[execOp,ho,hp,LZ,Instr.index,run_underlying hu,asIntOf,h0,run_sizeOf T,kr]
theorem UY    {fs:Array Field} {fd:Field} (ho:o.op= .field t x f) (hu:X.P.underlying t=some (.struct fs)) (hf:fs[f]?=some fd) (T:mh X.P fd.type (X.ti fd.type)) (R:Rel w I σ S.h) (F:jw w I σ S.f a) (hx:nP o)
    (he:S.ev x= .agg cs) (hv:part (X.ti fd.type) cs fd.offset=some v) (hs:S1=S.set o.dst v):Out X o a w I σ S S1:=by
 have h1:dD w I σ (S.ev x) (a.eval x):=fj (S:=S) F (hx x (by simp[ho,Op.operands]));rw[he]at h1;obtain⟨us,hp,hc⟩:=h1;obtain⟨u,kr,hr⟩:=My T hc hv;refine Out.pure (u:=u) R ?_ hr hs;simp[execOp,ho,hp,Instr.field,asAgg,run_underlying hu,hf,kr]
theorem Il   (ho:o.op= .index t x ix) (hu:X.P.underlying t=some .string) (R:Rel w I σ S.h) (F:jw w I σ S.f a) (hx:nP o)
  {s:List UInt8}  {n:Int} {b:UInt8} (he:S.ev x= .str s) (hi:S.ev ix= .int k n) (h0:0<=n) (hg:s[n.toNat]?=some b) (hs:S1=S.set o.dst (.int .u8 b.toNat)):Out X o a w I σ S S1:=by
 have h1:dD w I σ (S.ev x) (a.eval x):=fj (S:=S) F (hx x (by simp[ho,Op.operands]));have h2:dD w I σ (S.ev ix) (a.eval ix):=fj (S:=S) F (hx ix (by simp[ho,Op.operands]));rw[he]at h1;rw[hi]at h2;have LZ:=iG h2;obtain⟨bs,hb,rfl⟩:=su h1;have hg':bs[n.toNat]?=some b:=by
  have hl:n.toNat<bs.data.toList.length:=(List.getElem?_eq_some_iff.1 hg).1;have Ah:n.toNat<bs.size:=by simpa using hl
  rw[getElem?_pos bs n.toNat Ah];have:=(List.getElem?_eq_some_iff.1 hg).2;simp at this;rw[<-this];rfl
 refine Out.pure (u:= .int .u8 b.toNat) R ?_ (by simp[dD]) hs;simp[execOp,ho,hb,LZ,Instr.index,run_underlying hu,asIntOf,h0,hg']
theorem aip     (ho:o.op= .call ⟨.builtin .len,args,mH⟩) (ha:args.toList=[x])  (ht:mH[0]?=some t)
  (hu:((∃e,X.P.underlying t=some (.slice e))/\(X.ti t).isStr=false)\/(X.P.underlying t=some .string/\(X.ti t).isStr=true)) (R:Rel w I σ S.h) (F:jw w I σ S.f a) (hx:nP o)
  (kH:(S.ev x).isStr=(X.ti t).isStr) (hl:E7 (S.ev x)=some m) (hs:S1=S.set o.dst (.int .i64 m)):Out X o a w I σ S S1:=by
 have AD:args= #[x]:=by rw[<-ha]
 have h1:dD w I σ (S.ev x) (a.eval x):=fj (S:=S) F (hx x (by simp[ho,Op.operands,Call.operands,AD]));refine Out.pure (u:= .int .i64 m) R ?_ (by simp[dD]) hs;have kr:(Builtin.len_ mH o.type #[a.eval x]).run X.P w= .ok (.int .i64 m) w:=by
  rcases hu with⟨⟨e,hu⟩,hn⟩|⟨hu,hn⟩
  ·unfold E7 at hl;split at hl
   ·rename_i c es he;rw[he]at h1;obtain⟨ad,cap,hv,_⟩:=h1;simp only[aA]at hl;subst hl;simp[Builtin.len_,ht,hv,run_underlying hu,goInt]
   ·rename_i id s l he;rw[he]at h1;obtain⟨ad,cap,hv,_⟩:=h1;simp only[aA]at hl;subst hl;simp[Builtin.len_,ht,hv,run_underlying hu,goInt]
   ·rename_i s he;rw[he,hn]at kH;cases kH
   grind
  ·cases he:S.ev x with
   |str s=>
    rw[he]at h1 hl;obtain⟨bs,hb,rfl⟩:=su h1;simp only[E7,aA]at hl;subst hl;have:bs.data.toList.length=bs.size:=abZ;simp[Builtin.len_,ht,hb,run_underlying hu,goInt]
   |_=>rw[he,hn]at kH;cases kH
 simp[execOp,ho,AD,resolve,invoke,builtin,kr]
theorem yj{d q:Nat}{v:Option V}(h:Yz d v m=some q):(v=none/\q=d)\/ ∃k n,v=some (.int k n)/\0<=n/\n<=m/\q=n.toNat:=by
 unfold Yz at h
 grind
theorem AE   {lo hi:Option V}   (hb:bounds lo hi n=some (l,h)) (hn:n<=cap) (w:World)
  (hlo: ∀v,lo=some v-> ∃u,ulo=some u/\dD w I σ v u) (aiq:lo=none->ulo=none) (hhi: ∀v,hi=some v-> ∃u,uhi=some u/\dD w I σ v u) (a7w:hi=none->uhi=none):
  (Instr.sliceBounds isS n cap ulo uhi none).run P w= .ok (l,h,cap) w/\l<=h/\h<=n:=by
 unfold bounds at hb;cases h1:Yz n hi n with
 |none=>grind
 |some q=>
  simp only[h1]at hb;cases h2:Yz 0 lo q with
  |none=>grind
  |some p=>
   simp only[h2,aA,bM]at hb;obtain⟨rfl,rfl⟩:=hb;rcases yj h1 with⟨rfl,rfl⟩|⟨k,m,rfl,ha,wT,rfl⟩
   ·rw[a7w rfl];rcases yj h2 with⟨rfl,rfl⟩|⟨k,m,rfl,ha,wT,rfl⟩
    ·rw[aiq rfl];exact⟨by simp[Instr.sliceBounds],by omega,by omega⟩
    ·obtain⟨u,rfl,hr⟩:=hlo _ rfl;rw[iG hr];exact⟨by simp[Instr.sliceBounds,Instr.sliceBound,asIntOf,ha,wT],by omega,by omega⟩
   ·obtain⟨u,rfl,hr⟩:=hhi _ rfl;rw[iG hr];have hc:m<=(cap:Int):=by omega
    rcases yj h2 with⟨rfl,rfl⟩|⟨k',m',rfl,XU,Bn,rfl⟩
    ·rw[aiq rfl];exact⟨by simp[Instr.sliceBounds,Instr.sliceBound,asIntOf,ha,hc],by omega,by omega⟩
    ·obtain⟨u,rfl,hr⟩:=hlo _ rfl;rw[iG hr];have hb3:m'<=max m 0:=by omega
     exact⟨by simp[Instr.sliceBounds,Instr.sliceBound,asIntOf,ha,hc,XU,hb3],by omega,by omega⟩
theorem Dy   {lo hi:Option V}     (hb:bounds lo hi n=some (l,h)) (hh:hi=some (.int k2 q)) (hn:n<=cap) (w:World)
  (hlo: ∀v,lo=some v-> ∃u,ulo=some u/\dD w I σ v u) (aiq:lo=none->ulo=none):
  (Instr.sliceBounds isS n cap ulo (some (.int k2 q)) (some (.int k1 q))).run P w= .ok (l,h,h) w/\l<=h/\h<=n:=by
 unfold bounds at hb;cases h1:Yz n hi n with
 |none=>grind
 |some z=>
  simp only[h1]at hb;cases h2:Yz 0 lo z with
  |none=>grind
  |some p=>
   simp only[h2,aA,bM]at hb;obtain⟨rfl,rfl⟩:=hb;rcases yj h1 with⟨h0,_⟩|⟨k,m,h0,ha,wT,rfl⟩
   ·grind
   ·rw[hh]at h0;obtain⟨rfl,rfl⟩:=h0;have hc:q<=(cap:Int):=by omega
    have hq:q<=max q 0:=by omega
    rcases yj h2 with⟨rfl,rfl⟩|⟨k',m',rfl,XU,Bn,rfl⟩
    ·rw[aiq rfl];exact⟨by simp[Instr.sliceBounds,Instr.sliceBound,asIntOf,ha,hc,hq],by omega,by omega⟩
    ·obtain⟨u,rfl,hr⟩:=hlo _ rfl;rw[iG hr];have hb3:m'<=max q 0:=by omega
     exact⟨by simp[Instr.sliceBounds,Instr.sliceBound,asIntOf,ha,hc,hq,XU,hb3],by omega,by omega⟩
theorem YK(h1:dD w I σ (.sl c es) u)(jV:es.all (fun e=>e.cells.length==kk)=true)(hlh:l<=h)(hhn:h<=es.length)(c':Bool)(hm:h<=m)(Cv:c'=true->m=h):
  ∃ad cap,u= .slice ad es.length cap/\es.length<=cap/\(m<=cap->dD w I σ (.sl c' ((es.take h).drop l)) (.slice (if m=l then ad else ad.map (·.add (l*kk))) (h-l) (m-l))):=by
 obtain⟨ad,cap,rK,hle,hmx,_,hr⟩:=h1;refine⟨ad,cap,rK,hle,fun XV=> ?_⟩;have hlen:((es.take h).drop l).length=h-l:=by simp;omega
 refine⟨_,_,by rw[hlen],by omega,by omega,fun hc=>by grind,?_⟩;by_cases he:h=l
 ·grind
 ·right;have kz:es≠ []:=by intro h0;subst h0;simp at hhn;omega
  rcases hr with hr|⟨b,of,k,rfl,hI,fX⟩
  ·grind
  ·have hk:k=kk:=by
    cases es with
    |nil=>grind
    |cons e es=>
     have:=(fX.get (i:=0) (e:=e) (by simp)).1
     grind
   subst hk;have yi:=fX.Tg l (h-l);refine⟨b,of+l*k,k,?_,hI,by rw[aeL];omega⟩;rw[if_neg (by omega)];simp[qu]
theorem sv{S:St}{a:Act}{o:Oper}(F:jw w I σ S.f a)(hx:nP o)(q:Option Operand)(hq: ∀y,q=some y->y∈o.op.operands.toList):
  (∀v,q.map S.ev=some v-> ∃u,q.map a.eval=some u/\dD w I σ v u)/\(q.map S.ev=none->q.map a.eval=none):=by
 cases q with
 |none=>simp
 |some y=>
  refine⟨fun v hv=>⟨a.eval y,rfl,?_⟩,by simp⟩;simp at hv;subst hv;exact fj (S:=S) F (hx y (hq y rfl))
theorem KJ    (ho:o.op= .slice t x lo hi none) (R:Rel w I σ S.h) (F:jw w I σ S.f a) (hx:nP o)
  (hu:X.P.underlying t=some (.slice (X.ti t).elem)) (T:mh X.P (X.ti t).elem (X.ti (X.ti t).elem))    (he:S.ev x= .sl c es)
  (jV:es.all (fun e=>e.cells.length==(X.ti (X.ti t).elem).size)=true) (hb:bounds (lo.map S.ev) (hi.map S.ev) es.length=some (l,h)) (hs:S1=S.set o.dst (.sl false ((es.take h).drop l))):Out X o a w I σ S S1:=by
 have h1:dD w I σ (S.ev x) (a.eval x):=fj (S:=S) F (hx x (by simp[ho,Op.operands]));have Tk:=sv F hx lo (by intro y hy;subst hy;simp[ho,Op.operands]);have XW:=sv F hx hi (by intro y hy;subst hy;simp[ho,Op.operands]);rw[he]at h1;have El: ∃ad cap,a.eval x= .slice ad es.length cap/\es.length<=cap:=by
  simp only[dD]at h1;obtain⟨ad,cap,e1,e2,_⟩:=h1;exact⟨ad,cap,e1,e2⟩
 obtain⟨ad,cap,rK,hle⟩:=El;have Fq:=AE (isS:=true) (P:=X.P) hb hle w Tk.1 Tk.2 XW.1 XW.2;obtain⟨ad',arj,e1,e2,e3⟩:=YK h1 jV Fq.2.1 Fq.2.2 false (m:=cap) (by omega) (by simp);rw[rK]at e1;obtain⟨rfl,rfl⟩:=e1;refine Out.pure (u:=_) R ?_ (e3 (aaI _)) hs;simp[execOp,ho,rK,Instr.sliceAt,Instr.slice,run_underlying hu,Fq.1,run_sizeOf T]
theorem Im  {m:Operand}  (ho:o.op= .slice t x lo hi (some m)) (R:Rel w I σ S.h) (F:jw w I σ S.f a) (hx:nP o)
  (hu:X.P.underlying t=some (.slice (X.ti t).elem)) (T:mh X.P (X.ti t).elem (X.ti (X.ti t).elem))      (he:S.ev x= .sl c es)
  (jV:es.all (fun e=>e.cells.length==(X.ti (X.ti t).elem).size)=true) (hm:S.ev m= .int k1 q) (hh:hi.map S.ev=some (.int k2 q)) (hb:bounds (lo.map S.ev) (hi.map S.ev) es.length=some (l,h))
  (hs:S1=S.set o.dst (.sl true ((es.take h).drop l))):Out X o a w I σ S S1:=by
 have h1:dD w I σ (S.ev x) (a.eval x):=fj (S:=S) F (hx x (by simp[ho,Op.operands]));have h2:dD w I σ (S.ev m) (a.eval m):=fj (S:=S) F (hx m (by simp[ho,Op.operands]));have Tk:=sv F hx lo (by intro y hy;subst hy;simp[ho,Op.operands]);have XW:=sv F hx hi (by intro y hy;subst hy;simp[ho,Op.operands]);rw[he]at h1;rw[hm]at h2;have v8:=iG h2;obtain⟨uh,XX,XY⟩:=XW.1 _ hh;have YL:=iG XY;subst YL;have El: ∃ad cap,a.eval x= .slice ad es.length cap/\es.length<=cap:=by
  simp only[dD]at h1;obtain⟨ad,cap,e1,e2,_⟩:=h1;exact⟨ad,cap,e1,e2⟩
 obtain⟨ad,cap,rK,hle⟩:=El;have Fq:=Dy (isS:=true) (P:=X.P) (k1:=k1) (k2:=k2) (q:=q) hb hh hle w Tk.1 Tk.2;obtain⟨ad',arj,e1,e2,e3⟩:=YK h1 jV Fq.2.1 Fq.2.2 true (m:=h) (aaI _) (by simp);rw[rK]at e1;obtain⟨rfl,rfl⟩:=e1;refine Out.pure (u:=_) R ?_ (e3 (by omega)) hs;simp[execOp,ho,rK,Instr.sliceAt,Instr.slice,run_underlying hu,v8,XX,Fq.1,run_sizeOf T]
theorem Tl{h:bh}(R:Rel w I σ h)(h1:dD w I σ (.cx id s n) u)(gG:h id=some ob)(hk:ob.k=kk)(hlh:l<=hh)(hhn:hh<=n)(hm:hh<=m):
  ∃ad cap,u= .slice ad n cap/\n<=cap/\(m<=cap->dD w I σ (.cx id (s+l) (hh-l)) (.slice (if m=l then ad else ad.map (·.add (l*kk))) (hh-l) (m-l))):=by
 obtain⟨ad,cap,rK,hle,hmx,hr⟩:=h1;refine⟨ad,cap,rK,hle,fun XV=> ?_⟩;refine⟨_,_,rfl,by omega,by omega,?_⟩;by_cases he:m=l
 ·omega
 ·right;rcases hr with hr|⟨b,of,k,c,el,fz,mQ,rfl,hb,pS⟩
  ·omega
  ·have v7:k=ob.k:=by
    rcases R.obj id ob gG with⟨_,hn⟩|⟨b',o',c',PR,oG,_⟩
    ·grind
    ·grind
   refine⟨b,of,k,c,el,fz,mQ,?_,hb,?_⟩
   ·rw[if_neg he,<-hk,<-v7];simp[qu,acE,aaE]
   ·have:(s+l+(m-l))*k<=(s+cap)*k:=abQ _ (by omega);omega
theorem Io    (ho:o.op= .slice t x lo hi none) (R:Rel w I σ S.h) (F:jw w I σ S.f a) (hx:nP o)
  (hu:X.P.underlying t=some (.slice (X.ti t).elem)) (T:mh X.P (X.ti t).elem (X.ti (X.ti t).elem))   (he:S.ev x= .cx id s n) (gG:S.h id=some ob) (hk:ob.k=(X.ti (X.ti t).elem).size)
  (hb:bounds (lo.map S.ev) (hi.map S.ev) n=some (l,h)) (hs:S1=S.set o.dst (.cx id (s+l) (h-l))):Out X o a w I σ S S1:=by
 have h1:dD w I σ (S.ev x) (a.eval x):=fj (S:=S) F (hx x (by simp[ho,Op.operands]));have Tk:=sv F hx lo (by intro y hy;subst hy;simp[ho,Op.operands]);have XW:=sv F hx hi (by intro y hy;subst hy;simp[ho,Op.operands]);rw[he]at h1;have El: ∃ad cap,a.eval x= .slice ad n cap/\n<=cap:=by
  simp only[dD]at h1;obtain⟨ad,cap,e1,e2,_⟩:=h1;exact⟨ad,cap,e1,e2⟩
 obtain⟨ad,cap,rK,hle⟩:=El;have Fq:=AE (isS:=true) (P:=X.P) hb hle w Tk.1 Tk.2 XW.1 XW.2;obtain⟨ad',arj,e1,e2,e3⟩:=Tl R h1 gG hk Fq.2.1 Fq.2.2 (m:=cap) (by omega);rw[rK]at e1;obtain⟨rfl,rfl⟩:=e1;refine Out.pure (u:=_) R ?_ (e3 (aaI _)) hs;simp[execOp,ho,rK,Instr.sliceAt,Instr.slice,run_underlying hu,Fq.1,run_sizeOf T]
theorem Ft  {m:Operand}  (ho:o.op= .slice t x lo hi (some m)) (R:Rel w I σ S.h) (F:jw w I σ S.f a) (hx:nP o)
  (hu:X.P.underlying t=some (.slice (X.ti t).elem)) (T:mh X.P (X.ti t).elem (X.ti (X.ti t).elem))     (he:S.ev x= .cx id s n) (gG:S.h id=some ob) (hk:ob.k=(X.ti (X.ti t).elem).size)
  (hm:S.ev m= .int k1 q) (hh:hi.map S.ev=some (.int k2 q)) (hb:bounds (lo.map S.ev) (hi.map S.ev) n=some (l,h)) (hs:S1=S.set o.dst (.cx id (s+l) (h-l))):Out X o a w I σ S S1:=by
 have h1:dD w I σ (S.ev x) (a.eval x):=fj (S:=S) F (hx x (by simp[ho,Op.operands]));have h2:dD w I σ (S.ev m) (a.eval m):=fj (S:=S) F (hx m (by simp[ho,Op.operands]));have Tk:=sv F hx lo (by intro y hy;subst hy;simp[ho,Op.operands]);have XW:=sv F hx hi (by intro y hy;subst hy;simp[ho,Op.operands]);rw[he]at h1;rw[hm]at h2;have v8:=iG h2;obtain⟨uh,XX,XY⟩:=XW.1 _ hh;have YL:=iG XY;subst YL;have El: ∃ad cap,a.eval x= .slice ad n cap/\n<=cap:=by
  simp only[dD]at h1;obtain⟨ad,cap,e1,e2,_⟩:=h1;exact⟨ad,cap,e1,e2⟩
 obtain⟨ad,cap,rK,hle⟩:=El;have Fq:=Dy (isS:=true) (P:=X.P) (k1:=k1) (k2:=k2) (q:=q) hb hh hle w Tk.1 Tk.2;obtain⟨ad',arj,e1,e2,e3⟩:=Tl R h1 gG hk Fq.2.1 Fq.2.2 (m:=h) (aaI _);rw[rK]at e1;obtain⟨rfl,rfl⟩:=e1;refine Out.pure (u:=_) R ?_ (e3 (by omega)) hs;simp[execOp,ho,rK,Instr.sliceAt,Instr.slice,run_underlying hu,v8,XX,Fq.1,run_sizeOf T]
theorem Ip    (ho:o.op= .slice t x lo hi none) (R:Rel w I σ S.h) (F:jw w I σ S.f a) (hx:nP o)
  (hu:X.P.underlying t=some .string) {s:List UInt8}  (he:S.ev x= .str s) (hb:bounds (lo.map S.ev) (hi.map S.ev) s.length=some (l,h)) (hs:S1=S.set o.dst (.str ((s.take h).drop l))):Out X o a w I σ S S1:=by
 have h1:dD w I σ (S.ev x) (a.eval x):=fj (S:=S) F (hx x (by simp[ho,Op.operands]));have Tk:=sv F hx lo (by intro y hy;subst hy;simp[ho,Op.operands]);have XW:=sv F hx hi (by intro y hy;subst hy;simp[ho,Op.operands]);rw[he]at h1;obtain⟨bs,XZ,rfl⟩:=su h1;have hl:bs.data.toList.length=bs.size:=abZ;rw[hl]at hb;have Fq:=AE (isS:=false) (P:=X.P) hb (aaI _) w Tk.1 Tk.2 XW.1 XW.2;refine Out.pure (u:= .string (bs.extract l h)) R ?_ ?_ hs
 ·simp[execOp,ho,XZ,Instr.sliceAt,Instr.slice,run_underlying hu,Fq.1]
 ·exact⟨_,rfl,by simp[ByteArray.data_extract,List.extract_eq_take_drop,aeL]⟩
end
def flat(es:List V):List V:=es.flatMap V.cells
def rX(e:V)(es:List V):flat (e::es)=e.cells++flat es:=rfl
def sC(es xs:List V):flat (es++xs)=flat es++flat xs:=by simp[flat]
def oX{k:Nat}(h: ∀e∈es,e.cells.length=k):(flat es).length=es.length*k:=by
 induction es with
 |nil=>simp[flat]
 |cons e es ih=>
  rw[rX,aaY,ih (fun x hx=>h x (by grind)),h e (by simp),abP,acE];omega
section
variable {w w':World} {I I':Nat->Prop} {σ σ':ju}
theorem fR.append(h1:fR w I σ cs us)(h2:fR w I σ ds vs):fR w I σ (cs++ds) (us++vs):=by
 induction cs generalizing us with
 |nil=>subst h1;grind
 |cons c cs ih=>
  obtain⟨u,r,rfl,h3,h4,h5⟩:=h1;exact⟨u,r++vs,rfl,h3,h4,ih h5⟩
theorem fR.split(h:fR w I σ (cs++ds) us): ∃us1 us2,us=us1++us2/\fR w I σ cs us1/\fR w I σ ds us2:=by
 induction cs generalizing us with
 |nil=>exact⟨[],us,rfl,by simp[fR],by grind⟩
 |cons c cs ih=>
  obtain⟨u,r,rfl,h3,h4,h5⟩:=h;obtain⟨us1,us2,rfl,h6,h7⟩:=ih h5;exact⟨u::us1,us2,rfl,by exact⟨u,us1,rfl,h3,h4,h6⟩,h7⟩
theorem tV(E:Ext w I σ w' I' σ'){k b:Nat}: ∀{es:List V} {us:List Value} {o:Nat},(∀e∈es,e.cells.length=k)->fR w I σ (flat es) us->(∀j u,us[j]?=some u->w'.cell? ⟨b,o+j,none⟩=some u)->dN w' I' σ' es k b o
 | [],_,_,_,_,_=>by simp[dN]
 |e::es,us,o,hk,hr,hc=>by
  obtain⟨us1,us2,rfl,h1,h2⟩:=hr.split;have hl:us1.length=k:=by rw[<-((dO _ _).1 h1).1];exact hk e (by simp)
  rw[kP];refine⟨hk e (by simp),fun j c hj=> ?_,tV E (fun x hx=>hk x (by grind)) h2 (fun j u hu=> ?_)⟩
  ·obtain⟨u,hu,h3,h4⟩:=h1.get hj;have tI:j<us1.length:=(List.getElem?_eq_some_iff.1 hu).1;exact⟨u,hc j u (by grind),h3,h4.ext E⟩
  ·have:=hc (k+j) u (by grind)
   grind
theorem sD{k b:Nat}: ∀{es:List V} {o:Nat},dN w I σ es k b o-> ∃us:List Value,us.length=es.length*k/\(∀j u,us[j]?=some u->w.cell? ⟨b,o+j,none⟩=some u)/\fR w I σ (flat es) us
 | [],o,_=>⟨[],by simp,by simp,by simp[flat,fR]⟩
 |e::es,o,h=>by
  rw[kP]at h;obtain⟨h1,h2,h3⟩:=h;obtain⟨us1,hl1,XX,hr1⟩:=h2.ax8;obtain⟨us2,ya,XY,Pq⟩:=sD h3;refine⟨us1++us2,by grind,fun j u hu=> ?_,by exact hr1.append Pq⟩
  grind
theorem dN.lens{k b o:Nat}(h:dN w I σ es k b o): ∀e∈es,e.cells.length=k:=by
 intro e he;obtain⟨i,hi,rfl⟩:=List.mem_iff_getElem.1 he;exact(h.get (i:=i) (by simp)).1
theorem yk(n:Nat)(v:V):flat (List.replicate n v)=(List.replicate n v.cells).flatten:=by
 induction n with
 |zero=>rfl
 |succ n ih=>rw[aeI,rX,ih,aeI,List.flatten_cons]
theorem Ai(h:fR w I σ cs us)(n:Nat):fR w I σ (List.replicate n cs).flatten (List.replicate n us).flatten:=by
 induction n with
 |zero=>simp[fR]
 |succ n ih=>exact h.append ih
theorem ma{α:Type}(l:List α)(hp:0<l.length): ∀(n j:Nat),(List.replicate n l).flatten[j]?=if j<n*l.length then l[j % l.length]? else none
 |0,j=>by simp
 |n+1,j=>by
  rw[aeI,List.flatten_cons];by_cases hj:j<l.length
  ·rw[aaW hj,if_pos (by grind),adF hj]
  ·rw[aaO (by omega),ma l hp n (j-l.length)];by_cases h2:j-l.length<n*l.length
   ·rw[if_pos h2,if_pos (by grind),<-Nat.mod_eq_sub_mod (a:=j) (b:=l.length) (by omega)]
   grind
theorem Ji(z:Array Value)(k n:Nat)(hk:z.size=k)(hp:0<k):((Array.range (n*k)).map (z[· % z.size]!)).toList=(List.replicate n z.toList).flatten:=by
 subst hk;apply abF;intro j;rw[ma z.toList (by omega)];simp only[abZ,acM,aeM];by_cases hj:j<n*z.size
 ·have hm:j % z.size<z.size:=Nat.mod_lt _ hp
  grind
 grind
theorem Fu{vs xs:List V}(h1:fR w I σ xs us)(h2:fR w I σ vs ys)(hle:n+vs.length<=xs.length):
  fR w I σ (lC n vs xs) (us.take n++ys++us.drop (n+ys.length)):=by
 have l1:=((dO _ _).1 h1).1;have l2:=((dO _ _).1 h2).1;rw[dO];refine⟨by rw[sq];grind,fun j c u hc hu=> ?_⟩;rw[qv _ _ _ _ hle]at hc;split at hc
 ·rw[aaW (by grind),aaO (by grind)]at hu;simp only[abR]at hu;rw[show j-min n us.length=j-n by omega]at hu;exact((dO _ _).1 h2).2 _ c u hc hu
 ·by_cases KK:j<n
  ·rw[acC,aaW (by grind),adP,if_pos KK]at hu;exact((dO _ _).1 h1).2 _ c u hc hu
  ·rw[aaO (by grind),abX]at hu;simp only[aaY,abR]at hu;rw[show n+ys.length+(j-(min n us.length+ys.length))=j by omega]at hu;exact((dO _ _).1 h1).2 _ c u hc hu
theorem Fv: ∀(vs:List Value) (off j0:Nat) (cs:Array Value),off+j0+vs.length<=cs.size->
  ((vs.zipIdx j0).foldl (fun cs (p:Value×Nat)=>cs.setIfInBounds (off+p.2) p.1) cs).toList=cs.toList.take (off+j0)++vs++cs.toList.drop (off+j0+vs.length)
 | [],off,j0,cs,h=>by simp
 |v::vs,off,j0,cs,h=>by
  simp only[List.zipIdx_cons,aeF];rw[Fv vs off (j0+1) (cs.setIfInBounds (off+j0) v) (by grind)];have e:=list_seg_step cs.toList (off+j0) v vs (by omega);simpa[Array.toList_setIfInBounds,aaE] using e
theorem Dz(u:Value)(off:Nat)(cs:Array Value)(h:off+u.cells.size<=cs.size):
  u.cells.zipIdx.foldl (fun cs (p:Value×Nat)=>cs.setIfInBounds (off+p.2) p.1) cs=rW cs off u.cells.toList:=by
 apply Array.ext';rw[<-Array.foldl_toList];have:u.cells.zipIdx.toList=u.cells.toList.zipIdx:=by simp
 have:=Fv u.cells.toList off 0 cs (by omega);simpa[rW] using this
theorem Cw{PJ:List (Nat×Nat)}{place:Nat->Option (Nat×Nat)}(hp: ∀(i:Nat) x,PJ[i]?=some x->place i=some x)(Mu: ∀x∈PJ,0<x.2):
  ∀{ps:List (Nat×V)} {cs rS:List V} {us:Array Value} {Em:List (Nat×Value)},fR w I σ cs us.toList->iO w I σ (ps.map (·.2)) (Em.map (·.2))->ps.map (·.1)=Em.map (·.1)->xH PJ cs ps=some rS->
   ∃Co:Array Value,Instr.fill place us Em=some Co/\fR w I σ rS Co.toList
 | [],cs,rS,us,Em,hc,hr,hi,hf=>by
  simp only[xH,aA]at hf;subst hf;cases Em with
  |nil=>exact⟨us,rfl,hc⟩
  |cons _ _=>grind
 |(i,v)::ps,cs,rS,us,Em,hc,hr,hi,hf=>by
  cases Em with
  |nil=>grind
  |cons p Em=>
   obtain⟨i',u⟩:=p;simp only[aaV,acA]at hi;obtain⟨rfl,hi⟩:=hi;simp only[aaV,iO]at hr;obtain⟨u0,r,he,hv,hr⟩:=hr;obtain⟨rfl,rfl⟩:=he;simp only[xH]at hf;cases ho:PJ[i]? with
   |none=>grind
   |some x=>
    obtain⟨o,k⟩:=x;simp only[ho]at hf;split at hf
    ·rename_i nc;simp only[aaF,decide_eq_true_eq]at nc;have pS:=hv.cells nc.1;have hlen:=((dO _ _).1 hc).1;have Th:=((dO _ _).1 pS.2).1;have a7y:u.cells.size=k:=by rw[pS.1]at Th;simpa using Th.symm
     have s7:us.size=cs.length:=by simpa using hlen.symm
     have Fi:=Fu (n:=o) hc pS.2 (by omega);obtain⟨Co,h1,h2⟩:=Cw hp Mu Fi hr hi hf;refine⟨Co,?_,h2⟩;simp only[Instr.fill,hp i _ ho];rw[if_neg]
     ·rw[Dz u o us (by omega)];exact h1
     grind
    grind
end
section
variable {X:Env} {o:Oper} {a:Act} {w:World} {I:Nat->Prop} {σ:ju} {S S1:St}
theorem Cx{S:St}{a:Act}{o:Oper}(F:jw w I σ S.f a)(hx:nP o)(ps:List (Nat×Operand))(hq: ∀y∈ps,y.2∈o.op.operands.toList):
  iO w I σ ((ps.map fun p=>(p.1,S.ev p.2)).map (·.2)) ((ps.map fun p=>(p.1,a.eval p.2)).map (·.2))/\(ps.map fun p=>(p.1,S.ev p.2)).map (·.1)=(ps.map fun p=>(p.1,a.eval p.2)).map (·.1):=by
 refine⟨?_,by simp⟩;induction ps with
 |nil=>simp[iO]
 |cons p ps ih=>
  exact⟨_,_,rfl,fj (S:=S) F (hx p.2 (hq p (by simp))),ih (fun y hy=>hq y (by grind))⟩
theorem zero_cells{x:TI}(T:mh P t x)(hz:Ja x.zero z=true):fR w I σ x.zero.cells z.cells.toList:=((Mr T hz).cells T.aq9).2
theorem Mz(h:0<P.cellsOf t)(w:World):(sizeOf t).run P w= .ok (P.cellsOf t) w:=by
 unfold Program.cellsOf at h⊢;cases hi:P.info? t with
 |none=>grind
 |some i=>simp[sizeOf,typeInfo,hi]
theorem DA{P:Program}(w:World): ∀(fs:List Field),(∀f∈fs,0<P.cellsOf f.type)->
  (fs.mapM fun f=>Functor.map (Prod.mk f.offset) (sizeOf f.type)).run P w= .ok (fs.map fun f=>(f.offset,P.cellsOf f.type)) w
 | [],_=>by simp
 |f::fs,h=>by
  simp[afw,Mz (h f (by simp)),DA w fs (fun x hx=>h x (by grind))]
theorem Jj    (ho:o.op= .build t ps) (T:mh X.P t (X.ti t)) (hTe:(X.ti t).arr=none\/mh X.P (X.ti t).elem (X.ti (X.ti t).elem)) (R:Rel w I σ S.h) (F:jw w I σ S.f a) (hx:nP o)
  (hf:((X.ti t).arr=none/\xH (X.ti t).wQ (X.ti t).zero.cells (ps.toList.map fun p=>(p.1,S.ev p.2))=some cs/\(X.ti t).wQ≠ [])\/
   ∃m,(X.ti t).arr=some m/\xH ((List.range m).map fun i=>(i*(X.ti (X.ti t).elem).size,(X.ti (X.ti t).elem).size)) (X.ti t).zero.cells (ps.toList.map fun p=>(p.1,S.ev p.2))=some cs)
  (hs:S1=S.set o.dst (.agg cs)):Out X o a w I σ S S1:=by
 obtain⟨z,hz,hb⟩:=Fk T w;have UZ:=zero_cells (w:=w) (I:=I) (σ:=σ) T hb;have Bx:=Cx F hx ps.toList (by intro y hy;simp only[ho,Op.operands];grind);obtain⟨d,hd,hdb⟩:=T.und;rcases hf with⟨hn,hf,kz⟩|⟨m,hm,hf⟩
 ·cases d with
  |struct fs=>
   simp only[Af,aaF,beq_iff_eq]at hdb;obtain⟨⟨⟨⟨_,wW⟩,_⟩,_⟩,Mu⟩:=hdb;have Pr: ∀(i:Nat) x,(X.ti t).wQ[i]?=some x->((fs.map fun f=>(f.offset,X.P.cellsOf f.type))[·]?) i=some x:=by
    intro i x hi;rw[wW]at hi;simpa using hi
   obtain⟨Co,h1,h2⟩:=Cw Pr (fun x Ig=>by grind) UZ Bx.1 Bx.2 hf;refine Out.pure (u:= .agg Co) R ?_ (by exact⟨Co,rfl,h2⟩) hs;have hpm:=DA (P:=X.P) w fs.toList (fun f hf=>of_decide_eq_true (List.all_eq_true.1 Mu f hf));simp only[aeM]at h1;simp[execOp,ho,Instr.build,hz,run_underlying hd,adH,hpm,h1]
  |_=>
   exfalso;simp[Af]at hdb
   grind
 ·have hu:=Fp T hm;have Te:=hTe.resolve_left (by grind);obtain⟨Co,h1,h2⟩:=Cw (place:=fun i=>some (i*(X.ti (X.ti t).elem).size,(X.ti (X.ti t).elem).size)) (fun i x hi=>by grind) (fun x Ig=>by
   obtain⟨i,_,rfl⟩:=List.mem_map.1 Ig;exact Te.pos) UZ Bx.1 Bx.2 hf
  refine Out.pure (u:= .agg Co) R ?_ (by exact⟨Co,rfl,h2⟩) hs;simp[execOp,ho,Instr.build,hz,run_underlying hu,run_sizeOf Te,h1]
end
section
variable {X:Env} {o:Oper} {a:Act} {w:World} {I:Nat->Prop} {σ:ju} {S S1:St}
theorem yl {h:bh} (R:Rel w I σ h) {k:Nat}     (c:Array Value) (hn:h n=none) (hs:σ n=none)
  (hk: ∀e∈es,e.cells.length=k) (hr:fR w I (mu eU σ) (flat es) us) (hc: ∀(j:Nat) u,us[j]?=some u->c[j]?=some u):
  Step w I σ h n (w.alloc (.cells c el)) I (aR σ n (some (w.heap.size,0,k))) (aR h n (some ⟨k,es,eU⟩)) (n+1):=by
 have hlen:us.length=es.length*k:=by rw[<-((dO _ _).1 hr).1,oX hk]
 refine KC R c hn hs ?_ ?_
 ·by_cases h0:us.length=0
  ·omega
  ·have ayd:us[us.length-1]?=some (us[us.length-1]'(by omega)):=by simp
   grind
 ·have E:Ext w I σ (w.alloc (.cells c el)) I (aR σ n (some (w.heap.size,0,k))):=(Ext.alloc R.eu _).trans (Ext.UL hs);refine tV (E.qX eU) hk hr (fun j u hu=> ?_)
  simp_all
theorem By(w:World)(I:Nat->Prop)(σ:ju){k:Nat}{c:Array Value}(UX:l<=cap)(hm:cap<=maxLen)(s7:cap*k<=c.size):
  dD (w.alloc (.cells c el)) I (aR σ n (some (w.heap.size,0,k))) (.cx n 0 l) (.slice (some ⟨w.heap.size,0,none⟩) l cap):=by
 exact⟨_,cap,rfl,UX,hm,.inr ⟨w.heap.size,0,k,c,el,(0,0),by simp[aR],by simp,arc w _,by grind⟩⟩
theorem Iq  {l c:Operand}  {n m:Int} (ho:o.op= .makeSlice t l c) (hu:X.P.underlying t=some (.slice (X.ti t).elem)) (T:mh X.P (X.ti t).elem (X.ti (X.ti t).elem)) (R:Rel w I σ S.h) (F:jw w I σ S.f a) (hx:nP o)
  (hn:S.h S.n=none) (vk:σ S.n=none) (hl:S.ev l= .int k1 n) (hc:S.ev c= .int k2 m) (hb:0<=n/\n<=m/\m*(X.ti (X.ti t).elem).bytes<=2^47/\m<=2^62)
   (hs:S1=(S.new ⟨(X.ti (X.ti t).elem).size,List.replicate n.toNat (X.ti (X.ti t).elem).zero,kp⟩).set o.dst (.cx S.n 0 n.toNat)):Out X o a w I σ S S1:=by
 subst hs;have h1:dD w I σ (S.ev l) (a.eval l):=fj (S:=S) F (hx l (by simp[ho,Op.operands]));have h2:dD w I σ (S.ev c) (a.eval c):=fj (S:=S) F (hx c (by simp[ho,Op.operands]));rw[hl]at h1;rw[hc]at h2;have ya:=iG h1;have En:=iG h2;obtain⟨i,z,hi,U0,X0,hz,hzb⟩:=T.info;have UZ:=zero_cells (w:=w) (I:=I) (σ:=mu kp σ) T hzb;have MA:z.cells.size=(X.ti (X.ti t).elem).size:=by
  have:=((dO _ _).1 UZ).1;rw[T.YD]at this;simpa using this.symm
 have ark:(i.bytes:Int)*m<=281474976710656:=by
  rw[X0,Int.mul_comm];omega
 have kr:=run_make (P:=X.P) w t (X.ti t).elem i z hu hi hz k1 k2 n m hb.1 hb.2.1 ark (by omega);rw[U0]at kr;have aye:(madeCells z.cells (m.toNat*(X.ti (X.ti t).elem).size)).toList=(List.replicate m.toNat z.cells.toList).flatten:=by
  unfold madeCells;rw[<-MA];exact Ji z.cells _ _ rfl (by rw[MA];exact T.pos)
 have jV: ∀e∈List.replicate n.toNat (X.ti (X.ti t).elem).zero,e.cells.length=(X.ti (X.ti t).elem).size:=by
  intro e he;rw[adJ he];exact T.YD
 have mK:fR w I (mu kp σ) (flat (List.replicate n.toNat (X.ti (X.ti t).elem).zero)) (List.replicate n.toNat z.cells.toList).flatten:=by
  rw[yk];exact Ai UZ n.toNat
 refine⟨_,_,I,_,.slice (some ⟨w.heap.size,0,none⟩) n.toNat m.toNat,.cx S.n 0 n.toNat,?_,.inl rfl,?_,rN _ _ _ _ rfl,By w I σ (k:=(X.ti (X.ti t).elem).size) (c:=madeCells z.cells (m.toNat*(X.ti (X.ti t).elem).size)) (el:=(X.ti t).elem) (by omega) (by simp only[maxLen];omega) (by rw[size_madeCells];omega)⟩
 ·simp[execOp,ho,ya,En,kr]
 ·rw[fm,hX];refine yl R _ hn vk jV mK (fun j u hu'=> ?_);have hlz:0<z.cells.toList.length:=by simp[MA];exact T.pos
  rw[ma _ hlz]at hu';rw[<-Array.getElem?_toList,aye,ma _ hlz];split at hu'
  ·rename_i hj;rw[if_pos (abY hj (abQ _ (by omega)))];omega
  grind
theorem Tm      (mx:Bool) (ho:o.op= .call ⟨.builtin (if mx then .max else .min),args,mH⟩) (ha:args.toList=[x,y]) (R:Rel w I σ S.h) (F:jw w I σ S.f a) (hx:nP o)
  (h1:S.ev x= .int k p) (h2:S.ev y= .int k q) (hs:S1=S.set o.dst (.int k (if mx then(if q>p then q else p) else(if q<p then q else p)))):Out X o a w I σ S S1:=by
 have AD:args= #[x,y]:=by rw[<-ha]
 have r1:dD w I σ (S.ev x) (a.eval x):=fj (S:=S) F (hx x (by simp[ho,Op.operands,Call.operands,AD]));have r2:dD w I σ (S.ev y) (a.eval y):=fj (S:=S) F (hx y (by simp[ho,Op.operands,Call.operands,AD]));rw[h1]at r1;rw[h2]at r2;refine Out.pure (u:= .int k (if mx then(if q>p then q else p) else(if q<p then q else p))) R ?_ (by simp only[dD]) hs;cases mx
 ·simp[execOp,ho,AD,resolve,invoke,builtin,iG r1,iG r2,Builtin.min_,Builtin.min2]
 ·simp[execOp,ho,AD,resolve,invoke,builtin,iG r1,iG r2,Builtin.max_,Builtin.max2]
end
def MB{k:Nat}: ∀{es:List V} (i:Nat) (v:V),(∀e∈es,e.cells.length=k)->v.cells.length=k->i<es.length->flat (es.set i v)=lC (i*k) v.cells (flat es)
 | [],i,v,_,_,hi=>by grind
 |e::es,0,v,hk,hv,_=>by
  rw[adO,rX,rX,aeK];have he:=hk e (by simp);apply abF;intro j;rw[qv _ _ _ _ (by grind)]
  grind
 |e::es,i+1,v,hk,hv,hi=>by
  rw[List.set_cons_succ,rX,rX,MB i v (fun x hx=>hk x (by grind)) hv (by grind)];have he:=hk e (by simp);have wW:=oX (fun x hx=>hk x (by grind): ∀x∈es,x.cells.length=k);have Jc:(i+1)*k<=es.length*k:=abQ _ (by grind);rw[acE]at Jc;apply abF;intro j;rw[qv _ _ _ _ (by grind)];by_cases hj:j<k
  ·grind
  ·rw[aaO (by omega),qv _ _ _ _ (by omega),aaO (by omega),he]
   grind
section
variable {w:World} {I:Nat->Prop} {σ:ju}
theorem Jk{k:Nat}(hp:0<k): ∀{ps:List (Nat×V)} {es Aj:List V} {us:Array Value} {Em:List (Nat×Value)},(∀e∈es,e.cells.length=k)->fR w I σ (flat es) us.toList->
  iO w I σ (ps.map (·.2)) (Em.map (·.2))->ps.map (·.1)=Em.map (·.1)->qD k es ps=some Aj->
   ∃Co:Array Value,Instr.fill (fun i=>some (i*k,k)) us Em=some Co/\fR w I σ (flat Aj) Co.toList/\(∀e∈Aj,e.cells.length=k)/\Aj.length=es.length
 | [],es,Aj,us,Em,hk,hc,hr,hi,hf=>by
  simp only[qD,aA]at hf;subst hf;cases Em with
  |nil=>exact⟨us,rfl,hc,hk,rfl⟩
  |cons _ _=>grind
 |(i,v)::ps,es,Aj,us,Em,hk,hc,hr,hi,hf=>by
  cases Em with
  |nil=>grind
  |cons p Em=>
   obtain⟨i',u⟩:=p;simp only[aaV,acA]at hi;obtain⟨rfl,hi⟩:=hi;simp only[aaV,iO]at hr;obtain⟨u0,r,he,hv,hr⟩:=hr;obtain⟨rfl,rfl⟩:=he;simp only[qD]at hf;split at hf
   ·rename_i nc;simp only[aaF,decide_eq_true_eq]at nc;have pS:=hv.cells nc.1;have hlen:=((dO _ _).1 hc).1;rw[oX hk]at hlen;have Th:=((dO _ _).1 pS.2).1;have a7y:u.cells.size=k:=by rw[pS.1]at Th;simpa using Th.symm
    have s7:us.size=es.length*k:=by simpa using hlen.symm
    have Jc:(i+1)*k<=es.length*k:=abQ _ nc.2;rw[acE]at Jc;have Fi:=Fu (n:=i*k) hc pS.2 (by rw[oX hk,pS.1];omega);rw[<-MB i v hk pS.1 nc.2]at Fi;have qT: ∀e∈es.set i v,e.cells.length=k:=by
     intro e he;rcases aaX he with h|h
     ·grind
     ·grind
    obtain⟨Co,h1,h2,h3,h4⟩:=Jk hp qT Fi hr hi hf;refine⟨Co,?_,h2,h3,by grind⟩;simp only[Instr.fill];rw[if_neg]
    ·rw[Dz u (i*k) us (by omega)];exact h1
    grind
   grind
theorem KL{h:bh}(R:Rel w I σ h)(c:Array Value)(el:TypeId)(n:Nat):Step w I σ h n (w.alloc (.cells c el)) (fun b=>I b\/b=w.heap.size) σ h n:=by
 have E:Ext w I σ (w.alloc (.cells c el)) (fun b=>I b\/b=w.heap.size) σ:=
  (Ext.alloc R.eu _).trans ⟨fun _ _=>rfl,fun _ c _ fz hh=>⟨c,fz,hh,rfl⟩,fun b hb=> .inl hb,fun _ _ hh=>hh⟩
 have hOw: ∀b,jk σ h b->b<w.heap.size:=fun b hb=>by
  obtain⟨_,c,el,hh⟩:=R.owned hb;exact hh.lt
 refine⟨E,R.eU E (fun b hb=> ?_) (fun b hb=>⟨PT w _ b (hOw b hb),?_⟩) (fun _ _=>rfl),rfl,rfl,rfl,by simp_all,fun b hb _=>PT w _ b hb,fun b hb=> .inr hb,fun b hb=> ?_,aaI _,fun _ _=>rfl,fun _ _ hn=>hn⟩
 ·rw[Fh];rcases hb with hb|rfl
  ·have:=R.eu b hb;omega
  omega
 ·rintro(hi|rfl)
  ·exact(R.owned hb).1 hi
  grind
 grind
end
section
variable {X:Env} {o:Oper} {a:Act} {w:World} {I:Nat->Prop} {σ:ju} {S S1:St}
theorem tW   (hu:X.P.underlying t=some (.slice (X.ti t).elem)) (T:mh X.P (X.ti t).elem (X.ti (X.ti t).elem)) (El:n*(X.ti (X.ti t).elem).size<=2^24)
  {ps:List (Nat×V)}  {Em:Array (Nat×Value)} {w:World} {J:Nat->Prop} {τ:ju} (hr:iO w J τ (ps.map (·.2)) (Em.toList.map (·.2))) (hi:ps.map (·.1)=Em.toList.map (·.1))
  (hf:qD (X.ti (X.ti t).elem).size (List.replicate n (X.ti (X.ti t).elem).zero) ps=some es):
  ∃us:Array Value,(Instr.buildSlice t n Em).run X.P w= .ok (.slice (some ⟨w.heap.size,0,none⟩) n n) (w.alloc (.cells us (X.ti t).elem))/\fR w J τ (flat es) us.toList/\(∀e∈es,e.cells.length=(X.ti (X.ti t).elem).size)/\es.length=n:=by
 obtain⟨z,hz,hzb⟩:=Fk T w;have UZ:=zero_cells (w:=w) (I:=J) (σ:=τ) T hzb;have MA:z.cells.size=(X.ti (X.ti t).elem).size:=by
  have:=((dO _ _).1 UZ).1;rw[T.YD]at this;simpa using this.symm
 have jV: ∀e∈List.replicate n (X.ti (X.ti t).elem).zero,e.cells.length=(X.ti (X.ti t).elem).size:=by
  intro e he;rw[adJ he];exact T.YD
 have mK:fR w J τ (flat (List.replicate n (X.ti (X.ti t).elem).zero)) ((Array.range (n*(X.ti (X.ti t).elem).size)).map (z.cells[· % z.cells.size]!)).toList:=by
  rw[yk,<-MA,Ji z.cells _ _ rfl (by rw[MA];exact T.pos)];exact Ai UZ n
 obtain⟨us,h1,h2,h3,h4⟩:=Jk T.pos jV mK hr hi hf;refine⟨us,?_,h2,h3,by grind⟩;have En: ¬(2^24<n*(X.ti (X.ti t).elem).size):=by omega
 have hp:=T.pos;by_cases h0:n=0
 ·subst h0;have uF:Instr.fill (fun i=>some (i*(X.ti (X.ti t).elem).size,(X.ti (X.ti t).elem).size)) #[] Em.toList=some us:=by
   simpa[Array.range_zero'] using h1
  simp[Instr.buildSlice,run_underlying hu,run_sizeOf T,newRow,uF,Array.range_zero']
 ·have kz:n*(X.ti (X.ti t).elem).size≠0:=by
   have:=Nat.mul_pos (Nat.pos_of_ne_zero h0) hp;omega
  simp[Instr.buildSlice,run_underlying hu,run_sizeOf T,newRow,En,hz,h1];omega
theorem zZ     (ho:o.op= .buildSlice t n ps) (hu:X.P.underlying t=some (.slice (X.ti t).elem)) (T:mh X.P (X.ti t).elem (X.ti (X.ti t).elem)) (El:n*(X.ti (X.ti t).elem).size<=2^24)
  (R:Rel w I σ S.h) (F:jw w I σ S.f a) (hx:nP o) (hn:S.h S.n=none) (vk:σ S.n=none)
  (hf:qD (X.ti (X.ti t).elem).size (List.replicate n (X.ti (X.ti t).elem).zero) (ps.toList.map fun p=>(p.1,S.ev p.2))=some es)
  (hs:S1=(S.new ⟨(X.ti (X.ti t).elem).size,es,true⟩).set o.dst (.cx S.n 0 n)):Out X o a w I σ S S1:=by
 subst hs;have Bx:=Cx F hx ps.toList (by intro y hy;simp only[ho,Op.operands];grind);obtain⟨us,kr,mK,hk,hlen⟩:=tW (Em:=ps.map fun p=>(p.1,a.eval p.2)) hu T El (by simpa using Bx.1) (by simp) hf;have s7:us.size=n*(X.ti (X.ti t).elem).size:=by
  have:=((dO _ _).1 mK).1;rw[oX hk,hlen]at this;simpa using this.symm
 have hnm:n<=maxLen:=by
  have h1:n*1<=n*(X.ti (X.ti t).elem).size:=Nat.mul_le_mul_left _ T.pos;simp only[maxLen];omega
 refine⟨_,_,I,_,.slice (some ⟨w.heap.size,0,none⟩) n n,.cx S.n 0 n,?_,.inl rfl,?_,rN _ _ _ _ rfl,By w I σ (k:=(X.ti (X.ti t).elem).size) (c:=us) (el:=(X.ti t).elem) (aaI _) hnm (by omega)⟩
 ·simp[execOp,ho,kr]
 ·rw[fm,hX];exact yl R us hn vk hk (us:=us.toList) (by simpa[mu] using mK) (fun j u hu'=>by grind)
theorem Fw{h:bh}(hg:oV (fun _=>none) v=some (v',h')):oV h v=some (v',h):=by
 cases v<;>simp_all [oV]
theorem Fx{h:bh}: ∀{cs rS:List V} {h':bh},gd (fun _=>none) cs=some (rS,h')->gd h cs=some (rS,h)
 | [],_,_,hg=>by simp only[gd,aA,bM]at hg⊢;grind
 |c::cs,_,_,hg=>by
  have key: ∀{c':V} {h1:bh},oV (fun _=>none) c=some (c',h1)->h1=fun _=>none:=by
   intro c' h1 h2;cases c<;>simp_all [oV]
  simp only[gd]at hg⊢;split at hg
  case h_2=>grind
  rename_i c' h1 hc;have:=key hc;subst this;split at hg
  case h_2=>grind
  rename_i rS h2 AF;obtain⟨rfl,_⟩:=hg;simp only[Fw (h:=h) hc,Fx (h:=h) AF]
theorem U1{h:bh}(hg:qs (fun _=>none) v=some (v',h')):qs h v=some (v',h):=by
 cases v with
 |agg cs=>
  simp only[qs]at hg⊢;split at hg
  case h_2=>grind
  rename_i rS h1 hc;obtain⟨rfl,_⟩:=hg;simp only[Fx (h:=h) hc]
 |_=>exact Fw (by simpa[qs] using hg)
theorem Fy: ∀{cs rS:List V} {h':bh},gd (fun _=>none) cs=some (rS,h')->h'=fun _=>none
 | [],_,_,hg=>by simp only[gd,aA,bM]at hg;grind
 |c::cs,_,_,hg=>by
  simp only[gd]at hg;split at hg
  case h_2=>grind
  rename_i c' h1 hc;have:h1=fun _=>none:=by cases c<;>simp_all [oV]
  subst this;split at hg
  case h_2=>grind
  rename_i rS h2 AF;obtain⟨_,rfl⟩:=hg;exact Fy AF
theorem U2(hg:qs (fun _=>none) v=some (v',h')):h'=fun _=>none:=by
 cases v with
 |agg cs=>
  simp only[qs]at hg;split at hg
  case h_2=>grind
  rename_i rS h1 hc;obtain⟨_,rfl⟩:=hg;exact Fy hc
 |_=>simp_all [qs,oV]
theorem Fz{h:bh}: ∀{ps x9:List (Nat×V)} {h':bh},mG (fun _=>none) ps=some (x9,h')->mG h ps=some (x9,h)
 | [],_,_,hg=>by simp only[mG,aA,bM]at hg⊢;grind
 |(i,v)::ps,_,_,hg=>by
  simp only[mG]at hg⊢;split at hg
  case h_2=>grind
  rename_i c' h1 hc;have:=U2 hc;subst this;split at hg
  case h_2=>grind
  rename_i rS h2 AF;obtain⟨rfl,_⟩:=hg;simp only[U1 (h:=h) hc,Fz (h:=h) AF]
theorem tX     {l:List (Nat×V)} {h:bh}  (ho:o.op= .buildSlice t n ps) (hu:X.P.underlying t=some (.slice (X.ti t).elem)) (T:mh X.P (X.ti t).elem (X.ti (X.ti t).elem)) (El:n*(X.ti (X.ti t).elem).size<=2^24)
  (R:Rel w I σ S.h) (F:jw w I σ S.f a) (hx:nP o) (hn:S.h S.n=none) (vk:σ S.n=none)
  (hg:mG S.h (ps.toList.map fun p=>(p.1,S.ev p.2))=some (l,h))
  (hf:qD (X.ti (X.ti t).elem).size (List.replicate n (X.ti (X.ti t).elem).zero) l=some es)
  (hs:S1=if th then(({S with h:=h}:St).new ⟨(X.ti (X.ti t).elem).size,es,false⟩).set o.dst (.cx S.n 0 n) else({S with h:=h}:St).set o.dst (.sl true es)):Out X o a w I σ S S1:=by
 subst hs;have Bx:=Cx F hx ps.toList (by intro y hy;simp only[ho,Op.operands];grind);obtain⟨I1,s1,r1,hi1,AB⟩:=Jh R Bx.1 hg S.n;obtain⟨us,kr,mK,hk,hlen⟩:=tW (Em:=ps.map fun p=>(p.1,a.eval p.2)) hu T El (by simpa using r1) (by simp_all) hf;have s7:us.size=n*(X.ti (X.ti t).elem).size:=by
  have:=((dO _ _).1 mK).1;rw[oX hk,hlen]at this;simpa using this.symm
 have hnm:n<=maxLen:=by
  have h1:n*1<=n*(X.ti (X.ti t).elem).size:=Nat.mul_le_mul_left _ T.pos;simp only[maxLen];omega
 have hnh:h S.n=none:=by
  cases hc:h S.n with
  |none=>rfl
  |some ob=>grind
 cases th with
 |true=>
  refine⟨_,_,I1,_,.slice (some ⟨w.heap.size,0,none⟩) n n,.cx S.n 0 n,?_,.inl rfl,?_,?_,By w I1 σ (k:=(X.ti (X.ti t).elem).size) (c:=us) (el:=(X.ti t).elem) (aaI _) hnm (by omega)⟩
  ·simp[execOp,ho,kr]
  ·simp only[if_true];rw[fm,hX];exact s1.trans (yl s1.rel us hnh vk hk (us:=us.toList) (by simpa[mu] using mK) (fun j u hu'=>by grind))
  ·exact rN _ _ _ _ rfl
 |false=>
  refine⟨_,w.alloc (.cells us (X.ti t).elem),(fun b=>I1 b\/b=w.heap.size),σ,.slice (some ⟨w.heap.size,0,none⟩) n n,.sl true es,?_,.inl rfl,?_,?_,?_⟩
  ·simp[execOp,ho,kr]
  ·simp only[aaM,if_false];rw[fm,hX];exact s1.trans (KL s1.rel us (X.ti t).elem S.n)
  ·exact rN _ _ _ _ rfl
  ·refine⟨_,n,by grind,by omega,hnm,fun _=>hlen.symm,.inr ⟨w.heap.size,0,(X.ti (X.ti t).elem).size,rfl,.inr rfl,?_⟩⟩;refine tV (KL s1.rel us (X.ti t).elem S.n).ext.Kz hk (us:=us.toList) mK (fun j u hu'=> ?_)
   simp_all
end
end Go.Abs
