/- Part of a proof: engine A11. -/
import Derived.Test.YtdngefmliibcgaaGreatM03
import Derived.Deep.AppendSrc
set_option linter.all false
set_option maxRecDepth 20000
set_option maxHeartbeats 20000000
namespace Go.Abs
open Go
variable  {P:Program}{t el:TypeId}{x ix y:Operand}{c isS eU kp th:Bool}{es cs ds:List V}{k k1 k2:IntKind}{n id s l m j f cap h kk hh:Nat}{e v v':V}{ob:Ob}{us vs ys:List Value}{args:Array Operand}{mM:Array TypeId}{q p:Int}{lo hi:Option Operand}{ulo uhi:Option Value}{u z:Value}{ps:Array (Nat×Operand)}{h':bh}
def lE{x:TI}(h:sliceB P t x=true):P.underlying t=some (.slice x.elem):=by
 unfold sliceB at h
 grind
section
variable {X:Env} {o:Oper} {a:Act} {w:World} {I:Nat->Prop} {σ:jt} {S S1:St}
theorem Kn   (ho:o.op= .indexAddr t x ix) (hu:X.P.underlying t=some (.slice (X.ti t).elem)) (T:mo X.P (X.ti t).elem (X.ti (X.ti t).elem)) (R:Rel w I σ S.h) (F:jv w I σ S.f a) (hx:oq o)
     {n:Int}  (he:S.ev x= .sl c es) (hi:S.ev ix= .int k n) (h0:0<=n/\n<es.length) (hg:es[n.toNat]?=some e) (hk:e.cells.length=(X.ti (X.ti t).elem).size)
  (hs:S1=S.set o.dst (.ref e.cells)):Out X o a w I σ S S1:=by
 have h1:dB w I σ (S.ev x) (a.eval x):=fj (S:=S) F (hx x (by simp[ho,Op.operands]));have h2:dB w I σ (S.ev ix) (a.eval ix):=fj (S:=S) F (hx ix (by simp[ho,Op.operands]));rw[he]at h1;rw[hi]at h2;have En:=iF h2;obtain⟨ad,cap,rK,_,_,_,hr⟩:=h1;rcases hr with hr|⟨b,of,kk,rfl,hI,fV⟩
 ·grind
 ·have hgk:=fV.get hg;have xz:kk=(X.ti (X.ti t).elem).size:=by rw[<-hk];exact hgk.1.symm
  refine Out.pure (u:= .pointer (some ⟨b,of+n.toNat*(X.ti (X.ti t).elem).size,none⟩)) R ?_ ?_ hs
  ·simp[execOp,ho,rK,En,Instr.indexAt,run_underlying hu,asIntOf,h0,run_sizeOf T,qv]
  ·exact⟨b,_,rfl,hI,by rw[tG,<-xz];grind⟩
theorem HF   (ho:o.op= .indexAddr t x ix) (hu:X.P.underlying t=some (.slice (X.ti t).elem)) (T:mo X.P (X.ti t).elem (X.ti (X.ti t).elem)) (R:Rel w I σ S.h) (F:jv w I σ S.f a) (hx:oq o)
    {n:Int}  (he:S.ev x= .cu id s l) (hi:S.ev ix= .int k n) (h0:0<=n/\n<l) (hg:S.h id=some ob) (hk:ob.k=(X.ti (X.ti t).elem).size)
  (hs:S1=S.set o.dst (.ptr id (s+n.toNat) 0)):Out X o a w I σ S S1:=by
 have h1:dB w I σ (S.ev x) (a.eval x):=fj (S:=S) F (hx x (by simp[ho,Op.operands]));have h2:dB w I σ (S.ev ix) (a.eval ix):=fj (S:=S) F (hx ix (by simp[ho,Op.operands]));rw[he]at h1;rw[hi]at h2;have En:=iF h2;obtain⟨ad,cap,rK,Uw,_,hr⟩:=h1;rcases hr with hr|⟨b,of,kk,c,el,fz,mX,rfl,hb,_⟩
 ·omega
 ·have xz:kk=ob.k:=by
   rcases R.obj id ob hg with⟨_,hn⟩|⟨b',o',c',Pm,oM,_⟩
   ·grind
   ·grind
  refine Out.pure (u:= .pointer (some ⟨b,of+s*kk+n.toNat*kk,none⟩)) R ?_ ?_ hs
  ·simp[execOp,ho,rK,En,Instr.indexAt,run_underlying hu,asIntOf,h0,run_sizeOf T,qv,xz,hk]
  ·exact⟨b,of,kk,mX,by grind⟩
theorem E6{x:TI}(T:mo P t x)(h:x.arr=some m):P.underlying t=some (.array m x.elem):=by
 obtain⟨d,hd,hb⟩:=T.und;cases d<;>simp_all [Aa]
theorem HK   (ho:o.op= .indexAddr t x ix) (T0:mo X.P t (X.ti t)) (T:mo X.P (X.ti t).elem (X.ti (X.ti t).elem)) (R:Rel w I σ S.h) (F:jv w I σ S.f a) (hx:oq o)
    {n:Int} (he:S.ev x= .ptr id j f) (hi:S.ev ix= .int k n) (hm:(X.ti t).arr=some m) (h0:0<=n/\n<m)
  (hs:S1=S.set o.dst (.ptr id j (f+n.toNat*(X.ti (X.ti t).elem).size))):Out X o a w I σ S S1:=by
 have h1:dB w I σ (S.ev x) (a.eval x):=fj (S:=S) F (hx x (by simp[ho,Op.operands]));have h2:dB w I σ (S.ev ix) (a.eval ix):=fj (S:=S) F (hx ix (by simp[ho,Op.operands]));rw[he]at h1;rw[hi]at h2;have En:=iF h2;obtain⟨b,of,kk,mX,hp⟩:=h1;have hu:=E6 T0 hm;refine Out.pure (u:= .pointer (some ⟨b,of+j*kk+f+n.toNat*(X.ti (X.ti t).elem).size,none⟩)) R ?_ ?_ hs
 ·simp[execOp,ho,hp,En,Instr.indexAt,run_underlying hu,asIntOf,h0,run_sizeOf T,qv,Instr.sureAddr]
 ·exact⟨b,of,kk,mX,by grind⟩
theorem L6{x:TI}(T:mo P t x){us:Array Value}(hc:fP w I σ cs us.toList)(hv:part x cs f=some v):
  ∃u,(Go.part t us f).run P w= .ok u w/\dB w I σ v u:=by
 have hl:=((dL _ _).1 hc).1;unfold part at hv;by_cases ha:x.agg=true
 ·rw[if_pos ha]at hv;split at hv
  ·simp only[aA]at hv;subst hv;refine⟨.agg (us.extract f (f+x.size)),by simp[Go.part,zq T,ha,run_sizeOf T],?_⟩;refine⟨_,rfl,?_⟩;rw[dL];refine⟨by grind,fun j c u xQ huj=> ?_⟩;rw[adI]at xQ;split at xQ
   ·rw[abT]at xQ;have a58:us.toList[f+j]?=some u:=by
     simp only[Array.toList_extract,List.extract_eq_take_drop,adI,abT]at huj;split at huj
     ·omega
     ·omega
    exact((dL _ _).1 hc).2 (f+j) c u xQ a58
   grind
  grind
 ·rw[if_neg ha]at hv;have Xi:x.agg=false:=by simpa using ha
  obtain⟨u,h1,_,h3⟩:=hc.get hv;exact⟨u,by
   have uE:us[f]?=some u:=by simpa using h1
   simp[Go.part,zq T,Xi,uE],h3⟩
theorem HL   (ho:o.op= .index t x ix) (T0:mo X.P t (X.ti t)) (T:mo X.P (X.ti t).elem (X.ti (X.ti t).elem)) (R:Rel w I σ S.h) (F:jv w I σ S.f a) (hx:oq o)
     {n:Int}  (he:S.ev x= .agg cs) (hi:S.ev ix= .int k n) (hm:(X.ti t).arr=some m) (h0:0<=n/\n<m)
  (hv:part (X.ti (X.ti t).elem) cs (n.toNat*(X.ti (X.ti t).elem).size)=some v) (hs:S1=S.set o.dst v):Out X o a w I σ S S1:=by
 have h1:dB w I σ (S.ev x) (a.eval x):=fj (S:=S) F (hx x (by simp[ho,Op.operands]));have h2:dB w I σ (S.ev ix) (a.eval ix):=fj (S:=S) F (hx ix (by simp[ho,Op.operands]));rw[he]at h1;rw[hi]at h2;have En:=iF h2;obtain⟨us,hp,hc⟩:=h1;have hu:=E6 T0 hm;obtain⟨u,kn,hr⟩:=L6 T hc hv;refine Out.pure (u:=u) R ?_ hr hs;simp[execOp,ho,hp,En,Instr.index,run_underlying hu,asIntOf,h0,run_sizeOf T,kn]
theorem Ux    {fs:Array Field} {fd:Field} (ho:o.op= .field t x f) (hu:X.P.underlying t=some (.struct fs)) (hf:fs[f]?=some fd) (T:mo X.P fd.type (X.ti fd.type)) (R:Rel w I σ S.h) (F:jv w I σ S.f a) (hx:oq o)
    (he:S.ev x= .agg cs) (hv:part (X.ti fd.type) cs fd.offset=some v) (hs:S1=S.set o.dst v):Out X o a w I σ S S1:=by
 have h1:dB w I σ (S.ev x) (a.eval x):=fj (S:=S) F (hx x (by simp[ho,Op.operands]));rw[he]at h1;obtain⟨us,hp,hc⟩:=h1;obtain⟨u,kn,hr⟩:=L6 T hc hv;refine Out.pure (u:=u) R ?_ hr hs;simp[execOp,ho,hp,Instr.field,asAgg,run_underlying hu,hf,kn]
theorem HN   (ho:o.op= .index t x ix) (hu:X.P.underlying t=some .string) (R:Rel w I σ S.h) (F:jv w I σ S.f a) (hx:oq o)
  {s:List UInt8}  {n:Int} {b:UInt8} (he:S.ev x= .str s) (hi:S.ev ix= .int k n) (h0:0<=n) (hg:s[n.toNat]?=some b) (hs:S1=S.set o.dst (.int .u8 b.toNat)):Out X o a w I σ S S1:=by
 have h1:dB w I σ (S.ev x) (a.eval x):=fj (S:=S) F (hx x (by simp[ho,Op.operands]));have h2:dB w I σ (S.ev ix) (a.eval ix):=fj (S:=S) F (hx ix (by simp[ho,Op.operands]));rw[he]at h1;rw[hi]at h2;have En:=iF h2;obtain⟨bs,hb,rfl⟩:=sq h1;have hg':bs[n.toNat]?=some b:=by
  have hl:n.toNat<bs.data.toList.length:=(List.getElem?_eq_some_iff.1 hg).1;have Ac:n.toNat<bs.size:=by simpa using hl
  rw[getElem?_pos bs n.toNat Ac];have:=(List.getElem?_eq_some_iff.1 hg).2;simp at this;rw[<-this];rfl
 refine Out.pure (u:= .int .u8 b.toNat) R ?_ (by simp[dB]) hs;simp[execOp,ho,hb,En,Instr.index,run_underlying hu,asIntOf,h0,hg']
theorem ahq     (ho:o.op= .call ⟨.builtin .len,args,mM⟩) (ha:args.toList=[x])  (ht:mM[0]?=some t)
  (hu:((∃e,X.P.underlying t=some (.slice e))/\(X.ti t).isStr=false)\/(X.P.underlying t=some .string/\(X.ti t).isStr=true)) (R:Rel w I σ S.h) (F:jv w I σ S.f a) (hx:oq o)
  (kD:(S.ev x).isStr=(X.ti t).isStr) (hl:EM (S.ev x)=some m) (hs:S1=S.set o.dst (.int .i64 m)):Out X o a w I σ S S1:=by
 have Ax:args= #[x]:=by rw[<-ha]
 have h1:dB w I σ (S.ev x) (a.eval x):=fj (S:=S) F (hx x (by simp[ho,Op.operands,Call.operands,Ax]));refine Out.pure (u:= .int .i64 m) R ?_ (by simp[dB]) hs;have kn:(Builtin.len_ mM o.type #[a.eval x]).run X.P w= .ok (.int .i64 m) w:=by
  rcases hu with⟨⟨e,hu⟩,hn⟩|⟨hu,hn⟩
  ·unfold EM at hl;split at hl
   ·rename_i c es he;rw[he]at h1;obtain⟨ad,cap,hv,_⟩:=h1;simp only[aA]at hl;subst hl;simp[Builtin.len_,ht,hv,run_underlying hu,goInt]
   ·rename_i id s l he;rw[he]at h1;obtain⟨ad,cap,hv,_⟩:=h1;simp only[aA]at hl;subst hl;simp[Builtin.len_,ht,hv,run_underlying hu,goInt]
   ·rename_i s he;rw[he,hn]at kD;cases kD
   grind
  ·cases he:S.ev x with
   |str s=>
    rw[he]at h1 hl;obtain⟨bs,hb,rfl⟩:=sq h1;simp only[EM,aA]at hl;subst hl;have:bs.data.toList.length=bs.size:=abU;simp[Builtin.len_,ht,hb,run_underlying hu,goInt]
   |_=>rw[he,hn]at kD;cases kD
 simp[execOp,ho,Ax,resolve,invoke,builtin,kn]
theorem yb{d q:Nat}{v:Option V}(h:X0 d v m=some q):(v=none/\q=d)\/ ∃k n,v=some (.int k n)/\0<=n/\n<=m/\q=n.toNat:=by
 unfold X0 at h
 grind
theorem Ay   {lo hi:Option V}   (hb:bounds lo hi n=some (l,h)) (hn:n<=cap) (w:World)
  (hlo: ∀v,lo=some v-> ∃u,ulo=some u/\dB w I σ v u) (ahr:lo=none->ulo=none) (hhi: ∀v,hi=some v-> ∃u,uhi=some u/\dB w I σ v u) (a6a:hi=none->uhi=none):
  (Instr.sliceBounds isS n cap ulo uhi none).run P w= .ok (l,h,cap) w/\l<=h/\h<=n:=by
 unfold bounds at hb;cases h1:X0 n hi n with
 |none=>grind
 |some q=>
  simp only[h1]at hb;cases h2:X0 0 lo q with
  |none=>grind
  |some p=>
   simp only[h2,aA,bM]at hb;obtain⟨rfl,rfl⟩:=hb;rcases yb h1 with⟨rfl,rfl⟩|⟨k,m,rfl,ha,wL,rfl⟩
   ·rw[a6a rfl];rcases yb h2 with⟨rfl,rfl⟩|⟨k,m,rfl,ha,wL,rfl⟩
    ·rw[ahr rfl];exact⟨by simp[Instr.sliceBounds],by omega,by omega⟩
    ·obtain⟨u,rfl,hr⟩:=hlo _ rfl;rw[iF hr];exact⟨by simp[Instr.sliceBounds,Instr.sliceBound,asIntOf,ha,wL],by omega,by omega⟩
   ·obtain⟨u,rfl,hr⟩:=hhi _ rfl;rw[iF hr];have hc:m<=(cap:Int):=by omega
    rcases yb h2 with⟨rfl,rfl⟩|⟨k',m',rfl,Xi,D4,rfl⟩
    ·rw[ahr rfl];exact⟨by simp[Instr.sliceBounds,Instr.sliceBound,asIntOf,ha,hc],by omega,by omega⟩
    ·obtain⟨u,rfl,hr⟩:=hlo _ rfl;rw[iF hr];have hb3:m'<=max m 0:=by omega
     exact⟨by simp[Instr.sliceBounds,Instr.sliceBound,asIntOf,ha,hc,Xi,hb3],by omega,by omega⟩
theorem Dh   {lo hi:Option V}     (hb:bounds lo hi n=some (l,h)) (hh:hi=some (.int k2 q)) (hn:n<=cap) (w:World)
  (hlo: ∀v,lo=some v-> ∃u,ulo=some u/\dB w I σ v u) (ahr:lo=none->ulo=none):
  (Instr.sliceBounds isS n cap ulo (some (.int k2 q)) (some (.int k1 q))).run P w= .ok (l,h,h) w/\l<=h/\h<=n:=by
 unfold bounds at hb;cases h1:X0 n hi n with
 |none=>grind
 |some z=>
  simp only[h1]at hb;cases h2:X0 0 lo z with
  |none=>grind
  |some p=>
   simp only[h2,aA,bM]at hb;obtain⟨rfl,rfl⟩:=hb;rcases yb h1 with⟨h0,_⟩|⟨k,m,h0,ha,wL,rfl⟩
   ·grind
   ·rw[hh]at h0;obtain⟨rfl,rfl⟩:=h0;have hc:q<=(cap:Int):=by omega
    have hq:q<=max q 0:=by omega
    rcases yb h2 with⟨rfl,rfl⟩|⟨k',m',rfl,Xi,D4,rfl⟩
    ·rw[ahr rfl];exact⟨by simp[Instr.sliceBounds,Instr.sliceBound,asIntOf,ha,hc,hq],by omega,by omega⟩
    ·obtain⟨u,rfl,hr⟩:=hlo _ rfl;rw[iF hr];have hb3:m'<=max q 0:=by omega
     exact⟨by simp[Instr.sliceBounds,Instr.sliceBound,asIntOf,ha,hc,hq,Xi,hb3],by omega,by omega⟩
theorem Yc(h1:dB w I σ (.sl c es) u)(m8:es.all (fun e=>e.cells.length==kk)=true)(hlh:l<=h)(hhn:h<=es.length)(c':Bool)(hm:h<=m)(Bq:c'=true->m=h):
  ∃ad cap,u= .slice ad es.length cap/\es.length<=cap/\(m<=cap->dB w I σ (.sl c' ((es.take h).drop l)) (.slice (if m=l then ad else ad.map (·.add (l*kk))) (h-l) (m-l))):=by
 obtain⟨ad,cap,rK,hle,hmx,_,hr⟩:=h1;refine⟨ad,cap,rK,hle,fun Xj=> ?_⟩;have hlen:((es.take h).drop l).length=h-l:=by simp;omega
 refine⟨_,_,by rw[hlen],by omega,by omega,fun hc=>by grind,?_⟩;by_cases he:h=l
 ·grind
 ·right;have kC:es≠ []:=by intro h0;subst h0;simp at hhn;omega
  rcases hr with hr|⟨b,of,k,rfl,hI,fV⟩
  ·grind
  ·have hk:k=kk:=by
    cases es with
    |nil=>grind
    |cons e es=>
     have:=(fV.get (i:=0) (e:=e) (by simp)).1
     grind
   subst hk;have ya:=fV.SF l (h-l);refine⟨b,of+l*k,k,?_,hI,by rw[aeG];omega⟩;rw[if_neg (by omega)];simp[qv]
theorem su{S:St}{a:Act}{o:Oper}(F:jv w I σ S.f a)(hx:oq o)(q:Option Operand)(hq: ∀y,q=some y->y∈o.op.operands.toList):
  (∀v,q.map S.ev=some v-> ∃u,q.map a.eval=some u/\dB w I σ v u)/\(q.map S.ev=none->q.map a.eval=none):=by
 cases q with
 |none=>simp
 |some y=>
  refine⟨fun v hv=>⟨a.eval y,rfl,?_⟩,by simp⟩;simp at hv;subst hv;exact fj (S:=S) F (hx y (hq y rfl))
theorem Ko    (ho:o.op= .slice t x lo hi none) (R:Rel w I σ S.h) (F:jv w I σ S.f a) (hx:oq o)
  (hu:X.P.underlying t=some (.slice (X.ti t).elem)) (T:mo X.P (X.ti t).elem (X.ti (X.ti t).elem))    (he:S.ev x= .sl c es)
  (m8:es.all (fun e=>e.cells.length==(X.ti (X.ti t).elem).size)=true) (hb:bounds (lo.map S.ev) (hi.map S.ev) es.length=some (l,h)) (hs:S1=S.set o.dst (.sl false ((es.take h).drop l))):Out X o a w I σ S S1:=by
 have h1:dB w I σ (S.ev x) (a.eval x):=fj (S:=S) F (hx x (by simp[ho,Op.operands]));have SK:=su F hx lo (by intro y hy;subst hy;simp[ho,Op.operands]);have Xo:=su F hx hi (by intro y hy;subst hy;simp[ho,Op.operands]);rw[he]at h1;have D5: ∃ad cap,a.eval x= .slice ad es.length cap/\es.length<=cap:=by
  simp only[dB]at h1;obtain⟨ad,cap,e1,e2,_⟩:=h1;exact⟨ad,cap,e1,e2⟩
 obtain⟨ad,cap,rK,hle⟩:=D5;have E7:=Ay (isS:=true) (P:=X.P) hb hle w SK.1 SK.2 Xo.1 Xo.2;obtain⟨ad',aqh,e1,e2,e3⟩:=Yc h1 m8 E7.2.1 E7.2.2 false (m:=cap) (by omega) (by simp);rw[rK]at e1;obtain⟨rfl,rfl⟩:=e1;refine Out.pure (u:=_) R ?_ (e3 (aaI _)) hs;simp[execOp,ho,rK,Instr.sliceAt,Instr.slice,run_underlying hu,E7.1,run_sizeOf T]
theorem HQ  {m:Operand}  (ho:o.op= .slice t x lo hi (some m)) (R:Rel w I σ S.h) (F:jv w I σ S.f a) (hx:oq o)
  (hu:X.P.underlying t=some (.slice (X.ti t).elem)) (T:mo X.P (X.ti t).elem (X.ti (X.ti t).elem))      (he:S.ev x= .sl c es)
  (m8:es.all (fun e=>e.cells.length==(X.ti (X.ti t).elem).size)=true) (hm:S.ev m= .int k1 q) (hh:hi.map S.ev=some (.int k2 q)) (hb:bounds (lo.map S.ev) (hi.map S.ev) es.length=some (l,h))
  (hs:S1=S.set o.dst (.sl true ((es.take h).drop l))):Out X o a w I σ S S1:=by
 have h1:dB w I σ (S.ev x) (a.eval x):=fj (S:=S) F (hx x (by simp[ho,Op.operands]));have h2:dB w I σ (S.ev m) (a.eval m):=fj (S:=S) F (hx m (by simp[ho,Op.operands]));have SK:=su F hx lo (by intro y hy;subst hy;simp[ho,Op.operands]);have Xo:=su F hx hi (by intro y hy;subst hy;simp[ho,Op.operands]);rw[he]at h1;rw[hm]at h2;have vW:=iF h2;obtain⟨uh,Xp,Xq⟩:=Xo.1 _ hh;have Yd:=iF Xq;subst Yd;have D5: ∃ad cap,a.eval x= .slice ad es.length cap/\es.length<=cap:=by
  simp only[dB]at h1;obtain⟨ad,cap,e1,e2,_⟩:=h1;exact⟨ad,cap,e1,e2⟩
 obtain⟨ad,cap,rK,hle⟩:=D5;have E7:=Dh (isS:=true) (P:=X.P) (k1:=k1) (k2:=k2) (q:=q) hb hh hle w SK.1 SK.2;obtain⟨ad',aqh,e1,e2,e3⟩:=Yc h1 m8 E7.2.1 E7.2.2 true (m:=h) (aaI _) (by simp);rw[rK]at e1;obtain⟨rfl,rfl⟩:=e1;refine Out.pure (u:=_) R ?_ (e3 (by omega)) hs;simp[execOp,ho,rK,Instr.sliceAt,Instr.slice,run_underlying hu,vW,Xp,E7.1,run_sizeOf T]
theorem SL{h:bh}(R:Rel w I σ h)(h1:dB w I σ (.cu id s n) u)(gG:h id=some ob)(hk:ob.k=kk)(hlh:l<=hh)(hhn:hh<=n)(hm:hh<=m):
  ∃ad cap,u= .slice ad n cap/\n<=cap/\(m<=cap->dB w I σ (.cu id (s+l) (hh-l)) (.slice (if m=l then ad else ad.map (·.add (l*kk))) (hh-l) (m-l))):=by
 obtain⟨ad,cap,rK,hle,hmx,hr⟩:=h1;refine⟨ad,cap,rK,hle,fun Xj=> ?_⟩;refine⟨_,_,rfl,by omega,by omega,?_⟩;by_cases he:m=l
 ·omega
 ·right;rcases hr with hr|⟨b,of,k,c,el,fz,mX,rfl,hb,pW⟩
  ·omega
  ·have xz:k=ob.k:=by
    rcases R.obj id ob gG with⟨_,hn⟩|⟨b',o',c',Pm,oM,_⟩
    ·grind
    ·grind
   refine⟨b,of,k,c,el,fz,mX,?_,hb,?_⟩
   ·rw[if_neg he,<-hk,<-xz];simp[qv,acA,aaE]
   ·have:(s+l+(m-l))*k<=(s+cap)*k:=abM _ (by omega);omega
theorem HU    (ho:o.op= .slice t x lo hi none) (R:Rel w I σ S.h) (F:jv w I σ S.f a) (hx:oq o)
  (hu:X.P.underlying t=some (.slice (X.ti t).elem)) (T:mo X.P (X.ti t).elem (X.ti (X.ti t).elem))   (he:S.ev x= .cu id s n) (gG:S.h id=some ob) (hk:ob.k=(X.ti (X.ti t).elem).size)
  (hb:bounds (lo.map S.ev) (hi.map S.ev) n=some (l,h)) (hs:S1=S.set o.dst (.cu id (s+l) (h-l))):Out X o a w I σ S S1:=by
 have h1:dB w I σ (S.ev x) (a.eval x):=fj (S:=S) F (hx x (by simp[ho,Op.operands]));have SK:=su F hx lo (by intro y hy;subst hy;simp[ho,Op.operands]);have Xo:=su F hx hi (by intro y hy;subst hy;simp[ho,Op.operands]);rw[he]at h1;have D5: ∃ad cap,a.eval x= .slice ad n cap/\n<=cap:=by
  simp only[dB]at h1;obtain⟨ad,cap,e1,e2,_⟩:=h1;exact⟨ad,cap,e1,e2⟩
 obtain⟨ad,cap,rK,hle⟩:=D5;have E7:=Ay (isS:=true) (P:=X.P) hb hle w SK.1 SK.2 Xo.1 Xo.2;obtain⟨ad',aqh,e1,e2,e3⟩:=SL R h1 gG hk E7.2.1 E7.2.2 (m:=cap) (by omega);rw[rK]at e1;obtain⟨rfl,rfl⟩:=e1;refine Out.pure (u:=_) R ?_ (e3 (aaI _)) hs;simp[execOp,ho,rK,Instr.sliceAt,Instr.slice,run_underlying hu,E7.1,run_sizeOf T]
theorem E8  {m:Operand}  (ho:o.op= .slice t x lo hi (some m)) (R:Rel w I σ S.h) (F:jv w I σ S.f a) (hx:oq o)
  (hu:X.P.underlying t=some (.slice (X.ti t).elem)) (T:mo X.P (X.ti t).elem (X.ti (X.ti t).elem))     (he:S.ev x= .cu id s n) (gG:S.h id=some ob) (hk:ob.k=(X.ti (X.ti t).elem).size)
  (hm:S.ev m= .int k1 q) (hh:hi.map S.ev=some (.int k2 q)) (hb:bounds (lo.map S.ev) (hi.map S.ev) n=some (l,h)) (hs:S1=S.set o.dst (.cu id (s+l) (h-l))):Out X o a w I σ S S1:=by
 have h1:dB w I σ (S.ev x) (a.eval x):=fj (S:=S) F (hx x (by simp[ho,Op.operands]));have h2:dB w I σ (S.ev m) (a.eval m):=fj (S:=S) F (hx m (by simp[ho,Op.operands]));have SK:=su F hx lo (by intro y hy;subst hy;simp[ho,Op.operands]);have Xo:=su F hx hi (by intro y hy;subst hy;simp[ho,Op.operands]);rw[he]at h1;rw[hm]at h2;have vW:=iF h2;obtain⟨uh,Xp,Xq⟩:=Xo.1 _ hh;have Yd:=iF Xq;subst Yd;have D5: ∃ad cap,a.eval x= .slice ad n cap/\n<=cap:=by
  simp only[dB]at h1;obtain⟨ad,cap,e1,e2,_⟩:=h1;exact⟨ad,cap,e1,e2⟩
 obtain⟨ad,cap,rK,hle⟩:=D5;have E7:=Dh (isS:=true) (P:=X.P) (k1:=k1) (k2:=k2) (q:=q) hb hh hle w SK.1 SK.2;obtain⟨ad',aqh,e1,e2,e3⟩:=SL R h1 gG hk E7.2.1 E7.2.2 (m:=h) (aaI _);rw[rK]at e1;obtain⟨rfl,rfl⟩:=e1;refine Out.pure (u:=_) R ?_ (e3 (by omega)) hs;simp[execOp,ho,rK,Instr.sliceAt,Instr.slice,run_underlying hu,vW,Xp,E7.1,run_sizeOf T]
theorem HW    (ho:o.op= .slice t x lo hi none) (R:Rel w I σ S.h) (F:jv w I σ S.f a) (hx:oq o)
  (hu:X.P.underlying t=some .string) {s:List UInt8}  (he:S.ev x= .str s) (hb:bounds (lo.map S.ev) (hi.map S.ev) s.length=some (l,h)) (hs:S1=S.set o.dst (.str ((s.take h).drop l))):Out X o a w I σ S S1:=by
 have h1:dB w I σ (S.ev x) (a.eval x):=fj (S:=S) F (hx x (by simp[ho,Op.operands]));have SK:=su F hx lo (by intro y hy;subst hy;simp[ho,Op.operands]);have Xo:=su F hx hi (by intro y hy;subst hy;simp[ho,Op.operands]);rw[he]at h1;obtain⟨bs,Xr,rfl⟩:=sq h1;have hl:bs.data.toList.length=bs.size:=abU;rw[hl]at hb;have E7:=Ay (isS:=false) (P:=X.P) hb (aaI _) w SK.1 SK.2 Xo.1 Xo.2;refine Out.pure (u:= .string (bs.extract l h)) R ?_ ?_ hs
 ·simp[execOp,ho,Xr,Instr.sliceAt,Instr.slice,run_underlying hu,E7.1]
 ·exact⟨_,rfl,by simp[ByteArray.data_extract,List.extract_eq_take_drop,aeG]⟩
end
def flat(es:List V):List V:=es.flatMap V.cells
def rX(e:V)(es:List V):flat (e::es)=e.cells++flat es:=rfl
def sC(es xs:List V):flat (es++xs)=flat es++flat xs:=by simp[flat]
def o5{k:Nat}(h: ∀e∈es,e.cells.length=k):(flat es).length=es.length*k:=by
 induction es with
 |nil=>simp[flat]
 |cons e es ih=>
  rw[rX,aaY,ih (fun x hx=>h x (by grind)),h e (by simp),abJ,acA];omega
section
variable {w w':World} {I I':Nat->Prop} {σ σ':jt}
theorem fP.append(h1:fP w I σ cs us)(h2:fP w I σ ds vs):fP w I σ (cs++ds) (us++vs):=by
 induction cs generalizing us with
 |nil=>subst h1;grind
 |cons c cs ih=>
  obtain⟨u,r,rfl,h3,h4,h5⟩:=h1;exact⟨u,r++vs,rfl,h3,h4,ih h5⟩
theorem fP.split(h:fP w I σ (cs++ds) us): ∃us1 us2,us=us1++us2/\fP w I σ cs us1/\fP w I σ ds us2:=by
 induction cs generalizing us with
 |nil=>exact⟨[],us,rfl,by simp[fP],by grind⟩
 |cons c cs ih=>
  obtain⟨u,r,rfl,h3,h4,h5⟩:=h;obtain⟨us1,us2,rfl,h6,h7⟩:=ih h5;exact⟨u::us1,us2,rfl,by exact⟨u,us1,rfl,h3,h4,h6⟩,h7⟩
theorem tV(E:Ext w I σ w' I' σ'){k b:Nat}: ∀{es:List V} {us:List Value} {o:Nat},(∀e∈es,e.cells.length=k)->fP w I σ (flat es) us->(∀j u,us[j]?=some u->w'.cell? ⟨b,o+j,none⟩=some u)->dK w' I' σ' es k b o
 | [],_,_,_,_,_=>by simp[dK]
 |e::es,us,o,hk,hr,hc=>by
  obtain⟨us1,us2,rfl,h1,h2⟩:=hr.split;have hl:us1.length=k:=by rw[<-((dL _ _).1 h1).1];exact hk e (by simp)
  rw[kM];refine⟨hk e (by simp),fun j c hj=> ?_,tV E (fun x hx=>hk x (by grind)) h2 (fun j u hu=> ?_)⟩
  ·obtain⟨u,hu,h3,h4⟩:=h1.get hj;have tH:j<us1.length:=(List.getElem?_eq_some_iff.1 hu).1;exact⟨u,hc j u (by grind),h3,h4.ext E⟩
  ·have:=hc (k+j) u (by grind)
   grind
theorem sD{k b:Nat}: ∀{es:List V} {o:Nat},dK w I σ es k b o-> ∃us:List Value,us.length=es.length*k/\(∀j u,us[j]?=some u->w.cell? ⟨b,o+j,none⟩=some u)/\fP w I σ (flat es) us
 | [],o,_=>⟨[],by simp,by simp,by simp[flat,fP]⟩
 |e::es,o,h=>by
  rw[kM]at h;obtain⟨h1,h2,h3⟩:=h;obtain⟨us1,hl1,Xp,hr1⟩:=h2.aws;obtain⟨us2,zR,Xq,OU⟩:=sD h3;refine⟨us1++us2,by grind,fun j u hu=> ?_,by exact hr1.append OU⟩
  grind
theorem dK.lens{k b o:Nat}(h:dK w I σ es k b o): ∀e∈es,e.cells.length=k:=by
 intro e he;obtain⟨i,hi,rfl⟩:=List.mem_iff_getElem.1 he;exact(h.get (i:=i) (by simp)).1
theorem yc(n:Nat)(v:V):flat (List.replicate n v)=(List.replicate n v.cells).flatten:=by
 induction n with
 |zero=>rfl
 |succ n ih=>rw[aeB,rX,ih,aeB,List.flatten_cons]
theorem Ad(h:fP w I σ cs us)(n:Nat):fP w I σ (List.replicate n cs).flatten (List.replicate n us).flatten:=by
 induction n with
 |zero=>simp[fP]
 |succ n ih=>exact h.append ih
theorem me{α:Type}(l:List α)(hp:0<l.length): ∀(n j:Nat),(List.replicate n l).flatten[j]?=if j<n*l.length then l[j % l.length]? else none
 |0,j=>by simp
 |n+1,j=>by
  rw[aeB,List.flatten_cons];by_cases hj:j<l.length
  ·rw[aaV hj,if_pos (by grind),adp hj]
  ·rw[aaO (by omega),me l hp n (j-l.length)];by_cases h2:j-l.length<n*l.length
   ·rw[if_pos h2,if_pos (by grind),<-Nat.mod_eq_sub_mod (a:=j) (b:=l.length) (by omega)]
   grind
theorem IV(z:Array Value)(k n:Nat)(hk:z.size=k)(hp:0<k):((Array.range (n*k)).map (z[· % z.size]!)).toList=(List.replicate n z.toList).flatten:=by
 subst hk;apply abA;intro j;rw[me z.toList (by omega)];simp only[abU,acJ,aeH];by_cases hj:j<n*z.size
 ·have hm:j % z.size<z.size:=Nat.mod_lt _ hp
  grind
 grind
theorem E9{vs xs:List V}(h1:fP w I σ xs us)(h2:fP w I σ vs ys)(hle:n+vs.length<=xs.length):
  fP w I σ (lz n vs xs) (us.take n++ys++us.drop (n+ys.length)):=by
 have l1:=((dL _ _).1 h1).1;have l2:=((dL _ _).1 h2).1;rw[dL];refine⟨by rw[sm];grind,fun j c u hc hu=> ?_⟩;rw[qw _ _ _ _ hle]at hc;split at hc
 ·rw[aaV (by grind),aaO (by grind)]at hu;simp only[abN]at hu;rw[show j-min n us.length=j-n by omega]at hu;exact((dL _ _).1 h2).2 _ c u hc hu
 ·by_cases Kp:j<n
  ·rw[acr,aaV (by grind),adI,if_pos Kp]at hu;exact((dL _ _).1 h1).2 _ c u hc hu
  ·rw[aaO (by grind),abT]at hu;simp only[aaY,abN]at hu;rw[show n+ys.length+(j-(min n us.length+ys.length))=j by omega]at hu;exact((dL _ _).1 h1).2 _ c u hc hu
theorem Fa: ∀(vs:List Value) (off j0:Nat) (cs:Array Value),off+j0+vs.length<=cs.size->
  ((vs.zipIdx j0).foldl (fun cs (p:Value×Nat)=>cs.setIfInBounds (off+p.2) p.1) cs).toList=cs.toList.take (off+j0)++vs++cs.toList.drop (off+j0+vs.length)
 | [],off,j0,cs,h=>by simp
 |v::vs,off,j0,cs,h=>by
  simp only[List.zipIdx_cons,aeu];rw[Fa vs off (j0+1) (cs.setIfInBounds (off+j0) v) (by grind)];have e:=list_seg_step cs.toList (off+j0) v vs (by omega);simpa[Array.toList_setIfInBounds,aaE] using e
theorem Di(u:Value)(off:Nat)(cs:Array Value)(h:off+u.cells.size<=cs.size):
  u.cells.zipIdx.foldl (fun cs (p:Value×Nat)=>cs.setIfInBounds (off+p.2) p.1) cs=rW cs off u.cells.toList:=by
 apply Array.ext';rw[<-Array.foldl_toList];have:u.cells.zipIdx.toList=u.cells.toList.zipIdx:=by simp
 have:=Fa u.cells.toList off 0 cs (by omega);simpa[rW] using this
theorem Co{Pe:List (Nat×Nat)}{place:Nat->Option (Nat×Nat)}(hp: ∀(i:Nat) x,Pe[i]?=some x->place i=some x)(L2: ∀x∈Pe,0<x.2):
  ∀{ps:List (Nat×V)} {cs rS:List V} {us:Array Value} {D6:List (Nat×Value)},fP w I σ cs us.toList->iN w I σ (ps.map (·.2)) (D6.map (·.2))->ps.map (·.1)=D6.map (·.1)->xx Pe cs ps=some rS->
   ∃Ch:Array Value,Instr.fill place us D6=some Ch/\fP w I σ rS Ch.toList
 | [],cs,rS,us,D6,hc,hr,hi,hf=>by
  simp only[xx,aA]at hf;subst hf;cases D6 with
  |nil=>exact⟨us,rfl,hc⟩
  |cons _ _=>grind
 |(i,v)::ps,cs,rS,us,D6,hc,hr,hi,hf=>by
  cases D6 with
  |nil=>grind
  |cons p D6=>
   obtain⟨i',u⟩:=p;simp only[aaU,acg]at hi;obtain⟨rfl,hi⟩:=hi;simp only[aaU,iN]at hr;obtain⟨u0,r,he,hv,hr⟩:=hr;obtain⟨rfl,rfl⟩:=he;simp only[xx]at hf;cases ho:Pe[i]? with
   |none=>grind
   |some x=>
    obtain⟨o,k⟩:=x;simp only[ho]at hf;split at hf
    ·rename_i nn;simp only[aaF,decide_eq_true_eq]at nn;have pW:=hv.cells nn.1;have hlen:=((dL _ _).1 hc).1;have SH:=((dL _ _).1 pW.2).1;have a6c:u.cells.size=k:=by rw[pW.1]at SH;simpa using SH.symm
     have sY:us.size=cs.length:=by simpa using hlen.symm
     have EX:=E9 (n:=o) hc pW.2 (by omega);obtain⟨Ch,h1,h2⟩:=Co hp L2 EX hr hi hf;refine⟨Ch,?_,h2⟩;simp only[Instr.fill,hp i _ ho];rw[if_neg]
     ·rw[Di u o us (by omega)];exact h1
     grind
    grind
end
section
variable {X:Env} {o:Oper} {a:Act} {w:World} {I:Nat->Prop} {σ:jt} {S S1:St}
theorem Cp{S:St}{a:Act}{o:Oper}(F:jv w I σ S.f a)(hx:oq o)(ps:List (Nat×Operand))(hq: ∀y∈ps,y.2∈o.op.operands.toList):
  iN w I σ ((ps.map fun p=>(p.1,S.ev p.2)).map (·.2)) ((ps.map fun p=>(p.1,a.eval p.2)).map (·.2))/\(ps.map fun p=>(p.1,S.ev p.2)).map (·.1)=(ps.map fun p=>(p.1,a.eval p.2)).map (·.1):=by
 refine⟨?_,by simp⟩;induction ps with
 |nil=>simp[iN]
 |cons p ps ih=>
  exact⟨_,_,rfl,fj (S:=S) F (hx p.2 (hq p (by simp))),ih (fun y hy=>hq y (by grind))⟩
theorem zero_cells{x:TI}(T:mo P t x)(hz:IL x.zero z=true):fP w I σ x.zero.cells z.cells.toList:=((LY T hz).cells T.ap8).2
theorem L7(h:0<P.cellsOf t)(w:World):(sizeOf t).run P w= .ok (P.cellsOf t) w:=by
 unfold Program.cellsOf at h⊢;cases hi:P.info? t with
 |none=>grind
 |some i=>simp[sizeOf,typeInfo,hi]
theorem Dj{P:Program}(w:World): ∀(fs:List Field),(∀f∈fs,0<P.cellsOf f.type)->
  (fs.mapM fun f=>Functor.map (Prod.mk f.offset) (sizeOf f.type)).run P w= .ok (fs.map fun f=>(f.offset,P.cellsOf f.type)) w
 | [],_=>by simp
 |f::fs,h=>by
  simp[aeW,L7 (h f (by simp)),Dj w fs (fun x hx=>h x (by grind))]
theorem IW    (ho:o.op= .build t ps) (T:mo X.P t (X.ti t)) (hTe:(X.ti t).arr=none\/mo X.P (X.ti t).elem (X.ti (X.ti t).elem)) (R:Rel w I σ S.h) (F:jv w I σ S.f a) (hx:oq o)
  (hf:((X.ti t).arr=none/\xx (X.ti t).wI (X.ti t).zero.cells (ps.toList.map fun p=>(p.1,S.ev p.2))=some cs/\(X.ti t).wI≠ [])\/
   ∃m,(X.ti t).arr=some m/\xx ((List.range m).map fun i=>(i*(X.ti (X.ti t).elem).size,(X.ti (X.ti t).elem).size)) (X.ti t).zero.cells (ps.toList.map fun p=>(p.1,S.ev p.2))=some cs)
  (hs:S1=S.set o.dst (.agg cs)):Out X o a w I σ S S1:=by
 obtain⟨z,hz,hb⟩:=EZ T w;have Uy:=zero_cells (w:=w) (I:=I) (σ:=σ) T hb;have Br:=Cp F hx ps.toList (by intro y hy;simp only[ho,Op.operands];grind);obtain⟨d,hd,hdb⟩:=T.und;rcases hf with⟨hn,hf,kC⟩|⟨m,hm,hf⟩
 ·cases d with
  |struct fs=>
   simp only[Aa,aaF,beq_iff_eq]at hdb;obtain⟨⟨⟨⟨_,wO⟩,_⟩,_⟩,L2⟩:=hdb;have OV: ∀(i:Nat) x,(X.ti t).wI[i]?=some x->((fs.map fun f=>(f.offset,X.P.cellsOf f.type))[·]?) i=some x:=by
    intro i x hi;rw[wO]at hi;simpa using hi
   obtain⟨Ch,h1,h2⟩:=Co OV (fun x Hy=>by grind) Uy Br.1 Br.2 hf;refine Out.pure (u:= .agg Ch) R ?_ (by exact⟨Ch,rfl,h2⟩) hs;have hpm:=Dj (P:=X.P) w fs.toList (fun f hf=>of_decide_eq_true (List.all_eq_true.1 L2 f hf));simp only[aeH]at h1;simp[execOp,ho,Instr.build,hz,run_underlying hd,adD,hpm,h1]
  |_=>
   exfalso;simp[Aa]at hdb
   grind
 ·have hu:=E6 T hm;have Te:=hTe.resolve_left (by grind);obtain⟨Ch,h1,h2⟩:=Co (place:=fun i=>some (i*(X.ti (X.ti t).elem).size,(X.ti (X.ti t).elem).size)) (fun i x hi=>by grind) (fun x Hy=>by
   obtain⟨i,_,rfl⟩:=List.mem_map.1 Hy;exact Te.pos) Uy Br.1 Br.2 hf
  refine Out.pure (u:= .agg Ch) R ?_ (by exact⟨Ch,rfl,h2⟩) hs;simp[execOp,ho,Instr.build,hz,run_underlying hu,run_sizeOf Te,h1]
end
section
variable {X:Env} {o:Oper} {a:Act} {w:World} {I:Nat->Prop} {σ:jt} {S S1:St}
theorem yd {h:bh} (R:Rel w I σ h) {k:Nat}     (c:Array Value) (hn:h n=none) (hs:σ n=none)
  (hk: ∀e∈es,e.cells.length=k) (hr:fP w I (my eU σ) (flat es) us) (hc: ∀(j:Nat) u,us[j]?=some u->c[j]?=some u):
  Step w I σ h n (w.alloc (.cells c el)) I (aR σ n (some (w.heap.size,0,k))) (aR h n (some ⟨k,es,eU⟩)) (n+1):=by
 have hlen:us.length=es.length*k:=by rw[<-((dL _ _).1 hr).1,o5 hk]
 refine Kh R c hn hs ?_ ?_
 ·by_cases h0:us.length=0
  ·omega
  ·have awx:us[us.length-1]?=some (us[us.length-1]'(by omega)):=by simp
   grind
 ·have E:Ext w I σ (w.alloc (.cells c el)) I (aR σ n (some (w.heap.size,0,k))):=(Ext.alloc R.ed _).trans (Ext.Ul hs);refine tV (E.qX eU) hk hr (fun j u hu=> ?_)
  simp_all
theorem Bs(w:World)(I:Nat->Prop)(σ:jt){k:Nat}{c:Array Value}(Uw:l<=cap)(hm:cap<=maxLen)(sY:cap*k<=c.size):
  dB (w.alloc (.cells c el)) I (aR σ n (some (w.heap.size,0,k))) (.cu n 0 l) (.slice (some ⟨w.heap.size,0,none⟩) l cap):=by
 exact⟨_,cap,rfl,Uw,hm,.inr ⟨w.heap.size,0,k,c,el,(0,0),by simp[aR],by simp,aqb w _,by grind⟩⟩
theorem HX  {l c:Operand}  {n m:Int} (ho:o.op= .makeSlice t l c) (hu:X.P.underlying t=some (.slice (X.ti t).elem)) (T:mo X.P (X.ti t).elem (X.ti (X.ti t).elem)) (R:Rel w I σ S.h) (F:jv w I σ S.f a) (hx:oq o)
  (hn:S.h S.n=none) (ve:σ S.n=none) (hl:S.ev l= .int k1 n) (hc:S.ev c= .int k2 m) (hb:0<=n/\n<=m/\m*(X.ti (X.ti t).elem).bytes<=2^47/\m<=2^62)
   (hs:S1=(S.new ⟨(X.ti (X.ti t).elem).size,List.replicate n.toNat (X.ti (X.ti t).elem).zero,kp⟩).set o.dst (.cu S.n 0 n.toNat)):Out X o a w I σ S S1:=by
 subst hs;have h1:dB w I σ (S.ev l) (a.eval l):=fj (S:=S) F (hx l (by simp[ho,Op.operands]));have h2:dB w I σ (S.ev c) (a.eval c):=fj (S:=S) F (hx c (by simp[ho,Op.operands]));rw[hl]at h1;rw[hc]at h2;have zR:=iF h1;have D7:=iF h2;obtain⟨i,z,hi,Uz,hib,hz,hzb⟩:=T.info;have Uy:=zero_cells (w:=w) (I:=I) (σ:=my kp σ) T hzb;have L8:z.cells.size=(X.ti (X.ti t).elem).size:=by
  have:=((dL _ _).1 Uy).1;rw[T.X5]at this;simpa using this.symm
 have aqi:(i.bytes:Int)*m<=281474976710656:=by
  rw[hib,Int.mul_comm];omega
 have kn:=run_make (P:=X.P) w t (X.ti t).elem i z hu hi hz k1 k2 n m hb.1 hb.2.1 aqi (by omega);rw[Uz]at kn;have awy:(madeCells z.cells (m.toNat*(X.ti (X.ti t).elem).size)).toList=(List.replicate m.toNat z.cells.toList).flatten:=by
  unfold madeCells;rw[<-L8];exact IV z.cells _ _ rfl (by rw[L8];exact T.pos)
 have m8: ∀e∈List.replicate n.toNat (X.ti (X.ti t).elem).zero,e.cells.length=(X.ti (X.ti t).elem).size:=by
  intro e he;rw[adF he];exact T.X5
 have mQ:fP w I (my kp σ) (flat (List.replicate n.toNat (X.ti (X.ti t).elem).zero)) (List.replicate n.toNat z.cells.toList).flatten:=by
  rw[yc];exact Ad Uy n.toNat
 refine⟨_,_,I,_,.slice (some ⟨w.heap.size,0,none⟩) n.toNat m.toNat,.cu S.n 0 n.toNat,?_,.inl rfl,?_,rN _ _ _ _ rfl,Bs w I σ (k:=(X.ti (X.ti t).elem).size) (c:=madeCells z.cells (m.toNat*(X.ti (X.ti t).elem).size)) (el:=(X.ti t).elem) (by omega) (by simp only[maxLen];omega) (by rw[size_madeCells];omega)⟩
 ·simp[execOp,ho,zR,D7,kn]
 ·rw[fm,gZ];refine yd R _ hn ve m8 mQ (fun j u hu'=> ?_);have hlz:0<z.cells.toList.length:=by simp[L8];exact T.pos
  rw[me _ hlz]at hu';rw[<-Array.getElem?_toList,awy,me _ hlz];split at hu'
  ·rename_i hj;rw[if_pos (abS hj (abM _ (by omega)))];omega
  grind
theorem SM      (mx:Bool) (ho:o.op= .call ⟨.builtin (if mx then .max else .min),args,mM⟩) (ha:args.toList=[x,y]) (R:Rel w I σ S.h) (F:jv w I σ S.f a) (hx:oq o)
  (h1:S.ev x= .int k p) (h2:S.ev y= .int k q) (hs:S1=S.set o.dst (.int k (if mx then(if q>p then q else p) else(if q<p then q else p)))):Out X o a w I σ S S1:=by
 have Ax:args= #[x,y]:=by rw[<-ha]
 have r1:dB w I σ (S.ev x) (a.eval x):=fj (S:=S) F (hx x (by simp[ho,Op.operands,Call.operands,Ax]));have r2:dB w I σ (S.ev y) (a.eval y):=fj (S:=S) F (hx y (by simp[ho,Op.operands,Call.operands,Ax]));rw[h1]at r1;rw[h2]at r2;refine Out.pure (u:= .int k (if mx then(if q>p then q else p) else(if q<p then q else p))) R ?_ (by simp only[dB]) hs;cases mx
 ·simp[execOp,ho,Ax,resolve,invoke,builtin,iF r1,iF r2,Builtin.min_,Builtin.min2]
 ·simp[execOp,ho,Ax,resolve,invoke,builtin,iF r1,iF r2,Builtin.max_,Builtin.max2]
end
def L9{k:Nat}: ∀{es:List V} (i:Nat) (v:V),(∀e∈es,e.cells.length=k)->v.cells.length=k->i<es.length->flat (es.set i v)=lz (i*k) v.cells (flat es)
 | [],i,v,_,_,hi=>by grind
 |e::es,0,v,hk,hv,_=>by
  rw[adJ,rX,rX,aeE];have he:=hk e (by simp);apply abA;intro j;rw[qw _ _ _ _ (by grind)]
  grind
 |e::es,i+1,v,hk,hv,hi=>by
  rw[List.set_cons_succ,rX,rX,L9 i v (fun x hx=>hk x (by grind)) hv (by grind)];have he:=hk e (by simp);have wO:=o5 (fun x hx=>hk x (by grind): ∀x∈es,x.cells.length=k);have IN:(i+1)*k<=es.length*k:=abM _ (by grind);rw[acA]at IN;apply abA;intro j;rw[qw _ _ _ _ (by grind)];by_cases hj:j<k
  ·grind
  ·rw[aaO (by omega),qw _ _ _ _ (by omega),aaO (by omega),he]
   grind
section
variable {w:World} {I:Nat->Prop} {σ:jt}
theorem IX{k:Nat}(hp:0<k): ∀{ps:List (Nat×V)} {es Ae:List V} {us:Array Value} {D6:List (Nat×Value)},(∀e∈es,e.cells.length=k)->fP w I σ (flat es) us.toList->
  iN w I σ (ps.map (·.2)) (D6.map (·.2))->ps.map (·.1)=D6.map (·.1)->qF k es ps=some Ae->
   ∃Ch:Array Value,Instr.fill (fun i=>some (i*k,k)) us D6=some Ch/\fP w I σ (flat Ae) Ch.toList/\(∀e∈Ae,e.cells.length=k)/\Ae.length=es.length
 | [],es,Ae,us,D6,hk,hc,hr,hi,hf=>by
  simp only[qF,aA]at hf;subst hf;cases D6 with
  |nil=>exact⟨us,rfl,hc,hk,rfl⟩
  |cons _ _=>grind
 |(i,v)::ps,es,Ae,us,D6,hk,hc,hr,hi,hf=>by
  cases D6 with
  |nil=>grind
  |cons p D6=>
   obtain⟨i',u⟩:=p;simp only[aaU,acg]at hi;obtain⟨rfl,hi⟩:=hi;simp only[aaU,iN]at hr;obtain⟨u0,r,he,hv,hr⟩:=hr;obtain⟨rfl,rfl⟩:=he;simp only[qF]at hf;split at hf
   ·rename_i nn;simp only[aaF,decide_eq_true_eq]at nn;have pW:=hv.cells nn.1;have hlen:=((dL _ _).1 hc).1;rw[o5 hk]at hlen;have SH:=((dL _ _).1 pW.2).1;have a6c:u.cells.size=k:=by rw[pW.1]at SH;simpa using SH.symm
    have sY:us.size=es.length*k:=by simpa using hlen.symm
    have IN:(i+1)*k<=es.length*k:=abM _ nn.2;rw[acA]at IN;have EX:=E9 (n:=i*k) hc pW.2 (by rw[o5 hk,pW.1];omega);rw[<-L9 i v hk pW.1 nn.2]at EX;have qT: ∀e∈es.set i v,e.cells.length=k:=by
     intro e he;rcases aaX he with h|h
     ·grind
     ·grind
    obtain⟨Ch,h1,h2,h3,h4⟩:=IX hp qT EX hr hi hf;refine⟨Ch,?_,h2,h3,by grind⟩;simp only[Instr.fill];rw[if_neg]
    ·rw[Di u (i*k) us (by omega)];exact h1
    grind
   grind
theorem Kq{h:bh}(R:Rel w I σ h)(c:Array Value)(el:TypeId)(n:Nat):Step w I σ h n (w.alloc (.cells c el)) (fun b=>I b\/b=w.heap.size) σ h n:=by
 have E:Ext w I σ (w.alloc (.cells c el)) (fun b=>I b\/b=w.heap.size) σ:=
  (Ext.alloc R.ed _).trans ⟨fun _ _=>rfl,fun _ c _ fz hh=>⟨c,fz,hh,rfl⟩,fun b hb=> .inl hb,fun _ _ hh=>hh⟩
 have hOw: ∀b,jk σ h b->b<w.heap.size:=fun b hb=>by
  obtain⟨_,c,el,hh⟩:=R.owned hb;exact hh.lt
 refine⟨E,R.eU E (fun b hb=> ?_) (fun b hb=>⟨Po w _ b (hOw b hb),?_⟩) (fun _ _=>rfl),rfl,rfl,rfl,by simp_all,fun b hb _=>Po w _ b hb,fun b hb=> .inr hb,fun b hb=> ?_,aaI _,fun _ _=>rfl,fun _ _ hn=>hn⟩
 ·rw[EW];rcases hb with hb|rfl
  ·have:=R.ed b hb;omega
  omega
 ·rintro(hi|rfl)
  ·exact(R.owned hb).1 hi
  grind
 grind
end
section
variable {X:Env} {o:Oper} {a:Act} {w:World} {I:Nat->Prop} {σ:jt} {S S1:St}
theorem tW   (hu:X.P.underlying t=some (.slice (X.ti t).elem)) (T:mo X.P (X.ti t).elem (X.ti (X.ti t).elem)) (D5:n*(X.ti (X.ti t).elem).size<=2^24)
  {ps:List (Nat×V)}  {D6:Array (Nat×Value)} {w:World} {J:Nat->Prop} {τ:jt} (hr:iN w J τ (ps.map (·.2)) (D6.toList.map (·.2))) (hi:ps.map (·.1)=D6.toList.map (·.1))
  (hf:qF (X.ti (X.ti t).elem).size (List.replicate n (X.ti (X.ti t).elem).zero) ps=some es):
  ∃us:Array Value,(Instr.buildSlice t n D6).run X.P w= .ok (.slice (some ⟨w.heap.size,0,none⟩) n n) (w.alloc (.cells us (X.ti t).elem))/\fP w J τ (flat es) us.toList/\(∀e∈es,e.cells.length=(X.ti (X.ti t).elem).size)/\es.length=n:=by
 obtain⟨z,hz,hzb⟩:=EZ T w;have Uy:=zero_cells (w:=w) (I:=J) (σ:=τ) T hzb;have L8:z.cells.size=(X.ti (X.ti t).elem).size:=by
  have:=((dL _ _).1 Uy).1;rw[T.X5]at this;simpa using this.symm
 have m8: ∀e∈List.replicate n (X.ti (X.ti t).elem).zero,e.cells.length=(X.ti (X.ti t).elem).size:=by
  intro e he;rw[adF he];exact T.X5
 have mQ:fP w J τ (flat (List.replicate n (X.ti (X.ti t).elem).zero)) ((Array.range (n*(X.ti (X.ti t).elem).size)).map (z.cells[· % z.cells.size]!)).toList:=by
  rw[yc,<-L8,IV z.cells _ _ rfl (by rw[L8];exact T.pos)];exact Ad Uy n
 obtain⟨us,h1,h2,h3,h4⟩:=IX T.pos m8 mQ hr hi hf;refine⟨us,?_,h2,h3,by grind⟩;have D7: ¬(2^24<n*(X.ti (X.ti t).elem).size):=by omega
 have hp:=T.pos;by_cases h0:n=0
 ·subst h0;have uE:Instr.fill (fun i=>some (i*(X.ti (X.ti t).elem).size,(X.ti (X.ti t).elem).size)) #[] D6.toList=some us:=by
   simpa[Array.range_zero'] using h1
  simp[Instr.buildSlice,run_underlying hu,run_sizeOf T,newRow,uE,Array.range_zero']
 ·have kC:n*(X.ti (X.ti t).elem).size≠0:=by
   have:=Nat.mul_pos (Nat.pos_of_ne_zero h0) hp;omega
  simp[Instr.buildSlice,run_underlying hu,run_sizeOf T,newRow,D7,hz,h1];omega
theorem zS     (ho:o.op= .buildSlice t n ps) (hu:X.P.underlying t=some (.slice (X.ti t).elem)) (T:mo X.P (X.ti t).elem (X.ti (X.ti t).elem)) (D5:n*(X.ti (X.ti t).elem).size<=2^24)
  (R:Rel w I σ S.h) (F:jv w I σ S.f a) (hx:oq o) (hn:S.h S.n=none) (ve:σ S.n=none)
  (hf:qF (X.ti (X.ti t).elem).size (List.replicate n (X.ti (X.ti t).elem).zero) (ps.toList.map fun p=>(p.1,S.ev p.2))=some es)
  (hs:S1=(S.new ⟨(X.ti (X.ti t).elem).size,es,true⟩).set o.dst (.cu S.n 0 n)):Out X o a w I σ S S1:=by
 subst hs;have Br:=Cp F hx ps.toList (by intro y hy;simp only[ho,Op.operands];grind);obtain⟨us,kn,mQ,hk,hlen⟩:=tW (D6:=ps.map fun p=>(p.1,a.eval p.2)) hu T D5 (by simpa using Br.1) (by simp) hf;have sY:us.size=n*(X.ti (X.ti t).elem).size:=by
  have:=((dL _ _).1 mQ).1;rw[o5 hk,hlen]at this;simpa using this.symm
 have hnm:n<=maxLen:=by
  have h1:n*1<=n*(X.ti (X.ti t).elem).size:=Nat.mul_le_mul_left _ T.pos;simp only[maxLen];omega
 refine⟨_,_,I,_,.slice (some ⟨w.heap.size,0,none⟩) n n,.cu S.n 0 n,?_,.inl rfl,?_,rN _ _ _ _ rfl,Bs w I σ (k:=(X.ti (X.ti t).elem).size) (c:=us) (el:=(X.ti t).elem) (aaI _) hnm (by omega)⟩
 ·simp[execOp,ho,kn]
 ·rw[fm,gZ];exact yd R us hn ve hk (us:=us.toList) (by simpa[my] using mQ) (fun j u hu'=>by grind)
theorem Fb{h:bh}(hg:oY (fun _=>none) v=some (v',h')):oY h v=some (v',h):=by
 cases v<;>simp_all [oY]
theorem Fc{h:bh}: ∀{cs rS:List V} {h':bh},fY (fun _=>none) cs=some (rS,h')->fY h cs=some (rS,h)
 | [],_,_,hg=>by simp only[fY,aA,bM]at hg⊢;grind
 |c::cs,_,_,hg=>by
  have key: ∀{c':V} {h1:bh},oY (fun _=>none) c=some (c',h1)->h1=fun _=>none:=by
   intro c' h1 h2;cases c<;>simp_all [oY]
  simp only[fY]at hg⊢;split at hg
  case h_2=>grind
  rename_i c' h1 hc;have:=key hc;subst this;split at hg
  case h_2=>grind
  rename_i rS h2 Az;obtain⟨rfl,_⟩:=hg;simp only[Fb (h:=h) hc,Fc (h:=h) Az]
theorem UA{h:bh}(hg:qu (fun _=>none) v=some (v',h')):qu h v=some (v',h):=by
 cases v with
 |agg cs=>
  simp only[qu]at hg⊢;split at hg
  case h_2=>grind
  rename_i rS h1 hc;obtain⟨rfl,_⟩:=hg;simp only[Fc (h:=h) hc]
 |_=>exact Fb (by simpa[qu] using hg)
theorem Fe: ∀{cs rS:List V} {h':bh},fY (fun _=>none) cs=some (rS,h')->h'=fun _=>none
 | [],_,_,hg=>by simp only[fY,aA,bM]at hg;grind
 |c::cs,_,_,hg=>by
  simp only[fY]at hg;split at hg
  case h_2=>grind
  rename_i c' h1 hc;have:h1=fun _=>none:=by cases c<;>simp_all [oY]
  subst this;split at hg
  case h_2=>grind
  rename_i rS h2 Az;obtain⟨_,rfl⟩:=hg;exact Fe Az
theorem UB(hg:qu (fun _=>none) v=some (v',h')):h'=fun _=>none:=by
 cases v with
 |agg cs=>
  simp only[qu]at hg;split at hg
  case h_2=>grind
  rename_i rS h1 hc;obtain⟨_,rfl⟩:=hg;exact Fe hc
 |_=>simp_all [qu,oY]
theorem Ff{h:bh}: ∀{ps xW:List (Nat×V)} {h':bh},mL (fun _=>none) ps=some (xW,h')->mL h ps=some (xW,h)
 | [],_,_,hg=>by simp only[mL,aA,bM]at hg⊢;grind
 |(i,v)::ps,_,_,hg=>by
  simp only[mL]at hg⊢;split at hg
  case h_2=>grind
  rename_i c' h1 hc;have:=UB hc;subst this;split at hg
  case h_2=>grind
  rename_i rS h2 Az;obtain⟨rfl,_⟩:=hg;simp only[UA (h:=h) hc,Ff (h:=h) Az]
theorem tX     {l:List (Nat×V)} {h:bh}  (ho:o.op= .buildSlice t n ps) (hu:X.P.underlying t=some (.slice (X.ti t).elem)) (T:mo X.P (X.ti t).elem (X.ti (X.ti t).elem)) (D5:n*(X.ti (X.ti t).elem).size<=2^24)
  (R:Rel w I σ S.h) (F:jv w I σ S.f a) (hx:oq o) (hn:S.h S.n=none) (ve:σ S.n=none)
  (hg:mL S.h (ps.toList.map fun p=>(p.1,S.ev p.2))=some (l,h))
  (hf:qF (X.ti (X.ti t).elem).size (List.replicate n (X.ti (X.ti t).elem).zero) l=some es)
  (hs:S1=if th then(({S with h:=h}:St).new ⟨(X.ti (X.ti t).elem).size,es,false⟩).set o.dst (.cu S.n 0 n) else({S with h:=h}:St).set o.dst (.sl true es)):Out X o a w I σ S S1:=by
 subst hs;have Br:=Cp F hx ps.toList (by intro y hy;simp only[ho,Op.operands];grind);obtain⟨I1,s1,r1,hi1,Aw⟩:=IU R Br.1 hg S.n;obtain⟨us,kn,mQ,hk,hlen⟩:=tW (D6:=ps.map fun p=>(p.1,a.eval p.2)) hu T D5 (by simpa using r1) (by simp_all) hf;have sY:us.size=n*(X.ti (X.ti t).elem).size:=by
  have:=((dL _ _).1 mQ).1;rw[o5 hk,hlen]at this;simpa using this.symm
 have hnm:n<=maxLen:=by
  have h1:n*1<=n*(X.ti (X.ti t).elem).size:=Nat.mul_le_mul_left _ T.pos;simp only[maxLen];omega
 have hnh:h S.n=none:=by
  cases hc:h S.n with
  |none=>rfl
  |some ob=>grind
 cases th with
 |true=>
  refine⟨_,_,I1,_,.slice (some ⟨w.heap.size,0,none⟩) n n,.cu S.n 0 n,?_,.inl rfl,?_,?_,Bs w I1 σ (k:=(X.ti (X.ti t).elem).size) (c:=us) (el:=(X.ti t).elem) (aaI _) hnm (by omega)⟩
  ·simp[execOp,ho,kn]
  ·simp only[if_true];rw[fm,gZ];exact s1.trans (yd s1.rel us hnh ve hk (us:=us.toList) (by simpa[my] using mQ) (fun j u hu'=>by grind))
  ·exact rN _ _ _ _ rfl
 |false=>
  refine⟨_,w.alloc (.cells us (X.ti t).elem),(fun b=>I1 b\/b=w.heap.size),σ,.slice (some ⟨w.heap.size,0,none⟩) n n,.sl true es,?_,.inl rfl,?_,?_,?_⟩
  ·simp[execOp,ho,kn]
  ·simp only[aaM,if_false];rw[fm,gZ];exact s1.trans (Kq s1.rel us (X.ti t).elem S.n)
  ·exact rN _ _ _ _ rfl
  ·refine⟨_,n,by grind,by omega,hnm,fun _=>hlen.symm,.inr ⟨w.heap.size,0,(X.ti (X.ti t).elem).size,rfl,.inr rfl,?_⟩⟩;refine tV (Kq s1.rel us (X.ti t).elem S.n).ext.Ke hk (us:=us.toList) mQ (fun j u hu'=> ?_)
   simp_all
end
end Go.Abs
