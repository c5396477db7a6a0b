/- Part of a proof: engine A3. -/
import Derived.Test.YtdngefmliibcgaaGreatM00
set_option linter.all false
set_option maxRecDepth 20000
set_option maxHeartbeats 20000000
namespace Go.Abs
open Go
section
variable (X:Env) (f:FuncId) (S:St)
theorem Qi:ev X f .skip S=some (.normal,S):=by rw[vx];rfl
theorem Qj(id:Nat):ev X f (.exit id) S=some (.exit id,S):=by rw[vx];rfl
theorem UF:ev X f .ret S=some (.ret,S):=by rw[vx];rfl
open Classical in
theorem IH(id:Nat)(ops:Array Oper)(d:Bool):ev X f (.region id ops d) S=
  (match jH X f (2*id) S with
  |some S=>(match cQ X (bt X) f (ops.toList.map (·.dst)) S.n 0 ops.toList {S with n:=S.n+ops.size} with
   |some S1=>if fW X (bt X) f ops.toList S.n {S with n:=S.n+ops.size} S1 (X.uG f id) then some (.normal,S1) else none
   |none=>none)
  |none=>none):=by rw[vx];rfl
theorem UG(a b:Code):ev X f (.seq a b) S=(match ev X f a S with|some (.normal,S1)=>ev X f b S1|r=>r):=by rw[vx];rfl
theorem Qk(x:Operand)(a b:Code):ev X f (.cond x a b) S=(match S.ev x with| .bool t=>if t then ev X f a S else ev X f b S|_=>none):=by rw[vx];rfl
theorem L8(id:Nat)(b:Code):ev X f (.block id b) S=(match ev X f b S with|some (.exit i,S1)=>if i=id then some (.normal,S1) else some (.exit i,S1)|r=>r):=by rw[vx];rfl
theorem Bi(b:Code):ev X f (.loop b) S=(match jH X f (2*eY b+1) S with|some S=>(match ev X f b S with|some (.normal,S1)=>ev X f (.loop b) S1|r=>r)|none=>none):=by rw[vx];rfl
end
theorem yb(X:Env)(call:dH)(aP:FuncId)(ops:List Oper)(n0:Nat)(S0 S1:St):fW X call aP ops n0 S0 S1 []=True:=by
 simp[fW]
theorem II{α:Type}(f:Nat→α)(t:Nat)(v:α)(u:Nat):aS f t v u=if u=t then v else f u:=rfl
theorem L9{X:Env}{g:FuncId}{fn:Func}{b:Code}(hf:X.P.funcs[g]?=some fn)(hb:fn.body=some b)(args:List V)(h:aG)(k:Nat)(hp:X.ki g=none:=by rfl):
  bt X g args h k=pk X fn.results.toList (ev X g b ⟨kF args,h,k⟩):=by
 unfold bt bz;simp only[hp,hf,hb]
theorem IJ(cs:List V):(V.agg cs).cells=cs:=rfl
theorem IK(k:IntKind)(n:Int):(V.int k n).cells=[.int k n]:=rfl
theorem EV(b:Bool):(V.bool b).cells=[.bool b]:=rfl
theorem IL(s:List UInt8):(V.str s).cells=[.str s]:=rfl
theorem Ma(c:Bool)(es:List V):(V.sl c es).cells=[.sl c es]:=rfl
theorem IM(i s l:Nat):(V.bJ i s l).cells=[.bJ i s l]:=rfl
theorem IN(i s l:Nat):(V.ptr i s l).cells=[.ptr i s l]:=rfl
attribute [simp] IJ IK EV IL Ma IM IN
attribute [simp] yb
theorem IP(args:List V)(t:Nat):kF args t=(match args[t]? with|some v=>v|none=> .bad):=rfl
attribute [simp] II IP St.new.eq_1 pj.eq_1 pj.eq_2 pU.eq_1 pU.eq_2 pU.eq_3 pU.eq_4 pU.eq_5 pU.eq_6 pU.eq_7 Go.Abs.part.eq_1 AW.eq_1 AW.eq_2 AW.eq_3 AW.eq_4 elems.eq_1 elems.eq_2 elems.eq_3 elems.eq_4 mL.eq_1 mL.eq_2 mL.eq_3 mL.eq_4 mL.eq_5 mL.eq_6 mL.eq_7 mL.eq_8 mL.eq_9 mL.eq_10 mL.eq_11 mL.eq_12 mL.eq_13 mL.eq_14 mL.eq_15 mL.eq_16 mL.eq_17 tP.eq_1 tP.eq_2 TT.eq_1 TT.eq_2 TT.eq_3 D9.eq_1 D9.eq_2 D9.eq_3 D9.eq_4 D9.eq_5 D9.eq_6 D9.eq_7 D9.eq_8 D9.eq_9 V.eqv.eq_1 V.eqv.eq_2 V.eqv.eq_3 V.eqv.eq_4 sh.eq_1 sh.eq_2 sh.eq_3 V.put.eq_1 V.put.eq_2 gf.eq_1 gf.eq_2 gf.eq_3 gf.eq_4 gf.eq_5 qx.eq_1 qx.eq_2 kP.eq_1 kP.eq_2 V.fits.eq_1 V.fits.eq_2 V.fits.eq_3 V.fits.eq_4 kE.eq_1 kE.eq_2 hZ.eq_1 hZ.eq_2 jG.eq_1 jG.eq_2 gp.eq_1 gp.eq_2 V.jW.eq_1 V.jW.eq_2 V.jW.eq_3 V.jW.eq_4 V.jW.eq_5 V.jW.eq_6 V.jW.eq_7 V.jW.eq_8 V.tQ.eq_1 V.tQ.eq_2 V.isStr.eq_1 V.isStr.eq_2 TI.isStr.eq_1 aY.eq_1 aY.eq_2 aY.eq_3 iH.eq_1 pk.eq_1 pk.eq_2 pk.eq_3 KY.eq_1 KY.eq_2 KY.eq_3 bounds.eq_1
def mark{α:Type}(x:α):α:=x
theorem Ql{α:Type}(x:α):mark x=x:=rfl
def Wp(X:Env)(f:FuncId)(c:Code)(S:St)(Q:Ex→St→Prop):Prop:= ∃e S1,ev X f c S=some (e,S1)∧Q e S1
def Qm(X:Env)(f:FuncId)(b:Code)(Q:Ex→St→Prop):Ex→St→Prop
 | .normal,S=>Wp X f b S Q
 |e,S=>Q e S
def IQ(id:Nat)(Q:Ex→St→Prop):Ex→St→Prop
 | .exit i,S=>if i=id then Q .normal S else Q (.exit i) S
 |e,S=>Q e S
def iT(r:Option St)(K:St→Prop):Prop:=
 match r with
 |some S=>K S
 |none=>False
def GU(X:Env)(f:FuncId)(key:Nat)(Inv:Nat→St→Prop)(i N:Nat)(Q:Ex→St→Prop):Ex→St→Prop
 | .normal,S=>i<N∧iT (mark (jH X f key S)) (Inv (i+1))
 |e,S=>Q e S
section
variable {X:Env} {f:FuncId} {S:St} {Q:Ex→St→Prop}
theorem CV(b:Code):Qm X f b Q .normal S=Wp X f b S Q:=rfl
theorem IS(b:Code)(i:Nat):Qm X f b Q (.exit i) S=Q (.exit i) S:=rfl
theorem Mb(b:Code):Qm X f b Q .ret S=Q .ret S:=rfl
theorem CW(id:Nat):IQ id Q .normal S=Q .normal S:=rfl
theorem IT(id i:Nat):IQ id Q (.exit i) S=(if i=id then Q .normal S else Q (.exit i) S):=rfl
theorem Mc(id:Nat):IQ id Q .ret S=Q .ret S:=rfl
theorem Bj(key:Nat)(Inv:Nat→St→Prop)(i N:Nat):GU X f key Inv i N Q .normal S=(i<N∧iT (mark (jH X f key S)) (Inv (i+1))):=rfl
theorem EW(key:Nat)(Inv:Nat→St→Prop)(i N k:Nat):GU X f key Inv i N Q (.exit k) S=Q (.exit k) S:=rfl
theorem IU(key:Nat)(Inv:Nat→St→Prop)(i N:Nat):GU X f key Inv i N Q .ret S=Q .ret S:=rfl
theorem EX(K:St→Prop):iT (some S) K=K S:=rfl
theorem CX(c:Prop)[Decidable c](a:Option St)(K:St→Prop):iT (if c then none else a) K=(¬c∧(¬c→iT (mark a) K)):=by
 by_cases h:c<;>simp[h,iT,mark]
def dq(X:Env)(aP:FuncId)(bm:List (Option Nat))(n0 k:Nat)(ops:List Oper)(S:St)(K:St→Prop):Prop:=iT (cQ X (bt X) aP bm n0 k ops S) K
def lj(v:V)(want:Bool)(ff:Nat→V)(_dj:Nat)(p q:(Nat→V)→Prop):Prop:=
 match v with
 | .bool b=>if b=want then p ff else q ff
 | .cg []=>q ff
 |_=>False
theorem IV(ff:Nat→V)(dj:Nat)(p q:(Nat→V)→Prop):lj (.bool true) true ff dj p q=p ff:=by simp[lj]
theorem Md(ff:Nat→V)(dj:Nat)(p q:(Nat→V)→Prop):lj (.bool false) true ff dj p q=q ff:=by simp[lj]
theorem EY(ff:Nat→V)(dj:Nat)(p q:(Nat→V)→Prop):lj (.bool false) false ff dj p q=p ff:=by simp[lj]
theorem IW(ff:Nat→V)(dj:Nat)(p q:(Nat→V)→Prop):lj (.bool true) false ff dj p q=q ff:=by simp[lj]
theorem EZ(w:Bool)(ff:Nat→V)(dj:Nat)(p q:(Nat→V)→Prop):lj (.cg []) w ff dj p q=q ff:=rfl
theorem CY{ff:Nat→V}{dj:Nat}{v:V}(h:ff dj=v):aS ff dj v=ff:=by
 funext u;unfold aS;split
 ·rename_i e;rw[e,h]
 ·rfl
theorem E3{b:Bool}{ff:Nat→V}{dj:Nat}{p q:(Nat→V)→Prop}(h:ff dj= .bool b):lj (.bool b) true ff dj p q=((b=true→p (aS ff dj (.bool true)))∧(b=false→q (aS ff dj (.bool false)))):=by
 cases b<;>rw[CY h]<;>simp[lj]
theorem CZ{b:Bool}{ff:Nat→V}{dj:Nat}{p q:(Nat→V)→Prop}(h:ff dj= .bool b):lj (.bool b) false ff dj p q=((b=false→p (aS ff dj (.bool false)))∧(b=true→q (aS ff dj (.bool true)))):=by
 cases b<;>rw[CY h]<;>simp[lj]
theorem Me(bm:List (Option Nat))(n0 k:Nat)(K:St→Prop):dq X f bm n0 k [] S K=K S:=rfl
theorem pB(bm:List (Option Nat))(n0 k:Nat)(o:Oper)(r:List Oper)(K:St→Prop):dq X f bm n0 k (o::r) S K=
  match o.guard with
  |none=>iT (cw X (bt X) f n0 k o S) fun S1=>dq X f bm n0 (k+1) r S1 K
  |some (j,want)=>match bm[j]? with
   |some (some d)=>lj (S.f d) want S.f d (fun _=>iT (cw X (bt X) f n0 k o S) fun S1=>dq X f bm n0 (k+1) r S1 K) (fun _=>dq X f bm n0 (k+1) r (S.set o.dst (.cg [])) K)
   |_=>False:=by
 unfold dq;rw[cQ];cases o.guard with
 |none=>simp only;cases cw X (bt X) f n0 k o S<;>rfl
 |some p=>
  obtain⟨j,want⟩:=p;simp only;cases bm[j]? with
  |none=>rfl
  |some x=>
   cases x with
   |none=>rfl
   |some d=>
    simp only;cases hv:S.f d with
    |bool b=>
     simp only[lj];split
     ·cases cw X (bt X) f n0 k o S<;>rfl
     ·rfl
    |cg l=>cases l<;>rfl
    |_=>rfl
theorem yc{c:Code}{e:Ex}{S1:St}(h:ev X f c S=some (e,S1)):Wp X f c S Q=Q e S1:=by
 apply propext;constructor
 ·rintro⟨e',S',h',hq⟩;rw[h]at h';simp only[aa,ax]at h';obtain⟨rfl,rfl⟩:=h';exact hq
 ·intro hq;exact⟨e,S1,h,hq⟩
theorem Qn:Wp X f .skip S Q=Q .normal S:=yc (Qi X f S)
theorem Qo(id:Nat):Wp X f (.exit id) S Q=Q (.exit id) S:=yc (Qj X f S id)
theorem UH:Wp X f .ret S Q=Q .ret S:=yc (UF X f S)
theorem UI(a b:Code):Wp X f (.seq a b) S Q=Wp X f a S (Qm X f b Q):=by
 apply propext;unfold Wp;rw[UG];constructor
 ·rintro⟨e,S1,h,hq⟩;cases ha:ev X f a S with
  |none=>simp[ha]at h
  |some x=>
   obtain⟨e2,S2⟩:=x;rw[ha]at h;refine⟨e2,S2,rfl,?_⟩;cases e2 with
   |normal=>exact⟨e,S1,h,hq⟩
   |exit i=>
    simp only[aa,ax]at h;obtain⟨rfl,rfl⟩:=h;exact hq
   |ret=>
    simp only[aa,ax]at h;obtain⟨rfl,rfl⟩:=h;exact hq
 ·rintro⟨e,S1,h,hq⟩;rw[h];cases e with
  |normal=>
   obtain⟨e2,S2,h2,UD⟩:=hq;exact⟨e2,S2,h2,UD⟩
  |exit i=>exact⟨_,_,rfl,hq⟩
  |ret=>exact⟨_,_,rfl,hq⟩
def iP(f:Nat→V):Operand→V
 | .tmp t=>f t
 | .const v=>pj v
 | .func g=> .fn g [] []
 | .global _=> .bad
theorem sW(S:St):iP S.f=S.ev:=by funext x;cases x<;>rfl
def choose(v:V)(p q:Prop):Prop:=
 match v with
 | .bool true=>p
 | .bool false=>q
 |_=>False
theorem C0(p q:Prop):choose (.bool true) p q=p:=rfl
theorem Bk(p q:Prop):choose (.bool false) p q=q:=rfl
theorem C1(b:Bool)(p q:Prop):choose (.bool b) p q=((b=true→p)∧(b=false→q)):=by cases b<;>simp[choose]
theorem Qp(x:Operand)(a b:Code):Wp X f (.cond x a b) S Q=choose (mark (iP S.f x)) (Wp X f a S Q) (Wp X f b S Q):=by
 rw[sW];show(Wp X f (.cond x a b) S Q)=choose (S.ev x) (Wp X f a S Q) (Wp X f b S Q);unfold Wp;rw[Qk];cases S.ev x with
 |bool t=>cases t<;>simp[choose]
 |_=>simp[choose]
theorem Mf(id:Nat)(b:Code):Wp X f (.block id b) S Q=Wp X f b S (IQ id Q):=by
 apply propext;unfold Wp;rw[L8];constructor
 ·rintro⟨e,S1,h,hq⟩;cases hb:ev X f b S with
  |none=>simp[hb]at h
  |some x=>
   obtain⟨e2,S2⟩:=x;rw[hb]at h;refine⟨e2,S2,rfl,?_⟩;cases e2 with
   |normal=>
    simp only[aa,ax]at h;obtain⟨rfl,rfl⟩:=h;exact hq
   |exit i=>
    simp only at h;simp only[IQ];split at h<;>rename_i hi<;>simp only[aa,ax]at h<;>obtain⟨rfl,rfl⟩:=h<;>simp only[hi,if_true,if_false]<;>exact hq
   |ret=>
    simp only[aa,ax]at h;obtain⟨rfl,rfl⟩:=h;exact hq
 ·rintro⟨e,S1,h,hq⟩;rw[h];cases e with
  |normal=>exact⟨_,_,rfl,hq⟩
  |exit i=>
   simp only[IQ]at hq;simp only;split at hq<;>rename_i hi<;>simp only[hi,if_true,if_false]<;>exact⟨_,_,rfl,hq⟩
  |ret=>exact⟨_,_,rfl,hq⟩
def SB(l:List (Nat×Nat))(p:List (Nat×Nat)→Prop):Prop:=p l
theorem IX(id:Nat)(ops:Array Oper)(d:Bool):Wp X f (.region id ops d) S Q=
  iT (mark (jH X f (2*id) S)) fun S=>dq X f (ops.toList.map (·.dst)) S.n 0 ops.toList ⟨S.f,S.h,S.n+ops.size⟩ fun S1=>SB (mark (X.uG f id)) (fW X (bt X) f ops.toList S.n {S with n:=S.n+ops.size} S1)∧Q .normal S1:=by
 show _=iT (jH X f (2*id) S) fun S=>dq X f (ops.toList.map (·.dst)) S.n 0 ops.toList {S with n:=S.n+ops.size} fun S1=>fW X (bt X) f ops.toList S.n {S with n:=S.n+ops.size} S1 (X.uG f id)∧Q .normal S1;unfold Wp dq;rw[IH];cases hn:jH X f (2*id) S with
 |none=>simp[iT]
 |some S=>
 simp only[iT];cases h:cQ X (bt X) f (ops.toList.map (·.dst)) S.n 0 ops.toList {S with n:=S.n+ops.size} with
 |none=>simp
 |some S1=>
  by_cases hs:fW X (bt X) f ops.toList S.n {S with n:=S.n+ops.size} S1 (X.uG f id)
  ·simp only[hs,if_true,true_and];apply propext;constructor
   ·rintro⟨e,S2,he,hq⟩;simp only[aa,ax]at he;obtain⟨rfl,rfl⟩:=he;exact hq
   ·intro hq;exact⟨_,_,rfl,hq⟩
  ·simp[hs]
theorem UJ(id:Nat)(l:List Oper)(d:Bool):Wp X f (.region id l.toArray d) S Q=
  iT (mark (jH X f (2*id) S)) fun S=>dq X f (l.map (·.dst)) S.n 0 l ⟨S.f,S.h,S.n+l.length⟩ fun S1=>SB (mark (X.uG f id)) (fW X (bt X) f l S.n {S with n:=S.n+l.length} S1)∧Q .normal S1:=by
 rw[IX];simp only[List.size_toArray]
theorem fh{b:Code}(Inv:Nat→St→Prop)(N:Nat)(step: ∀i S,i≤N→Inv i S→Wp X f b S (GU X f (2*eY b+1) Inv i N Q)): ∀(i:Nat) {S:St},i≤N→iT (mark (jH X f (2*eY b+1) S)) (Inv i)→Wp X f (.loop b) S Q:=by
 suffices h: ∀(k i:Nat) {S:St},N-i=k→i≤N→iT (jH X f (2*eY b+1) S) (Inv i)→Wp X f (.loop b) S Q from fun i S hi h0=>h (N-i) i rfl hi h0;intro k;induction k with
 |zero=>
  intro i S hk hi h0;cases hn:jH X f (2*eY b+1) S with
  |none=>rw[hn]at h0;exact absurd h0 (fun h=>h)
  |some S0=>
  rw[hn]at h0;obtain⟨e,S1,h,hq⟩:=step i S0 hi h0;refine⟨e,S1,?_,?_⟩
  ·rw[Bi,hn];simp only;rw[h];cases e with
   |normal=>exact absurd hq.1 (by omega)
   |exit i=>rfl
   |ret=>rfl
  ·cases e with
   |normal=>exact absurd hq.1 (by omega)
   |exit i=>exact hq
   |ret=>exact hq
 |succ k ih=>
  intro i S hk hi h0;cases hn:jH X f (2*eY b+1) S with
  |none=>rw[hn]at h0;exact absurd h0 (fun h=>h)
  |some S0=>
  rw[hn]at h0;obtain⟨e,S1,h,hq⟩:=step i S0 hi h0;unfold Wp;rw[Bi,hn];simp only;rw[h];cases e with
  |normal=>
   obtain⟨jw,hinv⟩:=hq;exact ih (i+1) (by omega) jw hinv
  |exit i=>exact⟨_,_,rfl,hq⟩
  |ret=>exact⟨_,_,rfl,hq⟩
end
theorem Mg{X:Env}{f:FuncId}{c:Code}{S S':St}{Q:Ex→St→Prop}(h:S=S'):Wp X f c S Q=Wp X f c S' Q:=by rw[h]
theorem C2{r r':Option St}{K:St→Prop}(h:r=r'):iT r K=iT r' K:=by rw[h]
theorem E4{X:Env}{aP:FuncId}{bm:List (Option Nat)}{n0 k:Nat}{ops:List Oper}{S S':St}{K:St→Prop}(h:S=S'):dq X aP bm n0 k ops S K=dq X aP bm n0 k ops S' K:=by rw[h]
theorem C3{v v':V}{w:Bool}{ff:Nat→V}{dj:Nat}{p q:(Nat→V)→Prop}(h:v=v'):lj v w ff dj p q=lj v' w ff dj p q:=by rw[h]
theorem Bl{v v':V}{p q:Prop}(h:v=v'):choose v p q=choose v' p q:=by rw[h]
attribute [congr] Mg C2 Bl E4 C3
theorem Qq(a b:Int):(a==b)=decide (a=b):=rfl
def Mh(X:Env)(rs:List ResultVar)(K:V→aG→Nat→Prop):Ex→St→Prop
 | .exit _,_=>False
 |_,S=>match iH X rs S with|some v=>K v S.h S.n|none=>False
section
variable {X:Env} {S:St} {rs:List ResultVar} {K:V→aG→Nat→Prop}
theorem qY:Mh X rs K .normal S=(match iH X rs S with|some v=>K v S.h S.n|none=>False):=rfl
theorem yd:Mh X rs K .ret S=(match iH X rs S with|some v=>K v S.h S.n|none=>False):=rfl
end
theorem bh {X:Env} {g:FuncId} {fn:Func} {b:Code} {rs:List ResultVar} (hf:X.P.funcs[g]?=some fn) (hb:fn.body=some b) (hr:fn.results=⟨rs⟩) {args:List V} {h:aG} {k:Nat} {K:V→aG→Nat→Prop}
  (hw:Wp X g b ⟨kF args,h,k⟩ (Mh X rs K)) (hp:X.ki g=none:=by rfl): ∃v h' k',bt X g args h k=some (v,h',k')∧K v h' k':=by
 have tJ:rs=fn.results.toList:=by rw[hr]
 rw[tJ]at hw;rw[L9 hf hb (hp:=hp)];obtain⟨e,S1,h1,h2⟩:=hw;rw[h1];cases e with
 |exit i=>exact absurd h2 (fun h=>h)
 |normal=>
  unfold pk;cases hr:iH X fn.results.toList S1 with
  |none=>rw[qY,hr]at h2;exact absurd h2 (fun h=>h)
  |some v=>rw[qY,hr]at h2;exact⟨v,S1.h,S1.n,by simp only[hr],h2⟩
 |ret=>
  unfold pk;cases hr:iH X fn.results.toList S1 with
  |none=>rw[yd,hr]at h2;exact absurd h2 (fun h=>h)
  |some v=>rw[yd,hr]at h2;exact⟨v,S1.h,S1.n,by simp only[hr],h2⟩
def qE:aG:=fun _=>none
theorem aN {X:Env} {g:FuncId} {fn:Func} {b:Code} {rs:List ResultVar} (hf:X.P.funcs[g]?=some fn) (hb:fn.body=some b) (hr:fn.results=⟨rs⟩) {args:List V} {r:V}
  (hw:Wp X g b ⟨kF args,qE,0⟩ (Mh X rs fun v h _=>(aX h depth v).map V.fo=some r)) (hp:X.ki g=none:=by rfl):ba X g args=some r:=by
 obtain⟨v,h,k,h1,h2⟩:=bh hf hb hr hw hp;unfold ba kV;simp only[hp];have rQ:bt X g args (fun _=>none) 0=some (v,h,k):=h1;rw[rQ];exact h2
theorem C4: ∀l:List V,cG l=l.map V.fo
 | []=>rfl
 |c::cs=>by simp[cG,C4 cs]
noncomputable def ye(X:Env)(m:Mask)(g:FuncId)(args:List V):Option V:=
 match bt X g args qE 0 with
 |some (v,h,_)=>Eb X h v m
 |none=>none
def sX:V→V
 | .cg _=> .cg []
 |_=> .bad
theorem E5(l:List V):sX (.cg l)= .cg []:=rfl
theorem E6(k:IntKind)(n:Int):sX (.int k n)= .bad:=rfl
theorem E7(l:List V):sX (.agg l)= .bad:=rfl
theorem E8(a b c:Nat):sX (.bJ a b c)= .bad:=rfl
theorem C5(v:V)(vs:List V):su (sX v) vs=su v vs:=by cases v<;>rfl
noncomputable def kg(X:Env)(M:Mask)(g:FuncId)(k:Nat)(R:V)(args:List V):Option (Nat×V×List V×V):=
 match bt X g (.ptr 0 0 0::args) (jB X g k R) (1+(X.dI g).length) with
 |some (v,h,_)=>match wX X M v h with
  |some (k',r,rs)=>some (k',r,rs,sX v)
  |none=>none
 |none=>none
theorem IY(X:Env)(aP:FuncId)(dst:Option Nat)(g:FuncId)(args:List V)(S:St):iA X (bt X) aP dst g args S=
  match kq S.h args with
  |some (auj,h1)=>
   match ye X (dst.elim [] (X.mask aP)) g auj with
   |some r=>some ((⟨S.f,qC X (X.dX aP) r S.n (dst.elim [] (X.mask aP)) h1,S.n+(dst.elim [] (X.mask aP)).length⟩:St).set dst (oO S.n (dst.elim [] (X.mask aP)) r))
   |none=>none
  |none=>none:=by
 unfold iA ye qE;cases kq S.h args with
 |none=>rfl
 |some x=>
  obtain⟨auj,h1⟩:=x;simp only;cases bt X g auj (fun _=>none) 0 with
  |none=>rfl
  |some x=>rfl
theorem Qr(X:Env)(aP:FuncId)(dst:Option Nat)(g:FuncId)(id:Nat)(rest:List V)(S:St):oP X (bt X) aP dst g (.ptr id 0 0::rest) S=
  match S.h id with
  |some ob=>
   match ob.es with
   | [e]=>
    if ob.bZ=true then
     match tR X (aS S.h id none) (fun _=>none) e (X.dI g) with
     |some R=>
      match kq (cP (aS S.h id none) (dd e (X.dI g))) rest with
      |some (auj,h1)=>
       match kg X (lS X aP dst g) g ob.k R auj with
       |some (k',r,rs,v)=>
        some ((⟨S.f,qC X (X.dX aP) (.cg (r::rs)) S.n (lS X aP dst g) (aS h1 id (some ⟨k',[wY (oO S.n (lS X aP dst g) (.cg (r::rs)))],true⟩)),S.n+(lS X aP dst g).length⟩:St).set dst
          (su v (Gv (oO S.n (lS X aP dst g) (.cg (r::rs))))))
       |none=>none
      |none=>none
     |none=>none
    else none
   |_=>none
  |none=>none:=by
 rw[oP.eq_1];cases S.h id with
 |none=>rfl
 |some ob=>
  simp only;cases zg:ob.es with
  |nil=>rfl
  |cons e t=>
   cases t with
   |cons _ _=>rfl
   |nil=>
    simp only;cases ob.bZ with
    |false=>rfl
    |true=>
     simp only[if_true];cases tR X (aS S.h id none) (fun _=>none) e (X.dI g) with
     |none=>rfl
     |some R=>
      simp only;cases kq (cP (aS S.h id none) (dd e (X.dI g))) rest with
      |none=>rfl
      |some x=>
       obtain⟨auj,h1⟩:=x;simp only;unfold kg;cases bt X g (V.ptr 0 0 0::auj) (jB X g ob.k R) (1+(X.dI g).length) with
       |none=>rfl
       |some x=>
        obtain⟨v,h,n⟩:=x;simp only;cases wX X (lS X aP dst g) v h with
        |none=>rfl
        |some y=>
         obtain⟨k',r,rs⟩:=y;simp only[C5]
theorem my {X:Env} {M:Mask} {g:FuncId} {fn:Func} {b:Code} {rs:List ResultVar} (hf:X.P.funcs[g]?=some fn) (hb:fn.body=some b) (hr:fn.results=⟨rs⟩) {k:Nat} {R:V} {args:List V} {k':Nat} {r v:V} {rl:List V}
  (hw:Wp X g b ⟨kF (.ptr 0 0 0::args),jB X g k R,1+(X.dI g).length⟩ (Mh X rs fun v' h _=>wX X M v' h=some (k',r,rl)∧sX v'=v)) (hp:X.ki g=none:=by rfl):
  kg X M g k R args=some (k',r,rl,v):=by
 obtain⟨v',h,n,h1,h2,rfl⟩:=bh hf hb hr hw hp;unfold kg;simp only[h1,h2]
theorem IZ(X:Env)(aP:FuncId)(dst:Option Nat)(g:FuncId)(args:List V)(S:St):cX X (bt X) aP dst g args S=
  match X.clone g with
  |some t=>
   match args with
   | [s]=>match elems S.h s with
    |some (es,kx)=>if s.isStr||(kx&& !X.dX aP (X.ti t).elem)|| !(es.all fun v=>v.cells.length==(X.ti (X.ti t).elem).size)|| !decide (es.length*(X.ti (X.ti t).elem).bytes≤2^47∧es.length≤2^62) then none else some ((S.new ⟨(X.ti (X.ti t).elem).size,es,X.dX aP (X.ti t).elem⟩).set dst (.bJ S.n 0 es.length))
    |none=>none
   |_=>none
  |none=>
  if(X.fg g&& !X.low g)=true then
   match bt X g args S.h S.n with
   |some (v,h,n)=>some (({S with h:=h,n:=n}:St).set dst v)
   |none=>none
  else if X.dP g=true then oP X (bt X) aP dst g args S
  else if(!(dst.elim [] (X.mask aP)).isEmpty)=true then iA X (bt X) aP dst g args S
  else
   match aY (args.map (aX S.h depth)) with
   |some auj=>
    if(dst.any (X.nf aP)&& !X.low g)=true then
     match bt X g (cG auj) qE S.n with
     |some (v,h,n)=>if(args.any V.qB&& !v.pu)=true then none else some (({S with h:=fun id=>if id<S.n then S.h id else if args.any V.qB=true then iy (h id) else h id,n:=n}:St).set dst v)
     |none=>none
    else
     match ba X g (cG auj) with
     |some v=>if(args.any V.qB&& !v.scalar)=true then none else some (S.set dst v)
     |none=>none
   |none=>none:=by
 have key: ∀v:V,v.fo.scalar=v.scalar:=by
  intro v;have l0: ∀v:V,v.fo.leaf=v.leaf:=fun v=>by cases v<;>rfl
  have ll: ∀l:List V,(cG l).all V.leaf=l.all V.leaf:=by
   intro l;induction l with
   |nil=>rfl
   |cons c l ih=>simp[cG,l0,ih]
  have l1: ∀v:V,v.fo.qK=v.qK:=fun v=>by
   cases v with
   |agg cs=>simp[V.fo,V.qK,ll]
   |_=>rfl
  have ll1: ∀l:List V,(cG l).all V.qK=l.all V.qK:=by
   intro l;induction l with
   |nil=>rfl
   |cons c l ih=>simp[cG,l1,ih]
  cases v with
  |cg cs=>simp[V.fo,V.scalar,ll1]
  |agg cs=>simp[V.fo,V.scalar,V.qK,ll]
  |_=>rfl
 unfold cX ba;cases X.clone g with
 |some t=>rfl
 |none=>
  by_cases hb:(X.fg g&& !X.low g)=true
  ·simp only[hb,if_true];try rfl
  ·simp only[hb,if_false,Bool.false_eq_true];by_cases pW:X.dP g=true
   ·simp only[pW,if_true]
   simp only[pW,if_false,Bool.false_eq_true];by_cases wM:(!(dst.elim [] (X.mask aP)).isEmpty)=true
   ·simp only[wM,if_true]
   simp only[wM,if_false,Bool.false_eq_true];cases aY (args.map (aX S.h depth)) with
   |none=>rfl
   |some auj=>
    simp only;by_cases ht:(dst.any (X.nf aP)&& !X.low g)=true
    ·simp only[ht,if_true];rfl
    ·simp only[ht,if_false,Bool.false_eq_true];cases hc:kV X (bt X) g (cG auj) with
     |none=>rfl
     |some x=>
      obtain⟨v,h,n⟩:=x;simp only;cases aX h depth v with
      |none=>rfl
      |some v'=>simp only[Option.map_some,key]
theorem C6(X:Env)(call:dH)(aP:FuncId)(ops:List Oper)(n0:Nat)(S0 S1:St)(q:Nat×Nat)(l:List (Nat×Nat)):fW X call aP ops n0 S0 S1 (q::l)=
  (((∃o,ops[q.1]?=some o∧zU (ops.map (·.dst)) o S1)∨(∃o T v,ops[q.1]?=some o∧cQ X call aP (ops.map (·.dst)) n0 0 (ops.take q.2) S0=some T∧
  aR X aP o S1.ev T.h (n0+q.1)=some (v,T.h,n0+q.1)∧ ∀d,o.dst=some d→S1.f d=v))∧fW X call aP ops n0 S0 S1 l):=by
 simp only[fW,List.forall_mem_cons]
def fv(r:Option (V×aG×Nat))(K:V→aG→Prop):Prop:=
 match r with
 |some (v,h,_)=>K v h
 |none=>False
theorem E9(v:V)(h:aG)(n:Nat)(K:V→aG→Prop):fv (some (v,h,n)) K=K v h:=rfl
theorem Fa(c:Prop)[Decidable c](a:Option (V×aG×Nat))(K:V→aG→Prop):fv (if c then a else none) K=(c∧(c→fv (mark a) K)):=by
 by_cases h:c<;>simp[h,fv,mark]
theorem C7(c:Prop)[Decidable c](a:Option (V×aG×Nat))(K:V→aG→Prop):fv (if c then none else a) K=(¬c∧(¬c→fv (mark a) K)):=by
 by_cases h:c<;>simp[h,fv,mark]
theorem C8{r r':Option (V×aG×Nat)}{K:V→aG→Prop}(h:r=r'):fv r K=fv r' K:=by rw[h]
theorem I3{l l':List (Nat×Nat)}{p:List (Nat×Nat)→Prop}(h:l=l'):SB l p=SB l' p:=by rw[h]
attribute [congr] C8 I3
theorem Qs(X:Env)(call:dH)(aP:FuncId)(ops:List Oper)(n0:Nat)(S0 S1:St):SB [] (fW X call aP ops n0 S0 S1)=True:=yb ..
def Pw(X:Env)(aP:FuncId)(o:Option Oper)(S1 T:St)(m:Nat):Prop:= ∃o' v,o=some o'∧aR X aP o' S1.ev T.h m=some (v,T.h,m)∧ ∀d,o'.dst=some d→S1.f d=v
def Ap(l:List Oper)(K:List Oper→Prop):Prop:=K l
theorem Fb(o:Oper)(l:List Oper)(K:List Oper→Prop):Ap (o::l) K=K (o::l):=rfl
theorem I4(K:List Oper→Prop):Ap [] K=K []:=rfl
theorem C9{l l':List Oper}{K:List Oper→Prop}(h:l=l'):Ap l K=Ap l' K:=by rw[h]
theorem I5{X:Env}{aP:FuncId}{o o':Option Oper}{S1 T:St}{m:Nat}(h:o=o'):Pw X aP o S1 T m=Pw X aP o' S1 T m:=by rw[h]
attribute [congr] C9 I5
def SC(o:Option Oper)(bm:List (Option Nat))(S1:St):Prop:= ∃o',o=some o'∧zU bm o' S1
theorem Mi(bm:List (Option Nat))(d:Option Nat)(op:Op)(ty:TypeId)(ps:String)(af:Array Edge)(S1:St):SC (some ⟨d,op,ty,ps,af,none⟩) bm S1=False:=by
 simp[SC,zU]
theorem Mj(bm:List (Option Nat))(d:Option Nat)(op:Op)(ty:TypeId)(ps:String)(af:Array Edge)(j:Nat)(want:Bool)(S1:St):SC (some ⟨d,op,ty,ps,af,some (j,want)⟩) bm S1=
  (match bm[j]? with|some (some d)=>S1.f d= .cg []∨S1.f d= .bool (!want)|_=>False):=by
 simp only[SC,zU,Option.some.injEq,exists_eq_left'];try rfl
theorem I6{o o':Option Oper}{bm:List (Option Nat)}{S1:St}(h:o=o'):SC o bm S1=SC o' bm S1:=by rw[h]
attribute [congr] I6
theorem Mk(X:Env)(aP:FuncId)(ops:List Oper)(n0:Nat)(S0 S1:St)(j p:Nat)(l:List (Nat×Nat)):SB ((j,p)::l) (fW X (bt X) aP ops n0 S0 S1)=
  ((SC (mark ops[j]?) (ops.map (·.dst)) S1∨Ap (mark (ops.take p)) fun aeq=>dq X aP (ops.map (·.dst)) n0 0 aeq S0 fun T=>Pw X aP (mark ops[j]?) S1 T (n0+j))∧SB l (fW X (bt X) aP ops n0 S0 S1)):=by
 unfold SB;rw[C6];congr 1;unfold SC;congr 1;unfold Ap mark dq Pw;apply propext;constructor
 ·rintro⟨o,T,v,h1,h2,h3,h4⟩;simp only at h2;simp only[h2];exact⟨o,v,h1,h3,h4⟩
 ·intro h;cases hT:cQ X (bt X) aP (ops.map (·.dst)) n0 0 (ops.take p) S0 with
  |none=>simp only[hT]at h;exact absurd h (fun h=>h)
  |some T=>
   simp only[hT]at h;obtain⟨o,v,h1,h3,h4⟩:=h;exact⟨o,T,v,h1,rfl,h3,h4⟩
theorem GV(X:Env)(aP:FuncId)(d:Nat)(t:TypeId)(a:Operand)(ty:TypeId)(ps:String)(af:Array Edge)(g:Option (Nat×Bool))(S1 T:St)(m:Nat):Pw X aP (some ⟨some d,.load t a,ty,ps,af,g⟩) S1 T m=
  ∃v,(match iP S1.f a with
   | .ptr id i f=>match T.h id with
    |some ob=>match ob.es[i]? with
     |some e=>match part (X.ti t) e.cells f with|some v=>some (v,T.h,m)|none=>none
     |none=>none
    |none=>none
   | .ref cs=>match part (X.ti t) cs 0 with|some v=>some (v,T.h,m)|none=>none
   |_=>none)=some (v,T.h,m)∧S1.f d=v:=by
 unfold Pw;rw[sW];apply propext;constructor
 ·rintro⟨o,v,h,h1,h2⟩;simp only[aa]at h;subst h;exact⟨v,h1,h2 d rfl⟩
 ·rintro⟨v,h1,h2⟩;refine⟨_,v,rfl,h1,fun d' h=> ?_⟩;simp only[aa]at h;subst h;exact h2
def UK(bm:List (Option Nat))(f:Nat→V)(j:Nat):V:=
 match bm[j]? with
 |some (some d)=>f d
 |_=> .bad
def UL(bm:List (Option Nat))(j:Nat):Nat:=
 match bm[j]? with
 |some (some d)=>d
 |_=>0
section
variable {X:Env} {fx:FuncId} {bm:List (Option Nat)} {n0 kk n:Nat} {r:List Oper} {ff:Nat→V} {hp:aG} {K:St→Prop} {d:Nat} {ty:TypeId} {ps:String} {af:Array Edge}
theorem Fc {o:Oper} {S:St} (hs:cw X (bt X) fx n0 kk o S=match aR X fx o S.ev S.h (n0+kk) with
  |some (v,h,_)=>some (({S with h:=h}:St).set o.dst v)
  |none=>none) (hg:o.guard=none):dq X fx bm n0 kk (o::r) S K=fv (aR X fx o S.ev S.h (n0+kk)) fun v h=>dq X fx bm n0 (kk+1) r ((⟨S.f,h,S.n⟩:St).set o.dst v) K:=by
 rw[pB,hg,hs];cases aR X fx o S.ev S.h (n0+kk) with
 |none=>rfl
 |some x=>obtain⟨v,h,n⟩:=x;rfl
theorem cU {o:Oper} (hs: ∀S,cw X (bt X) fx n0 kk o S=match aR X fx o S.ev S.h (n0+kk) with
  |some (v,h,_)=>some (({S with h:=h}:St).set o.dst v)
  |none=>none) (hg:o.guard=none) {d:Option Nat} (hd:o.dst=d):dq X fx bm n0 kk (o::r) ⟨ff,hp,n⟩ K=fv (mark (aR X fx o (iP ff) hp (n0+kk))) fun v h=>dq X fx bm n0 (kk+1) r ((⟨ff,h,n⟩:St).set d v) K:=by
 rw[show iP ff=(⟨ff,hp,n⟩:St).ev from sW ⟨ff,hp,n⟩];subst hd;exact Fc (hs _) hg
theorem I7(d:Nat)(op:Op)(j:Nat)(w:Bool):dq X fx bm n0 kk (⟨some d,op,ty,ps,af,some (j,w)⟩::r) ⟨ff,hp,n⟩ K=
  lj (mark (UK bm ff j)) w ff (UL bm j) (fun ff=>dq X fx bm n0 kk (⟨some d,op,ty,ps,af,none⟩::r) ⟨ff,hp,n⟩ K) (fun ff=>dq X fx bm n0 (kk+1) r ⟨aS ff d (.cg []),hp,n⟩ K):=by
 have key: ∀ff:Nat→V,dq X fx bm n0 kk (⟨some d,op,ty,ps,af,none⟩::r) ⟨ff,hp,n⟩ K=iT (cw X (bt X) fx n0 kk ⟨some d,op,ty,ps,af,some (j,w)⟩ ⟨ff,hp,n⟩) fun S1=>dq X fx bm n0 (kk+1) r S1 K:=fun ff=>by rw[pB];rfl
 simp only[key];rw[pB];unfold UK mark UL;simp only;cases bm[j]? with
 |none=>rfl
 |some x=>
  cases x with
  |none=>rfl
  |some x=>
   unfold lj;rfl
theorem Ml(d:Option Nat)(g:FuncId)(args:Array Operand)(gq:Array TypeId):dq X fx bm n0 kk (⟨d,.call ⟨.value (.func g),args,gq⟩,ty,ps,af,none⟩::r) ⟨ff,hp,n⟩ K=
  iT (mark (cX X (bt X) fx d g (args.toList.map (iP ff)) ⟨ff,hp,n⟩)) fun S1=>dq X fx bm n0 (kk+1) r ⟨S1.f,S1.h,S1.n⟩ K:=by
 rw[pB,show iP ff=(⟨ff,hp,n⟩:St).ev from sW ⟨ff,hp,n⟩];show iT (cX X (bt X) fx d g ([]++args.toList.map (⟨ff,hp,n⟩:St).ev++ []) ⟨ff,hp,n⟩) _=_;rw[List.nil_append,List.append_nil];rfl
theorem Mm(x'):dq X fx bm n0 kk (⟨(some d),.move x',ty,ps,af,none⟩::r) ⟨ff,hp,n⟩ K=
  fv (mark (some (((iP ff) x'),hp,(n0+kk)))) fun v h'=>dq X fx bm n0 (kk+1) r ⟨aS ff d v,h',n⟩ K:=cU (fun _=>rfl) rfl rfl
theorem Fe(x'):dq X fx bm n0 kk (⟨(some d),.assign x',ty,ps,af,none⟩::r) ⟨ff,hp,n⟩ K=
  fv (mark (some (((iP ff) x'),hp,(n0+kk)))) fun v h'=>dq X fx bm n0 (kk+1) r ⟨aS ff d v,h',n⟩ K:=cU (fun _=>rfl) rfl rfl
theorem Mn(c')(a')(b'):dq X fx bm n0 kk (⟨(some d),.pick c' a' b',ty,ps,af,none⟩::r) ⟨ff,hp,n⟩ K=
  fv (mark (match(iP ff) c' with| .bool t=>some ((if t then(iP ff) a' else(iP ff) b'),hp,(n0+kk))|_=>none)) fun v h'=>dq X fx bm n0 (kk+1) r ⟨aS ff d v,h',n⟩ K:=cU (fun _=>rfl) rfl rfl
theorem I8(t'):dq X fx bm n0 kk (⟨(some d),.alloc t',ty,ps,af,none⟩::r) ⟨ff,hp,n⟩ K=
  fv (mark (some ((.ptr (n0+kk) 0 0),aS hp (n0+kk) (some ⟨(X.ti t').size,[(X.ti t').zero],true⟩),(n0+kk)+1))) fun v h'=>dq X fx bm n0 (kk+1) r ⟨aS ff d v,h',n⟩ K:=cU (fun _=>rfl) rfl rfl
theorem Qt(t')(x'):dq X fx bm n0 kk (⟨(some d),.box t' x',ty,ps,af,none⟩::r) ⟨ff,hp,n⟩ K=
  fv (mark (if((iP ff) x').fits (X.ti t').size then some ((.ptr (n0+kk) 0 0),aS hp (n0+kk) (some ⟨(X.ti t').size,[(iP ff) x'],true⟩),(n0+kk)+1) else none)) fun v h'=>dq X fx bm n0 (kk+1) r ⟨aS ff d v,h',n⟩ K:=cU (fun _=>rfl) rfl rfl
theorem I9(t')(qI):dq X fx bm n0 kk (⟨(some d),.build t' qI,ty,ps,af,none⟩::r) ⟨ff,hp,n⟩ K=
  fv (mark (match(X.ti t').arr with
  |none=>if(X.ti t').pQ=[] then none else match qx (X.ti t').pQ (X.ti t').zero.cells (qI.toList.map fun p=>(p.1,(iP ff) p.2)) with
   |some cs=>some ((.agg cs),hp,(n0+kk))
   |none=>none
  |some m=>match qx ((List.range m).map fun i=>(i*(X.ti (X.ti t').elem).size,(X.ti (X.ti t').elem).size)) (X.ti t').zero.cells (qI.toList.map fun p=>(p.1,(iP ff) p.2)) with
   |some cs=>some ((.agg cs),hp,(n0+kk))
   |none=>none)) fun v h'=>dq X fx bm n0 (kk+1) r ⟨aS ff d v,h',n⟩ K:=cU (fun _=>rfl) rfl rfl
theorem yf(t')(n')(qI):dq X fx bm n0 kk (⟨(some d),.buildSlice t' n' qI,ty,ps,af,none⟩::r) ⟨ff,hp,n⟩ K=
  fv (mark (let e:=(X.ti t').elem
  if X.dX fx e then
   match kP (X.ti e).size (List.replicate n' (X.ti e).zero) (qI.toList.map fun p=>(p.1,(iP ff) p.2)) with
   |some es=>some ((.bJ (n0+kk) 0 n'),aS hp (n0+kk) (some ⟨(X.ti e).size,es,true⟩),(n0+kk)+1)
   |none=>none
  else if(some d).any (X.flat fx) then
   match gp (fun _=>none) (qI.toList.map fun p=>(p.1,(iP ff) p.2)) with
   |some (l,_)=>match kP (X.ti e).size (List.replicate n' (X.ti e).zero) l with
    |some es=>some ((.sl true es),hp,(n0+kk))
    |none=>none
   |none=>none
  else
  match gp hp (qI.toList.map fun p=>(p.1,(iP ff) p.2)) with
  |some (l,h)=>
   match kP (X.ti e).size (List.replicate n' (X.ti e).zero) l with
   |some es=>
    if(some d).any (X.nf fx) then some ((.bJ (n0+kk) 0 n'),aS (h) (n0+kk) (some ⟨(X.ti e).size,es,false⟩),(n0+kk)+1)
    else some ((.sl true es),h,(n0+kk))
   |none=>none
  |none=>none)) fun v h'=>dq X fx bm n0 (kk+1) r ⟨aS ff d v,h',n⟩ K:=cU (fun _=>rfl) rfl rfl
theorem Mo(t')(a'):dq X fx bm n0 kk (⟨(some d),.load t' a',ty,ps,af,none⟩::r) ⟨ff,hp,n⟩ K=
  fv (mark (match(iP ff) a' with
  | .ptr id i f=>match hp id with
   |some ob=>match ob.es[i]? with
    |some e=>match part (X.ti t') e.cells f with|some v=>some (v,hp,(n0+kk))|none=>none
    |none=>none
   |none=>none
  | .ref cs=>match part (X.ti t') cs 0 with|some v=>some (v,hp,(n0+kk))|none=>none
  |_=>none)) fun v h'=>dq X fx bm n0 (kk+1) r ⟨aS ff d v,h',n⟩ K:=cU (fun _=>rfl) rfl rfl
theorem Ja(t')(a')(x'):dq X fx bm n0 kk (⟨none,.store t' a' x',ty,ps,af,none⟩::r) ⟨ff,hp,n⟩ K=
  fv (mark (match(iP ff) a' with
  | .ptr id i f=>match hp id with
   |some ob=>
    match(if ob.bZ then some ((iP ff) x',hp) else kE hp ((iP ff) x')) with
    |some (v,h)=>match h id with
     |some ob=>match ob.es[i]? with
      |some e=>if v.fits (X.ti t').size&&decide (f+(X.ti t').size≤e.cells.length) then some (.bad,aS h id (some {ob with es:=ob.es.set i (e.put f v)}),(n0+kk)) else none
      |none=>none
     |none=>none
    |none=>none
   |none=>none
  |_=>none)) fun v h'=>dq X fx bm n0 (kk+1) r ⟨ff,h',n⟩ K:=cU (fun _=>rfl) rfl rfl
theorem Bm(x'):dq X fx bm n0 kk (⟨(some d),.nilCheck x',ty,ps,af,none⟩::r) ⟨ff,hp,n⟩ K=
  fv (mark (match(iP ff) x' with
  | .ptr id i f=>some ((.ptr id i f),hp,(n0+kk))
  | .ref cs=>some ((.ref cs),hp,(n0+kk))
  | .fn g a b=>some ((.fn g a b),hp,(n0+kk))
  |_=>none)) fun v h'=>dq X fx bm n0 (kk+1) r ⟨aS ff d v,h',n⟩ K:=cU (fun _=>rfl) rfl rfl
theorem Jb(YK)(t')(x')(y')(UM):dq X fx bm n0 kk (⟨(some d),.binOp YK t' x' y' UM,ty,ps,af,none⟩::r) ⟨ff,hp,n⟩ K=
  fv (mark (match mL (X.ti t').agg (X.ti t').pS YK ((iP ff) x') ((iP ff) y') with|some v=>some (v,hp,(n0+kk))|none=>none)) fun v h'=>dq X fx bm n0 (kk+1) r ⟨aS ff d v,h',n⟩ K:=cU (fun _=>rfl) rfl rfl
theorem Mp(YK)(UM)(x'):dq X fx bm n0 kk (⟨(some d),.unOp YK UM x',ty,ps,af,none⟩::r) ⟨ff,hp,n⟩ K=
  fv (mark (match TT YK ((iP ff) x') with|some v=>some (v,hp,(n0+kk))|none=>none)) fun v h'=>dq X fx bm n0 (kk+1) r ⟨aS ff d v,h',n⟩ K:=cU (fun _=>rfl) rfl rfl
theorem Da(UM)(d')(x'):dq X fx bm n0 kk (⟨(some d),.convert UM d' x',ty,ps,af,none⟩::r) ⟨ff,hp,n⟩ K=
  fv (mark (match(X.ti d').kind,(iP ff) x' with
  |some k,.int _ n=>some ((.int k (k.wrap n)),hp,(n0+kk))
  |none,v=>if(X.ti d').isStr=true∧v.isStr=false then(match elems hp v with
   |some (es,_)=>match bytesOf es with
    |some s=>some (.str s,hp,(n0+kk))
    |none=>none
   |none=>none) else zT (X.ti d').isStr (X.ti (X.ti d').elem).kind hp (n0+kk) v
  |_,_=>none)) fun v h'=>dq X fx bm n0 (kk+1) r ⟨aS ff d v,h',n⟩ K:=cU (fun _=>rfl) rfl rfl
theorem zE(t')(l')(c'):dq X fx bm n0 kk (⟨(some d),.makeSlice t' l' c',ty,ps,af,none⟩::r) ⟨ff,hp,n⟩ K=
  fv (mark (match(iP ff) l',(iP ff) c' with
  | .int _ n,.int _ m=>if 0≤n∧n≤m∧m*(X.ti (X.ti t').elem).bytes≤2^47∧m≤2^62 then
    some ((.bJ (n0+kk) 0 n.toNat),aS hp (n0+kk) (some ⟨(X.ti (X.ti t').elem).size,List.replicate n.toNat (X.ti (X.ti t').elem).zero,X.dX fx (X.ti t').elem⟩),(n0+kk)+1) else none
  |_,_=>none)) fun v h'=>dq X fx bm n0 (kk+1) r ⟨aS ff d v,h',n⟩ K:=cU (fun _=>rfl) rfl rfl
theorem Jc(t')(x')(Ff)(nh)(Mq):dq X fx bm n0 kk (⟨(some d),.slice t' x' Ff nh Mq,ty,ps,af,none⟩::r) ⟨ff,hp,n⟩ K=
  fv (mark (if((iP ff) x').isStr=(X.ti t').isStr∧((iP ff) x').tQ=(X.ti t').arr.isSome then
   match(iP ff) x' with
   | .sl _ es=>
    if es.all (fun e=>e.cells.length==(X.ti (X.ti t').elem).size) then
     match Mq with
     |none=>match bounds (Ff.map (iP ff)) (nh.map (iP ff)) es.length with|some (l,h)=>some ((.sl false ((es.take h).drop l)),hp,(n0+kk))|none=>none
     |some m=>match(iP ff) m,nh.map (iP ff) with
      | .int _ p,some (.int _ q)=>if p=q then(match bounds (Ff.map (iP ff)) (nh.map (iP ff)) es.length with|some (l,h)=>some ((.sl true ((es.take h).drop l)),hp,(n0+kk))|none=>none) else none
      |_,_=>none
    else none
   | .bJ id s n=>
    match Mq,hp id with
    |none,some ob=>if ob.k=(X.ti (X.ti t').elem).size then(match bounds (Ff.map (iP ff)) (nh.map (iP ff)) n with|some (l,h)=>some ((.bJ id (s+l) (h-l)),hp,(n0+kk))|none=>none) else none
    |some m,some ob=>if ob.k=(X.ti (X.ti t').elem).size then(match(iP ff) m,nh.map (iP ff) with
      | .int _ p,some (.int _ q)=>if p=q then(match bounds (Ff.map (iP ff)) (nh.map (iP ff)) n with|some (l,h)=>some ((.bJ id (s+l) (h-l)),hp,(n0+kk))|none=>none) else none
      |_,_=>none) else none
    |_,none=>none
   | .str s=>match Mq with
    |none=>match bounds (Ff.map (iP ff)) (nh.map (iP ff)) s.length with|some (l,h)=>some ((.str ((s.take h).drop l)),hp,(n0+kk))|none=>none
    |some _=>none
   | .ptr id 0 0=>match Mq,Ff,nh,(X.ti t').arr,hp id with
    |none,none,none,some m,some ob=>match ob.es with
     | [e]=>if e.cells.all V.jW=true∧e.cells.length=m∧(X.ti (X.ti t').elem).size=1∧0<m then some (.sl true e.cells,aS hp id none,(n0+kk)) else none
     |_=>none
    |_,_,_,_,_=>none
   |_=>none
  else none)) fun v h'=>dq X fx bm n0 (kk+1) r ⟨aS ff d v,h',n⟩ K:=cU (fun _=>rfl) rfl rfl
theorem zF(t')(x')(i'):dq X fx bm n0 kk (⟨(some d),.fieldAddr t' x' i',ty,ps,af,none⟩::r) ⟨ff,hp,n⟩ K=
  fv (mark (match(X.ti t').pQ[i']? with
  |some (off,_)=>match(iP ff) x' with
   | .ptr id j f=>some ((.ptr id j (f+off)),hp,(n0+kk))
   | .ref cs=>some ((.ref (cs.drop off)),hp,(n0+kk))
   |_=>none
  |none=>none)) fun v h'=>dq X fx bm n0 (kk+1) r ⟨aS ff d v,h',n⟩ K:=cU (fun _=>rfl) rfl rfl
theorem zG(t')(x')(YL):dq X fx bm n0 kk (⟨(some d),.indexAddr t' x' YL,ty,ps,af,none⟩::r) ⟨ff,hp,n⟩ K=
  fv (mark (match(iP ff) YL with
  | .int _ n=>match(iP ff) x' with
   | .sl _ es=>if(0≤n∧n<es.length)∧(X.ti t').arr=none then(match es[n.toNat]? with|some e=>if e.cells.length=(X.ti (X.ti t').elem).size then some ((.ref e.cells),hp,(n0+kk)) else none|none=>none) else none
   | .bJ id s l=>if(0≤n∧n<l)∧(X.ti t').arr=none then(match hp id with|some ob=>if ob.k=(X.ti (X.ti t').elem).size then some ((.ptr id (s+n.toNat) 0),hp,(n0+kk)) else none|none=>none) else none
   | .ptr id j f=>match(X.ti t').arr with
    |some m=>if 0≤n∧n<m then some ((.ptr id j (f+n.toNat*(X.ti (X.ti t').elem).size)),hp,(n0+kk)) else none
    |none=>none
   |_=>none
  |_=>none)) fun v h'=>dq X fx bm n0 (kk+1) r ⟨aS ff d v,h',n⟩ K:=cU (fun _=>rfl) rfl rfl
theorem Jd(t')(x')(YL):dq X fx bm n0 kk (⟨(some d),.index t' x' YL,ty,ps,af,none⟩::r) ⟨ff,hp,n⟩ K=
  fv (mark (match(iP ff) YL with
  | .int _ n=>match(iP ff) x' with
   | .str s=>if 0≤n∧(X.ti t').arr=none then(match s[n.toNat]? with|some b=>some ((.int .u8 b.toNat),hp,(n0+kk))|none=>none) else none
   | .agg cs=>match(X.ti t').arr with
    |some m=>if 0≤n∧n<m then(match part (X.ti (X.ti t').elem) cs (n.toNat*(X.ti (X.ti t').elem).size) with|some v=>some (v,hp,(n0+kk))|none=>none) else none
    |none=>none
   |_=>none
  |_=>none)) fun v h'=>dq X fx bm n0 (kk+1) r ⟨aS ff d v,h',n⟩ K:=cU (fun _=>rfl) rfl rfl
theorem Je(t')(x')(f'):dq X fx bm n0 kk (⟨(some d),.field t' x' f',ty,ps,af,none⟩::r) ⟨ff,hp,n⟩ K=
  fv (mark (match(iP ff) x' with
  | .agg cs=>match(X.ti t').pQ[f']? with
   |some (k,_)=>match part (X.ti ty) cs k with|some v=>some (v,hp,(n0+kk))|none=>none
   |none=>none
  |_=>none)) fun v h'=>dq X fx bm n0 (kk+1) r ⟨aS ff d v,h',n⟩ K:=cU (fun _=>rfl) rfl rfl
theorem Db(x')(i'):dq X fx bm n0 kk (⟨(some d),.extract x' i',ty,ps,af,none⟩::r) ⟨ff,hp,n⟩ K=
  fv (mark (match(iP ff) x' with
  | .cg vs=>match vs[i']? with|some v=>some (v,hp,(n0+kk))|none=>none
  |_=>none)) fun v h'=>dq X fx bm n0 (kk+1) r ⟨aS ff d v,h',n⟩ K:=cU (fun _=>rfl) rfl rfl
theorem Bn(qZ)(Bo):dq X fx bm n0 kk (⟨(some d),.call ⟨.builtin .len,qZ,Bo⟩,ty,ps,af,none⟩::r) ⟨ff,hp,n⟩ K=
  fv (mark (match qZ.toList.map (iP ff) with
  | [x]=>if x.isStr=(X.ti (Bo.getD 0 0)).isStr then(match AW x with|some n=>some ((.int .i64 n),hp,(n0+kk))|none=>none) else none
  |_=>none)) fun v h'=>dq X fx bm n0 (kk+1) r ⟨aS ff d v,h',n⟩ K:=cU (fun _=>rfl) rfl rfl
theorem Bp(qZ)(UM):dq X fx bm n0 kk (⟨(some d),.call ⟨.builtin .max,qZ,UM⟩,ty,ps,af,none⟩::r) ⟨ff,hp,n⟩ K=
  fv (mark (match qZ.toList.map (iP ff) with
  | [.int k a,.int k' b]=>if k=k' then some ((.int k (if b>a then b else a)),hp,(n0+kk)) else none
  |_=>none)) fun v h'=>dq X fx bm n0 (kk+1) r ⟨aS ff d v,h',n⟩ K:=cU (fun _=>rfl) rfl rfl
theorem wE(qZ)(Bo):dq X fx bm n0 kk (⟨(some d),.call ⟨.builtin .append,qZ,Bo⟩,ty,ps,af,none⟩::r) ⟨ff,hp,n⟩ K=
  fv (mark (match qZ.toList.map (iP ff) with
  | [s,x]=>match elems hp s,elems hp x with
   |some (es,kb),some (xs,kx)=>
    let e:=(X.ti (Bo.getD 0 0)).elem;let kp:=X.dX fx e
    if((kb||kx)&& !kp)|| !(xs.all fun v=>v.cells.length==(X.ti e).size)||(X.ti (Bo.getD 1 0)).kind.isSome then none else
    if(es.length+xs.length)*(X.ti e).bytes≤2^47∧es.length+xs.length≤2^62 then
     match s with
     | .sl true []=>some ((.bJ (n0+kk) 0 xs.length),aS hp (n0+kk) (some ⟨(X.ti e).size,xs,kp⟩),(n0+kk)+1)
     | .sl true _=>if kx|| !(es.all fun v=>v.cells.length==(X.ti e).size) then none else some ((.sl false (es++xs)),hp,(n0+kk))
     | .bJ id _ _=>match hp id with
      |some ob=>if ob.k=(X.ti e).size then some ((.bJ (n0+kk) 0 (es.length+xs.length)),aS (aS hp id none) (n0+kk) (some ⟨(X.ti e).size,es++xs,kp⟩),(n0+kk)+1) else none
      |none=>none
     |_=>none
    else none
   |_,_=>none
  |_=>none)) fun v h'=>dq X fx bm n0 (kk+1) r ⟨aS ff d v,h',n⟩ K:=cU (fun _=>rfl) rfl rfl
theorem zH(qZ)(Bo):dq X fx bm n0 kk (⟨(some d),.call ⟨.builtin .copy,qZ,Bo⟩,ty,ps,af,none⟩::r) ⟨ff,hp,n⟩ K=
  fv (mark (match qZ.toList.map (iP ff) with
  | [.bJ id s l,x]=>match hp id,elems hp x with
   |some ob,some (xs,kx)=>
    if x.isStr||(kx&& !ob.bZ)|| !(xs.all fun v=>v.cells.length==ob.k) then none else
    if s+l≤ob.es.length∧ob.k=(X.ti (X.ti (Bo.getD 0 0)).elem).size then
     some ((.int .i64 (min xs.length l:Nat)),aS hp id (some {ob with es:=ob.es.take s++xs.take (min xs.length l)++ob.es.drop (s+min xs.length l)}),(n0+kk))
    else none
   |_,_=>none
  |_=>none)) fun v h'=>dq X fx bm n0 (kk+1) r ⟨aS ff d v,h',n⟩ K:=cU (fun _=>rfl) rfl rfl
theorem UN(t:Nat):iP ff (.tmp t)=ff t:=rfl
theorem Mr(v:Value):iP ff (.const v)=pj v:=rfl
theorem YM(g:FuncId):iP ff (.func g)= .fn g [] []:=rfl
theorem Ms(S:St)(t:Nat)(v:V):S.set (some t) v=⟨aS S.f t v,S.h,S.n⟩:=rfl
end
theorem Mt(X:Env)(f key:Nat)(S:St):jH X f key S=match X.norm f key with|some N=>N.run S|none=>some S:=rfl
theorem Mu(n:Nat)(w:V):qD (some n) (.sl true []) w= .bJ n 0 0:=rfl
theorem Jf(v w:V):qD none v w=w:=by unfold qD;split<;>rfl
theorem Qu(o:Option Nat)(es:List V)(w:V):qD o (.sl false es) w=w:=rfl
theorem Mv(o:Option Nat)(k:IntKind)(n:Int)(w:V):qD o (.int k n) w=w:=rfl
theorem Jg(o:Option Nat)(b:Bool)(w:V):qD o (.bool b) w=w:=rfl
theorem Mw(o:Option Nat)(b:List UInt8)(w:V):qD o (.str b) w=w:=rfl
theorem Mx(o:Option Nat)(i s l:Nat)(w:V):qD o (.bJ i s l) w=w:=rfl
theorem My(o:Option Nat)(i s l:Nat)(w:V):qD o (.ptr i s l) w=w:=rfl
theorem Qv(o:Option Nat)(g:FuncId)(a b:List V)(w:V):qD o (.fn g a b) w=w:=rfl
section
variable (S:St) (N:Norm) (hx:aG)
theorem Mz(k:IntKind)(n:Int):wZ S N hx (.int k n)= .int k n:=rfl
theorem Jh(b:Bool):wZ S N hx (.bool b)= .bool b:=rfl
theorem MA(b:List UInt8):wZ S N hx (.str b)= .str b:=rfl
theorem Qw(c:Bool)(es:List V):wZ S N hx (.sl c es)= .sl false es:=rfl
theorem Qx(g:FuncId)(a b:List V):wZ S N hx (.fn g a b)= .fn g (a.map (AX S N hx)) (b.map (AX S N hx)):=rfl
theorem MB(i s l:Nat):wZ S N hx (.bJ i s l)=fixC S N hx (.bJ i s l):=rfl
theorem MD(i s l:Nat):wZ S N hx (.ptr i s l)=fixC S N hx (.ptr i s l):=rfl
theorem ME(k:IntKind)(n:Int):fixC S N hx (.int k n)= .int k n:=rfl
theorem Ji(b:Bool):fixC S N hx (.bool b)= .bool b:=rfl
theorem Qy(c:Bool)(es:List V):fixC S N hx (.sl c es)= .sl false es:=rfl
theorem MF(id s l:Nat):fixC S N hx (.bJ id s l)=match look S id N.roots with
  |some j=> .bJ j s l
  |none=>match aX hx depth (.bJ id s l) with
   |some v=>v
   |none=> .bad:=rfl
theorem MH(id i f:Nat):fixC S N hx (.ptr id i f)=match look S id N.roots with
  |some j=> .ptr j i f
  |none=> .bad:=rfl
theorem Fg(id:Nat)(ob:Ob):w7 S N hx id (some ob)=if ob.bZ=true then
   match ob.es with
   | [e]=>some ⟨ob.k,[B6 S N hx id e],true⟩
   |es=>if es.all V.HK=true then some ob else none
  else some ob:=rfl
end
theorem MJ(t:List Nat)(r:List Gr)(n:Nat)(S:St):(⟨t,r,false,n⟩:Norm).first S=true:=rfl
theorem Jj(t:List Nat)(a:Gr)(r:List Gr)(n:Nat)(S:St):(⟨t,a::r,true,n⟩:Norm).first S=(a.new==0&& (a.loc.val S).root==some 0):=rfl
theorem MK(i s l:Nat):(V.bJ i s l).root=some i:=rfl
theorem ML(i:Nat):(V.ptr i 0 0).root=some i:=rfl
theorem Qz(c:Bool)(es:List V):(V.sl c es).root=none:=rfl
theorem Jk(i:Nat):(V.ptr i 0 0).boxed=some i:=rfl
theorem QA(S:St)(t:Nat):(Loc.box t).val S=S.f t:=rfl
theorem MM(S:St)(t:Nat):(Loc.slot t).val S=S.f t:=rfl
theorem MN(S:St)(t j:Nat):(Loc.cell t j).val S=match S.f t with
  | .ptr id 0 0=>match S.h id with
   |some ob=>match ob.es with
    | [e]=>e.cells.getD j .bad
    |_=> .bad
   |none=> .bad
  |_=> .bad:=rfl
theorem MO(S:St)(id:Nat):look S id []=none:=rfl
theorem Jl(S:St)(id:Nat)(a:Gr)(r:List Gr):look S id (a::r)=if(a.loc.val S).root=some id then some a.new else look S id r:=rfl
theorem Dc(t:Nat):rP t []=none:=rfl
theorem Bq(t:Nat)(a:Gr)(r:List Gr):rP t (a::r)=if a.loc= .slot t then some a.new else rP t r:=rfl
theorem Dd(S:St)(id j:Nat):kB S id j []=none:=rfl
theorem De(S:St)(id j t n k:Nat)(kp:Bool)(r:List Gr):kB S id j (⟨.box t,n,k,kp⟩::r)=kB S id j r:=rfl
theorem Br(S:St)(id j t n k:Nat)(kp:Bool)(r:List Gr):kB S id j (⟨.slot t,n,k,kp⟩::r)=kB S id j r:=rfl
theorem Bs(S:St)(id j t j' n k:Nat)(kp:Bool)(r:List Gr):kB S id j (⟨.cell t j',n,k,kp⟩::r)=if j'=j∧(S.f t).boxed=some id then some n else kB S id j r:=rfl
theorem Jm(h:aG):cP h []=h:=rfl
theorem Fh(h:aG)(id:Nat)(r:List (Option Nat)):cP h (some id::r)=aS (cP h r) id none:=rfl
theorem Fi(h:aG)(r:List (Option Nat)):cP h (none::r)=cP h r:=rfl
theorem Bt(id:Nat)(ops:Array Oper)(d:Bool):eY (.region id ops d)=id:=rfl
theorem Jn(a b:Code):eY (.seq a b)=eY a:=rfl
theorem Jo(h:aG):kq h []=some ([],h):=rfl
theorem Fj(h:aG)(v:V)(r:List V):kq h (v::r)=match kE h v with
  |some (v',h1)=>match kq h1 r with
   |some (r',h2)=>some (v'::r',h2)
   |none=>none
  |none=>none:=rfl
theorem QB(n:Nat)(m:Mask)(v:V):oO n m v=pV (fun i j c=>match iz n m i j with
 |some (q,_)=>match c with
  | .sl _ es=> .bJ q 0 es.length
  |_=> .bad
 |none=>c) v:=rfl
theorem Jp(F:Nat→Nat→V→V)(vs:List V):pV F (.cg vs)= .cg (lL (fun i v=>oz (F i) v) 0 vs):=rfl
theorem MP(F:Nat→Nat→V→V)(vs:List V):pV F (.agg vs)= .agg (lL (F 0) 0 vs):=rfl
theorem Jq(F:Nat→V→V)(vs:List V):oz F (.agg vs)= .agg (lL F 0 vs):=rfl
theorem QC(F:Nat→V→V)(c:Bool)(es:List V):oz F (.sl c es)=F 0 (.sl c es):=rfl
theorem MQ(F:Nat→V→V)(i s l:Nat):oz F (.bJ i s l)=F 0 (.bJ i s l):=rfl
theorem MR(F:Nat→V→V)(k:IntKind)(n:Int):oz F (.int k n)=F 0 (.int k n):=rfl
theorem Jr(F:Nat→V→V)(b:Bool):oz F (.bool b)=F 0 (.bool b):=rfl
theorem MS(F:Nat→V→V)(n:Nat):lL F n []=[]:=rfl
theorem Js(F:Nat→V→V)(n:Nat)(c:V)(cs:List V):lL F n (c::cs)=F n c::lL F (n+1) cs:=rfl
theorem Fk(n i j:Nat):iz n [] i j=none:=rfl
theorem Df(n i j a b:Nat)(t:TypeId)(r:Mask):iz n ((a,b,t)::r) i j=if a=i∧b=j then some (n,t) else iz (n+1) r i j:=rfl
theorem Fl(vs:List V)(i j:Nat):(V.cg vs).cellAt i j=(vs.getD i .bad).cells.getD j .bad:=rfl
theorem Fm(vs:List V)(i j:Nat):(V.agg vs).cellAt i j=if i=0 then vs.getD j .bad else .bad:=rfl
theorem QD(X:Env)(h:aG)(v:V)(m:Mask):Eb X h v m=tR X h (cP h (dd v m)) v m:=rfl
theorem QE(X:Env)(h hx:aG)(v:V)(m:Mask):tR X h hx v m=if(oN (dd v m)&&m.all (fun q=>(rowAt X h hx q.2.2 (v.cellAt q.1 q.2.1)).isSome))=true then some (pV (gh X h hx m) v) else none:=rfl
theorem Fo(X:Env)(g:FuncId)(k:Nat)(R:V):jB X g k R=qC X (X.dX g) R 1 (X.dI g) (aS (fun _=>none) 0 (some ⟨k,[oO 1 (X.dI g) R],true⟩)):=rfl
theorem MT(X:Env)(M:Mask)(v:V)(h:aG):wX X M v h=match h 0 with
 |some ja=>
  match ja.es with
  | [e']=>if ja.bZ then
    match Eb X (aS h 0 none) (kU e' v) M with
    |some (.cg (r::rs))=>some (ja.k,r,rs)
    |_=>none
   else none
  |_=>none
 |none=>none:=rfl
theorem Jt(e:V)(vs:List V):kU e (.cg vs)= .cg (e::vs):=rfl
theorem Ju(e:V)(vs:List V):kU e (.agg vs)= .cg [e,.agg vs]:=rfl
theorem Jv(e:V)(k:IntKind)(n:Int):kU e (.int k n)= .cg [e,.int k n]:=rfl
theorem Jw(e:V)(i s l:Nat):kU e (.bJ i s l)= .cg [e,.bJ i s l]:=rfl
theorem Aq(a vs:List V):su (.cg a) vs= .cg vs:=rfl
theorem Fp(v:V)(vs:List V):wY (.cg (v::vs))=v:=rfl
theorem Fq(v:V)(vs:List V):Gv (.cg (v::vs))=vs:=rfl
theorem Jx(X:Env)(aP:FuncId)(dst:Option Nat)(g:FuncId):lS X aP dst g=X.dI g++(dst.elim [] (X.mask aP)).map fun q=>(q.1+1,q.2.1,q.2.2):=rfl
theorem Ft(v:V)(m:Mask):dd v m=m.map fun q=>(v.cellAt q.1 q.2.1).src:=rfl
theorem Fu(X:Env)(h hx:aG)(m:Mask)(i j:Nat)(c:V):gh X h hx m i j c=match iz 0 m i j with
 |some (_,t)=>match rowAt X h hx t c with
  |some es=> .sl false es
  |none=> .bad
 |none=>match aX hx depth c with
  |some c'=>c'.fo
  |none=> .bad:=rfl
theorem Jy(X:Env)(h hx:aG)(t:TypeId)(id s l:Nat):rowAt X h hx t (.bJ id s l)=match h id with
  |some ob=>if ob.k=(X.ti t).size∧s+l≤ob.es.length then match aY (((ob.es.drop s).take l).map (aX hx depth)) with
    |some es=>some (cG es)
    |none=>none
   else none
  |none=>none:=rfl
theorem QF(i s l:Nat):(V.bJ i s l).src=some i:=rfl
theorem Gr.YN(S:St)(N:Norm)(hx:aG)(loc:Loc)(new k:Nat)(bZ:Bool):(⟨loc,new,k,bZ⟩:Gr).ob S N hx=Ec S N hx k bZ (loc.val S):=rfl
theorem MU(S:St)(N:Norm)(hx:aG)(k:Nat)(bZ:Bool):Ec S N hx k bZ (.sl true [])=some ⟨k,[],bZ⟩:=rfl
theorem MV(S:St)(N:Norm)(hx:aG)(k:Nat)(bZ:Bool)(id s l:Nat):Ec S N hx k bZ (.bJ id s l)=w7 S N hx id (S.h id):=rfl
theorem MW(S:St)(N:Norm)(hx:aG)(k:Nat)(bZ:Bool)(id:Nat):Ec S N hx k bZ (.ptr id 0 0)=w7 S N hx id (S.h id):=rfl
theorem Fv:oN []=true:=rfl
theorem Dg(a:Option Nat)(r:List (Option Nat)):oN (a::r)=(r.all (differ a)&&oN r):=rfl
theorem Dh(a b:Nat):differ (some a) (some b)=(a !=b):=rfl
theorem Bu(b:Option Nat):differ b none=true:=by cases b<;>rfl
attribute [simp ↓] CV IS Mb CW IT Mc Bj EW IU qY yd Qn Qo UH UI Qp Mf UJ Me I7 Ml Mm Fe Mn I8 Qt I9 yf Mo Ja Bm Jb Mp Da zE Jc zF zG Jd Je Db Bn Bp wE zH
attribute [simp ↓] GV
attribute [simp] E5 E6 E7 E8 Mi Mj Qs Mk Fb I4 GV EX C0 Bk EZ IV EY Md IW Qq IZ Qr
attribute [simp] V.qB.eq_1 V.qB.eq_2 V.qB.eq_3 V.B4.eq_1 V.B4.eq_2 V.scalar.eq_1 V.scalar.eq_2 V.qK.eq_1 V.qK.eq_2 V.leaf.eq_1 V.leaf.eq_2 V.leaf.eq_3 V.leaf.eq_4 V.leaf.eq_5 V.leaf.eq_6 aX.eq_1 aX.eq_2 aX.eq_3 aX.eq_4 aX.eq_5 aX.eq_6 aX.eq_7 aX.eq_8 aX.eq_9 aX.eq_10 aX.eq_11 cG.eq_1 cG.eq_2 V.fo.eq_1 V.fo.eq_2 V.fo.eq_3 V.fo.eq_4 UK.eq_1 UL.eq_1 depth.eq_1
attribute [simp] Mt Mu Jf Qu Mv Jg Mw Mx My Qv Mz Jh MA Qw Qx MB MD ME Ji Qy MF MH Fg Gr.YN MU MV MW Fv Dg Dh Bu Norm.run.eq_1 Norm.mM.eq_1 MJ Jj fixF.eq_1 fixF.eq_2 Ed.eq_1 Ed.eq_2 B6.eq_1 sv.eq_1 sv.eq_2 MK ML Qz Jk QA MM MN MO Jl Dc Bq Dd De Br Bs Jm Fh Fi Bt Jn Jo Fj QB qC.eq_1 qC.eq_2 tS.eq_1 Jp MP Jq QC MQ MR Jr MS Js Fk Df Fl Fm QD QE Fo MT Jt Ju Jv Jw Aq Fp Fq Jx Ft Fu Jy QF IY
attribute [simp] Ql E9 UN Mr YM Ms
attribute [simp 700] CX Fa C7
attribute [simp 500] C1 E3 CZ
end Go.Abs
