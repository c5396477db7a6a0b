/- Part of a proof: engine A3. -/
import Derived.Test.YtejohpnpnaljdaaGreatM00
set_option linter.all false
set_option maxRecDepth 20000
set_option maxHeartbeats 20000000
namespace Go.Abs
open Go
section
variable (X:Env) (f:FuncId) (S:St)
theorem XF:ev X f .skip S=some (.normal,S):=by rw[zQ];rfl
theorem XG(id:Nat):ev X f (.exit id) S=some (.exit id,S):=by rw[zQ];rfl
theorem aeo:ev X f .ret S=some (.ret,S):=by rw[zQ];rfl
open Classical in
theorem Oh(id:Nat)(ops:Array Oper)(d:Bool):ev X f (.region id ops d) S=
  (match mj X f (2*id) S with
  |some S=>(match eu X (cy X) f (ops.toList.map (·.dst)) S.n 0 ops.toList {S with n:=S.n+ops.size} with
   |some S1=>if jA X (cy X) f ops.toList S.n {S with n:=S.n+ops.size} S1 (X.rq f id) then some (.normal,S1) else none
   |none=>none)
  |none=>none):=by rw[zQ];rfl
theorem aep(a b:Code):ev X f (.seq a b) S=(match ev X f a S with|some (.normal,S1)=>ev X f b S1|r=>r):=by rw[zQ];rfl
theorem XH(x:Operand)(a b:Code):ev X f (.cond x a b) S=(match S.ev x with| .bool t=>if t then ev X f a S else ev X f b S|_=>none):=by rw[zQ];rfl
theorem Sj(id:Nat)(b:Code):ev X f (.block id b) S=(match ev X f b S with|some (.exit i,S1)=>if i=id then some (.normal,S1) else some (.exit i,S1)|r=>r):=by rw[zQ];rfl
theorem Ft(b:Code):ev X f (.loop b) S=(match mj X f (2*gZ b+1) S with|some S=>(match ev X f b S with|some (.normal,S1)=>ev X f (.loop b) S1|r=>r)|none=>none):=by rw[zQ];rfl
end
theorem B1(X:Env)(call:iz)(bO:FuncId)(ops:List Oper)(n0:Nat)(S0 S1:St):jA X call bO ops n0 S0 S1 []=True:=by
 simp[jA]
theorem Oi{α:Type}(f:Nat->α)(t:Nat)(v:α)(u:Nat):aO f t v u=if u=t then v else f u:=rfl
theorem Sk{X:Env}{g:FuncId}{fn:Func}{b:Code}(hf:X.P.funcs[g]?=some fn)(hb:fn.body=some b)(args:List V)(h:aY)(k:Nat):
  cy X g args h k=so X fn.results.toList (ev X g b ⟨mS args,h,k⟩):=by
 unfold cy cW;simp only[hf,hb]
theorem Oj(cs:List V):(V.agg cs).cells=cs:=rfl
theorem Ol(k:IntKind)(n:Int):(V.int k n).cells=[.int k n]:=rfl
theorem Kv(b:Bool):(V.bool b).cells=[.bool b]:=rfl
theorem Sl(c:Bool)(es:List V):(V.sl c es).cells=[.sl c es]:=rfl
theorem Om(i s l:Nat):(V.bU i s l).cells=[.bU i s l]:=rfl
theorem On(i s l:Nat):(V.ptr i s l).cells=[.ptr i s l]:=rfl
attribute [simp] Oj Ol Kv Sl Om On
attribute [simp] B1
theorem Oo(args:List V)(t:Nat):mS args t=(match args[t]? with|some v=>v|none=> .bad):=rfl
attribute [simp] Oi Oo St.new.eq_1 sm.eq_1 sm.eq_2 tX.eq_1 tX.eq_2 tX.eq_3 tX.eq_4 tX.eq_5 tX.eq_6 Go.Abs.part.eq_1 Bm.eq_1 Bm.eq_2 Bm.eq_3 Bm.eq_4 elems.eq_1 elems.eq_2 elems.eq_3 elems.eq_4 pX.eq_1 pX.eq_2 pX.eq_3 pX.eq_4 pX.eq_5 pX.eq_6 pX.eq_7 pX.eq_8 pX.eq_9 pX.eq_10 pX.eq_11 pX.eq_12 pX.eq_13 pX.eq_14 pX.eq_15 pX.eq_16 pX.eq_17 xF.eq_1 xF.eq_2 unV.eq_1 unV.eq_2 unV.eq_3 Mm.eq_1 Mm.eq_2 Mm.eq_3 Mm.eq_4 Mm.eq_5 Mm.eq_6 Mm.eq_7 Mm.eq_8 V.eqv.eq_1 V.eqv.eq_2 V.eqv.eq_3 V.eqv.eq_4 vZ.eq_1 vZ.eq_2 vZ.eq_3 V.put.eq_1 V.put.eq_2 jG.eq_1 jG.eq_2 jG.eq_3 jG.eq_4 jG.eq_5 tL.eq_1 tL.eq_2 oU.eq_1 oU.eq_2 V.fits.eq_1 V.fits.eq_2 V.fits.eq_3 V.fits.eq_4 qu.eq_1 qu.eq_2 fj.eq_1 fj.eq_2 qm.eq_1 qm.eq_2 lz.eq_1 lz.eq_2 V.oR.eq_1 V.oR.eq_2 V.oR.eq_3 V.oR.eq_4 V.oR.eq_5 V.oR.eq_6 V.oR.eq_7 V.isStr.eq_1 V.isStr.eq_2 TI.isStr.eq_1 cn.eq_1 cn.eq_2 cn.eq_3 k9.eq_1 so.eq_1 so.eq_2 so.eq_3 Q7.eq_1 Q7.eq_2 Q7.eq_3 bounds.eq_1 nat?.eq_1 nat?.eq_2
def mark{α:Type}(x:α):α:=x
theorem XI{α:Type}(x:α):mark x=x:=rfl
def Wp(X:Env)(f:FuncId)(c:Code)(S:St)(Q:Ex->St->Prop):Prop:= ∃e S1,ev X f c S=some (e,S1)/\Q e S1
def XJ(X:Env)(f:FuncId)(b:Code)(Q:Ex->St->Prop):Ex->St->Prop
 | .normal,S=>Wp X f b S Q
 |e,S=>Q e S
def Oq(id:Nat)(Q:Ex->St->Prop):Ex->St->Prop
 | .exit i,S=>if i=id then Q .normal S else Q (.exit i) S
 |e,S=>Q e S
def kI(r:Option St)(K:St->Prop):Prop:=
 match r with
 |some S=>K S
 |none=>False
def MR(X:Env)(f:FuncId)(key:Nat)(Inv:Nat->St->Prop)(i N:Nat)(Q:Ex->St->Prop):Ex->St->Prop
 | .normal,S=>i<N/\kI (mark (mj X f key S)) (Inv (i+1))
 |e,S=>Q e S
section
variable {X:Env} {f:FuncId} {S:St} {Q:Ex->St->Prop}
theorem Hu(b:Code):XJ X f b Q .normal S=Wp X f b S Q:=rfl
theorem Ot(b:Code)(i:Nat):XJ X f b Q (.exit i) S=Q (.exit i) S:=rfl
theorem Sm(b:Code):XJ X f b Q .ret S=Q .ret S:=rfl
theorem Hv(id:Nat):Oq id Q .normal S=Q .normal S:=rfl
theorem Ou(id i:Nat):Oq id Q (.exit i) S=(if i=id then Q .normal S else Q (.exit i) S):=rfl
theorem Sn(id:Nat):Oq id Q .ret S=Q .ret S:=rfl
theorem Fu(key:Nat)(Inv:Nat->St->Prop)(i N:Nat):MR X f key Inv i N Q .normal S=(i<N/\kI (mark (mj X f key S)) (Inv (i+1))):=rfl
theorem Kw(key:Nat)(Inv:Nat->St->Prop)(i N k:Nat):MR X f key Inv i N Q (.exit k) S=Q (.exit k) S:=rfl
theorem Ov(key:Nat)(Inv:Nat->St->Prop)(i N:Nat):MR X f key Inv i N Q .ret S=Q .ret S:=rfl
theorem Kx(K:St->Prop):kI (some S) K=K S:=rfl
theorem Ky(c:Prop)[Decidable c](a:Option St)(K:St->Prop):kI (if c then a else none) K=(c/\(c->kI (mark a) K)):=by
 by_cases h:c<;>simp[h,kI,mark]
theorem Hw(c:Prop)[Decidable c](a:Option St)(K:St->Prop):kI (if c then none else a) K=(¬c/\(¬c->kI (mark a) K)):=by
 by_cases h:c<;>simp[h,kI,mark]
def fW(X:Env)(bO:FuncId)(cG:List (Option Nat))(n0 k:Nat)(ops:List Oper)(S:St)(K:St->Prop):Prop:=kI (eu X (cy X) bO cG n0 k ops S) K
def oy(v:V)(want:Bool)(ff:Nat->V)(_dj:Nat)(p q:(Nat->V)->Prop):Prop:=
 match v with
 | .bool b=>if b=want then p ff else q ff
 | .de []=>q ff
 |_=>False
theorem Ow(ff:Nat->V)(dj:Nat)(p q:(Nat->V)->Prop):oy (.bool true) true ff dj p q=p ff:=by simp[oy]
theorem So(ff:Nat->V)(dj:Nat)(p q:(Nat->V)->Prop):oy (.bool false) true ff dj p q=q ff:=by simp[oy]
theorem Kz(ff:Nat->V)(dj:Nat)(p q:(Nat->V)->Prop):oy (.bool false) false ff dj p q=p ff:=by simp[oy]
theorem Ox(ff:Nat->V)(dj:Nat)(p q:(Nat->V)->Prop):oy (.bool true) false ff dj p q=q ff:=by simp[oy]
theorem KA(w:Bool)(ff:Nat->V)(dj:Nat)(p q:(Nat->V)->Prop):oy (.de []) w ff dj p q=q ff:=rfl
theorem Hx{ff:Nat->V}{dj:Nat}{v:V}(h:ff dj=v):aO ff dj v=ff:=by
 funext u;unfold aO;split
 ·rename_i e;rw[e,h]
 ·rfl
theorem KB{b:Bool}{ff:Nat->V}{dj:Nat}{p q:(Nat->V)->Prop}(h:ff dj= .bool b):oy (.bool b) true ff dj p q=((b=true->p (aO ff dj (.bool true)))/\(b=false->q (aO ff dj (.bool false)))):=by
 cases b<;>rw[Hx h]<;>simp[oy]
theorem Hy{b:Bool}{ff:Nat->V}{dj:Nat}{p q:(Nat->V)->Prop}(h:ff dj= .bool b):oy (.bool b) false ff dj p q=((b=false->p (aO ff dj (.bool false)))/\(b=true->q (aO ff dj (.bool true)))):=by
 cases b<;>rw[Hx h]<;>simp[oy]
theorem Sp(cG:List (Option Nat))(n0 k:Nat)(K:St->Prop):fW X f cG n0 k [] S K=K S:=rfl
theorem sA(cG:List (Option Nat))(n0 k:Nat)(o:Oper)(r:List Oper)(K:St->Prop):fW X f cG n0 k (o::r) S K=
  match o.guard with
  |none=>kI (dH X (cy X) f n0 k o S) fun S1=>fW X f cG n0 (k+1) r S1 K
  |some (j,want)=>match cG[j]? with
   |some (some d)=>oy (S.f d) want S.f d (fun _=>kI (dH X (cy X) f n0 k o S) fun S1=>fW X f cG n0 (k+1) r S1 K) (fun _=>fW X f cG n0 (k+1) r (S.set o.dst (.de [])) K)
   |_=>False:=by
 unfold fW;rw[eu];cases o.guard with
 |none=>simp only;cases dH X (cy X) f n0 k o S<;>rfl
 |some p=>
  obtain⟨j,want⟩:=p;simp only;cases cG[j]? with
  |none=>rfl
  |some x=>
   cases x with
   |none=>rfl
   |some d=>
    simp only;cases hv:S.f d with
    |bool b=>
     simp only[oy];split
     ·cases dH X (cy X) f n0 k o S<;>rfl
     ·rfl
    |de l=>cases l<;>rfl
    |_=>rfl
theorem B2{c:Code}{e:Ex}{S1:St}(h:ev X f c S=some (e,S1)):Wp X f c S Q=Q e S1:=by
 apply propext;constructor
 ·rintro⟨e',S',h',hq⟩;rw[h]at h';simp only[au,aF]at h';obtain⟨rfl,rfl⟩:=h';exact hq
 ·intro hq;exact⟨e,S1,h,hq⟩
theorem XK:Wp X f .skip S Q=Q .normal S:=B2 (XF X f S)
theorem XL(id:Nat):Wp X f (.exit id) S Q=Q (.exit id) S:=B2 (XG X f S id)
theorem aeq:Wp X f .ret S Q=Q .ret S:=B2 (aeo X f S)
theorem aer(a b:Code):Wp X f (.seq a b) S Q=Wp X f a S (XJ X f b Q):=by
 apply propext;unfold Wp;rw[aep];constructor
 ·rintro⟨e,S1,h,hq⟩;cases ha:ev X f a S with
  |none=>simp[ha]at h
  |some x=>
   obtain⟨e2,S2⟩:=x;rw[ha]at h;refine⟨e2,S2,rfl,?_⟩;cases e2 with
   |normal=>exact⟨e,S1,h,hq⟩
   |exit i=>
    simp only[au,aF]at h;obtain⟨rfl,rfl⟩:=h;exact hq
   |ret=>
    simp only[au,aF]at h;obtain⟨rfl,rfl⟩:=h;exact hq
 ·rintro⟨e,S1,h,hq⟩;rw[h];cases e with
  |normal=>
   obtain⟨e2,S2,h2,hq2⟩:=hq;exact⟨e2,S2,h2,hq2⟩
  |exit i=>exact⟨_,_,rfl,hq⟩
  |ret=>exact⟨_,_,rfl,hq⟩
def lV(f:Nat->V):Operand->V
 | .tmp t=>f t
 | .const v=>sm v
 | .func g=> .fn g [] []
 | .global _=> .bad
theorem wZ(S:St):lV S.f=S.ev:=by funext x;cases x<;>rfl
def choose(v:V)(p q:Prop):Prop:=
 match v with
 | .bool true=>p
 | .bool false=>q
 |_=>False
theorem Hz(p q:Prop):choose (.bool true) p q=p:=rfl
theorem Fv(p q:Prop):choose (.bool false) p q=q:=rfl
theorem HD(b:Bool)(p q:Prop):choose (.bool b) p q=((b=true->p)/\(b=false->q)):=by cases b<;>simp[choose]
theorem XM(x:Operand)(a b:Code):Wp X f (.cond x a b) S Q=choose (mark (lV S.f x)) (Wp X f a S Q) (Wp X f b S Q):=by
 rw[wZ];show(Wp X f (.cond x a b) S Q)=choose (S.ev x) (Wp X f a S Q) (Wp X f b S Q);unfold Wp;rw[XH];cases S.ev x with
 |bool t=>cases t<;>simp[choose]
 |_=>simp[choose]
theorem Sq(id:Nat)(b:Code):Wp X f (.block id b) S Q=Wp X f b S (Oq id Q):=by
 apply propext;unfold Wp;rw[Sj];constructor
 ·rintro⟨e,S1,h,hq⟩;cases hb:ev X f b S with
  |none=>simp[hb]at h
  |some x=>
   obtain⟨e2,S2⟩:=x;rw[hb]at h;refine⟨e2,S2,rfl,?_⟩;cases e2 with
   |normal=>
    simp only[au,aF]at h;obtain⟨rfl,rfl⟩:=h;exact hq
   |exit i=>
    simp only at h;simp only[Oq];split at h<;>rename_i hi<;>simp only[au,aF]at h<;>obtain⟨rfl,rfl⟩:=h<;>simp only[hi,if_true,if_false]<;>exact hq
   |ret=>
    simp only[au,aF]at h;obtain⟨rfl,rfl⟩:=h;exact hq
 ·rintro⟨e,S1,h,hq⟩;rw[h];cases e with
  |normal=>exact⟨_,_,rfl,hq⟩
  |exit i=>
   simp only[Oq]at hq;simp only;split at hq<;>rename_i hi<;>simp only[hi,if_true,if_false]<;>exact⟨_,_,rfl,hq⟩
  |ret=>exact⟨_,_,rfl,hq⟩
def stb(l:List (Nat×Nat))(p:List (Nat×Nat)->Prop):Prop:=p l
theorem Oy(id:Nat)(ops:Array Oper)(d:Bool):Wp X f (.region id ops d) S Q=
  kI (mark (mj X f (2*id) S)) fun S=>fW X f (ops.toList.map (·.dst)) S.n 0 ops.toList ⟨S.f,S.h,S.n+ops.size⟩ fun S1=>stb (mark (X.rq f id)) (jA X (cy X) f ops.toList S.n {S with n:=S.n+ops.size} S1)/\Q .normal S1:=by
 show _=kI (mj X f (2*id) S) fun S=>fW X f (ops.toList.map (·.dst)) S.n 0 ops.toList {S with n:=S.n+ops.size} fun S1=>jA X (cy X) f ops.toList S.n {S with n:=S.n+ops.size} S1 (X.rq f id)/\Q .normal S1;unfold Wp fW;rw[Oh];cases hn:mj X f (2*id) S with
 |none=>simp[kI]
 |some S=>
 simp only[kI];cases h:eu X (cy X) f (ops.toList.map (·.dst)) S.n 0 ops.toList {S with n:=S.n+ops.size} with
 |none=>simp
 |some S1=>
  by_cases hs:jA X (cy X) f ops.toList S.n {S with n:=S.n+ops.size} S1 (X.rq f id)
  ·simp only[hs,if_true,true_and];apply propext;constructor
   ·rintro⟨e,S2,he,hq⟩;simp only[au,aF]at he;obtain⟨rfl,rfl⟩:=he;exact hq
   ·intro hq;exact⟨_,_,rfl,hq⟩
  ·simp[hs]
theorem aes(id:Nat)(l:List Oper)(d:Bool):Wp X f (.region id l.toArray d) S Q=
  kI (mark (mj X f (2*id) S)) fun S=>fW X f (l.map (·.dst)) S.n 0 l ⟨S.f,S.h,S.n+l.length⟩ fun S1=>stb (mark (X.rq f id)) (jA X (cy X) f l S.n {S with n:=S.n+l.length} S1)/\Q .normal S1:=by
 rw[Oy];simp only[List.size_toArray]
theorem cP{b:Code}(Inv:Nat->St->Prop)(N:Nat)(step: ∀i S,i<=N->Inv i S->Wp X f b S (MR X f (2*gZ b+1) Inv i N Q)): ∀(i:Nat) {S:St},i<=N->kI (mark (mj X f (2*gZ b+1) S)) (Inv i)->Wp X f (.loop b) S Q:=by
 suffices h: ∀(k i:Nat) {S:St},N-i=k->i<=N->kI (mj X f (2*gZ b+1) S) (Inv i)->Wp X f (.loop b) S Q from fun i S hi h0=>h (N-i) i rfl hi h0;intro k;induction k with
 |zero=>
  intro i S hk hi h0;cases hn:mj X f (2*gZ b+1) S with
  |none=>rw[hn]at h0;exact absurd h0 (fun h=>h)
  |some S0=>
  rw[hn]at h0;obtain⟨e,S1,h,hq⟩:=step i S0 hi h0;refine⟨e,S1,?_,?_⟩
  ·rw[Ft,hn];simp only;rw[h];cases e with
   |normal=>exact absurd hq.1 (by omega)
   |exit i=>rfl
   |ret=>rfl
  ·cases e with
   |normal=>exact absurd hq.1 (by omega)
   |exit i=>exact hq
   |ret=>exact hq
 |succ k ih=>
  intro i S hk hi h0;cases hn:mj X f (2*gZ b+1) S with
  |none=>rw[hn]at h0;exact absurd h0 (fun h=>h)
  |some S0=>
  rw[hn]at h0;obtain⟨e,S1,h,hq⟩:=step i S0 hi h0;unfold Wp;rw[Ft,hn];simp only;rw[h];cases e with
  |normal=>
   obtain⟨eX,hinv⟩:=hq;exact ih (i+1) (by omega) eX hinv
  |exit i=>exact⟨_,_,rfl,hq⟩
  |ret=>exact⟨_,_,rfl,hq⟩
end
theorem Sr{X:Env}{f:FuncId}{c:Code}{S S':St}{Q:Ex->St->Prop}(h:S=S'):Wp X f c S Q=Wp X f c S' Q:=by rw[h]
theorem HF{r r':Option St}{K:St->Prop}(h:r=r'):kI r K=kI r' K:=by rw[h]
theorem KC{X:Env}{bO:FuncId}{cG:List (Option Nat)}{n0 k:Nat}{ops:List Oper}{S S':St}{K:St->Prop}(h:S=S'):fW X bO cG n0 k ops S K=fW X bO cG n0 k ops S' K:=by rw[h]
theorem HK{v v':V}{w:Bool}{ff:Nat->V}{dj:Nat}{p q:(Nat->V)->Prop}(h:v=v'):oy v w ff dj p q=oy v' w ff dj p q:=by rw[h]
theorem Fw{v v':V}{p q:Prop}(h:v=v'):choose v p q=choose v' p q:=by rw[h]
attribute [congr] Sr HF Fw KC HK
theorem XN(a b:Int):(a==b)=decide (a=b):=rfl
def Oz(X:Env)(rs:List ResultVar)(K:V->aY->Nat->Prop):Ex->St->Prop
 | .exit _,_=>False
 |_,S=>match k9 X rs S with|some v=>K v S.h S.n|none=>False
section
variable {X:Env} {S:St} {rs:List ResultVar} {K:V->aY->Nat->Prop}
theorem uK:Oz X rs K .normal S=(match k9 X rs S with|some v=>K v S.h S.n|none=>False):=rfl
theorem B3:Oz X rs K .ret S=(match k9 X rs S with|some v=>K v S.h S.n|none=>False):=rfl
end
theorem bu {X:Env} {g:FuncId} {fn:Func} {b:Code} {rs:List ResultVar} (hf:X.P.funcs[g]?=some fn) (hb:fn.body=some b) (hr:fn.results=⟨rs⟩) {args:List V} {h:aY} {k:Nat} {K:V->aY->Nat->Prop}
  (hw:Wp X g b ⟨mS args,h,k⟩ (Oz X rs K)): ∃v h' k',cy X g args h k=some (v,h',k')/\K v h' k':=by
 have A3:rs=fn.results.toList:=by rw[hr]
 rw[A3]at hw;rw[Sk hf hb];obtain⟨e,S1,h1,h2⟩:=hw;rw[h1];cases e with
 |exit i=>exact absurd h2 (fun h=>h)
 |normal=>
  unfold so;cases hr:k9 X fn.results.toList S1 with
  |none=>rw[uK,hr]at h2;exact absurd h2 (fun h=>h)
  |some v=>rw[uK,hr]at h2;exact⟨v,S1.h,S1.n,by simp only[hr],h2⟩
 |ret=>
  unfold so;cases hr:k9 X fn.results.toList S1 with
  |none=>rw[B3,hr]at h2;exact absurd h2 (fun h=>h)
  |some v=>rw[B3,hr]at h2;exact⟨v,S1.h,S1.n,by simp only[hr],h2⟩
def m8:aY:=fun _=>none
theorem bd {X:Env} {g:FuncId} {fn:Func} {b:Code} {rs:List ResultVar} (hf:X.P.funcs[g]?=some fn) (hb:fn.body=some b) (hr:fn.results=⟨rs⟩) {args:List V} {r:V}
  (hw:Wp X g b ⟨mS args,m8,0⟩ (Oz X rs fun v h _=>(bT h depth v).map V.jm=some r)):cz X g args=some r:=by
 obtain⟨v,h,k,h1,h2⟩:=bu hf hb hr hw;unfold cz;have sV:cy X g args (fun _=>none) 0=some (v,h,k):=h1;rw[sV];exact h2
theorem HL: ∀l:List V,df l=l.map V.jm
 | []=>rfl
 |c::cs=>by simp[df,HL cs]
noncomputable def lY(X:Env)(m:Mask)(g:FuncId)(args:List V):Option V:=
 match cy X g args m8 0 with
 |some (v,h,_)=>GC X h v m
 |none=>none
theorem kJ {X:Env} {m:Mask} {g:FuncId} {fn:Func} {b:Code} {rs:List ResultVar} (hf:X.P.funcs[g]?=some fn) (hb:fn.body=some b) (hr:fn.results=⟨rs⟩) {args:List V} {r:V}
  (hw:Wp X g b ⟨mS args,m8,0⟩ (Oz X rs fun v h _=>GC X h v m=some r)):lY X m g args=some r:=by
 obtain⟨v,h,k,h1,h2⟩:=bu hf hb hr hw;unfold lY;rw[h1];exact h2
def rZ:V->V
 | .de _=> .de []
 |_=> .bad
theorem KD(l:List V):rZ (.de l)= .de []:=rfl
theorem KE(k:IntKind)(n:Int):rZ (.int k n)= .bad:=rfl
theorem KF(l:List V):rZ (.agg l)= .bad:=rfl
theorem OA(c:Bool)(l:List V):rZ (.sl c l)= .bad:=rfl
theorem KG(a b c:Nat):rZ (.bU a b c)= .bad:=rfl
theorem HN(v:V)(vs:List V):uq (rZ v) vs=uq v vs:=by cases v<;>rfl
noncomputable def lZ(X:Env)(M:Mask)(g:FuncId)(k:Nat)(R:V)(args:List V):Option (Nat×V×List V×V):=
 match cy X g (.ptr 0 0 0::args) (kg X g k R) (1+(X.dM g).length) with
 |some (v,h,_)=>match xJ X M v h with
  |some (k',r,rs)=>some (k',r,rs,rZ v)
  |none=>none
 |none=>none
theorem OB(X:Env)(bO:FuncId)(dst:Option Nat)(g:FuncId)(args:List V)(S:St):kN X (cy X) bO dst g args S=
  match mY S.h args with
  |some (bez,h1)=>
   match lY X (dst.elim [] (X.mask bO)) g bez with
   |some r=>some ((⟨S.f,tZ X (X.eh bO) r S.n (dst.elim [] (X.mask bO)) h1,S.n+(dst.elim [] (X.mask bO)).length⟩:St).set dst (rT S.n (dst.elim [] (X.mask bO)) r))
   |none=>none
  |none=>none:=by
 unfold kN lY m8;cases mY S.h args with
 |none=>rfl
 |some x=>
  obtain⟨bez,h1⟩:=x;simp only;cases cy X g bez (fun _=>none) 0 with
  |none=>rfl
  |some x=>rfl
theorem XO(X:Env)(bO:FuncId)(dst:Option Nat)(g:FuncId)(id:Nat)(rest:List V)(S:St):rU X (cy X) bO dst g (.ptr id 0 0::rest) S=
  match S.h id with
  |some ob=>
   match ob.es with
   | [e]=>
    if ob.dG=true then
     match xG X (aO S.h id none) (fun _=>none) e (X.dM g) with
     |some R=>
      match mY (ep (aO S.h id none) (eZ e (X.dM g))) rest with
      |some (bez,h1)=>
       match lZ X (o7 X bO dst g) g ob.k R bez with
       |some (k',r,rs,v)=>
        some ((⟨S.f,tZ X (X.eh bO) (.de (r::rs)) S.n (o7 X bO dst g) (aO h1 id (some ⟨k',[Bn (rT S.n (o7 X bO dst g) (.de (r::rs)))],true⟩)),S.n+(o7 X bO dst g).length⟩:St).set dst
          (uq v (Mo (rT S.n (o7 X bO dst g) (.de (r::rs))))))
       |none=>none
      |none=>none
     |none=>none
    else none
   |_=>none
  |none=>none:=by
 rw[rU.eq_1];cases S.h id with
 |none=>rfl
 |some ob=>
  simp only;cases D4:ob.es with
  |nil=>rfl
  |cons e t=>
   cases t with
   |cons _ _=>rfl
   |nil=>
    simp only;cases ob.dG with
    |false=>rfl
    |true=>
     simp only[if_true];cases xG X (aO S.h id none) (fun _=>none) e (X.dM g) with
     |none=>rfl
     |some R=>
      simp only;cases mY (ep (aO S.h id none) (eZ e (X.dM g))) rest with
      |none=>rfl
      |some x=>
       obtain⟨bez,h1⟩:=x;simp only;unfold lZ;cases cy X g (V.ptr 0 0 0::bez) (kg X g ob.k R) (1+(X.dM g).length) with
       |none=>rfl
       |some x=>
        obtain⟨v,h,n⟩:=x;simp only;cases xJ X (o7 X bO dst g) v h with
        |none=>rfl
        |some y=>
         obtain⟨k',r,rs⟩:=y;simp only[HN]
theorem dN {X:Env} {M:Mask} {g:FuncId} {fn:Func} {b:Code} {rs:List ResultVar} (hf:X.P.funcs[g]?=some fn) (hb:fn.body=some b) (hr:fn.results=⟨rs⟩) {k:Nat} {R:V} {args:List V} {k':Nat} {r v:V} {rl:List V}
  (hw:Wp X g b ⟨mS (.ptr 0 0 0::args),kg X g k R,1+(X.dM g).length⟩ (Oz X rs fun v' h _=>xJ X M v' h=some (k',r,rl)/\rZ v'=v)):
  lZ X M g k R args=some (k',r,rl,v):=by
 obtain⟨v',h,n,h1,h2,rfl⟩:=bu hf hb hr hw;unfold lZ;simp only[h1,h2]
theorem OC(X:Env)(bO:FuncId)(dst:Option Nat)(g:FuncId)(args:List V)(S:St):eK X (cy X) bO dst g args S=
  match X.clone g with
  |some t=>
   match args with
   | [s]=>match elems S.h s with
    |some (es,kx)=>if s.isStr||(kx&& !X.eh bO (X.ti t).elem)|| !(es.all fun v=>v.cells.length==(X.ti (X.ti t).elem).size)|| !decide (es.length*(X.ti (X.ti t).elem).bytes<=2^47/\es.length<=2^62) then none else some ((S.new ⟨(X.ti (X.ti t).elem).size,es,X.eh bO (X.ti t).elem⟩).set dst (.bU S.n 0 es.length))
    |none=>none
   |_=>none
  |none=>
  if(X.fw g&& !X.low g)=true then
   match cy X g args S.h S.n with
   |some (v,h,n)=>some (({S with h:=h,n:=n}:St).set dst v)
   |none=>none
  else if X.eJ g=true then rU X (cy X) bO dst g args S
  else if(!(dst.elim [] (X.mask bO)).isEmpty)=true then kN X (cy X) bO dst g args S
  else
   match cn (args.map (bT S.h depth)) with
   |some bez=>
    if(dst.any (X.mX bO)&& !X.low g)=true then
     match cy X g (df bez) m8 S.n with
     |some (v,h,n)=>if(args.any V.tY&& !v.pu)=true then none else some (({S with h:=fun id=>if id<S.n then S.h id else if args.any V.tY=true then jz (h id) else h id,n:=n}:St).set dst v)
     |none=>none
    else
     match cz X g (df bez) with
     |some v=>if(args.any V.tY&& !v.scalar)=true then none else some (S.set dst v)
     |none=>none
   |none=>none:=by
 have key: ∀v:V,v.jm.scalar=v.scalar:=by
  intro v;have l0: ∀v:V,v.jm.leaf=v.leaf:=fun v=>by cases v<;>rfl
  have ll: ∀l:List V,(df l).all V.leaf=l.all V.leaf:=by
   intro l;induction l with
   |nil=>rfl
   |cons c l ih=>simp[df,l0,ih]
  have l1: ∀v:V,v.jm.uo=v.uo:=fun v=>by
   cases v with
   |agg cs=>simp[V.jm,V.uo,ll]
   |_=>rfl
  have ll1: ∀l:List V,(df l).all V.uo=l.all V.uo:=by
   intro l;induction l with
   |nil=>rfl
   |cons c l ih=>simp[df,l1,ih]
  cases v with
  |de cs=>simp[V.jm,V.scalar,ll1]
  |agg cs=>simp[V.jm,V.scalar,V.uo,ll]
  |_=>rfl
 unfold eK cz;cases X.clone g with
 |some t=>rfl
 |none=>
  by_cases hb:(X.fw g&& !X.low g)=true
  ·simp only[hb,if_true];try rfl
  ·simp only[hb,if_false,Bool.false_eq_true];by_cases rC:X.eJ g=true
   ·simp only[rC,if_true]
   simp only[rC,if_false,Bool.false_eq_true];by_cases xK:(!(dst.elim [] (X.mask bO)).isEmpty)=true
   ·simp only[xK,if_true]
   simp only[xK,if_false,Bool.false_eq_true];cases cn (args.map (bT S.h depth)) with
   |none=>rfl
   |some bez=>
    simp only;by_cases ht:(dst.any (X.mX bO)&& !X.low g)=true
    ·simp only[ht,if_true];rfl
    ·simp only[ht,if_false,Bool.false_eq_true];cases hc:cy X g (df bez) (fun _=>none) 0 with
     |none=>rfl
     |some x=>
      obtain⟨v,h,n⟩:=x;simp only;cases bT h depth v with
      |none=>rfl
      |some v'=>simp only[Option.map_some,key]
theorem HQ(X:Env)(call:iz)(bO:FuncId)(ops:List Oper)(n0:Nat)(S0 S1:St)(q:Nat×Nat)(l:List (Nat×Nat)):jA X call bO ops n0 S0 S1 (q::l)=
  (((∃o,ops[q.1]?=some o/\DV (ops.map (·.dst)) o S1)\/(∃o T v,ops[q.1]?=some o/\eu X call bO (ops.map (·.dst)) n0 0 (ops.take q.2) S0=some T/\
  cm X bO o S1.ev T.h (n0+q.1)=some (v,T.h,n0+q.1)/\ ∀d,o.dst=some d->S1.f d=v))/\jA X call bO ops n0 S0 S1 l):=by
 simp only[jA,List.forall_mem_cons]
def jw(r:Option (V×aY×Nat))(K:V->aY->Prop):Prop:=
 match r with
 |some (v,h,_)=>K v h
 |none=>False
theorem KH(v:V)(h:aY)(n:Nat)(K:V->aY->Prop):jw (some (v,h,n)) K=K v h:=rfl
theorem KI(c:Prop)[Decidable c](a:Option (V×aY×Nat))(K:V->aY->Prop):jw (if c then a else none) K=(c/\(c->jw (mark a) K)):=by
 by_cases h:c<;>simp[h,jw,mark]
theorem HU(c:Prop)[Decidable c](a:Option (V×aY×Nat))(K:V->aY->Prop):jw (if c then none else a) K=(¬c/\(¬c->jw (mark a) K)):=by
 by_cases h:c<;>simp[h,jw,mark]
theorem HW{r r':Option (V×aY×Nat)}{K:V->aY->Prop}(h:r=r'):jw r K=jw r' K:=by rw[h]
theorem OD{l l':List (Nat×Nat)}{p:List (Nat×Nat)->Prop}(h:l=l'):stb l p=stb l' p:=by rw[h]
attribute [congr] HW OD
theorem XP(X:Env)(call:iz)(bO:FuncId)(ops:List Oper)(n0:Nat)(S0 S1:St):stb [] (jA X call bO ops n0 S0 S1)=True:=B1 ..
def Wr(X:Env)(bO:FuncId)(o:Option Oper)(S1 T:St)(m:Nat):Prop:= ∃o' v,o=some o'/\cm X bO o' S1.ev T.h m=some (v,T.h,m)/\ ∀d,o'.dst=some d->S1.f d=v
def Eg(l:List Oper)(K:List Oper->Prop):Prop:=K l
theorem KJ(o:Oper)(l:List Oper)(K:List Oper->Prop):Eg (o::l) K=K (o::l):=rfl
theorem OE(K:List Oper->Prop):Eg [] K=K []:=rfl
theorem HX{l l':List Oper}{K:List Oper->Prop}(h:l=l'):Eg l K=Eg l' K:=by rw[h]
theorem OF{X:Env}{bO:FuncId}{o o':Option Oper}{S1 T:St}{m:Nat}(h:o=o'):Wr X bO o S1 T m=Wr X bO o' S1 T m:=by rw[h]
attribute [congr] HX OF
def skP(o:Option Oper)(cG:List (Option Nat))(S1:St):Prop:= ∃o',o=some o'/\DV cG o' S1
theorem Ss(cG:List (Option Nat))(d:Option Nat)(op:Op)(ty:TypeId)(ps:String)(af:Array Edge)(S1:St):skP (some ⟨d,op,ty,ps,af,none⟩) cG S1=False:=by
 simp[skP,DV]
theorem Su(cG:List (Option Nat))(d:Option Nat)(op:Op)(ty:TypeId)(ps:String)(af:Array Edge)(j:Nat)(want:Bool)(S1:St):skP (some ⟨d,op,ty,ps,af,some (j,want)⟩) cG S1=
  (match cG[j]? with|some (some d)=>S1.f d= .de []\/S1.f d= .bool (!want)|_=>False):=by
 simp only[skP,DV,Option.some.injEq,exists_eq_left'];try rfl
theorem OG{o o':Option Oper}{cG:List (Option Nat)}{S1:St}(h:o=o'):skP o cG S1=skP o' cG S1:=by rw[h]
attribute [congr] OG
theorem Sv(X:Env)(bO:FuncId)(ops:List Oper)(n0:Nat)(S0 S1:St)(j p:Nat)(l:List (Nat×Nat)):stb ((j,p)::l) (jA X (cy X) bO ops n0 S0 S1)=
  ((skP (mark ops[j]?) (ops.map (·.dst)) S1\/Eg (mark (ops.take p)) fun as6=>fW X bO (ops.map (·.dst)) n0 0 as6 S0 fun T=>Wr X bO (mark ops[j]?) S1 T (n0+j))/\stb l (jA X (cy X) bO ops n0 S0 S1)):=by
 unfold stb;rw[HQ];congr 1;unfold skP;congr 1;unfold Eg mark fW Wr;apply propext;constructor
 ·rintro⟨o,T,v,h1,h2,h3,h4⟩;simp only at h2;simp only[h2];exact⟨o,v,h1,h3,h4⟩
 ·intro h;cases hT:eu X (cy X) bO (ops.map (·.dst)) n0 0 (ops.take p) S0 with
  |none=>simp only[hT]at h;exact absurd h (fun h=>h)
  |some T=>
   simp only[hT]at h;obtain⟨o,v,h1,h3,h4⟩:=h;exact⟨o,T,v,h1,rfl,h3,h4⟩
theorem MS(X:Env)(bO:FuncId)(d:Nat)(t:TypeId)(a:Operand)(ty:TypeId)(ps:String)(af:Array Edge)(g:Option (Nat×Bool))(S1 T:St)(m:Nat):Wr X bO (some ⟨some d,.load t a,ty,ps,af,g⟩) S1 T m=
  ∃v,(match lV S1.f a with
   | .ptr id i f=>match T.h id with
    |some ob=>match ob.es[i]? with
     |some e=>match part (X.ti t) e.cells f with|some v=>some (v,T.h,m)|none=>none
     |none=>none
    |none=>none
   | .ref cs=>match part (X.ti t) cs 0 with|some v=>some (v,T.h,m)|none=>none
   |_=>none)=some (v,T.h,m)/\S1.f d=v:=by
 unfold Wr;rw[wZ];apply propext;constructor
 ·rintro⟨o,v,h,h1,h2⟩;simp only[au]at h;subst h;exact⟨v,h1,h2 d rfl⟩
 ·rintro⟨v,h1,h2⟩;refine⟨_,v,rfl,h1,fun d' h=> ?_⟩;simp only[au]at h;subst h;exact h2
def aet(cG:List (Option Nat))(f:Nat->V)(j:Nat):V:=
 match cG[j]? with
 |some (some d)=>f d
 |_=> .bad
def aeu(cG:List (Option Nat))(j:Nat):Nat:=
 match cG[j]? with
 |some (some d)=>d
 |_=>0
section
variable {X:Env} {fx:FuncId} {cG:List (Option Nat)} {n0 kk n:Nat} {r:List Oper} {ff:Nat->V} {hp:aY} {K:St->Prop} {d:Nat} {ty:TypeId} {ps:String} {af:Array Edge}
theorem KK {o:Oper} {S:St} (hs:dH X (cy X) fx n0 kk o S=match cm X fx o S.ev S.h (n0+kk) with
  |some (v,h,_)=>some (({S with h:=h}:St).set o.dst v)
  |none=>none) (hg:o.guard=none):fW X fx cG n0 kk (o::r) S K=jw (cm X fx o S.ev S.h (n0+kk)) fun v h=>fW X fx cG n0 (kk+1) r ((⟨S.f,h,S.n⟩:St).set o.dst v) K:=by
 rw[sA,hg,hs];cases cm X fx o S.ev S.h (n0+kk) with
 |none=>rfl
 |some x=>obtain⟨v,h,n⟩:=x;rfl
theorem eP {o:Oper} (hs: ∀S,dH X (cy X) fx n0 kk o S=match cm X fx o S.ev S.h (n0+kk) with
  |some (v,h,_)=>some (({S with h:=h}:St).set o.dst v)
  |none=>none) (hg:o.guard=none) {d:Option Nat} (hd:o.dst=d):fW X fx cG n0 kk (o::r) ⟨ff,hp,n⟩ K=jw (mark (cm X fx o (lV ff) hp (n0+kk))) fun v h=>fW X fx cG n0 (kk+1) r ((⟨ff,h,n⟩:St).set d v) K:=by
 rw[show lV ff=(⟨ff,hp,n⟩:St).ev from wZ ⟨ff,hp,n⟩];subst hd;exact KK (hs _) hg
theorem OH(d:Nat)(op:Op)(j:Nat)(w:Bool):fW X fx cG n0 kk (⟨some d,op,ty,ps,af,some (j,w)⟩::r) ⟨ff,hp,n⟩ K=
  oy (mark (aet cG ff j)) w ff (aeu cG j) (fun ff=>fW X fx cG n0 kk (⟨some d,op,ty,ps,af,none⟩::r) ⟨ff,hp,n⟩ K) (fun ff=>fW X fx cG n0 (kk+1) r ⟨aO ff d (.de []),hp,n⟩ K):=by
 have key: ∀ff:Nat->V,fW X fx cG n0 kk (⟨some d,op,ty,ps,af,none⟩::r) ⟨ff,hp,n⟩ K=kI (dH X (cy X) fx n0 kk ⟨some d,op,ty,ps,af,some (j,w)⟩ ⟨ff,hp,n⟩) fun S1=>fW X fx cG n0 (kk+1) r S1 K:=fun ff=>by rw[sA];rfl
 simp only[key];rw[sA];unfold aet mark aeu;simp only;cases cG[j]? with
 |none=>rfl
 |some x=>
  cases x with
  |none=>rfl
  |some x=>
   unfold oy;rfl
theorem Sw(d:Option Nat)(g:FuncId)(args:Array Operand)(jP:Array TypeId):fW X fx cG n0 kk (⟨d,.call ⟨.value (.func g),args,jP⟩,ty,ps,af,none⟩::r) ⟨ff,hp,n⟩ K=
  kI (mark (eK X (cy X) fx d g (args.toList.map (lV ff)) ⟨ff,hp,n⟩)) fun S1=>fW X fx cG n0 (kk+1) r ⟨S1.f,S1.h,S1.n⟩ K:=by
 rw[sA,show lV ff=(⟨ff,hp,n⟩:St).ev from wZ ⟨ff,hp,n⟩];show kI (eK X (cy X) fx d g ([]++args.toList.map (⟨ff,hp,n⟩:St).ev++ []) ⟨ff,hp,n⟩) _=_;rw[List.nil_append,List.append_nil];rfl
theorem Sx(x'):fW X fx cG n0 kk (⟨(some d),.move x',ty,ps,af,none⟩::r) ⟨ff,hp,n⟩ K=
  jw (mark (some (((lV ff) x'),hp,(n0+kk)))) fun v h'=>fW X fx cG n0 (kk+1) r ⟨aO ff d v,h',n⟩ K:=eP (fun _=>rfl) rfl rfl
theorem KL(x'):fW X fx cG n0 kk (⟨(some d),.assign x',ty,ps,af,none⟩::r) ⟨ff,hp,n⟩ K=
  jw (mark (some (((lV ff) x'),hp,(n0+kk)))) fun v h'=>fW X fx cG n0 (kk+1) r ⟨aO ff d v,h',n⟩ K:=eP (fun _=>rfl) rfl rfl
theorem Sy(c')(a')(b'):fW X fx cG n0 kk (⟨(some d),.pick c' a' b',ty,ps,af,none⟩::r) ⟨ff,hp,n⟩ K=
  jw (mark (match(lV ff) c' with| .bool t=>some ((if t then(lV ff) a' else(lV ff) b'),hp,(n0+kk))|_=>none)) fun v h'=>fW X fx cG n0 (kk+1) r ⟨aO ff d v,h',n⟩ K:=eP (fun _=>rfl) rfl rfl
theorem OI(t'):fW X fx cG n0 kk (⟨(some d),.alloc t',ty,ps,af,none⟩::r) ⟨ff,hp,n⟩ K=
  jw (mark (some ((.ptr (n0+kk) 0 0),aO hp (n0+kk) (some ⟨(X.ti t').size,[(X.ti t').zero],true⟩),(n0+kk)+1))) fun v h'=>fW X fx cG n0 (kk+1) r ⟨aO ff d v,h',n⟩ K:=eP (fun _=>rfl) rfl rfl
theorem XQ(t')(x'):fW X fx cG n0 kk (⟨(some d),.box t' x',ty,ps,af,none⟩::r) ⟨ff,hp,n⟩ K=
  jw (mark (if((lV ff) x').fits (X.ti t').size then some ((.ptr (n0+kk) 0 0),aO hp (n0+kk) (some ⟨(X.ti t').size,[(lV ff) x'],true⟩),(n0+kk)+1) else none)) fun v h'=>fW X fx cG n0 (kk+1) r ⟨aO ff d v,h',n⟩ K:=eP (fun _=>rfl) rfl rfl
theorem OJ(t')(wj):fW X fx cG n0 kk (⟨(some d),.build t' wj,ty,ps,af,none⟩::r) ⟨ff,hp,n⟩ K=
  jw (mark (match(X.ti t').arr with
  |none=>if(X.ti t').vW=[] then none else match tL (X.ti t').vW (X.ti t').zero.cells (wj.toList.map fun p=>(p.1,(lV ff) p.2)) with
   |some cs=>some ((.agg cs),hp,(n0+kk))
   |none=>none
  |some m=>match tL ((List.range m).map fun i=>(i*(X.ti (X.ti t').elem).size,(X.ti (X.ti t').elem).size)) (X.ti t').zero.cells (wj.toList.map fun p=>(p.1,(lV ff) p.2)) with
   |some cs=>some ((.agg cs),hp,(n0+kk))
   |none=>none)) fun v h'=>fW X fx cG n0 (kk+1) r ⟨aO ff d v,h',n⟩ K:=eP (fun _=>rfl) rfl rfl
theorem B4(t')(n')(wj):fW X fx cG n0 kk (⟨(some d),.buildSlice t' n' wj,ty,ps,af,none⟩::r) ⟨ff,hp,n⟩ K=
  jw (mark (let e:=(X.ti t').elem
  if X.eh fx e then
   match oU (X.ti e).size (List.replicate n' (X.ti e).zero) (wj.toList.map fun p=>(p.1,(lV ff) p.2)) with
   |some es=>some ((.bU (n0+kk) 0 n'),aO hp (n0+kk) (some ⟨(X.ti e).size,es,true⟩),(n0+kk)+1)
   |none=>none
  else
  match lz hp (wj.toList.map fun p=>(p.1,(lV ff) p.2)) with
  |some (l,h)=>
   match oU (X.ti e).size (List.replicate n' (X.ti e).zero) l with
   |some es=>
    if(some d).any (X.mX fx) then some ((.bU (n0+kk) 0 n'),aO (h) (n0+kk) (some ⟨(X.ti e).size,es,false⟩),(n0+kk)+1)
    else some ((.sl true es),h,(n0+kk))
   |none=>none
  |none=>none)) fun v h'=>fW X fx cG n0 (kk+1) r ⟨aO ff d v,h',n⟩ K:=eP (fun _=>rfl) rfl rfl
theorem Sz(t')(a'):fW X fx cG n0 kk (⟨(some d),.load t' a',ty,ps,af,none⟩::r) ⟨ff,hp,n⟩ K=
  jw (mark (match(lV ff) a' with
  | .ptr id i f=>match hp id with
   |some ob=>match ob.es[i]? with
    |some e=>match part (X.ti t') e.cells f with|some v=>some (v,hp,(n0+kk))|none=>none
    |none=>none
   |none=>none
  | .ref cs=>match part (X.ti t') cs 0 with|some v=>some (v,hp,(n0+kk))|none=>none
  |_=>none)) fun v h'=>fW X fx cG n0 (kk+1) r ⟨aO ff d v,h',n⟩ K:=eP (fun _=>rfl) rfl rfl
theorem OK(t')(a')(x'):fW X fx cG n0 kk (⟨none,.store t' a' x',ty,ps,af,none⟩::r) ⟨ff,hp,n⟩ K=
  jw (mark (match(lV ff) a' with
  | .ptr id i f=>match hp id with
   |some ob=>
    match(if ob.dG then some ((lV ff) x',hp) else qu hp ((lV ff) x')) with
    |some (v,h)=>match h id with
     |some ob=>match ob.es[i]? with
      |some e=>if v.fits (X.ti t').size&&decide (f+(X.ti t').size<=e.cells.length) then some (.bad,aO h id (some {ob with es:=ob.es.set i (e.put f v)}),(n0+kk)) else none
      |none=>none
     |none=>none
    |none=>none
   |none=>none
  |_=>none)) fun v h'=>fW X fx cG n0 (kk+1) r ⟨ff,h',n⟩ K:=eP (fun _=>rfl) rfl rfl
theorem Fx(x'):fW X fx cG n0 kk (⟨(some d),.nilCheck x',ty,ps,af,none⟩::r) ⟨ff,hp,n⟩ K=
  jw (mark (match(lV ff) x' with
  | .ptr id i f=>some ((.ptr id i f),hp,(n0+kk))
  | .ref cs=>some ((.ref cs),hp,(n0+kk))
  | .fn g a b=>some ((.fn g a b),hp,(n0+kk))
  |_=>none)) fun v h'=>fW X fx cG n0 (kk+1) r ⟨aO ff d v,h',n⟩ K:=eP (fun _=>rfl) rfl rfl
theorem OL(op')(t')(x')(y')(u0'):fW X fx cG n0 kk (⟨(some d),.binOp op' t' x' y' u0',ty,ps,af,none⟩::r) ⟨ff,hp,n⟩ K=
  jw (mark (match pX (X.ti t').agg (X.ti t').vY op' ((lV ff) x') ((lV ff) y') with|some v=>some (v,hp,(n0+kk))|none=>none)) fun v h'=>fW X fx cG n0 (kk+1) r ⟨aO ff d v,h',n⟩ K:=eP (fun _=>rfl) rfl rfl
theorem SA(op')(u0')(x'):fW X fx cG n0 kk (⟨(some d),.unOp op' u0' x',ty,ps,af,none⟩::r) ⟨ff,hp,n⟩ K=
  jw (mark (match unV op' ((lV ff) x') with|some v=>some (v,hp,(n0+kk))|none=>none)) fun v h'=>fW X fx cG n0 (kk+1) r ⟨aO ff d v,h',n⟩ K:=eP (fun _=>rfl) rfl rfl
theorem HY(u0')(d')(x'):fW X fx cG n0 kk (⟨(some d),.convert u0' d' x',ty,ps,af,none⟩::r) ⟨ff,hp,n⟩ K=
  jw (mark (match(X.ti d').kind,(lV ff) x' with
  |some k,.int _ n=>some ((.int k (k.wrap n)),hp,(n0+kk))
  |_,_=>none)) fun v h'=>fW X fx cG n0 (kk+1) r ⟨aO ff d v,h',n⟩ K:=eP (fun _=>rfl) rfl rfl
theorem Du(t')(l')(c'):fW X fx cG n0 kk (⟨(some d),.makeSlice t' l' c',ty,ps,af,none⟩::r) ⟨ff,hp,n⟩ K=
  jw (mark (match(lV ff) l',(lV ff) c' with
  | .int _ n,.int _ m=>if 0<=n/\n<=m/\m*(X.ti (X.ti t').elem).bytes<=2^47/\m<=2^62 then
    some ((.bU (n0+kk) 0 n.toNat),aO hp (n0+kk) (some ⟨(X.ti (X.ti t').elem).size,List.replicate n.toNat (X.ti (X.ti t').elem).zero,X.eh fx (X.ti t').elem⟩),(n0+kk)+1) else none
  |_,_=>none)) fun v h'=>fW X fx cG n0 (kk+1) r ⟨aO ff d v,h',n⟩ K:=eP (fun _=>rfl) rfl rfl
theorem OM(t')(x')(lo')(nf)(mx'):fW X fx cG n0 kk (⟨(some d),.slice t' x' lo' nf mx',ty,ps,af,none⟩::r) ⟨ff,hp,n⟩ K=
  jw (mark (if((lV ff) x').isStr=(X.ti t').isStr then
   match(lV ff) x' with
   | .sl _ es=>
    if es.all (fun e=>e.cells.length==(X.ti (X.ti t').elem).size) then
     match mx' with
     |none=>match bounds (lo'.map (lV ff)) (nf.map (lV ff)) es.length with|some (l,h)=>some ((.sl false ((es.take h).drop l)),hp,(n0+kk))|none=>none
     |some m=>match(lV ff) m,nf.map (lV ff) with
      | .int _ p,some (.int _ q)=>if p=q then(match bounds (lo'.map (lV ff)) (nf.map (lV ff)) es.length with|some (l,h)=>some ((.sl true ((es.take h).drop l)),hp,(n0+kk))|none=>none) else none
      |_,_=>none
    else none
   | .bU id s n=>
    match mx',hp id with
    |none,some ob=>if ob.k=(X.ti (X.ti t').elem).size then(match bounds (lo'.map (lV ff)) (nf.map (lV ff)) n with|some (l,h)=>some ((.bU id (s+l) (h-l)),hp,(n0+kk))|none=>none) else none
    |some m,some ob=>if ob.k=(X.ti (X.ti t').elem).size then(match(lV ff) m,nf.map (lV ff) with
      | .int _ p,some (.int _ q)=>if p=q then(match bounds (lo'.map (lV ff)) (nf.map (lV ff)) n with|some (l,h)=>some ((.bU id (s+l) (h-l)),hp,(n0+kk))|none=>none) else none
      |_,_=>none) else none
    |_,none=>none
   | .str s=>match mx' with
    |none=>match bounds (lo'.map (lV ff)) (nf.map (lV ff)) s.length with|some (l,h)=>some ((.str ((s.take h).drop l)),hp,(n0+kk))|none=>none
    |some _=>none
   |_=>none
  else none)) fun v h'=>fW X fx cG n0 (kk+1) r ⟨aO ff d v,h',n⟩ K:=eP (fun _=>rfl) rfl rfl
theorem Dv(t')(x')(i'):fW X fx cG n0 kk (⟨(some d),.fieldAddr t' x' i',ty,ps,af,none⟩::r) ⟨ff,hp,n⟩ K=
  jw (mark (match(X.ti t').vW[i']? with
  |some (off,_)=>match(lV ff) x' with
   | .ptr id j f=>some ((.ptr id j (f+off)),hp,(n0+kk))
   | .ref cs=>some ((.ref (cs.drop off)),hp,(n0+kk))
   |_=>none
  |none=>none)) fun v h'=>fW X fx cG n0 (kk+1) r ⟨aO ff d v,h',n⟩ K:=eP (fun _=>rfl) rfl rfl
theorem Dw(t')(x')(ix'):fW X fx cG n0 kk (⟨(some d),.indexAddr t' x' ix',ty,ps,af,none⟩::r) ⟨ff,hp,n⟩ K=
  jw (mark (match(lV ff) ix' with
  | .int _ n=>match(lV ff) x' with
   | .sl _ es=>if(0<=n/\n<es.length)/\(X.ti t').arr=none then(match es[n.toNat]? with|some e=>if e.cells.length=(X.ti (X.ti t').elem).size then some ((.ref e.cells),hp,(n0+kk)) else none|none=>none) else none
   | .bU id s l=>if(0<=n/\n<l)/\(X.ti t').arr=none then(match hp id with|some ob=>if ob.k=(X.ti (X.ti t').elem).size then some ((.ptr id (s+n.toNat) 0),hp,(n0+kk)) else none|none=>none) else none
   | .ptr id j f=>match(X.ti t').arr with
    |some m=>if 0<=n/\n<m then some ((.ptr id j (f+n.toNat*(X.ti (X.ti t').elem).size)),hp,(n0+kk)) else none
    |none=>none
   |_=>none
  |_=>none)) fun v h'=>fW X fx cG n0 (kk+1) r ⟨aO ff d v,h',n⟩ K:=eP (fun _=>rfl) rfl rfl
theorem ON(t')(x')(ix'):fW X fx cG n0 kk (⟨(some d),.index t' x' ix',ty,ps,af,none⟩::r) ⟨ff,hp,n⟩ K=
  jw (mark (match(lV ff) ix' with
  | .int _ n=>match(lV ff) x' with
   | .str s=>if 0<=n/\(X.ti t').arr=none then(match s[n.toNat]? with|some b=>some ((.int .u8 b.toNat),hp,(n0+kk))|none=>none) else none
   | .agg cs=>match(X.ti t').arr with
    |some m=>if 0<=n/\n<m then(match part (X.ti (X.ti t').elem) cs (n.toNat*(X.ti (X.ti t').elem).size) with|some v=>some (v,hp,(n0+kk))|none=>none) else none
    |none=>none
   |_=>none
  |_=>none)) fun v h'=>fW X fx cG n0 (kk+1) r ⟨aO ff d v,h',n⟩ K:=eP (fun _=>rfl) rfl rfl
theorem HZ(x')(i'):fW X fx cG n0 kk (⟨(some d),.extract x' i',ty,ps,af,none⟩::r) ⟨ff,hp,n⟩ K=
  jw (mark (match(lV ff) x' with
  | .de vs=>match vs[i']? with|some v=>some (v,hp,(n0+kk))|none=>none
  |_=>none)) fun v h'=>fW X fx cG n0 (kk+1) r ⟨aO ff d v,h',n⟩ K:=eP (fun _=>rfl) rfl rfl
theorem Fy(uL)(Fz):fW X fx cG n0 kk (⟨(some d),.call ⟨.builtin .len,uL,Fz⟩,ty,ps,af,none⟩::r) ⟨ff,hp,n⟩ K=
  jw (mark (match uL.toList.map (lV ff) with
  | [x]=>if x.isStr=(X.ti (Fz.getD 0 0)).isStr then(match Bm x with|some n=>some ((.int .i64 n),hp,(n0+kk))|none=>none) else none
  |_=>none)) fun v h'=>fW X fx cG n0 (kk+1) r ⟨aO ff d v,h',n⟩ K:=eP (fun _=>rfl) rfl rfl
theorem FA(uL)(u0'):fW X fx cG n0 kk (⟨(some d),.call ⟨.builtin .min,uL,u0'⟩,ty,ps,af,none⟩::r) ⟨ff,hp,n⟩ K=
  jw (mark (match uL.toList.map (lV ff) with
  | [.int k a,.int k' b]=>if k=k' then some ((.int k (if b<a then b else a)),hp,(n0+kk)) else none
  |_=>none)) fun v h'=>fW X fx cG n0 (kk+1) r ⟨aO ff d v,h',n⟩ K:=eP (fun _=>rfl) rfl rfl
theorem AR(uL)(Fz):fW X fx cG n0 kk (⟨(some d),.call ⟨.builtin .append,uL,Fz⟩,ty,ps,af,none⟩::r) ⟨ff,hp,n⟩ K=
  jw (mark (match uL.toList.map (lV ff) with
  | [s,x]=>match elems hp s,elems hp x with
   |some (es,kb),some (xs,kx)=>
    let e:=(X.ti (Fz.getD 0 0)).elem;let kp:=X.eh fx e
    if((kb||kx)&& !kp)|| !(xs.all fun v=>v.cells.length==(X.ti e).size)||(X.ti (Fz.getD 1 0)).kind.isSome then none else
    if(es.length+xs.length)*(X.ti e).bytes<=2^47/\es.length+xs.length<=2^62 then
     match s with
     | .sl true []=>some ((.bU (n0+kk) 0 xs.length),aO hp (n0+kk) (some ⟨(X.ti e).size,xs,kp⟩),(n0+kk)+1)
     | .sl true _=>if kx|| !(es.all fun v=>v.cells.length==(X.ti e).size) then none else some ((.sl false (es++xs)),hp,(n0+kk))
     | .bU id _ _=>match hp id with
      |some ob=>if ob.k=(X.ti e).size then some ((.bU (n0+kk) 0 (es.length+xs.length)),aO (aO hp id none) (n0+kk) (some ⟨(X.ti e).size,es++xs,kp⟩),(n0+kk)+1) else none
      |none=>none
     |_=>none
    else none
   |_,_=>none
  |_=>none)) fun v h'=>fW X fx cG n0 (kk+1) r ⟨aO ff d v,h',n⟩ K:=eP (fun _=>rfl) rfl rfl
theorem Dx(uL)(Fz):fW X fx cG n0 kk (⟨(some d),.call ⟨.builtin .copy,uL,Fz⟩,ty,ps,af,none⟩::r) ⟨ff,hp,n⟩ K=
  jw (mark (match uL.toList.map (lV ff) with
  | [.bU id s l,x]=>match hp id,elems hp x with
   |some ob,some (xs,kx)=>
    if x.isStr||(kx&& !ob.dG)|| !(xs.all fun v=>v.cells.length==ob.k) then none else
    if s+l<=ob.es.length/\ob.k=(X.ti (X.ti (Fz.getD 0 0)).elem).size then
     some ((.int .i64 (min xs.length l:Nat)),aO hp id (some {ob with es:=ob.es.take s++xs.take (min xs.length l)++ob.es.drop (s+min xs.length l)}),(n0+kk))
    else none
   |_,_=>none
  |_=>none)) fun v h'=>fW X fx cG n0 (kk+1) r ⟨aO ff d v,h',n⟩ K:=eP (fun _=>rfl) rfl rfl
theorem aew(t:Nat):lV ff (.tmp t)=ff t:=rfl
theorem SB(v:Value):lV ff (.const v)=sm v:=rfl
theorem ala(g:FuncId):lV ff (.func g)= .fn g [] []:=rfl
theorem SC(S:St)(t:Nat)(v:V):S.set (some t) v=⟨aO S.f t v,S.h,S.n⟩:=rfl
end
theorem SD(X:Env)(f key:Nat)(S:St):mj X f key S=match X.norm f key with|some N=>N.run S|none=>some S:=rfl
theorem SF(n:Nat)(w:V):ub (some n) (.sl true []) w= .bU n 0 0:=rfl
theorem OO(v w:V):ub none v w=w:=by unfold ub;split<;>rfl
theorem XR(o:Option Nat)(es:List V)(w:V):ub o (.sl false es) w=w:=rfl
theorem SH(o:Option Nat)(k:IntKind)(n:Int)(w:V):ub o (.int k n) w=w:=rfl
theorem OP(o:Option Nat)(b:Bool)(w:V):ub o (.bool b) w=w:=rfl
theorem SI(o:Option Nat)(b:List UInt8)(w:V):ub o (.str b) w=w:=rfl
theorem SJ(o:Option Nat)(i s l:Nat)(w:V):ub o (.bU i s l) w=w:=rfl
theorem SK(o:Option Nat)(i s l:Nat)(w:V):ub o (.ptr i s l) w=w:=rfl
theorem XS(o:Option Nat)(g:FuncId)(a b:List V)(w:V):ub o (.fn g a b) w=w:=rfl
section
variable (S:St) (N:Norm) (hx:aY)
theorem SL(k:IntKind)(n:Int):Dd S N hx (.int k n)= .int k n:=rfl
theorem SM(b:List UInt8):Dd S N hx (.str b)= .str b:=rfl
theorem XT(c:Bool)(es:List V):Dd S N hx (.sl c es)= .sl false es:=rfl
theorem XU(g:FuncId)(a b:List V):Dd S N hx (.fn g a b)= .fn g (a.map (E3 S N hx)) (b.map (E3 S N hx)):=rfl
theorem SN(i s l:Nat):Dd S N hx (.bU i s l)=fixC S N hx (.bU i s l):=rfl
theorem SO(i s l:Nat):Dd S N hx (.ptr i s l)=fixC S N hx (.ptr i s l):=rfl
theorem SP(k:IntKind)(n:Int):fixC S N hx (.int k n)= .int k n:=rfl
theorem OQ(b:Bool):fixC S N hx (.bool b)= .bool b:=rfl
theorem XV(c:Bool)(es:List V):fixC S N hx (.sl c es)= .sl false es:=rfl
theorem SQ(id s l:Nat):fixC S N hx (.bU id s l)=match look S id N.roots with
  |some j=> .bU j s l
  |none=>match bT hx depth (.bU id s l) with
   |some v=>v
   |none=> .bad:=rfl
theorem SR(id i f:Nat):fixC S N hx (.ptr id i f)=match look S id N.roots with
  |some j=> .ptr j i f
  |none=> .bad:=rfl
theorem KM(id:Nat)(ob:Ob):Bo S N hx id (some ob)=if ob.dG=true then
   match ob.es with
   | [e]=>some ⟨ob.k,[GD S N hx id e],true⟩
   |es=>if es.all V.JJ=true then some ob else none
  else some ob:=rfl
end
theorem SS(t:List Nat)(r:List Gr)(n:Nat)(S:St):(⟨t,r,false,n⟩:Norm).first S=true:=rfl
theorem OS(t:List Nat)(a:Gr)(r:List Gr)(n:Nat)(S:St):(⟨t,a::r,true,n⟩:Norm).first S=(a.new==0&& (a.loc.val S).root==some 0):=rfl
theorem SU(i s l:Nat):(V.bU i s l).root=some i:=rfl
theorem SV(i:Nat):(V.ptr i 0 0).root=some i:=rfl
theorem XW(c:Bool)(es:List V):(V.sl c es).root=none:=rfl
theorem OT(i:Nat):(V.ptr i 0 0).boxed=some i:=rfl
theorem XX(S:St)(t:Nat):(Loc.box t).val S=S.f t:=rfl
theorem SW(S:St)(t:Nat):(Loc.slot t).val S=S.f t:=rfl
theorem SX(S:St)(t j:Nat):(Loc.cell t j).val S=match S.f t with
  | .ptr id 0 0=>match S.h id with
   |some ob=>match ob.es with
    | [e]=>e.cells.getD j .bad
    |_=> .bad
   |none=> .bad
  |_=> .bad:=rfl
theorem SY(S:St)(id:Nat):look S id []=none:=rfl
theorem OU(S:St)(id:Nat)(a:Gr)(r:List Gr):look S id (a::r)=if(a.loc.val S).root=some id then some a.new else look S id r:=rfl
theorem H5(t:Nat):vo t []=none:=rfl
theorem FB(t:Nat)(a:Gr)(r:List Gr):vo t (a::r)=if a.loc= .slot t then some a.new else vo t r:=rfl
theorem H6(S:St)(id j:Nat):nd S id j []=none:=rfl
theorem H7(S:St)(id j t n k:Nat)(kp:Bool)(r:List Gr):nd S id j (⟨.box t,n,k,kp⟩::r)=nd S id j r:=rfl
theorem FC(S:St)(id j t n k:Nat)(kp:Bool)(r:List Gr):nd S id j (⟨.slot t,n,k,kp⟩::r)=nd S id j r:=rfl
theorem FD(S:St)(id j t j' n k:Nat)(kp:Bool)(r:List Gr):nd S id j (⟨.cell t j',n,k,kp⟩::r)=if j'=j/\(S.f t).boxed=some id then some n else nd S id j r:=rfl
theorem OV(h:aY):ep h []=h:=rfl
theorem KN(h:aY)(id:Nat)(r:List (Option Nat)):ep h (some id::r)=aO (ep h r) id none:=rfl
theorem KO(h:aY)(r:List (Option Nat)):ep h (none::r)=ep h r:=rfl
theorem FE(id:Nat)(ops:Array Oper)(d:Bool):gZ (.region id ops d)=id:=rfl
theorem OW(a b:Code):gZ (.seq a b)=gZ a:=rfl
theorem H8(id:Nat)(b:Code):gZ (.block id b)=gZ b:=rfl
theorem OX(h:aY):mY h []=some ([],h):=rfl
theorem KP(h:aY)(v:V)(r:List V):mY h (v::r)=match qu h v with
  |some (v',h1)=>match mY h1 r with
   |some (r',h2)=>some (v'::r',h2)
   |none=>none
  |none=>none:=rfl
theorem SZ(cs:List V):(V.agg cs).JJ=cs.all V.oR:=rfl
theorem XY(n:Nat)(m:Mask)(v:V):rT n m v=rR (fun i j c=>match kM n m i j with
 |some (q,_)=>match c with
  | .sl _ es=> .bU q 0 es.length
  |_=> .bad
 |none=>c) v:=rfl
theorem OY(F:Nat->Nat->V->V)(vs:List V):rR F (.de vs)= .de (oS (fun i v=>ry (F i) v) 0 vs):=rfl
theorem S5(F:Nat->Nat->V->V)(vs:List V):rR F (.agg vs)= .agg (oS (F 0) 0 vs):=rfl
theorem XZ(F:Nat->Nat->V->V)(c:Bool)(es:List V):rR F (.sl c es)=F 0 0 (.sl c es):=rfl
theorem S6(F:Nat->Nat->V->V)(i s l:Nat):rR F (.bU i s l)=F 0 0 (.bU i s l):=rfl
theorem OZ(F:Nat->V->V)(vs:List V):ry F (.agg vs)= .agg (oS F 0 vs):=rfl
theorem X0(F:Nat->V->V)(c:Bool)(es:List V):ry F (.sl c es)=F 0 (.sl c es):=rfl
theorem S7(F:Nat->V->V)(i s l:Nat):ry F (.bU i s l)=F 0 (.bU i s l):=rfl
theorem S8(F:Nat->V->V)(k:IntKind)(n:Int):ry F (.int k n)=F 0 (.int k n):=rfl
theorem O0(F:Nat->V->V)(b:Bool):ry F (.bool b)=F 0 (.bool b):=rfl
theorem S9(F:Nat->V->V)(n:Nat):oS F n []=[]:=rfl
theorem O2(F:Nat->V->V)(n:Nat)(c:V)(cs:List V):oS F n (c::cs)=F n c::oS F (n+1) cs:=rfl
theorem KQ(n i j:Nat):kM n [] i j=none:=rfl
theorem H9(n i j a b:Nat)(t:TypeId)(r:Mask):kM n ((a,b,t)::r) i j=if a=i/\b=j then some (n,t) else kM (n+1) r i j:=rfl
theorem KR(vs:List V)(i j:Nat):(V.de vs).cellAt i j=(vs.getD i .bad).cells.getD j .bad:=rfl
theorem KS(vs:List V)(i j:Nat):(V.agg vs).cellAt i j=if i=0 then vs.getD j .bad else .bad:=rfl
theorem O3(c:Bool)(es:List V)(i j:Nat):(V.sl c es).cellAt i j=if i=0 then [V.sl c es].getD j .bad else .bad:=rfl
theorem KT(a b c i j:Nat):(V.bU a b c).cellAt i j=if i=0 then [V.bU a b c].getD j .bad else .bad:=rfl
theorem X2(X:Env)(h:aY)(v:V)(m:Mask):GC X h v m=xG X h (ep h (eZ v m)) v m:=rfl
theorem X3(X:Env)(h hx:aY)(v:V)(m:Mask):xG X h hx v m=if(rS (eZ v m)&&m.all (fun q=>(rowAt X h hx q.2.2 (v.cellAt q.1 q.2.1)).isSome))=true then some (rR (jH X h hx m) v) else none:=rfl
theorem KU(X:Env)(g:FuncId)(k:Nat)(R:V):kg X g k R=tZ X (X.eh g) R 1 (X.dM g) (aO (fun _=>none) 0 (some ⟨k,[rT 1 (X.dM g) R],true⟩)):=rfl
theorem Ta(X:Env)(M:Mask)(v:V)(h:aY):xJ X M v h=match h 0 with
 |some lU=>
  match lU.es with
  | [e']=>if lU.dG then
    match GC X (aO h 0 none) (nF e' v) M with
    |some (.de (r::rs))=>some (lU.k,r,rs)
    |_=>none
   else none
  |_=>none
 |none=>none:=rfl
theorem O4(e:V)(vs:List V):nF e (.de vs)= .de (e::vs):=rfl
theorem O5(e:V)(vs:List V):nF e (.agg vs)= .de [e,.agg vs]:=rfl
theorem O7(e:V)(k:IntKind)(n:Int):nF e (.int k n)= .de [e,.int k n]:=rfl
theorem Tb(e:V)(c:Bool)(es:List V):nF e (.sl c es)= .de [e,.sl c es]:=rfl
theorem O8(e:V)(i s l:Nat):nF e (.bU i s l)= .de [e,.bU i s l]:=rfl
theorem Eh(a vs:List V):uq (.de a) vs= .de vs:=rfl
theorem KV(v:V)(vs:List V):Bn (.de (v::vs))=v:=rfl
theorem KW(v:V)(vs:List V):Mo (.de (v::vs))=vs:=rfl
theorem O9(X:Env)(bO:FuncId)(dst:Option Nat)(g:FuncId):o7 X bO dst g=X.dM g++(dst.elim [] (X.mask bO)).map fun q=>(q.1+1,q.2.1,q.2.2):=rfl
theorem KX(v:V)(m:Mask):eZ v m=m.map fun q=>(v.cellAt q.1 q.2.1).src:=rfl
theorem KY(X:Env)(h hx:aY)(m:Mask)(i j:Nat)(c:V):jH X h hx m i j c=match kM 0 m i j with
 |some (_,t)=>match rowAt X h hx t c with
  |some es=> .sl false es
  |none=> .bad
 |none=>match bT hx depth c with
  |some c'=>c'.jm
  |none=> .bad:=rfl
theorem Pa(X:Env)(h hx:aY)(t:TypeId):rowAt X h hx t (.sl true [])=some []:=rfl
theorem Pb(X:Env)(h hx:aY)(t:TypeId)(id s l:Nat):rowAt X h hx t (.bU id s l)=match h id with
  |some ob=>if ob.k=(X.ti t).size/\s+l<=ob.es.length then match cn (((ob.es.drop s).take l).map (bT hx depth)) with
    |some es=>some (df es)
    |none=>none
   else none
  |none=>none:=rfl
theorem X5(i s l:Nat):(V.bU i s l).src=some i:=rfl
theorem aex(c:Bool)(es:List V):(V.sl c es).src=none:=rfl
theorem Gr.alb(S:St)(N:Norm)(hx:aY)(loc:Loc)(new k:Nat)(dG:Bool):(⟨loc,new,k,dG⟩:Gr).ob S N hx=JL S N hx k dG (loc.val S):=rfl
theorem Tc(S:St)(N:Norm)(hx:aY)(k:Nat)(dG:Bool):JL S N hx k dG (.sl true [])=some ⟨k,[],dG⟩:=rfl
theorem Td(S:St)(N:Norm)(hx:aY)(k:Nat)(dG:Bool)(id s l:Nat):JL S N hx k dG (.bU id s l)=Bo S N hx id (S.h id):=rfl
theorem Tf(S:St)(N:Norm)(hx:aY)(k:Nat)(dG:Bool)(id:Nat):JL S N hx k dG (.ptr id 0 0)=Bo S N hx id (S.h id):=rfl
theorem KZ:rS []=true:=rfl
theorem Ia(a:Option Nat)(r:List (Option Nat)):rS (a::r)=(r.all (differ a)&&rS r):=rfl
theorem Ib(a b:Nat):differ (some a) (some b)=(a !=b):=rfl
theorem Ie(b:Option Nat):differ none b=true:=rfl
theorem FF(b:Option Nat):differ b none=true:=by cases b<;>rfl
attribute [simp ↓] Hu Ot Sm Hv Ou Sn Fu Kw Ov uK B3 XK XL aeq aer XM Sq aes Sp OH Sw Sx KL Sy OI XQ OJ B4 Sz OK Fx OL SA HY Du OM Dv Dw ON HZ Fy FA AR Dx
attribute [simp ↓] MS
attribute [simp] KD KE KF OA KG Ss Su XP Sv KJ OE MS Kx Hz Fv KA Ow Kz So Ox XN OC XO
attribute [simp] V.tY.eq_1 V.tY.eq_2 V.tY.eq_3 V.GB.eq_1 V.GB.eq_2 V.scalar.eq_1 V.scalar.eq_2 V.uo.eq_1 V.uo.eq_2 V.leaf.eq_1 V.leaf.eq_2 V.leaf.eq_3 V.leaf.eq_4 V.leaf.eq_5 bT.eq_1 bT.eq_2 bT.eq_3 bT.eq_4 bT.eq_5 bT.eq_6 bT.eq_7 bT.eq_8 bT.eq_9 bT.eq_10 df.eq_1 df.eq_2 V.jm.eq_1 V.jm.eq_2 V.jm.eq_3 V.jm.eq_4 aet.eq_1 aeu.eq_1 depth.eq_1
attribute [simp] SD SF OO XR SH OP SI SJ SK XS SL SM XT XU SN SO SP OQ XV SQ SR KM Gr.alb Tc Td Tf KZ Ia Ib Ie FF Norm.run.eq_1 Norm.pY.eq_1 SS OS fixF.eq_1 fixF.eq_2 JM.eq_1 JM.eq_2 GD.eq_1 wh.eq_1 wh.eq_2 SU SV XW OT XX SW SX SY OU H5 FB H6 H7 FC FD OV KN KO FE OW H8 OX KP SZ XY tZ.eq_1 tZ.eq_2 xH.eq_1 OY S5 XZ S6 OZ X0 S7 S8 O0 S9 O2 KQ H9 KR KS O3 KT X2 X3 KU Ta O4 O5 O7 Tb O8 Eh KV KW O9 KX KY Pa Pb X5 aex OB
attribute [simp] XI KH aew SB ala SC
attribute [simp 700] Ky Hw KI HU
attribute [simp 500] HD KB Hy
end Go.Abs
