import Derived.Test.YtdngefmliibcgaaGreatB00
set_option linter.all false
set_option maxRecDepth 20000
set_option maxHeartbeats 0
namespace Go.Abs
open Go
variable  {α:Type}{fn:Func}{b c:Code}{v v' R:V}{p q:Prop}{m M:Mask}
section
variable (X:Env) (f:FuncId) (S:St)
theorem XU:ev X f .skip S=some (.normal,S):=c0
theorem XI(id:Nat):ev X f (.exit id) S=some (.exit id,S):=c0
theorem SP:ev X f .ret S=some (.ret,S):=c0
open Classical in
theorem Wd(id:Nat)(ops:Array Oper)(d:Bool):ev X f (.region id ops d) S=
  (match pD X f (2*id) S with
  |some S=>(match gZ X (df X) f (ops.toList.map (·.dst)) S.n 0 ops.toList {S with n:=S.n+ops.size} with
   |some S1=>if lL X (df X) f ops.toList S.n {S with n:=S.n+ops.size} S1 (X.uz f id) then some (.normal,S1) else none
   |none=>none)
  |none=>none):=c0
theorem SG(a b:Code):ev X f (.seq a b) S=(match ev X f a S with|some (.normal,S1)=>ev X f b S1|r=>r):=c0
theorem XH(x:Operand)(a b:Code):ev X f (.cond x a b) S=(match S.ev x with| .bool t=>if t then ev X f a S else ev X f b S|_=>none):=c0
theorem aau(id:Nat)(b:Code):ev X f (.block id b) S=(match ev X f b S with|some (.exit i,S1)=>if i=id then some (.normal,S1) else some (.exit i,S1)|r=>r):=c0
theorem LM(b:Code):ev X f (.loop b) S=(match pD X f (2*je b+1) S with|some S=>(match ev X f b S with|some (.normal,S1)=>ev X f (.loop b) S1|r=>r)|none=>none):=c0
end
def Hq(X:Env)(call:jv)(cR:FuncId)(ops:List Oper)(n0:Nat)(S0 S1:St):lL X call cR ops n0 S0 S1 []=True:=by
 simp[lL]
def We(f:Nat->α)(t:Nat)(v:α)(u:Nat):bB f t v u=if u=t then v else f u:=(rfl)
def aav{X:Env}{g:FuncId}(f:X.P.funcs[g]?=some fn)(e:fn.body=some b)(args:List V)(h:bI)(k:Nat)(hp:X.pO g=none:=by rfl):
  df X g args h k=xf X fn.results.toList (ev X g b ⟨pS args,h,k⟩):=by
 unfold df dV
 grind
def Wf(cs:List V):(V.agg cs).cells=cs:=(rfl)
def Wg(k:IntKind)(n:Int):(V.int k n).cells=[.int k n]:=(rfl)
def Rq(b:Bool):(V.bool b).cells=[.bool b]:=(rfl)
def aaw(c:Bool)(es:List V):(V.sl c es).cells=[.sl c es]:=(rfl)
def Wh(i s l:Nat):(V.cX i s l).cells=[.cX i s l]:=(rfl)
def Wi(i s l:Nat):(V.ptr i s l).cells=[.ptr i s l]:=(rfl)
attribute [simp] Wf Wg Rq aaw Wh Wi
attribute [simp] Hq
def Wj(args:List V)(t:Nat):pS args t=(match args[t]? with|some v=>v|none=> .bad):=(rfl)
attribute [simp] We Wj St.new.eq_1 xe.eq_1 xe.eq_2 yc.eq_1 yc.eq_2 yc.eq_3 yc.eq_4 yc.eq_5 yc.eq_6 yc.eq_7 Go.Abs.part.eq_1 Gq.eq_1 Gq.eq_2 Gq.eq_3 Gq.eq_4 elems.eq_1 elems.eq_2 elems.eq_3 elems.eq_4 uA.eq_1 uA.eq_2 uA.eq_3 uA.eq_4 uA.eq_5 uA.eq_6 uA.eq_7 uA.eq_8 uA.eq_9 uA.eq_10 uA.eq_11 uA.eq_12 uA.eq_13 uA.eq_14 uA.eq_15 uA.eq_16 uA.eq_17 CG.eq_1 CG.eq_2 ws.eq_1 ws.eq_2 ws.eq_3 QL.eq_1 QL.eq_2 QL.eq_3 QL.eq_4 QL.eq_5 QL.eq_6 QL.eq_7 QL.eq_8 QL.eq_9 V.eqv.eq_1 V.eqv.eq_2 V.eqv.eq_3 V.eqv.eq_4 Bg.eq_1 Bg.eq_2 Bg.eq_3 V.put.eq_1 V.put.eq_2 lK.eq_1 lK.eq_2 lK.eq_3 lK.eq_4 lK.eq_5 yX.eq_1 yX.eq_2 rE.eq_1 rE.eq_2 V.fits.eq_1 V.fits.eq_2 V.fits.eq_3 V.fits.eq_4 re.eq_1 re.eq_2 eY.eq_1 eY.eq_2 pQ.eq_1 pQ.eq_2 mV.eq_1 mV.eq_2 V.pP.eq_1 V.pP.eq_2 V.pP.eq_3 V.pP.eq_4 V.pP.eq_5 V.pP.eq_6 V.pP.eq_7 V.pP.eq_8 V.CH.eq_1 V.CH.eq_2 V.isStr.eq_1 V.isStr.eq_2 TI.isStr.eq_1 di.eq_1 di.eq_2 di.eq_3 nO.eq_1 xf.eq_1 xf.eq_2 xf.eq_3 Zm.eq_1 Zm.eq_2 Zm.eq_3 bounds.eq_1
def mark{l:Type}(x:l):l:=x
def XG(x:α):mark x=x:=(rfl)
def Wp(X:Env)(f:FuncId)(c:Code)(S:St)(Q:Ex->St->Prop):Prop:= ∃e S1,ev X f c S=some (e,S1)/\Q e S1
def zm(X:Env)(f:FuncId)(b:Code)(Q:Ex->St->Prop):Ex->St->Prop
 | .normal,S=>Wp X f b S Q
 |e,S=>Q e S
def Wk(id:Nat)(Q:Ex->St->Prop):Ex->St->Prop
 | .exit i,S=>if i=id then Q .normal S else Q (.exit i) S
 |e,S=>Q e S
def na(r:Option St)(K:St->Prop):Prop:=
 match r with
 |some S=>K S
 |none=>False
def KB(X:Env)(f:FuncId)(key:Nat)(Inv:Nat->St->Prop)(i N:Nat)(Q:Ex->St->Prop):Ex->St->Prop
 | .normal,S=>i<N/\na (mark (pD X f key S)) (Inv (i+1))
 |e,S=>Q e S
section
variable {X:Env} {f:FuncId} {S:St} {Q:Ex->St->Prop}
theorem Oh(b:Code):zm X f b Q .normal S=Wp X f b S Q:=(rfl)
theorem Wl(b:Code)(i:Nat):zm X f b Q (.exit i) S=Q (.exit i) S:=(rfl)
theorem aax(b:Code):zm X f b Q .ret S=Q .ret S:=(rfl)
theorem Oi(id:Nat):Wk id Q .normal S=Q .normal S:=(rfl)
theorem Wn(id i:Nat):Wk id Q (.exit i) S=(if i=id then Q .normal S else Q (.exit i) S):=(rfl)
theorem aay(id:Nat):Wk id Q .ret S=Q .ret S:=(rfl)
theorem LN(key:Nat)(Inv:Nat->St->Prop)(i N:Nat):KB X f key Inv i N Q .normal S=(i<N/\na (mark (pD X f key S)) (Inv (i+1))):=(rfl)
theorem Rr(key:Nat)(Inv:Nat->St->Prop)(i N k:Nat):KB X f key Inv i N Q (.exit k) S=Q (.exit k) S:=(rfl)
theorem Wo(key:Nat)(Inv:Nat->St->Prop)(i N:Nat):KB X f key Inv i N Q .ret S=Q .ret S:=(rfl)
theorem Rt(K:St->Prop):na (some S) K=K S:=(rfl)
theorem Ru(K:St->Prop):na none K=False:=(rfl)
theorem Rv(c:Prop)[Decidable c](a:Option St)(K:St->Prop):na (if c then a else none) K=(c/\(c->na (mark a) K)):=by
 by_cases h:c<;>simp[h,na,mark]
theorem Oj(c:Prop)[Decidable c](a:Option St)(K:St->Prop):na (if c then none else a) K=(¬c/\(¬c->na (mark a) K)):=by
 by_cases h:c<;>simp[h,na,mark]
def iU(X:Env)(cR:FuncId)(dF:List (Option Nat))(n0 k:Nat)(ops:List Oper)(S:St)(K:St->Prop):Prop:=na (gZ X (df X) cR dF n0 k ops S) K
def sV(v:V)(w:Bool)(f:Nat->V)(d:Nat)(p q:(Nat->V)->Prop):Prop:=
 match v with
 | .bool b=>if b=w then p f else q f
 | .ed []=>q f
 |_=>False
theorem Wq(f:Nat->V)(d:Nat)(p q:(Nat->V)->Prop):sV (.bool true) true f d p q=p f:=by simp[sV]
theorem aaz(f:Nat->V)(d:Nat)(p q:(Nat->V)->Prop):sV (.bool false) true f d p q=q f:=by simp[sV]
theorem Rw(f:Nat->V)(d:Nat)(p q:(Nat->V)->Prop):sV (.bool false) false f d p q=p f:=by simp[sV]
theorem Wr(f:Nat->V)(d:Nat)(p q:(Nat->V)->Prop):sV (.bool true) false f d p q=q f:=by simp[sV]
theorem Rx(w:Bool)(f:Nat->V)(d:Nat)(p q:(Nat->V)->Prop):sV (.ed []) w f d p q=q f:=(rfl)
theorem Ol{f:Nat->V}{d:Nat}(h:f d=v):bB f d v=f:=aV
theorem Ry{b:Bool}{f:Nat->V}{d:Nat}{p q:(Nat->V)->Prop}(h:f d= .bool b):sV (.bool b) true f d p q=((b=true->p (bB f d (.bool true)))/\(b=false->q (bB f d (.bool false)))):=by
 cases b<;>rw[Ol h]<;>simp[sV]
theorem Om{b:Bool}{f:Nat->V}{d:Nat}{p q:(Nat->V)->Prop}(h:f d= .bool b):sV (.bool b) false f d p q=((b=false->p (bB f d (.bool false)))/\(b=true->q (bB f d (.bool true)))):=by
 cases b<;>rw[Ol h]<;>simp[sV]
theorem aa0(dF:List (Option Nat))(n0 k:Nat)(K:St->Prop):iU X f dF n0 k [] S K=K S:=(rfl)
theorem xp(dF:List (Option Nat))(n0 k:Nat)(o:Oper)(r:List Oper)(K:St->Prop):iU X f dF n0 k (o::r) S K=
  match o.guard with
  |none=>na (fD X (df X) f n0 k o S) fun S1=>iU X f dF n0 (k+1) r S1 K
  |some (j,w)=>match dF[j]? with
   |some (some d)=>sV (S.f d) w S.f d (fun _=>na (fD X (df X) f n0 k o S) fun S1=>iU X f dF n0 (k+1) r S1 K) (fun _=>iU X f dF n0 (k+1) r (S.set o.dst (.ed [])) K)
   |_=>False:=by
 unfold iU;rw[gZ];cases o.guard with
 |none=>cases fD X (df X) f n0 k o S<;>rfl
 |some p=>
  obtain⟨j,w⟩:=p;simp only;cases dF[j]? with
  |none=>rfl
  |some x=>
   cases x with
   |none=>rfl
   |some d=>
    simp only;cases h:S.f d with
    |bool b=>
     simp only[sV];split
     .cases fD X (df X) f n0 k o S<;>rfl
     .rfl
    |ed l=>cases l<;>rfl
    |_=>rfl
theorem Hr{e:Ex}{S1:St}(h:ev X f c S=some (e,S1)):Wp X f c S Q=Q e S1:=by
 apply propext;constructor
 .rintro⟨F,j,h',q⟩
  grind
 .intro q;exact⟨e,S1,h,q⟩
theorem Xr:Wp X f .skip S Q=Q .normal S:=Hr (XU X f S)
theorem Xq(id:Nat):Wp X f (.exit id) S Q=Q (.exit id) S:=Hr (XI X f S id)
theorem R_:Wp X f .ret S Q=Q .ret S:=Hr (SP X f S)
theorem R4(a b:Code):Wp X f (.seq a b) S Q=Wp X f a S (zm X f b Q):=by
 apply propext;unfold Wp;rw[SG];constructor
 .rintro⟨e,S1,h,q⟩;cases W:ev X f a S with
  |none=>grind
  |some x=>
   obtain⟨p,T⟩:=x;rw[W]at h;refine⟨p,T,rfl,?_⟩;cases p with
   |normal=>exact⟨e,S1,h,q⟩
   |exit i=>
    exact n5
   |ret=>
    exact n5
 .rintro⟨e,S1,h,q⟩;rw[h];cases e with
  |normal=>
   obtain⟨p,T,K,c⟩:=q
   grind
  |exit i=>exact⟨_,_,rfl,q⟩
  |ret=>exact⟨_,_,rfl,q⟩
def oz(f:Nat->V):Operand->V
 | .tmp t=>f t
 | .const v=>xe v
 | .func g=> .fn g [] []
 | .global _=> .bad
theorem Mi(S:St):oz S.f=S.ev:=by funext x;cases x<;>rfl
def choose(v:V)(p q:Prop):Prop:=
 match v with
 | .bool true=>p
 | .bool false=>q
 |_=>False
theorem On(p q:Prop):choose (.bool true) p q=p:=(rfl)
theorem LO(p q:Prop):choose (.bool false) p q=q:=(rfl)
theorem Oo(b:Bool)(p q:Prop):choose (.bool b) p q=((b=true->p)/\(b=false->q)):=by cases b<;>simp[choose]
theorem Xp(x:Operand)(a b:Code):Wp X f (.cond x a b) S Q=choose (mark (oz S.f x)) (Wp X f a S Q) (Wp X f b S Q):=by
 show(Wp X f (.cond x a b) S Q)=choose (S.ev x) (Wp X f a S Q) (Wp X f b S Q);unfold Wp;rw[XH];cases S.ev x with
 |bool t=>cases t<;>simp[choose]
 |_=>simp[choose]
theorem aa2(id:Nat)(b:Code):Wp X f (.block id b) S Q=Wp X f b S (Wk id Q):=by
 apply propext;unfold Wp;rw[aau];constructor
 .rintro⟨e,S1,h,q⟩;cases g:ev X f b S with
  |none=>grind
  |some x=>
   obtain⟨p,T⟩:=x;rw[g]at h;refine⟨p,T,rfl,?_⟩;cases p with
   |normal=>
    exact n5
   |exit i=>
    simp only at h;simp only[Wk]
    grind
   |ret=>
    exact n5
 .rintro⟨e,S1,h,q⟩;rw[h];cases e with
  |normal=>exact⟨_,_,rfl,q⟩
  |exit i=>
   simp only[Wk]at q
   grind
  |ret=>exact⟨_,_,rfl,q⟩
def vq(l:List (Nat×Nat))(p:List (Nat×Nat)->Prop):Prop:=p l
theorem Ws(id:Nat)(ops:Array Oper)(d:Bool):Wp X f (.region id ops d) S Q=
  na (mark (pD X f (2*id) S)) fun S=>iU X f (ops.toList.map (·.dst)) S.n 0 ops.toList ⟨S.f,S.h,S.n+ops.size⟩ fun S1=>vq (mark (X.uz f id)) (lL X (df X) f ops.toList S.n {S with n:=S.n+ops.size} S1)/\Q .normal S1:=by
 show _=na (pD X f (2*id) S) fun S=>iU X f (ops.toList.map (·.dst)) S.n 0 ops.toList {S with n:=S.n+ops.size} fun S1=>lL X (df X) f ops.toList S.n {S with n:=S.n+ops.size} S1 (X.uz f id)/\Q .normal S1;unfold Wp iU;rw[Wd];cases h:pD X f (2*id) S with
 |none=>simp[na]
 |some S=>
 simp only[na]
 grind
theorem R3(id:Nat)(l:List Oper)(d:Bool):Wp X f (.region id l.toArray d) S Q=
  na (mark (pD X f (2*id) S)) fun S=>iU X f (l.map (·.dst)) S.n 0 l ⟨S.f,S.h,S.n+l.length⟩ fun S1=>vq (mark (X.uz f id)) (lL X (df X) f l S.n {S with n:=S.n+l.length} S1)/\Q .normal S1:=by
 rw[Ws]
 grind
theorem nG(Inv:Nat->St->Prop)(N:Nat)(step: ∀i S,i<=N->Inv i S->Wp X f b S (KB X f (2*je b+1) Inv i N Q)): ∀(i:Nat) {S:St},i<=N->na (mark (pD X f (2*je b+1) S)) (Inv i)->Wp X f (.loop b) S Q:=by
 suffices h: ∀(k i:Nat) {S:St},N-i=k->i<=N->na (pD X f (2*je b+1) S) (Inv i)->Wp X f (.loop b) S Q from fun i S j h0=>h (N-i) i rfl j h0;intro k;induction k with
 |zero=>
  intro i S y j h0;cases n:pD X f (2*je b+1) S with
  |none=>rw[n]at h0;exact absurd h0 (fun h=>h)
  |some D=>
  rw[n]at h0;obtain⟨e,S1,h,q⟩:=step i D j h0;refine⟨e,S1,?_,?_⟩
  .rw[LM,n];simp only;rw[h];cases e with
   |normal=>exact absurd q.1 ab
   |exit i=>rfl
   |ret=>rfl
  .cases e with
   |normal=>exact absurd q.1 ab
   |exit i=>exact q
   |ret=>exact q
 |succ k l=>
  intro i S y j h0;cases n:pD X f (2*je b+1) S with
  |none=>rw[n]at h0;exact absurd h0 (fun h=>h)
  |some D=>
  rw[n]at h0;obtain⟨e,S1,h,q⟩:=step i D j h0;unfold Wp;rw[LM,n];simp only;rw[h];cases e with
  |normal=>
   obtain⟨V,v⟩:=q;exact l (i+1) ab V v
  |exit i=>exact⟨_,_,rfl,q⟩
  |ret=>exact⟨_,_,rfl,q⟩
end
def aa3{X:Env}{f:FuncId}{S j:St}{Q:Ex->St->Prop}(h:S=j):Wp X f c S Q=Wp X f c j Q:=dp
def Oq{r r':Option St}{K:St->Prop}(h:r=r'):na r K=na r' K:=dp
def Rz{X:Env}{cR:FuncId}{dF:List (Option Nat)}{n0 k:Nat}{ops:List Oper}{S j:St}{K:St->Prop}(h:S=j):iU X cR dF n0 k ops S K=iU X cR dF n0 k ops j K:=dp
def Ot{w:Bool}{f:Nat->V}{d:Nat}{p q:(Nat->V)->Prop}(h:v=v'):sV v w f d p q=sV v' w f d p q:=dp
def LP(h:v=v'):choose v p q=choose v' p q:=dp
attribute [congr] aa3 Oq LP Rz Ot
def W'(a b:Int):(a==b)=decide (a=b):=(rfl)
def RA(X:Env)(rs:List ResultVar)(K:V->bI->Nat->Prop):Ex->St->Prop
 | .exit _,_=>False
 |_,S=>match nO X rs S with|some v=>K v S.h S.n|none=>False
section
variable {X:Env} {S:St} {rs:List ResultVar} {K:V->bI->Nat->Prop}
theorem zS:RA X rs K .normal S=(match nO X rs S with|some v=>K v S.h S.n|none=>False):=(rfl)
theorem Hs:RA X rs K .ret S=(match nO X rs S with|some v=>K v S.h S.n|none=>False):=(rfl)
end
def bJ {X:Env} {g:FuncId}   {rs:List ResultVar} (f:X.P.funcs[g]?=some fn) (j:fn.body=some b) (r:fn.results=⟨rs⟩) {args:List V} {h:bI} {k:Nat} {K:V->bI->Nat->Prop}
  (w:Wp X g b ⟨pS args,h,k⟩ (RA X rs K)) (hp:X.pO g=none:=by rfl): ∃v h' k',df X g args h k=some (v,h',k')/\K v h' k':=by
 have B:rs=fn.results.toList:=by rw[r]
 rw[B]at w;rw[aav f j (hp:=hp)];obtain⟨e,S1,h1,L⟩:=w;rw[h1];cases e with
 |exit i=>exact absurd L (fun h=>h)
 |normal=>
  unfold xf;cases r:nO X fn.results.toList S1 with
  |none=>rw[zS,r]at L;grind
  |some v=>rw[zS,r]at L;grind
 |ret=>
  unfold xf;cases r:nO X fn.results.toList S1 with
  |none=>rw[Hs,r]at L;grind
  |some v=>rw[Hs,r]at L;grind
def ip{X:Env}{g:FuncId}{rs:List ResultVar}{args:List V}{h:bI}{k:Nat}{K:V->bI->Nat->Prop}(w:Wp X g b ⟨pS args,h,k⟩ (RA X rs K))(f:X.P.funcs[g]?=some fn:=by rfl)(e:fn.body=some b:=by rfl)(r:fn.results=⟨rs⟩:=by rfl)(hp:X.pO g=none:=by rfl): ∃v h' k',df X g args h k=some (v,h',k')/\K v h' k':=bJ f e r w (hp:=hp)
def CY {X:Env} {g:FuncId}   {rs:List ResultVar} (f:X.P.funcs[g]?=some fn) (i:fn.body=some b) (C:fn.results=⟨rs⟩) {args:List V} {h:bI} {k k':Nat}  {K:bI->Prop}
  (r:Wp X g b ⟨pS args,h,k⟩ (RA X rs fun w h1 k1=>w=v/\k1=k'/\K h1)) (hp:X.pO g=none:=by rfl): ∃h',df X g args h k=some (v,h',k')/\K h':=by
 obtain⟨_,h',_,e,rfl,rfl,q⟩:=bJ f i C r hp;grind
def z8{X:Env}{g:FuncId}{rs:List ResultVar}{args:List V}{h:bI}{k k':Nat}{K:bI->Prop}(q:Wp X g b ⟨pS args,h,k⟩ (RA X rs fun w h1 k1=>w=v/\k1=k'/\K h1))(f:X.P.funcs[g]?=some fn:=by rfl)(e:fn.body=some b:=by rfl)(r:fn.results=⟨rs⟩:=by rfl)(hp:X.pO g=none:=by rfl): ∃h',df X g args h k=some (v,h',k')/\K h':=CY f e r q (hp:=hp)
def mg:bI:=fun _=>none
def bD {X:Env} {g:FuncId}   {rs:List ResultVar} (f:X.P.funcs[g]?=some fn) (e:fn.body=some b) (C:fn.results=⟨rs⟩) {args:List V} {r:V}
  (w:Wp X g b ⟨pS args,mg,0⟩ (RA X rs fun v h _=>(da h depth v).map V.l6=some r)) (hp:X.pO g=none:=by rfl):cG X g args=some r:=by
 obtain⟨v,h,k,h1,K⟩:=bJ f e C w hp;unfold cG qK;simp only[hp];have u:df X g args (fun _=>none) 0=some (v,h,k):=h1
 grind
def ij{X:Env}{g:FuncId}{rs:List ResultVar}{args:List V}{r:V}(w:Wp X g b ⟨pS args,mg,0⟩ (RA X rs fun v h _=>(da h depth v).map V.l6=some r))(f:X.P.funcs[g]?=some fn:=by rfl)(e:fn.body=some b:=by rfl)(C:fn.results=⟨rs⟩:=by rfl)(hp:X.pO g=none:=by rfl):cG X g args=some r:=bD f e C w (hp:=hp)
def Ou: ∀l:List V,ft l=l.map V.l6
 | []=>rfl
 |c::cs=>by simp[ft,Ou cs]
noncomputable def mh(X:Env)(m:Mask)(g:FuncId)(args:List V):Option V:=
 match df X g args mg 0 with
 |some (v,h,_)=>Nr X h v m
 |none=>none
def lE {X:Env}  {g:FuncId}   {rs:List ResultVar} (f:X.P.funcs[g]?=some fn) (e:fn.body=some b) (C:fn.results=⟨rs⟩) {args:List V} {r:V}
  (w:Wp X g b ⟨pS args,mg,0⟩ (RA X rs fun v h _=>Nr X h v m=some r)) (hp:X.pO g=none:=by rfl):mh X m g args=some r:=by
 obtain⟨v,h,k,h1,K⟩:=bJ f e C w hp;unfold mh
 grind
def tS{X:Env}{g:FuncId}{rs:List ResultVar}{args:List V}{r:V}(w:Wp X g b ⟨pS args,mg,0⟩ (RA X rs fun v h _=>Nr X h v m=some r))(f:X.P.funcs[g]?=some fn:=by rfl)(e:fn.body=some b:=by rfl)(C:fn.results=⟨rs⟩:=by rfl)(hp:X.pO g=none:=by rfl):mh X m g args=some r:=lE f e C w (hp:=hp)
def yt:V->V
 | .ed _=> .ed []
 |_=> .bad
def RB(k:IntKind)(n:Int):yt (.int k n)= .bad:=(rfl)
def RC(l:List V):yt (.agg l)= .bad:=(rfl)
def Wt(c:Bool)(l:List V):yt (.sl c l)= .bad:=(rfl)
def RD(a b c:Nat):yt (.cX a b c)= .bad:=(rfl)
def Ov(v:V)(vs:List V):Bx (yt v) vs=Bx v vs:=by cases v<;>rfl
noncomputable def qP(X:Env)(M:Mask)(g:FuncId)(k:Nat)(R:V)(args:List V):Option (Nat×V×List V×V):=
 match df X g (.ptr 0 0 0::args) (mY X g k R) (1+(X.gy g).length) with
 |some (v,h,_)=>match CK X M v h with
  |some (k',r,s)=>some (k',r,s,yt v)
  |none=>none
 |none=>none
def Wu(X:Env)(cR:FuncId)(dst:Option Nat)(g:FuncId)(args:List V)(S:St):np X (df X) cR dst g args S=
  match sQ S.h args with
  |some (bxb,h1)=>
   match mh X (dst.elim [] (X.mask cR)) g bxb with
   |some r=>some ((⟨S.f,zj X (X.fV cR) r S.n (dst.elim [] (X.mask cR)) h1,S.n+(dst.elim [] (X.mask cR)).length⟩:St).set dst (wF S.n (dst.elim [] (X.mask cR)) r))
   |none=>none
  |none=>none:=by
 unfold np mh mg
 grind
def W_(X:Env)(cR:FuncId)(dst:Option Nat)(g:FuncId)(id:Nat)(s:List V)(S:St):wG X (df X) cR dst g (.ptr id 0 0::s) S=
  match S.h id with
  |some ob=>
   match ob.es with
   | [e]=>
    if ob.eP=true then
     match CI X (bB S.h id none) (fun _=>none) e (X.gy g) with
     |some R=>
      match sQ (gN (bB S.h id none) (iI e (X.gy g))) s with
      |some (bxb,h1)=>
       match qP X (tf X cR dst g) g ob.k R bxb with
       |some (k',r,c,v)=>
        some ((⟨S.f,zj X (X.fV cR) (.ed (r::c)) S.n (tf X cR dst g) (bB h1 id (some ⟨k',[Gs (wF S.n (tf X cR dst g) (.ed (r::c)))],true⟩)),S.n+(tf X cR dst g).length⟩:St).set dst
          (Bx v (TV (wF S.n (tf X cR dst g) (.ed (r::c))))))
       |none=>none
      |none=>none
     |none=>none
    else none
   |_=>none
  |none=>none:=by
 rw[wG.eq_1];cases S.h id with
 |none=>rfl
 |some ob=>
  simp only;cases E:ob.es with
  |nil=>rfl
  |cons e t=>
   cases t with
   |cons _ _=>rfl
   |nil=>
    cases ob.eP with
    |false=>rfl
    |true=>
     simp only[if_true];cases CI X (bB S.h id none) (fun _=>none) e (X.gy g) with
     |none=>rfl
     |some R=>
      cases sQ (gN (bB S.h id none) (iI e (X.gy g))) s with
      |none=>rfl
      |some x=>
       obtain⟨bxb,h1⟩:=x;simp only;unfold qP;cases df X g (V.ptr 0 0 0::bxb) (mY X g ob.k R) (1+(X.gy g).length) with
       |none=>rfl
       |some x=>
        obtain⟨v,h,n⟩:=x;simp only;cases CK X (tf X cR dst g) v h with
        |none=>rfl
        |some y=>
         simp only[Ov]
def hY {X:Env}  {g:FuncId}   {rs:List ResultVar} (f:X.P.funcs[g]?=some fn) (e:fn.body=some b) (C:fn.results=⟨rs⟩) {k:Nat}  {args:List V} {k':Nat} {r:V} {l:List V}
  (w:Wp X g b ⟨pS (.ptr 0 0 0::args),mY X g k R,1+(X.gy g).length⟩ (RA X rs fun v' h _=>CK X M v' h=some (k',r,l)/\yt v'=v)) (hp:X.pO g=none:=by rfl):
  qP X M g k R args=some (k',r,l,v):=by
 obtain⟨v',h,n,h1,K,rfl⟩:=bJ f e C w hp;unfold qP
 grind
def uF{X:Env}{g:FuncId}{rs:List ResultVar}{k:Nat}{args:List V}{k':Nat}{r:V}{l:List V}(w:Wp X g b ⟨pS (.ptr 0 0 0::args),mY X g k R,1+(X.gy g).length⟩ (RA X rs fun v' h _=>CK X M v' h=some (k',r,l)/\yt v'=v))(f:X.P.funcs[g]?=some fn:=by rfl)(e:fn.body=some b:=by rfl)(C:fn.results=⟨rs⟩:=by rfl)(hp:X.pO g=none:=by rfl):  qP X M g k R args=some (k',r,l,v):=hY f e C w (hp:=hp)
def Wv(X:Env)(cR:FuncId)(dst:Option Nat)(g:FuncId)(args:List V)(S:St):iv X (df X) cR dst g args S=
  match X.clone g with
  |some t=>
   match args with
   | [s]=>match elems S.h s with
    |some (es,k)=>if s.isStr||(k&& !X.fV cR (X.ti t).elem)|| !(es.all fun v=>v.cells.length==(X.ti (X.ti t).elem).size)|| !decide (es.length*(X.ti (X.ti t).elem).bytes<=2^47/\es.length<=2^62) then none else some ((S.new ⟨(X.ti (X.ti t).elem).size,es,X.fV cR (X.ti t).elem⟩).set dst (.cX S.n 0 es.length))
    |none=>none
   |_=>none
  |none=>
  if(X.ja g&& !X.low g)=true then
   match df X g args S.h S.n with
   |some (v,h,n)=>some (({S with h:=h,n:=n}:St).set dst v)
   |none=>none
  else if X.iu g=true then wG X (df X) cR dst g args S
  else if(!(dst.elim [] (X.mask cR)).isEmpty)=true then np X (df X) cR dst g args S
  else
   match di (args.map (da S.h depth)) with
   |some bxb=>
    if(dst.any (X.pz cR)&& !X.low g)=true then
     match df X g (ft bxb) mg S.n with
     |some (v,h,n)=>if(args.any V.zi&& !v.pu)=true then none else some (({S with h:=fun id=>if id<S.n then S.h id else if args.any V.zi=true then j6 (h id) else h id,n:=n}:St).set dst v)
     |none=>none
    else
     match cG X g (ft bxb) with
     |some v=>if(args.any V.zi&& !v.scalar)=true then none else some (S.set dst v)
     |none=>none
   |none=>none:=by
 have key: ∀v:V,v.l6.scalar=v.scalar:=by
  intro v;have W: ∀v:V,v.l6.leaf=v.leaf:=fun v=>by cases v<;>rfl
  have j: ∀l:List V,(ft l).all V.leaf=l.all V.leaf:=by
   intro l;induction l with
   |nil=>rfl
   |cons c l i=>simp[ft,W,i]
  have e: ∀v:V,v.l6.zA=v.zA:=fun v=>by
   cases v with
   |agg cs=>simp[V.l6,V.zA,j]
   |_=>rfl
  have H: ∀l:List V,(ft l).all V.zA=l.all V.zA:=by
   intro l;induction l with
   |nil=>rfl
   |cons c l i=>simp[ft,e,i]
  cases v with
  |ed cs=>simp[V.l6,V.scalar,H]
  |agg cs=>simp[V.l6,V.scalar,V.zA,j]
  |_=>rfl
 unfold iv cG;cases X.clone g with
 |some t=>rfl
 |none=>
  by_cases b:(X.ja g&& !X.low g)=true
  .grind
  .simp only[b,if_false,r3];by_cases E:X.iu g=true
   .grind
   by_cases J:(!(dst.elim [] (X.mask cR)).isEmpty)=true
   .grind
   cases di (args.map (da S.h depth)) with
   |none=>rfl
   |some bxb=>
    by_cases T:(dst.any (X.pz cR)&& !X.low g)=true
    .simp only[T,if_true];rfl
    grind
def Ow(X:Env)(call:jv)(cR:FuncId)(ops:List Oper)(n0:Nat)(S0 S1:St)(q:Nat×Nat)(l:List (Nat×Nat)):lL X call cR ops n0 S0 S1 (q::l)=
  (((∃o,ops[q.1]?=some o/\Kc (ops.map (·.dst)) o S1)\/(∃o T v,ops[q.1]?=some o/\gZ X call cR (ops.map (·.dst)) n0 0 (ops.take q.2) S0=some T/\
  dm X cR o S1.ev T.h (n0+q.1)=some (v,T.h,n0+q.1)/\ ∀d,o.dst=some d->S1.f d=v))/\lL X call cR ops n0 S0 S1 l):=by
 simp only[lL,List.forall_mem_cons]
def kP(r:Option (V×bI×Nat))(K:V->bI->Prop):Prop:=
 match r with
 |some (v,h,_)=>K v h
 |none=>False
def RE(v:V)(h:bI)(n:Nat)(K:V->bI->Prop):kP (some (v,h,n)) K=K v h:=(rfl)
def RF(K:V->bI->Prop):kP none K=False:=(rfl)
def RG(c:Prop)[Decidable c](a:Option (V×bI×Nat))(K:V->bI->Prop):kP (if c then a else none) K=(c/\(c->kP (mark a) K)):=by
 by_cases h:c<;>simp[h,kP,mark]
def Ox(c:Prop)[Decidable c](a:Option (V×bI×Nat))(K:V->bI->Prop):kP (if c then none else a) K=(¬c/\(¬c->kP (mark a) K)):=by
 by_cases h:c<;>simp[h,kP,mark]
def Oy{r r':Option (V×bI×Nat)}{K:V->bI->Prop}(h:r=r'):kP r K=kP r' K:=dp
def Ww{l C:List (Nat×Nat)}{p:List (Nat×Nat)->Prop}(h:l=C):vq l p=vq C p:=dp
attribute [congr] Oy Ww
def Yz(X:Env)(call:jv)(cR:FuncId)(ops:List Oper)(n0:Nat)(S0 S1:St):vq [] (lL X call cR ops n0 S0 S1)=True:=Hq ..
def wH(X:Env)(cR:FuncId)(o:Option Oper)(S1 T:St)(m:Nat):Prop:= ∃o' v,o=some o'/\dm X cR o' S1.ev T.h m=some (v,T.h,m)/\ ∀d,o'.dst=some d->S1.f d=v
def Uo(l:List Oper)(K:List Oper->Prop):Prop:=K l
def RH(o:Oper)(l:List Oper)(K:List Oper->Prop):Uo (o::l) K=K (o::l):=(rfl)
def Wx(K:List Oper->Prop):Uo [] K=K []:=(rfl)
def Wy{X:Env}{cR:FuncId}{o o':Option Oper}{S1 T:St}{m:Nat}(h:o=o'):wH X cR o S1 T m=wH X cR o' S1 T m:=dp
attribute [congr] Wy
def wB(o:Option Oper)(dF:List (Option Nat))(S1:St):Prop:= ∃o',o=some o'/\Kc dF o' S1
def aa4(dF:List (Option Nat))(d:Option Nat)(op:Op)(ty:TypeId)(ps:String)(a:Array Edge)(S1:St):wB (some ⟨d,op,ty,ps,a,none⟩) dF S1=False:=by
 simp[wB,Kc]
def aa5(dF:List (Option Nat))(d:Option Nat)(op:Op)(ty:TypeId)(ps:String)(a:Array Edge)(j:Nat)(w:Bool)(S1:St):wB (some ⟨d,op,ty,ps,a,some (j,w)⟩) dF S1=
  (match dF[j]? with|some (some d)=>S1.f d= .ed []\/S1.f d= .bool (!w)|_=>False):=by
 simp only[wB,Kc,Option.some.injEq,exists_eq_left'];try rfl
def Wz{o o':Option Oper}{dF:List (Option Nat)}{S1:St}(h:o=o'):wB o dF S1=wB o' dF S1:=dp
attribute [congr] Wz
def aa6(X:Env)(cR:FuncId)(ops:List Oper)(n0:Nat)(S0 S1:St)(j p:Nat)(l:List (Nat×Nat)):vq ((j,p)::l) (lL X (df X) cR ops n0 S0 S1)=
  ((wB (mark ops[j]?) (ops.map (·.dst)) S1\/Uo (mark (ops.take p)) fun a=>iU X cR (ops.map (·.dst)) n0 0 a S0 fun T=>wH X cR (mark ops[j]?) S1 T (n0+j))/\vq l (lL X (df X) cR ops n0 S0 S1)):=by
 unfold vq;rw[Ow];congr 1;congr 1;unfold Uo mark iU wH;apply propext;constructor
 .rintro⟨o,T,v,h1,K,S,b⟩;simp only[K];exact⟨o,v,h1,S,b⟩
 .intro h;cases W:gZ X (df X) cR (ops.map (·.dst)) n0 0 (ops.take p) S0 with
  |none=>simp only[W]at h;exact absurd h (fun h=>h)
  |some T=>
   simp only[W]at h;obtain⟨o,v,h1,S,b⟩:=h
   grind
def Up(X:Env)(cR:FuncId)(d:Nat)(t:TypeId)(a:Operand)(ty:TypeId)(ps:String)(N:Array Edge)(g:Option (Nat×Bool))(S1 T:St)(m:Nat):wH X cR (some ⟨some d,.load t a,ty,ps,N,g⟩) S1 T m=
  ∃v,(match oz S1.f a with
   | .ptr id i f=>match T.h id with
    |some ob=>match ob.es[i]? with
     |some e=>match part (X.ti t) e.cells f with|some v=>some (v,T.h,m)|none=>none
     |none=>none
    |none=>none
   | .ref cs=>match part (X.ti t) cs 0 with|some v=>some (v,T.h,m)|none=>none
   |_=>none)=some (v,T.h,m)/\S1.f d=v:=by
 apply propext;constructor
 .exact kO
 .rintro⟨v,h1,K⟩;refine⟨_,v,rfl,h1,fun y h=> ?_⟩
  grind
def Bn(dF:List (Option Nat))(f:Nat->V)(j:Nat):V:=
 match dF[j]? with
 |some (some d)=>f d
 |_=> .bad
def Bm(dF:List (Option Nat))(j:Nat):Nat:=
 match dF[j]? with
 |some (some d)=>d
 |_=>0
section
variable {X:Env} {fx:FuncId} {dF:List (Option Nat)} {n0 kk n:Nat} {r:List Oper} {ff:Nat->V} {hp:bI} {K:St->Prop} {d:Nat} {ty:TypeId} {ps:String} {af:Array Edge}
theorem RI {o:Oper} {S:St} (s:fD X (df X) fx n0 kk o S=match dm X fx o S.ev S.h (n0+kk) with
  |some (v,h,_)=>some (({S with h:=h}:St).set o.dst v)
  |none=>none) (g:o.guard=none):iU X fx dF n0 kk (o::r) S K=kP (dm X fx o S.ev S.h (n0+kk)) fun v h=>iU X fx dF n0 (kk+1) r ((⟨S.f,h,S.n⟩:St).set o.dst v) K:=by
 rw[xp,g,s];cases dm X fx o S.ev S.h (n0+kk) with
 |none=>rfl
 |some x=>rfl
theorem gP {o:Oper} (s: ∀S,fD X (df X) fx n0 kk o S=match dm X fx o S.ev S.h (n0+kk) with
  |some (v,h,_)=>some (({S with h:=h}:St).set o.dst v)
  |none=>none) (g:o.guard=none) {d:Option Nat} (u:o.dst=d):iU X fx dF n0 kk (o::r) ⟨ff,hp,n⟩ K=kP (mark (dm X fx o (oz ff) hp (n0+kk))) fun v h=>iU X fx dF n0 (kk+1) r ((⟨ff,h,n⟩:St).set d v) K:=by
 subst u;exact RI (s _) g
theorem WA(d:Nat)(op:Op)(j:Nat)(w:Bool):iU X fx dF n0 kk (⟨some d,op,ty,ps,af,some (j,w)⟩::r) ⟨ff,hp,n⟩ K=
  sV (mark (Bn dF ff j)) w ff (Bm dF j) (fun ff=>iU X fx dF n0 kk (⟨some d,op,ty,ps,af,none⟩::r) ⟨ff,hp,n⟩ K) (fun ff=>iU X fx dF n0 (kk+1) r ⟨bB ff d (.ed []),hp,n⟩ K):=by
 have key: ∀ff:Nat->V,iU X fx dF n0 kk (⟨some d,op,ty,ps,af,none⟩::r) ⟨ff,hp,n⟩ K=na (fD X (df X) fx n0 kk ⟨some d,op,ty,ps,af,some (j,w)⟩ ⟨ff,hp,n⟩) fun S1=>iU X fx dF n0 (kk+1) r S1 K:=fun ff=>by rw[xp];rfl
 simp only[key];rw[xp];unfold Bn mark Bm;simp only;cases dF[j]? with
 |none=>rfl
 |some x=>
  cases x with
  |none=>rfl
  |some x=>
   rfl
theorem aa7(d:Option Nat)(g:FuncId)(args:Array Operand)(m:Array TypeId):iU X fx dF n0 kk (⟨d,.call ⟨.value (.func g),args,m⟩,ty,ps,af,none⟩::r) ⟨ff,hp,n⟩ K=
  na (mark (iv X (df X) fx d g (args.toList.map (oz ff)) ⟨ff,hp,n⟩)) fun S1=>iU X fx dF n0 (kk+1) r ⟨S1.f,S1.h,S1.n⟩ K:=by
 rw[xp,show oz ff=(⟨ff,hp,n⟩:St).ev from Mi ⟨ff,hp,n⟩];show na (iv X (df X) fx d g ([]++args.toList.map (⟨ff,hp,n⟩:St).ev++ []) ⟨ff,hp,n⟩) _=_;rw[zD,u_];rfl
theorem aa8(x'):iU X fx dF n0 kk (⟨(some d),.move x',ty,ps,af,none⟩::r) ⟨ff,hp,n⟩ K=
  kP (mark (some (((oz ff) x'),hp,(n0+kk)))) fun v h'=>iU X fx dF n0 (kk+1) r ⟨bB ff d v,h',n⟩ K:=gP (fun _=>rfl) rfl rfl
theorem RK(x'):iU X fx dF n0 kk (⟨(some d),.assign x',ty,ps,af,none⟩::r) ⟨ff,hp,n⟩ K=
  kP (mark (some (((oz ff) x'),hp,(n0+kk)))) fun v h'=>iU X fx dF n0 (kk+1) r ⟨bB ff d v,h',n⟩ K:=gP (fun _=>rfl) rfl rfl
theorem aa9(c')(a')(b'):iU X fx dF n0 kk (⟨(some d),.pick c' a' b',ty,ps,af,none⟩::r) ⟨ff,hp,n⟩ K=
  kP (mark (match(oz ff) c' with| .bool t=>some ((if t then(oz ff) a' else(oz ff) b'),hp,(n0+kk))|_=>none)) fun v h'=>iU X fx dF n0 (kk+1) r ⟨bB ff d v,h',n⟩ K:=gP (fun _=>rfl) rfl rfl
theorem WB(t'):iU X fx dF n0 kk (⟨(some d),.alloc t',ty,ps,af,none⟩::r) ⟨ff,hp,n⟩ K=
  kP (mark (some ((.ptr (n0+kk) 0 0),bB hp (n0+kk) (some ⟨(X.ti t').size,[(X.ti t').zero],true⟩),(n0+kk)+1))) fun v h'=>iU X fx dF n0 (kk+1) r ⟨bB ff d v,h',n⟩ K:=gP (fun _=>rfl) rfl rfl
theorem Yy(t')(x'):iU X fx dF n0 kk (⟨(some d),.box t' x',ty,ps,af,none⟩::r) ⟨ff,hp,n⟩ K=
  kP (mark (if((oz ff) x').fits (X.ti t').size then some ((.ptr (n0+kk) 0 0),bB hp (n0+kk) (some ⟨(X.ti t').size,[(oz ff) x'],true⟩),(n0+kk)+1) else none)) fun v h'=>iU X fx dF n0 (kk+1) r ⟨bB ff d v,h',n⟩ K:=gP (fun _=>rfl) rfl rfl
theorem WC(t')(zw):iU X fx dF n0 kk (⟨(some d),.build t' zw,ty,ps,af,none⟩::r) ⟨ff,hp,n⟩ K=
  kP (mark (match(X.ti t').arr with
  |none=>if(X.ti t').x9=[] then none else match yX (X.ti t').x9 (X.ti t').zero.cells (zw.toList.map fun p=>(p.1,(oz ff) p.2)) with
   |some cs=>some ((.agg cs),hp,(n0+kk))
   |none=>none
  |some m=>match yX ((List.range m).map fun i=>(i*(X.ti (X.ti t').elem).size,(X.ti (X.ti t').elem).size)) (X.ti t').zero.cells (zw.toList.map fun p=>(p.1,(oz ff) p.2)) with
   |some cs=>some ((.agg cs),hp,(n0+kk))
   |none=>none)) fun v h'=>iU X fx dF n0 (kk+1) r ⟨bB ff d v,h',n⟩ K:=gP (fun _=>rfl) rfl rfl
theorem Ht(t')(n')(zw):iU X fx dF n0 kk (⟨(some d),.buildSlice t' n' zw,ty,ps,af,none⟩::r) ⟨ff,hp,n⟩ K=
  kP (mark (let e:=(X.ti t').elem
  if X.fV fx e then
   match rE (X.ti e).size (List.replicate n' (X.ti e).zero) (zw.toList.map fun p=>(p.1,(oz ff) p.2)) with
   |some es=>some ((.cX (n0+kk) 0 n'),bB hp (n0+kk) (some ⟨(X.ti e).size,es,true⟩),(n0+kk)+1)
   |none=>none
  else if(some d).any (X.flat fx) then
   match mV (fun _=>none) (zw.toList.map fun p=>(p.1,(oz ff) p.2)) with
   |some (l,_)=>match rE (X.ti e).size (List.replicate n' (X.ti e).zero) l with
    |some es=>some ((.sl true es),hp,(n0+kk))
    |none=>none
   |none=>none
  else
  match mV hp (zw.toList.map fun p=>(p.1,(oz ff) p.2)) with
  |some (l,h)=>
   match rE (X.ti e).size (List.replicate n' (X.ti e).zero) l with
   |some es=>
    if(some d).any (X.pz fx) then some ((.cX (n0+kk) 0 n'),bB (h) (n0+kk) (some ⟨(X.ti e).size,es,false⟩),(n0+kk)+1)
    else some ((.sl true es),h,(n0+kk))
   |none=>none
  |none=>none)) fun v h'=>iU X fx dF n0 (kk+1) r ⟨bB ff d v,h',n⟩ K:=gP (fun _=>rfl) rfl rfl
theorem aba(t')(a'):iU X fx dF n0 kk (⟨(some d),.load t' a',ty,ps,af,none⟩::r) ⟨ff,hp,n⟩ K=
  kP (mark (match(oz ff) a' with
  | .ptr id i f=>match hp id with
   |some ob=>match ob.es[i]? with
    |some e=>match part (X.ti t') e.cells f with|some v=>some (v,hp,(n0+kk))|none=>none
    |none=>none
   |none=>none
  | .ref cs=>match part (X.ti t') cs 0 with|some v=>some (v,hp,(n0+kk))|none=>none
  |_=>none)) fun v h'=>iU X fx dF n0 (kk+1) r ⟨bB ff d v,h',n⟩ K:=gP (fun _=>rfl) rfl rfl
theorem WD(t')(a')(x'):iU X fx dF n0 kk (⟨none,.store t' a' x',ty,ps,af,none⟩::r) ⟨ff,hp,n⟩ K=
  kP (mark (match(oz ff) a' with
  | .ptr id i f=>match hp id with
   |some ob=>
    match(if ob.eP then some ((oz ff) x',hp) else re hp ((oz ff) x')) with
    |some (v,h)=>match h id with
     |some ob=>match ob.es[i]? with
      |some e=>if v.fits (X.ti t').size&&decide (f+(X.ti t').size<=e.cells.length) then some (.bad,bB h id (some {ob with es:=ob.es.set i (e.put f v)}),(n0+kk)) else none
      |none=>none
     |none=>none
    |none=>none
   |none=>none
  |_=>none)) fun v h'=>iU X fx dF n0 (kk+1) r ⟨ff,h',n⟩ K:=gP (fun _=>rfl) rfl rfl
theorem LQ(x'):iU X fx dF n0 kk (⟨(some d),.nilCheck x',ty,ps,af,none⟩::r) ⟨ff,hp,n⟩ K=
  kP (mark (match(oz ff) x' with
  | .ptr id i f=>some ((.ptr id i f),hp,(n0+kk))
  | .ref cs=>some ((.ref cs),hp,(n0+kk))
  | .fn g a b=>some ((.fn g a b),hp,(n0+kk))
  |_=>none)) fun v h'=>iU X fx dF n0 (kk+1) r ⟨bB ff d v,h',n⟩ K:=gP (fun _=>rfl) rfl rfl
theorem WE(op')(t')(x')(y')(u0'):iU X fx dF n0 kk (⟨(some d),.binOp op' t' x' y' u0',ty,ps,af,none⟩::r) ⟨ff,hp,n⟩ K=
  kP (mark (match uA (X.ti t').agg (X.ti t').ya op' ((oz ff) x') ((oz ff) y') with|some v=>some (v,hp,(n0+kk))|none=>none)) fun v h'=>iU X fx dF n0 (kk+1) r ⟨bB ff d v,h',n⟩ K:=gP (fun _=>rfl) rfl rfl
theorem abb(op')(u0')(x'):iU X fx dF n0 kk (⟨(some d),.unOp op' u0' x',ty,ps,af,none⟩::r) ⟨ff,hp,n⟩ K=
  kP (mark (match ws op' ((oz ff) x') with|some v=>some (v,hp,(n0+kk))|none=>none)) fun v h'=>iU X fx dF n0 (kk+1) r ⟨bB ff d v,h',n⟩ K:=gP (fun _=>rfl) rfl rfl
theorem Oz(u0')(d')(x'):iU X fx dF n0 kk (⟨(some d),.convert u0' d' x',ty,ps,af,none⟩::r) ⟨ff,hp,n⟩ K=
  kP (mark (match(X.ti d').kind,(oz ff) x' with
  |some k,.int _ n=>some ((.int k (k.wrap n)),hp,(n0+kk))
  |none,v=>if(X.ti d').isStr=true/\v.isStr=false then(match elems hp v with
   |some (es,_)=>match bytesOf es with
    |some s=>some (.str s,hp,(n0+kk))
    |none=>none
   |none=>none) else Np (X.ti d').isStr (X.ti (X.ti d').elem).kind hp (n0+kk) v
  |_,_=>none)) fun v h'=>iU X fx dF n0 (kk+1) r ⟨bB ff d v,h',n⟩ K:=gP (fun _=>rfl) rfl rfl
theorem JF(t')(l')(c'):iU X fx dF n0 kk (⟨(some d),.makeSlice t' l' c',ty,ps,af,none⟩::r) ⟨ff,hp,n⟩ K=
  kP (mark (match(oz ff) l',(oz ff) c' with
  | .int _ n,.int _ m=>if 0<=n/\n<=m/\m*(X.ti (X.ti t').elem).bytes<=2^47/\m<=2^62 then
    some ((.cX (n0+kk) 0 n.toNat),bB hp (n0+kk) (some ⟨(X.ti (X.ti t').elem).size,List.replicate n.toNat (X.ti (X.ti t').elem).zero,X.fV fx (X.ti t').elem⟩),(n0+kk)+1) else none
  |_,_=>none)) fun v h'=>iU X fx dF n0 (kk+1) r ⟨bB ff d v,h',n⟩ K:=gP (fun _=>rfl) rfl rfl
theorem WG(t')(x')(RL)(qM)(mx'):iU X fx dF n0 kk (⟨(some d),.slice t' x' RL qM mx',ty,ps,af,none⟩::r) ⟨ff,hp,n⟩ K=
  kP (mark (if((oz ff) x').isStr=(X.ti t').isStr/\((oz ff) x').CH=(X.ti t').arr.isSome then
   match(oz ff) x' with
   | .sl _ es=>
    if es.all (fun e=>e.cells.length==(X.ti (X.ti t').elem).size) then
     match mx' with
     |none=>match bounds (RL.map (oz ff)) (qM.map (oz ff)) es.length with|some (l,h)=>some ((.sl false ((es.take h).drop l)),hp,(n0+kk))|none=>none
     |some m=>match(oz ff) m,qM.map (oz ff) with
      | .int _ p,some (.int _ q)=>if p=q then(match bounds (RL.map (oz ff)) (qM.map (oz ff)) es.length with|some (l,h)=>some ((.sl true ((es.take h).drop l)),hp,(n0+kk))|none=>none) else none
      |_,_=>none
    else none
   | .cX id s n=>
    match mx',hp id with
    |none,some ob=>if ob.k=(X.ti (X.ti t').elem).size then(match bounds (RL.map (oz ff)) (qM.map (oz ff)) n with|some (l,h)=>some ((.cX id (s+l) (h-l)),hp,(n0+kk))|none=>none) else none
    |some m,some ob=>if ob.k=(X.ti (X.ti t').elem).size then(match(oz ff) m,qM.map (oz ff) with
      | .int _ p,some (.int _ q)=>if p=q then(match bounds (RL.map (oz ff)) (qM.map (oz ff)) n with|some (l,h)=>some ((.cX id (s+l) (h-l)),hp,(n0+kk))|none=>none) else none
      |_,_=>none) else none
    |_,none=>none
   | .str s=>match mx' with
    |none=>match bounds (RL.map (oz ff)) (qM.map (oz ff)) s.length with|some (l,h)=>some ((.str ((s.take h).drop l)),hp,(n0+kk))|none=>none
    |some _=>none
   | .ptr id 0 0=>match mx',RL,qM,(X.ti t').arr,hp id with
    |none,none,none,some m,some ob=>match ob.es with
     | [e]=>if e.cells.all V.pP=true/\e.cells.length=m/\(X.ti (X.ti t').elem).size=1/\0<m then some (.sl true e.cells,bB hp id none,(n0+kk)) else none
     |_=>none
    |_,_,_,_,_=>none
   |_=>none
  else none)) fun v h'=>iU X fx dF n0 (kk+1) r ⟨bB ff d v,h',n⟩ K:=gP (fun _=>rfl) rfl rfl
theorem JG(t')(x')(i'):iU X fx dF n0 kk (⟨(some d),.fieldAddr t' x' i',ty,ps,af,none⟩::r) ⟨ff,hp,n⟩ K=
  kP (mark (match(X.ti t').x9[i']? with
  |some (off,_)=>match(oz ff) x' with
   | .ptr id j f=>some ((.ptr id j (f+off)),hp,(n0+kk))
   | .ref cs=>some ((.ref (cs.drop off)),hp,(n0+kk))
   |_=>none
  |none=>none)) fun v h'=>iU X fx dF n0 (kk+1) r ⟨bB ff d v,h',n⟩ K:=gP (fun _=>rfl) rfl rfl
theorem JH(t)(x')(ix'):iU X fx dF n0 kk (⟨(some d),.indexAddr t x' ix',ty,ps,af,none⟩::r) ⟨ff,hp,n⟩ K=
  kP (mark (match(oz ff) ix' with
  | .int _ n=>match(oz ff) x' with
   | .sl _ es=>if(0<=n/\n<es.length)/\(X.ti t).arr=none then(match es[n.toNat]? with|some e=>if e.cells.length=(X.ti (X.ti t).elem).size then some ((.ref e.cells),hp,(n0+kk)) else none|none=>none) else none
   | .cX id s l=>if(0<=n/\n<l)/\(X.ti t).arr=none then(match hp id with|some ob=>if ob.k=(X.ti (X.ti t).elem).size then some ((.ptr id (s+n.toNat) 0),hp,(n0+kk)) else none|none=>none) else none
   | .ptr id j f=>match(X.ti t).arr with
    |some m=>if 0<=n/\n<m then some ((.ptr id j (f+n.toNat*(X.ti (X.ti t).elem).size)),hp,(n0+kk)) else none
    |none=>none
   |_=>none
  |_=>none)) fun v h'=>iU X fx dF n0 (kk+1) r ⟨bB ff d v,h',n⟩ K:=gP (fun _=>rfl) rfl rfl
theorem WH(t')(x')(ix'):iU X fx dF n0 kk (⟨(some d),.index t' x' ix',ty,ps,af,none⟩::r) ⟨ff,hp,n⟩ K=
  kP (mark (match(oz ff) ix' with
  | .int _ n=>match(oz ff) x' with
   | .str s=>if 0<=n/\(X.ti t').arr=none then(match s[n.toNat]? with|some b=>some ((.int .u8 b.toNat),hp,(n0+kk))|none=>none) else none
   | .agg cs=>match(X.ti t').arr with
    |some m=>if 0<=n/\n<m then(match part (X.ti (X.ti t').elem) cs (n.toNat*(X.ti (X.ti t').elem).size) with|some v=>some (v,hp,(n0+kk))|none=>none) else none
    |none=>none
   |_=>none
  |_=>none)) fun v h'=>iU X fx dF n0 (kk+1) r ⟨bB ff d v,h',n⟩ K:=gP (fun _=>rfl) rfl rfl
theorem WI(t')(x')(f'):iU X fx dF n0 kk (⟨(some d),.field t' x' f',ty,ps,af,none⟩::r) ⟨ff,hp,n⟩ K=
  kP (mark (match(oz ff) x' with
  | .agg cs=>match(X.ti t').x9[f']? with
   |some (k,_)=>match part (X.ti ty) cs k with|some v=>some (v,hp,(n0+kk))|none=>none
   |none=>none
  |_=>none)) fun v h'=>iU X fx dF n0 (kk+1) r ⟨bB ff d v,h',n⟩ K:=gP (fun _=>rfl) rfl rfl
theorem OA(x')(i'):iU X fx dF n0 kk (⟨(some d),.extract x' i',ty,ps,af,none⟩::r) ⟨ff,hp,n⟩ K=
  kP (mark (match(oz ff) x' with
  | .ed vs=>match vs[i']? with|some v=>some (v,hp,(n0+kk))|none=>none
  |_=>none)) fun v h'=>iU X fx dF n0 (kk+1) r ⟨bB ff d v,h',n⟩ K:=gP (fun _=>rfl) rfl rfl
theorem LR(wc)(LS):iU X fx dF n0 kk (⟨(some d),.call ⟨.builtin .len,wc,LS⟩,ty,ps,af,none⟩::r) ⟨ff,hp,n⟩ K=
  kP (mark (match wc.toList.map (oz ff) with
  | [x]=>if x.isStr=(X.ti (LS.getD 0 0)).isStr then(match Gq x with|some n=>some ((.int .i64 n),hp,(n0+kk))|none=>none) else none
  |_=>none)) fun v h'=>iU X fx dF n0 (kk+1) r ⟨bB ff d v,h',n⟩ K:=gP (fun _=>rfl) rfl rfl
theorem LU(wc)(u0'):iU X fx dF n0 kk (⟨(some d),.call ⟨.builtin .min,wc,u0'⟩,ty,ps,af,none⟩::r) ⟨ff,hp,n⟩ K=
  kP (mark (match wc.toList.map (oz ff) with
  | [.int k a,.int k' b]=>if k=k' then some ((.int k (if b<a then b else a)),hp,(n0+kk)) else none
  |_=>none)) fun v h'=>iU X fx dF n0 (kk+1) r ⟨bB ff d v,h',n⟩ K:=gP (fun _=>rfl) rfl rfl
theorem LV(wc)(u0'):iU X fx dF n0 kk (⟨(some d),.call ⟨.builtin .max,wc,u0'⟩,ty,ps,af,none⟩::r) ⟨ff,hp,n⟩ K=
  kP (mark (match wc.toList.map (oz ff) with
  | [.int k a,.int k' b]=>if k=k' then some ((.int k (if b>a then b else a)),hp,(n0+kk)) else none
  |_=>none)) fun v h'=>iU X fx dF n0 (kk+1) r ⟨bB ff d v,h',n⟩ K:=gP (fun _=>rfl) rfl rfl
theorem FC(wc)(LS):iU X fx dF n0 kk (⟨(some d),.call ⟨.builtin .append,wc,LS⟩,ty,ps,af,none⟩::r) ⟨ff,hp,n⟩ K=
  kP (mark (match wc.toList.map (oz ff) with
  | [s,x]=>match elems hp s,elems hp x with
   |some (es,k),some (xs,kx)=>
    let e:=(X.ti (LS.getD 0 0)).elem;let kp:=X.fV fx e
    if((k||kx)&& !kp)|| !(xs.all fun v=>v.cells.length==(X.ti e).size)||(X.ti (LS.getD 1 0)).kind.isSome then none else
    if(es.length+xs.length)*(X.ti e).bytes<=2^47/\es.length+xs.length<=2^62 then
     match s with
     | .sl true []=>some ((.cX (n0+kk) 0 xs.length),bB hp (n0+kk) (some ⟨(X.ti e).size,xs,kp⟩),(n0+kk)+1)
     | .sl true _=>if kx|| !(es.all fun v=>v.cells.length==(X.ti e).size) then none else some ((.sl false (es++xs)),hp,(n0+kk))
     | .cX id _ _=>match hp id with
      |some ob=>if ob.k=(X.ti e).size then some ((.cX (n0+kk) 0 (es.length+xs.length)),bB (bB hp id none) (n0+kk) (some ⟨(X.ti e).size,es++xs,kp⟩),(n0+kk)+1) else none
      |none=>none
     |_=>none
    else none
   |_,_=>none
  |_=>none)) fun v h'=>iU X fx dF n0 (kk+1) r ⟨bB ff d v,h',n⟩ K:=gP (fun _=>rfl) rfl rfl
theorem JI(wc)(LS):iU X fx dF n0 kk (⟨(some d),.call ⟨.builtin .copy,wc,LS⟩,ty,ps,af,none⟩::r) ⟨ff,hp,n⟩ K=
  kP (mark (match wc.toList.map (oz ff) with
  | [.cX id s l,x]=>match hp id,elems hp x with
   |some ob,some (xs,kx)=>
    if x.isStr||(kx&& !ob.eP)|| !(xs.all fun v=>v.cells.length==ob.k) then none else
    if s+l<=ob.es.length/\ob.k=(X.ti (X.ti (LS.getD 0 0)).elem).size then
     some ((.int .i64 (min xs.length l:Nat)),bB hp id (some {ob with es:=ob.es.take s++xs.take (min xs.length l)++ob.es.drop (s+min xs.length l)}),(n0+kk))
    else none
   |_,_=>none
  |_=>none)) fun v h'=>iU X fx dF n0 (kk+1) r ⟨bB ff d v,h',n⟩ K:=gP (fun _=>rfl) rfl rfl
theorem S_(t:Nat):oz ff (.tmp t)=ff t:=(rfl)
theorem abd(v:Value):oz ff (.const v)=xe v:=(rfl)
theorem a1e(g:FuncId):oz ff (.func g)= .fn g [] []:=(rfl)
theorem abe(S:St)(t:Nat)(v:V):S.set (some t) v=⟨bB S.f t v,S.h,S.n⟩:=(rfl)
end
def abf(X:Env)(f key:Nat)(S:St):pD X f key S=match X.norm f key with|some N=>N.run S|none=>some S:=(rfl)
def abg(n:Nat)(w:V):zk (some n) (.sl true []) w= .cX n 0 0:=(rfl)
def WJ(v w:V):zk none v w=w:=by unfold zk;grind
def Yq(o:Option Nat)(es:List V)(w:V):zk o (.sl false es) w=w:=(rfl)
def abh(o:Option Nat)(k:IntKind)(n:Int)(w:V):zk o (.int k n) w=w:=(rfl)
def WK(o:Option Nat)(b:Bool)(w:V):zk o (.bool b) w=w:=(rfl)
def abi(o:Option Nat)(b:List UInt8)(w:V):zk o (.str b) w=w:=(rfl)
def abj(o:Option Nat)(i s l:Nat)(w:V):zk o (.cX i s l) w=w:=(rfl)
def abk(o:Option Nat)(i s l:Nat)(w:V):zk o (.ptr i s l) w=w:=(rfl)
def Yk(o:Option Nat)(g:FuncId)(a b:List V)(w:V):zk o (.fn g a b) w=w:=(rfl)
section
variable (S:St) (N:Norm) (hx:bI)
theorem abl(k:IntKind)(n:Int):Gt S N hx (.int k n)= .int k n:=(rfl)
theorem WL(b:Bool):Gt S N hx (.bool b)= .bool b:=(rfl)
theorem abm(b:List UInt8):Gt S N hx (.str b)= .str b:=(rfl)
theorem Yj(c:Bool)(es:List V):Gt S N hx (.sl c es)= .sl false es:=(rfl)
theorem Yd(g:FuncId)(a b:List V):Gt S N hx (.fn g a b)= .fn g (a.map (Lq S N hx)) (b.map (Lq S N hx)):=(rfl)
theorem abn(i s l:Nat):Gt S N hx (.cX i s l)=fixC S N hx (.cX i s l):=(rfl)
theorem abo(i s l:Nat):Gt S N hx (.ptr i s l)=fixC S N hx (.ptr i s l):=(rfl)
theorem abp(k:IntKind)(n:Int):fixC S N hx (.int k n)= .int k n:=(rfl)
theorem WM(b:Bool):fixC S N hx (.bool b)= .bool b:=(rfl)
theorem Yc(c:Bool)(es:List V):fixC S N hx (.sl c es)= .sl false es:=(rfl)
theorem abq(id s l:Nat):fixC S N hx (.cX id s l)=match look S id N.roots with
  |some j=> .cX j s l
  |none=>match da hx depth (.cX id s l) with
   |some v=>v
   |none=> .bad:=(rfl)
theorem abr(id i f:Nat):fixC S N hx (.ptr id i f)=match look S id N.roots with
  |some j=> .ptr j i f
  |none=> .bad:=(rfl)
theorem RN(id:Nat)(ob:Ob):Gu S N hx id (some ob)=if ob.eP=true then
   match ob.es with
   | [e]=>some ⟨ob.k,[QN S N hx id e],true⟩
   |es=>if es.all V.QK=true then some ob else none
  else some ob:=(rfl)
end
def abt(t:List Nat)(r:List Gr)(n:Nat)(S:St):(⟨t,r,false,n⟩:Norm).first S=true:=(rfl)
def WN(t:List Nat)(a:Gr)(r:List Gr)(n:Nat)(S:St):(⟨t,a::r,true,n⟩:Norm).first S=(a.new==0&& (a.loc.val S).root==some 0):=(rfl)
def abu(i s l:Nat):(V.cX i s l).root=some i:=(rfl)
def abv(i:Nat):(V.ptr i 0 0).root=some i:=(rfl)
def Yb(c:Bool)(es:List V):(V.sl c es).root=none:=(rfl)
def WO(i:Nat):(V.ptr i 0 0).boxed=some i:=(rfl)
def Ya(S:St)(t:Nat):(Loc.box t).val S=S.f t:=(rfl)
def abw(S:St)(t:Nat):(Loc.slot t).val S=S.f t:=(rfl)
def abx(S:St)(t j:Nat):(Loc.cell t j).val S=match S.f t with
  | .ptr id 0 0=>match S.h id with
   |some ob=>match ob.es with
    | [e]=>e.cells.getD j .bad
    |_=> .bad
   |none=> .bad
  |_=> .bad:=(rfl)
def aby(S:St)(id:Nat):look S id []=none:=(rfl)
def WQ(S:St)(id:Nat)(a:Gr)(r:List Gr):look S id (a::r)=if(a.loc.val S).root=some id then some a.new else look S id r:=(rfl)
def OB(t:Nat):AF t []=none:=(rfl)
def LW(t:Nat)(a:Gr)(r:List Gr):AF t (a::r)=if a.loc= .slot t then some a.new else AF t r:=(rfl)
def OC(S:St)(id j:Nat):qW S id j []=none:=(rfl)
def OD(S:St)(id j t n k:Nat)(kp:Bool)(r:List Gr):qW S id j (⟨.box t,n,k,kp⟩::r)=qW S id j r:=(rfl)
def LX(S:St)(id j t n k:Nat)(kp:Bool)(r:List Gr):qW S id j (⟨.slot t,n,k,kp⟩::r)=qW S id j r:=(rfl)
def LY(S:St)(id j t o n k:Nat)(kp:Bool)(r:List Gr):qW S id j (⟨.cell t o,n,k,kp⟩::r)=if o=j/\(S.f t).boxed=some id then some n else qW S id j r:=(rfl)
def WR(h:bI):gN h []=h:=(rfl)
def RO(h:bI)(id:Nat)(r:List (Option Nat)):gN h (some id::r)=bB (gN h r) id none:=(rfl)
def RP(h:bI)(r:List (Option Nat)):gN h (none::r)=gN h r:=(rfl)
def LZ(id:Nat)(ops:Array Oper)(d:Bool):je (.region id ops d)=id:=(rfl)
def WS(a b:Code):je (.seq a b)=je a:=(rfl)
def OE(id:Nat)(b:Code):je (.block id b)=je b:=(rfl)
def WT(h:bI):sQ h []=some ([],h):=(rfl)
def RQ(h:bI)(v:V)(r:List V):sQ h (v::r)=match re h v with
  |some (U,h1)=>match sQ h1 r with
   |some (r',K)=>some (U::r',K)
   |none=>none
  |none=>none:=(rfl)
def abz(cs:List V):(V.agg cs).QK=cs.all V.pP:=(rfl)
def W7(n:Nat)(m:Mask)(v:V):wF n m v=wD (fun i j c=>match nj n m i j with
 |some (q,_)=>match c with
  | .sl _ es=> .cX q 0 es.length
  |_=> .bad
 |none=>c) v:=(rfl)
def WU(F:Nat->Nat->V->V)(vs:List V):wD F (.ed vs)= .ed (sO (fun i v=>vY (F i) v) 0 vs):=(rfl)
def ab0(F:Nat->Nat->V->V)(vs:List V):wD F (.agg vs)= .agg (sO (F 0) 0 vs):=(rfl)
def W1(F:Nat->Nat->V->V)(c:Bool)(es:List V):wD F (.sl c es)=F 0 0 (.sl c es):=(rfl)
def ab1(F:Nat->Nat->V->V)(i s l:Nat):wD F (.cX i s l)=F 0 0 (.cX i s l):=(rfl)
def WV(F:Nat->V->V)(vs:List V):vY F (.agg vs)= .agg (sO F 0 vs):=(rfl)
def WP(F:Nat->V->V)(c:Bool)(es:List V):vY F (.sl c es)=F 0 (.sl c es):=(rfl)
def ab2(F:Nat->V->V)(i s l:Nat):vY F (.cX i s l)=F 0 (.cX i s l):=(rfl)
def ab3(F:Nat->V->V)(k:IntKind)(n:Int):vY F (.int k n)=F 0 (.int k n):=(rfl)
def WW(F:Nat->V->V)(b:Bool):vY F (.bool b)=F 0 (.bool b):=(rfl)
def ab4(F:Nat->V->V)(n:Nat):sO F n []=[]:=(rfl)
def WX(F:Nat->V->V)(n:Nat)(c:V)(cs:List V):sO F n (c::cs)=F n c::sO F (n+1) cs:=(rfl)
def RR(n i j:Nat):nj n [] i j=none:=(rfl)
def OF(n i j a b:Nat)(t:TypeId)(r:Mask):nj n ((a,b,t)::r) i j=if a=i/\b=j then some (n,t) else nj (n+1) r i j:=(rfl)
def RU(vs:List V)(i j:Nat):(V.ed vs).cellAt i j=(vs.getD i .bad).cells.getD j .bad:=(rfl)
def RV(vs:List V)(i j:Nat):(V.agg vs).cellAt i j=if i=0 then vs.getD j .bad else .bad:=(rfl)
def WY(c:Bool)(es:List V)(i j:Nat):(V.sl c es).cellAt i j=if i=0 then [V.sl c es].getD j .bad else .bad:=(rfl)
def RW(a b c i j:Nat):(V.cX a b c).cellAt i j=if i=0 then [V.cX a b c].getD j .bad else .bad:=(rfl)
def WF(X:Env)(h:bI)(v:V)(m:Mask):Nr X h v m=CI X h (gN h (iI v m)) v m:=(rfl)
def Wm(X:Env)(h hx:bI)(v:V)(m:Mask):CI X h hx v m=if(wE (iI v m)&&m.all (fun q=>(rowAt X h hx q.2.2 (v.cellAt q.1 q.2.1)).isSome))=true then some (wD (mX X h hx m) v) else none:=(rfl)
def RX(X:Env)(g:FuncId)(k:Nat)(R:V):mY X g k R=zj X (X.fV g) R 1 (X.gy g) (bB (fun _=>none) 0 (some ⟨k,[wF 1 (X.gy g) R],true⟩)):=(rfl)
def ab5(X:Env)(M:Mask)(v:V)(h:bI):CK X M v h=match h 0 with
 |some po=>
  match po.es with
  | [e]=>if po.eP then
    match Nr X (bB h 0 none) (rF e v) M with
    |some (.ed (r::s))=>some (po.k,r,s)
    |_=>none
   else none
  |_=>none
 |none=>none:=(rfl)
def WZ(e:V)(vs:List V):rF e (.ed vs)= .ed (e::vs):=(rfl)
def W0(e:V)(vs:List V):rF e (.agg vs)= .ed [e,.agg vs]:=(rfl)
def W2(e:V)(k:IntKind)(n:Int):rF e (.int k n)= .ed [e,.int k n]:=(rfl)
def ab6(e:V)(c:Bool)(es:List V):rF e (.sl c es)= .ed [e,.sl c es]:=(rfl)
def W3(e:V)(i s l:Nat):rF e (.cX i s l)= .ed [e,.cX i s l]:=(rfl)
def KC(a vs:List V):Bx (.ed a) vs= .ed vs:=(rfl)
def RY(v:V)(vs:List V):Gs (.ed (v::vs))=v:=(rfl)
def RZ(v:V)(vs:List V):TV (.ed (v::vs))=vs:=(rfl)
def W4(X:Env)(cR:FuncId)(dst:Option Nat)(g:FuncId):tf X cR dst g=X.gy g++(dst.elim [] (X.mask cR)).map fun q=>(q.1+1,q.2.1,q.2.2):=(rfl)
def R5(v:V)(m:Mask):iI v m=m.map fun q=>(v.cellAt q.1 q.2.1).src:=(rfl)
def R6(X:Env)(h hx:bI)(m:Mask)(i j:Nat)(c:V):mX X h hx m i j c=match nj 0 m i j with
 |some (_,t)=>match rowAt X h hx t c with
  |some es=> .sl false es
  |none=> .bad
 |none=>match da hx depth c with
  |some c'=>c'.l6
  |none=> .bad:=(rfl)
def W5(X:Env)(h hx:bI)(t:TypeId):rowAt X h hx t (.sl true [])=some []:=(rfl)
def W6(X:Env)(h hx:bI)(t:TypeId)(id s l:Nat):rowAt X h hx t (.cX id s l)=match h id with
  |some ob=>if ob.k=(X.ti t).size/\s+l<=ob.es.length then match di (((ob.es.drop s).take l).map (da hx depth)) with
    |some es=>some (ft es)
    |none=>none
   else none
  |none=>none:=(rfl)
def Wa(i s l:Nat):(V.cX i s l).src=some i:=(rfl)
def S8(c:Bool)(es:List V):(V.sl c es).src=none:=(rfl)
def Gr.a1f(S:St)(N:Norm)(hx:bI)(loc:Loc)(new k:Nat)(eP:Bool):(⟨loc,new,k,eP⟩:Gr).ob S N hx=QO S N hx k eP (loc.val S):=(rfl)
def ab7(S:St)(N:Norm)(hx:bI)(k:Nat)(eP:Bool):QO S N hx k eP (.sl true [])=some ⟨k,[],eP⟩:=(rfl)
def ab8(S:St)(N:Norm)(hx:bI)(k:Nat)(eP:Bool)(id s l:Nat):QO S N hx k eP (.cX id s l)=Gu S N hx id (S.h id):=(rfl)
def ab9(S:St)(N:Norm)(hx:bI)(k:Nat)(eP:Bool)(id:Nat):QO S N hx k eP (.ptr id 0 0)=Gu S N hx id (S.h id):=(rfl)
def R7:wE []=true:=(rfl)
def OG(a:Option Nat)(r:List (Option Nat)):wE (a::r)=(r.all (differ a)&&wE r):=(rfl)
def OH(a b:Nat):differ (some a) (some b)=(a !=b):=(rfl)
def OI(b:Option Nat):differ none b=true:=(rfl)
def L0(b:Option Nat):differ b none=true:=by cases b<;>rfl
attribute [simp ↓] Oh Wl aax Oi Wn aay LN Rr Wo zS Hs Xr Xq R_ R4 Xp aa2 R3 aa0 WA aa7 aa8 RK aa9 WB Yy WC Ht aba WD LQ WE abb Oz JF WG JG JH WH WI OA LR LU LV FC JI
attribute [simp ↓] Up
attribute [simp] RB RC Wt RD aa4 aa5 Yz aa6 RH Wx Up Rt Ru On LO Rx Wq Rw aaz Wr W' Wv W_
attribute [simp] V.zi.eq_1 V.zi.eq_2 V.zi.eq_3 V.No.eq_1 V.No.eq_2 V.scalar.eq_1 V.scalar.eq_2 V.zA.eq_1 V.zA.eq_2 V.leaf.eq_1 V.leaf.eq_2 V.leaf.eq_3 V.leaf.eq_4 V.leaf.eq_5 V.leaf.eq_6 da.eq_1 da.eq_2 da.eq_3 da.eq_4 da.eq_5 da.eq_6 da.eq_7 da.eq_8 da.eq_9 da.eq_10 da.eq_11 ft.eq_1 ft.eq_2 V.l6.eq_1 V.l6.eq_2 V.l6.eq_3 V.l6.eq_4 Bn.eq_1 Bm.eq_1 depth.eq_1
attribute [simp] abf abg WJ Yq abh WK abi abj abk Yk abl WL abm Yj Yd abn abo abp WM Yc abq abr RN Gr.a1f ab7 ab8 ab9 R7 OG OH OI L0 Norm.run.eq_1 Norm.uJ.eq_1 abt WN fixF.eq_1 fixF.eq_2 QP.eq_1 QP.eq_2 QN.eq_1 CL.eq_1 CL.eq_2 abu abv Yb WO Ya abw abx aby WQ OB LW OC OD LX LY WR RO RP LZ WS OE WT RQ abz W7 zj.eq_1 zj.eq_2 CJ.eq_1 WU ab0 W1 ab1 WV WP ab2 ab3 WW ab4 WX RR OF RU RV WY RW WF Wm RX ab5 WZ W0 W2 ab6 W3 KC RY RZ W4 R5 R6 W5 W6 Wa S8 Wu
attribute [simp] XG RE RF S_ abd a1e abe
attribute [simp 700] Rv Oj RG Ox
attribute [simp 500] Oo Ry Om
end Go.Abs
