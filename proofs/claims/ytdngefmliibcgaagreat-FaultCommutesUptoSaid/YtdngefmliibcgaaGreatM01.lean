/- Part of a proof: engine A3. -/
import Derived.Test.YtdngefmliibcgaaGreatM00
set_option linter.all false
set_option maxRecDepth 20000
set_option maxHeartbeats 20000000
namespace Go.Abs
open Go
variable  {α:Type}{fn:Func}{b c:Code}{v v' R:V}{p q:Prop}{m M:Mask}
section
variable (X:Env) (f:FuncId) (S:St)
theorem aic:ev X f .skip S=some (.normal,S):=by rw[De];rfl
theorem aid(id:Nat):ev X f (.exit id) S=some (.exit id,S):=by rw[De];rfl
theorem ark:ev X f .ret S=some (.ret,S):=by rw[De];rfl
open Classical in
theorem UX(id:Nat)(ops:Array Oper)(d:Bool):ev X f (.region id ops d) S=
  (match oR X f (2*id) S with
  |some S=>(match gM X (cL X) f (ops.toList.map (·.dst)) S.n 0 ops.toList {S with n:=S.n+ops.size} with
   |some S1=>if lA X (cL X) f ops.toList S.n {S with n:=S.n+ops.size} S1 (X.sX f id) then some (.normal,S1) else none
   |none=>none)
  |none=>none):=by rw[De];rfl
theorem arl(a b:Code):ev X f (.seq a b) S=(match ev X f a S with|some (.normal,S1)=>ev X f b S1|r=>r):=by rw[De];rfl
theorem aie(x:Operand)(a b:Code):ev X f (.cond x a b) S=(match S.ev x with| .bool t=>if t then ev X f a S else ev X f b S|_=>none):=by rw[De];rfl
theorem Y7(id:Nat)(b:Code):ev X f (.block id b) S=(match ev X f b S with|some (.exit i,S1)=>if i=id then some (.normal,S1) else some (.exit i,S1)|r=>r):=by rw[De];rfl
theorem Ky(b:Code):ev X f (.loop b) S=(match oR X f (2*jb b+1) S with|some S=>(match ev X f b S with|some (.normal,S1)=>ev X f (.loop b) S1|r=>r)|none=>none):=by rw[De];rfl
end
def FK(X:Env)(call:jm)(bY:FuncId)(ops:List Oper)(n0:Nat)(S0 S1:St):lA X call bY ops n0 S0 S1 []=True:=by
 simp[lA]
def UY(f:Nat->α)(t:Nat)(v:α)(u:Nat):aR f t v u=if u=t then v else f u:=(rfl)
def Y8{X:Env}{g:FuncId}(hf:X.P.funcs[g]?=some fn)(hb:fn.body=some b)(args:List V)(h:bh)(k:Nat)(hp:X.oW g=none:=by rfl):
  cL X g args h k=vQ X fn.results.toList (ev X g b ⟨oN args,h,k⟩):=by
 unfold cL dA
 grind
def UZ(cs:List V):(V.agg cs).cells=cs:=(rfl)
def U0(k:IntKind)(n:Int):(V.int k n).cells=[.int k n]:=(rfl)
def PX(b:Bool):(V.bool b).cells=[.bool b]:=(rfl)
def Y9(c:Bool)(es:List V):(V.sl c es).cells=[.sl c es]:=(rfl)
def U1(i s l:Nat):(V.cu i s l).cells=[.cu i s l]:=(rfl)
def U2(i s l:Nat):(V.ptr i s l).cells=[.ptr i s l]:=(rfl)
attribute [simp] UZ U0 PX Y9 U1 U2
attribute [simp] FK
def U3(args:List V)(t:Nat):oN args t=(match args[t]? with|some v=>v|none=> .bad):=(rfl)
attribute [simp] UY U3 St.new.eq_1 vO.eq_1 vO.eq_2 wK.eq_1 wK.eq_2 wK.eq_3 wK.eq_4 wK.eq_5 wK.eq_6 wK.eq_7 Go.Abs.part.eq_1 EM.eq_1 EM.eq_2 EM.eq_3 EM.eq_4 elems.eq_1 elems.eq_2 elems.eq_3 elems.eq_4 sP.eq_1 sP.eq_2 sP.eq_3 sP.eq_4 sP.eq_5 sP.eq_6 sP.eq_7 sP.eq_8 sP.eq_9 sP.eq_10 sP.eq_11 sP.eq_12 sP.eq_13 sP.eq_14 sP.eq_15 sP.eq_16 sP.eq_17 Bj.eq_1 Bj.eq_2 unV.eq_1 unV.eq_2 unV.eq_3 Pd.eq_1 Pd.eq_2 Pd.eq_3 Pd.eq_4 Pd.eq_5 Pd.eq_6 Pd.eq_7 Pd.eq_8 Pd.eq_9 V.eqv.eq_1 V.eqv.eq_2 V.eqv.eq_3 V.eqv.eq_4 zQ.eq_1 zQ.eq_2 zQ.eq_3 V.put.eq_1 V.put.eq_2 lz.eq_1 lz.eq_2 lz.eq_3 lz.eq_4 lz.eq_5 xx.eq_1 xx.eq_2 qF.eq_1 qF.eq_2 V.fits.eq_1 V.fits.eq_2 V.fits.eq_3 V.fits.eq_4 qu.eq_1 qu.eq_2 fY.eq_1 fY.eq_2 oY.eq_1 oY.eq_2 mL.eq_1 mL.eq_2 V.oX.eq_1 V.oX.eq_2 V.oX.eq_3 V.oX.eq_4 V.oX.eq_5 V.oX.eq_6 V.oX.eq_7 V.oX.eq_8 V.Bk.eq_1 V.Bk.eq_2 V.isStr.eq_1 V.isStr.eq_2 TI.isStr.eq_1 cF.eq_1 cF.eq_2 cF.eq_3 nm.eq_1 vQ.eq_1 vQ.eq_2 vQ.eq_3 X0.eq_1 X0.eq_2 X0.eq_3 bounds.eq_1
def mark{α:Type}(x:α):α:=x
def aif(x:α):mark x=x:=(rfl)
def Wp(X:Env)(f:FuncId)(c:Code)(S:St)(Q:Ex->St->Prop):Prop:= ∃e S1,ev X f c S=some (e,S1)/\Q e S1
def aih(X:Env)(f:FuncId)(b:Code)(Q:Ex->St->Prop):Ex->St->Prop
 | .normal,S=>Wp X f b S Q
 |e,S=>Q e S
def U4(id:Nat)(Q:Ex->St->Prop):Ex->St->Prop
 | .exit i,S=>if i=id then Q .normal S else Q (.exit i) S
 |e,S=>Q e S
def mq(r:Option St)(K:St->Prop):Prop:=
 match r with
 |some S=>K S
 |none=>False
def Jg(X:Env)(f:FuncId)(key:Nat)(Inv:Nat->St->Prop)(i N:Nat)(Q:Ex->St->Prop):Ex->St->Prop
 | .normal,S=>i<N/\mq (mark (oR X f key S)) (Inv (i+1))
 |e,S=>Q e S
section
variable {X:Env} {f:FuncId} {S:St} {Q:Ex->St->Prop}
theorem MD(b:Code):aih X f b Q .normal S=Wp X f b S Q:=(rfl)
theorem U5(b:Code)(i:Nat):aih X f b Q (.exit i) S=Q (.exit i) S:=(rfl)
theorem Za(b:Code):aih X f b Q .ret S=Q .ret S:=(rfl)
theorem ME(id:Nat):U4 id Q .normal S=Q .normal S:=(rfl)
theorem U6(id i:Nat):U4 id Q (.exit i) S=(if i=id then Q .normal S else Q (.exit i) S):=(rfl)
theorem Zb(id:Nat):U4 id Q .ret S=Q .ret S:=(rfl)
theorem Kz(key:Nat)(Inv:Nat->St->Prop)(i N:Nat):Jg X f key Inv i N Q .normal S=(i<N/\mq (mark (oR X f key S)) (Inv (i+1))):=(rfl)
theorem PY(key:Nat)(Inv:Nat->St->Prop)(i N k:Nat):Jg X f key Inv i N Q (.exit k) S=Q (.exit k) S:=(rfl)
theorem U7(key:Nat)(Inv:Nat->St->Prop)(i N:Nat):Jg X f key Inv i N Q .ret S=Q .ret S:=(rfl)
theorem PZ(K:St->Prop):mq (some S) K=K S:=(rfl)
theorem P0(c:Prop)[Decidable c](a:Option St)(K:St->Prop):mq (if c then a else none) K=(c/\(c->mq (mark a) K)):=by
 by_cases h:c<;>simp[h,mq,mark]
theorem MF(c:Prop)[Decidable c](a:Option St)(K:St->Prop):mq (if c then none else a) K=(¬c/\(¬c->mq (mark a) K)):=by
 by_cases h:c<;>simp[h,mq,mark]
def iO(X:Env)(bY:FuncId)(da:List (Option Nat))(n0 k:Nat)(ops:List Oper)(S:St)(K:St->Prop):Prop:=mq (gM X (cL X) bY da n0 k ops S) K
def rP(v:V)(want:Bool)(ff:Nat->V)(_dj:Nat)(p q:(Nat->V)->Prop):Prop:=
 match v with
 | .bool b=>if b=want then p ff else q ff
 | .dM []=>q ff
 |_=>False
theorem U8(ff:Nat->V)(dj:Nat)(p q:(Nat->V)->Prop):rP (.bool true) true ff dj p q=p ff:=by simp[rP]
theorem Zc(ff:Nat->V)(dj:Nat)(p q:(Nat->V)->Prop):rP (.bool false) true ff dj p q=q ff:=by simp[rP]
theorem P1(ff:Nat->V)(dj:Nat)(p q:(Nat->V)->Prop):rP (.bool false) false ff dj p q=p ff:=by simp[rP]
theorem U9(ff:Nat->V)(dj:Nat)(p q:(Nat->V)->Prop):rP (.bool true) false ff dj p q=q ff:=by simp[rP]
theorem P2(w:Bool)(ff:Nat->V)(dj:Nat)(p q:(Nat->V)->Prop):rP (.dM []) w ff dj p q=q ff:=(rfl)
theorem MH{ff:Nat->V}{dj:Nat}(h:ff dj=v):aR ff dj v=ff:=by grind [aR]
theorem P3{b:Bool}{ff:Nat->V}{dj:Nat}{p q:(Nat->V)->Prop}(h:ff dj= .bool b):rP (.bool b) true ff dj p q=((b=true->p (aR ff dj (.bool true)))/\(b=false->q (aR ff dj (.bool false)))):=by
 cases b<;>rw[MH h]<;>simp[rP]
theorem MJ{b:Bool}{ff:Nat->V}{dj:Nat}{p q:(Nat->V)->Prop}(h:ff dj= .bool b):rP (.bool b) false ff dj p q=((b=false->p (aR ff dj (.bool false)))/\(b=true->q (aR ff dj (.bool true)))):=by
 cases b<;>rw[MH h]<;>simp[rP]
theorem Zd(da:List (Option Nat))(n0 k:Nat)(K:St->Prop):iO X f da n0 k [] S K=K S:=(rfl)
theorem v7(da:List (Option Nat))(n0 k:Nat)(o:Oper)(r:List Oper)(K:St->Prop):iO X f da n0 k (o::r) S K=
  match o.guard with
  |none=>mq (fu X (cL X) f n0 k o S) fun S1=>iO X f da n0 (k+1) r S1 K
  |some (j,want)=>match da[j]? with
   |some (some d)=>rP (S.f d) want S.f d (fun _=>mq (fu X (cL X) f n0 k o S) fun S1=>iO X f da n0 (k+1) r S1 K) (fun _=>iO X f da n0 (k+1) r (S.set o.dst (.dM [])) K)
   |_=>False:=by
 unfold iO;rw[gM];cases o.guard with
 |none=>cases fu X (cL X) f n0 k o S<;>rfl
 |some p=>
  obtain⟨j,want⟩:=p;simp only;cases da[j]? with
  |none=>rfl
  |some x=>
   cases x with
   |none=>rfl
   |some d=>
    simp only;cases hv:S.f d with
    |bool b=>
     simp only[rP];split
     ·cases fu X (cL X) f n0 k o S<;>rfl
     ·rfl
    |dM l=>cases l<;>rfl
    |_=>rfl
theorem FL{e:Ex}{S1:St}(h:ev X f c S=some (e,S1)):Wp X f c S Q=Q e S1:=by
 apply propext;constructor
 ·rintro⟨e',S',h',hq⟩
  grind
 ·intro hq;exact⟨e,S1,h,hq⟩
theorem aii:Wp X f .skip S Q=Q .normal S:=FL (aic X f S)
theorem aij(id:Nat):Wp X f (.exit id) S Q=Q (.exit id) S:=FL (aid X f S id)
theorem arn:Wp X f .ret S Q=Q .ret S:=FL (ark X f S)
theorem aro(a b:Code):Wp X f (.seq a b) S Q=Wp X f a S (aih X f b Q):=by
 apply propext;unfold Wp;rw[arl];constructor
 ·rintro⟨e,S1,h,hq⟩;cases ha:ev X f a S with
  |none=>grind
  |some x=>
   obtain⟨e2,S2⟩:=x;rw[ha]at h;refine⟨e2,S2,rfl,?_⟩;cases e2 with
   |normal=>exact⟨e,S1,h,hq⟩
   |exit i=>
    obtain⟨rfl,rfl⟩:=h;exact hq
   |ret=>
    obtain⟨rfl,rfl⟩:=h;exact hq
 ·rintro⟨e,S1,h,hq⟩;rw[h];cases e with
  |normal=>
   obtain⟨e2,S2,h2,hq2⟩:=hq
   grind
  |exit i=>exact⟨_,_,rfl,hq⟩
  |ret=>exact⟨_,_,rfl,hq⟩
def nF(f:Nat->V):Operand->V
 | .tmp t=>f t
 | .const v=>vO v
 | .func g=> .fn g [] []
 | .global _=> .bad
theorem KA(S:St):nF S.f=S.ev:=by funext x;cases x<;>rfl
def choose(v:V)(p q:Prop):Prop:=
 match v with
 | .bool true=>p
 | .bool false=>q
 |_=>False
theorem MK(p q:Prop):choose (.bool true) p q=p:=(rfl)
theorem KB(p q:Prop):choose (.bool false) p q=q:=(rfl)
theorem ML(b:Bool)(p q:Prop):choose (.bool b) p q=((b=true->p)/\(b=false->q)):=by cases b<;>simp[choose]
theorem aik(x:Operand)(a b:Code):Wp X f (.cond x a b) S Q=choose (mark (nF S.f x)) (Wp X f a S Q) (Wp X f b S Q):=by
 show(Wp X f (.cond x a b) S Q)=choose (S.ev x) (Wp X f a S Q) (Wp X f b S Q);unfold Wp;rw[aie];cases S.ev x with
 |bool t=>cases t<;>simp[choose]
 |_=>simp[choose]
theorem Ze(id:Nat)(b:Code):Wp X f (.block id b) S Q=Wp X f b S (U4 id Q):=by
 apply propext;unfold Wp;rw[Y7];constructor
 ·rintro⟨e,S1,h,hq⟩;cases hb:ev X f b S with
  |none=>grind
  |some x=>
   obtain⟨e2,S2⟩:=x;rw[hb]at h;refine⟨e2,S2,rfl,?_⟩;cases e2 with
   |normal=>
    obtain⟨rfl,rfl⟩:=h;exact hq
   |exit i=>
    simp only at h;simp only[U4]
    grind
   |ret=>
    obtain⟨rfl,rfl⟩:=h;exact hq
 ·rintro⟨e,S1,h,hq⟩;rw[h];cases e with
  |normal=>exact⟨_,_,rfl,hq⟩
  |exit i=>
   simp only[U4]at hq
   grind
  |ret=>exact⟨_,_,rfl,hq⟩
def stb(l:List (Nat×Nat))(p:List (Nat×Nat)->Prop):Prop:=p l
theorem Va(id:Nat)(ops:Array Oper)(d:Bool):Wp X f (.region id ops d) S Q=
  mq (mark (oR X f (2*id) S)) fun S=>iO X f (ops.toList.map (·.dst)) S.n 0 ops.toList ⟨S.f,S.h,S.n+ops.size⟩ fun S1=>stb (mark (X.sX f id)) (lA X (cL X) f ops.toList S.n {S with n:=S.n+ops.size} S1)/\Q .normal S1:=by
 show _=mq (oR X f (2*id) S) fun S=>iO X f (ops.toList.map (·.dst)) S.n 0 ops.toList {S with n:=S.n+ops.size} fun S1=>lA X (cL X) f ops.toList S.n {S with n:=S.n+ops.size} S1 (X.sX f id)/\Q .normal S1;unfold Wp iO;rw[UX];cases hn:oR X f (2*id) S with
 |none=>simp[mq]
 |some S=>
 simp only[mq]
 grind
theorem arp(id:Nat)(l:List Oper)(d:Bool):Wp X f (.region id l.toArray d) S Q=
  mq (mark (oR X f (2*id) S)) fun S=>iO X f (l.map (·.dst)) S.n 0 l ⟨S.f,S.h,S.n+l.length⟩ fun S1=>stb (mark (X.sX f id)) (lA X (cL X) f l S.n {S with n:=S.n+l.length} S1)/\Q .normal S1:=by
 rw[Va]
 grind
theorem lS(Inv:Nat->St->Prop)(N:Nat)(step: ∀i S,i<=N->Inv i S->Wp X f b S (Jg X f (2*jb b+1) Inv i N Q)): ∀(i:Nat) {S:St},i<=N->mq (mark (oR X f (2*jb b+1) S)) (Inv i)->Wp X f (.loop b) S Q:=by
 suffices h: ∀(k i:Nat) {S:St},N-i=k->i<=N->mq (oR X f (2*jb b+1) S) (Inv i)->Wp X f (.loop b) S Q from fun i S hi h0=>h (N-i) i rfl hi h0;intro k;induction k with
 |zero=>
  intro i S hk hi h0;cases hn:oR X f (2*jb b+1) S with
  |none=>rw[hn]at h0;exact absurd h0 (fun h=>h)
  |some S0=>
  rw[hn]at h0;obtain⟨e,S1,h,hq⟩:=step i S0 hi h0;refine⟨e,S1,?_,?_⟩
  ·rw[Ky,hn];simp only;rw[h];cases e with
   |normal=>exact absurd hq.1 (by omega)
   |exit i=>rfl
   |ret=>rfl
  ·cases e with
   |normal=>exact absurd hq.1 (by omega)
   |exit i=>exact hq
   |ret=>exact hq
 |succ k ih=>
  intro i S hk hi h0;cases hn:oR X f (2*jb b+1) S with
  |none=>rw[hn]at h0;exact absurd h0 (fun h=>h)
  |some S0=>
  rw[hn]at h0;obtain⟨e,S1,h,hq⟩:=step i S0 hi h0;unfold Wp;rw[Ky,hn];simp only;rw[h];cases e with
  |normal=>
   obtain⟨gY,hinv⟩:=hq;exact ih (i+1) (by omega) gY hinv
  |exit i=>exact⟨_,_,rfl,hq⟩
  |ret=>exact⟨_,_,rfl,hq⟩
end
def Zf{X:Env}{f:FuncId}{S S':St}{Q:Ex->St->Prop}(h:S=S'):Wp X f c S Q=Wp X f c S' Q:=by rw[h]
def MM{r r':Option St}{K:St->Prop}(h:r=r'):mq r K=mq r' K:=by rw[h]
def P4{X:Env}{bY:FuncId}{da:List (Option Nat)}{n0 k:Nat}{ops:List Oper}{S S':St}{K:St->Prop}(h:S=S'):iO X bY da n0 k ops S K=iO X bY da n0 k ops S' K:=by rw[h]
def MN{w:Bool}{ff:Nat->V}{dj:Nat}{p q:(Nat->V)->Prop}(h:v=v'):rP v w ff dj p q=rP v' w ff dj p q:=by rw[h]
def KC(h:v=v'):choose v p q=choose v' p q:=by rw[h]
attribute [congr] Zf MM KC P4 MN
def ail(a b:Int):(a==b)=decide (a=b):=(rfl)
def MO(X:Env)(rs:List ResultVar)(K:V->bh->Nat->Prop):Ex->St->Prop
 | .exit _,_=>False
 |_,S=>match nm X rs S with|some v=>K v S.h S.n|none=>False
section
variable {X:Env} {S:St} {rs:List ResultVar} {K:V->bh->Nat->Prop}
theorem yq:MO X rs K .normal S=(match nm X rs S with|some v=>K v S.h S.n|none=>False):=(rfl)
theorem FM:MO X rs K .ret S=(match nm X rs S with|some v=>K v S.h S.n|none=>False):=(rfl)
end
def bC {X:Env} {g:FuncId}   {rs:List ResultVar} (hf:X.P.funcs[g]?=some fn) (hb:fn.body=some b) (hr:fn.results=⟨rs⟩) {args:List V} {h:bh} {k:Nat} {K:V->bh->Nat->Prop}
  (hw:Wp X g b ⟨oN args,h,k⟩ (MO X rs K)) (hp:X.oW g=none:=by rfl): ∃v h' k',cL X g args h k=some (v,h',k')/\K v h' k':=by
 have Df:rs=fn.results.toList:=by rw[hr]
 rw[Df]at hw;rw[Y8 hf hb (hp:=hp)];obtain⟨e,S1,h1,h2⟩:=hw;rw[h1];cases e with
 |exit i=>exact absurd h2 (fun h=>h)
 |normal=>
  unfold vQ;cases hr:nm X fn.results.toList S1 with
  |none=>rw[yq,hr]at h2;grind
  |some v=>rw[yq,hr]at h2;grind
 |ret=>
  unfold vQ;cases hr:nm X fn.results.toList S1 with
  |none=>rw[FM,hr]at h2;grind
  |some v=>rw[FM,hr]at h2;grind
def aaB{X:Env}{g:FuncId}{rs:List ResultVar}{args:List V}{h:bh}{k:Nat}{K:V->bh->Nat->Prop}(hw:Wp X g b ⟨oN args,h,k⟩ (MO X rs K))(hf:X.P.funcs[g]?=some fn:=by rfl)(hb:fn.body=some b:=by rfl)(hr:fn.results=⟨rs⟩:=by rfl)(hp:X.oW g=none:=by rfl): ∃v h' k',cL X g args h k=some (v,h',k')/\K v h' k':=bC hf hb hr hw (hp:=hp)
def MP {X:Env} {g:FuncId}   {rs:List ResultVar} (hf:X.P.funcs[g]?=some fn) (hb:fn.body=some b) (hr:fn.results=⟨rs⟩) {args:List V} {h h':bh} {k k':Nat} 
  (hw:Wp X g b ⟨oN args,h,k⟩ (MO X rs fun v1 h1 k1=>v1=v/\h1=h'/\k1=k')) (hp:X.oW g=none:=by rfl):cL X g args h k=some (v,h',k'):=by
 obtain⟨_,_,_,e,rfl,rfl,rfl⟩:=bC hf hb hr hw hp;exact e
def FN {X:Env} {g:FuncId}   {rs:List ResultVar} (hf:X.P.funcs[g]?=some fn) (hb:fn.body=some b) (hr:fn.results=⟨rs⟩) {args:List V} {h:bh} {k k':Nat}  {K:bh->Prop}
  (hw:Wp X g b ⟨oN args,h,k⟩ (MO X rs fun v1 h1 k1=>v1=v/\k1=k'/\K h1)) (hp:X.oW g=none:=by rfl): ∃h',cL X g args h k=some (v,h',k')/\K h':=by
 obtain⟨_,h',_,e,rfl,rfl,q⟩:=bC hf hb hr hw hp;grind
def pP:bh:=fun _=>none
def aU {X:Env} {g:FuncId}   {rs:List ResultVar} (hf:X.P.funcs[g]?=some fn) (hb:fn.body=some b) (hr:fn.results=⟨rs⟩) {args:List V} {r:V}
  (hw:Wp X g b ⟨oN args,pP,0⟩ (MO X rs fun v h _=>(cx h depth v).map V.lM=some r)) (hp:X.oW g=none:=by rfl):bW X g args=some r:=by
 obtain⟨v,h,k,h1,h2⟩:=bC hf hb hr hw hp;unfold bW rM;simp only[hp];have uE:cL X g args (fun _=>none) 0=some (v,h,k):=h1
 grind
def aaA{X:Env}{g:FuncId}{rs:List ResultVar}{args:List V}{r:V}(hw:Wp X g b ⟨oN args,pP,0⟩ (MO X rs fun v h _=>(cx h depth v).map V.lM=some r))(hf:X.P.funcs[g]?=some fn:=by rfl)(hb:fn.body=some b:=by rfl)(hr:fn.results=⟨rs⟩:=by rfl)(hp:X.oW g=none:=by rfl):bW X g args=some r:=aU hf hb hr hw (hp:=hp)
def MQ: ∀l:List V,eV l=l.map V.lM
 | []=>rfl
 |c::cs=>by simp[eV,MQ cs]
noncomputable def nr(X:Env)(m:Mask)(g:FuncId)(args:List V):Option V:=
 match cL X g args pP 0 with
 |some (v,h,_)=>LO X h v m
 |none=>none
def mT {X:Env}  {g:FuncId}   {rs:List ResultVar} (hf:X.P.funcs[g]?=some fn) (hb:fn.body=some b) (hr:fn.results=⟨rs⟩) {args:List V} {r:V}
  (hw:Wp X g b ⟨oN args,pP,0⟩ (MO X rs fun v h _=>LO X h v m=some r)) (hp:X.oW g=none:=by rfl):nr X m g args=some r:=by
 obtain⟨v,h,k,h1,h2⟩:=bC hf hb hr hw hp;unfold nr
 grind
def aaC{X:Env}{g:FuncId}{rs:List ResultVar}{args:List V}{r:V}(hw:Wp X g b ⟨oN args,pP,0⟩ (MO X rs fun v h _=>LO X h v m=some r))(hf:X.P.funcs[g]?=some fn:=by rfl)(hb:fn.body=some b:=by rfl)(hr:fn.results=⟨rs⟩:=by rfl)(hp:X.oW g=none:=by rfl):nr X m g args=some r:=mT hf hb hr hw (hp:=hp)
def vj:V->V
 | .dM _=> .dM []
 |_=> .bad
def P5(k:IntKind)(n:Int):vj (.int k n)= .bad:=(rfl)
def P6(l:List V):vj (.agg l)= .bad:=(rfl)
def Vb(c:Bool)(l:List V):vj (.sl c l)= .bad:=(rfl)
def P7(a b c:Nat):vj (.cu a b c)= .bad:=(rfl)
def MR(v:V)(vs:List V):z9 (vj v) vs=z9 v vs:=by cases v<;>rfl
noncomputable def oF(X:Env)(M:Mask)(g:FuncId)(k:Nat)(R:V)(args:List V):Option (Nat×V×List V×V):=
 match cL X g (.ptr 0 0 0::args) (ma X g k R) (1+(X.fl g).length) with
 |some (v,h,_)=>match x8 X M v h with
  |some (k',r,rs)=>some (k',r,rs,vj v)
  |none=>none
 |none=>none
def Vc(X:Env)(bY:FuncId)(dst:Option Nat)(g:FuncId)(args:List V)(S:St):mZ X (cL X) bY dst g args S=
  match rL S.h args with
  |some (bwf,h1)=>
   match nr X (dst.elim [] (X.mask bY)) g bwf with
   |some r=>some ((⟨S.f,xO X (X.fX bY) r S.n (dst.elim [] (X.mask bY)) h1,S.n+(dst.elim [] (X.mask bY)).length⟩:St).set dst (vc S.n (dst.elim [] (X.mask bY)) r))
   |none=>none
  |none=>none:=by
 unfold mZ nr pP
 grind
def aim(X:Env)(bY:FuncId)(dst:Option Nat)(g:FuncId)(id:Nat)(rest:List V)(S:St):vd X (cL X) bY dst g (.ptr id 0 0::rest) S=
  match S.h id with
  |some ob=>
   match ob.es with
   | [e]=>
    if ob.eU=true then
     match Bl X (aR S.h id none) (fun _=>none) e (X.fl g) with
     |some R=>
      match rL (gq (aR S.h id none) (iD e (X.fl g))) rest with
      |some (bwf,h1)=>
       match oF X (rT X bY dst g) g ob.k R bwf with
       |some (k',r,rs,v)=>
        some ((⟨S.f,xO X (X.fX bY) (.dM (r::rs)) S.n (rT X bY dst g) (aR h1 id (some ⟨k',[EN (vc S.n (rT X bY dst g) (.dM (r::rs)))],true⟩)),S.n+(rT X bY dst g).length⟩:St).set dst
          (z9 v (SC (vc S.n (rT X bY dst g) (.dM (r::rs))))))
       |none=>none
      |none=>none
     |none=>none
    else none
   |_=>none
  |none=>none:=by
 rw[vd.eq_1];cases S.h id with
 |none=>rfl
 |some ob=>
  simp only;cases IZ:ob.es with
  |nil=>rfl
  |cons e t=>
   cases t with
   |cons _ _=>rfl
   |nil=>
    cases ob.eU with
    |false=>rfl
    |true=>
     simp only[if_true];cases Bl X (aR S.h id none) (fun _=>none) e (X.fl g) with
     |none=>rfl
     |some R=>
      cases rL (gq (aR S.h id none) (iD e (X.fl g))) rest with
      |none=>rfl
      |some x=>
       obtain⟨bwf,h1⟩:=x;simp only;unfold oF;cases cL X g (V.ptr 0 0 0::bwf) (ma X g ob.k R) (1+(X.fl g).length) with
       |none=>rfl
       |some x=>
        obtain⟨v,h,n⟩:=x;simp only;cases x8 X (rT X bY dst g) v h with
        |none=>rfl
        |some y=>
         simp only[MR]
def fZ {X:Env}  {g:FuncId}   {rs:List ResultVar} (hf:X.P.funcs[g]?=some fn) (hb:fn.body=some b) (hr:fn.results=⟨rs⟩) {k:Nat}  {args:List V} {k':Nat} {r:V} {rl:List V}
  (hw:Wp X g b ⟨oN (.ptr 0 0 0::args),ma X g k R,1+(X.fl g).length⟩ (MO X rs fun v' h _=>x8 X M v' h=some (k',r,rl)/\vj v'=v)) (hp:X.oW g=none:=by rfl):
  oF X M g k R args=some (k',r,rl,v):=by
 obtain⟨v',h,n,h1,h2,rfl⟩:=bC hf hb hr hw hp;unfold oF
 grind
def aaD{X:Env}{g:FuncId}{rs:List ResultVar}{k:Nat}{args:List V}{k':Nat}{r:V}{rl:List V}(hw:Wp X g b ⟨oN (.ptr 0 0 0::args),ma X g k R,1+(X.fl g).length⟩ (MO X rs fun v' h _=>x8 X M v' h=some (k',r,rl)/\vj v'=v))(hf:X.P.funcs[g]?=some fn:=by rfl)(hb:fn.body=some b:=by rfl)(hr:fn.results=⟨rs⟩:=by rfl)(hp:X.oW g=none:=by rfl):  oF X M g k R args=some (k',r,rl,v):=fZ hf hb hr hw (hp:=hp)
def Vd(X:Env)(bY:FuncId)(dst:Option Nat)(g:FuncId)(args:List V)(S:St):gU X (cL X) bY dst g args S=
  match X.clone g with
  |some t=>
   match args with
   | [s]=>match elems S.h s with
    |some (es,kx)=>if s.isStr||(kx&& !X.fX bY (X.ti t).elem)|| !(es.all fun v=>v.cells.length==(X.ti (X.ti t).elem).size)|| !decide (es.length*(X.ti (X.ti t).elem).bytes<=2^47/\es.length<=2^62) then none else some ((S.new ⟨(X.ti (X.ti t).elem).size,es,X.fX bY (X.ti t).elem⟩).set dst (.cu S.n 0 es.length))
    |none=>none
   |_=>none
  |none=>
  if(X.hZ g&& !X.low g)=true then
   match cL X g args S.h S.n with
   |some (v,h,n)=>some (({S with h:=h,n:=n}:St).set dst v)
   |none=>none
  else if X.gm g=true then vd X (cL X) bY dst g args S
  else if(!(dst.elim [] (X.mask bY)).isEmpty)=true then mZ X (cL X) bY dst g args S
  else
   match cF (args.map (cx S.h depth)) with
   |some bwf=>
    if(dst.any (X.oV bY)&& !X.low g)=true then
     match cL X g (eV bwf) pP S.n with
     |some (v,h,n)=>if(args.any V.xN&& !v.pu)=true then none else some (({S with h:=fun id=>if id<S.n then S.h id else if args.any V.xN=true then kL (h id) else h id,n:=n}:St).set dst v)
     |none=>none
    else
     match bW X g (eV bwf) with
     |some v=>if(args.any V.xN&& !v.scalar)=true then none else some (S.set dst v)
     |none=>none
   |none=>none:=by
 have key: ∀v:V,v.lM.scalar=v.scalar:=by
  intro v;have l0: ∀v:V,v.lM.leaf=v.leaf:=fun v=>by cases v<;>rfl
  have ll: ∀l:List V,(eV l).all V.leaf=l.all V.leaf:=by
   intro l;induction l with
   |nil=>rfl
   |cons c l ih=>simp[eV,l0,ih]
  have l1: ∀v:V,v.lM.xZ=v.xZ:=fun v=>by
   cases v with
   |agg cs=>simp[V.lM,V.xZ,ll]
   |_=>rfl
  have ll1: ∀l:List V,(eV l).all V.xZ=l.all V.xZ:=by
   intro l;induction l with
   |nil=>rfl
   |cons c l ih=>simp[eV,l1,ih]
  cases v with
  |dM cs=>simp[V.lM,V.scalar,ll1]
  |agg cs=>simp[V.lM,V.scalar,V.xZ,ll]
  |_=>rfl
 unfold gU bW;cases X.clone g with
 |some t=>rfl
 |none=>
  by_cases hb:(X.hZ g&& !X.low g)=true
  ·grind
  ·simp only[hb,if_false,aaM];by_cases Bg:X.gm g=true
   ·grind
   by_cases Hn:(!(dst.elim [] (X.mask bY)).isEmpty)=true
   ·grind
   cases cF (args.map (cx S.h depth)) with
   |none=>rfl
   |some bwf=>
    by_cases ht:(dst.any (X.oV bY)&& !X.low g)=true
    ·simp only[ht,if_true];rfl
    grind
def MS(X:Env)(call:jm)(bY:FuncId)(ops:List Oper)(n0:Nat)(S0 S1:St)(q:Nat×Nat)(l:List (Nat×Nat)):lA X call bY ops n0 S0 S1 (q::l)=
  (((∃o,ops[q.1]?=some o/\IK (ops.map (·.dst)) o S1)\/(∃o T v,ops[q.1]?=some o/\gM X call bY (ops.map (·.dst)) n0 0 (ops.take q.2) S0=some T/\
  cI X bY o S1.ev T.h (n0+q.1)=some (v,T.h,n0+q.1)/\ ∀d,o.dst=some d->S1.f d=v))/\lA X call bY ops n0 S0 S1 l):=by
 simp only[lA,List.forall_mem_cons]
def ko(r:Option (V×bh×Nat))(K:V->bh->Prop):Prop:=
 match r with
 |some (v,h,_)=>K v h
 |none=>False
def P8(v:V)(h:bh)(n:Nat)(K:V->bh->Prop):ko (some (v,h,n)) K=K v h:=(rfl)
def P9(K:V->bh->Prop):ko none K=False:=(rfl)
def Qa(c:Prop)[Decidable c](a:Option (V×bh×Nat))(K:V->bh->Prop):ko (if c then a else none) K=(c/\(c->ko (mark a) K)):=by
 by_cases h:c<;>simp[h,ko,mark]
def MT(c:Prop)[Decidable c](a:Option (V×bh×Nat))(K:V->bh->Prop):ko (if c then none else a) K=(¬c/\(¬c->ko (mark a) K)):=by
 by_cases h:c<;>simp[h,ko,mark]
def MU{r r':Option (V×bh×Nat)}{K:V->bh->Prop}(h:r=r'):ko r K=ko r' K:=by rw[h]
def Ve{l l':List (Nat×Nat)}{p:List (Nat×Nat)->Prop}(h:l=l'):stb l p=stb l' p:=by rw[h]
attribute [congr] MU Ve
def ain(X:Env)(call:jm)(bY:FuncId)(ops:List Oper)(n0:Nat)(S0 S1:St):stb [] (lA X call bY ops n0 S0 S1)=True:=FK ..
def rdP(X:Env)(bY:FuncId)(o:Option Oper)(S1 T:St)(m:Nat):Prop:= ∃o' v,o=some o'/\cI X bY o' S1.ev T.h m=some (v,T.h,m)/\ ∀d,o'.dst=some d->S1.f d=v
def S5(l:List Oper)(K:List Oper->Prop):Prop:=K l
def Qb(o:Oper)(l:List Oper)(K:List Oper->Prop):S5 (o::l) K=K (o::l):=(rfl)
def Vf(K:List Oper->Prop):S5 [] K=K []:=(rfl)
def Vg{X:Env}{bY:FuncId}{o o':Option Oper}{S1 T:St}{m:Nat}(h:o=o'):rdP X bY o S1 T m=rdP X bY o' S1 T m:=by rw[h]
attribute [congr] Vg
def skP(o:Option Oper)(da:List (Option Nat))(S1:St):Prop:= ∃o',o=some o'/\IK da o' S1
def Zg(da:List (Option Nat))(d:Option Nat)(op:Op)(ty:TypeId)(ps:String)(af:Array Edge)(S1:St):skP (some ⟨d,op,ty,ps,af,none⟩) da S1=False:=by
 simp[skP,IK]
def Zh(da:List (Option Nat))(d:Option Nat)(op:Op)(ty:TypeId)(ps:String)(af:Array Edge)(j:Nat)(want:Bool)(S1:St):skP (some ⟨d,op,ty,ps,af,some (j,want)⟩) da S1=
  (match da[j]? with|some (some d)=>S1.f d= .dM []\/S1.f d= .bool (!want)|_=>False):=by
 simp only[skP,IK,Option.some.injEq,exists_eq_left'];try rfl
def Vh{o o':Option Oper}{da:List (Option Nat)}{S1:St}(h:o=o'):skP o da S1=skP o' da S1:=by rw[h]
attribute [congr] Vh
def Zi(X:Env)(bY:FuncId)(ops:List Oper)(n0:Nat)(S0 S1:St)(j p:Nat)(l:List (Nat×Nat)):stb ((j,p)::l) (lA X (cL X) bY ops n0 S0 S1)=
  ((skP (mark ops[j]?) (ops.map (·.dst)) S1\/S5 (mark (ops.take p)) fun a7n=>iO X bY (ops.map (·.dst)) n0 0 a7n S0 fun T=>rdP X bY (mark ops[j]?) S1 T (n0+j))/\stb l (lA X (cL X) bY ops n0 S0 S1)):=by
 unfold stb;rw[MS];congr 1;congr 1;unfold S5 mark iO rdP;apply propext;constructor
 ·rintro⟨o,T,v,h1,h2,h3,h4⟩;simp only[h2];exact⟨o,v,h1,h3,h4⟩
 ·intro h;cases hT:gM X (cL X) bY (ops.map (·.dst)) n0 0 (ops.take p) S0 with
  |none=>simp only[hT]at h;exact absurd h (fun h=>h)
  |some T=>
   simp only[hT]at h;obtain⟨o,v,h1,h3,h4⟩:=h
   grind
def S6(X:Env)(bY:FuncId)(d:Nat)(t:TypeId)(a:Operand)(ty:TypeId)(ps:String)(af:Array Edge)(g:Option (Nat×Bool))(S1 T:St)(m:Nat):rdP X bY (some ⟨some d,.load t a,ty,ps,af,g⟩) S1 T m=
  ∃v,(match nF S1.f a with
   | .ptr id i f=>match T.h id with
    |some ob=>match ob.es[i]? with
     |some e=>match part (X.ti t) e.cells f with|some v=>some (v,T.h,m)|none=>none
     |none=>none
    |none=>none
   | .ref cs=>match part (X.ti t) cs 0 with|some v=>some (v,T.h,m)|none=>none
   |_=>none)=some (v,T.h,m)/\S1.f d=v:=by
 apply propext;constructor
 ·rintro⟨o,v,h,h1,h2⟩;simp only[aA]at h;subst h;exact⟨v,h1,h2 d rfl⟩
 ·rintro⟨v,h1,h2⟩;refine⟨_,v,rfl,h1,fun d' h=> ?_⟩
  grind
def ars(da:List (Option Nat))(f:Nat->V)(j:Nat):V:=
 match da[j]? with
 |some (some d)=>f d
 |_=> .bad
def art(da:List (Option Nat))(j:Nat):Nat:=
 match da[j]? with
 |some (some d)=>d
 |_=>0
section
variable {X:Env} {fx:FuncId} {da:List (Option Nat)} {n0 kk n:Nat} {r:List Oper} {ff:Nat->V} {hp:bh} {K:St->Prop} {d:Nat} {ty:TypeId} {ps:String} {af:Array Edge}
theorem Qc {o:Oper} {S:St} (hs:fu X (cL X) fx n0 kk o S=match cI X fx o S.ev S.h (n0+kk) with
  |some (v,h,_)=>some (({S with h:=h}:St).set o.dst v)
  |none=>none) (hg:o.guard=none):iO X fx da n0 kk (o::r) S K=ko (cI X fx o S.ev S.h (n0+kk)) fun v h=>iO X fx da n0 (kk+1) r ((⟨S.f,h,S.n⟩:St).set o.dst v) K:=by
 rw[v7,hg,hs];cases cI X fx o S.ev S.h (n0+kk) with
 |none=>rfl
 |some x=>rfl
theorem gy {o:Oper} (hs: ∀S,fu X (cL X) fx n0 kk o S=match cI X fx o S.ev S.h (n0+kk) with
  |some (v,h,_)=>some (({S with h:=h}:St).set o.dst v)
  |none=>none) (hg:o.guard=none) {d:Option Nat} (hd:o.dst=d):iO X fx da n0 kk (o::r) ⟨ff,hp,n⟩ K=ko (mark (cI X fx o (nF ff) hp (n0+kk))) fun v h=>iO X fx da n0 (kk+1) r ((⟨ff,h,n⟩:St).set d v) K:=by
 subst hd;exact Qc (hs _) hg
theorem Vi(d:Nat)(op:Op)(j:Nat)(w:Bool):iO X fx da n0 kk (⟨some d,op,ty,ps,af,some (j,w)⟩::r) ⟨ff,hp,n⟩ K=
  rP (mark (ars da ff j)) w ff (art da j) (fun ff=>iO X fx da n0 kk (⟨some d,op,ty,ps,af,none⟩::r) ⟨ff,hp,n⟩ K) (fun ff=>iO X fx da n0 (kk+1) r ⟨aR ff d (.dM []),hp,n⟩ K):=by
 have key: ∀ff:Nat->V,iO X fx da n0 kk (⟨some d,op,ty,ps,af,none⟩::r) ⟨ff,hp,n⟩ K=mq (fu X (cL X) fx n0 kk ⟨some d,op,ty,ps,af,some (j,w)⟩ ⟨ff,hp,n⟩) fun S1=>iO X fx da n0 (kk+1) r S1 K:=fun ff=>by rw[v7];rfl
 simp only[key];rw[v7];unfold ars mark art;simp only;cases da[j]? with
 |none=>rfl
 |some x=>
  cases x with
  |none=>rfl
  |some x=>
   rfl
theorem Zj(d:Option Nat)(g:FuncId)(args:Array Operand)(mM:Array TypeId):iO X fx da n0 kk (⟨d,.call ⟨.value (.func g),args,mM⟩,ty,ps,af,none⟩::r) ⟨ff,hp,n⟩ K=
  mq (mark (gU X (cL X) fx d g (args.toList.map (nF ff)) ⟨ff,hp,n⟩)) fun S1=>iO X fx da n0 (kk+1) r ⟨S1.f,S1.h,S1.n⟩ K:=by
 rw[v7,show nF ff=(⟨ff,hp,n⟩:St).ev from KA ⟨ff,hp,n⟩];show mq (gU X (cL X) fx d g ([]++args.toList.map (⟨ff,hp,n⟩:St).ev++ []) ⟨ff,hp,n⟩) _=_;rw[aeQ,acU];rfl
theorem Zk(x'):iO X fx da n0 kk (⟨(some d),.move x',ty,ps,af,none⟩::r) ⟨ff,hp,n⟩ K=
  ko (mark (some (((nF ff) x'),hp,(n0+kk)))) fun v h'=>iO X fx da n0 (kk+1) r ⟨aR ff d v,h',n⟩ K:=gy (fun _=>rfl) rfl rfl
theorem Qd(x'):iO X fx da n0 kk (⟨(some d),.assign x',ty,ps,af,none⟩::r) ⟨ff,hp,n⟩ K=
  ko (mark (some (((nF ff) x'),hp,(n0+kk)))) fun v h'=>iO X fx da n0 (kk+1) r ⟨aR ff d v,h',n⟩ K:=gy (fun _=>rfl) rfl rfl
theorem Zl(c')(a')(b'):iO X fx da n0 kk (⟨(some d),.pick c' a' b',ty,ps,af,none⟩::r) ⟨ff,hp,n⟩ K=
  ko (mark (match(nF ff) c' with| .bool t=>some ((if t then(nF ff) a' else(nF ff) b'),hp,(n0+kk))|_=>none)) fun v h'=>iO X fx da n0 (kk+1) r ⟨aR ff d v,h',n⟩ K:=gy (fun _=>rfl) rfl rfl
theorem Vj(t'):iO X fx da n0 kk (⟨(some d),.alloc t',ty,ps,af,none⟩::r) ⟨ff,hp,n⟩ K=
  ko (mark (some ((.ptr (n0+kk) 0 0),aR hp (n0+kk) (some ⟨(X.ti t').size,[(X.ti t').zero],true⟩),(n0+kk)+1))) fun v h'=>iO X fx da n0 (kk+1) r ⟨aR ff d v,h',n⟩ K:=gy (fun _=>rfl) rfl rfl
theorem aip(t')(x'):iO X fx da n0 kk (⟨(some d),.box t' x',ty,ps,af,none⟩::r) ⟨ff,hp,n⟩ K=
  ko (mark (if((nF ff) x').fits (X.ti t').size then some ((.ptr (n0+kk) 0 0),aR hp (n0+kk) (some ⟨(X.ti t').size,[(nF ff) x'],true⟩),(n0+kk)+1) else none)) fun v h'=>iO X fx da n0 (kk+1) r ⟨aR ff d v,h',n⟩ K:=gy (fun _=>rfl) rfl rfl
theorem Vk(t')(xW):iO X fx da n0 kk (⟨(some d),.build t' xW,ty,ps,af,none⟩::r) ⟨ff,hp,n⟩ K=
  ko (mark (match(X.ti t').arr with
  |none=>if(X.ti t').wI=[] then none else match xx (X.ti t').wI (X.ti t').zero.cells (xW.toList.map fun p=>(p.1,(nF ff) p.2)) with
   |some cs=>some ((.agg cs),hp,(n0+kk))
   |none=>none
  |some m=>match xx ((List.range m).map fun i=>(i*(X.ti (X.ti t').elem).size,(X.ti (X.ti t').elem).size)) (X.ti t').zero.cells (xW.toList.map fun p=>(p.1,(nF ff) p.2)) with
   |some cs=>some ((.agg cs),hp,(n0+kk))
   |none=>none)) fun v h'=>iO X fx da n0 (kk+1) r ⟨aR ff d v,h',n⟩ K:=gy (fun _=>rfl) rfl rfl
theorem FO(t')(n')(xW):iO X fx da n0 kk (⟨(some d),.buildSlice t' n' xW,ty,ps,af,none⟩::r) ⟨ff,hp,n⟩ K=
  ko (mark (let e:=(X.ti t').elem
  if X.fX fx e then
   match qF (X.ti e).size (List.replicate n' (X.ti e).zero) (xW.toList.map fun p=>(p.1,(nF ff) p.2)) with
   |some es=>some ((.cu (n0+kk) 0 n'),aR hp (n0+kk) (some ⟨(X.ti e).size,es,true⟩),(n0+kk)+1)
   |none=>none
  else if(some d).any (X.flat fx) then
   match mL (fun _=>none) (xW.toList.map fun p=>(p.1,(nF ff) p.2)) with
   |some (l,_)=>match qF (X.ti e).size (List.replicate n' (X.ti e).zero) l with
    |some es=>some ((.sl true es),hp,(n0+kk))
    |none=>none
   |none=>none
  else
  match mL hp (xW.toList.map fun p=>(p.1,(nF ff) p.2)) with
  |some (l,h)=>
   match qF (X.ti e).size (List.replicate n' (X.ti e).zero) l with
   |some es=>
    if(some d).any (X.oV fx) then some ((.cu (n0+kk) 0 n'),aR (h) (n0+kk) (some ⟨(X.ti e).size,es,false⟩),(n0+kk)+1)
    else some ((.sl true es),h,(n0+kk))
   |none=>none
  |none=>none)) fun v h'=>iO X fx da n0 (kk+1) r ⟨aR ff d v,h',n⟩ K:=gy (fun _=>rfl) rfl rfl
theorem Zm(t')(a'):iO X fx da n0 kk (⟨(some d),.load t' a',ty,ps,af,none⟩::r) ⟨ff,hp,n⟩ K=
  ko (mark (match(nF ff) a' with
  | .ptr id i f=>match hp id with
   |some ob=>match ob.es[i]? with
    |some e=>match part (X.ti t') e.cells f with|some v=>some (v,hp,(n0+kk))|none=>none
    |none=>none
   |none=>none
  | .ref cs=>match part (X.ti t') cs 0 with|some v=>some (v,hp,(n0+kk))|none=>none
  |_=>none)) fun v h'=>iO X fx da n0 (kk+1) r ⟨aR ff d v,h',n⟩ K:=gy (fun _=>rfl) rfl rfl
theorem Vl(t')(a')(x'):iO X fx da n0 kk (⟨none,.store t' a' x',ty,ps,af,none⟩::r) ⟨ff,hp,n⟩ K=
  ko (mark (match(nF ff) a' with
  | .ptr id i f=>match hp id with
   |some ob=>
    match(if ob.eU then some ((nF ff) x',hp) else qu hp ((nF ff) x')) with
    |some (v,h)=>match h id with
     |some ob=>match ob.es[i]? with
      |some e=>if v.fits (X.ti t').size&&decide (f+(X.ti t').size<=e.cells.length) then some (.bad,aR h id (some {ob with es:=ob.es.set i (e.put f v)}),(n0+kk)) else none
      |none=>none
     |none=>none
    |none=>none
   |none=>none
  |_=>none)) fun v h'=>iO X fx da n0 (kk+1) r ⟨ff,h',n⟩ K:=gy (fun _=>rfl) rfl rfl
theorem KD(x'):iO X fx da n0 kk (⟨(some d),.nilCheck x',ty,ps,af,none⟩::r) ⟨ff,hp,n⟩ K=
  ko (mark (match(nF ff) x' with
  | .ptr id i f=>some ((.ptr id i f),hp,(n0+kk))
  | .ref cs=>some ((.ref cs),hp,(n0+kk))
  | .fn g a b=>some ((.fn g a b),hp,(n0+kk))
  |_=>none)) fun v h'=>iO X fx da n0 (kk+1) r ⟨aR ff d v,h',n⟩ K:=gy (fun _=>rfl) rfl rfl
theorem Vm(op')(t')(x')(y')(u0'):iO X fx da n0 kk (⟨(some d),.binOp op' t' x' y' u0',ty,ps,af,none⟩::r) ⟨ff,hp,n⟩ K=
  ko (mark (match sP (X.ti t').agg (X.ti t').wJ op' ((nF ff) x') ((nF ff) y') with|some v=>some (v,hp,(n0+kk))|none=>none)) fun v h'=>iO X fx da n0 (kk+1) r ⟨aR ff d v,h',n⟩ K:=gy (fun _=>rfl) rfl rfl
theorem Zn(op')(u0')(x'):iO X fx da n0 kk (⟨(some d),.unOp op' u0' x',ty,ps,af,none⟩::r) ⟨ff,hp,n⟩ K=
  ko (mark (match unV op' ((nF ff) x') with|some v=>some (v,hp,(n0+kk))|none=>none)) fun v h'=>iO X fx da n0 (kk+1) r ⟨aR ff d v,h',n⟩ K:=gy (fun _=>rfl) rfl rfl
theorem MV(u0')(d')(x'):iO X fx da n0 kk (⟨(some d),.convert u0' d' x',ty,ps,af,none⟩::r) ⟨ff,hp,n⟩ K=
  ko (mark (match(X.ti d').kind,(nF ff) x' with
  |some k,.int _ n=>some ((.int k (k.wrap n)),hp,(n0+kk))
  |none,v=>if(X.ti d').isStr=true/\v.isStr=false then(match elems hp v with
   |some (es,_)=>match bytesOf es with
    |some s=>some (.str s,hp,(n0+kk))
    |none=>none
   |none=>none) else LM (X.ti d').isStr (X.ti (X.ti d').elem).kind hp (n0+kk) v
  |_,_=>none)) fun v h'=>iO X fx da n0 (kk+1) r ⟨aR ff d v,h',n⟩ K:=gy (fun _=>rfl) rfl rfl
theorem H9(t')(l')(c'):iO X fx da n0 kk (⟨(some d),.makeSlice t' l' c',ty,ps,af,none⟩::r) ⟨ff,hp,n⟩ K=
  ko (mark (match(nF ff) l',(nF ff) c' with
  | .int _ n,.int _ m=>if 0<=n/\n<=m/\m*(X.ti (X.ti t').elem).bytes<=2^47/\m<=2^62 then
    some ((.cu (n0+kk) 0 n.toNat),aR hp (n0+kk) (some ⟨(X.ti (X.ti t').elem).size,List.replicate n.toNat (X.ti (X.ti t').elem).zero,X.fX fx (X.ti t').elem⟩),(n0+kk)+1) else none
  |_,_=>none)) fun v h'=>iO X fx da n0 (kk+1) r ⟨aR ff d v,h',n⟩ K:=gy (fun _=>rfl) rfl rfl
theorem Vn(t')(x')(Qe)(oE)(Zo):iO X fx da n0 kk (⟨(some d),.slice t' x' Qe oE Zo,ty,ps,af,none⟩::r) ⟨ff,hp,n⟩ K=
  ko (mark (if((nF ff) x').isStr=(X.ti t').isStr/\((nF ff) x').Bk=(X.ti t').arr.isSome then
   match(nF ff) x' with
   | .sl _ es=>
    if es.all (fun e=>e.cells.length==(X.ti (X.ti t').elem).size) then
     match Zo with
     |none=>match bounds (Qe.map (nF ff)) (oE.map (nF ff)) es.length with|some (l,h)=>some ((.sl false ((es.take h).drop l)),hp,(n0+kk))|none=>none
     |some m=>match(nF ff) m,oE.map (nF ff) with
      | .int _ p,some (.int _ q)=>if p=q then(match bounds (Qe.map (nF ff)) (oE.map (nF ff)) es.length with|some (l,h)=>some ((.sl true ((es.take h).drop l)),hp,(n0+kk))|none=>none) else none
      |_,_=>none
    else none
   | .cu id s n=>
    match Zo,hp id with
    |none,some ob=>if ob.k=(X.ti (X.ti t').elem).size then(match bounds (Qe.map (nF ff)) (oE.map (nF ff)) n with|some (l,h)=>some ((.cu id (s+l) (h-l)),hp,(n0+kk))|none=>none) else none
    |some m,some ob=>if ob.k=(X.ti (X.ti t').elem).size then(match(nF ff) m,oE.map (nF ff) with
      | .int _ p,some (.int _ q)=>if p=q then(match bounds (Qe.map (nF ff)) (oE.map (nF ff)) n with|some (l,h)=>some ((.cu id (s+l) (h-l)),hp,(n0+kk))|none=>none) else none
      |_,_=>none) else none
    |_,none=>none
   | .str s=>match Zo with
    |none=>match bounds (Qe.map (nF ff)) (oE.map (nF ff)) s.length with|some (l,h)=>some ((.str ((s.take h).drop l)),hp,(n0+kk))|none=>none
    |some _=>none
   | .ptr id 0 0=>match Zo,Qe,oE,(X.ti t').arr,hp id with
    |none,none,none,some m,some ob=>match ob.es with
     | [e]=>if e.cells.all V.oX=true/\e.cells.length=m/\(X.ti (X.ti t').elem).size=1/\0<m then some (.sl true e.cells,aR hp id none,(n0+kk)) else none
     |_=>none
    |_,_,_,_,_=>none
   |_=>none
  else none)) fun v h'=>iO X fx da n0 (kk+1) r ⟨aR ff d v,h',n⟩ K:=gy (fun _=>rfl) rfl rfl
theorem Ia(t')(x')(i'):iO X fx da n0 kk (⟨(some d),.fieldAddr t' x' i',ty,ps,af,none⟩::r) ⟨ff,hp,n⟩ K=
  ko (mark (match(X.ti t').wI[i']? with
  |some (off,_)=>match(nF ff) x' with
   | .ptr id j f=>some ((.ptr id j (f+off)),hp,(n0+kk))
   | .ref cs=>some ((.ref (cs.drop off)),hp,(n0+kk))
   |_=>none
  |none=>none)) fun v h'=>iO X fx da n0 (kk+1) r ⟨aR ff d v,h',n⟩ K:=gy (fun _=>rfl) rfl rfl
theorem Ib(t')(x')(ix'):iO X fx da n0 kk (⟨(some d),.indexAddr t' x' ix',ty,ps,af,none⟩::r) ⟨ff,hp,n⟩ K=
  ko (mark (match(nF ff) ix' with
  | .int _ n=>match(nF ff) x' with
   | .sl _ es=>if(0<=n/\n<es.length)/\(X.ti t').arr=none then(match es[n.toNat]? with|some e=>if e.cells.length=(X.ti (X.ti t').elem).size then some ((.ref e.cells),hp,(n0+kk)) else none|none=>none) else none
   | .cu id s l=>if(0<=n/\n<l)/\(X.ti t').arr=none then(match hp id with|some ob=>if ob.k=(X.ti (X.ti t').elem).size then some ((.ptr id (s+n.toNat) 0),hp,(n0+kk)) else none|none=>none) else none
   | .ptr id j f=>match(X.ti t').arr with
    |some m=>if 0<=n/\n<m then some ((.ptr id j (f+n.toNat*(X.ti (X.ti t').elem).size)),hp,(n0+kk)) else none
    |none=>none
   |_=>none
  |_=>none)) fun v h'=>iO X fx da n0 (kk+1) r ⟨aR ff d v,h',n⟩ K:=gy (fun _=>rfl) rfl rfl
theorem Vo(t')(x')(ix'):iO X fx da n0 kk (⟨(some d),.index t' x' ix',ty,ps,af,none⟩::r) ⟨ff,hp,n⟩ K=
  ko (mark (match(nF ff) ix' with
  | .int _ n=>match(nF ff) x' with
   | .str s=>if 0<=n/\(X.ti t').arr=none then(match s[n.toNat]? with|some b=>some ((.int .u8 b.toNat),hp,(n0+kk))|none=>none) else none
   | .agg cs=>match(X.ti t').arr with
    |some m=>if 0<=n/\n<m then(match part (X.ti (X.ti t').elem) cs (n.toNat*(X.ti (X.ti t').elem).size) with|some v=>some (v,hp,(n0+kk))|none=>none) else none
    |none=>none
   |_=>none
  |_=>none)) fun v h'=>iO X fx da n0 (kk+1) r ⟨aR ff d v,h',n⟩ K:=gy (fun _=>rfl) rfl rfl
theorem Vp(t')(x')(f'):iO X fx da n0 kk (⟨(some d),.field t' x' f',ty,ps,af,none⟩::r) ⟨ff,hp,n⟩ K=
  ko (mark (match(nF ff) x' with
  | .agg cs=>match(X.ti t').wI[f']? with
   |some (k,_)=>match part (X.ti ty) cs k with|some v=>some (v,hp,(n0+kk))|none=>none
   |none=>none
  |_=>none)) fun v h'=>iO X fx da n0 (kk+1) r ⟨aR ff d v,h',n⟩ K:=gy (fun _=>rfl) rfl rfl
theorem MW(x')(i'):iO X fx da n0 kk (⟨(some d),.extract x' i',ty,ps,af,none⟩::r) ⟨ff,hp,n⟩ K=
  ko (mark (match(nF ff) x' with
  | .dM vs=>match vs[i']? with|some v=>some (v,hp,(n0+kk))|none=>none
  |_=>none)) fun v h'=>iO X fx da n0 (kk+1) r ⟨aR ff d v,h',n⟩ K:=gy (fun _=>rfl) rfl rfl
theorem KE(uK)(KF):iO X fx da n0 kk (⟨(some d),.call ⟨.builtin .len,uK,KF⟩,ty,ps,af,none⟩::r) ⟨ff,hp,n⟩ K=
  ko (mark (match uK.toList.map (nF ff) with
  | [x]=>if x.isStr=(X.ti (KF.getD 0 0)).isStr then(match EM x with|some n=>some ((.int .i64 n),hp,(n0+kk))|none=>none) else none
  |_=>none)) fun v h'=>iO X fx da n0 (kk+1) r ⟨aR ff d v,h',n⟩ K:=gy (fun _=>rfl) rfl rfl
theorem KG(uK)(u0'):iO X fx da n0 kk (⟨(some d),.call ⟨.builtin .min,uK,u0'⟩,ty,ps,af,none⟩::r) ⟨ff,hp,n⟩ K=
  ko (mark (match uK.toList.map (nF ff) with
  | [.int k a,.int k' b]=>if k=k' then some ((.int k (if b<a then b else a)),hp,(n0+kk)) else none
  |_=>none)) fun v h'=>iO X fx da n0 (kk+1) r ⟨aR ff d v,h',n⟩ K:=gy (fun _=>rfl) rfl rfl
theorem KH(uK)(u0'):iO X fx da n0 kk (⟨(some d),.call ⟨.builtin .max,uK,u0'⟩,ty,ps,af,none⟩::r) ⟨ff,hp,n⟩ K=
  ko (mark (match uK.toList.map (nF ff) with
  | [.int k a,.int k' b]=>if k=k' then some ((.int k (if b>a then b else a)),hp,(n0+kk)) else none
  |_=>none)) fun v h'=>iO X fx da n0 (kk+1) r ⟨aR ff d v,h',n⟩ K:=gy (fun _=>rfl) rfl rfl
theorem D9(uK)(KF):iO X fx da n0 kk (⟨(some d),.call ⟨.builtin .append,uK,KF⟩,ty,ps,af,none⟩::r) ⟨ff,hp,n⟩ K=
  ko (mark (match uK.toList.map (nF ff) with
  | [s,x]=>match elems hp s,elems hp x with
   |some (es,kb),some (xs,kx)=>
    let e:=(X.ti (KF.getD 0 0)).elem;let kp:=X.fX fx e
    if((kb||kx)&& !kp)|| !(xs.all fun v=>v.cells.length==(X.ti e).size)||(X.ti (KF.getD 1 0)).kind.isSome then none else
    if(es.length+xs.length)*(X.ti e).bytes<=2^47/\es.length+xs.length<=2^62 then
     match s with
     | .sl true []=>some ((.cu (n0+kk) 0 xs.length),aR hp (n0+kk) (some ⟨(X.ti e).size,xs,kp⟩),(n0+kk)+1)
     | .sl true _=>if kx|| !(es.all fun v=>v.cells.length==(X.ti e).size) then none else some ((.sl false (es++xs)),hp,(n0+kk))
     | .cu id _ _=>match hp id with
      |some ob=>if ob.k=(X.ti e).size then some ((.cu (n0+kk) 0 (es.length+xs.length)),aR (aR hp id none) (n0+kk) (some ⟨(X.ti e).size,es++xs,kp⟩),(n0+kk)+1) else none
      |none=>none
     |_=>none
    else none
   |_,_=>none
  |_=>none)) fun v h'=>iO X fx da n0 (kk+1) r ⟨aR ff d v,h',n⟩ K:=gy (fun _=>rfl) rfl rfl
theorem Ie(uK)(KF):iO X fx da n0 kk (⟨(some d),.call ⟨.builtin .copy,uK,KF⟩,ty,ps,af,none⟩::r) ⟨ff,hp,n⟩ K=
  ko (mark (match uK.toList.map (nF ff) with
  | [.cu id s l,x]=>match hp id,elems hp x with
   |some ob,some (xs,kx)=>
    if x.isStr||(kx&& !ob.eU)|| !(xs.all fun v=>v.cells.length==ob.k) then none else
    if s+l<=ob.es.length/\ob.k=(X.ti (X.ti (KF.getD 0 0)).elem).size then
     some ((.int .i64 (min xs.length l:Nat)),aR hp id (some {ob with es:=ob.es.take s++xs.take (min xs.length l)++ob.es.drop (s+min xs.length l)}),(n0+kk))
    else none
   |_,_=>none
  |_=>none)) fun v h'=>iO X fx da n0 (kk+1) r ⟨aR ff d v,h',n⟩ K:=gy (fun _=>rfl) rfl rfl
theorem aru(t:Nat):nF ff (.tmp t)=ff t:=(rfl)
theorem Zp(v:Value):nF ff (.const v)=vO v:=(rfl)
theorem ayl(g:FuncId):nF ff (.func g)= .fn g [] []:=(rfl)
theorem Zq(S:St)(t:Nat)(v:V):S.set (some t) v=⟨aR S.f t v,S.h,S.n⟩:=(rfl)
end
def Zr(X:Env)(f key:Nat)(S:St):oR X f key S=match X.norm f key with|some N=>N.run S|none=>some S:=(rfl)
def Zs(n:Nat)(w:V):xP (some n) (.sl true []) w= .cu n 0 0:=(rfl)
def Vq(v w:V):xP none v w=w:=by unfold xP;grind
def air(o:Option Nat)(es:List V)(w:V):xP o (.sl false es) w=w:=(rfl)
def Zt(o:Option Nat)(k:IntKind)(n:Int)(w:V):xP o (.int k n) w=w:=(rfl)
def Vr(o:Option Nat)(b:Bool)(w:V):xP o (.bool b) w=w:=(rfl)
def Zu(o:Option Nat)(b:List UInt8)(w:V):xP o (.str b) w=w:=(rfl)
def Zv(o:Option Nat)(i s l:Nat)(w:V):xP o (.cu i s l) w=w:=(rfl)
def Zw(o:Option Nat)(i s l:Nat)(w:V):xP o (.ptr i s l) w=w:=(rfl)
def ais(o:Option Nat)(g:FuncId)(a b:List V)(w:V):xP o (.fn g a b) w=w:=(rfl)
section
variable (S:St) (N:Norm) (hx:bh)
theorem Zx(k:IntKind)(n:Int):EO S N hx (.int k n)= .int k n:=(rfl)
theorem Vs(b:Bool):EO S N hx (.bool b)= .bool b:=(rfl)
theorem Zy(b:List UInt8):EO S N hx (.str b)= .str b:=(rfl)
theorem ait(c:Bool)(es:List V):EO S N hx (.sl c es)= .sl false es:=(rfl)
theorem aiu(g:FuncId)(a b:List V):EO S N hx (.fn g a b)= .fn g (a.map (Kc S N hx)) (b.map (Kc S N hx)):=(rfl)
theorem Zz(i s l:Nat):EO S N hx (.cu i s l)=fixC S N hx (.cu i s l):=(rfl)
theorem ZA(i s l:Nat):EO S N hx (.ptr i s l)=fixC S N hx (.ptr i s l):=(rfl)
theorem ZB(k:IntKind)(n:Int):fixC S N hx (.int k n)= .int k n:=(rfl)
theorem Vt(b:Bool):fixC S N hx (.bool b)= .bool b:=(rfl)
theorem aiv(c:Bool)(es:List V):fixC S N hx (.sl c es)= .sl false es:=(rfl)
theorem ZC(id s l:Nat):fixC S N hx (.cu id s l)=match look S id N.roots with
  |some j=> .cu j s l
  |none=>match cx hx depth (.cu id s l) with
   |some v=>v
   |none=> .bad:=(rfl)
theorem ZD(id i f:Nat):fixC S N hx (.ptr id i f)=match look S id N.roots with
  |some j=> .ptr j i f
  |none=> .bad:=(rfl)
theorem Qf(id:Nat)(ob:Ob):EP S N hx id (some ob)=if ob.eU=true then
   match ob.es with
   | [e]=>some ⟨ob.k,[Pf S N hx id e],true⟩
   |es=>if es.all V.Pc=true then some ob else none
  else some ob:=(rfl)
end
def ZE(t:List Nat)(r:List Gr)(n:Nat)(S:St):(⟨t,r,false,n⟩:Norm).first S=true:=(rfl)
def Vu(t:List Nat)(a:Gr)(r:List Gr)(n:Nat)(S:St):(⟨t,a::r,true,n⟩:Norm).first S=(a.new==0&& (a.loc.val S).root==some 0):=(rfl)
def ZF(i s l:Nat):(V.cu i s l).root=some i:=(rfl)
def ZG(i:Nat):(V.ptr i 0 0).root=some i:=(rfl)
def aiw(c:Bool)(es:List V):(V.sl c es).root=none:=(rfl)
def Vv(i:Nat):(V.ptr i 0 0).boxed=some i:=(rfl)
def aix(S:St)(t:Nat):(Loc.box t).val S=S.f t:=(rfl)
def ZH(S:St)(t:Nat):(Loc.slot t).val S=S.f t:=(rfl)
def ZI(S:St)(t j:Nat):(Loc.cell t j).val S=match S.f t with
  | .ptr id 0 0=>match S.h id with
   |some ob=>match ob.es with
    | [e]=>e.cells.getD j .bad
    |_=> .bad
   |none=> .bad
  |_=> .bad:=(rfl)
def ZJ(S:St)(id:Nat):look S id []=none:=(rfl)
def Vw(S:St)(id:Nat)(a:Gr)(r:List Gr):look S id (a::r)=if(a.loc.val S).root=some id then some a.new else look S id r:=(rfl)
def MX(t:Nat):zn t []=none:=(rfl)
def KI(t:Nat)(a:Gr)(r:List Gr):zn t (a::r)=if a.loc= .slot t then some a.new else zn t r:=(rfl)
def MY(S:St)(id j:Nat):qp S id j []=none:=(rfl)
def MZ(S:St)(id j t n k:Nat)(kp:Bool)(r:List Gr):qp S id j (⟨.box t,n,k,kp⟩::r)=qp S id j r:=(rfl)
def KJ(S:St)(id j t n k:Nat)(kp:Bool)(r:List Gr):qp S id j (⟨.slot t,n,k,kp⟩::r)=qp S id j r:=(rfl)
def KK(S:St)(id j t j' n k:Nat)(kp:Bool)(r:List Gr):qp S id j (⟨.cell t j',n,k,kp⟩::r)=if j'=j/\(S.f t).boxed=some id then some n else qp S id j r:=(rfl)
def Vx(h:bh):gq h []=h:=(rfl)
def Qg(h:bh)(id:Nat)(r:List (Option Nat)):gq h (some id::r)=aR (gq h r) id none:=(rfl)
def Qh(h:bh)(r:List (Option Nat)):gq h (none::r)=gq h r:=(rfl)
def KL(id:Nat)(ops:Array Oper)(d:Bool):jb (.region id ops d)=id:=(rfl)
def Vy(a b:Code):jb (.seq a b)=jb a:=(rfl)
def M0(id:Nat)(b:Code):jb (.block id b)=jb b:=(rfl)
def Vz(h:bh):rL h []=some ([],h):=(rfl)
def Qi(h:bh)(v:V)(r:List V):rL h (v::r)=match qu h v with
  |some (v',h1)=>match rL h1 r with
   |some (r',h2)=>some (v'::r',h2)
   |none=>none
  |none=>none:=(rfl)
def ZK(cs:List V):(V.agg cs).Pc=cs.all V.oX:=(rfl)
def aiy(n:Nat)(m:Mask)(v:V):vc n m v=u9 (fun i j c=>match mY n m i j with
 |some (q,_)=>match c with
  | .sl _ es=> .cu q 0 es.length
  |_=> .bad
 |none=>c) v:=(rfl)
def VA(F:Nat->Nat->V->V)(vs:List V):u9 F (.dM vs)= .dM (rJ (fun i v=>uD (F i) v) 0 vs):=(rfl)
def ZL(F:Nat->Nat->V->V)(vs:List V):u9 F (.agg vs)= .agg (rJ (F 0) 0 vs):=(rfl)
def aiz(F:Nat->Nat->V->V)(c:Bool)(es:List V):u9 F (.sl c es)=F 0 0 (.sl c es):=(rfl)
def ZM(F:Nat->Nat->V->V)(i s l:Nat):u9 F (.cu i s l)=F 0 0 (.cu i s l):=(rfl)
def VB(F:Nat->V->V)(vs:List V):uD F (.agg vs)= .agg (rJ F 0 vs):=(rfl)
def ai0(F:Nat->V->V)(c:Bool)(es:List V):uD F (.sl c es)=F 0 (.sl c es):=(rfl)
def ZN(F:Nat->V->V)(i s l:Nat):uD F (.cu i s l)=F 0 (.cu i s l):=(rfl)
def ZO(F:Nat->V->V)(k:IntKind)(n:Int):uD F (.int k n)=F 0 (.int k n):=(rfl)
def VC(F:Nat->V->V)(b:Bool):uD F (.bool b)=F 0 (.bool b):=(rfl)
def ZP(F:Nat->V->V)(n:Nat):rJ F n []=[]:=(rfl)
def VD(F:Nat->V->V)(n:Nat)(c:V)(cs:List V):rJ F n (c::cs)=F n c::rJ F (n+1) cs:=(rfl)
def Qj(n i j:Nat):mY n [] i j=none:=(rfl)
def M3(n i j a b:Nat)(t:TypeId)(r:Mask):mY n ((a,b,t)::r) i j=if a=i/\b=j then some (n,t) else mY (n+1) r i j:=(rfl)
def Qk(vs:List V)(i j:Nat):(V.dM vs).cellAt i j=(vs.getD i .bad).cells.getD j .bad:=(rfl)
def Ql(vs:List V)(i j:Nat):(V.agg vs).cellAt i j=if i=0 then vs.getD j .bad else .bad:=(rfl)
def VE(c:Bool)(es:List V)(i j:Nat):(V.sl c es).cellAt i j=if i=0 then [V.sl c es].getD j .bad else .bad:=(rfl)
def Qm(a b c i j:Nat):(V.cu a b c).cellAt i j=if i=0 then [V.cu a b c].getD j .bad else .bad:=(rfl)
def ai1(X:Env)(h:bh)(v:V)(m:Mask):LO X h v m=Bl X h (gq h (iD v m)) v m:=(rfl)
def ai2(X:Env)(h hx:bh)(v:V)(m:Mask):Bl X h hx v m=if(vb (iD v m)&&m.all (fun q=>(rowAt X h hx q.2.2 (v.cellAt q.1 q.2.1)).isSome))=true then some (u9 (mO X h hx m) v) else none:=(rfl)
def Qn(X:Env)(g:FuncId)(k:Nat)(R:V):ma X g k R=xO X (X.fX g) R 1 (X.fl g) (aR (fun _=>none) 0 (some ⟨k,[vc 1 (X.fl g) R],true⟩)):=(rfl)
def ZQ(X:Env)(M:Mask)(v:V)(h:bh):x8 X M v h=match h 0 with
 |some oK=>
  match oK.es with
  | [e']=>if oK.eU then
    match LO X (aR h 0 none) (qG e' v) M with
    |some (.dM (r::rs))=>some (oK.k,r,rs)
    |_=>none
   else none
  |_=>none
 |none=>none:=(rfl)
def VF(e:V)(vs:List V):qG e (.dM vs)= .dM (e::vs):=(rfl)
def VG(e:V)(vs:List V):qG e (.agg vs)= .dM [e,.agg vs]:=(rfl)
def VH(e:V)(k:IntKind)(n:Int):qG e (.int k n)= .dM [e,.int k n]:=(rfl)
def ZR(e:V)(c:Bool)(es:List V):qG e (.sl c es)= .dM [e,.sl c es]:=(rfl)
def VI(e:V)(i s l:Nat):qG e (.cu i s l)= .dM [e,.cu i s l]:=(rfl)
def Jh(a vs:List V):z9 (.dM a) vs= .dM vs:=(rfl)
def Qo(v:V)(vs:List V):EN (.dM (v::vs))=v:=(rfl)
def Qp(v:V)(vs:List V):SC (.dM (v::vs))=vs:=(rfl)
def VJ(X:Env)(bY:FuncId)(dst:Option Nat)(g:FuncId):rT X bY dst g=X.fl g++(dst.elim [] (X.mask bY)).map fun q=>(q.1+1,q.2.1,q.2.2):=(rfl)
def Qq(v:V)(m:Mask):iD v m=m.map fun q=>(v.cellAt q.1 q.2.1).src:=(rfl)
def Qr(X:Env)(h hx:bh)(m:Mask)(i j:Nat)(c:V):mO X h hx m i j c=match mY 0 m i j with
 |some (_,t)=>match rowAt X h hx t c with
  |some es=> .sl false es
  |none=> .bad
 |none=>match cx hx depth c with
  |some c'=>c'.lM
  |none=> .bad:=(rfl)
def VK(X:Env)(h hx:bh)(t:TypeId):rowAt X h hx t (.sl true [])=some []:=(rfl)
def VL(X:Env)(h hx:bh)(t:TypeId)(id s l:Nat):rowAt X h hx t (.cu id s l)=match h id with
  |some ob=>if ob.k=(X.ti t).size/\s+l<=ob.es.length then match cF (((ob.es.drop s).take l).map (cx hx depth)) with
    |some es=>some (eV es)
    |none=>none
   else none
  |none=>none:=(rfl)
def ai3(i s l:Nat):(V.cu i s l).src=some i:=(rfl)
def arv(c:Bool)(es:List V):(V.sl c es).src=none:=(rfl)
def Gr.aym(S:St)(N:Norm)(hx:bh)(loc:Loc)(new k:Nat)(eU:Bool):(⟨loc,new,k,eU⟩:Gr).ob S N hx=Pg S N hx k eU (loc.val S):=(rfl)
def ZS(S:St)(N:Norm)(hx:bh)(k:Nat)(eU:Bool):Pg S N hx k eU (.sl true [])=some ⟨k,[],eU⟩:=(rfl)
def ZT(S:St)(N:Norm)(hx:bh)(k:Nat)(eU:Bool)(id s l:Nat):Pg S N hx k eU (.cu id s l)=EP S N hx id (S.h id):=(rfl)
def ZU(S:St)(N:Norm)(hx:bh)(k:Nat)(eU:Bool)(id:Nat):Pg S N hx k eU (.ptr id 0 0)=EP S N hx id (S.h id):=(rfl)
def Qs:vb []=true:=(rfl)
def M4(a:Option Nat)(r:List (Option Nat)):vb (a::r)=(r.all (differ a)&&vb r):=(rfl)
def M5(a b:Nat):differ (some a) (some b)=(a !=b):=(rfl)
def M6(b:Option Nat):differ none b=true:=(rfl)
def KM(b:Option Nat):differ b none=true:=by cases b<;>rfl
attribute [simp ↓] MD U5 Za ME U6 Zb Kz PY U7 yq FM aii aij arn aro aik Ze arp Zd Vi Zj Zk Qd Zl Vj aip Vk FO Zm Vl KD Vm Zn MV H9 Vn Ia Ib Vo Vp MW KE KG KH D9 Ie
attribute [simp ↓] S6
attribute [simp] P5 P6 Vb P7 Zg Zh ain Zi Qb Vf S6 PZ MK KB P2 U8 P1 Zc U9 ail Vd aim
attribute [simp] V.xN.eq_1 V.xN.eq_2 V.xN.eq_3 V.LL.eq_1 V.LL.eq_2 V.scalar.eq_1 V.scalar.eq_2 V.xZ.eq_1 V.xZ.eq_2 V.leaf.eq_1 V.leaf.eq_2 V.leaf.eq_3 V.leaf.eq_4 V.leaf.eq_5 V.leaf.eq_6 cx.eq_1 cx.eq_2 cx.eq_3 cx.eq_4 cx.eq_5 cx.eq_6 cx.eq_7 cx.eq_8 cx.eq_9 cx.eq_10 cx.eq_11 eV.eq_1 eV.eq_2 V.lM.eq_1 V.lM.eq_2 V.lM.eq_3 V.lM.eq_4 ars.eq_1 art.eq_1 depth.eq_1
attribute [simp] Zr Zs Vq air Zt Vr Zu Zv Zw ais Zx Vs Zy ait aiu Zz ZA ZB Vt aiv ZC ZD Qf Gr.aym ZS ZT ZU Qs M4 M5 M6 KM Norm.run.eq_1 Norm.tf.eq_1 ZE Vu fixF.eq_1 fixF.eq_2 Ph.eq_1 Ph.eq_2 Pf.eq_1 Bn.eq_1 Bn.eq_2 ZF ZG aiw Vv aix ZH ZI ZJ Vw MX KI MY MZ KJ KK Vx Qg Qh KL Vy M0 Vz Qi ZK aiy xO.eq_1 xO.eq_2 Bm.eq_1 VA ZL aiz ZM VB ai0 ZN ZO VC ZP VD Qj M3 Qk Ql VE Qm ai1 ai2 Qn ZQ VF VG VH ZR VI Jh Qo Qp VJ Qq Qr VK VL ai3 arv Vc
attribute [simp] aif P8 P9 aru Zp ayl Zq
attribute [simp 700] P0 MF Qa MT
attribute [simp 500] ML P3 MJ
end Go.Abs
