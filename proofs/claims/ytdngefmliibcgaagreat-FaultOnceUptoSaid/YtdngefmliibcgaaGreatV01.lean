/- part -/
import Derived.Test.YtdngefmliibcgaaGreatV00
set_option linter.all false
set_option maxRecDepth 20000
set_option maxHeartbeats 20000000
namespace Go.Abs
open Go
variable  {α:Type}{fn:Func}{b c:Code}{v v' R:V}{p q:Prop}{m M:Mask}
section
variable (X:Env) (f:FuncId) (S:St)
theorem aja:ev X f .skip S=some (.normal,S):=by rw[Dv];rfl
theorem ajb(id:Nat):ev X f (.exit id) S=some (.exit id,S):=by rw[Dv];rfl
theorem aso:ev X f .ret S=some (.ret,S):=by rw[Dv];rfl
open Classical in
theorem Vo(id:Nat)(ops:Array Oper)(d:Bool):ev X f (.region id ops d) S=
  (match oN X f (2*id) S with
  |some S=>(match gM X (cL X) f (ops.toList.map (·.dst)) S.n 0 ops.toList {S with n:=S.n+ops.size} with
   |some S1=>if lD X (cL X) f ops.toList S.n {S with n:=S.n+ops.size} S1 (X.sZ f id) then some (.normal,S1) else none
   |none=>none)
  |none=>none):=by rw[Dv];rfl
theorem asq(a b:Code):ev X f (.seq a b) S=(match ev X f a S with|some (.normal,S1)=>ev X f b S1|r=>r):=by rw[Dv];rfl
theorem ajc(x:Operand)(a b:Code):ev X f (.cond x a b) S=(match S.ev x with| .bool t=>if t then ev X f a S else ev X f b S|_=>none):=by rw[Dv];rfl
theorem ZF(id:Nat)(b:Code):ev X f (.block id b) S=(match ev X f b S with|some (.exit i,S1)=>if i=id then some (.normal,S1) else some (.exit i,S1)|r=>r):=by rw[Dv];rfl
theorem KT(b:Code):ev X f (.loop b) S=(match oN X f (2*jc b+1) S with|some S=>(match ev X f b S with|some (.normal,S1)=>ev X f (.loop b) S1|r=>r)|none=>none):=by rw[Dv];rfl
end
def F4(X:Env)(call:jm)(bZ:FuncId)(ops:List Oper)(n0:Nat)(S0 S1:St):lD X call bZ ops n0 S0 S1 []=True:=by
 simp[lD]
def Vp(f:Nat->α)(t:Nat)(v:α)(u:Nat):aR f t v u=if u=t then v else f u:=(rfl)
def ZG{X:Env}{g:FuncId}(hf:X.P.funcs[g]?=some fn)(hb:fn.body=some b)(args:List V)(h:bh)(k:Nat)(hp:X.oS g=none:=by rfl):
  cL X g args h k=vW X fn.results.toList (ev X g b ⟨oH args,h,k⟩):=by
 unfold cL dC
 grind
def Vq(cs:List V):(V.agg cs).cells=cs:=(rfl)
def Vr(k:IntKind)(n:Int):(V.int k n).cells=[.int k n]:=(rfl)
def Qr(b:Bool):(V.bool b).cells=[.bool b]:=(rfl)
def ZH(c:Bool)(es:List V):(V.sl c es).cells=[.sl c es]:=(rfl)
def Vs(i s l:Nat):(V.cx i s l).cells=[.cx i s l]:=(rfl)
def Vt(i s l:Nat):(V.ptr i s l).cells=[.ptr i s l]:=(rfl)
attribute [simp] Vq Vr Qr ZH Vs Vt
attribute [simp] F4
def Vu(args:List V)(t:Nat):oH args t=(match args[t]? with|some v=>v|none=> .bad):=(rfl)
attribute [simp] Vp Vu St.new.eq_1 vV.eq_1 vV.eq_2 wS.eq_1 wS.eq_2 wS.eq_3 wS.eq_4 wS.eq_5 wS.eq_6 wS.eq_7 Go.Abs.part.eq_1 E7.eq_1 E7.eq_2 E7.eq_3 E7.eq_4 elems.eq_1 elems.eq_2 elems.eq_3 elems.eq_4 sQ.eq_1 sQ.eq_2 sQ.eq_3 sQ.eq_4 sQ.eq_5 sQ.eq_6 sQ.eq_7 sQ.eq_8 sQ.eq_9 sQ.eq_10 sQ.eq_11 sQ.eq_12 sQ.eq_13 sQ.eq_14 sQ.eq_15 sQ.eq_16 sQ.eq_17 Bq.eq_1 Bq.eq_2 unV.eq_1 unV.eq_2 unV.eq_3 PI.eq_1 PI.eq_2 PI.eq_3 PI.eq_4 PI.eq_5 PI.eq_6 PI.eq_7 PI.eq_8 PI.eq_9 V.eqv.eq_1 V.eqv.eq_2 V.eqv.eq_3 V.eqv.eq_4 zY.eq_1 zY.eq_2 zY.eq_3 V.put.eq_1 V.put.eq_2 lC.eq_1 lC.eq_2 lC.eq_3 lC.eq_4 lC.eq_5 xH.eq_1 xH.eq_2 qD.eq_1 qD.eq_2 V.fits.eq_1 V.fits.eq_2 V.fits.eq_3 V.fits.eq_4 qs.eq_1 qs.eq_2 gd.eq_1 gd.eq_2 oV.eq_1 oV.eq_2 mG.eq_1 mG.eq_2 V.oU.eq_1 V.oU.eq_2 V.oU.eq_3 V.oU.eq_4 V.oU.eq_5 V.oU.eq_6 V.oU.eq_7 V.oU.eq_8 V.Br.eq_1 V.Br.eq_2 V.isStr.eq_1 V.isStr.eq_2 TI.isStr.eq_1 cF.eq_1 cF.eq_2 cF.eq_3 na.eq_1 vW.eq_1 vW.eq_2 vW.eq_3 Yz.eq_1 Yz.eq_2 Yz.eq_3 bounds.eq_1
def mark{α:Type}(x:α):α:=x
def ajd(x:α):mark x=x:=(rfl)
def Wp(X:Env)(f:FuncId)(c:Code)(S:St)(Q:Ex->St->Prop):Prop:= ∃e S1,ev X f c S=some (e,S1)/\Q e S1
def aje(X:Env)(f:FuncId)(b:Code)(Q:Ex->St->Prop):Ex->St->Prop
 | .normal,S=>Wp X f b S Q
 |e,S=>Q e S
def Vv(id:Nat)(Q:Ex->St->Prop):Ex->St->Prop
 | .exit i,S=>if i=id then Q .normal S else Q (.exit i) S
 |e,S=>Q e S
def mn(r:Option St)(K:St->Prop):Prop:=
 match r with
 |some S=>K S
 |none=>False
def JA(X:Env)(f:FuncId)(key:Nat)(Inv:Nat->St->Prop)(i N:Nat)(Q:Ex->St->Prop):Ex->St->Prop
 | .normal,S=>i<N/\mn (mark (oN X f key S)) (Inv (i+1))
 |e,S=>Q e S
section
variable {X:Env} {f:FuncId} {S:St} {Q:Ex->St->Prop}
theorem Na(b:Code):aje X f b Q .normal S=Wp X f b S Q:=(rfl)
theorem Vw(b:Code)(i:Nat):aje X f b Q (.exit i) S=Q (.exit i) S:=(rfl)
theorem ZI(b:Code):aje X f b Q .ret S=Q .ret S:=(rfl)
theorem Nb(id:Nat):Vv id Q .normal S=Q .normal S:=(rfl)
theorem Vx(id i:Nat):Vv id Q (.exit i) S=(if i=id then Q .normal S else Q (.exit i) S):=(rfl)
theorem ZJ(id:Nat):Vv id Q .ret S=Q .ret S:=(rfl)
theorem KU(key:Nat)(Inv:Nat->St->Prop)(i N:Nat):JA X f key Inv i N Q .normal S=(i<N/\mn (mark (oN X f key S)) (Inv (i+1))):=(rfl)
theorem Qs(key:Nat)(Inv:Nat->St->Prop)(i N k:Nat):JA X f key Inv i N Q (.exit k) S=Q (.exit k) S:=(rfl)
theorem Vy(key:Nat)(Inv:Nat->St->Prop)(i N:Nat):JA X f key Inv i N Q .ret S=Q .ret S:=(rfl)
theorem Qt(K:St->Prop):mn (some S) K=K S:=(rfl)
theorem Qu(c:Prop)[Decidable c](a:Option St)(K:St->Prop):mn (if c then a else none) K=(c/\(c->mn (mark a) K)):=by
 by_cases h:c<;>simp[h,mn,mark]
theorem Nc(c:Prop)[Decidable c](a:Option St)(K:St->Prop):mn (if c then none else a) K=(¬c/\(¬c->mn (mark a) K)):=by
 by_cases h:c<;>simp[h,mn,mark]
def iP(X:Env)(bZ:FuncId)(dc:List (Option Nat))(n0 k:Nat)(ops:List Oper)(S:St)(K:St->Prop):Prop:=mn (gM X (cL X) bZ dc n0 k ops S) K
def rP(v:V)(want:Bool)(ff:Nat->V)(_dj:Nat)(p q:(Nat->V)->Prop):Prop:=
 match v with
 | .bool b=>if b=want then p ff else q ff
 | .dP []=>q ff
 |_=>False
theorem Vz(ff:Nat->V)(dj:Nat)(p q:(Nat->V)->Prop):rP (.bool true) true ff dj p q=p ff:=by simp[rP]
theorem ZK(ff:Nat->V)(dj:Nat)(p q:(Nat->V)->Prop):rP (.bool false) true ff dj p q=q ff:=by simp[rP]
theorem Qv(ff:Nat->V)(dj:Nat)(p q:(Nat->V)->Prop):rP (.bool false) false ff dj p q=p ff:=by simp[rP]
theorem VA(ff:Nat->V)(dj:Nat)(p q:(Nat->V)->Prop):rP (.bool true) false ff dj p q=q ff:=by simp[rP]
theorem Qw(w:Bool)(ff:Nat->V)(dj:Nat)(p q:(Nat->V)->Prop):rP (.dP []) w ff dj p q=q ff:=(rfl)
theorem Nd{ff:Nat->V}{dj:Nat}(h:ff dj=v):aR ff dj v=ff:=by grind [aR]
theorem Qx{b:Bool}{ff:Nat->V}{dj:Nat}{p q:(Nat->V)->Prop}(h:ff dj= .bool b):rP (.bool b) true ff dj p q=((b=true->p (aR ff dj (.bool true)))/\(b=false->q (aR ff dj (.bool false)))):=by
 cases b<;>rw[Nd h]<;>simp[rP]
theorem Nf{b:Bool}{ff:Nat->V}{dj:Nat}{p q:(Nat->V)->Prop}(h:ff dj= .bool b):rP (.bool b) false ff dj p q=((b=false->p (aR ff dj (.bool false)))/\(b=true->q (aR ff dj (.bool true)))):=by
 cases b<;>rw[Nd h]<;>simp[rP]
theorem ZL(dc:List (Option Nat))(n0 k:Nat)(K:St->Prop):iP X f dc n0 k [] S K=K S:=(rfl)
theorem wg(dc:List (Option Nat))(n0 k:Nat)(o:Oper)(r:List Oper)(K:St->Prop):iP X f dc n0 k (o::r) S K=
  match o.guard with
  |none=>mn (fq X (cL X) f n0 k o S) fun S1=>iP X f dc n0 (k+1) r S1 K
  |some (j,want)=>match dc[j]? with
   |some (some d)=>rP (S.f d) want S.f d (fun _=>mn (fq X (cL X) f n0 k o S) fun S1=>iP X f dc n0 (k+1) r S1 K) (fun _=>iP X f dc n0 (k+1) r (S.set o.dst (.dP [])) K)
   |_=>False:=by
 unfold iP;rw[gM];cases o.guard with
 |none=>cases fq X (cL X) f n0 k o S<;>rfl
 |some p=>
  obtain⟨j,want⟩:=p;simp only;cases dc[j]? with
  |none=>rfl
  |some x=>
   cases x with
   |none=>rfl
   |some d=>
    simp only;cases hv:S.f d with
    |bool b=>
     simp only[rP];split
     ·cases fq X (cL X) f n0 k o S<;>rfl
     ·rfl
    |dP l=>cases l<;>rfl
    |_=>rfl
theorem F5{e:Ex}{S1:St}(h:ev X f c S=some (e,S1)):Wp X f c S Q=Q e S1:=by
 apply propext;constructor
 ·rintro⟨e',S',h',hq⟩
  grind
 ·intro hq;exact⟨e,S1,h,hq⟩
theorem ajf:Wp X f .skip S Q=Q .normal S:=F5 (aja X f S)
theorem ajg(id:Nat):Wp X f (.exit id) S Q=Q (.exit id) S:=F5 (ajb X f S id)
theorem asr:Wp X f .ret S Q=Q .ret S:=F5 (aso X f S)
theorem ass(a b:Code):Wp X f (.seq a b) S Q=Wp X f a S (aje X f b Q):=by
 apply propext;unfold Wp;rw[asq];constructor
 ·rintro⟨e,S1,h,hq⟩;cases ha:ev X f a S with
  |none=>grind
  |some x=>
   obtain⟨e2,S2⟩:=x;rw[ha]at h;refine⟨e2,S2,rfl,?_⟩;cases e2 with
   |normal=>exact⟨e,S1,h,hq⟩
   |exit i=>
    obtain⟨rfl,rfl⟩:=h;exact hq
   |ret=>
    obtain⟨rfl,rfl⟩:=h;exact hq
 ·rintro⟨e,S1,h,hq⟩;rw[h];cases e with
  |normal=>
   obtain⟨e2,S2,h2,hq2⟩:=hq
   grind
  |exit i=>exact⟨_,_,rfl,hq⟩
  |ret=>exact⟨_,_,rfl,hq⟩
def nu(f:Nat->V):Operand->V
 | .tmp t=>f t
 | .const v=>vV v
 | .func g=> .fn g [] []
 | .global _=> .bad
theorem KV(S:St):nu S.f=S.ev:=by funext x;cases x<;>rfl
def choose(v:V)(p q:Prop):Prop:=
 match v with
 | .bool true=>p
 | .bool false=>q
 |_=>False
theorem Ng(p q:Prop):choose (.bool true) p q=p:=(rfl)
theorem KW(p q:Prop):choose (.bool false) p q=q:=(rfl)
theorem Nh(b:Bool)(p q:Prop):choose (.bool b) p q=((b=true->p)/\(b=false->q)):=by cases b<;>simp[choose]
theorem ajh(x:Operand)(a b:Code):Wp X f (.cond x a b) S Q=choose (mark (nu S.f x)) (Wp X f a S Q) (Wp X f b S Q):=by
 show(Wp X f (.cond x a b) S Q)=choose (S.ev x) (Wp X f a S Q) (Wp X f b S Q);unfold Wp;rw[ajc];cases S.ev x with
 |bool t=>cases t<;>simp[choose]
 |_=>simp[choose]
theorem ZM(id:Nat)(b:Code):Wp X f (.block id b) S Q=Wp X f b S (Vv id Q):=by
 apply propext;unfold Wp;rw[ZF];constructor
 ·rintro⟨e,S1,h,hq⟩;cases hb:ev X f b S with
  |none=>grind
  |some x=>
   obtain⟨e2,S2⟩:=x;rw[hb]at h;refine⟨e2,S2,rfl,?_⟩;cases e2 with
   |normal=>
    obtain⟨rfl,rfl⟩:=h;exact hq
   |exit i=>
    simp only at h;simp only[Vv]
    grind
   |ret=>
    obtain⟨rfl,rfl⟩:=h;exact hq
 ·rintro⟨e,S1,h,hq⟩;rw[h];cases e with
  |normal=>exact⟨_,_,rfl,hq⟩
  |exit i=>
   simp only[Vv]at hq
   grind
  |ret=>exact⟨_,_,rfl,hq⟩
def stb(l:List (Nat×Nat))(p:List (Nat×Nat)->Prop):Prop:=p l
theorem VB(id:Nat)(ops:Array Oper)(d:Bool):Wp X f (.region id ops d) S Q=
  mn (mark (oN X f (2*id) S)) fun S=>iP X f (ops.toList.map (·.dst)) S.n 0 ops.toList ⟨S.f,S.h,S.n+ops.size⟩ fun S1=>stb (mark (X.sZ f id)) (lD X (cL X) f ops.toList S.n {S with n:=S.n+ops.size} S1)/\Q .normal S1:=by
 show _=mn (oN X f (2*id) S) fun S=>iP X f (ops.toList.map (·.dst)) S.n 0 ops.toList {S with n:=S.n+ops.size} fun S1=>lD X (cL X) f ops.toList S.n {S with n:=S.n+ops.size} S1 (X.sZ f id)/\Q .normal S1;unfold Wp iP;rw[Vo];cases hn:oN X f (2*id) S with
 |none=>simp[mn]
 |some S=>
 simp only[mn]
 grind
theorem ast(id:Nat)(l:List Oper)(d:Bool):Wp X f (.region id l.toArray d) S Q=
  mn (mark (oN X f (2*id) S)) fun S=>iP X f (l.map (·.dst)) S.n 0 l ⟨S.f,S.h,S.n+l.length⟩ fun S1=>stb (mark (X.sZ f id)) (lD X (cL X) f l S.n {S with n:=S.n+l.length} S1)/\Q .normal S1:=by
 rw[VB]
 grind
theorem lW(Inv:Nat->St->Prop)(N:Nat)(step: ∀i S,i<=N->Inv i S->Wp X f b S (JA X f (2*jc b+1) Inv i N Q)): ∀(i:Nat) {S:St},i<=N->mn (mark (oN X f (2*jc b+1) S)) (Inv i)->Wp X f (.loop b) S Q:=by
 suffices h: ∀(k i:Nat) {S:St},N-i=k->i<=N->mn (oN X f (2*jc b+1) S) (Inv i)->Wp X f (.loop b) S Q from fun i S hi h0=>h (N-i) i rfl hi h0;intro k;induction k with
 |zero=>
  intro i S hk hi h0;cases hn:oN X f (2*jc b+1) S with
  |none=>rw[hn]at h0;exact absurd h0 (fun h=>h)
  |some S0=>
  rw[hn]at h0;obtain⟨e,S1,h,hq⟩:=step i S0 hi h0;refine⟨e,S1,?_,?_⟩
  ·rw[KT,hn];simp only;rw[h];cases e with
   |normal=>exact absurd hq.1 (by omega)
   |exit i=>rfl
   |ret=>rfl
  ·cases e with
   |normal=>exact absurd hq.1 (by omega)
   |exit i=>exact hq
   |ret=>exact hq
 |succ k ih=>
  intro i S hk hi h0;cases hn:oN X f (2*jc b+1) S with
  |none=>rw[hn]at h0;exact absurd h0 (fun h=>h)
  |some S0=>
  rw[hn]at h0;obtain⟨e,S1,h,hq⟩:=step i S0 hi h0;unfold Wp;rw[KT,hn];simp only;rw[h];cases e with
  |normal=>
   obtain⟨gZ,hinv⟩:=hq;exact ih (i+1) (by omega) gZ hinv
  |exit i=>exact⟨_,_,rfl,hq⟩
  |ret=>exact⟨_,_,rfl,hq⟩
end
def ZN{X:Env}{f:FuncId}{S S':St}{Q:Ex->St->Prop}(h:S=S'):Wp X f c S Q=Wp X f c S' Q:=by rw[h]
def Ni{r r':Option St}{K:St->Prop}(h:r=r'):mn r K=mn r' K:=by rw[h]
def Qy{X:Env}{bZ:FuncId}{dc:List (Option Nat)}{n0 k:Nat}{ops:List Oper}{S S':St}{K:St->Prop}(h:S=S'):iP X bZ dc n0 k ops S K=iP X bZ dc n0 k ops S' K:=by rw[h]
def Nj{w:Bool}{ff:Nat->V}{dj:Nat}{p q:(Nat->V)->Prop}(h:v=v'):rP v w ff dj p q=rP v' w ff dj p q:=by rw[h]
def KX(h:v=v'):choose v p q=choose v' p q:=by rw[h]
attribute [congr] ZN Ni KX Qy Nj
def aji(a b:Int):(a==b)=decide (a=b):=(rfl)
def Nk(X:Env)(rs:List ResultVar)(K:V->bh->Nat->Prop):Ex->St->Prop
 | .exit _,_=>False
 |_,S=>match na X rs S with|some v=>K v S.h S.n|none=>False
section
variable {X:Env} {S:St} {rs:List ResultVar} {K:V->bh->Nat->Prop}
theorem yC:Nk X rs K .normal S=(match na X rs S with|some v=>K v S.h S.n|none=>False):=(rfl)
theorem F6:Nk X rs K .ret S=(match na X rs S with|some v=>K v S.h S.n|none=>False):=(rfl)
end
def bC {X:Env} {g:FuncId}   {rs:List ResultVar} (hf:X.P.funcs[g]?=some fn) (hb:fn.body=some b) (hr:fn.results=⟨rs⟩) {args:List V} {h:bh} {k:Nat} {K:V->bh->Nat->Prop}
  (hw:Wp X g b ⟨oH args,h,k⟩ (Nk X rs K)) (hp:X.oS g=none:=by rfl): ∃v h' k',cL X g args h k=some (v,h',k')/\K v h' k':=by
 have Dw:rs=fn.results.toList:=by rw[hr]
 rw[Dw]at hw;rw[ZG hf hb (hp:=hp)];obtain⟨e,S1,h1,h2⟩:=hw;rw[h1];cases e with
 |exit i=>exact absurd h2 (fun h=>h)
 |normal=>
  unfold vW;cases hr:na X fn.results.toList S1 with
  |none=>rw[yC,hr]at h2;grind
  |some v=>rw[yC,hr]at h2;grind
 |ret=>
  unfold vW;cases hr:na X fn.results.toList S1 with
  |none=>rw[F6,hr]at h2;grind
  |some v=>rw[F6,hr]at h2;grind
def aaB{X:Env}{g:FuncId}{rs:List ResultVar}{args:List V}{h:bh}{k:Nat}{K:V->bh->Nat->Prop}(hw:Wp X g b ⟨oH args,h,k⟩ (Nk X rs K))(hf:X.P.funcs[g]?=some fn:=by rfl)(hb:fn.body=some b:=by rfl)(hr:fn.results=⟨rs⟩:=by rfl)(hp:X.oS g=none:=by rfl): ∃v h' k',cL X g args h k=some (v,h',k')/\K v h' k':=bC hf hb hr hw (hp:=hp)
def Nl {X:Env} {g:FuncId}   {rs:List ResultVar} (hf:X.P.funcs[g]?=some fn) (hb:fn.body=some b) (hr:fn.results=⟨rs⟩) {args:List V} {h h':bh} {k k':Nat} 
  (hw:Wp X g b ⟨oH args,h,k⟩ (Nk X rs fun v1 h1 k1=>v1=v/\h1=h'/\k1=k')) (hp:X.oS g=none:=by rfl):cL X g args h k=some (v,h',k'):=by
 obtain⟨_,_,_,e,rfl,rfl,rfl⟩:=bC hf hb hr hw hp;exact e
def F7 {X:Env} {g:FuncId}   {rs:List ResultVar} (hf:X.P.funcs[g]?=some fn) (hb:fn.body=some b) (hr:fn.results=⟨rs⟩) {args:List V} {h:bh} {k k':Nat}  {K:bh->Prop}
  (hw:Wp X g b ⟨oH args,h,k⟩ (Nk X rs fun v1 h1 k1=>v1=v/\k1=k'/\K h1)) (hp:X.oS g=none:=by rfl): ∃h',cL X g args h k=some (v,h',k')/\K h':=by
 obtain⟨_,h',_,e,rfl,rfl,q⟩:=bC hf hb hr hw hp;grind
def pK:bh:=fun _=>none
def aU {X:Env} {g:FuncId}   {rs:List ResultVar} (hf:X.P.funcs[g]?=some fn) (hb:fn.body=some b) (hr:fn.results=⟨rs⟩) {args:List V} {r:V}
  (hw:Wp X g b ⟨oH args,pK,0⟩ (Nk X rs fun v h _=>(cy h depth v).map V.lP=some r)) (hp:X.oS g=none:=by rfl):bU X g args=some r:=by
 obtain⟨v,h,k,h1,h2⟩:=bC hf hb hr hw hp;unfold bU rM;simp only[hp];have uF:cL X g args (fun _=>none) 0=some (v,h,k):=h1
 grind
def aaA{X:Env}{g:FuncId}{rs:List ResultVar}{args:List V}{r:V}(hw:Wp X g b ⟨oH args,pK,0⟩ (Nk X rs fun v h _=>(cy h depth v).map V.lP=some r))(hf:X.P.funcs[g]?=some fn:=by rfl)(hb:fn.body=some b:=by rfl)(hr:fn.results=⟨rs⟩:=by rfl)(hp:X.oS g=none:=by rfl):bU X g args=some r:=aU hf hb hr hw (hp:=hp)
def Nm: ∀l:List V,eV l=l.map V.lP
 | []=>rfl
 |c::cs=>by simp[eV,Nm cs]
noncomputable def ng(X:Env)(m:Mask)(g:FuncId)(args:List V):Option V:=
 match cL X g args pK 0 with
 |some (v,h,_)=>Mi X h v m
 |none=>none
def mM {X:Env}  {g:FuncId}   {rs:List ResultVar} (hf:X.P.funcs[g]?=some fn) (hb:fn.body=some b) (hr:fn.results=⟨rs⟩) {args:List V} {r:V}
  (hw:Wp X g b ⟨oH args,pK,0⟩ (Nk X rs fun v h _=>Mi X h v m=some r)) (hp:X.oS g=none:=by rfl):ng X m g args=some r:=by
 obtain⟨v,h,k,h1,h2⟩:=bC hf hb hr hw hp;unfold ng
 grind
def aaC{X:Env}{g:FuncId}{rs:List ResultVar}{args:List V}{r:V}(hw:Wp X g b ⟨oH args,pK,0⟩ (Nk X rs fun v h _=>Mi X h v m=some r))(hf:X.P.funcs[g]?=some fn:=by rfl)(hb:fn.body=some b:=by rfl)(hr:fn.results=⟨rs⟩:=by rfl)(hp:X.oS g=none:=by rfl):ng X m g args=some r:=mM hf hb hr hw (hp:=hp)
def vq:V->V
 | .dP _=> .dP []
 |_=> .bad
def Qz(k:IntKind)(n:Int):vq (.int k n)= .bad:=(rfl)
def QA(l:List V):vq (.agg l)= .bad:=(rfl)
def VC(c:Bool)(l:List V):vq (.sl c l)= .bad:=(rfl)
def QB(a b c:Nat):vq (.cx a b c)= .bad:=(rfl)
def Nn(v:V)(vs:List V):yf (vq v) vs=yf v vs:=by cases v<;>rfl
noncomputable def oz(X:Env)(M:Mask)(g:FuncId)(k:Nat)(R:V)(args:List V):Option (Nat×V×List V×V):=
 match cL X g (.ptr 0 0 0::args) (l9 X g k R) (1+(X.fl g).length) with
 |some (v,h,_)=>match yg X M v h with
  |some (k',r,rs)=>some (k',r,rs,vq v)
  |none=>none
 |none=>none
def VD(X:Env)(bZ:FuncId)(dst:Option Nat)(g:FuncId)(args:List V)(S:St):mT X (cL X) bZ dst g args S=
  match rL S.h args with
  |some (bx7,h1)=>
   match ng X (dst.elim [] (X.mask bZ)) g bx7 with
   |some r=>some ((⟨S.f,xV X (X.fZ bZ) r S.n (dst.elim [] (X.mask bZ)) h1,S.n+(dst.elim [] (X.mask bZ)).length⟩:St).set dst (vh S.n (dst.elim [] (X.mask bZ)) r))
   |none=>none
  |none=>none:=by
 unfold mT ng pK
 grind
def ajj(X:Env)(bZ:FuncId)(dst:Option Nat)(g:FuncId)(id:Nat)(rest:List V)(S:St):vj X (cL X) bZ dst g (.ptr id 0 0::rest) S=
  match S.h id with
  |some ob=>
   match ob.es with
   | [e]=>
    if ob.eU=true then
     match Bs X (aR S.h id none) (fun _=>none) e (X.fl g) with
     |some R=>
      match rL (gr (aR S.h id none) (iF e (X.fl g))) rest with
      |some (bx7,h1)=>
       match oz X (rT X bZ dst g) g ob.k R bx7 with
       |some (k',r,rs,v)=>
        some ((⟨S.f,xV X (X.fZ bZ) (.dP (r::rs)) S.n (rT X bZ dst g) (aR h1 id (some ⟨k',[E8 (vh S.n (rT X bZ dst g) (.dP (r::rs)))],true⟩)),S.n+(rT X bZ dst g).length⟩:St).set dst
          (yf v (Td (vh S.n (rT X bZ dst g) (.dP (r::rs))))))
       |none=>none
      |none=>none
     |none=>none
    else none
   |_=>none
  |none=>none:=by
 rw[vj.eq_1];cases S.h id with
 |none=>rfl
 |some ob=>
  simp only;cases Jm:ob.es with
  |nil=>rfl
  |cons e t=>
   cases t with
   |cons _ _=>rfl
   |nil=>
    cases ob.eU with
    |false=>rfl
    |true=>
     simp only[if_true];cases Bs X (aR S.h id none) (fun _=>none) e (X.fl g) with
     |none=>rfl
     |some R=>
      cases rL (gr (aR S.h id none) (iF e (X.fl g))) rest with
      |none=>rfl
      |some x=>
       obtain⟨bx7,h1⟩:=x;simp only;unfold oz;cases cL X g (V.ptr 0 0 0::bx7) (l9 X g ob.k R) (1+(X.fl g).length) with
       |none=>rfl
       |some x=>
        obtain⟨v,h,n⟩:=x;simp only;cases yg X (rT X bZ dst g) v h with
        |none=>rfl
        |some y=>
         simp only[Nn]
def gh {X:Env}  {g:FuncId}   {rs:List ResultVar} (hf:X.P.funcs[g]?=some fn) (hb:fn.body=some b) (hr:fn.results=⟨rs⟩) {k:Nat}  {args:List V} {k':Nat} {r:V} {rl:List V}
  (hw:Wp X g b ⟨oH (.ptr 0 0 0::args),l9 X g k R,1+(X.fl g).length⟩ (Nk X rs fun v' h _=>yg X M v' h=some (k',r,rl)/\vq v'=v)) (hp:X.oS g=none:=by rfl):
  oz X M g k R args=some (k',r,rl,v):=by
 obtain⟨v',h,n,h1,h2,rfl⟩:=bC hf hb hr hw hp;unfold oz
 grind
def aaD{X:Env}{g:FuncId}{rs:List ResultVar}{k:Nat}{args:List V}{k':Nat}{r:V}{rl:List V}(hw:Wp X g b ⟨oH (.ptr 0 0 0::args),l9 X g k R,1+(X.fl g).length⟩ (Nk X rs fun v' h _=>yg X M v' h=some (k',r,rl)/\vq v'=v))(hf:X.P.funcs[g]?=some fn:=by rfl)(hb:fn.body=some b:=by rfl)(hr:fn.results=⟨rs⟩:=by rfl)(hp:X.oS g=none:=by rfl):  oz X M g k R args=some (k',r,rl,v):=gh hf hb hr hw (hp:=hp)
def VE(X:Env)(bZ:FuncId)(dst:Option Nat)(g:FuncId)(args:List V)(S:St):gV X (cL X) bZ dst g args S=
  match X.clone g with
  |some t=>
   match args with
   | [s]=>match elems S.h s with
    |some (es,kx)=>if s.isStr||(kx&& !X.fZ bZ (X.ti t).elem)|| !(es.all fun v=>v.cells.length==(X.ti (X.ti t).elem).size)|| !decide (es.length*(X.ti (X.ti t).elem).bytes<=2^47/\es.length<=2^62) then none else some ((S.new ⟨(X.ti (X.ti t).elem).size,es,X.fZ bZ (X.ti t).elem⟩).set dst (.cx S.n 0 es.length))
    |none=>none
   |_=>none
  |none=>
  if(X.ie g&& !X.low g)=true then
   match cL X g args S.h S.n with
   |some (v,h,n)=>some (({S with h:=h,n:=n}:St).set dst v)
   |none=>none
  else if X.gq g=true then vj X (cL X) bZ dst g args S
  else if(!(dst.elim [] (X.mask bZ)).isEmpty)=true then mT X (cL X) bZ dst g args S
  else
   match cF (args.map (cy S.h depth)) with
   |some bx7=>
    if(dst.any (X.oR bZ)&& !X.low g)=true then
     match cL X g (eV bx7) pK S.n with
     |some (v,h,n)=>if(args.any V.xU&& !v.pu)=true then none else some (({S with h:=fun id=>if id<S.n then S.h id else if args.any V.xU=true then kO (h id) else h id,n:=n}:St).set dst v)
     |none=>none
    else
     match bU X g (eV bx7) with
     |some v=>if(args.any V.xU&& !v.scalar)=true then none else some (S.set dst v)
     |none=>none
   |none=>none:=by
 have key: ∀v:V,v.lP.scalar=v.scalar:=by
  intro v;have l0: ∀v:V,v.lP.leaf=v.leaf:=fun v=>by cases v<;>rfl
  have ll: ∀l:List V,(eV l).all V.leaf=l.all V.leaf:=by
   intro l;induction l with
   |nil=>rfl
   |cons c l ih=>simp[eV,l0,ih]
  have l1: ∀v:V,v.lP.ye=v.ye:=fun v=>by
   cases v with
   |agg cs=>simp[V.lP,V.ye,ll]
   |_=>rfl
  have ll1: ∀l:List V,(eV l).all V.ye=l.all V.ye:=by
   intro l;induction l with
   |nil=>rfl
   |cons c l ih=>simp[eV,l1,ih]
  cases v with
  |dP cs=>simp[V.lP,V.scalar,ll1]
  |agg cs=>simp[V.lP,V.scalar,V.ye,ll]
  |_=>rfl
 unfold gV bU;cases X.clone g with
 |some t=>rfl
 |none=>
  by_cases hb:(X.ie g&& !X.low g)=true
  ·grind
  ·simp only[hb,if_false,aaM];by_cases Bm:X.gq g=true
   ·grind
   by_cases HX:(!(dst.elim [] (X.mask bZ)).isEmpty)=true
   ·grind
   cases cF (args.map (cy S.h depth)) with
   |none=>rfl
   |some bx7=>
    by_cases ht:(dst.any (X.oR bZ)&& !X.low g)=true
    ·simp only[ht,if_true];rfl
    grind
def No(X:Env)(call:jm)(bZ:FuncId)(ops:List Oper)(n0:Nat)(S0 S1:St)(q:Nat×Nat)(l:List (Nat×Nat)):lD X call bZ ops n0 S0 S1 (q::l)=
  (((∃o,ops[q.1]?=some o/\I9 (ops.map (·.dst)) o S1)\/(∃o T v,ops[q.1]?=some o/\gM X call bZ (ops.map (·.dst)) n0 0 (ops.take q.2) S0=some T/\
  cI X bZ o S1.ev T.h (n0+q.1)=some (v,T.h,n0+q.1)/\ ∀d,o.dst=some d->S1.f d=v))/\lD X call bZ ops n0 S0 S1 l):=by
 simp only[lD,List.forall_mem_cons]
def ku(r:Option (V×bh×Nat))(K:V->bh->Prop):Prop:=
 match r with
 |some (v,h,_)=>K v h
 |none=>False
def QC(v:V)(h:bh)(n:Nat)(K:V->bh->Prop):ku (some (v,h,n)) K=K v h:=(rfl)
def QD(K:V->bh->Prop):ku none K=False:=(rfl)
def QE(c:Prop)[Decidable c](a:Option (V×bh×Nat))(K:V->bh->Prop):ku (if c then a else none) K=(c/\(c->ku (mark a) K)):=by
 by_cases h:c<;>simp[h,ku,mark]
def Np(c:Prop)[Decidable c](a:Option (V×bh×Nat))(K:V->bh->Prop):ku (if c then none else a) K=(¬c/\(¬c->ku (mark a) K)):=by
 by_cases h:c<;>simp[h,ku,mark]
def Nq{r r':Option (V×bh×Nat)}{K:V->bh->Prop}(h:r=r'):ku r K=ku r' K:=by rw[h]
def VF{l l':List (Nat×Nat)}{p:List (Nat×Nat)->Prop}(h:l=l'):stb l p=stb l' p:=by rw[h]
attribute [congr] Nq VF
def ajk(X:Env)(call:jm)(bZ:FuncId)(ops:List Oper)(n0:Nat)(S0 S1:St):stb [] (lD X call bZ ops n0 S0 S1)=True:=F4 ..
def rdP(X:Env)(bZ:FuncId)(o:Option Oper)(S1 T:St)(m:Nat):Prop:= ∃o' v,o=some o'/\cI X bZ o' S1.ev T.h m=some (v,T.h,m)/\ ∀d,o'.dst=some d->S1.f d=v
def TA(l:List Oper)(K:List Oper->Prop):Prop:=K l
def QF(o:Oper)(l:List Oper)(K:List Oper->Prop):TA (o::l) K=K (o::l):=(rfl)
def VG(K:List Oper->Prop):TA [] K=K []:=(rfl)
def VH{X:Env}{bZ:FuncId}{o o':Option Oper}{S1 T:St}{m:Nat}(h:o=o'):rdP X bZ o S1 T m=rdP X bZ o' S1 T m:=by rw[h]
attribute [congr] VH
def skP(o:Option Oper)(dc:List (Option Nat))(S1:St):Prop:= ∃o',o=some o'/\I9 dc o' S1
def ZO(dc:List (Option Nat))(d:Option Nat)(op:Op)(ty:TypeId)(ps:String)(af:Array Edge)(S1:St):skP (some ⟨d,op,ty,ps,af,none⟩) dc S1=False:=by
 simp[skP,I9]
def ZP(dc:List (Option Nat))(d:Option Nat)(op:Op)(ty:TypeId)(ps:String)(af:Array Edge)(j:Nat)(want:Bool)(S1:St):skP (some ⟨d,op,ty,ps,af,some (j,want)⟩) dc S1=
  (match dc[j]? with|some (some d)=>S1.f d= .dP []\/S1.f d= .bool (!want)|_=>False):=by
 simp only[skP,I9,Option.some.injEq,exists_eq_left'];try rfl
def VI{o o':Option Oper}{dc:List (Option Nat)}{S1:St}(h:o=o'):skP o dc S1=skP o' dc S1:=by rw[h]
attribute [congr] VI
def ZQ(X:Env)(bZ:FuncId)(ops:List Oper)(n0:Nat)(S0 S1:St)(j p:Nat)(l:List (Nat×Nat)):stb ((j,p)::l) (lD X (cL X) bZ ops n0 S0 S1)=
  ((skP (mark ops[j]?) (ops.map (·.dst)) S1\/TA (mark (ops.take p)) fun a89=>iP X bZ (ops.map (·.dst)) n0 0 a89 S0 fun T=>rdP X bZ (mark ops[j]?) S1 T (n0+j))/\stb l (lD X (cL X) bZ ops n0 S0 S1)):=by
 unfold stb;rw[No];congr 1;congr 1;unfold TA mark iP rdP;apply propext;constructor
 ·rintro⟨o,T,v,h1,h2,h3,h4⟩;simp only[h2];exact⟨o,v,h1,h3,h4⟩
 ·intro h;cases hT:gM X (cL X) bZ (ops.map (·.dst)) n0 0 (ops.take p) S0 with
  |none=>simp only[hT]at h;exact absurd h (fun h=>h)
  |some T=>
   simp only[hT]at h;obtain⟨o,v,h1,h3,h4⟩:=h
   grind
def TB(X:Env)(bZ:FuncId)(d:Nat)(t:TypeId)(a:Operand)(ty:TypeId)(ps:String)(af:Array Edge)(g:Option (Nat×Bool))(S1 T:St)(m:Nat):rdP X bZ (some ⟨some d,.load t a,ty,ps,af,g⟩) S1 T m=
  ∃v,(match nu S1.f a with
   | .ptr id i f=>match T.h id with
    |some ob=>match ob.es[i]? with
     |some e=>match part (X.ti t) e.cells f with|some v=>some (v,T.h,m)|none=>none
     |none=>none
    |none=>none
   | .ref cs=>match part (X.ti t) cs 0 with|some v=>some (v,T.h,m)|none=>none
   |_=>none)=some (v,T.h,m)/\S1.f d=v:=by
 apply propext;constructor
 ·rintro⟨o,v,h,h1,h2⟩;simp only[aA]at h;subst h;exact⟨v,h1,h2 d rfl⟩
 ·rintro⟨v,h1,h2⟩;refine⟨_,v,rfl,h1,fun d' h=> ?_⟩
  grind
def asv(dc:List (Option Nat))(f:Nat->V)(j:Nat):V:=
 match dc[j]? with
 |some (some d)=>f d
 |_=> .bad
def asw(dc:List (Option Nat))(j:Nat):Nat:=
 match dc[j]? with
 |some (some d)=>d
 |_=>0
section
variable {X:Env} {fx:FuncId} {dc:List (Option Nat)} {n0 kk n:Nat} {r:List Oper} {ff:Nat->V} {hp:bh} {K:St->Prop} {d:Nat} {ty:TypeId} {ps:String} {af:Array Edge}
theorem QH {o:Oper} {S:St} (hs:fq X (cL X) fx n0 kk o S=match cI X fx o S.ev S.h (n0+kk) with
  |some (v,h,_)=>some (({S with h:=h}:St).set o.dst v)
  |none=>none) (hg:o.guard=none):iP X fx dc n0 kk (o::r) S K=ku (cI X fx o S.ev S.h (n0+kk)) fun v h=>iP X fx dc n0 (kk+1) r ((⟨S.f,h,S.n⟩:St).set o.dst v) K:=by
 rw[wg,hg,hs];cases cI X fx o S.ev S.h (n0+kk) with
 |none=>rfl
 |some x=>rfl
theorem gy {o:Oper} (hs: ∀S,fq X (cL X) fx n0 kk o S=match cI X fx o S.ev S.h (n0+kk) with
  |some (v,h,_)=>some (({S with h:=h}:St).set o.dst v)
  |none=>none) (hg:o.guard=none) {d:Option Nat} (hd:o.dst=d):iP X fx dc n0 kk (o::r) ⟨ff,hp,n⟩ K=ku (mark (cI X fx o (nu ff) hp (n0+kk))) fun v h=>iP X fx dc n0 (kk+1) r ((⟨ff,h,n⟩:St).set d v) K:=by
 subst hd;exact QH (hs _) hg
theorem VJ(d:Nat)(op:Op)(j:Nat)(w:Bool):iP X fx dc n0 kk (⟨some d,op,ty,ps,af,some (j,w)⟩::r) ⟨ff,hp,n⟩ K=
  rP (mark (asv dc ff j)) w ff (asw dc j) (fun ff=>iP X fx dc n0 kk (⟨some d,op,ty,ps,af,none⟩::r) ⟨ff,hp,n⟩ K) (fun ff=>iP X fx dc n0 (kk+1) r ⟨aR ff d (.dP []),hp,n⟩ K):=by
 have key: ∀ff:Nat->V,iP X fx dc n0 kk (⟨some d,op,ty,ps,af,none⟩::r) ⟨ff,hp,n⟩ K=mn (fq X (cL X) fx n0 kk ⟨some d,op,ty,ps,af,some (j,w)⟩ ⟨ff,hp,n⟩) fun S1=>iP X fx dc n0 (kk+1) r S1 K:=fun ff=>by rw[wg];rfl
 simp only[key];rw[wg];unfold asv mark asw;simp only;cases dc[j]? with
 |none=>rfl
 |some x=>
  cases x with
  |none=>rfl
  |some x=>
   rfl
theorem ZR(d:Option Nat)(g:FuncId)(args:Array Operand)(mH:Array TypeId):iP X fx dc n0 kk (⟨d,.call ⟨.value (.func g),args,mH⟩,ty,ps,af,none⟩::r) ⟨ff,hp,n⟩ K=
  mn (mark (gV X (cL X) fx d g (args.toList.map (nu ff)) ⟨ff,hp,n⟩)) fun S1=>iP X fx dc n0 (kk+1) r ⟨S1.f,S1.h,S1.n⟩ K:=by
 rw[wg,show nu ff=(⟨ff,hp,n⟩:St).ev from KV ⟨ff,hp,n⟩];show mn (gV X (cL X) fx d g ([]++args.toList.map (⟨ff,hp,n⟩:St).ev++ []) ⟨ff,hp,n⟩) _=_;rw[aeV,acX];rfl
theorem ZS(x'):iP X fx dc n0 kk (⟨(some d),.move x',ty,ps,af,none⟩::r) ⟨ff,hp,n⟩ K=
  ku (mark (some (((nu ff) x'),hp,(n0+kk)))) fun v h'=>iP X fx dc n0 (kk+1) r ⟨aR ff d v,h',n⟩ K:=gy (fun _=>rfl) rfl rfl
theorem QI(x'):iP X fx dc n0 kk (⟨(some d),.assign x',ty,ps,af,none⟩::r) ⟨ff,hp,n⟩ K=
  ku (mark (some (((nu ff) x'),hp,(n0+kk)))) fun v h'=>iP X fx dc n0 (kk+1) r ⟨aR ff d v,h',n⟩ K:=gy (fun _=>rfl) rfl rfl
theorem ZT(c')(a')(b'):iP X fx dc n0 kk (⟨(some d),.pick c' a' b',ty,ps,af,none⟩::r) ⟨ff,hp,n⟩ K=
  ku (mark (match(nu ff) c' with| .bool t=>some ((if t then(nu ff) a' else(nu ff) b'),hp,(n0+kk))|_=>none)) fun v h'=>iP X fx dc n0 (kk+1) r ⟨aR ff d v,h',n⟩ K:=gy (fun _=>rfl) rfl rfl
theorem VK(t'):iP X fx dc n0 kk (⟨(some d),.alloc t',ty,ps,af,none⟩::r) ⟨ff,hp,n⟩ K=
  ku (mark (some ((.ptr (n0+kk) 0 0),aR hp (n0+kk) (some ⟨(X.ti t').size,[(X.ti t').zero],true⟩),(n0+kk)+1))) fun v h'=>iP X fx dc n0 (kk+1) r ⟨aR ff d v,h',n⟩ K:=gy (fun _=>rfl) rfl rfl
theorem ajm(t')(x'):iP X fx dc n0 kk (⟨(some d),.box t' x',ty,ps,af,none⟩::r) ⟨ff,hp,n⟩ K=
  ku (mark (if((nu ff) x').fits (X.ti t').size then some ((.ptr (n0+kk) 0 0),aR hp (n0+kk) (some ⟨(X.ti t').size,[(nu ff) x'],true⟩),(n0+kk)+1) else none)) fun v h'=>iP X fx dc n0 (kk+1) r ⟨aR ff d v,h',n⟩ K:=gy (fun _=>rfl) rfl rfl
theorem VL(t')(x9):iP X fx dc n0 kk (⟨(some d),.build t' x9,ty,ps,af,none⟩::r) ⟨ff,hp,n⟩ K=
  ku (mark (match(X.ti t').arr with
  |none=>if(X.ti t').wQ=[] then none else match xH (X.ti t').wQ (X.ti t').zero.cells (x9.toList.map fun p=>(p.1,(nu ff) p.2)) with
   |some cs=>some ((.agg cs),hp,(n0+kk))
   |none=>none
  |some m=>match xH ((List.range m).map fun i=>(i*(X.ti (X.ti t').elem).size,(X.ti (X.ti t').elem).size)) (X.ti t').zero.cells (x9.toList.map fun p=>(p.1,(nu ff) p.2)) with
   |some cs=>some ((.agg cs),hp,(n0+kk))
   |none=>none)) fun v h'=>iP X fx dc n0 (kk+1) r ⟨aR ff d v,h',n⟩ K:=gy (fun _=>rfl) rfl rfl
theorem F8(t')(n')(x9):iP X fx dc n0 kk (⟨(some d),.buildSlice t' n' x9,ty,ps,af,none⟩::r) ⟨ff,hp,n⟩ K=
  ku (mark (let e:=(X.ti t').elem
  if X.fZ fx e then
   match qD (X.ti e).size (List.replicate n' (X.ti e).zero) (x9.toList.map fun p=>(p.1,(nu ff) p.2)) with
   |some es=>some ((.cx (n0+kk) 0 n'),aR hp (n0+kk) (some ⟨(X.ti e).size,es,true⟩),(n0+kk)+1)
   |none=>none
  else if(some d).any (X.flat fx) then
   match mG (fun _=>none) (x9.toList.map fun p=>(p.1,(nu ff) p.2)) with
   |some (l,_)=>match qD (X.ti e).size (List.replicate n' (X.ti e).zero) l with
    |some es=>some ((.sl true es),hp,(n0+kk))
    |none=>none
   |none=>none
  else
  match mG hp (x9.toList.map fun p=>(p.1,(nu ff) p.2)) with
  |some (l,h)=>
   match qD (X.ti e).size (List.replicate n' (X.ti e).zero) l with
   |some es=>
    if(some d).any (X.oR fx) then some ((.cx (n0+kk) 0 n'),aR (h) (n0+kk) (some ⟨(X.ti e).size,es,false⟩),(n0+kk)+1)
    else some ((.sl true es),h,(n0+kk))
   |none=>none
  |none=>none)) fun v h'=>iP X fx dc n0 (kk+1) r ⟨aR ff d v,h',n⟩ K:=gy (fun _=>rfl) rfl rfl
theorem ZU(t')(a'):iP X fx dc n0 kk (⟨(some d),.load t' a',ty,ps,af,none⟩::r) ⟨ff,hp,n⟩ K=
  ku (mark (match(nu ff) a' with
  | .ptr id i f=>match hp id with
   |some ob=>match ob.es[i]? with
    |some e=>match part (X.ti t') e.cells f with|some v=>some (v,hp,(n0+kk))|none=>none
    |none=>none
   |none=>none
  | .ref cs=>match part (X.ti t') cs 0 with|some v=>some (v,hp,(n0+kk))|none=>none
  |_=>none)) fun v h'=>iP X fx dc n0 (kk+1) r ⟨aR ff d v,h',n⟩ K:=gy (fun _=>rfl) rfl rfl
theorem VM(t')(a')(x'):iP X fx dc n0 kk (⟨none,.store t' a' x',ty,ps,af,none⟩::r) ⟨ff,hp,n⟩ K=
  ku (mark (match(nu ff) a' with
  | .ptr id i f=>match hp id with
   |some ob=>
    match(if ob.eU then some ((nu ff) x',hp) else qs hp ((nu ff) x')) with
    |some (v,h)=>match h id with
     |some ob=>match ob.es[i]? with
      |some e=>if v.fits (X.ti t').size&&decide (f+(X.ti t').size<=e.cells.length) then some (.bad,aR h id (some {ob with es:=ob.es.set i (e.put f v)}),(n0+kk)) else none
      |none=>none
     |none=>none
    |none=>none
   |none=>none
  |_=>none)) fun v h'=>iP X fx dc n0 (kk+1) r ⟨ff,h',n⟩ K:=gy (fun _=>rfl) rfl rfl
theorem KY(x'):iP X fx dc n0 kk (⟨(some d),.nilCheck x',ty,ps,af,none⟩::r) ⟨ff,hp,n⟩ K=
  ku (mark (match(nu ff) x' with
  | .ptr id i f=>some ((.ptr id i f),hp,(n0+kk))
  | .ref cs=>some ((.ref cs),hp,(n0+kk))
  | .fn g a b=>some ((.fn g a b),hp,(n0+kk))
  |_=>none)) fun v h'=>iP X fx dc n0 (kk+1) r ⟨aR ff d v,h',n⟩ K:=gy (fun _=>rfl) rfl rfl
theorem VN(op')(t')(x')(y')(u0'):iP X fx dc n0 kk (⟨(some d),.binOp op' t' x' y' u0',ty,ps,af,none⟩::r) ⟨ff,hp,n⟩ K=
  ku (mark (match sQ (X.ti t').agg (X.ti t').wR op' ((nu ff) x') ((nu ff) y') with|some v=>some (v,hp,(n0+kk))|none=>none)) fun v h'=>iP X fx dc n0 (kk+1) r ⟨aR ff d v,h',n⟩ K:=gy (fun _=>rfl) rfl rfl
theorem ZV(op')(u0')(x'):iP X fx dc n0 kk (⟨(some d),.unOp op' u0' x',ty,ps,af,none⟩::r) ⟨ff,hp,n⟩ K=
  ku (mark (match unV op' ((nu ff) x') with|some v=>some (v,hp,(n0+kk))|none=>none)) fun v h'=>iP X fx dc n0 (kk+1) r ⟨aR ff d v,h',n⟩ K:=gy (fun _=>rfl) rfl rfl
theorem Nr(u0')(d')(x'):iP X fx dc n0 kk (⟨(some d),.convert u0' d' x',ty,ps,af,none⟩::r) ⟨ff,hp,n⟩ K=
  ku (mark (match(X.ti d').kind,(nu ff) x' with
  |some k,.int _ n=>some ((.int k (k.wrap n)),hp,(n0+kk))
  |none,v=>if(X.ti d').isStr=true/\v.isStr=false then(match elems hp v with
   |some (es,_)=>match bytesOf es with
    |some s=>some (.str s,hp,(n0+kk))
    |none=>none
   |none=>none) else Mg (X.ti d').isStr (X.ti (X.ti d').elem).kind hp (n0+kk) v
  |_,_=>none)) fun v h'=>iP X fx dc n0 (kk+1) r ⟨aR ff d v,h',n⟩ K:=gy (fun _=>rfl) rfl rfl
theorem Ix(t')(l')(c'):iP X fx dc n0 kk (⟨(some d),.makeSlice t' l' c',ty,ps,af,none⟩::r) ⟨ff,hp,n⟩ K=
  ku (mark (match(nu ff) l',(nu ff) c' with
  | .int _ n,.int _ m=>if 0<=n/\n<=m/\m*(X.ti (X.ti t').elem).bytes<=2^47/\m<=2^62 then
    some ((.cx (n0+kk) 0 n.toNat),aR hp (n0+kk) (some ⟨(X.ti (X.ti t').elem).size,List.replicate n.toNat (X.ti (X.ti t').elem).zero,X.fZ fx (X.ti t').elem⟩),(n0+kk)+1) else none
  |_,_=>none)) fun v h'=>iP X fx dc n0 (kk+1) r ⟨aR ff d v,h',n⟩ K:=gy (fun _=>rfl) rfl rfl
theorem VO(t')(x')(QJ)(oy)(ZW):iP X fx dc n0 kk (⟨(some d),.slice t' x' QJ oy ZW,ty,ps,af,none⟩::r) ⟨ff,hp,n⟩ K=
  ku (mark (if((nu ff) x').isStr=(X.ti t').isStr/\((nu ff) x').Br=(X.ti t').arr.isSome then
   match(nu ff) x' with
   | .sl _ es=>
    if es.all (fun e=>e.cells.length==(X.ti (X.ti t').elem).size) then
     match ZW with
     |none=>match bounds (QJ.map (nu ff)) (oy.map (nu ff)) es.length with|some (l,h)=>some ((.sl false ((es.take h).drop l)),hp,(n0+kk))|none=>none
     |some m=>match(nu ff) m,oy.map (nu ff) with
      | .int _ p,some (.int _ q)=>if p=q then(match bounds (QJ.map (nu ff)) (oy.map (nu ff)) es.length with|some (l,h)=>some ((.sl true ((es.take h).drop l)),hp,(n0+kk))|none=>none) else none
      |_,_=>none
    else none
   | .cx id s n=>
    match ZW,hp id with
    |none,some ob=>if ob.k=(X.ti (X.ti t').elem).size then(match bounds (QJ.map (nu ff)) (oy.map (nu ff)) n with|some (l,h)=>some ((.cx id (s+l) (h-l)),hp,(n0+kk))|none=>none) else none
    |some m,some ob=>if ob.k=(X.ti (X.ti t').elem).size then(match(nu ff) m,oy.map (nu ff) with
      | .int _ p,some (.int _ q)=>if p=q then(match bounds (QJ.map (nu ff)) (oy.map (nu ff)) n with|some (l,h)=>some ((.cx id (s+l) (h-l)),hp,(n0+kk))|none=>none) else none
      |_,_=>none) else none
    |_,none=>none
   | .str s=>match ZW with
    |none=>match bounds (QJ.map (nu ff)) (oy.map (nu ff)) s.length with|some (l,h)=>some ((.str ((s.take h).drop l)),hp,(n0+kk))|none=>none
    |some _=>none
   | .ptr id 0 0=>match ZW,QJ,oy,(X.ti t').arr,hp id with
    |none,none,none,some m,some ob=>match ob.es with
     | [e]=>if e.cells.all V.oU=true/\e.cells.length=m/\(X.ti (X.ti t').elem).size=1/\0<m then some (.sl true e.cells,aR hp id none,(n0+kk)) else none
     |_=>none
    |_,_,_,_,_=>none
   |_=>none
  else none)) fun v h'=>iP X fx dc n0 (kk+1) r ⟨aR ff d v,h',n⟩ K:=gy (fun _=>rfl) rfl rfl
theorem Iy(t')(x')(i'):iP X fx dc n0 kk (⟨(some d),.fieldAddr t' x' i',ty,ps,af,none⟩::r) ⟨ff,hp,n⟩ K=
  ku (mark (match(X.ti t').wQ[i']? with
  |some (off,_)=>match(nu ff) x' with
   | .ptr id j f=>some ((.ptr id j (f+off)),hp,(n0+kk))
   | .ref cs=>some ((.ref (cs.drop off)),hp,(n0+kk))
   |_=>none
  |none=>none)) fun v h'=>iP X fx dc n0 (kk+1) r ⟨aR ff d v,h',n⟩ K:=gy (fun _=>rfl) rfl rfl
theorem Iz(t')(x')(ix'):iP X fx dc n0 kk (⟨(some d),.indexAddr t' x' ix',ty,ps,af,none⟩::r) ⟨ff,hp,n⟩ K=
  ku (mark (match(nu ff) ix' with
  | .int _ n=>match(nu ff) x' with
   | .sl _ es=>if(0<=n/\n<es.length)/\(X.ti t').arr=none then(match es[n.toNat]? with|some e=>if e.cells.length=(X.ti (X.ti t').elem).size then some ((.ref e.cells),hp,(n0+kk)) else none|none=>none) else none
   | .cx id s l=>if(0<=n/\n<l)/\(X.ti t').arr=none then(match hp id with|some ob=>if ob.k=(X.ti (X.ti t').elem).size then some ((.ptr id (s+n.toNat) 0),hp,(n0+kk)) else none|none=>none) else none
   | .ptr id j f=>match(X.ti t').arr with
    |some m=>if 0<=n/\n<m then some ((.ptr id j (f+n.toNat*(X.ti (X.ti t').elem).size)),hp,(n0+kk)) else none
    |none=>none
   |_=>none
  |_=>none)) fun v h'=>iP X fx dc n0 (kk+1) r ⟨aR ff d v,h',n⟩ K:=gy (fun _=>rfl) rfl rfl
theorem VP(t')(x')(ix'):iP X fx dc n0 kk (⟨(some d),.index t' x' ix',ty,ps,af,none⟩::r) ⟨ff,hp,n⟩ K=
  ku (mark (match(nu ff) ix' with
  | .int _ n=>match(nu ff) x' with
   | .str s=>if 0<=n/\(X.ti t').arr=none then(match s[n.toNat]? with|some b=>some ((.int .u8 b.toNat),hp,(n0+kk))|none=>none) else none
   | .agg cs=>match(X.ti t').arr with
    |some m=>if 0<=n/\n<m then(match part (X.ti (X.ti t').elem) cs (n.toNat*(X.ti (X.ti t').elem).size) with|some v=>some (v,hp,(n0+kk))|none=>none) else none
    |none=>none
   |_=>none
  |_=>none)) fun v h'=>iP X fx dc n0 (kk+1) r ⟨aR ff d v,h',n⟩ K:=gy (fun _=>rfl) rfl rfl
theorem VQ(t')(x')(f'):iP X fx dc n0 kk (⟨(some d),.field t' x' f',ty,ps,af,none⟩::r) ⟨ff,hp,n⟩ K=
  ku (mark (match(nu ff) x' with
  | .agg cs=>match(X.ti t').wQ[f']? with
   |some (k,_)=>match part (X.ti ty) cs k with|some v=>some (v,hp,(n0+kk))|none=>none
   |none=>none
  |_=>none)) fun v h'=>iP X fx dc n0 (kk+1) r ⟨aR ff d v,h',n⟩ K:=gy (fun _=>rfl) rfl rfl
theorem Ns(x')(i'):iP X fx dc n0 kk (⟨(some d),.extract x' i',ty,ps,af,none⟩::r) ⟨ff,hp,n⟩ K=
  ku (mark (match(nu ff) x' with
  | .dP vs=>match vs[i']? with|some v=>some (v,hp,(n0+kk))|none=>none
  |_=>none)) fun v h'=>iP X fx dc n0 (kk+1) r ⟨aR ff d v,h',n⟩ K:=gy (fun _=>rfl) rfl rfl
theorem KZ(uM)(K0):iP X fx dc n0 kk (⟨(some d),.call ⟨.builtin .len,uM,K0⟩,ty,ps,af,none⟩::r) ⟨ff,hp,n⟩ K=
  ku (mark (match uM.toList.map (nu ff) with
  | [x]=>if x.isStr=(X.ti (K0.getD 0 0)).isStr then(match E7 x with|some n=>some ((.int .i64 n),hp,(n0+kk))|none=>none) else none
  |_=>none)) fun v h'=>iP X fx dc n0 (kk+1) r ⟨aR ff d v,h',n⟩ K:=gy (fun _=>rfl) rfl rfl
theorem K1(uM)(u0'):iP X fx dc n0 kk (⟨(some d),.call ⟨.builtin .min,uM,u0'⟩,ty,ps,af,none⟩::r) ⟨ff,hp,n⟩ K=
  ku (mark (match uM.toList.map (nu ff) with
  | [.int k a,.int k' b]=>if k=k' then some ((.int k (if b<a then b else a)),hp,(n0+kk)) else none
  |_=>none)) fun v h'=>iP X fx dc n0 (kk+1) r ⟨aR ff d v,h',n⟩ K:=gy (fun _=>rfl) rfl rfl
theorem K2(uM)(u0'):iP X fx dc n0 kk (⟨(some d),.call ⟨.builtin .max,uM,u0'⟩,ty,ps,af,none⟩::r) ⟨ff,hp,n⟩ K=
  ku (mark (match uM.toList.map (nu ff) with
  | [.int k a,.int k' b]=>if k=k' then some ((.int k (if b>a then b else a)),hp,(n0+kk)) else none
  |_=>none)) fun v h'=>iP X fx dc n0 (kk+1) r ⟨aR ff d v,h',n⟩ K:=gy (fun _=>rfl) rfl rfl
theorem Ep(uM)(K0):iP X fx dc n0 kk (⟨(some d),.call ⟨.builtin .append,uM,K0⟩,ty,ps,af,none⟩::r) ⟨ff,hp,n⟩ K=
  ku (mark (match uM.toList.map (nu ff) with
  | [s,x]=>match elems hp s,elems hp x with
   |some (es,kb),some (xs,kx)=>
    let e:=(X.ti (K0.getD 0 0)).elem;let kp:=X.fZ fx e
    if((kb||kx)&& !kp)|| !(xs.all fun v=>v.cells.length==(X.ti e).size)||(X.ti (K0.getD 1 0)).kind.isSome then none else
    if(es.length+xs.length)*(X.ti e).bytes<=2^47/\es.length+xs.length<=2^62 then
     match s with
     | .sl true []=>some ((.cx (n0+kk) 0 xs.length),aR hp (n0+kk) (some ⟨(X.ti e).size,xs,kp⟩),(n0+kk)+1)
     | .sl true _=>if kx|| !(es.all fun v=>v.cells.length==(X.ti e).size) then none else some ((.sl false (es++xs)),hp,(n0+kk))
     | .cx id _ _=>match hp id with
      |some ob=>if ob.k=(X.ti e).size then some ((.cx (n0+kk) 0 (es.length+xs.length)),aR (aR hp id none) (n0+kk) (some ⟨(X.ti e).size,es++xs,kp⟩),(n0+kk)+1) else none
      |none=>none
     |_=>none
    else none
   |_,_=>none
  |_=>none)) fun v h'=>iP X fx dc n0 (kk+1) r ⟨aR ff d v,h',n⟩ K:=gy (fun _=>rfl) rfl rfl
theorem IA(uM)(K0):iP X fx dc n0 kk (⟨(some d),.call ⟨.builtin .copy,uM,K0⟩,ty,ps,af,none⟩::r) ⟨ff,hp,n⟩ K=
  ku (mark (match uM.toList.map (nu ff) with
  | [.cx id s l,x]=>match hp id,elems hp x with
   |some ob,some (xs,kx)=>
    if x.isStr||(kx&& !ob.eU)|| !(xs.all fun v=>v.cells.length==ob.k) then none else
    if s+l<=ob.es.length/\ob.k=(X.ti (X.ti (K0.getD 0 0)).elem).size then
     some ((.int .i64 (min xs.length l:Nat)),aR hp id (some {ob with es:=ob.es.take s++xs.take (min xs.length l)++ob.es.drop (s+min xs.length l)}),(n0+kk))
    else none
   |_,_=>none
  |_=>none)) fun v h'=>iP X fx dc n0 (kk+1) r ⟨aR ff d v,h',n⟩ K:=gy (fun _=>rfl) rfl rfl
theorem asx(t:Nat):nu ff (.tmp t)=ff t:=(rfl)
theorem ZX(v:Value):nu ff (.const v)=vV v:=(rfl)
theorem az0(g:FuncId):nu ff (.func g)= .fn g [] []:=(rfl)
theorem ZY(S:St)(t:Nat)(v:V):S.set (some t) v=⟨aR S.f t v,S.h,S.n⟩:=(rfl)
end
def ZZ(X:Env)(f key:Nat)(S:St):oN X f key S=match X.norm f key with|some N=>N.run S|none=>some S:=(rfl)
def Z0(n:Nat)(w:V):xW (some n) (.sl true []) w= .cx n 0 0:=(rfl)
def VR(v w:V):xW none v w=w:=by unfold xW;grind
def ajo(o:Option Nat)(es:List V)(w:V):xW o (.sl false es) w=w:=(rfl)
def Z1(o:Option Nat)(k:IntKind)(n:Int)(w:V):xW o (.int k n) w=w:=(rfl)
def VS(o:Option Nat)(b:Bool)(w:V):xW o (.bool b) w=w:=(rfl)
def Z2(o:Option Nat)(b:List UInt8)(w:V):xW o (.str b) w=w:=(rfl)
def Z3(o:Option Nat)(i s l:Nat)(w:V):xW o (.cx i s l) w=w:=(rfl)
def Z4(o:Option Nat)(i s l:Nat)(w:V):xW o (.ptr i s l) w=w:=(rfl)
def ajp(o:Option Nat)(g:FuncId)(a b:List V)(w:V):xW o (.fn g a b) w=w:=(rfl)
section
variable (S:St) (N:Norm) (hx:bh)
theorem Z5(k:IntKind)(n:Int):E9 S N hx (.int k n)= .int k n:=(rfl)
theorem VT(b:Bool):E9 S N hx (.bool b)= .bool b:=(rfl)
theorem Z6(b:List UInt8):E9 S N hx (.str b)= .str b:=(rfl)
theorem ajq(c:Bool)(es:List V):E9 S N hx (.sl c es)= .sl false es:=(rfl)
theorem ajr(g:FuncId)(a b:List V):E9 S N hx (.fn g a b)= .fn g (a.map (Kx S N hx)) (b.map (Kx S N hx)):=(rfl)
theorem Z7(i s l:Nat):E9 S N hx (.cx i s l)=fixC S N hx (.cx i s l):=(rfl)
theorem Z8(i s l:Nat):E9 S N hx (.ptr i s l)=fixC S N hx (.ptr i s l):=(rfl)
theorem Z9(k:IntKind)(n:Int):fixC S N hx (.int k n)= .int k n:=(rfl)
theorem VU(b:Bool):fixC S N hx (.bool b)= .bool b:=(rfl)
theorem ajs(c:Bool)(es:List V):fixC S N hx (.sl c es)= .sl false es:=(rfl)
theorem aaa(id s l:Nat):fixC S N hx (.cx id s l)=match look S id N.roots with
  |some j=> .cx j s l
  |none=>match cy hx depth (.cx id s l) with
   |some v=>v
   |none=> .bad:=(rfl)
theorem aab(id i f:Nat):fixC S N hx (.ptr id i f)=match look S id N.roots with
  |some j=> .ptr j i f
  |none=> .bad:=(rfl)
theorem QK(id:Nat)(ob:Ob):Fa S N hx id (some ob)=if ob.eU=true then
   match ob.es with
   | [e]=>some ⟨ob.k,[PK S N hx id e],true⟩
   |es=>if es.all V.PH=true then some ob else none
  else some ob:=(rfl)
end
def aac(t:List Nat)(r:List Gr)(n:Nat)(S:St):(⟨t,r,false,n⟩:Norm).first S=true:=(rfl)
def VV(t:List Nat)(a:Gr)(r:List Gr)(n:Nat)(S:St):(⟨t,a::r,true,n⟩:Norm).first S=(a.new==0&& (a.loc.val S).root==some 0):=(rfl)
def aad(i s l:Nat):(V.cx i s l).root=some i:=(rfl)
def aae(i:Nat):(V.ptr i 0 0).root=some i:=(rfl)
def ajt(c:Bool)(es:List V):(V.sl c es).root=none:=(rfl)
def VW(i:Nat):(V.ptr i 0 0).boxed=some i:=(rfl)
def aju(S:St)(t:Nat):(Loc.box t).val S=S.f t:=(rfl)
def aaf(S:St)(t:Nat):(Loc.slot t).val S=S.f t:=(rfl)
def aag(S:St)(t j:Nat):(Loc.cell t j).val S=match S.f t with
  | .ptr id 0 0=>match S.h id with
   |some ob=>match ob.es with
    | [e]=>e.cells.getD j .bad
    |_=> .bad
   |none=> .bad
  |_=> .bad:=(rfl)
def aah(S:St)(id:Nat):look S id []=none:=(rfl)
def VX(S:St)(id:Nat)(a:Gr)(r:List Gr):look S id (a::r)=if(a.loc.val S).root=some id then some a.new else look S id r:=(rfl)
def Nt(t:Nat):zx t []=none:=(rfl)
def K3(t:Nat)(a:Gr)(r:List Gr):zx t (a::r)=if a.loc= .slot t then some a.new else zx t r:=(rfl)
def Nu(S:St)(id j:Nat):qo S id j []=none:=(rfl)
def Nv(S:St)(id j t n k:Nat)(kp:Bool)(r:List Gr):qo S id j (⟨.box t,n,k,kp⟩::r)=qo S id j r:=(rfl)
def K4(S:St)(id j t n k:Nat)(kp:Bool)(r:List Gr):qo S id j (⟨.slot t,n,k,kp⟩::r)=qo S id j r:=(rfl)
def K5(S:St)(id j t j' n k:Nat)(kp:Bool)(r:List Gr):qo S id j (⟨.cell t j',n,k,kp⟩::r)=if j'=j/\(S.f t).boxed=some id then some n else qo S id j r:=(rfl)
def VY(h:bh):gr h []=h:=(rfl)
def QL(h:bh)(id:Nat)(r:List (Option Nat)):gr h (some id::r)=aR (gr h r) id none:=(rfl)
def QM(h:bh)(r:List (Option Nat)):gr h (none::r)=gr h r:=(rfl)
def K6(id:Nat)(ops:Array Oper)(d:Bool):jc (.region id ops d)=id:=(rfl)
def VZ(a b:Code):jc (.seq a b)=jc a:=(rfl)
def Nw(id:Nat)(b:Code):jc (.block id b)=jc b:=(rfl)
def V0(h:bh):rL h []=some ([],h):=(rfl)
def QN(h:bh)(v:V)(r:List V):rL h (v::r)=match qs h v with
  |some (v',h1)=>match rL h1 r with
   |some (r',h2)=>some (v'::r',h2)
   |none=>none
  |none=>none:=(rfl)
def aai(cs:List V):(V.agg cs).PH=cs.all V.oU:=(rfl)
def ajv(n:Nat)(m:Mask)(v:V):vh n m v=vf (fun i j c=>match mS n m i j with
 |some (q,_)=>match c with
  | .sl _ es=> .cx q 0 es.length
  |_=> .bad
 |none=>c) v:=(rfl)
def V1(F:Nat->Nat->V->V)(vs:List V):vf F (.dP vs)= .dP (rJ (fun i v=>uE (F i) v) 0 vs):=(rfl)
def aaj(F:Nat->Nat->V->V)(vs:List V):vf F (.agg vs)= .agg (rJ (F 0) 0 vs):=(rfl)
def ajw(F:Nat->Nat->V->V)(c:Bool)(es:List V):vf F (.sl c es)=F 0 0 (.sl c es):=(rfl)
def aak(F:Nat->Nat->V->V)(i s l:Nat):vf F (.cx i s l)=F 0 0 (.cx i s l):=(rfl)
def V2(F:Nat->V->V)(vs:List V):uE F (.agg vs)= .agg (rJ F 0 vs):=(rfl)
def ajx(F:Nat->V->V)(c:Bool)(es:List V):uE F (.sl c es)=F 0 (.sl c es):=(rfl)
def aal(F:Nat->V->V)(i s l:Nat):uE F (.cx i s l)=F 0 (.cx i s l):=(rfl)
def aam(F:Nat->V->V)(k:IntKind)(n:Int):uE F (.int k n)=F 0 (.int k n):=(rfl)
def V3(F:Nat->V->V)(b:Bool):uE F (.bool b)=F 0 (.bool b):=(rfl)
def aan(F:Nat->V->V)(n:Nat):rJ F n []=[]:=(rfl)
def V4(F:Nat->V->V)(n:Nat)(c:V)(cs:List V):rJ F n (c::cs)=F n c::rJ F (n+1) cs:=(rfl)
def QO(n i j:Nat):mS n [] i j=none:=(rfl)
def Nx(n i j a b:Nat)(t:TypeId)(r:Mask):mS n ((a,b,t)::r) i j=if a=i/\b=j then some (n,t) else mS (n+1) r i j:=(rfl)
def QP(vs:List V)(i j:Nat):(V.dP vs).cellAt i j=(vs.getD i .bad).cells.getD j .bad:=(rfl)
def QQ(vs:List V)(i j:Nat):(V.agg vs).cellAt i j=if i=0 then vs.getD j .bad else .bad:=(rfl)
def V5(c:Bool)(es:List V)(i j:Nat):(V.sl c es).cellAt i j=if i=0 then [V.sl c es].getD j .bad else .bad:=(rfl)
def QR(a b c i j:Nat):(V.cx a b c).cellAt i j=if i=0 then [V.cx a b c].getD j .bad else .bad:=(rfl)
def ajy(X:Env)(h:bh)(v:V)(m:Mask):Mi X h v m=Bs X h (gr h (iF v m)) v m:=(rfl)
def ajz(X:Env)(h hx:bh)(v:V)(m:Mask):Bs X h hx v m=if(vg (iF v m)&&m.all (fun q=>(rowAt X h hx q.2.2 (v.cellAt q.1 q.2.1)).isSome))=true then some (vf (mI X h hx m) v) else none:=(rfl)
def QS(X:Env)(g:FuncId)(k:Nat)(R:V):l9 X g k R=xV X (X.fZ g) R 1 (X.fl g) (aR (fun _=>none) 0 (some ⟨k,[vh 1 (X.fl g) R],true⟩)):=(rfl)
def aao(X:Env)(M:Mask)(v:V)(h:bh):yg X M v h=match h 0 with
 |some oE=>
  match oE.es with
  | [e']=>if oE.eU then
    match Mi X (aR h 0 none) (qE e' v) M with
    |some (.dP (r::rs))=>some (oE.k,r,rs)
    |_=>none
   else none
  |_=>none
 |none=>none:=(rfl)
def V6(e:V)(vs:List V):qE e (.dP vs)= .dP (e::vs):=(rfl)
def V7(e:V)(vs:List V):qE e (.agg vs)= .dP [e,.agg vs]:=(rfl)
def V8(e:V)(k:IntKind)(n:Int):qE e (.int k n)= .dP [e,.int k n]:=(rfl)
def aap(e:V)(c:Bool)(es:List V):qE e (.sl c es)= .dP [e,.sl c es]:=(rfl)
def V9(e:V)(i s l:Nat):qE e (.cx i s l)= .dP [e,.cx i s l]:=(rfl)
def JB(a vs:List V):yf (.dP a) vs= .dP vs:=(rfl)
def QT(v:V)(vs:List V):E8 (.dP (v::vs))=v:=(rfl)
def QU(v:V)(vs:List V):Td (.dP (v::vs))=vs:=(rfl)
def Wa(X:Env)(bZ:FuncId)(dst:Option Nat)(g:FuncId):rT X bZ dst g=X.fl g++(dst.elim [] (X.mask bZ)).map fun q=>(q.1+1,q.2.1,q.2.2):=(rfl)
def QV(v:V)(m:Mask):iF v m=m.map fun q=>(v.cellAt q.1 q.2.1).src:=(rfl)
def QW(X:Env)(h hx:bh)(m:Mask)(i j:Nat)(c:V):mI X h hx m i j c=match mS 0 m i j with
 |some (_,t)=>match rowAt X h hx t c with
  |some es=> .sl false es
  |none=> .bad
 |none=>match cy hx depth c with
  |some c'=>c'.lP
  |none=> .bad:=(rfl)
def Wb(X:Env)(h hx:bh)(t:TypeId):rowAt X h hx t (.sl true [])=some []:=(rfl)
def Wc(X:Env)(h hx:bh)(t:TypeId)(id s l:Nat):rowAt X h hx t (.cx id s l)=match h id with
  |some ob=>if ob.k=(X.ti t).size/\s+l<=ob.es.length then match cF (((ob.es.drop s).take l).map (cy hx depth)) with
    |some es=>some (eV es)
    |none=>none
   else none
  |none=>none:=(rfl)
def aj0(i s l:Nat):(V.cx i s l).src=some i:=(rfl)
def asy(c:Bool)(es:List V):(V.sl c es).src=none:=(rfl)
def Gr.az1(S:St)(N:Norm)(hx:bh)(loc:Loc)(new k:Nat)(eU:Bool):(⟨loc,new,k,eU⟩:Gr).ob S N hx=PL S N hx k eU (loc.val S):=(rfl)
def aaq(S:St)(N:Norm)(hx:bh)(k:Nat)(eU:Bool):PL S N hx k eU (.sl true [])=some ⟨k,[],eU⟩:=(rfl)
def aar(S:St)(N:Norm)(hx:bh)(k:Nat)(eU:Bool)(id s l:Nat):PL S N hx k eU (.cx id s l)=Fa S N hx id (S.h id):=(rfl)
def aas(S:St)(N:Norm)(hx:bh)(k:Nat)(eU:Bool)(id:Nat):PL S N hx k eU (.ptr id 0 0)=Fa S N hx id (S.h id):=(rfl)
def QX:vg []=true:=(rfl)
def Ny(a:Option Nat)(r:List (Option Nat)):vg (a::r)=(r.all (differ a)&&vg r):=(rfl)
def Nz(a b:Nat):differ (some a) (some b)=(a !=b):=(rfl)
def NA(b:Option Nat):differ none b=true:=(rfl)
def K7(b:Option Nat):differ b none=true:=by cases b<;>rfl
attribute [simp ↓] Na Vw ZI Nb Vx ZJ KU Qs Vy yC F6 ajf ajg asr ass ajh ZM ast ZL VJ ZR ZS QI ZT VK ajm VL F8 ZU VM KY VN ZV Nr Ix VO Iy Iz VP VQ Ns KZ K1 K2 Ep IA
attribute [simp ↓] TB
attribute [simp] Qz QA VC QB ZO ZP ajk ZQ QF VG TB Qt Ng KW Qw Vz Qv ZK VA aji VE ajj
attribute [simp] V.xU.eq_1 V.xU.eq_2 V.xU.eq_3 V.Mf.eq_1 V.Mf.eq_2 V.scalar.eq_1 V.scalar.eq_2 V.ye.eq_1 V.ye.eq_2 V.leaf.eq_1 V.leaf.eq_2 V.leaf.eq_3 V.leaf.eq_4 V.leaf.eq_5 V.leaf.eq_6 cy.eq_1 cy.eq_2 cy.eq_3 cy.eq_4 cy.eq_5 cy.eq_6 cy.eq_7 cy.eq_8 cy.eq_9 cy.eq_10 cy.eq_11 eV.eq_1 eV.eq_2 V.lP.eq_1 V.lP.eq_2 V.lP.eq_3 V.lP.eq_4 asv.eq_1 asw.eq_1 depth.eq_1
attribute [simp] ZZ Z0 VR ajo Z1 VS Z2 Z3 Z4 ajp Z5 VT Z6 ajq ajr Z7 Z8 Z9 VU ajs aaa aab QK Gr.az1 aaq aar aas QX Ny Nz NA K7 Norm.run.eq_1 Norm.tq.eq_1 aac VV fixF.eq_1 fixF.eq_2 PM.eq_1 PM.eq_2 PK.eq_1 Bu.eq_1 Bu.eq_2 aad aae ajt VW aju aaf aag aah VX Nt K3 Nu Nv K4 K5 VY QL QM K6 VZ Nw V0 QN aai ajv xV.eq_1 xV.eq_2 Bt.eq_1 V1 aaj ajw aak V2 ajx aal aam V3 aan V4 QO Nx QP QQ V5 QR ajy ajz QS aao V6 V7 V8 aap V9 JB QT QU Wa QV QW Wb Wc aj0 asy VD
attribute [simp] ajd QC QD asx ZX az0 ZY
attribute [simp 700] Qu Nc QE Np
attribute [simp 500] Nh Qx Nf
end Go.Abs
