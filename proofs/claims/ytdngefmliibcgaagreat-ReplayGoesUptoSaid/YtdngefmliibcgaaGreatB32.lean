import Derived.Test.YtdngefmliibcgaaGreatB31
set_option linter.all false
set_option maxRecDepth 20000
set_option maxHeartbeats 0
namespace Go.Abs
open Go
variable  {u:Value}{want k:Bool}{α β:Type}
def Z3{X:Env}{cR:FuncId}{o:Oper}{t:Operand->V}{h0 h1:bI}{n0 n:Nat}{v:V}(h:dm X cR o t h0 n0=some (v,h1,n)):n=n0\/n=n0+1:=by
 unfold dm at h;dsimp (zeta:=true) only at h;repeat' split at h
 all_goals first
  |(cases h;done)
  |(simp only[aS,cy]at h;exact .inl h.2.2.symm)
  |(simp only[aS,cy]at h;exact .inr h.2.2.symm)
  |(obtain⟨_,_,_,_,_,_,_,W⟩:=u9 h;omega)
section
variable {w w1 w2 w':World} {I I1 I2 I':Nat->Prop} {σ σ1 σ2 σ':jI} {h h1 h2 h':bI} {n n1 n2 n' p m m':Nat}
theorem Step.join(s:Step w I σ h n w1 I1 σ1 h1 n1)(s':Step w1 I1 σ1 h1 p w2 I2 σ2 h2 n2)(hp:n<=p)(hn:n1<=n2):Step w I σ h n w2 I2 σ2 h2 n2 where
 ext:=s.ext.trans s'.ext
 rel:=s'.rel
 os:=s'.os.trans s.os
 tape:=s'.tape.trans s.tape
 output:=s'.output.trans s.output
 size:=r4 s.size s'.size
 frame:=fun b hb ho=>(s'.frame b (va hb s.size) (fun hx=>by
  rcases s.own b hx with hx|hx
  .omega
  grind)).trans (s.frame b hb ho)
 own:=fun b hb=>by
  rcases s'.own b hb with hx|hx
  .exact .inl (r4 s.size hx)
  .exact s.own b hx
 xg:=fun b hb=>by
  rcases s'.xg b hb with hx|hx|hx
  .exact s.xg b hx
  .exact p4
  .exact .inr (s.own b hx)
 le:=r4 s.le hn
 sigs:=fun id fv=>by
  rw[s'.sigs id ab,s.sigs id ab]
 news:=fun id fv hz=>by
  exact s'.news id ab (s.news id ab hz)
theorem Step.Ug(s:Step w I σ h n w' I' σ' h' n')(O:m<=n)(U:n'<=m'):Step w I σ h m w' I' σ' h' m':=
 {s with
  le:=by have:=s.le;omega
  sigs:=fun id f=>s.sigs id ab
  news:=fun id f z=>s.news id ab z}
theorem iT.append{cs d:List V}{us vs:List Value}(h:iT w I σ cs us)(v:iT w I σ d vs):iT w I σ (cs++d) (us++vs):=by
 induction cs generalizing us with
 |nil=>subst h;grind
 |cons c cs i=>
  obtain⟨u,r,rfl,h1,K⟩:=h;exact⟨u,r++vs,rfl,h1,i K⟩
end
def xm(X:Env)(g:FuncId):Prop:= ∃fn b,X.P.funcs[g]?=some fn/\fn.body=some b/\(fn.name== "runtime.NumGoroutine")=false
def VW{X:Env}{g:FuncId}(S:xm X g)(args:Array Value)(w:World):(callFunc g args).run X.P w= .ok (.enter g args) w:=by
 obtain⟨fn,b,f,e,h⟩:=S;simp only[beq_eq_false_iff_ne,ne_eq]at h;simp[callFunc,f,e,h]
def X5(S:St)(m:Nat):({S with n:=m}:St).ev=S.ev:=by
 funext x;cases x<;>rfl
section
variable {X:Env} {C:jv} {cR:FuncId} {n0 j nt:Nat} {o:Oper} {S S1:St} {w:World} {I:Nat->Prop} {σ:jI} {a:Act}
def Left(o:Oper)(a:Act)(w:World)(I:Nat->Prop)(σ:jI)(S S1:St)(n0 j:Nat)(d:Act)(w':World):Prop:=
 ∃u v I' σ',d=a.put o.dst u/\dX w' I' σ' v u/\S1.f=(S.set o.dst v).f/\Step w I σ S.h n0 w' I' σ' S1.h S1.n/\S.n<=S1.n/\mf σ' S1.h S1.n/\
  (∀q,q≠j->n0+q<S.n->S.h (n0+q)=none->σ (n0+q)=none->S1.h (n0+q)=none/\σ' (n0+q)=none)
theorem N4 (hC:sb X C) (hb:v9 X) (aq: ∀cR dst g args S S1,iv X C cR dst g args S=some S1->xm X g) (B:VE X nt o=true) (D:fD X C cR n0 j o S=some S1)
  (R:Rel w I σ S.h) (F:jO w I σ S.f a) (fr:mf σ S.h S.n) (Z:S.h (n0+j)=none) (E:σ (n0+j)=none) (iS:n0+j<S.n) (Q:Exit->Act->World->Prop):
  o.wp X.P a w (Left o a w I σ S S1 n0 j) Q:=by
 have op:(∀x args W,o.op≠ .call ⟨.value x,args,W⟩)->o.wp X.P a w (Left o a w I σ S S1 n0 j) Q:=by
  intro kK;unfold fD at D;split at D
  .grind
  .split at D
   case h_2=>grind
   rename_i p h0 A m;simp only[aS]at D;subst D;have hr:=Z3 m;have au:zs X cR o {S with n:=n0+j}=some (({S with h:=h0,n:=A}:St).set o.dst p):=by
    unfold zs;rw[X5,m]
   obtain⟨aw,w',I',σ',u,v,O,L,k,N,s⟩:=Ts (S:={S with n:=n0+j}) B R F Z E cR au;rw[fw,ik]at k;have K:Left o a w I σ S (({S with h:=h0}:St).set o.dst p) n0 j (a.put o.dst u) w':=by
    refine⟨u,v,I',σ',rfl,s,?_,?_,by rw[ik];grind,?_,fun q J l h1 M=>⟨?_,?_⟩⟩
    .have e1:(({S with h:=h0,n:=A}:St).set o.dst p).f=(({S with h:=h0}:St).set o.dst p).f:=by cases o.dst<;>rfl
     have e2:(({S with n:=n0+j}:St).set o.dst v).f=(S.set o.dst v).f:=by cases o.dst<;>rfl
     grind
    .rw[fw,ik];exact k.Ug ai aj
    .intro id U;rw[ik]at U;have:=fr id U;rw[fw];refine⟨k.news id aj this.1,?_⟩;rw[k.sigs id aj];grind
    .rw[fw];exact k.news (n0+q) aj h1
    .rw[k.sigs (n0+q) aj];omega
   unfold Oper.wp;rw[O];rcases L with rfl|⟨rfl,rfl⟩
   .exact K
   .exact K
 by_cases m: ∃x args W,o.op= .call ⟨.value x,args,W⟩
 .obtain⟨x,args,W,f⟩:=m;unfold fD at D;simp only[f]at D;have P:oN o:=by
   unfold VE at B;rw[X8,X8]at B;exact fun x T=>List.all_eq_true.1 B.1.2 x T
  split at D
  case h_2=>grind
  rename_i g first Lp hx
  have Y:=aq _ _ _ _ _ _ D;have r:dX w I σ (S.ev x) (a.eval x):=fu (S:=S) F (P x fS);rw[hx]at r;obtain⟨z,vs,H,h1,M⟩:=r;have d:iT w I σ (args.toList.map S.ev) (args.map a.eval).toList:=by
   rw[mZ];refine⟨ai,fun i c u m b=> ?_⟩;rw[tm]at m;rw[y2,Do]at b;cases t:args[i]? with
   |none=>grind
   |some y=>
    rw[y2,t]at m;rw[t]at b;simp at m b;subst m;subst b;exact fu (S:=S) F (P y (by
     have:=Array.mem_of_getElem? t;simp[f,Op.operands,Call.operands,this]))
  have G:iT w I σ (first++args.toList.map S.ev++Lp) (z++args.map a.eval++vs).toList:=by
   simp only[Array.toList_append];exact(h1.append d).append M
  have O:(execOp a.eval o).run X.P w= .ok (.enter g (z++args.map a.eval++vs)) w:=by
   simp only[execOp,f,resolve,H,Deferred.ofValue];simp[invoke,VW Y]
  unfold Oper.wp;rw[O];refine Calls.mono (Z2 hC hb D R fr _ G) fun e w' V=> ?_;obtain⟨u,v,I',σ',rfl,k,N,s⟩:=V;refine⟨u,v,I',σ',rfl,s,N,k.Ug ab (iX _),k.le,k.fresh fr,fun q J l h1 M=>⟨k.news _ (.inl l) h1,?_⟩⟩;rw[k.sigs _ (.inl l)];omega
 grind
end
section
variable {X:Env} {C:jv} {cR:FuncId} {n0 nt:Nat} {ops:Array Oper}
theorem CU(a:Act)(d:Option Nat)(u:Value):(a.put d u).tmps.size=a.tmps.size:=by cases d<;>simp[Act.put]
theorem put_defers(a:Act)(d:Option Nat)(u:Value):(a.put d u).defers=a.defers:=fe
theorem jO.zq {w:World} {I:Nat->Prop} {σ:jI} {S S1:St} {a:Act} (F:jO w I σ S.f a) {v:V}  (h:dX w I σ v u) (d:Option Nat) (x: ∀t,d=some t->t<a.tmps.size)
  (f:S1.f=(S.set d v).f):jO w I σ S1.f (a.put d u):=by
 rw[f];cases d with
 |none=>exact F
 |some t=>exact F.put h t (x t rfl)
theorem Ui{o:Oper}(h:VE X nt o=true): ∀t,o.dst=some t->t<nt:=by
 intro t S;unfold VE at h
 grind
theorem Hd{w:World}{I:Nat->Prop}{σ:jI}{S:St}{a:Act}(F:jO w I σ S.f a){o:Oper}{j d:Nat}(g:o.guard=some (j,want))(z:(ops.toList.map (·.dst))[j]?=some (some d)):
  (∀b,S.f d= .bool b->Region.wanted o (yielded ops a.tmps)=(b==want))/\(S.f d= .ed []->Region.wanted o (yielded ops a.tmps)=false):=by
 have q:(ops[j]?).bind (·.dst)=some d:=by
  rw[tm,y2]at z;cases f:ops[j]? with
  |none=>grind
  |some x=>grind
 have h:=F d;refine⟨fun b e=> ?_,fun e=> ?_⟩
 .rw[e]at h;have v:a.tmps.getD d undef= .bool b:=b0
  have t:a.tmps[d]?=some (.bool b):=by
   rw[uD]at v;cases hx:a.tmps[d]? with
   |none=>simp[hx,undef]at v
   |some y=>grind
  simp only[Region.wanted,g,yielded,q,zG,t]
  grind
 .rw[e]at h;obtain⟨s,u,C⟩:=h;have Z: ∀b,a.tmps[d]?≠some (.bool b):=by
   intro b hx;rw[uD,hx]at u;simp at u
  simp only[Region.wanted,g,yielded,q,zG]
  grind
theorem Ks{w:World}{I:Nat->Prop}{σ:jI}:dX w I σ (.ed []) undef:=by
 exact⟨#[],rfl,rfl⟩
theorem LI(r:sb X C)(J:v9 X)(W: ∀cR dst g args S S1,iv X C cR dst g args S=some S1->xm X g)(i: ∀o∈ops.toList,VE X nt o=true){Q:Exit->Act->World->Prop}{S1:St}:
  ∀(l:List Oper) (k:Nat) (S:St) (a:Act) (w:World) (I:Nat->Prop) (σ:jI),l=ops.toList.drop k->gZ X C cR (ops.toList.map (·.dst)) n0 k l S=some S1->Rel w I σ S.h->jO w I σ S.f a->mf σ S.h S.n->nt<=a.tmps.size->
   a.defers=[]->n0+ops.size<=S.n->(∀q,k<=q->q<ops.size->S.h (n0+q)=none/\σ (n0+q)=none)->
   (∀a' w' I' σ',S.n<=S1.n->Step w I σ S.h n0 w' I' σ' S1.h S1.n->jO w' I' σ' S1.f a'->mf σ' S1.h S1.n->nt<=a'.tmps.size->a'.defers=[]->Q .normal a' w')->
   wpOps X.P ops Q (List.range' k (ops.size-k)) a w
 | [],k,S,a,w,I,σ,G,e,R,F,fr,s,L,f,y,D=>by
  have z:ops.size-k=0:=by
   have:=congrArg List.length G;simp at this;omega
  rw[z];simp only[gZ,aS]at e;subst e;exact D a w I σ (iX _) ((Step.refl R n0).Ug (iX _) ab) F fr s L
 |o::l,k,S,a,w,I,σ,G,e,R,F,fr,s,L,f,y,D=>by
  have z:k<ops.size:=by
   have:=congrArg List.length G;simp at this;omega
  have b:ops[k]?=some o:=by
   have:=congrArg (fun l=>l[0]?) G;simp only[D_,ux,xt]at this;rw[<-Array.getElem?_toList];exact this.symm
  have Y:l=ops.toList.drop (k+1):=by
   have:=congrArg List.tail G;exact ns
  have B:VE X nt o=true:=i o aj;have m: ∀t,o.dst=some t->t<a.tmps.size:=fun t c=>va (Ui B t c) s;rw[show ops.size-k=(ops.size-(k+1))+1 from ab,List.range'_succ];simp only[wpOps,b];have run: ∀{T:St},fD X C cR n0 k o S=some T->gZ X C cR (ops.toList.map (·.dst)) n0 (k+1) l T=some S1->
    o.wp X.P a w (wpOps X.P ops Q (List.range' (k+1) (ops.size-(k+1)))) Q:=by
   intro T h1 K;refine Oper.wp_mono (fun a' w' hh=> ?_) (N4 r J W B h1 R F fr (y k (iX _) z).1 (y k (iX _) z).2 ab Q);obtain⟨u,v,I',σ',rfl,P,hf,H,hx,M,hi⟩:=hh;refine LI r J W i l (k+1) T _ w' I' σ' Y K H.rel ((F.ext H.ext).zq P o.dst m hf) M gQ ej ab (fun q h1 K=>hi q ab ab (y q ab K).1 (y q ab K).2) (fun a' O E x U N h Z n A=> ?_);exact D a' O E x ab (H.join N (iX _) U) h Z n A
  have skip:gZ X C cR (ops.toList.map (·.dst)) n0 (k+1) l (S.set o.dst (.ed []))=some S1->wpOps X.P ops Q (List.range' (k+1) (ops.size-(k+1))) (a.put o.dst undef) w:=by
   intro K;refine LI r J W i l (k+1) _ _ w I σ Y K (by rw[fw];exact R) (F.zq Ks o.dst m rfl) d0 gQ ej gO (fun q h1 K=>by rw[fw];grind) (fun a' O E x U N h Z n A=> ?_);rw[fw]at N;rw[ik]at U;exact D a' O E x U N h Z n A
  simp only[gZ]at e;split at e
  .rename_i V;have hc:Region.wanted o (yielded ops a.tmps)=true:=by simp[Region.wanted,V]
   grind
  .rename_i j p V;split at e
   case h_2=>grind
   rename_i d A;have hb:=Hd F V A
   grind
end
def zN{f g:α->β}{l:List α}(h: ∀x∈l,f x=g x):l.map f=l.map g:=w5 h
def si{X:Env}{cR:FuncId}{o:Oper}{v u:Operand->V}(h: ∀x∈o.op.operands.toList,v x=u x)(h0:bI)(n0:Nat):dm X cR o v h0 n0=dm X cR o u h0 n0:=by
 obtain⟨dst,op,ty,pos,after,guard⟩:=o;have a: ∀ps:Array (Nat×Operand),(∀x∈ps.toList.map (·.2),v x=u x)->(ps.toList.map fun p=>(p.1,v p.2))=ps.toList.map fun p=>(p.1,u p.2):=fun ps z=>
  w5 fun p O=>aj
 have r: ∀q:Option Operand,(∀x,q=some x->v x=u x)->q.map v=q.map u:=fun q w=>by
  cases q with
  |none=>rfl
  |some x=>grind
 cases op with
 |build t ps=>
  have:=a ps gW;simp only[dm,this]
 |buildSlice t n ps=>
  have:=a ps gW;simp only[dm,this]
 |makeFunc c p q=>
  cases c with
  |func g=>
   have h1:p.toList.map v=p.toList.map u:=zN fun x hx=>h x gf;have K:q.toList.map v=q.toList.map u:=zN fun x hx=>h x gf;simp only[dm,h1,K]
  |_=>simp only[dm]
 |slice t x l k j=>
  have hx:v x=u x:=h x (by simp[Op.operands]);have h1:=r l (fun y G=>h y (by simp[Op.operands,G]));have K:=r k (fun y G=>h y (by simp[Op.operands,G]));cases j with
  |none=>
   simp only[dm,hx,h1,K]
   grind
  |some m=>
   have S:v m=u m:=h m (by simp[Op.operands]);simp only[dm,hx,h1,K,S];cases u x with
   |cX id s n=>grind
   |ptr id i f=>grind
   |_=>rfl
 |call c=>
  obtain⟨VS,args,d⟩:=c;have W:args.toList.map v=args.toList.map u:=zN fun x hx=>h x (by simp[Op.operands,Call.operands]at hx⊢;grind);cases VS with
  |builtin b=>cases b<;>simp only[dm,W]
  |_=>simp only[dm]
 |_=>first
  |(simp only[dm];done)
  |(simp only[Op.operands,B_,CT,or_false,forall_eq_or_imp,forall_eq]at h;simp only[dm,h])
def Kt{h h':bI}{v U:V}(g:pQ h v=some (U,h')): ∀id,h id=none->h' id=none:=by
 intro id f;unfold pQ at g;split at g
 .split at g
  .split at g
   .simp only[aS,cy]at g;rw[<-g.2];grind [bB]
   grind
  grind
 grind
def Ku: ∀{cs s:List V} {h h':bI},eY h cs=some (s,h')-> ∀id,h id=none->h' id=none
 | [],s,h,h',g,id,f=>by
  simp only[eY,aS,cy]at g
  grind
 |c::cs,s,h,h',g,id,f=>by
  simp only[eY]at g;split at g
  .rename_i h1;split at g
   .rename_i K;simp only[aS,cy]at g;rw[<-g.2];exact Ku K id (Kt h1 id f)
   grind
  grind
def He{h h':bI}{v U:V}(g:re h v=some (U,h')): ∀id,h id=none->h' id=none:=by
 unfold re at g;split at g
 .split at g
  .rename_i h1;simp only[aS,cy]at g;rw[<-g.2];exact Ku h1
  grind
 .exact Kt g
def DV: ∀{ps z:List (Nat×V)} {h h':bI},mV h ps=some (z,h')-> ∀id,h id=none->h' id=none
 | [],z,h,h',g,id,f=>by
  simp only[mV,aS,cy]at g
  grind
 |(i,v)::ps,z,h,h',g,id,f=>by
  simp only[mV]at g;split at g
  .rename_i h1;split at g
   .rename_i K;simp only[aS,cy]at g;rw[<-g.2];exact DV K id (He h1 id f)
   grind
  grind
def Z6{h h':bI}{x v:V}(g:(if k=true then some (x,h) else re h x)=some (v,h')): ∀id,h id=none->h' id=none:=by
 intro id f;split at g
 .grind
 .exact He g id f
def N5{X:Env}{cR:FuncId}{o:Oper}{t:Operand->V}{h0 h1:bI}{n0 n:Nat}{v:V}(h:dm X cR o t h0 n0=some (v,h1,n)): ∀id,id≠n0->h0 id=none->h1 id=none:=by
 intro id K f;have u: ∀(a:bI) ob,a id=none->bB a n0 (some ob) id=none:=fun a ob z=>aV
 have k: ∀(a:bI) i,a id=none->bB a i none id=none:=fun a i z=>aV
 have s: ∀(a:bI) i (ob po:Ob),a i=some po->a id=none->bB a i (some ob) id=none:=fun a i ob po h1 z=>aV
 unfold dm at h;dsimp (zeta:=true) only at h;repeat' split at h
 all_goals first
  |(cases h;done)
  |(
   obtain⟨_,rfl,_⟩:=h;first
    |exact f
    |exact u _ _ f
    |exact k _ _ f
    |exact u _ _ (k _ _ f)
    |exact u _ _ (DV ab id f)
    |exact DV ab id f
    |exact s _ _ _ _ fH f
    |exact s _ _ _ _ ab (Z6 ab id f))
  |(obtain⟨_,_,_,_,_,_,rfl,_⟩:=u9 h;grind)
def pY(h G:bI):bI:=fun i=>match G i with|some ob=>some ob|none=>h i
def vZ(h G:bI)(n:Nat):Prop:= ∀i,G i≠none->h i=none/\i<n
def pZ(X:Env)(C:jv):Prop:= ∀g args h k v h' k' G,X.low g=false->vZ h G k->C g args h k=some (v,h',k')->C g args (pY h G) k=some (v,pY h' G,k')
def sj(X:Env)(C:jv):Prop:= ∀g args h k v h' k',C g args h k=some (v,h',k')->Nd X g k<=k'/\ ∀id,id<Nd X g k->h id=none->h' id=none
def isConst:Operand->Bool
 | .const _=>true
 |_=>false
def N6(v:Value):(∀i s l,yc v≠ .cX i s l):=by
 intro i s l e;unfold yc at e
 grind
def ED{v U:V}{h h1:bI}(j: ∀i s l,v≠ .cX i s l)(g:pQ h v=some (U,h1)):h1=h/\ ∀h',pQ h' v=some (U,h'):=by
 unfold pQ at g⊢
 grind
def EE: ∀{cs n:List V} {h h1:bI},(∀c∈cs,∀i s l,c≠ .cX i s l)->eY h cs=some (n,h1)->h1=h/\ ∀h',eY h' cs=some (n,h')
 | [],n,h,h1,_,g=>by
  obtain⟨rfl,rfl⟩:=g;exact⟨rfl,fun h'=>rfl⟩
 |c::cs,n,h,h1,v,g=>by
  simp only[eY]at g;split at g
  case h_2=>grind
  rename_i c' K m;obtain⟨rfl,j⟩:=ED (v c (t5 ..)) m;split at g
  case h_2=>grind
  rename_i J S B;obtain⟨rfl,e⟩:=EE (fun x hx=>v x (u' _ hx)) B;obtain⟨rfl,rfl⟩:=g;exact⟨rfl,fun h'=>by simp only[eY,j,e]⟩
def Rc{v:V}{h h1:bI}(g:re h (xe u)=some (v,h1)):h1=h/\ ∀h',re h' (xe u)=some (v,h'):=by
 by_cases a: ∃cs,u= .agg cs
 .obtain⟨cs,rfl⟩:=a;have e:xe (.agg cs)= .agg (cs.toList.map yc):=rfl;rw[e]at g⊢;simp only[re]at g;split at g
  case h_2=>grind
  rename_i o K G;obtain⟨rfl,p⟩:=EE (fun c m i s l e=>by
   obtain⟨x,_,rfl⟩:=List.mem_map.1 m;exact N6 x i s l e) G
  obtain⟨rfl,rfl⟩:=g;exact⟨rfl,fun h'=>by simp only[re,p]⟩
 .have e:xe u=yc u:=by cases u<;>first|rfl|grind
  have n: ∀cs,yc u≠ .agg cs:=by
   intro cs e;unfold yc at e;split at e<;>cases e
  have Z: ∀h,re h (yc u)=pQ h (yc u):=fun h=>by
   unfold re
   grind
  rw[e]at g⊢;rw[Z]at g;obtain⟨h1,K⟩:=ED (N6 u) g
  grind
def EF{t:Operand->V}(S: ∀v,t (.const v)=xe v): ∀{ps:List (Nat×Operand)} {z:List (Nat×V)} {h h1:bI},ps.all (fun p=>isConst p.2)=true->mV h (ps.map fun p=>(p.1,t p.2))=some (z,h1)->h1=h/\ ∀h',mV h' (ps.map fun p=>(p.1,t p.2))=some (z,h')
 | [],z,h,h1,_,g=>by
  obtain⟨rfl,rfl⟩:=g;exact⟨rfl,fun h'=>rfl⟩
 |(i,x)::ps,z,h,h1,a,g=>by
  simp only[vA,X8]at a;simp only[r2,mV]at g;cases x with
  |const u=>
   rw[S]at g;split at g
   case h_2=>grind
   rename_i c' K c;obtain⟨rfl,j⟩:=Rc c;split at g
   case h_2=>grind
   rename_i s T B;obtain⟨rfl,e⟩:=EF S a.2 B;obtain⟨rfl,rfl⟩:=g;exact⟨rfl,fun h'=>by simp only[r2,mV,S,j,e]⟩
  |_=>exact absurd a.1 (by simp[isConst])
def cls(X:Env)(cR:FuncId)(o:Oper):Nat:=
 match o.op with
 | .move _| .assign _| .pick .. | .build .. | .nilCheck _| .binOp .. | .unOp .. | .makeFunc .. | .fieldAddr .. | .index .. | .field .. | .extract .. =>0
 | .convert _ d _=>if(X.ti d).isStr=true then 1 else if(X.ti d).kind.isSome=true then 0 else 2
 | .call ⟨.builtin .len,_,_⟩| .call ⟨.builtin .min,_,_⟩| .call ⟨.builtin .max,_,_⟩=>0
 | .load .. | .indexAddr .. =>1
 | .slice t .. =>if(X.ti t).arr.isSome=true then 3 else 1
 | .call ⟨.value (.func g),args,_⟩=>if(X.clone g).isNone&& !X.ja g&& !X.iu g&& (o.dst.elim [] (X.mask cR)).isEmpty&& !o.dst.any (X.pz cR) then(if args.isEmpty then 0 else 1) else 3
 | .alloc _| .box .. | .makeSlice .. =>2
 | .buildSlice t _ ps=>if X.fV cR (X.ti t).elem then 2 else if o.dst.any (X.flat cR) then 0 else if ps.isEmpty then(if o.dst.any (X.pz cR) then 2 else 0) else if ps.toList.all (fun p=>isConst p.2)&& !o.dst.any (X.pz cR) then 0 else 3
 |_=>3
def Sub(h h':bI):Prop:= ∀id ob,h id=some ob->h' id=some ob
section
variable {X:Env} {cR:FuncId} {o:Oper} {ρ:Operand->V} {h h1:bI} {n n1:Nat} {v:V}
theorem core0(S: ∀v,ρ (.const v)=xe v)(r:cls X cR o=0)(e:dm X cR o ρ h n=some (v,h1,n1)):h1=h/\ ∀h' n',dm X cR o ρ h' n'=some (v,h',n'):=by
 obtain⟨dst,op,ty,pos,after,guard⟩:=o;cases op with
 |call c=>
  obtain⟨VS,args,W⟩:=c;cases VS with
  |value x=>simp[dm]at e
  |builtin b=>
   cases b with
   |len|min|max=>
    unfold dm at e⊢;dsimp only at e⊢;repeat' split at e
    all_goals grind
   |_=>simp[cls]at r
  |_=>simp[dm]at e
 |makeFunc c p q=>
  cases c<;>simp only[dm,aS,cy,reduceCtorEq]at e;obtain⟨rfl,rfl,rfl⟩:=e;exact⟨rfl,fun h' n'=>by simp only[dm]⟩
 |convert i u C=>
  simp only[cls]at r;split at r
  .omega
  split at r
  case isFalse=>omega
  rename_i d;simp only[dm]at e⊢;split at e
  .grind
  .grind
  grind
 |move|assign|pick|build|nilCheck|binOp|unOp|fieldAddr|index|field|extract=>
  unfold dm at e⊢;dsimp only at e⊢;repeat' split at e
  all_goals grind
 |buildSlice t m ps=>
  simp only[cls]at r;split at r
  .omega
  .rename_i k;by_cases y:dst.any (X.flat cR)=true
   .simp only[dm,k,r3,if_false,y,if_true]at e⊢;split at e
    case h_2=>grind
    rename_i l K g;split at e
    case h_2=>grind
    grind
   rw[if_neg y]at r;split at r
   .rename_i s;split at r
    .omega
    .rename_i F;have D:ps.toList=[]:=by simpa using s
     simp only[dm,k,y,r3,if_false,D,r_,mV,rE,F,aS,cy]at e;obtain⟨rfl,rfl,rfl⟩:=e;exact⟨rfl,fun h' n'=>by simp only[dm,k,y,r3,if_false,D,r_,mV,rE,F]⟩
   .split at r
    case isFalse=>omega
    rename_i Q;simp only[X8,sG]at Q;simp only[dm,k,y,r3,if_false]at e⊢;split at e
    case h_2=>grind
    rename_i l K g;obtain⟨rfl,z⟩:=EF S Q.1 g
    grind
 |slice t x G w j=>simp only[cls]at r;grind
 |_=>simp[cls]at r
theorem Z8(p:cls X cR o=1)(Y: ∀x args mW,o.op≠ .call ⟨.value x,args,mW⟩)(e:dm X cR o ρ h n=some (v,h1,n1)):h1=h/\ ∀h' n',Sub h h'->dm X cR o ρ h' n'=some (v,h',n'):=by
 obtain⟨dst,op,ty,pos,after,guard⟩:=o;cases op with
 |call c=>
  obtain⟨VS,args,mW⟩:=c;cases VS with
  |value x=>exact absurd rfl (Y x args mW)
  |builtin b=>cases b<;>simp[cls]at p
  |_=>simp[dm]at e
 |slice t x G E j=>
  simp only[dm]at e;split at e
  case isFalse=>cases e
  rename_i q;cases hx:ρ x with
  |sl c es=>
   simp only[hx]at e;cases j with
   |none=>
    simp only at e;repeat' split at e
    all_goals first
     |(cases e;done)
     |(
      simp only[aS,cy]at e;obtain⟨rfl,rfl,rfl⟩:=e;refine⟨rfl,fun h' n' K=> ?_⟩;simp only[dm];rw[if_pos q];clear q;first
       |(simp only[*,if_true];done)
       |(simp_all only[if_true];done)
       |(simp_all;done))
   |some m=>
    simp only at e;repeat' split at e
    all_goals first
     |(cases e;done)
     |(
      simp only[aS,cy]at e;obtain⟨rfl,rfl,rfl⟩:=e;refine⟨rfl,fun h' n' K=> ?_⟩;simp only[dm];rw[if_pos q];clear q;first
       |(simp only[*,if_true];done)
       |(simp_all only[if_true];done)
       |(simp_all;done))
  |cX id s m=>
   simp only[hx]at e;cases g:h id with
   |none=>cases j<;>simp[g]at e
   |some ob=>
   cases j with
   |none=>
    simp only[g]at e;repeat' split at e
    all_goals first
     |(cases e;done)
     |(
      simp only[aS,cy]at e;obtain⟨rfl,rfl,rfl⟩:=e;refine⟨rfl,fun h' n' K=> ?_⟩;have U:=K _ _ g;simp only[dm];rw[if_pos q];clear q g;first
       |(simp only[*,if_true];done)
       |(simp_all only[if_true];done)
       |(simp_all;done))
   |some y=>
    simp only[g]at e;repeat' split at e
    all_goals first
     |(cases e;done)
     |(
      simp only[aS,cy]at e;obtain⟨rfl,rfl,rfl⟩:=e;refine⟨rfl,fun h' n' K=> ?_⟩;have U:=K _ _ g;simp only[dm];rw[if_pos q];clear q g;first
       |(simp only[*,if_true];done)
       |(simp_all only[if_true];done)
       |(simp_all;done))
  |str s=>
   simp only[hx]at e;cases j with
   |none=>
    simp only at e;split at e
    .rename_i A;simp only[aS,cy]at e;obtain⟨rfl,rfl,rfl⟩:=e;refine⟨rfl,fun h' n' K=> ?_⟩;simp only[dm];rw[if_pos q];simp only[hx,A]
    .cases e
   |some m=>cases e
  |ptr id i f=>
   exfalso;have:=q.2;rw[hx]at this;simp only[V.CH]at this;simp[cls,<-this]at p
  |_=>simp[hx]at e
 |convert D r C=>
  simp only[cls]at p;split at p
  case isFalse=>split at p<;>cases p
  rename_i w;simp only[dm]at e⊢;cases z:(X.ti r).kind with
  |some k=>
   simp only[z]at e⊢;cases hx:ρ C<;>simp only[hx]at e⊢ <;>first|(cases e;done)|skip
   simp only[aS,cy]at e;obtain⟨rfl,rfl,rfl⟩:=e;exact⟨rfl,fun _ _ _=>rfl⟩
  |none=>
   simp only[z]at e⊢;split at e
   case isFalse=>exact absurd (u9 e).1 (by simp[w])
   rename_i B;split at e
   case h_2=>cases e
   rename_i es T u;split at e
   case h_2=>cases e
   rename_i Z W;simp only[aS,cy]at e;obtain⟨rfl,rfl,rfl⟩:=e;refine⟨rfl,fun h' n' K=> ?_⟩;have a:elems h' (ρ C)=some (es,T):=by
    cases hx:ρ C with
    |cX id s l=>
     rw[hx]at u;cases g:h id with
     |none=>simp[elems,g]at u
     |some ob=>simp only[elems,g]at u⊢;simp only[K _ _ g];exact u
    |_=>rw[hx]at u;exact u
   rw[if_pos B];simp only[a,W]
 |load|indexAddr=>
  unfold dm at e⊢;dsimp only at e⊢;repeat' split at e
  all_goals first
   |(cases e;done)
   |(
    simp only[aS,cy]at e;obtain⟨rfl,rfl,rfl⟩:=e;refine⟨rfl,fun h' n' K=> ?_⟩;first
     |(simp only[*,if_true];done)
     |(simp only[*,K _ _ fH,if_true];done)
     |(simp[*];done)
     |(simp[*,K _ _ fH];done))
 |buildSlice t m ps=>
  simp only[cls]at p;split at p
  .cases p
  .split at p
   .cases p
   split at p
   .split at p<;>cases p
   .split at p<;>cases p
 |_=>simp[cls]at p
theorem HT(r:cls X cR o=2)(e:dm X cR o ρ h n=some (v,h1,n1)): ∃ob,h1=bB h n (some ob)/\ ∀h',dm X cR o ρ h' n=some (v,bB h' n (some ob),n+1):=by
 obtain⟨dst,op,ty,pos,after,guard⟩:=o;cases op with
 |call c=>
  obtain⟨VS,args,W⟩:=c;cases VS with
  |value x=>simp[dm]at e
  |builtin b=>cases b<;>simp[cls]at r
  |_=>simp[dm]at e
 |alloc t=>
  obtain⟨rfl,rfl,rfl⟩:=e;exact⟨_,rfl,fun h'=>rfl⟩
 |box t x=>
  simp only[dm]at e;split at e
  .rename_i f;obtain⟨rfl,rfl,rfl⟩:=e;exact⟨_,rfl,fun h'=>by simp only[dm,f,if_true]⟩
  grind
 |makeSlice t l c=>
  simp only[dm]at e;split at e
  .rename_i p q G B;split at e
   .rename_i A;obtain⟨rfl,rfl,rfl⟩:=e;exact⟨_,rfl,fun h'=>by simp only[dm,G,B];grind⟩
   grind
  grind
 |buildSlice t m ps=>
  simp only[cls]at r;split at r
  .rename_i k;simp only[dm,k,if_true]at e;split at e
   .rename_i es f;obtain⟨rfl,rfl,rfl⟩:=e;exact⟨_,rfl,fun h'=>by simp only[dm,k,if_true,f]⟩
   grind
  .rename_i k;split at r
   .omega
   rename_i y;split at r
   .rename_i s;split at r
    .rename_i F;have D:ps.toList=[]:=by simpa using s
     simp only[dm,k,y,r3,if_false,D,r_,mV,rE,F,if_true,aS,cy]at e;obtain⟨rfl,rfl,rfl⟩:=e;exact⟨_,rfl,fun h'=>by simp only[dm,k,y,r3,if_false,D,r_,mV,rE,F,if_true]⟩
    omega
   grind
 |slice t x I z j=>simp only[cls]at r;grind
 |convert i u C=>
  simp only[cls]at r;split at r
  .omega
  rename_i w;split at r
  .omega
  rename_i d;have k:(X.ti u).kind=none:=by simpa using d
  have N:(X.ti u).isStr=false:=by simpa using w
  simp only[dm,k,N,r3,false_and,if_false]at e⊢;obtain⟨_,Y,g,H,G,rfl,rfl,rfl⟩:=u9 e;exact⟨_,rfl,fun h'=>by simp[H,Np,Y,G]⟩
 |_=>simp[cls]at r
theorem VX{h':bI}(K:Sub h h'): ∀{d:Nat} {v U:V},da h d v=some U->da h' d v=some U:=by
 intro d;induction d with
 |zero=>
  intro v U t;cases v with
  |fn g a b=>cases a<;>cases b<;>simp_all [da]
  |_=>first|(simp[da]at t;done)|(simpa[da] using t)
 |succ d j=>
  have key: ∀{cs l:List V},di (cs.map (da h d))=some l->di (cs.map (da h' d))=some l:=by
   intro cs;induction cs with
   |nil=>grind
   |cons c cs i=>
    intro l G;simp only[r2]at G⊢;cases m:da h d c with
    |none=>simp[m,di]at G
    |some c'=>
     simp only[m,di]at G;split at G
     .rename_i C B;simp only[di,j m,i B];omega
     grind
  intro v U t;cases v with
  |agg cs=>
   obtain⟨l,rfl,G⟩:=tw t;rw[da]
   grind
  |ed cs=>
   obtain⟨l,rfl,G⟩:=AI t;rw[da]
   grind
  |cX id s l=>
   rw[da]at t⊢;split at t
   .rename_i ob X;rw[K _ _ X]
    grind
   grind
  |fn g a b=>cases a<;>cases b<;>simp_all [da]
  |_=>first|(simp[da]at t;done)|(simpa[da] using t)
theorem zO{h':bI}(s:Sub h h'){d:Nat}: ∀{l r:List V},di (l.map (da h d))=some r->di (l.map (da h' d))=some r
 | [],_,G=>G
 |c::cs,r,G=>by
  simp only[r2]at G⊢;cases m:da h d c with
  |none=>simp[m,di]at G
  |some c'=>
   simp only[m,di]at G;split at G
   .rename_i C B;simp only[di,VX s m,zO s B];omega
   grind
end
section
variable {X:Env} {C:jv} {cR:FuncId} {dst:Option Nat} {g:FuncId} {args:List V} {S S1:St}
theorem S3(D:wG X C cR dst g args S=some S1): ∃v,S1=({S with h:=S1.h,n:=S1.n}:St).set dst v/\
  ∀j:St,j.h=S.h->j.n=S.n->wG X C cR dst g args j=some (({j with h:=S1.h,n:=S1.n}:St).set dst v):=by
 unfold wG at D⊢;have W: ∀(S:St) v,(S.set dst v).n=S.n:=fun S v=>ik S dst v;have a: ∀(S:St) v,(S.set dst v).h=S.h:=fun S v=>fw S dst v;split at D
 case h_2=>grind
 split at D
 case h_2=>grind
 rename_i ob w;split at D
 case h_2=>grind
 rename_i e Z;split at D
 case isFalse=>grind
 rename_i k;split at D
 case h_2=>grind
 rename_i R G;split at D
 case h_2=>grind
 rename_i bxb h1 T;split at D
 case h_2=>grind
 rename_i v h n c;split at D
 case h_2=>grind
 grind
theorem Z9(e:np X C cR dst g args S=some S1): ∃v,S1=({S with h:=S1.h,n:=S1.n}:St).set dst v/\
  ∀j:St,j.h=S.h->j.n=S.n->np X C cR dst g args j=some (({j with h:=S1.h,n:=S1.n}:St).set dst v):=by
 unfold np at e⊢;have W: ∀(S:St) v,(S.set dst v).n=S.n:=fun S v=>ik S dst v;have a: ∀(S:St) v,(S.set dst v).h=S.h:=fun S v=>fw S dst v;split at e
 case h_2=>grind
 grind
theorem aaa(e:iv X C cR dst g args S=some S1): ∃v,S1=({S with h:=S1.h,n:=S1.n}:St).set dst v/\
  ∀j:St,j.h=S.h->j.n=S.n->iv X C cR dst g args j=some (({j with h:=S1.h,n:=S1.n}:St).set dst v):=by
 unfold iv at e⊢;have W: ∀(S:St) v,(S.set dst v).n=S.n:=fun S v=>ik S dst v;have a: ∀(S:St) v,(S.set dst v).h=S.h:=fun S v=>fw S dst v;split at e
 .split at e
  case h_2=>grind
  split at e
  case h_2=>grind
  rename_i es k u;split at e
  .grind
  rename_i U;simp only[aS]at e;subst e;refine⟨_,by rw[a,W];rfl,fun j h1 K=> ?_⟩;simp only[h1,u];rw[if_neg U];simp only[St.new,h1,K,a,W]
 .split at e
  .grind
  rename_i b;split at e
  .rename_i E;obtain⟨v,i,p⟩:=S3 e
   grind
  rename_i E;split at e
  .rename_i J;obtain⟨v,i,p⟩:=Z9 e
   grind
  .rename_i J;split at e
   case h_2=>grind
   rename_i bxb s;split at e
   .grind
   .rename_i F;split at e
    case h_2=>grind
    rename_i v h n c;split at e
    case h_2=>grind
    rename_i V N;split at e
    .grind
    rename_i U;simp only[aS]at e;subst e;refine⟨V.l6,bu,fun j h1 K=> ?_⟩;simp only[b,E,J,r3,if_false,h1,s,F,c,N,a,W];rw[if_neg U,<-h1,<-K]
theorem VY(hp:((X.clone g).isNone&& !X.ja g&& !X.iu g&& (dst.elim [] (X.mask cR)).isEmpty&& !dst.any (X.pz cR))=true)(e:iv X C cR dst g args S=some S1): ∃v,S1=S.set dst v/\
  ∀S':St,Sub S.h S'.h->iv X C cR dst g args S'=some (S'.set dst v):=by
 simp only[X8,sG,Option.isNone_iff_eq_none]at hp;obtain⟨⟨⟨⟨q,b⟩,E⟩,J⟩,F⟩:=hp;unfold iv at e⊢;simp only[q,b,E,F,J,yr,xI,r3,if_false]at e⊢;split at e
 case h_2=>grind
 rename_i bxb a;split at e
 case h_2=>grind
 rename_i v h n c;split at e
 case h_2=>grind
 rename_i U N;split at e
 .grind
 rename_i V;simp only[aS]at e;subst e;refine⟨U.l6,rfl,fun S' s=> ?_⟩;simp only[zO s a,c,N]
 grind
end
def VZ{X:Env}{C:jv}{cR:FuncId}{dst:Option Nat}{g:FuncId}{S S1:St}(hp:((X.clone g).isNone&& !X.ja g&& !X.iu g&& (dst.elim [] (X.mask cR)).isEmpty&& !dst.any (X.pz cR))=true)(h:iv X C cR dst g [] S=some S1): ∃v,S1=S.set dst v/\
  ∀S':St,iv X C cR dst g [] S'=some (S'.set dst v):=by
 simp only[X8,sG,Option.isNone_iff_eq_none]at hp;obtain⟨⟨⟨⟨q,b⟩,E⟩,J⟩,n⟩:=hp;unfold iv at h⊢;simp only[q,b,E,n,J,yr,xI,r3,if_false,r_,di]at h⊢
 grind
section
variable {X:Env} {C:jv} {cR:FuncId} {n0 j:Nat} {o:Oper} {S S1:St}
def Alike(o:Oper)(S j:St):Prop:= ∀x∈o.op.operands.toList,j.ev x=S.ev x
theorem qw(k: ∀x args mW,o.op≠ .call ⟨.value x,args,mW⟩):fD X C cR n0 j o S=(match dm X cR o S.ev S.h (n0+j) with
  |some (v,h,_)=>some (({S with h:=h}:St).set o.dst v)
  |none=>none):=by
 unfold fD
 grind
theorem a0m(c:cls X cR o=0)(e:fD X C cR n0 j o S=some S1): ∃v,S1=S.set o.dst v/\ ∀S',Alike o S S'->fD X C cR n0 j o S'=some (S'.set o.dst v):=by
 by_cases r: ∃x args W,o.op= .call ⟨.value x,args,W⟩
 .obtain⟨x,args,W,f⟩:=r;simp only[cls,f]at c;cases x with
  |func g=>
   simp only at c;split at c
   .rename_i p;split at c
    .rename_i w;have E:args.toList=[]:=by simpa using w
     have D: ∀S:St,S.ev (.func g)= .fn g [] []:=fun _=>rfl;unfold fD at e;simp only[f,D,E,r_,u_]at e;obtain⟨v,h1,K⟩:=VZ p e;refine⟨v,h1,fun S' a=> ?_⟩;unfold fD
     grind
    omega
   omega
  |_=>grind
 have k: ∀x args W,o.op≠ .call ⟨.value x,args,W⟩:=fun x args W f=>r ⟨x,args,W,f⟩;rw[qw k]at e;split at e
 case h_2=>grind
 rename_i v h m D;simp only[aS]at e;subst e;obtain⟨rfl,K⟩:=core0 (fun _=>rfl) c D;refine⟨v,rfl,fun S' a=> ?_⟩;rw[qw k,si a,K]
theorem a0n(c:cls X cR o=1)(e:fD X C cR n0 j o S=some S1): ∃v,S1=S.set o.dst v/\ ∀S',Alike o S S'->Sub S.h S'.h->fD X C cR n0 j o S'=some (S'.set o.dst v):=by
 by_cases r: ∃x args W,o.op= .call ⟨.value x,args,W⟩
 .obtain⟨x,args,W,f⟩:=r;simp only[cls,f]at c;cases x with
  |func g=>
   simp only at c;split at c
   .rename_i p;split at c
    .omega
    have D: ∀S:St,S.ev (.func g)= .fn g [] []:=fun _=>rfl;unfold fD at e;simp only[f,D]at e;obtain⟨v,h1,K⟩:=VY p e;refine⟨v,h1,fun S' a s=> ?_⟩;have i:args.toList.map S'.ev=args.toList.map S.ev:=zN fun x hx=>a x d9;unfold fD
    grind
   omega
  |_=>grind
 .have k: ∀x args W,o.op≠ .call ⟨.value x,args,W⟩:=fun x args W f=>r ⟨x,args,W,f⟩;rw[qw k]at e;split at e
  case h_2=>grind
  rename_i v h m D;simp only[aS]at e;subst e;obtain⟨rfl,K⟩:=Z8 c k D;refine⟨v,rfl,fun S' a s=> ?_⟩;rw[qw k,si a,K _ _ s]
theorem a0o(c:cls X cR o=2)(e:fD X C cR n0 j o S=some S1): ∃v ob,S1=({S with h:=bB S.h (n0+j) (some ob)}:St).set o.dst v/\
  ∀k,Alike o S k->fD X C cR n0 j o k=some (({k with h:=bB k.h (n0+j) (some ob)}:St).set o.dst v):=by
 have K: ∀x args W,o.op≠ .call ⟨.value x,args,W⟩:=by
  intro x args W f;simp only[cls,f]at c;cases x with
  |func g=>
   grind
  |_=>grind
 rw[qw K]at e;split at e
 case h_2=>grind
 rename_i v h m D;simp only[aS]at e;subst e;obtain⟨ob,rfl,L⟩:=HT c D;refine⟨v,ob,rfl,fun k a=> ?_⟩;rw[qw K,si a,L]
theorem a0p(e:fD X C cR n0 j o S=some S1): ∃v,S1=({S with h:=S1.h,n:=S1.n}:St).set o.dst v/\
  ∀k,Alike o S k->k.h=S.h->k.n=S.n->fD X C cR n0 j o k=some (({k with h:=S1.h,n:=S1.n}:St).set o.dst v):=by
 by_cases r: ∃x args W,o.op= .call ⟨.value x,args,W⟩
 .obtain⟨x,args,W,f⟩:=r;unfold fD at e;simp only[f]at e;split at e
  case h_2=>grind
  rename_i g first Lp hx
  obtain⟨v,h1,L⟩:=aaa e;refine⟨v,h1,fun k a b Y=> ?_⟩;have i:args.toList.map k.ev=args.toList.map S.ev:=zN fun x hx=>a x d9;have s:k.ev x= .fn g first Lp:=by rw[<-hx];exact a x fS
  unfold fD
  grind
 .have K: ∀x args W,o.op≠ .call ⟨.value x,args,W⟩:=fun x args W f=>r ⟨x,args,W,f⟩;rw[qw K]at e;split at e
  case h_2=>grind
  rename_i v h m D;simp only[aS]at e;subst e;refine⟨v,by rw[fw,ik],fun k a b Y=> ?_⟩;rw[qw K,si a,b,D,fw,ik,<-Y]
end
end Go.Abs
