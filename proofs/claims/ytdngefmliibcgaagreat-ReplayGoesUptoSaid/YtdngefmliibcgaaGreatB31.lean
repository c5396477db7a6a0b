import Derived.Test.YtdngefmliibcgaaGreatB30
set_option linter.all false
set_option maxRecDepth 20000
set_option maxHeartbeats 0
namespace Go.Abs
open Go
variable  {X:Env}{g cR:FuncId}{C:jv}{bxb args es Bj cs:List V}{v v' e e' R':V}{us:List Value}{u:Value}{S S1:St}
def mf(σ:jI)(h:bI)(n:Nat):Prop:= ∀id,n<=id->h id=none/\σ id=none
def kC:bI:=fun _=>none
structure wK (m:Nat) (w:World) (I:Nat->Prop) (σ:jI) (h:bI) (w':World) (I':Nat->Prop) (σ':jI) (h':bI):Prop where
 Nx: ∀b,I b->w'.heap[b]?=w.heap[b]?
 grow: ∀(b:Nat) c el fz,w.heap[b]?=some (Obj.cells c el fz)-> ∃c' fz',w'.heap[b]?=some (Obj.cells c' el fz')/\c'.size=c.size
 imp: ∀b,I b->I' b
 rel:Rel w' I' σ' h'
 os:w'.os=w.os
 tape:w'.tape=w.tape
 output:w'.output=w.output
 size:w.heap.size<=w'.heap.size
 frame: ∀b,b<w.heap.size-> ¬ju σ h b->w'.heap[b]?=w.heap[b]?
 own: ∀b,ju σ' h' b->w.heap.size<=b\/ju σ h b
 xg: ∀b,I' b->I b\/w.heap.size<=b\/ju σ h b
 sigs: ∀id,id<m->σ' id=σ id
 news: ∀id,id<m->h id=none->h' id=none
section
variable {w w1 w2 w':World} {I I1 I2 I':Nat->Prop} {σ σ1 σ2 σ':jI} {h h1 h2 h':bI} {n n' m:Nat}
theorem Step.FA(s:Step w I σ h n w' I' σ' h' n')(O:m<=n):wK m w I σ h w' I' σ' h':=
 ⟨s.ext.Nx,s.ext.grow,s.ext.imp,s.rel,s.os,s.tape,s.output,s.size,s.frame,s.own,s.xg,fun id f=>s.sigs id (.inl ab),fun id f=>s.news id (.inl ab)⟩
theorem wK.refl(R:Rel w I σ h)(m:Nat):wK m w I σ h w I σ h:=(Step.refl R m).FA (iX _)
theorem wK.trans(s:wK m w I σ h w1 I1 σ1 h1)(s':wK m w1 I1 σ1 h1 w2 I2 σ2 h2):wK m w I σ h w2 I2 σ2 h2 where
 Nx:=fun b hb=>(s'.Nx b (s.imp b hb)).trans (s.Nx b hb)
 grow:=fun b c el fz hb=>by
  obtain⟨c1,fz1,h1,e1⟩:=s.grow b c el fz hb;obtain⟨c2,fz2,h2,e2⟩:=s'.grow b c1 el fz1 h1
  grind
 imp:=fun b hb=>s'.imp b (s.imp b hb)
 rel:=s'.rel
 os:=s'.os.trans s.os
 tape:=s'.tape.trans s.tape
 output:=s'.output.trans s.output
 size:=r4 s.size s'.size
 frame:=fun b hb ho=>(s'.frame b (va hb s.size) (fun hx=>by
  rcases s.own b hx with hx|hx
  .omega
  grind)).trans (s.frame b hb ho)
 own:=fun b hb=>by
  rcases s'.own b hb with hx|hx
  .exact .inl (r4 s.size hx)
  .exact s.own b hx
 xg:=fun b hb=>by
  rcases s'.xg b hb with hx|hx|hx
  .exact s.xg b hx
  .exact p4
  .exact .inr (s.own b hx)
 sigs:=fun id fv=>(s'.sigs id fv).trans (s.sigs id fv)
 news:=fun id fv hz=>s'.news id fv (s.news id fv hz)
theorem wK.step(s:wK n w I σ h w' I' σ' h')(F:mf σ h n)(F':mf σ' h' n')(hn:n<=n'):Step w I σ h n w' I' σ' h' n' where
 ext:=⟨s.Nx,s.grow,s.imp,fun id x hx=>by
  by_cases fv:id<n
  .rw[s.sigs id fv];omega
  .rw[(F id ab).2]at hx;grind⟩
 rel:=s.rel
 os:=s.os
 tape:=s.tape
 output:=s.output
 size:=s.size
 frame:=s.frame
 own:=s.own
 xg:=s.xg
 le:=hn
 sigs:=fun id fv=>by
  rcases fv with fv|fv
  .exact s.sigs id fv
  .rw[(F id ab).2,(F' id fv).2]
 news:=fun id fv hz=>by
  rcases fv with fv|fv
  .exact s.news id fv hz
  .exact(F' id fv).1
end
def wK.less{w w':World}{I I':Nat->Prop}{σ σ':jI}{h h':bI}{m J:Nat}(s:wK m w I σ h w' I' σ' h')(O:J<=m):wK J w I σ h w' I' σ' h':=
 {s with sigs:=fun id f=>s.sigs id ab,news:=fun id f=>s.news id ab}
def Nd(X:Env)(g:FuncId)(k:Nat):Nat:=if X.low g=true then min (if X.iu g=true then 1 else 0) k else k
def ZK(X:Env)(g:FuncId):Nd X g 0=0:=gE
def ZL(X:Env)(g:FuncId)(k:Nat):Nd X g k<=k:=gE
def zJ(h:X.low g=false)(k:Nat):Nd X g k=k:=gE
def sb(X:Env)(C:jv):Prop:= ∀g args h k v h' k',C g args h k=some (v,h',k')-> ∀w I σ (s:Array Value),Rel w I σ h->mf σ h k->iT w I σ args s.toList->
 Calls X.P g s w fun e w'=> ∃u I' σ',e= .returned u/\Nd X g k<=k'/\wK (Nd X g k) w I σ h w' I' σ' h'/\mf σ' h' k'/\dX w' I' σ' v u
def G5(X:Env):Prop:= ∀g p,X.pO g=some p-> ∀C,sb X C-> ∀args v,p.run C args=some v-> ∀w I (s:Array Value),Rel w I fJ kC->iT w I fJ args s.toList->
 Calls X.P g s w fun e w'=> ∃u I',e= .returned u/\Step w I fJ kC 0 w' I' fJ kC 0/\dX w' I' fJ v u
def Calls.pO(q:sb X C)(P:G5 X){h:bI}{n:Nat}(c:qK X C g bxb=some (v,h,n)){w:World}{I:Nat->Prop}{us:Array Value}(R:Rel w I fJ kC)(r:iT w I fJ bxb us.toList):
  Calls X.P g us w fun e w'=> ∃u I' σ',e= .returned u/\Step w I fJ kC 0 w' I' σ' h n/\dX w' I' σ' v u:=by
 unfold qK at c;split at c
 .rename_i G o;split at c
  case h_2=>grind
  rename_i U i;simp only[aS,cy]at c;obtain⟨rfl,rfl,rfl⟩:=c;refine(P g G o C q bxb U i w I us R r).mono fun e w' a=> ?_;obtain⟨u,I',rfl,st,m⟩:=a;exact⟨u,I',fJ,rfl,st,m⟩
 .refine(q g bxb kC 0 v h n c w I fJ us R (fun _ _=>⟨rfl,rfl⟩) r).mono fun e w' a=> ?_;obtain⟨u,I',σ',rfl,l,L,p,m⟩:=a;rw[ZK]at l L;exact⟨u,I',σ',rfl,L.step (fun _ _=>⟨rfl,rfl⟩) p l,m⟩
def v9(X:Env):Prop:=G5 X/\ ∀g t,X.clone g=some t-> ∀w I σ h n s u es k p,Rel w I σ h->h n=none->σ n=none->dX w I σ s u->elems h s=some (es,k)->s.isStr=false->(k=true->p=true)->
 (∀v∈es,v.cells.length=(X.ti (X.ti t).elem).size)->es.length*(X.ti (X.ti t).elem).bytes<=2^47->es.length<=2^62->
 Calls X.P g #[u] w fun e w'=> ∃r σ',e= .returned r/\Step w I σ h n w' I σ' (bB h n (some ⟨(X.ti (X.ti t).elem).size,es,p⟩)) (n+1)/\dX w' I σ' (.cX n 0 es.length) r
section
variable {w w':World} {I I' Ic Ic' J:Nat->Prop} {σ σ' σc:jI} {h hc:bI} {n k k':Nat}
theorem Step.fresh{h':bI}{n':Nat}(s:Step w I σ h n w' I' σ' h' n')(F:mf σ h n):mf σ' h' n':=fun id v=>by
 have:=s.le;have f:=F id ab;exact⟨s.news id (.inr v) f.1,by rw[s.sigs id (.inr v)];grind⟩
theorem Rel.kC(m: ∀b,I b->b<w.heap.size)(G:Lt w I):Rel w I fJ kC:=
 ⟨m,(fun _ _ h=>bF),(fun _ _ _ _ _ _ _ _ _ h=>bF),G⟩
theorem sc{b:Nat}: ¬ju fJ kC b:=fun⟨_,_,_,_,h,_⟩=>bF
theorem Rel.mB(R:Rel w I σ h){b:Nat}(e:ju σ h b):b<w.heap.size:=by
 obtain⟨_,c,el,a⟩:=R.owned e;exact a.lt
theorem Step.inner(R:Rel w I σ h)(s:Step w Ic fJ kC k w' Ic' σc hc k')(h1: ∀b,I b->Ic b)(K: ∀b,I b->I' b)(S: ∀b,I' b->I b\/(w.heap.size<=b/\b<w'.heap.size))(n:Nat):Step w I σ h n w' I' σ h n:=by
 have E:Ext w I σ w' I' σ:=⟨fun b e=>s.ext.Nx b (h1 b e),s.ext.grow,K,fun _ _ a=>a⟩;refine⟨E,R.eP E (fun b e=> ?_) (fun b e=>⟨s.frame b (R.mB e) sc,fun i=> ?_⟩) (fun _ _=>rfl),s.os,s.tape,s.output,s.size,fun b e _=>s.frame b e sc,fun b e=> .inr e,fun b e=> ?_,iX _,fun _ _=>rfl,fun _ _ W=>W⟩
 .rcases S b e with e|e
  .exact va (R.eA b e) s.size
  omega
 .rcases S b i with i|i
  .exact(R.owned e).1 i
  .have:=R.mB e;omega
 grind
theorem NS{D w:World}{t I:Nat->Prop}{j r:jI}(h:v.leaf=true)(C:dX D t j v u):dX w I r v u:=by
 cases v<;>simp_all [V.leaf,dX]
theorem Kp{D w:World}{t I:Nat->Prop}{k r:jI}(i:v.zA=true)(C:dX D t k v u):dX w I r v u:=by
 cases v with
 |agg cs=>
  obtain⟨s,rfl,h⟩:=C;refine⟨s,rfl,?_⟩;rw[ez]at h⊢;refine⟨h.1,fun j c N z a=>⟨(h.2 j c N z a).1,NS ?_ (h.2 j c N z a).2⟩⟩;exact mx
 |_=>exact NS i C
theorem Q6{D w:World}{t I:Nat->Prop}{k r:jI}(i:v.scalar=true)(C:dX D t k v u):dX w I r v u:=by
 cases v with
 |ed cs=>
  obtain⟨s,rfl,h⟩:=C;refine⟨s,rfl,?_⟩;rw[mZ]at h⊢;refine⟨h.1,fun j c N z a=>Kp ?_ (h.2 j c N z a)⟩;exact mx
 |_=>exact Kp i C
theorem ZM{d:Nat}(o:v.No=false)(t:da h d v=some v')(n: ∀cs,v≠ .agg cs)(F: ∀cs,v≠ .ed cs)(r:dX w I σ v u):dX w I fJ v' u:=by
 have i:v.pP=true/\v'=v:=by
  cases v with
  |agg cs=>grind
  |ed cs=>grind
  |cX _ _ _=>simp[V.No]at o
  |fn g a b=>cases a<;>cases b<;>cases d<;>simp_all [da,V.pP]
  |_=>cases d<;>simp_all [da,V.pP]
 rw[i.2];exact vf i.1 r
theorem ZN{d:Nat}(o:v.zi=false)(t:da h d v=some v')(r:dX w I σ v u):dX w I fJ v' u:=by
 cases v with
 |ed cs=>simp[V.zi]at o
 |agg cs=>
  cases d with
  |zero=>simp[da]at t
  |succ d=>
   obtain⟨l,rfl,G⟩:=tw t;obtain⟨h1,K⟩:=lU _ G;obtain⟨s,rfl,c⟩:=r;refine⟨s,rfl,?_⟩;rw[ez]at c⊢;refine⟨ab,fun j c' O B N=> ?_⟩;have q:j<cs.length:=ew
   have z:cs[j]?=some cs[j]:=rk q;have J:=c.2 j _ O z N;have x:cs[j].No=false:=by
    simp only[V.zi,List.any_eq_false]at o;simpa using o cs[j] (rx q)
   refine⟨J.1,ZM x (K j _ _ z B) (fun n e=> ?_) (fun n e=> ?_) J.2⟩
   .exact n7
   .exact n7
 |cX _ _ _=>simp[V.zi,V.No]at o
 |_=>exact ZM (by simpa[V.zi] using o) t aj aj r
theorem CR {d:Nat}   (t:di (args.map (da h d))=some bxb) (r:iT w I σ args us)
  (f: ∀v v' u,v∈args->da h d v=some v'->dX w I σ v u->dX w J fJ v' u):iT w J fJ bxb us:=by
 obtain⟨h1,K⟩:=lU _ t;rw[mZ]at r⊢;refine⟨ab,fun j c' O B N=> ?_⟩;have q:j<args.length:=ew
 have z:args[j]?=some args[j]:=rk q
 grind
theorem Step.pz(R:Rel w I σ h)(F:mf σ h n)(s:Step w I fJ kC n w' I' σc hc k'):
  Step w I σ h n w' I' (fun id=>if id<n then σ id else σc id) (fun id=>if id<n then h id else hc id) k'/\Ext w' I' σc w' I' (fun id=>if id<n then σ id else σc id):=by
 have m: ∀id,id<n->σc id=none/\hc id=none:=fun id f=>⟨by rw[s.sigs id (.inl f)];rfl,s.news id (.inl f) rfl⟩;have Z:Ext w' I' σc w' I' (fun id=>if id<n then σ id else σc id):=by
  refine⟨fun _ _=>rfl,fun _ c _ fz a=>⟨c,fz,a,rfl⟩,fun _ a=>a,fun id x hx=> ?_⟩;by_cases f:id<n
  .grind
  .grind
 have E:Ext w I σ w' I' (fun id=>if id<n then σ id else σc id):=by
  refine⟨s.ext.Nx,s.ext.grow,s.ext.imp,fun id x hx=> ?_⟩;by_cases f:id<n
  .grind
  .rw[(F id ab).2]at hx;grind
 have G: ∀b,ju σc hc b->w.heap.size<=b:=fun b g=>by
  rcases s.own b g with a|a
  .omega
  .exact absurd a sc
 refine⟨⟨E,⟨s.rel.eA,fun id ob e=> ?_,fun id rY ob po b o k o' k' e z K y=> ?_,s.rel.BV⟩,s.os,s.tape,s.output,s.size,fun b g _=>s.frame b g sc,fun b g=> ?_,fun b g=> ?_,s.le,fun id f=> ?_,fun id f W=> ?_⟩,Z⟩
 .by_cases f:id<n
  .simp only[f,if_true]at e;rcases R.obj id ob e with⟨C,M⟩|⟨b,o,c,el,q,j,a,l,r⟩
   .exact n6
   .have i:ju σ h b:=⟨id,ob,o,ob.k,e,q⟩;have u:=s.frame b (R.mB i) sc;refine .inr ⟨b,o,c,el,aj,fun d=> ?_,a.same u,l,r.oM (E.r8 _) u⟩;rcases s.xg b d with hx|hx|hx
    .grind
    .have:=R.mB i;omega
    .exact sc hx
  .simp only[f,if_false]at e;rcases s.rel.obj id ob e with⟨C,M⟩|⟨b,o,c,el,q,j,a,l,r⟩
   .exact n6
   .exact .inr ⟨b,o,c,el,aj,j,a,l,r.oM (Z.r8 _) rfl⟩
 .by_cases f:id<n<;>by_cases A:rY<n<;>simp only[f,A,if_true,if_false]at e z K y
  .exact R.apart id rY ob po b o k o' k' e z K y
  .have h1:=R.mB ⟨id,ob,o,k,e,K⟩;have L:=G b ⟨rY,po,o',k',z,y⟩;omega
  .have h1:=R.mB ⟨rY,po,o',k',z,y⟩;have L:=G b ⟨id,ob,o,k,e,K⟩;omega
  .exact s.rel.apart id rY ob po b o k o' k' e z K y
 .obtain⟨id,ob,o,k,e,K⟩:=g;by_cases f:id<n<;>simp only[f,if_true,if_false]at e K
  .exact .inr ⟨id,ob,o,k,e,K⟩
  .exact .inl (G b ⟨id,ob,o,k,e,K⟩)
 .rcases s.xg b g with hx|hx|hx
  .grind
  .omega
  .exact absurd hx sc
 .have:=s.le;rcases f with f|f
  .grind
  .have W: ¬id<n:=ab
   exact p0
 .have:=s.le;rcases f with f|f
  .grind
  .have Q: ¬id<n:=ab
   simp only[Q,if_false];exact s.news id (.inr f) rfl
theorem LH{w:World}{t I:Nat->Prop}{σ:jI}(h:v.TU=true)(r:dX w t σ v u):dX w I σ v u:=by
 cases v with
 |sl c es=>
  simp only[V.TU,List.isEmpty_iff]at h;subst h;simp only[dX]at r⊢
  grind
 |fn g a b=>
  cases a with
  |cons x y=>simp[V.TU]at h
  |nil=>
   cases b with
   |cons x y=>simp[V.TU]at h
   |nil=>simp_all only[dX,iT]
 |agg cs=>simp[V.TU]at h
 |ed cs=>simp[V.TU]at h
 |ref cs=>simp[V.TU]at h
 |bad=>simp[dX]
 |_=>exact r
theorem Uc{w:World}{t I:Nat->Prop}{σ:jI}(i:v.Nq=true)(r:dX w t σ v u):dX w I σ v u:=by
 cases v with
 |agg cs=>
  obtain⟨s,rfl,h⟩:=r;refine⟨s,rfl,?_⟩;rw[ez]at h⊢;refine⟨h.1,fun j c N z a=>⟨(h.2 j c N z a).1,LH ?_ (h.2 j c N z a).2⟩⟩;exact mx
 |_=>exact LH i r
theorem Ti{w:World}{t I:Nat->Prop}{σ:jI}(i:v.pu=true)(r:dX w t σ v u):dX w I σ v u:=by
 cases v with
 |ed cs=>
  obtain⟨s,rfl,h⟩:=r;refine⟨s,rfl,?_⟩;rw[mZ]at h⊢;refine⟨h.1,fun j c N z a=>Uc ?_ (h.2 j c N z a)⟩;exact mx
 |_=>exact Uc i r
theorem Te{w:World}{t I:Nat->Prop}{σ:jI}{k b o:Nat}(v:es.all V.Nq=true)(r:ey w t σ es k b o):ey w I σ es k b o:=by
 rw[l7]at r⊢;intro i e l;obtain⟨h1,K⟩:=r i e l;refine⟨h1,fun j c h=> ?_⟩;obtain⟨u,x,D,g⟩:=K j c h;refine⟨u,x,D,LH ?_ g⟩;have C:e.Nq=true:=List.all_eq_true.1 v e (t6 l);cases e with
 |agg cs=>exact List.all_eq_true.1 C c (t6 h)
 |_=>
  cases j with
  |zero=>simp[V.cells]at h;subst h;exact C
  |succ j=>simp[V.cells]at h
theorem EC{o:Option Ob}{ob:Ob}(hp:j6 o=some ob):o=some ob/\ob.es.all V.Nq=true:=by
 cases o with
 |none=>cases hp
 |some x=>
  unfold j6 at hp
  grind
theorem Step.X'(R:Rel w I σ h)(F:mf σ h n)(s:Step w (fun b=>I b\/ju σ h b) fJ kC n w' I' σc hc k'):
  Step w I σ h n w' (fun b=>I b\/(w.heap.size<=b/\I' b)) (fun id=>if id<n then σ id else σc id) (fun id=>if id<n then h id else j6 (hc id)) k'/\
  Ext w' (fun b=>I b\/(w.heap.size<=b/\I' b)) σc w' (fun b=>I b\/(w.heap.size<=b/\I' b)) (fun id=>if id<n then σ id else σc id):=by
 have m: ∀id,id<n->σc id=none/\hc id=none:=fun id f=>⟨by rw[s.sigs id (.inl f)];rfl,s.news id (.inl f) rfl⟩;have Z: ∀K:Nat->Prop,Ext w' K σc w' K (fun id=>if id<n then σ id else σc id):=by
  intro K;refine⟨fun _ _=>rfl,fun _ c _ fz a=>⟨c,fz,a,rfl⟩,fun _ a=>a,fun id x hx=> ?_⟩;by_cases f:id<n
  .grind
  .grind
 have E:Ext w I σ w' (fun b=>I b\/(w.heap.size<=b/\I' b)) (fun id=>if id<n then σ id else σc id):=by
  refine⟨fun b e=>s.ext.Nx b (.inl e),s.ext.grow,fun b e=> .inl e,fun id x hx=> ?_⟩;by_cases f:id<n
  .grind
  .rw[(F id ab).2]at hx;grind
 have G: ∀b,ju σc hc b->w.heap.size<=b:=fun b e=>by
  rcases s.own b e with a|a
  .omega
  .exact absurd a sc
 have N: ∀id ob,j6 (hc id)=some ob->hc id=some ob:=fun id ob p=>(EC p).1;refine⟨⟨E,⟨fun b e=> ?_,fun id ob g=> ?_,fun id rY ob po b o k o' k' g z L y=> ?_,R.BV.ext E⟩,s.os,s.tape,s.output,s.size,fun b e _=>s.frame b e sc,fun b e=> ?_,fun b e=> ?_,s.le,fun id f=> ?_,fun id f W=> ?_⟩,Z _⟩
 .rcases e with e|e
  .exact va (R.eA b e) s.size
  .exact s.rel.eA b e.2
 .by_cases f:id<n
  .simp only[f,if_true]at g;rcases R.obj id ob g with⟨C,M⟩|⟨b,o,c,el,t,j,a,l,r⟩
   .exact n6
   .have i:ju σ h b:=⟨id,ob,o,ob.k,g,t⟩;have u:=s.frame b (R.mB i) sc;refine .inr ⟨b,o,c,el,aj,fun q=> ?_,a.same u,l,r.oM (E.r8 _) u⟩;rcases q with hx|hx
    .grind
    .have:=R.mB i;omega
  .simp only[f,if_false]at g;obtain⟨z,B⟩:=EC g;rcases s.rel.obj id ob z with⟨C,M⟩|⟨b,o,c,el,t,j,a,l,r⟩
   .exact n6
   .refine .inr ⟨b,o,c,el,aj,fun q=> ?_,a,l,(Te B r).oM ((Z _).r8 _) rfl⟩;rcases q with hx|hx
    .exact j (s.ext.imp b (.inl hx))
    grind
 .by_cases f:id<n<;>by_cases A:rY<n<;>simp only[f,A,if_true,if_false]at g z L y
  .exact R.apart id rY ob po b o k o' k' g z L y
  .have h1:=R.mB ⟨id,ob,o,k,g,L⟩;have O:=G b ⟨rY,po,o',k',N _ _ z,y⟩;omega
  .have h1:=R.mB ⟨rY,po,o',k',z,y⟩;have O:=G b ⟨id,ob,o,k,N _ _ g,L⟩;omega
  .exact s.rel.apart id rY ob po b o k o' k' (N _ _ g) (N _ _ z) L y
 .obtain⟨id,ob,o,k,g,L⟩:=e;by_cases f:id<n<;>simp only[f,if_true,if_false]at g L
  .exact .inr ⟨id,ob,o,k,g,L⟩
  .exact .inl (G b ⟨id,ob,o,k,N _ _ g,L⟩)
 .grind
 .have:=s.le;rcases f with f|f
  .grind
  .have W: ¬id<n:=ab
   exact p0
 .have:=s.le;rcases f with f|f
  .grind
  .have Q: ¬id<n:=ab
   simp only[Q,if_false];rw[s.news id (.inr f) rfl];rfl
end
section
variable {w w':World} {I I' J:Nat->Prop} {σ:jI} {h:bI} {n:Nat}
theorem ZO(R:Rel w I σ h)(G: ∀b,I b->J b)(v: ∀b,ju σ h b->J b){d:Nat}(t:da h d e=some e'){k b o:Nat}(q:e.cells.length=k)(H:DD w I σ e.cells b o):
  e'.cells.length=k/\DD w J fJ e'.cells b o:=by
 by_cases a: ∃cs,e= .agg cs
 .obtain⟨cs,rfl⟩:=a;cases d with
  |zero=>simp[da]at t
  |succ d=>
   obtain⟨n,rfl,A⟩:=tw t;obtain⟨g,D⟩:=lU _ A;refine⟨by simpa[V.cells,<-g] using q,fun j c' B=> ?_⟩;have x:j<cs.length:=by rw[g];exact(List.getElem?_eq_some_iff.1 B).1
   have c:cs[j]?=some cs[j]:=ai
   obtain⟨u,S,Y,Z⟩:=H j _ c;exact⟨u,S,Y,v8 R G v d _ _ u (D j _ _ c B) Z⟩
 .have K: ∀cs,e≠ .agg cs:=fun cs f=>a ⟨cs,f⟩;have s:=AJ t K;rw[mP K]at q H;rw[mP s];refine⟨q,fun j c' B=> ?_⟩;cases j with
  |zero=>
   simp at B;subst B;obtain⟨u,S,Y,Z⟩:=H 0 e ai;exact⟨u,S,Y,v8 R G v d _ _ u t Z⟩
  |succ j=>grind
theorem X_(R:Rel w I σ h)(V: ∀b,I b->J b)(u: ∀b,ju σ h b->J b){d:Nat}(t:di (es.map (da h d))=some Bj){k b o:Nat}(r:ey w I σ es k b o):
  Bj.length=es.length/\ey w J fJ Bj k b o:=by
 obtain⟨h1,K⟩:=lU _ t;refine⟨h1.symm,?_⟩;rw[l7]at r⊢;intro i F p;have j:i<es.length:=by rw[h1];exact(List.getElem?_eq_some_iff.1 p).1
 have e:es[i]?=some es[i]:=ai
 exact ZO R V u (K i _ _ e p) (r i _ e).1 (r i _ e).2
end
def Q7{h:bI}{d:Nat}(t:da h d v=some v')(i: ∀cs,v≠ .ed cs): ∀cs,v'≠ .ed cs:=by
 intro cs e;subst e;cases v with
 |ed n=>grind
 |agg n=>
  cases d with
  |zero=>simp[da]at t
  |succ d=>obtain⟨l,h1,_⟩:=tw t;grind
 |cX id s l=>
  cases d with
  |zero=>simp[da]at t
  |succ d=>
   rw[da]at t
   grind
 |fn g a b=>cases a<;>cases b<;>cases d<;>simp[da]at t
 |_=>cases d<;>simp[da]at t
def ZP(h: ∀cs,v≠ .agg cs): ∀cs,v.l6≠ .agg cs:=by
 intro cs e;cases v<;>simp[V.l6]at e
 grind
def ZQ(h: ∀cs,v≠ .ed cs): ∀cs,v.l6≠ .ed cs:=by
 intro cs e;cases v<;>simp[V.l6]at e
 grind
def zK(F:Nat->V->V)(cs:List V):vY F (.agg cs)= .agg (sO F 0 cs):=rfl
def se(F:Nat->V->V)(h: ∀cs,v≠ .agg cs):vY F v=F 0 v:=by
 cases v with
 |agg cs=>grind
 |_=>rfl
def zL(F:Nat->Nat->V->V)(vs:List V):wD F (.ed vs)= .ed (sO (fun i v=>vY (F i) v) 0 vs):=rfl
def vk(F:Nat->Nat->V->V)(h: ∀cs,v≠ .ed cs):wD F v=vY (F 0) v:=by
 cases v with
 |ed cs=>grind
 |_=>rfl
def zM(F:Nat->V->V): ∀(cs:List V) (n j:Nat),(sO F n cs)[j]?=(cs[j]?).map (F (n+j))
 | [],n,j=>by simp[sO]
 |c::cs,n,j=>by
  cases j with
  |zero=>simp[sO]
  |succ j=>simp only[sO,List.getElem?_cons_succ];rw[zM F cs (n+1) j,show n+1+j=n+(j+1) from ab]
def NU(F:Nat->V->V)(cs:List V)(n:Nat):(sO F n cs).length=cs.length:=by
 induction cs generalizing n with
 |nil=>rfl
 |cons c cs i=>simp[sO,i]
def DQ(F G:Nat->V->V): ∀(cs:List V) (n:Nat),sO G n (sO F n cs)=sO (fun j c=>G j (F j c)) n cs
 | [],n=>rfl
 |c::cs,n=>by simp only[sO];rw[DQ F G cs (n+1)]
def Kq{F G:Nat->V->V}(O: ∀c,(∀cs,c≠ .agg cs)-> ∀cs,F 0 c≠ .agg cs)(v:V):vY G (vY F v)=vY (fun j c=>G j (F j c)) v:=by
 by_cases h: ∃cs,v= .agg cs
 .obtain⟨cs,rfl⟩:=h;simp only[zK,DQ]
 .have h': ∀cs,v≠ .agg cs:=fun cs e=>h ⟨cs,e⟩;rw[se F h',se G (O v h'),se _ h']
def VT{F G:Nat->Nat->V->V}(O: ∀i c,(∀cs,c≠ .agg cs)-> ∀cs,F i 0 c≠ .agg cs)(T: ∀c,(∀cs,c≠ .ed cs)-> ∀cs,F 0 0 c≠ .ed cs)(v:V):wD G (wD F v)=wD (fun i j c=>G i j (F i j c)) v:=by
 by_cases h: ∃cs,v= .ed cs
 .obtain⟨cs,rfl⟩:=h;simp only[zL,DQ];congr 2;funext i c;exact Kq (O i) c
 .have h': ∀cs,v≠ .ed cs:=fun cs e=>h ⟨cs,e⟩;have m: ∀cs,vY (F 0) v≠ .ed cs:=by
   intro cs e;by_cases a: ∃cs,v= .agg cs
   .obtain⟨s,rfl⟩:=a;cases e
   .have Y: ∀cs,v≠ .agg cs:=fun cs e=>a ⟨cs,e⟩;rw[se _ Y]at e
    grind
  rw[vk F h',vk G m,vk _ h',Kq (O 0)]
section
variable {w w':World} {I I' J:Nat->Prop} {σ σ' σs σc:jI} {h h' hs hc:bI} {n n' k0 k' x:Nat}
theorem ZR{F:Nat->V->V}(h:fW w I σ cs us)(O: ∀j c u,cs[j]?=some c->us[j]?=some u->u.oneCell'=true->dX w I σ c u->dX w J σ' (F j c) u):fW w J σ' (sO F 0 cs) us:=by
 rw[ez]at h⊢;refine⟨by rw[NU];omega,fun j c u m a=> ?_⟩;rw[zM,vy]at m
 grind
theorem NV{F:Nat->V->V}(r:dX w I σ v u)(O: ∀j c x,v.cells.getD j .bad=c->dX w I σ c x->dX w J σ' (F j c) x):dX w J σ' (vY F v) u:=by
 by_cases h: ∃cs,v= .agg cs
 .obtain⟨cs,rfl⟩:=h;obtain⟨s,rfl,m⟩:=r;refine⟨s,rfl,ZR m fun j c x z _ _ hx=>O j c x ?_ hx⟩;simp[V.cells,rT,z]
 .have h': ∀cs,v≠ .agg cs:=fun cs e=>h ⟨cs,e⟩;rw[se F h'];refine O 0 v u ?_ r;rw[mP h'];rfl
theorem ZS{F:Nat->Nat->V->V}(C:dX w I σ v u)(O: ∀i j c x,v.cellAt i j=c->dX w I σ c x->dX w J σ' (F i j c) x):dX w J σ' (wD F v) u:=by
 by_cases h: ∃cs,v= .ed cs
 .obtain⟨cs,rfl⟩:=h;obtain⟨s,rfl,m⟩:=C;refine⟨s,rfl,?_⟩;rw[mZ]at m⊢;refine⟨by rw[NU];omega,fun i c u y a=> ?_⟩;rw[zM,vy]at y;cases z:cs[i]? with
  |none=>grind
  |some L=>
   rw[z]at y;simp only[ue,aS]at y;subst y;refine NV (m.2 i L u z a) fun j c x hx r=>O i j c x ?_ r;simp only[V.cellAt,rT,z,tj]
   grind
 .have h': ∀cs,v≠ .ed cs:=fun cs e=>h ⟨cs,e⟩;rw[vk F h'];refine NV C fun j c x hx r=>O 0 j c x ?_ r;rw[<-hx];cases v with
  |ed cs=>grind
  |_=>rfl
theorem Step.call {C h1:bI} {P:Nat->Prop} {m:Nat} (R:Rel w I σ h) (F:mf σ h n) (W: ∀id ob,C id=some ob->h id=some ob) (r:Step w I σ C n w P σ h1 n) (Z: ∀id ob,h1 id=some ob->C id=some ob)
  (s:wK m w P σs hs w' I' σc hc)
  (Q: ∀b,ju σs hs b->ju σ h b/\ ¬ju σ C b)
  (T: ∀b,I' b->J b) (d: ∀b,J b->I' b\/ju σc hc b)
  (j: ∀id,id<n->σ' id=σ id) (L: ∀id,id<n->id≠x->h' id=h1 id)
  (hx: ∀ob,x<n->h' x=some ob->h x≠none/\(∀b o k,σ x=some (b,o,k)-> ¬ju σ C b)/\Ny w' J σ' x ob)
  (hn:n<=n') (S: ∀id,n'<=id->σ' id=none/\h' id=none)
  (hl: ∀id ob,n<=id->h' id=some ob->Ny w' J σ' id ob/\ ∀b o k,σ' id=some (b,o,k)->(w.heap.size<=b\/ju σs hs b)/\(x<n-> ∀o' k',σ x≠some (b,o',k')))
  (ht: ∀id rY ob po b o k o' k',n<=id->n<=rY->h' id=some ob->h' rY=some po->σ' id=some (b,o,k)->σ' rY=some (b,o',k')->id=rY):
  Step w I σ h n w' J σ' h' n':=by
 have E:Ext w I σ w' J σ':=⟨fun b f=>s.Nx b (r.ext.imp b f),s.grow,fun b f=>T b (s.imp b (r.ext.imp b f)),fun id y G=>by
  by_cases v:id<n
  .grind
  .rw[(F id ab).2]at G;grind⟩
 have a: ∀b,ju σ C b->ju σ h b:=fun b ⟨i,ob,o,k,A,M⟩=>⟨i,ob,o,k,W i ob A,M⟩;have O: ∀i p b o k,h1 i=some p->σ i=some (b,o,k)->w'.heap[b]?=w.heap[b]?/\ ¬J b:=by
  intro i p b o k U q;have K:ju σ C b:=⟨i,p,o,k,Z i p U,q⟩;have Y:ju σ h1 b:=⟨i,p,o,k,U,q⟩;have iS:=R.mB (a b K);have X: ¬ju σs hs b:=fun f=>(Q b f).2 K;refine⟨s.frame b iS X,fun hj=> ?_⟩;rcases d b hj with f|f
  .rcases s.xg b f with G|G|G
   .exact(r.rel.owned Y).1 G
   .omega
   grind
  .rcases s.own b f with G|G
   .omega
   grind
 have l: ∀id ob,id<n->h' id=some ob-> ∃aw,h id=some aw:=by
  intro id ob v g;by_cases e:id=x
  .subst e;cases z:h id with
   |none=>grind
   |some y=>grind
  .grind
 have aq: ∀id ob rY po b o k o' k',id<n->n<=rY->h' id=some ob->h' rY=some po->σ id=some (b,o,k)->σ' rY=some (b,o',k')->False:=by
  intro id ob rY po b o k o' k' v B g t q N;obtain⟨y,G⟩:=l id ob v g;have h2:=(hl rY po B t).2 _ _ _ N;by_cases e:id=x
  .grind
  .rw[L id v e]at g;have K:ju σ C b:=⟨id,ob,o,k,Z _ _ g,q⟩;rcases h2.1 with z|z
   .have:=R.mB (a b K);omega
   grind
 refine⟨E,⟨fun b f=> ?_,fun id ob g=> ?_,fun id rY ob po b o k o' k1 g t q N=> ?_,R.BV.ext E⟩,s.os,s.tape,s.output,s.size,fun b f au=>s.frame b f fun G=>au (Q b G).1,fun b f=> ?_,fun b f=> ?_,hn,fun id v=> ?_,fun id v z=> ?_⟩
 .rcases d b f with f|f
  .exact s.rel.eA b f
  .exact s.rel.mB f
 .by_cases v:id<n
  .by_cases e:id=x
   .grind
   .rw[L id v e]at g;rcases r.rel.obj id ob g with⟨he,hk⟩|⟨b,o,c,el,q,h3,f,H,hr⟩
    .exact .inl ⟨he,aj⟩
    .obtain⟨A,M⟩:=O id ob b o ob.k g q;have an:Ext w P σ w' J σ':=⟨s.Nx,s.grow,fun b f=>T b (s.imp b f),E.sig⟩;exact .inr ⟨b,o,c,el,aj,M,f.same A,H,hr.oM (an.r8 _) A⟩
  grind
 .by_cases v:id<n<;>by_cases B:rY<n
  .obtain⟨y,G⟩:=l id ob v g;obtain⟨V,u⟩:=l rY po B t;rw[j _ v]at q;rw[j _ B]at N;exact R.apart id rY y V b o k o' k1 G u q N
  .grind
  .grind
  grind
 .obtain⟨id,ob,o,k,g,q⟩:=f;by_cases v:id<n
  .obtain⟨y,G⟩:=l id ob v g;rw[j _ v]at q;exact .inr ⟨id,y,o,k,G,q⟩
  grind
 .rcases d b f with f|f
  .rcases s.xg b f with G|G|G
   .rcases r.xg b G with z|z|z
    .grind
    .omega
    grind
   .omega
   grind
  .rcases s.own b f with G|G
   .omega
   grind
 .rcases v with v|v
  .grind
  .rw[(S id v).1,(F id ab).2]
 .rcases v with v|v
  .by_cases e:id=x
   .subst e;cases D:h' id with
    |none=>rfl
    |some y=>exact absurd z (hx y v D).1
   .rw[L id v e];cases G:h1 id with
    |none=>rfl
    |some y=>rw[W _ _ (Z _ _ G)]at z;cases z
  .exact(S id v).2
def ZV(σ:jI)(v:V)(m:Mask)(q:Nat):Option (Nat×Nat×Nat):=
 match m[q]? with
 |some p=>match v.cellAt p.1 p.2.1 with
  | .cX id s _=>match σ id with
   |some (b,o,k)=>some (b,o+s*k,k)
   |none=>none
  |_=>none
 |none=>none
theorem wb: ∀{m:Mask} {n i j q:Nat} {t:TypeId},nj n m i j=some (q,t)->n<=q/\m[q-n]?=some (i,j,t)
 | [],n,i,j,q,t,h=>by simp[nj]at h
 |(a,b,c)::m,n,i,j,q,t,h=>by
  simp only[nj]at h;split at h
  .grind
  .obtain⟨h1,K⟩:=wb h
   grind
theorem yi: ∀(m:Mask) (n i j:Nat),nj n m i j=(nj 0 m i j).map fun p=>(p.1+n,p.2)
 | [],n,i,j=>rfl
 |(a,b,c)::m,n,i,j=>by
  simp only[nj];split
  .simp
  .rw[yi m (n+1),yi m (0+1)];cases nj 0 m i j with
   |none=>rfl
   |some p=>grind
theorem pX(X:Env)(kp:TypeId->Bool)(R:V): ∀(m:Mask) (n:Nat) (h:bI) (id:Nat),zj X kp R n m h id=if n<=id/\id<n+m.length then(m[id-n]?).bind (CJ X kp R) else h id
 | [],n,h,id=>by
  have: ¬(n<=id/\id<n+([]:Mask).length):=ai
  rw[if_neg this];rfl
 |q::m,n,h,id=>by
  simp only[zj,bB,s9];by_cases e:id=n
  .grind
  .rw[pX X kp R m (n+1) h id]
   grind
theorem AK: ∀{l:List (Option Nat)},wE l=true-> ∀{i j:Nat} {x:Nat},l[i]?=some (some x)->l[j]?=some (some x)->i=j
 | [],_,i,j,x,h1,_=>aj
 |a::l,h,i,j,x,h1,K=>by
  simp only[wE,X8]at h;have W:=List.all_eq_true.1 h.1;cases i with
  |zero=>
   cases j with
   |zero=>rfl
   |succ j=>
    simp at h1 K;subst h1;have:=W _ (t6 K);simp[differ]at this
  |succ i=>
   cases j with
   |zero=>
    simp at h1 K;subst K;have:=W _ (t6 h1);simp[differ]at this
   |succ j=>
    rw[AK h.2 h1 K]
theorem lx: ∀{l:List (Option Nat)} {h:bI} {id:Nat} {ob:Ob},gN h l id=some ob->h id=some ob/\some id∉l
 | [],h,id,ob,k=>⟨k,ai⟩
 |none::l,h,id,ob,k=>by
  simp only[gN]at k;have:=lx k;exact⟨this.1,by simpa using this.2⟩
 |some i::l,h,id,ob,k=>by
  simp only[gN,bB]at k;split at k
  .cases k
  .rename_i e;have:=lx k;exact⟨this.1,by simp[this.2,e]⟩
theorem NY(c:v= .sl true []){q:Nat}(h:dX w I σ v u):dX w J σ' (.cX q 0 0) u:=by
 subst c;obtain⟨a,cap,rfl,h1,K,S,_⟩:=h;exact⟨a,cap,rfl,h1,K,.inl aj⟩
theorem G7  (R:Rel w' I' σc hc) {CC:bI}   (hr:dX w' I' σc v u) {m:Mask} (M: ∀id ob,CC id=some ob->hc id=some ob/\some id∉iI v m) (H:CI X hc CC v m=some R') {n:Nat} {σ0:jI}
  (T: ∀b,I' b->J b) (d: ∀b,ju σc CC b->J b) (ak: ∀b,J b->I' b\/ju σc CC b) (B: ∀q,q<m.length->σ0 (n+q)=ZV σc v m q):
  dX w' J σ0 (wF n m R') u/\
  (∀(kp:TypeId->Bool) (q:Nat) (p:Nat×Nat×TypeId) (ob:Ob),m[q]?=some p->CJ X kp R' p=some ob->Ny w' J σ0 (n+q) ob/\ ∀b o k,σ0 (n+q)=some (b,o,k)-> ∃id,some id∈iI v m/\ ∃po o' k',hc id=some po/\σc id=some (b,o',k'))/\
  (∀(q r b o k o' k':Nat),q<m.length->r<m.length->σ0 (n+q)=some (b,o,k)->σ0 (n+r)=some (b,o',k')->(∃kp ob,(m[q]?).bind (CJ X kp R')=some ob)->(∃kp ob,(m[r]?).bind (CJ X kp R')=some ob)->q=r):=by
 unfold CI at H;split at H
 case isFalse=>grind
 rename_i hL;simp only[X8]at hL;have h4:=hL.1;simp only[aS]at H;subst H;have dN:Rel w' I' σc CC:=R.sub fun id ob h=>(M id ob h).1;have mm: ∀c c' x,da CC depth c=some c'->dX w' I' σc c x->dX w' J fJ c' x:=fun c c' x ht hx=>v8 dN T d depth c c' x ht hx;have hg: ∀i c,(∀cs,c≠ .agg cs)-> ∀cs,mX X hc CC m i 0 c≠ .agg cs:=by
  intro i c C cs e;unfold mX at e;split at e
  .grind
  .split at e
   .rename_i c' Z;exact ZP (AJ Z C) cs e
   grind
 have cQ: ∀c,(∀cs,c≠ .ed cs)-> ∀cs,mX X hc CC m 0 0 c≠ .ed cs:=by
  intro c C cs e;unfold mX at e;split at e
  .grind
  .split at e
   .rename_i c' Z;exact ZQ (Q7 Z C) cs e
   grind
 have fG: ∀i j,(wD (mX X hc CC m) v).cellAt i j=mX X hc CC m i j (v.cellAt i j)\/(∀es c,(wD (mX X hc CC m) v).cellAt i j≠ .sl c es):=by
  intro i j;have one: ∀(F:Nat->V->V) (x:V),(∀c,(∀cs,c≠ .agg cs)-> ∀cs,F 0 c≠ .agg cs)->(vY F x).cells.getD j .bad=F j (x.cells.getD j .bad)\/(vY F x).cells.getD j .bad= .bad:=by
   intro F x c1;by_cases hx: ∃cs,x= .agg cs
   .obtain⟨cs,rfl⟩:=hx;rw[zK];simp only[V.cells,rT,zM,vy]
    grind
   .have HG: ∀cs,x≠ .agg cs:=fun cs e=>hx ⟨cs,e⟩;rw[se F HG,mP (c1 x HG),mP HG]
    grind
  by_cases hv: ∃cs,v= .ed cs
  .obtain⟨vs,rfl⟩:=hv;rw[zL];simp only[V.cellAt,rT,zM,vy];cases vs[i]? with
   |none=>right;intro es c e;simp only[Option.map_none,zR,V.cells]at e;grind
   |some x=>
    grind
  .have fv: ∀cs,v≠ .ed cs:=fun cs e=>hv ⟨cs,e⟩;rw[vk _ fv];have P: ∀cs,vY (mX X hc CC m 0) v≠ .ed cs:=by
    intro cs e;by_cases ha: ∃cs,v= .agg cs
    .obtain⟨bW,rfl⟩:=ha;cases e
    .have hz: ∀cs,v≠ .agg cs:=fun cs e=>ha ⟨cs,e⟩;rw[se _ hz]at e
     grind
   have bT: ∀y:V,(∀cs,y≠ .ed cs)->y.cellAt i j=if i=0 then y.cells.getD j .bad else .bad:=by
    intro y hy;cases y with
    |ed cs=>grind
    |_=>rfl
   grind
 have gI: ∀(t:TypeId) (c:V) (es:List V),rowAt X hc CC t c=some es->(c= .sl true []/\es=[])\/ ∃id s l ob G,c= .cX id s l/\hc id=some ob/\ob.k=(X.ti t).size/\s+l<=ob.es.length/\es.length=l/\di (((ob.es.drop s).take l).map (da CC depth))=some G/\es=ft G:=by
  intro t c es Q;unfold rowAt at Q;split at Q
  .grind
  .rename_i id s l;right;split at Q
   case h_2=>grind
   rename_i ob g;split at Q
   case isFalse=>grind
   rename_i K;split at Q
   case h_2=>grind
   rename_i G Y;simp only[aS]at Q;subst Q;refine⟨id,s,l,ob,G,rfl,g,K.1,K.2,?_,Y,rfl⟩;have:=(lU _ Y).1;have hd: ∀l:List V,(ft l).length=l.length:=by
    intro l;induction l with
    |nil=>rfl
    |cons c l ih=>simp[ft,ih]
   grind
  .grind
 have L: ∀(q:Nat) (p:Nat×Nat×TypeId) (c:Bool) (es:List V),m[q]?=some p->(wD (mX X hc CC m) v).cellAt p.1 p.2.1= .sl c es-> ∀r t,nj 0 m p.1 p.2.1=some (r,t)->rowAt X hc CC t (v.cellAt p.1 p.2.1)=some es:=by
  intro q p c es w A r t P;rcases fG p.1 p.2.1 with h|h
  .rw[h]at A;unfold mX at A
   grind
  .grind
 have U: ∀(q:Nat) (p:Nat×Nat×TypeId),m[q]?=some p-> ∃r t,nj 0 m p.1 p.2.1=some (r,t):=by
  intro q p w;have: ∀(m:Mask) (n q:Nat),m[q]?=some p-> ∃r t,nj n m p.1 p.2.1=some (r,t):=by
   intro m;induction m with
   |nil=>grind
   |cons y m ih=>
    intro n q w;obtain⟨a,b,t⟩:=y;simp only[nj];by_cases hh:a=p.1/\b=p.2.1
    .grind
    .simp only[hh,if_false];cases q with
     |zero=>
      grind
     |succ q=>exact ih (n+1) q aj
  exact this m 0 q w
 have N: ∀(q:Nat) (p:Nat×Nat×TypeId),m[q]?=some p->q<m.length:=fun q p h=>(List.getElem?_eq_some_iff.1 h).1;have f: ∀(q:Nat) (p:Nat×Nat×TypeId),m[q]?=some p-> ∀b o k,σ0 (n+q)=some (b,o,k)-> ∃id s l o',v.cellAt p.1 p.2.1= .cX id s l/\σc id=some (b,o',k)/\o=o'+s*k:=by
  intro q p w b o k z;rw[B q (N q p w)]at z;unfold ZV at z;rw[w]at z;simp only at z;split at z
  case h_2=>grind
  rename_i id s l A;split at z
  case h_2=>grind
  rename_i b' o' k' I;simp only[aS,cy]at z;obtain⟨rfl,rfl,rfl⟩:=z;exact⟨id,s,l,o',A,I,rfl⟩
 have au: ∀(q:Nat) (p:Nat×Nat×TypeId) (id s l:Nat),m[q]?=some p->v.cellAt p.1 p.2.1= .cX id s l->(iI v m)[q]?=some (some id):=by
  intro q p id s l w A;unfold iI;rw[tm,w];simp[A,V.src]
 refine⟨?_,?_,?_⟩
 .unfold wF;rw[VT hg cQ];refine ZS hr fun i j c x A hx=> ?_;rw[yi m n];cases P:nj 0 m i j with
  |none=>
   simp only[Option.map_none,mX,P];split
   .rename_i c' Z;exact((mm c c' x Z hx).ext Ext.free).l6
   .simp[dX]
  |some y=>
   obtain⟨q,t⟩:=y;simp only[ue,mX,P];obtain⟨bs,w⟩:=wb P;simp only[Nat.sub_zero]at w;cases Q:rowAt X hc CC t c with
   |none=>grind
   |some es=>
    rcases gI t c es Q with⟨rfl,rfl⟩|⟨id,s,l,ob,G,rfl,g,hk,aq,W,Y,hd⟩
    .exact NY rfl hx
    .simp only[dX]at hx⊢;obtain⟨a,cap,rfl,h1,h2,S⟩:=hx;refine⟨a,cap,by rw[W],by rw[W];exact h1,h2,?_⟩;rcases S with S|⟨b,o,k,c',el,fz,z,ha,hb,aa⟩
     .exact .inl S
     .refine .inr ⟨b,o+s*k,k,c',el,fz,?_,by rw[ha];simp,hb,by
       have:(s+cap)*k=s*k+cap*k:=t1 ..;rw[vy];omega⟩
      rw[Nat.add_comm q n,B q (N q _ w)];unfold ZV;rw[w];simp only[A,z]
 .intro kp q p ob w O;unfold CJ at O;split at O
  case h_2=>cases O
  rename_i hf es A;simp only[aS]at O;subst O;obtain⟨r,t,P⟩:=U q p w;have Q:=L q p hf es w A r t P;have bP: ∃t',rowAt X hc CC t' (v.cellAt p.1 p.2.1)=some es:=⟨t,Q⟩;refine⟨?_,fun b o k z=> ?_⟩
  .rcases gI t _ es Q with⟨C,rfl⟩|⟨id,s,l,ob,G,C,g,hk,aq,W,Y,hd⟩
   .left;refine⟨rfl,?_⟩;rw[B q (N q p w)];unfold ZV;rw[w];simp only[C]
   .rcases R.obj id ob g with⟨H,cz⟩|⟨b,o,c,el,z,hi,hb,aa,bV⟩
    .left;refine⟨?_,?_⟩
     .have:l=0:=by rw[H]at aq;simp at aq;omega
      rw[this]at W;exact xR W
     .rw[B q (N q p w)];unfold ZV;rw[w];simp only[C,cz]
    .right;have bp:=au q p id s l w C;obtain⟨_,E⟩:=wb P;simp only[Nat.sub_zero]at E;have hn:q=r:=AK h4 bp (au r _ id s l E C);subst hn;rw[w]at E;simp only[aS]at E;have ht:p.2.2=t:=by rw[E]
     have hB:(X.ti p.2.2).size=ob.k:=by rw[ht];exact hk.symm
     have n0:σ0 (n+q)=some (b,o+s*ob.k,ob.k):=by
      rw[B q (N q p w)];unfold ZV;rw[w];simp only[C,z]
     refine⟨b,o+s*ob.k,c,el,by rw[hB];exact n0,fun hj=> ?_,hb,?_,?_⟩
     .rcases ak b hj with hx|⟨i2,aw,o2,k2,h1,h2⟩
      .exact hi hx
      .have S:=M _ _ h1;have:i2=id:=R.apart i2 id aw ob b o2 k2 o ob.k S.1 g h2 z;subst this;exact S.2 (t6 bp)
     .rw[hB,W];have e1:(s+l)*ob.k<=ob.es.length*ob.k:=ul _ aq;have e2:(s+l)*ob.k=s*ob.k+l*ob.k:=t1 ..;show o+s*ob.k+l*ob.k<=c.size;omega
     .rw[hB];have ho:=((bV.oM (Ext.Gw ob.eP) rfl).TX s l);have bS:=(X_ dN T d Y ho).2;rw[hd];exact(ey.oD _ _ _ _ bS).oM Ext.free rfl
  .obtain⟨id,s,l,o',D,I,rfl⟩:=f q p w b o k z;rcases gI t _ es Q with⟨C,_⟩|⟨rY,s',an,ob,G,C,g,_⟩
   .rw[C]at D;cases D
   .rw[C]at D;simp only[V.cX.injEq]at D;obtain⟨rfl,rfl,rfl⟩:=D;exact⟨rY,t6 (au q p rY s' an w C),ob,o',k,g,I⟩
 .intro q r b o k o' k' w E z c2 e1 e2;have hp:m[q]?=some m[q]:=rk w;have hs:m[r]?=some m[r]:=rk E;have get: ∀(q:Nat) (p:Nat×Nat×TypeId) (b o k:Nat),m[q]?=some p->σ0 (n+q)=some (b,o,k)->(∃kp ob,(m[q]?).bind (CJ X kp (wD (mX X hc CC m) v))=some ob)-> ∃id ob o',(iI v m)[q]?=some (some id)/\hc id=some ob/\σc id=some (b,o',k):=by
   intro q p b o k w z O;obtain⟨kp,ob,O⟩:=O;rw[w]at O;simp only[zG]at O;unfold CJ at O;split at O
   case h_2=>cases O
   rename_i hf es A;obtain⟨r,t,P⟩:=U q p w;have Q:=L q p hf es w A r t P;obtain⟨id,s,l,o',D,I,rfl⟩:=f q p w b o k z;rcases gI t _ es Q with⟨C,_⟩|⟨rY,s',an,ob,G,C,g,_⟩
   .rw[C]at D;cases D
   .rw[C]at D;simp only[V.cX.injEq]at D;obtain⟨rfl,rfl,rfl⟩:=D;exact⟨rY,ob,o',au q p rY s' an w C,g,I⟩
  obtain⟨id,ob,S',g1,g2,g3⟩:=get q _ b o k hp z e1;obtain⟨rY,po,hl,ay,ah,ae⟩:=get r _ b o' k' hs c2 e2;have:id=rY:=R.apart id rY ob po b S' k hl k' g2 ah g3 ae;subst this;exact AK h4 g1 ay
end
def DR{w:World}{σ:jI}: ∀{vs D:List V} {I:Nat->Prop} {h h':bI} {us:List Value},Rel w I σ h->iT w I σ vs us->sQ h vs=some (D,h')-> ∀n:Nat,
  ∃I',Step w I σ h n w I' σ h' n/\iT w I' fJ D us/\(∀id ob,h' id=some ob->h id=some ob)
 | [],D,I,h,h',us,R,C,g,n=>by
  obtain⟨rfl,rfl⟩:=g;exact⟨I,Step.refl R n,by simpa[iT] using C,fun _ _ a=>a⟩
 |c::ps,D,I,h,h',us,R,C,g,n=>by
  obtain⟨u,r,rfl,K,S⟩:=C;simp only[sQ]at g;cases m:re h c with
  |none=>grind
  |some x=>
   obtain⟨c',L⟩:=x;simp only[m]at g;cases l:sQ L ps with
   |none=>grind
   |some y=>
    simp only[l,aS,cy]at g;obtain⟨rfl,rfl⟩:=g;obtain⟨t,s,U,J⟩:=GJ R K m n;have i:iT w t σ ps r:=iT.ext' _ r s.ext S;obtain⟨B,j,d,Z⟩:=DR s.rel i l n;refine⟨B,s.trans j,?_,fun id ob a=>J _ _ (Z _ _ a)⟩;exact⟨u,r,rfl,U.ext j.ext.Ls,d⟩
def jB(n:Nat)(σ c:jI)(v:V)(m:Mask):jI:=fun id=>if id<n then σ id else ZV c v m (id-n)
def G9{n:Nat}{σ c:jI}{m:Mask}(q:Nat):jB n σ c v m (n+q)=ZV c v m q:=by
 unfold jB
 grind
def ZX   (hC:sb X C)  {dst:Option Nat}    (D:np X C cR dst g args S=some S1)
  {w:World} {I:Nat->Prop} {σ:jI} (R:Rel w I σ S.h) (F:mf σ S.h S.n) (us:Array Value) (T:iT w I σ args us.toList):
  Calls X.P g us w fun e w'=> ∃u v I' σ',e= .returned u/\Step w I σ S.h S.n w' I' σ' S1.h S1.n/\S1.f=(S.set dst v).f/\dX w' I' σ' v u:=by
 unfold np at D;generalize dst.elim [] (X.mask cR)=m at D;split at D
 case h_2=>grind
 rename_i bxb h1 hg;split at D
 case h_2=>grind
 rename_i v t k' K;split at D
 case h_2=>grind
 rename_i r hR;simp only[aS]at D;subst D;obtain⟨aq,d,V,hi⟩:=DR R T hg S.n;have Y:mf σ h1 S.n:=d.fresh F;refine Calls.mono (hC g bxb kC 0 v t k' K w aq fJ us (Rel.kC d.rel.eA d.rel.BV) (fun _ _=>⟨rfl,rfl⟩) V) fun e w' a=> ?_;obtain⟨u,I',c,rfl,_,s,_,P⟩:=a;have an: ∀b,ju c (gN t (iI v m)) b->ju c t b:=fun b ⟨i,ob,o,k,A,E⟩=>⟨i,ob,o,k,(lx A).1,E⟩;obtain⟨N,W,L⟩:=G7 s.rel P (CC:=gN t (iI v m)) (fun id ob h=>lx h) hR (n:=S.n) (σ0:=jB S.n σ c v m) (J:=fun b=>I' b\/ju c (gN t (iI v m)) b) (fun b f=> .inl f) (fun b f=> .inr f) (fun b f=>f) (fun q _=>G9 q);have Q: ∀id ob,S.n<=id->zj X (X.fV cR) r S.n m h1 id=some ob-> ∃q p,id=S.n+q/\m[q]?=some p/\CJ X (X.fV cR) r p=some ob:=by
  intro id ob U j;rw[pX]at j;split at j
  .grind
  .rw[(Y id U).1]at j;grind
 have st:Step w I σ S.h S.n w' (fun b=>I' b\/ju c (gN t (iI v m)) b) (jB S.n σ c v m) (zj X (X.fV cR) r S.n m h1) (S.n+m.length):=by
  refine Step.call (x:=S.n) R F (fun _ _ h=>h) d hi s (fun b f=>absurd f sc) (fun b f=> .inl f) (fun b f=> ?_) (fun id U=> ?_) (fun id U _=> ?_) (fun ob Z=>ab) ab (fun id U=>⟨?_,?_⟩) (fun id ob U j=> ?_) (fun id rY ob po b o k o' k1 U au j H l h2=> ?_)
  .grind
  .simp[jB,U]
  .rw[pX,if_neg ab]
  .unfold jB;rw[if_neg ab];unfold ZV
   grind
  .rw[pX,if_neg ab];exact(Y id ab).1
  .obtain⟨q,p,rfl,y,z⟩:=Q id ob U j;obtain⟨A,E⟩:=W _ q p ob y z;refine⟨A,fun b o k l=>⟨?_,fun Z=>ab⟩⟩;obtain⟨i,_,po,o',k',h3,h4⟩:=E b o k l;rcases s.own b ⟨i,po,o',k',h3,h4⟩ with hx|hx
   .omega
   grind
  .obtain⟨q,p,rfl,y,z⟩:=Q id ob U j;obtain⟨M,aw,rfl,B,O⟩:=Q rY po au H;have:=L q M b o k o' k1 (List.getElem?_eq_some_iff.1 y).1 (List.getElem?_eq_some_iff.1 B).1 l h2 ⟨_,ob,by rw[y];exact z⟩ ⟨_,po,by rw[B];exact O⟩;omega
 refine⟨u,_,_,_,rfl,?_,sT _ _ _ _ rfl,N⟩;rw[fw,ik];omega
def Ra{w:World}{I:Nat->Prop}{σ:jI}: ∀(cs:List V) (b o:Nat),DD w I σ cs b o-> ∃us:List Value,fW w I σ cs us/\ ∀(j:Nat) x,us[j]?=some x->w.cell? ⟨b,o+j,none⟩=some x:=by
 intro cs b;induction cs with
 |nil=>intro o _;exact⟨[],f_,ai⟩
 |cons c cs i=>
  intro o H;obtain⟨u,v,D,L⟩:=H 0 c ai;obtain⟨us,g,d⟩:=i (o+1) fun j c' h=>by
   have:=H (j+1) c' aj
   grind
  refine⟨u::us,by exact⟨u,us,rfl,D,L,g⟩,fun j x h=> ?_⟩
  grind
def N2{w:World}{I:Nat->Prop}{σ:jI}{b o:Nat}(h:DD w I σ e.cells b o): ∃p:Value,dX w I σ e p/\
  ∀{J:Nat->Prop} {σ':jI} {F:V},dX w J σ' F p->((∃cs,e= .agg cs)-> ∃cs,F= .agg cs)->F.cells.length=e.cells.length/\DD w J σ' F.cells b o:=by
 obtain⟨c,u,N⟩:=Ra e.cells b o h;have x:e.cells.length=c.length:=((ez _ _).1 u).1;have f: ∀{J:Nat->Prop} {σ':jI} {F:V},fW w J σ' F.cells c->F.cells.length=e.cells.length/\DD w J σ' F.cells b o:=by
  intro J σ' F s;have l:F.cells.length=c.length:=((ez _ _).1 s).1;refine⟨ab,fun j c' q=> ?_⟩;have Z:j<c.length:=by rw[<-l];exact(List.getElem?_eq_some_iff.1 q).1
  have D:=((ez _ _).1 s).2 j c' c[j] q ai;exact⟨c[j],N j _ ai,D.1,D.2⟩
 by_cases hx: ∃cs,e= .agg cs
 .obtain⟨cs,rfl⟩:=hx;refine⟨.agg c.toArray,?_,fun{J σ' F} r a=> ?_⟩
  .exact⟨_,rfl,by exact u⟩
  .obtain⟨v,rfl⟩:=a ⟨cs,rfl⟩;refine f ?_;obtain⟨O,z,y⟩:=r;simp only[Value.agg.injEq]at z;subst z;simpa[V.cells] using y
 .have t: ∀cs,e≠ .agg cs:=fun cs e=>hx ⟨cs,e⟩;rw[mP t]at u;obtain⟨p,rr,rfl,g,E,rfl⟩:=u;refine⟨p,E,fun{J σ' F} r _=> ?_⟩;refine f ?_;have n: ∀cs,F≠ .agg cs:=by
   intro cs K;subst K;simp only[dX]at r;obtain⟨O,rfl,_⟩:=r;simp[Value.oneCell']at g
  rw[mP n];exact⟨p,[],rfl,g,r,rfl⟩
def Ha(F:Nat->Nat->V->V)(h: ∃cs,v= .agg cs): ∃cs,wD F v= .agg cs:=by
 obtain⟨cs,rfl⟩:=h;exact⟨_,rfl⟩
def S4   (hC:sb X C)  {dst:Option Nat}    (jw:X.iu g=true) (Q:wG X C cR dst g args S=some S1)
  {w:World} {I:Nat->Prop} {σ:jI} (R:Rel w I σ S.h) (F:mf σ S.h S.n) (us:Array Value) (hr:iT w I σ args us.toList):
  Calls X.P g us w fun e w'=> ∃u v I' σ',e= .returned u/\Step w I σ S.h S.n w' I' σ' S1.h S1.n/\S1.f=(S.set dst v).f/\dX w' I' σ' v u:=by
 unfold wG at Q;generalize hM:tf X cR dst g=M at Q;split at Q
 case h_2=>grind
 rename_i id Z;split at Q
 case h_2=>grind
 rename_i ob gX;split at Q
 case h_2=>grind
 rename_i e c4;split at Q
 case isFalse=>grind
 split at Q
 case h_2=>grind
 rename_i P aq;split at Q
 case h_2=>grind
 rename_i bxb h1 hg;split at Q
 case h_2=>grind
 rename_i v hc k' v';split at Q
 case h_2=>grind
 rename_i kk r mS aw;simp only[aS]at Q;subst Q;obtain⟨cL,l2,bU,ay,aH⟩:=hr;have iS:id<S.n:=by
  rcases ru id S.n with hh|hh
  .omega
  .rw[(F id hh).1]at gX;grind
 obtain⟨b,o,c,el,l9,lJ,ba,hf,gI⟩: ∃b o c el,σ id=some (b,o,ob.k)/\ ¬I b/\lh w b c el/\o+ob.es.length*ob.k<=c.size/\ey w I (mJ ob.eP σ) ob.es ob.k b o:=by
  rcases R.obj id ob gX with⟨hx,_⟩|hx
  .grind
  omega
 have n4:ey w I σ [e] ob.k b o:=by
  rw[<-c4];exact gI.oM (Ext.Gw ob.eP) rfl
 have dM:e.cells.length=ob.k/\DD w I σ e.cells b o:=by
  rw[lg]at n4;exact⟨n4.1,n4.2.1⟩
 generalize e3:X.gy g=m at*;have hS: ∀{l:List (Option Nat)} {h:bI} {i:Nat},some i∈l->gN h l i=none:=fun{l h i} e0=>by
  cases hz:gN h l i with
  |none=>rfl
  |some y=>exact absurd e0 (lx hz).2
 have bW: ∀i y,bB S.h id none i=some y->i≠id/\S.h i=some y:=by
  intro i y G;by_cases t':i=id
  .grind [bB]
  .grind [bB]
 have hj: ∀i y,gN (bB S.h id none) (iI e m) i=some y->S.h i=some y:=fun i y G=>(bW i y (lx G).1).2;have hp:gN (bB S.h id none) (iI e m) id=none:=by
  cases hz:gN (bB S.h id none) (iI e m) id with
  |none=>rfl
  |some y=>exact absurd rfl (bW id y (lx hz).1).1
 obtain⟨hk,ae,r1,kz⟩:=DR (R.sub hj) aH hg S.n;have hs: ∀i y b o k,S.h i=some y->σ i=some (b,o,k)->gN (bB S.h id none) (iI e m) i=none-> ¬ju σ (gN (bB S.h id none) (iI e m)) b:=by
  rintro i y b o k L Y a ⟨i2,hn,H,k2,z,D⟩;have:i2=i:=R.apart i2 i hn y b H k2 o k (hj _ _ z) L D Y;subst this;rw[a]at z;cases z
 have mH: ∀i y b o k,S.h i=some y->σ i=some (b,o,k)->gN (bB S.h id none) (iI e m) i=none-> ¬hk b:=by
  intro i y b o k L Y a hx;rcases ae.xg b hx with G|G|G
  .exact(R.owned ⟨i,y,o,k,L,Y⟩).1 G
  .have:=R.mB ⟨i,y,o,k,L,Y⟩;omega
  .grind
 have cg: ¬hk b:=mH id ob b o ob.k gX l9 hp;obtain⟨gK,iO,jz⟩:=N2 dM.2;obtain⟨lz,hI,lu⟩:=G7 (R.kill id) iO (CC:=fun _=>none) (fun _ _ h=>bF) aq (n:=1) (σ0:=jB 1 (fun _=>σ id) σ e m) (J:=I) (fun b j=>j) (fun b j=>by
  obtain⟨_,_,_,_,h,_⟩:=j;cases h) (fun b j=> .inl j) (fun q _=>G9 q)
 have cD: ∀bT:jI,Ext w I bT w hk bT:=fun bT=>⟨fun _ _=>rfl,fun _ c _ fz hh=>⟨c,fz,hh,rfl⟩,ae.ext.imp,fun _ _ hh=>hh⟩;have mm: ∀(q:Nat) (p:Nat×Nat×TypeId) (y:Ob),m[q]?=some p->CJ X (X.fV g) P p=some y-> ∀t o' k1,jB 1 (fun _=>σ id) σ e m (1+q)=some (t,o',k1)-> ∃i B,i≠id/\S.h i=some B/\gN (bB S.h id none) (iI e m) i=none/\ ∃H k2,σ i=some (t,H,k2):=by
  intro q p y A O t o' k1 ff;obtain⟨i,l1,B,H,k2,z,D⟩:=(hI _ q p y A O).2 t o' k1 ff;exact⟨i,B,(bW i B z).1,(bW i B z).2,hS l1,H,k2,D⟩
 have cQ: ∀i y,mY X g ob.k P i=some y->(i=0/\y=⟨ob.k,[wF 1 m P],true⟩)\/ ∃q p,i=1+q/\m[q]?=some p/\CJ X (X.fV g) P p=some y:=by
  intro i y G;unfold mY at G;rw[e3]at G;rw[pX]at G;split at G
  .grind
  .grind [bB]
 have c1:jB 1 (fun _=>σ id) σ e m 0=some (b,o,ob.k):=by simp[jB,l9]
 have bp:(wF 1 m P).cells.length=ob.k/\DD w hk (jB 1 (fun _=>σ id) σ e m) (wF 1 m P).cells b o:=by
  have ih:(∃cs,e= .agg cs)-> ∃cs,wF 1 m P= .agg cs:=fun h=>by
   unfold CI at aq;split at aq
   case isFalse=>grind
   simp only[aS]at aq;rw[<-aq];exact Ha _ (Ha _ h)
  obtain⟨z,D⟩:=jz (lz.ext (cD _)) ih;exact⟨ab,D⟩
 have lM:o+ [e].length*ob.k<=c.size:=by rw[c4]at hf;simpa using hf
 have dy:Rel w hk (jB 1 (fun _=>σ id) σ e m) (mY X g ob.k P):=by
  refine⟨ae.rel.eA,fun i y G=> ?_,fun i bS y B b1 N k1 H k2 z D g3 g4=> ?_,ae.rel.BV⟩
  .rcases cQ i y G with⟨rfl,rfl⟩|⟨q,p,rfl,A,O⟩
   .refine .inr ⟨b,o,c,el,c1,cg,ba,ab,?_⟩;rw[lg];exact⟨bp.1,bp.2,dZ⟩
   .rcases(hI _ q p y A O).1 with hx|⟨t,o',c',bs,z,D,g3,g4,fG⟩
    .exact .inl hx
    .obtain⟨i,B,_,k1,k2,H,k3,w2⟩:=mm q p y A O t o' y.k z;exact .inr ⟨t,o',c',bs,z,mH i B t H k3 k1 w2 k2,g3,g4,fG.oM ((cD _).r8 _) rfl⟩
  .have dN: ∀q p y b1 N k1 H k2,m[q]?=some p->CJ X (X.fV g) P p=some y->jB 1 (fun _=>σ id) σ e m (1+q)=some (b1,N,k1)->jB 1 (fun _=>σ id) σ e m 0=some (b1,H,k2)->False:=by
    intro q p y b1 N k1 H k2 A O Y a;obtain⟨i,B,kK,m1,m',ht,k3,bP⟩:=mm q p y A O b1 N k1 Y;rw[c1]at a;simp only[aS,cy]at a;obtain⟨rfl,_,_⟩:=a;exact kK (R.apart i id B ob b ht k3 o ob.k m1 gX bP l9)
   rcases cQ i y z with⟨rfl,rfl⟩|⟨q,p,rfl,A,O⟩
   .rcases cQ bS B D with⟨rfl,rfl⟩|⟨ah,dF,rfl,ak,au⟩
    .rfl
    .exact(dN ah dF B b1 H k2 N k1 ak au g4 g3).elim
   .rcases cQ bS B D with⟨rfl,rfl⟩|⟨ah,dF,rfl,ak,au⟩
    .exact(dN q p y b1 N k1 H k2 A O g3 g4).elim
    .have:=lu q ah b1 N k1 H k2 (List.getElem?_eq_some_iff.1 A).1 (List.getElem?_eq_some_iff.1 ak).1 g3 g4 ⟨_,y,by rw[A];exact O⟩ ⟨_,B,by rw[ak];exact au⟩;omega
 have n2:mf (jB 1 (fun _=>σ id) σ e m) (mY X g ob.k P) (1+m.length):=fun i hi=>by
  refine⟨?_,?_⟩
  .cases hz:mY X g ob.k P i with
   |none=>rfl
   |some y=>
    rcases cQ i y hz with⟨rfl,rfl⟩|⟨q,p,rfl,A,O⟩
    .omega
    .have:=(List.getElem?_eq_some_iff.1 A).1;omega
  .unfold jB;rw[if_neg ab];unfold ZV;rw[uf ab]
 have pd:iT w hk (jB 1 (fun _=>σ id) σ e m) (.ptr 0 0 0::bxb) us.toList:=by
  rw[bU];simp only[iT];refine⟨cL,l2,rfl,?_,iT.ext' _ _ Ext.free r1⟩;simp only[dX]at ay⊢;obtain⟨t,o',k1,z,D⟩:=ay;rw[l9]at z;simp only[aS,cy]at z;obtain⟨rfl,rfl,rfl⟩:=z;exact⟨b,o,ob.k,c1,by rw[D]⟩
 refine Calls.mono (hC g (.ptr 0 0 0::bxb) (mY X g ob.k P) (1+m.length) v hc k' v' w hk _ us dy n2 pd) fun ex w' hh=> ?_;obtain⟨u,I',U,rfl,_,s0,_,c3⟩:=hh;have s:wK 1 w hk (jB 1 (fun _=>σ id) σ e m) (mY X g ob.k P) w' I' U hc:=s0.less (by unfold Nd;rw[if_pos jw];split<;>omega);have E:U 0=some (b,o,ob.k):=by rw[s.sigs 0 ab];exact c1
 unfold CK at aw;split at aw
 case h_2=>cases aw
 rename_i po bV;split at aw
 case h_2=>cases aw
 rename_i K aa;split at aw
 case isFalse=>cases aw
 rename_i f2;split at aw
 case h_2=>cases aw
 rename_i r' an hR;simp only[aS,cy]at aw;obtain⟨rfl,rfl,rfl⟩:=aw;obtain⟨c',bs,cu,hE,mi,dz⟩: ∃c' bs,¬I' b/\lh w' b c' bs/\o+ [K].length*po.k<=c'.size/\ey w' I' U [K] po.k b o:=by
  rcases s.rel.obj 0 po bV with⟨hx,_⟩|⟨hd,H,c2,HG,z,D,g3,g4,fG⟩
  .rw[aa]at hx;cases hx
  .rw[E]at z;simp only[aS,cy]at z;obtain⟨rfl,rfl,_⟩:=z;rw[aa]at g4 fG;exact⟨c2,HG,D,g3,g4,fG.oM (Ext.Gw po.eP) rfl⟩
 have f3:po.k=ob.k:=by
  rcases s.rel.obj 0 po bV with⟨hx,_⟩|⟨hd,H,c2,HG,z,_⟩
  .rw[aa]at hx;cases hx
  .rw[E]at z;simp only[aS,cy]at z;exact z.2.2.symm
 have hL:K.cells.length=po.k/\DD w' I' U K.cells b o:=by
  rw[lg]at dz;exact⟨dz.1,dz.2.1⟩
 obtain⟨d,S',aJ⟩:=N2 hL.2;have cI: ∃h8,dX w' I' U (rF K v) h8/\ ∀(J:Nat->Prop) (σ':jI) (x:V) (T:List V),dX w' J σ' (.ed (x::T)) h8->dX w' J σ' x d/\dX w' J σ' (Bx v T) u:=by
  by_cases hv: ∃vs,v= .ed vs
  .obtain⟨vs,rfl⟩:=hv;simp only[dX]at c3;obtain⟨kg,rfl,hl⟩:=c3;refine⟨.tuple (d::kg.toList).toArray,?_,fun J σ' x T h=> ?_⟩
   .simp only[rF,dX,iT];exact⟨_,rfl,d,kg.toList,ai,S',hl⟩
   .simp only[dX,iT]at h;obtain⟨hA,h1,u2,cZ,L,Y,a⟩:=h;simp only[Value.tuple.injEq]at h1;subst h1;simp only[ui]at L;obtain⟨rfl,rfl⟩:=L;refine⟨Y,?_⟩;simp only[Bx,dX];exact⟨kg,rfl,a⟩
  .have ku: ∀vs,v≠ .ed vs:=fun vs h=>hv ⟨vs,h⟩;have e1:rF K v= .ed [K,v]:=by cases v<;>first|rfl|exact absurd rfl (ku _)
   have e2: ∀T,Bx v T=T.headD .bad:=by intro T;cases v<;>first|rfl|exact absurd rfl (ku _)
   refine⟨.tuple #[d,u],?_,fun J σ' x T h=> ?_⟩
   .rw[e1];simp only[dX,iT];exact⟨_,rfl,d,[u],rfl,S',u,[],rfl,c3,rfl⟩
   .simp only[dX,iT]at h;obtain⟨hA,h1,u2,cZ,L,Y,a⟩:=h;simp only[Value.tuple.injEq]at h1;subst h1;simp only[ui]at L;obtain⟨rfl,rfl⟩:=L;refine⟨Y,?_⟩;rw[e2];cases T with
    |nil=>simp[dX]
    |cons y T=>
     simp only[iT]at a;obtain⟨aW,mQ,h5,h6,_⟩:=a;simp only[ui]at h5;obtain⟨rfl,_⟩:=h5;exact h6
 obtain⟨h8,n1,cF⟩:=cI;have W:CI X (bB hc 0 none) (gN (bB hc 0 none) (iI (rF K v) M)) (rF K v) M=some (.ed (r'::an)):=hR;obtain⟨q1,q2,e9⟩:=G7 (s.rel.kill 0) n1 (CC:=gN (bB hc 0 none) (iI (rF K v) M)) (fun _ _ h=>lx h) W (n:=S.n) (σ0:=jB S.n σ U (rF K v) M) (J:=fun b=>I' b\/ju U (gN (bB hc 0 none) (iI (rF K v) M)) b) (fun b j=> .inl j) (fun b j=> .inr j) (fun b j=>j) (fun q _=>G9 q);have hT:wF S.n M (.ed (r'::an))= .ed (Gs (wF S.n M (.ed (r'::an)))::TV (wF S.n M (.ed (r'::an)))):=rfl;rw[hT]at q1;obtain⟨cC,cm⟩:=cF _ _ _ _ q1;have ih:(∃cs,K= .agg cs)-> ∃cs,Gs (wF S.n M (.ed (r'::an)))= .agg cs:=by
  rintro⟨cs,rfl⟩;have h1: ∃Z,rF (.agg cs) v= .ed (.agg cs::Z):=by cases v<;>exact⟨_,rfl⟩
  obtain⟨Z,h1⟩:=h1;unfold CI at W;split at W
  case isFalse=>cases W
  rw[h1]at W;simp only[zL,sO,zK,aS,V.ed.injEq,ui]at W;rw[<-W.1];exact⟨_,rfl⟩
 obtain⟨w1,HA⟩:=aJ cC ih;have hB: ∀t,ju U (gN (bB hc 0 none) (iI (rF K v) M)) t->ju U (bB hc 0 none) t:=fun t ⟨i,y,N,k1,z,D⟩=>⟨i,y,N,k1,(lx z).1,D⟩;have bc: ¬(I' b\/ju U (gN (bB hc 0 none) (iI (rF K v) M)) b):=by
  rintro(hx|hx)
  .exact cu hx
  .exact s.rel.Lz bV E (hB b hx)
 have cz: ∀i,S.n<=i->h1 i=none:=fun i hi=>by
  cases hz:h1 i with
  |none=>rfl
  |some y=>
   have:=hj i y (kz i y hz);rw[(F i hi).1]at this;cases this
 have bE: ∀i y,S.n<=i->zj X (X.fV cR) (.ed (r'::an)) S.n M (bB h1 id (some ⟨po.k,[Gs (wF S.n M (.ed (r'::an)))],true⟩)) i=some y-> ∃q p,i=S.n+q/\M[q]?=some p/\CJ X (X.fV cR) (.ed (r'::an)) p=some y:=by
  intro i y fv f;rw[pX]at f;split at f
  .rename_i hi;cases A:M[i-S.n]? with
   |none=>rw[A]at f;cases f
   |some p=>
    rw[A]at f;exact⟨i-S.n,p,ab,A,f⟩
  .have:i≠id:=ab
   simp only[bB,this,if_false]at f;rw[cz i fv]at f;cases f
 have st:Step w I σ S.h S.n w' (fun b=>I' b\/ju U (gN (bB hc 0 none) (iI (rF K v) M)) b) (jB S.n σ U (rF K v) M) (zj X (X.fV cR) (.ed (r'::an)) S.n M (bB h1 id (some ⟨po.k,[Gs (wF S.n M (.ed (r'::an)))],true⟩))) (S.n+M.length):=by
  refine Step.call (x:=id) R F hj ae kz s (fun t bL=> ?_) (fun b j=> .inl j) (fun t bL=> ?_) (fun i fv=> ?_) (fun i fv kK=> ?_) (fun y m7 G=>⟨?_,fun hd H k2 L=> ?_,?_⟩) ab (fun i fv=>⟨?_,?_⟩) (fun i y fv f=> ?_) (fun i bS y B b1 N k1 H k2 fv f4 f a' aE aM=> ?_)
  .obtain⟨i,y,N,k1,z,D⟩:=bL;rcases cQ i y z with⟨rfl,rfl⟩|⟨q,p,rfl,A,O⟩
   .rw[c1]at D;simp only[aS,cy]at D;obtain⟨rfl,_,_⟩:=D;exact⟨⟨id,ob,o,ob.k,gX,l9⟩,hs id ob b o ob.k gX l9 hp⟩
   .obtain⟨i2,hn,_,m1,m',ht,k3,bP⟩:=mm q p y A O t N k1 D;exact⟨⟨i2,hn,ht,k3,m1,bP⟩,hs i2 hn t ht k3 m1 bP m'⟩
  .rcases bL with hx|hx
   .exact .inl hx
   .exact .inr (hB t hx).QW
  .simp[jB,fv]
  .rw[pX,if_neg ab];simp[bB,kK]
  .rw[gX];simp
  .rw[l9]at L;simp only[aS,cy]at L;obtain⟨rfl,_,_⟩:=L;exact hs id ob b o ob.k gX l9 hp
  .rw[pX,if_neg ab]at G;simp[bB]at G;subst G;refine .inr ⟨b,o,c',bs,?_,bc,hE,by simpa using mi,?_⟩
   .unfold jB;rw[if_pos iS,l9,f3]
   .simp only[mJ,if_true];rw[lg];exact⟨by rw[w1];exact hL.1,HA,dZ⟩
  .unfold jB;rw[if_neg ab];unfold ZV;rw[uf ab]
  .rw[pX,if_neg ab];have kK:i≠id:=ab
   simp only[bB,kK,if_false];exact cz i ab
  .obtain⟨q,p,rfl,A,O⟩:=bE i y fv f;refine⟨(q2 _ q p y A O).1,fun hd H k2 ff=> ?_⟩;obtain⟨i2,_,hn,ht,k3,Y,a⟩:=(q2 _ q p y A O).2 hd H k2 ff;have n0:i2≠0:=fun t'=>by subst t';simp[bB]at Y
   have ha:hc i2=some hn:=by simpa[bB,n0] using Y
   refine⟨s.own hd ⟨i2,hn,ht,k3,ha,a⟩,fun _ e4 w2 h5=> ?_⟩;rw[l9]at h5;simp only[aS,cy]at h5;obtain⟨rfl,_,_⟩:=h5;exact n0 (s.rel.apart i2 0 hn po b ht k3 o ob.k ha bV a E)
  .obtain⟨q,p,rfl,A,O⟩:=bE i y fv f;obtain⟨ah,dF,rfl,ak,au⟩:=bE bS B f4 a';have:=e9 q ah b1 N k1 H k2 (List.getElem?_eq_some_iff.1 A).1 (List.getElem?_eq_some_iff.1 ak).1 aE aM ⟨_,y,by rw[A];exact O⟩ ⟨_,B,by rw[ak];exact au⟩;omega
 refine⟨u,_,_,_,rfl,?_,sT _ _ _ _ rfl,cm⟩;rw[fw,ik];exact st
def Z2   (q:sb X C) (G:v9 X)  {dst:Option Nat}    (D:iv X C cR dst g args S=some S1)
  {w:World} {I:Nat->Prop} {σ:jI} (R:Rel w I σ S.h) (F:mf σ S.h S.n) (us:Array Value) (E:iT w I σ args us.toList):
  Calls X.P g us w fun e w'=> ∃u v I' σ',e= .returned u/\Step w I σ S.h S.n w' I' σ' S1.h S1.n/\S1.f=(S.set dst v).f/\dX w' I' σ' v u:=by
 unfold iv at D;split at D
 .rename_i t O;split at D
  case h_2=>grind
  rename_i s;split at D
  case h_2=>grind
  rename_i es P k;split at D
  .grind
  rename_i Z;simp only[ua,X8,sG,not_or,not_and,xC,decide_eq_true_eq,CM]at Z;obtain⟨⟨⟨hi,hk⟩,hl⟩,f⟩:=Z;simp only[aS]at D;subst D;obtain⟨u,r,d,h1,rfl⟩:=E;have:us= #[u]:=by rw[<-Array.toList_inj];exact d
  subst this;refine Calls.mono (G.2 g t O w I σ S.h S.n s u es P _ R (F S.n (iX _)).1 (F S.n (iX _)).2 h1 k hi hk (FZ hl) f.1 f.2) fun e w' a=> ?_;obtain⟨r,σ',rfl,K,m⟩:=a;exact⟨r,_,I,σ',rfl,by rw[fw,ik];exact K,sT _ _ _ _ rfl,m⟩
 .split at D
  .rename_i y
   have z:X.low g=false:=by
    simp only[X8,sG]at y;exact y.2
   split at D
   case h_2=>grind
   rename_i v h n c;simp only[aS]at D;subst D;refine Calls.mono (q g args S.h S.n v h n c w I σ us R F E) fun e w' a=> ?_;obtain⟨u,I',σ',rfl,l,L,p,m⟩:=a;rw[zJ z]at l L;have K:=L.step F p l;exact⟨u,v,I',σ',rfl,d0,sT _ _ _ _ rfl,m⟩
  split at D
  .rename_i aq;exact S4 q aq D R F us E
  split at D
  .exact ZX q D R F us E
  .split at D
   case h_2=>grind
   rename_i bxb T;split at D
   .rename_i M;have z:X.low g=false:=by
     simp only[X8,sG]at M;exact M.2
    split at D
    case h_2=>grind
    rename_i v h n c;split at D
    .grind
    rename_i Z;simp only[aS]at D;subst D;by_cases i:args.any V.zi=true
    .have A:v.pu=true:=by
      simpa[i] using Z
     have x:iT w (fun b=>I b\/ju σ S.h b) fJ bxb us.toList:=CR T E fun v U u _ W B=>v8 R (fun b f=> .inl f) (fun b f=> .inr f) depth v U u W B;have H:Rel w (fun b=>I b\/ju σ S.h b) fJ kC:=Rel.kC (fun b f=>by
      rcases f with f|f
      .exact R.eA b f
      .exact R.mB f) (R.BV.sub fun _ f=> .inl f)
     refine Calls.mono (q g (ft bxb) kC S.n v h n c w _ fJ us H (fun _ _=>⟨rfl,rfl⟩) (iT.oD _ _ x)) fun e w' a=> ?_;obtain⟨u,I',σ',rfl,l,L,p,m⟩:=a;rw[zJ z]at l L;have K:=L.step (fun _ _=>⟨rfl,rfl⟩) p l;obtain⟨o,j⟩:=Step.X' R F K;refine⟨u,v,_,_,rfl,?_,sT _ _ _ _ rfl,(Ti A m).ext j⟩;rw[fw,ik]
     grind
    .have x:iT w I fJ bxb us.toList:=CR T E fun v U u Q W B=>ZN aj W B;refine Calls.mono (q g (ft bxb) kC S.n v h n c w I fJ us (Rel.kC R.eA R.BV) (fun _ _=>⟨rfl,rfl⟩) (iT.oD _ _ x)) fun e w' a=> ?_;obtain⟨u,I',σ',rfl,l,L,p,m⟩:=a;rw[zJ z]at l L;have K:=L.step (fun _ _=>⟨rfl,rfl⟩) p l;obtain⟨o,j⟩:=Step.pz R F K;refine⟨u,v,I',_,rfl,?_,sT _ _ _ _ rfl,m.ext j⟩;rw[fw,ik]
     grind
   .split at D
    case h_2=>grind
    rename_i v h n c;split at D
    case h_2=>grind
    rename_i U N;split at D
    .grind
    rename_i Z;simp only[aS]at D;subst D;by_cases i:args.any V.zi=true
    .have h2:U.scalar=true:=by
      simpa[i] using Z
     have x:iT w (fun b=>I b\/ju σ S.h b) fJ bxb us.toList:=CR T E fun v U u _ W B=>v8 R (fun b f=> .inl f) (fun b f=> .inr f) depth v U u W B;have H:Rel w (fun b=>I b\/ju σ S.h b) fJ kC:=Rel.kC (fun b f=>by
      rcases f with f|f
      .exact R.eA b f
      .exact R.mB f) (R.BV.sub fun _ f=> .inl f)
     refine Calls.mono (Calls.pO q G.1 c H (iT.oD _ _ x)) fun e w' a=> ?_;obtain⟨u,I',σ',rfl,K,m⟩:=a;have Y:=v8 (J:=fun b=>I' b\/ju σ' h b) K.rel (fun b f=> .inl f) (fun b f=> .inr f) depth v U u N m;refine⟨u,U.l6,I,σ,rfl,?_,rfl,(Q6 h2 Y).l6⟩;rw[fw,ik];exact Step.inner R K (fun b f=> .inl f) (fun b f=>f) (fun b f=> .inl f) S.n
    .have x:iT w I fJ bxb us.toList:=CR T E fun v U u Q W B=>ZN aj W B;refine Calls.mono (Calls.pO q G.1 c (Rel.kC R.eA R.BV) (iT.oD _ _ x)) fun e w' a=> ?_;obtain⟨u,I',σ',rfl,K,m⟩:=a;have Y:=v8 (J:=fun b=>I' b\/ju σ' h b) K.rel (fun b f=> .inl f) (fun b f=> .inr f) depth v U u N m;refine⟨u,U.l6,_,σ,rfl,?_,rfl,(Y.ext Ext.free).l6⟩;rw[fw,ik];refine Step.inner R K (fun b f=>f) (fun b f=> .inl (K.ext.imp b f)) (fun b f=> ?_) S.n;rcases f with f|f
     .rcases K.xg b f with hx|hx|hx
      .grind
      .exact .inr ⟨hx,K.rel.eA b f⟩
      .exact absurd hx sc
     .rcases K.own b f with hx|hx
      .exact .inr ⟨hx,K.rel.mB f⟩
      .exact absurd hx sc
end Go.Abs
