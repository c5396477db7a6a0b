import Derived.Test.YtdngefmliibcgaaGreatB32
set_option linter.all false
set_option maxRecDepth 20000
set_option maxHeartbeats 0
namespace Go.Abs
open Go
variable  {N:Norm}{S S' S1 S0 F:St}{v:V}{act a:Act}{o:Oper}{E:Ev}
def Env.base(X:Env)(g:FuncId):Nat:=if X.iu g=true then 1 else 0
def wL(X:Env):Prop:= ∀f key N,X.norm f key=some N->N.ok=true/\X.low f=true/\(X.iu f=true->N.base=true)
def N7(S:St)(N:Norm)(hx:bI): ∀(L:List Nat) (t:Nat),fixF S N hx L t=if L.contains t then zk (AF t N.roots) (S.f t) (Gt S N hx (S.f t)) else .bad
 | [],t=>rfl
 |i::L,t=>by
  simp only[fixF,bB,List.contains_cons];by_cases e:t=i
  .grind
  .rw[N7 S N hx L t]
   grind
def CV(S:St)(N:Norm)(hx:bI): ∀(L:List Gr) (id:Nat),QP S N hx L id=match nN id L with|some a=>a.ob S N hx|none=>none
 | [],id=>rfl
 |a::L,id=>by
  simp only[QP,bB,nN];by_cases e:id=a.new
  .grind
  .rw[CV S N hx L id]
   grind
def yj: ∀{L:List Gr} {id:Nat} {a:Gr},nN id L=some a->a∈L/\a.new=id
 | [],id,a,h=>by simp[nN]at h
 |b::L,id,a,h=>by
  simp only[nN]at h;split at h
  .grind
  .have:=yj h
   grind
def Kv{S:St}{id:Nat}: ∀{L:List Gr} {j:Nat},look S id L=some j-> ∃a,a∈L/\(a.loc.val S).root=some id/\a.new=j
 | [],j,h=>by simp[look]at h
 |b::L,j,h=>by
  simp only[look]at h;split at h
  .grind
  .obtain⟨a,h1,K⟩:=Kv h
   grind
structure Norm.Ok (N:Norm):Prop where
 one:1<=N.n
 new: ∀a,a∈N.roots->a.new<N.n/\ ∃b,nN a.new N.roots=some b/\b.loc=a.loc
def Norm.L'(h:N.ok=true):N.Ok:=by
 unfold Norm.ok at h;simp only[X8,decide_eq_true_eq]at h;obtain⟨K,b⟩:=h;refine⟨K,fun a W=> ?_⟩
 grind
def Hf(b:N.base=true)(h:N.first S=true): ∃a,nN 0 N.roots=some a/\(a.loc.val S).root=some 0:=by
 unfold Norm.first at h;rw[b]at h;cases C:N.roots with
 |nil=>grind
 |cons a r=>
  rw[C]at h;simp only[X8,beq_iff_eq]at h;exact⟨a,by simp[nN,h.1],h.2⟩
def V3(d:N.ok=true)(h:N.run S=some S'){m:Nat}(O:m<=if N.base=true then 1 else 0):m<=S'.n/\ ∀id,id<m->S.h id=none->S'.h id=none:=by
 have K:=Norm.L' d;unfold Norm.run at h;split at h
 case isFalse=>cases h
 rename_i c;simp only[X8]at c;simp only[aS]at h;subst h;have r:m<=1:=by split at O<;>omega
 refine⟨r4 r K.one,fun id f n=> ?_⟩;have:id=0:=ab
 subst this;have b:N.base=true:=by
  cases b:N.base with
  |true=>rfl
  |false=>grind
 obtain⟨a,h1,L⟩:=Hf b c.2;simp only;rw[CV,h1];simp only;unfold Gr.ob QO;split
 .rename_i v;rw[v]at L;cases L
 .rw[L];simp only[n,Gu]
def B0{X:Env}(a:wL X){f key:Nat}(h:pD X f key S=some S'){m:Nat}(O:X.low f=true->m<=Env.base X f)(n:m<=S.n):m<=S'.n/\ ∀id,id<m->S.h id=none->S'.h id=none:=by
 unfold pD at h;cases c:X.norm f key with
 |none=>grind
 |some N=>
  rw[c]at h;obtain⟨h1,K,T⟩:=a f key N c;refine V3 h1 h (r4 (O K) ?_);unfold Env.base
  grind
def Norm.sig(N:Norm)(S:St)(σ:jI):jI:=fun id=>
 match nN id N.roots with
 |some a=>match(a.loc.val S).root with
  |some j=>σ j
  |none=>none
 |none=>none
section
variable {w:World} {I J:Nat->Prop} {σ σ':jI}
theorem aac{u:Value}(h:dX w I σ v u):dX w I σ v.wide u:=by
 cases v with
 |sl c es=>
  obtain⟨a,cap,h1,K,S,b,i⟩:=h;exact⟨a,cap,h1,K,S,fun m=>aj,i⟩
 |_=>exact h
theorem V4{m:Type}{f:m->Option Nat}{l:List m}(h:wE (l.map f)=true){a b:m}(W:a∈l)(e:b∈l){j:Nat}(h1:f a=some j)(K:f b=some j):a=b:=by
 obtain⟨p,n⟩:=DH W;obtain⟨q,u⟩:=DH e;have:=AK h (i:=p) (j:=q) (x:=j) aj aj
 grind
theorem aad(bs:N.ok=true)(aq:N.run S=some S')(R:Rel w I σ S.h)(F:jO w I σ S.f act)(fr:mf σ S.h S.n):
  let J:=fun b=>I b\/ju σ (gN S.h (N.uJ S)) b
  Rel w J (N.sig S σ) S'.h/\jO w J (N.sig S σ) S'.f act/\mf (N.sig S σ) S'.h S'.n/\(∀b,ju (N.sig S σ) S'.h b->ju σ S.h b):=by
 intro J;have K:=Norm.L' bs;unfold Norm.run at aq;split at aq
 case isFalse=>grind
 rename_i hL;simp only[X8]at hL;have bS:=hL.1;simp only[aS]at aq;subst aq;simp only;have HG: ∀b,I b->J b:=fun b g=> .inl g;have aw:Ext w I fJ w J fJ:=⟨fun _ _=>rfl,fun _ c _ fz d=>⟨c,fz,d,rfl⟩,HG,fun _ _ d=>d⟩;have c2:Rel w I σ (gN S.h (N.uJ S)):=R.sub fun id ob h=>(lx h).1;have ak: ∀c c' x,da (gN S.h (N.uJ S)) depth c=some c'->dX w I σ c x->dX w J fJ c' x:=fun c c' x ht hx=>v8 c2 HG (fun b g=> .inr g) depth c c' x ht hx;have dz: ∀a,a∈N.roots-> ∀j,(a.loc.val S).root=some j->some j∈N.uJ S:=fun a W j n=>by
  exact List.mem_map.2 ⟨a,W,n⟩
 have n0: ∀a b,a∈N.roots->b∈N.roots-> ∀j,(a.loc.val S).root=some j->(b.loc.val S).root=some j->a=b:=fun a b W g j h1 L=>V4 bS W g h1 L;have H: ∀a,a∈N.roots-> ∀j,(a.loc.val S).root=some j->N.sig S σ a.new=σ j:=by
  intro a W j n;obtain⟨h1,b,T,h4⟩:=K.new a W;unfold Norm.sig;rw[T];simp only[h4,n]
 have bp: ∀id j,look S id N.roots=some j->N.sig S σ j=σ id:=by
  intro id j h;obtain⟨a,h1,L,rfl⟩:=Kv h;exact H a h1 id L
 have hd: ∀a,a∈N.roots-> ∀j ob b o k,(a.loc.val S).root=some j->S.h j=some ob->σ j=some (b,o,k)-> ¬J b:=by
  intro a W j ob b o k n m M;rintro(hx|⟨i,hl,o2,k2,y,D⟩)
  .exact(R.owned ⟨j,ob,o,k,m,M⟩).1 hx
  .have P:=lx y;have:i=j:=R.apart i j hl ob b o2 k2 o k P.1 m D M
   grind
 have bP: ∀c x,dX w I σ c x->dX w J (N.sig S σ) (fixC S N (gN S.h (N.uJ S)) c) x:=by
  intro c x hx;unfold fixC;split
  .rename_i id s l;split
   .rename_i j r;simp only[dX]at hx⊢;rw[bp id j r];omega
   .split
    .rename_i v n;exact(ak _ v x n hx).ext Ext.free
    .simp[dX]
  .rename_i id i f;split
   .rename_i j r;simp only[dX]at hx⊢
    grind
   .simp[dX]
  .split
   .rename_i h;exact(aac ((vf h hx).ext aw)).ext Ext.free
   .simp[dX]
 have c1: ∀c x,dX w I σ c x->dX w J (N.sig S σ) (Lq S N (gN S.h (N.uJ S)) c) x:=by
  intro c x hx;unfold Lq;split
  .rename_i cs;obtain⟨A,rfl,E⟩:=hx;refine⟨A,rfl,?_⟩;rw[ez]at E⊢
   grind
  .grind
 have C: ∀cs A,iT w I σ cs A->iT w J (N.sig S σ) (cs.map (Lq S N (gN S.h (N.uJ S)))) A:=by
  intro cs A E;rw[mZ]at E⊢;refine⟨aj,fun j c bW dN bT=> ?_⟩;rw[tm]at dN;cases b':cs[j]? with
  |none=>grind
  |some ts=>
   grind
 have hf: ∀c x,dX w I σ c x->dX w J (N.sig S σ) (Gt S N (gN S.h (N.uJ S)) c) x:=by
  intro c x hx;unfold Gt;split
  .obtain⟨A,rfl,E⟩:=hx;exact⟨A,rfl,C _ _ E⟩
  .obtain⟨A,vs,rfl,h1,L⟩:=hx;exact⟨A,vs,rfl,C _ _ h1,C _ _ L⟩
  .rename_i cs;obtain⟨b,o,h1,L,T⟩:=hx;exact⟨b,o,h1,HG b L,rG.ext' cs b o aw L T⟩
  .grind
 have e2: ∀(o:Option Nat) v w' x,dX w I σ v x->dX w J (N.sig S σ) w' x->dX w J (N.sig S σ) (zk o v w') x:=by
  intro o v w' x h1 L;unfold zk;split
  .split
   .exact NY rfl h1
   omega
  .omega
 have ae: ∀(id:Nat) (cs:List V) (b o Q:Nat),(CL S N (gN S.h (N.uJ S)) id Q cs).length=cs.length/\
   (DD w I σ cs b o->DD w J (N.sig S σ) (CL S N (gN S.h (N.uJ S)) id Q cs) b o):=by
  intro id cs b o;induction cs generalizing o with
  |nil=>intro Q;exact⟨rfl,fun _ j c r=>by simp[CL]at r⟩
  |cons c cs ih=>
   intro Q;obtain⟨y,D⟩:=ih (o+1) (Q+1);refine⟨by simp[CL,y],fun Z j c' r=> ?_⟩;cases j with
   |zero=>
    simp only[CL,D_,aS]at r;obtain⟨u,k1,k2,k3⟩:=Z 0 c ai
    grind
   |succ j=>
    have ah:DD w I σ cs b (o+1):=fun j c' r=>by
     have:=Z (j+1) c' aj
     grind
    have:=D ah j c' r
    grind
 have ay: ∀(id:Nat) (e:V) (b o:Nat),(∀cs,e≠ .ed cs)->(QN S N (gN S.h (N.uJ S)) id e).cells.length=e.cells.length/\(DD w I σ e.cells b o->DD w J (N.sig S σ) (QN S N (gN S.h (N.uJ S)) id e).cells b o):=by
  intro id e b o bL;by_cases hx: ∃cs,e= .agg cs
  .obtain⟨cs,rfl⟩:=hx;exact ae id cs b o 0
  .have fG: ∀cs,e≠ .agg cs:=fun cs h=>hx ⟨cs,h⟩;have bV:QN S N (gN S.h (N.uJ S)) id e=zk (qW S id 0 N.roots) e (fixC S N (gN S.h (N.uJ S)) e):=by
    cases e with
    |agg cs=>grind
    |_=>rfl
   have O: ∀cs,QN S N (gN S.h (N.uJ S)) id e≠ .agg cs:=by
    rw[bV];intro cs d;have h8: ∀cs,fixC S N (gN S.h (N.uJ S)) e≠ .agg cs:=by
     intro cs d;unfold fixC at d;split at d
     .split at d
      .grind
      .split at d
       .rename_i v n;exact AJ n ab cs d
       grind
     .grind
     .split at d
      .cases e<;>simp[V.wide]at d
       grind
      grind
    unfold zk at d;split at d
    .grind
    .grind
   rw[mP O,mP fG];refine⟨rfl,fun Z j c r=> ?_⟩;cases j with
   |succ j=>grind
   |zero=>
    simp at r;subst r;obtain⟨u,k1,k2,k3⟩:=Z 0 e ai
    grind
 have hr: ∀a ob,a∈N.roots->nN a.new N.roots=some a->a.ob S N (gN S.h (N.uJ S))=some ob->Ny w J (N.sig S σ) a.new ob/\(∀b o k,N.sig S σ a.new=some (b,o,k)-> ∃j p,(a.loc.val S).root=some j/\S.h j=some p/\σ j=some (b,o,k)):=by
  intro a ob W O X;unfold Gr.ob QO at X;split at X
  .rename_i n;simp only[aS]at X;subst X;have z:N.sig S σ a.new=none:=by
    unfold Norm.sig;rw[O];simp only[n,V.root]
   exact⟨.inl ⟨rfl,z⟩,fun b o k M=>aj⟩
  .split at X
   case h_2=>grind
   rename_i j n;have z:=H a W j n;cases m:S.h j with
   |none=>rw[m]at X;simp[Gu]at X
   |some p=>
    rw[m]at X;refine⟨?_,fun b o k M=>⟨j,p,n,m,aj⟩⟩;unfold Gu at X;have hR:=R.obj j p m;simp only at X;split at X
    .rename_i hk;split at X
     .rename_i e he;simp only[aS]at X;subst X;rcases hR with⟨h1,_⟩|⟨b,o,c,el,M,hi,g,q,B⟩
      .grind
      .rw[he,hk]at B;rw[he]at q;rw[lg]at B;refine .inr ⟨b,o,c,el,aj,hd a W j p b o p.k n m M,g,ab,?_⟩;rw[lg];by_cases Y: ∃cs,e= .ed cs
       .obtain⟨cs,rfl⟩:=Y;obtain⟨u,_,k2,k3⟩:=B.2.1 0 (.ed cs) (by simp[V.cells]);obtain⟨A,rfl,_⟩:=k3;simp[Value.oneCell']at k2
       .obtain⟨y,D⟩:=ay j e b o (fun cs h=>Y ⟨cs,h⟩);exact⟨aj,D B.2.1,dZ⟩
     .split at X
      case isFalse=>grind
      rename_i hq;simp only[aS]at X;subst X;rcases hR with⟨h1,L⟩|⟨b,o,c,el,M,hi,g,q,B⟩
      .exact .inl ⟨h1,aj⟩
      .refine .inr ⟨b,o,c,el,by rw[z];exact M,hd a W j p b o p.k n m M,g,q,?_⟩;rw[hk]at B⊢;exact((NF hq B).oM aw rfl).oM Ext.free rfl
    .rename_i hk;simp only[aS]at X;subst X;have cz:p.eP=false:=by simpa using hk
     rcases hR with⟨h1,L⟩|⟨b,o,c,el,M,hi,g,q,B⟩
     .exact .inl ⟨h1,by rw[z];exact L⟩
     .refine .inr ⟨b,o,c,el,by rw[z];exact M,hd a W j p b o p.k n m M,g,q,?_⟩;rw[cz]at B⊢;exact B.oM aw rfl
 have au: ∀id ob,QP S N (gN S.h (N.uJ S)) N.roots id=some ob-> ∃a,a∈N.roots/\a.new=id/\nN a.new N.roots=some a/\a.ob S N (gN S.h (N.uJ S))=some ob:=by
  intro id ob m;rw[CV]at m;cases z:nN id N.roots with
  |some a=>
   rw[z]at m;obtain⟨h1,L⟩:=yj z;exact⟨a,h1,L,by rw[L];exact z,m⟩
  |none=>rw[z]at m;cases m
 have iS: ∀b,ju σ (gN S.h (N.uJ S)) b->ju σ S.h b:=fun b ⟨i,ob,o,k,h1,L⟩=>⟨i,ob,o,k,(lx h1).1,L⟩;have U: ∀id,N.n<=id->nN id N.roots=none:=fun id fv=>by
  cases z:nN id N.roots with
  |none=>rfl
  |some a=>
   obtain⟨h1,L⟩:=yj z;have:=(K.new a h1).1;omega
 refine⟨⟨fun b g=> ?_,fun id ob m=> ?_,fun id rY ob po b o k o' k' h1 L T h4=> ?_,R.BV.sub fun b g=> .inl g⟩,fun t=> ?_,fun id fv=>⟨?_,?_⟩,fun b g=> ?_⟩
 .rcases g with g|g
  .exact R.eA b g
  .exact R.mB (iS b g)
 .obtain⟨a,y,rfl,D,P⟩:=au id ob m;exact(hr a ob y D P).1
 .obtain⟨a,y,rfl,D,P⟩:=au id ob h1;obtain⟨j,p,m1,mm,hn⟩:=(hr a ob y D P).2 b o k T;obtain⟨a',G,rfl,hg,cQ⟩:=au rY po L;obtain⟨hB,e1,hp,aa,an⟩:=(hr a' po G hg cQ).2 b o' k' h4;have:j=hB:=R.apart j hB p e1 b o k o' k' mm aa hn an;subst this;rw[n0 a a' y G j m1 hp]
 .rw[N7];split
  case isFalse=>simp[dX]
  exact e2 _ _ _ _ (F t) (hf _ _ (F t))
 .rw[CV,U id fv]
 .unfold Norm.sig;rw[U id fv]
 .obtain⟨id,ob,o,k,h1,L⟩:=g;obtain⟨a,y,rfl,D,P⟩:=au id ob h1;obtain⟨j,p,m1,mm,hn⟩:=(hr a ob y D P).2 b o k L;exact⟨j,p,o,k,mm,hn⟩
end
def DY: ∀{vs D:List V} {h h':bI},sQ h vs=some (D,h')-> ∀id,h id=none->h' id=none
 | [],D,h,h',g,id,f=>by
  simp only[sQ,aS,cy]at g
  grind
 |v::ps,D,h,h',g,id,f=>by
  simp only[sQ]at g;split at g
  .rename_i U h1 r;split at g
   .rename_i K T;simp only[aS,cy]at g;rw[<-g.2];exact DY T id (He r id f)
   grind
  grind
section
variable {X:Env} {C:jv} {cR:FuncId}
theorem V5(q:sj X C){dst:Option Nat}{g:FuncId}{args:List V}(D:iv X C cR dst g args S=some S1):S.n<=S1.n/\ ∀id,id<S.n->S.h id=none->S1.h id=none:=by
 unfold iv at D;split at D
 .split at D
  case h_2=>grind
  split at D
  case h_2=>grind
  split at D
  .grind
  simp only[aS]at D;subst D;rw[fw,ik];refine⟨by simp[St.new],fun id f W=> ?_⟩;have:id≠S.n:=ab
  simp[St.new,bB,this,W]
 .split at D
  .rename_i b
   have F:X.low g=false:=by
    simp only[X8,sG]at b;exact b.2
   split at D
   case h_2=>grind
   rename_i v h n c;simp only[aS]at D;subst D;rw[fw,ik];have:=q _ _ _ _ _ _ _ c;rw[zJ F]at this;omega
  split at D
  .unfold wG at D;split at D
   case h_2=>grind
   split at D
   case h_2=>grind
   rename_i ob w;split at D
   case h_2=>grind
   split at D
   case isFalse=>grind
   split at D
   case h_2=>grind
   split at D
   case h_2=>grind
   rename_i T
   repeat (split at D;rotate_left;cases D)
   simp only[aS]at D;subst D;rw[fw,ik];refine⟨ai,fun i j W=> ?_⟩;dsimp only;rw[pX,if_neg ab];have k:i≠_:=fun e=>by rw[e,w]at W;grind
   simp only[bB,k,if_false];refine DY T i ?_;cases z:gN (bB S.h _ none) _ i with
   |none=>rfl
   |some y=>
    have:=(lx z).1
    grind [bB]
  split at D
  .unfold np at D;split at D
   case h_2=>grind
   rename_i T
   repeat (split at D;rotate_left;cases D)
   simp only[aS]at D;subst D;rw[fw,ik];refine⟨ai,fun i j W=> ?_⟩;dsimp only;rw[pX,if_neg ab];exact DY T i W
  .split at D
   case h_2=>grind
   split at D
   .rename_i E;have F:X.low g=false:=by
     simp only[X8,sG]at E;exact E.2
    split at D
    case h_2=>grind
    rename_i v h n c;split at D
    .grind
    simp only[aS]at D;subst D;rw[fw,ik];have:=q _ _ _ _ _ _ _ c;rw[zJ F]at this
    grind
   .split at D
    case h_2=>grind
    split at D
    case h_2=>grind
    split at D
    .grind
    simp only[aS]at D;subst D;rw[fw,ik]
    grind
theorem AM(q:sj X C){n0 j:Nat}(e:fD X C cR n0 j o S=some S1):S.n<=S1.n/\ ∀id,id≠n0+j->id<S.n->S.h id=none->S1.h id=none:=by
 unfold fD at e;split at e
 .split at e
  case h_2=>grind
  have:=V5 q e
  grind
 .split at e
  case h_2=>grind
  rename_i v h n c;simp only[aS]at e;subst e;rw[fw,ik];exact⟨iX _,fun id k _ W=>N5 c id k W⟩
theorem Hg(q:sj X C){dF:List (Option Nat)}{n0:Nat}: ∀{l:List Oper} {k:Nat} {S S1:St},gZ X C cR dF n0 k l S=some S1->S.n<=S1.n/\ ∀id,(id<n0+k\/n0+k+l.length<=id)->id<S.n->S.h id=none->S1.h id=none
 | [],k,S,S1,h=>by
  simp only[gZ,aS]at h
  grind
 |o::l,k,S,S1,h=>by
  have two: ∀{T:St},S.n<=T.n->(∀id,id≠n0+k->id<S.n->S.h id=none->T.h id=none)->gZ X C cR dF n0 (k+1) l T=some S1->S.n<=S1.n/\ ∀id,(id<n0+k\/n0+k+(o::l).length<=id)->id<S.n->S.h id=none->S1.h id=none:=by
   intro T h1 K U;obtain⟨a,j⟩:=Hg q U;refine⟨ab,fun id f i n=>j id ?_ ab (K id ?_ i n)⟩
   .grind
   .grind
  have skip:gZ X C cR dF n0 (k+1) l (S.set o.dst (.ed []))=some S1->S.n<=S1.n/\ ∀id,(id<n0+k\/n0+k+(o::l).length<=id)->id<S.n->S.h id=none->S1.h id=none:=fun U=>
   two gO (fun id _ _ n=>by rw[fw];omega) U
  simp only[gZ]at h;split at h
  .split at h
   case h_2=>grind
   rename_i T h1;have:=AM q h1
   grind
  .split at h
   case h_2=>grind
   split at h
   .split at h
    .split at h
     case h_2=>grind
     rename_i T h1;have:=AM q h1
     grind
    grind
   .grind
   grind
def L_(X:Env)(E:Ev):Prop:= ∀f c S e S1 m,E f c S=some (e,S1)->m<=S.n->(X.low f=true->m<=Env.base X f)->m<=S1.n/\ ∀id,id<m->S.h id=none->S1.h id=none
theorem wM(G:L_ X E):sj X (dV X E):=by
 intro g args h k v h' k' c;unfold dV at c;have L:X.pO g=none:=by
  cases L:X.pO g with
  |none=>rfl
  |some p=>grind
 simp only[L]at c;split at c
 case h_2=>grind
 split at c
 case h_2=>grind
 rename_i fn f b i;cases C:E g b ⟨pS args,h,k⟩ with
 |none=>simp[C,xf]at c
 |some x=>
  obtain⟨e,S1⟩:=x;rw[C]at c;have:=G _ _ _ _ _ (Nd X g k) C (ZL X g k) (fun l=>by
   unfold Nd Env.base;grind)
  cases e with
  |exit id=>simp[xf]at c
  |normal|ret=>
   simp only[xf]at c
   grind
theorem zQ(N:wL X): ∀n,L_ X (uK X n)
 |0=>fun f c S e S1 m C=>by simp[uK]at C
 |n+1=>by
  have i:=zQ N n;have s:=wM (X:=X) i;intro f c S e S1 m C O l;rw[uK]at C;have done:S=S1->m<=S1.n/\ ∀id,id<m->S.h id=none->S1.h id=none:=by
   rintro rfl;exact⟨O,fun _ _ h=>h⟩
  have trans: ∀{T:St},(m<=T.n/\ ∀id,id<m->S.h id=none->T.h id=none)->(m<=S1.n/\ ∀id,id<m->T.h id=none->S1.h id=none)->m<=S1.n/\ ∀id,id<m->S.h id=none->S1.h id=none:=
   fun h1 K=>⟨K.1,fun id v W=>K.2 id v (h1.2 id v W)⟩
  cases c with
  |skip|exit _|ret=>
   simp only[kN,aS,cy]at C
   grind
  |region id ops d=>
   simp only[kN]at C;split at C
   case h_2=>grind
   rename_i D E;split at C
   case h_2=>grind
   rename_i T A;split at C
   case isFalse=>grind
   obtain⟨_,rfl⟩:=C;obtain⟨h1,K⟩:=Hg s A;simp only at h1 K;have h0:=B0 N E l O
   grind
  |seq x y=>
   simp only[kN]at C;cases hx:uK X n f x S with
   |none=>grind
   |some z=>
    obtain⟨r,T⟩:=z;rw[hx]at C;have h1:=i _ _ _ _ _ m hx O l;cases r with
    |normal=>exact trans h1 (i _ _ _ _ _ m C h1.1 l)
    |exit id=>
     grind
    |ret=>
     grind
  |cond x p q=>
   simp only[kN]at C;split at C
   case h_2=>grind
   split at C
   .exact i _ _ _ _ _ m C O l
   .exact i _ _ _ _ _ m C O l
  |block id b=>
   simp only[kN]at C;cases g:uK X n f b S with
   |none=>grind
   |some z=>
    obtain⟨r,T⟩:=z;rw[g]at C;have h1:=i _ _ _ _ _ m g O l
    grind
  |loop b=>
   simp only[kN]at C;split at C
   case h_2=>grind
   rename_i D E;have h0:=B0 N E l O;cases g:uK X n f b D with
   |none=>grind
   |some z=>
    obtain⟨r,T⟩:=z;rw[g]at C;have h1:=i _ _ _ _ _ m g h0.1 l;have K:m<=T.n/\ ∀id,id<m->S.h id=none->T.h id=none:=⟨h1.1,fun id v W=>h1.2 id v (h0.2 id v W)⟩;cases r with
    |normal=>exact trans K (i _ _ _ _ _ m C h1.1 l)
    |exit id=>
     grind
    |ret=>
     grind
  |_=>simp[kN]at C
end
def B1(P:Program)(c:Code)(Q:Exit->Act->World->Prop)(a:Act)(w:World):Prop:=
 ∀(b:Frame) (k:List Item) (cs:List Frame),∃e d w',Q e d w'/\Arrives P (lone (b.at a (.code c:: .inLoop c::k)) cs w) b k cs e d w'
def B1.wp{P:Program}{c:Code}{Q:Exit->Act->World->Prop}{a:Act}{w:World}(h:B1 P c Q a w):(Code.loop c).wp P Q a w:=by
 intro b k cs;obtain⟨e,d,w',q,N⟩:=h b k cs;exact⟨e,d,w',q,.of_steps (.one step_loop) N⟩
def B1.round{P:Program}{c:Code}{Q:Exit->Act->World->Prop}{w:World}(h:c.wp P (Exit.then (B1 P c Q) Q) a w):B1 P c Q a w:=by
 intro b k cs;obtain⟨e,m,j,u,N⟩:=h b (.inLoop c::k) cs;cases e with
 |normal=>
  obtain⟨V,t,r,q,d⟩:=u b k cs;exact⟨V,t,r,q,.of_steps (Steps.trans N (.one step_inLoop)) d⟩
 |exit id=>exact⟨_,m,j,u,.pass (x:= .inLoop c) rfl (fun _ _=> .inl ai) N⟩
 |goto l=>exact⟨_,m,j,u,.pass (x:= .inLoop c) rfl (fun _ _=> .inl ai) N⟩
 |ret=>exact⟨_,m,j,u,.pass (x:= .inLoop c) rfl (fun _ _=> .inl ai) N⟩
 |panic s=>exact⟨_,m,j,u,.pass (x:= .inLoop c) rfl (fun _ _=> .inl ai) N⟩
 |outgrown=>exact⟨_,m,j,u,.pass (x:= .inLoop c) rfl (fun _ _=> .inl ai) N⟩
def zo(P:Program):Code->(Exit->Act->World->Prop)->Act->World->Prop
 | .loop b=>B1 P b
 |c=>c.wp P
def zo.wp{P:Program}{c:Code}{Q:Exit->Act->World->Prop}{a:Act}{w:World}(h:zo P c Q a w):c.wp P Q a w:=by
 unfold zo at h;split at h
 .exact h.wp
 omega
def Ex.ex:Ex->Exit
 | .normal=> .normal
 | .exit id=> .exit id
 | .ret=> .ret
def Re(n n0:Nat)(w:World)(I:Nat->Prop)(σ:jI)(h:bI)(S1:St)(a:Act)(w':World):Prop:=
 ∃I' σ',n0<=S1.n/\Step w I σ h n0 w' I' σ' S1.h S1.n/\jO w' I' σ' S1.f a/\mf σ' S1.h S1.n/\n<=a.tmps.size/\a.defers=[]
def N9(n m:Nat)(w:World)(I:Nat->Prop)(σ:jI)(h:bI)(S1:St)(a:Act)(w':World):Prop:=
 ∃I' σ',m<=S1.n/\wK m w I σ h w' I' σ' S1.h/\jO w' I' σ' S1.f a/\mf σ' S1.h S1.n/\n<=a.tmps.size/\a.defers=[]
def Rf(X:Env)(lD:FuncId->Nat->Array Oper->Bool):Prop:=
 ∀(C:jv),sb X C->sj X C->pZ X C->v9 X->(∀cR dst g args S S1,iv X C cR dst g args S=some S1->xm X g)->
 ∀(cR:FuncId) (id t:Nat) (ops:Array Oper) (S S1:St),(∀o∈ops.toList,VE X t o=true)->lD cR id ops=true->
  gZ X C cR (ops.toList.map (·.dst)) S.n 0 ops.toList {S with n:=S.n+ops.size}=some S1->lL X C cR ops.toList S.n {S with n:=S.n+ops.size} S1 (X.uz cR id)->
  ∀(a:Act) (w:World) (I:Nat->Prop) (σ:jI),Rel w I σ S.h->jO w I σ S.f a->mf σ S.h S.n->t<=a.tmps.size->a.defers=[]->
  ∀(Q:Exit->Act->World->Prop),(∀d w',Re t S.n w I σ S.h S1 d w'->Q .normal d w')->(Code.region id ops true).wp X.P Q a w
def xo(X:Env)(lD:FuncId->Nat->Array Oper->Bool)(n:Nat)(cR:FuncId):Code->Bool
 | .region id ops d=>ops.toList.all (VE X n)&& (!d||lD cR id ops)
 | .seq a b=>xo X lD n cR a&&xo X lD n cR b
 | .cond x a b=>zr x&&xo X lD n cR a&&xo X lD n cR b
 | .block _ b=>xo X lD n cR b
 | .loop b=>xo X lD n cR b
 |_=>true
def oA(X:Env):ResultVar->Bool
 | .tmp _=>true
 | .cell _ t=>tB X t
def x8(X:Env)(lD:FuncId->Nat->Array Oper->Bool)(g:FuncId)(fn:Func):Bool:=
 match fn.body with
 |some b=>xo X lD fn.ntmps g b&&fn.results.toList.all (oA X)&& !(fn.name== "runtime.NumGoroutine")
 |none=>true
def Kw(X:Env)(lD:FuncId->Nat->Array Oper->Bool):Prop:= ∀g fn,X.P.funcs[g]?=some fn->X.pO g=none->x8 X lD g fn=true
section
variable {X:Env} {lD:FuncId->Nat->Array Oper->Bool}
def Sound(X:Env)(lD:FuncId->Nat->Array Oper->Bool)(E:Ev):Prop:=
 ∀(cR:FuncId) (n m:Nat) (c:Code) (S:St) (e:Ex) (S1:St),E cR c S=some (e,S1)->xo X lD n cR c=true->m<=S.n->(X.low cR=true->m<=Env.base X cR)->
  ∀(a:Act) (w:World) (I:Nat->Prop) (σ:jI),Rel w I σ S.h->jO w I σ S.f a->mf σ S.h S.n->n<=a.tmps.size->a.defers=[]->
  ∀(Q:Exit->Act->World->Prop),(∀d w',N9 n m w I σ S.h S1 d w'->Q e.ex d w')->zo X.P c Q a w
theorem N9.trans {n m:Nat} {w D L:World} {I t:Nat->Prop} {σ j:jI} {h h1:bI} {S:St} {a2:Act} (s:wK m w I σ h D t j h1)
  (hp:N9 n m D t j h1 S a2 L):N9 n m w I σ h S a2 L:=by
 obtain⟨I',σ',W,K,F,p,q,d⟩:=hp;exact⟨I',σ',W,s.trans K,F,p,q,d⟩
theorem Kx{X:Env}(d:wL X){cR key m:Nat}{w:World}{I:Nat->Prop}{σ:jI}(h:pD X cR key S=some S')(R:Rel w I σ S.h)(F:jO w I σ S.f a)(fr:mf σ S.h S.n)(P:m<=S.n)(l:X.low cR=true->m<=Env.base X cR):
  ∃I' σ',m<=S'.n/\wK m w I σ S.h w I' σ' S'.h/\jO w I' σ' S'.f a/\mf σ' S'.h S'.n:=by
 have y:=B0 d h l P;unfold pD at h;cases n:X.norm cR key with
 |none=>
  rw[n]at h;simp only[aS]at h;subst h;exact⟨I,σ,P,wK.refl R m,F,fr⟩
 |some N=>
  rw[n]at h;obtain⟨h1,K,U⟩:=d cR key N n;obtain⟨v,D,L,g⟩:=aad h1 h R F fr;have O:=h;refine⟨_,_,y.1,⟨fun _ _=>rfl,fun _ c _ fz e=>⟨c,fz,e,rfl⟩,fun b e=> .inl e,v,rfl,rfl,rfl,iX _,fun _ _ _=>rfl,fun b e=> .inr (g b e),fun b e=> ?_,fun id f=> ?_,y.2⟩,D,L⟩
  .rcases e with e|⟨i,ob,o,k,k1,k2⟩
   .grind
   .exact .inr (.inr ⟨i,ob,o,k,(lx k1).1,k2⟩)
  .have T:=l K;unfold Env.base at T;have E:X.iu cR=true:=by
    cases E:X.iu cR with
    |true=>rfl
    |false=>grind
   rw[if_pos E]at T;have:id=0:=ab
   subst this;have O:N.run S=some S':=O;unfold Norm.run at O;split at O
   case isFalse=>grind
   rename_i Q;simp only[X8]at Q;obtain⟨r,k1,k2⟩:=Hf (U E) Q.2;unfold Norm.sig
   grind
def Hh(X:Env)(S:St):ResultVar->Option V
 | .tmp t=>some (S.f t)
 | .cell a t=>match S.f a with
  | .ptr id i f=>match S.h id with
   |some ob=>match ob.es[i]? with
    |some e=>part (X.ti t) e.cells f
    |none=>none
   |none=>none
  |_=>none
def LJ(tmps:Array Value):ResultVar->Sem Value
 | .tmp t=>pure (tmps.getD t undef)
 | .cell a t=>do loadVar t (<-asAddr (tmps.getD a undef))
theorem Oa(rs:List ResultVar)(S:St):nO X rs S=(match di (rs.map (Hh X S)) with
 |some [v]=>some v
 |some vs=>some (.ed vs)
 |none=>none):=rfl
theorem Hi(fn:Func)(tmps:Array Value):results fn tmps=(do
  let vs<-fn.results.mapM (LJ tmps)
  pure (if h:vs.size=1 then vs[0] else .tuple vs)):=rfl
theorem Oc {w:World} {I:Nat->Prop} {σ:jI}   (R:Rel w I σ S.h) (F:jO w I σ S.f a) {fn:Func} (z:fn.results.toList.all (oA X)=true) 
  (j:nO X fn.results.toList S=some v): ∃u,(results fn a.tmps).run X.P w= .ok u w/\dX w I σ v u:=by
 have key: ∀(d:List ResultVar) (l:List V),d.all (oA X)=true->di (d.map (Hh X S))=some l-> ∃s:List Value,(d.mapM (LJ a.tmps)).run X.P w= .ok s w/\iT w I σ l s:=by
  intro d;induction d with
  |nil=>
   intro l _ h;simp only[r_,di,aS]at h;subst h;exact⟨[],ai,fL⟩
  |cons r d o=>
   intro l g h;simp only[vA,X8]at g;simp only[r2]at h;cases r with
   |tmp t=>
    simp only[Hh,di]at h;split at h
    case h_2=>grind
    rename_i C B;simp only[aS]at h;subst h;obtain⟨s,h1,K⟩:=o C g.2 B;refine⟨a.tmps.getD t undef::s,?_,?_⟩
    .simp[CD,LJ,h1]
    .exact⟨_,_,rfl,F t,K⟩
   |cell x t=>
    have T:mE X.P t (X.ti t):=me g.1;cases hx:S.f x with
    |ptr id i f=>
     simp only[Hh,hx]at h;cases y:S.h id with
     |none=>simp[y,di]at h
     |some ob=>
     simp only[y]at h;cases m:ob.es[i]? with
     |none=>simp[m,di]at h
     |some e=>
     simp only[m]at h;cases p:part (X.ti t) e.cells f with
     |none=>simp[p,di]at h
     |some A=>
     simp only[p,di]at h;split at h
     case h_2=>grind
     rename_i C B;simp only[aS]at h;subst h;obtain⟨s,h1,K⟩:=o C g.2 B;have O:=F x;rw[hx]at O;obtain⟨b,of,k,D,E⟩:=O;obtain⟨P,o',c,el,n,N,M,Y,L⟩:=R.at y m;rw[D]at n;obtain⟨rfl,rfl,rfl⟩:=n;have J:=(L.get m).2.ext (Ext.Gw ob.eP) rfl;obtain⟨u,W,G⟩:=Gy T (f:=f) J p;refine⟨u::s,?_,?_⟩
     .simp[CD,LJ,h1,E,asAddr,W]
     .exact⟨_,_,rfl,G,K⟩
    |_=>simp[Hh,hx,di]at h
 rw[Oa]at j;split at j
 .rename_i A h;simp only[aS]at j;subst j;obtain⟨s,h1,K⟩:=key _ _ z h;obtain⟨u,r,rfl,U,rfl⟩:=K;refine⟨u,?_,U⟩;rw[Hi,Ef];simp[h1]
 .rename_i vs Z h;simp only[aS]at j;subst j;obtain⟨s,h1,K⟩:=key _ _ z h;refine⟨.tuple s.toArray,?_,?_⟩
  .have q:s.length≠1:=by
    intro H;rw[mZ]at K;match vs,K with
    | [v],_=>grind
    | [],K=>grind
    |_::_::_,K=>grind
   rw[Hi,Ef]
   simp_all
  .exact⟨_,rfl,ab⟩
 grind
theorem B2(A:Kw X lD)(O:Sound X lD E):sb X (dV X E):=by
 intro g args h k v h' k' c w I σ s R fr r;unfold dV at c;have L:X.pO g=none:=by
  cases L:X.pO g with
  |none=>rfl
  |some G=>grind
 simp only[L]at c;split at c
 case h_2=>grind
 rename_i fn M;split at c
 case h_2=>grind
 rename_i b j;have B:=A g fn M L;unfold x8 at B;simp only[j,X8]at B;have F:jO w I σ (pS args) {tmps:=s++Array.replicate (fn.ntmps-s.size) undef,defers:=[]}:=by
  intro t;unfold pS;split
  .rename_i o i;rw[mZ]at r;have S:t<s.size:=by
    have:=(List.getElem?_eq_some_iff.1 i).1;rw[r.1]at this;exact ns
   have d:s.toList[t]?=some s[t]:=by simp[S]
   have:=r.2 t _ _ i d;have T:(s++Array.replicate (fn.ntmps-s.size) undef).getD t undef=s[t]:=by
    rw[uD,Array.getElem?_append_left S];simp[S]
   grind
  .simp[dX]
 have f: ∀{S1:St} {a:Act} {w':World},xf X fn.results.toList (some (.normal,S1))=some (v,h',k')->N9 fn.ntmps (Nd X g k) w I σ h S1 a w'->
   a.defers=[]/\ ∃u,(results fn a.tmps).run X.P w'= .ok u w'/\ ∃N I' σ',Ending.returned u= .returned N/\Nd X g k<=k'/\wK (Nd X g k) w I σ h w' I' σ' h'/\mf σ' h' k'/\dX w' I' σ' v N:=by
  intro S1 a w' r p;obtain⟨I',σ',n,K,P,y,_,z⟩:=p;simp only[xf]at r;split at r
  case h_2=>grind
  rename_i o i;simp only[aS,cy]at r;obtain⟨rfl,rfl,rfl⟩:=r;obtain⟨u,h1,Q⟩:=Oc K.rel P B.1.2 i;exact⟨z,u,h1,u,I',σ',rfl,n,K,y,Q⟩
 cases C:E g b ⟨pS args,h,k⟩ with
 |none=>simp[C,xf]at c
 |some x=>
  obtain⟨e,S1⟩:=x;rw[C]at c;refine calls_of_wp M j ?_;refine(O g fn.ntmps (Nd X g k) b ⟨pS args,h,k⟩ e S1 C B.1.1 (ZL X g k) (fun l=>by
   unfold Nd Env.base;grind) _ w I σ R F fr aj rfl _ ?_).wp
  intro a w' p;cases e with
  |normal=>exact f c p
  |ret=>exact f (by simpa[xf] using c) p
  |exit id=>simp[xf]at c
theorem a0y(A:Kw X lD)(K: ∀g,((X.clone g).isSome||(X.pO g).isSome)=true->xm X g): ∀cR dst g args S S1,iv X (dV X E) cR dst g args S=some S1->xm X g:=by
 have key: ∀g args h k r,dV X E g args h k=some r->xm X g:=by
  intro g args h k r c;unfold dV at c;have L:X.pO g=none:=by
   cases L:X.pO g with
   |none=>rfl
   |some p=>grind
  simp only[L]at c;split at c
  case h_2=>grind
  rename_i fn f;split at c
  case h_2=>grind
  rename_i b i;have B:=A g fn f L;unfold x8 at B;simp only[i,X8]at B;exact⟨fn,b,f,i,aj⟩
 intro cR dst g args S S1 e;unfold iv at e;split at e
 .grind
 split at e
 .grind
 split at e
 .unfold wG at e;split at e
  case h_2=>grind
  split at e
  case h_2=>grind
  grind
 split at e
 .unfold np at e
  grind
 ··split at e
   .split at e
    .grind
    .split at e
     .rename_i c;unfold qK at c
      grind
     grind
   grind
theorem sound(hA:Kw X lD)(Z:wL X)(aq:v9 X)(V: ∀g,((X.clone g).isSome||(X.pO g).isSome)=true->xm X g)(hv:Rf X lD)(hk: ∀n,pZ X (dV X (uK X n))): ∀n,Sound X lD (uK X n)
 |0=>fun cR J m c S e S1 h=>by simp[uK]at h
 |n+1=>by
  have s:=sound hA Z aq V hv hk n;have hC:=B2 hA s;have h3:=a0y (E:=uK X n) hA V;intro cR J m c S e S1 h B O l a w I σ R F fr K u Q A;have base: ∀{hr},hr=e->S=S1->Q hr.ex a w:=by
   intro hr h1 h2;subst h1;subst h2;exact A a w ⟨I,σ,O,wK.refl R _,F,fr,K,u⟩
  rw[uK]at h;cases c with
  |skip=>
   simp only[kN,aS,cy]at h;exact wp_skip (base h.1 h.2)
  |exit id=>
   simp only[kN,aS,cy]at h;exact wp_exit (base h.1 h.2)
  |ret=>
   simp only[kN,aS,cy]at h;exact wp_ret (base h.1 h.2)
  |region id ops d=>
   simp only[kN]at h;simp only[xo,X8]at B;have hj: ∀o∈ops.toList,VE X J o=true:=List.all_eq_true.1 B.1;split at h
   case h_2=>grind
   rename_i D aw;obtain⟨W,j,an,s0,hc,G⟩:=Kx Z aw R F fr O l;split at h
   case h_2=>grind
   rename_i T aa;split at h
   case isFalse=>grind
   rename_i k;simp only[aS,cy]at h;obtain⟨rfl,rfl⟩:=h;have U: ∀f w',Re J D.n w W j D.h T f w'->Q .normal f w':=by
    rintro f w' ⟨I',σ',Y,mm,P,C,H,L⟩;exact A f w' ⟨I',σ',ab,s0.trans (mm.FA an),P,C,H,L⟩
   cases d with
   |true=>exact hv _ hC (wM (zQ Z n)) (hk n) aq h3 cR id J ops D T hj aj aa k a w W j s0.rel hc G K u Q U
   |false=>
    refine wp_region ?_;have C:mf j D.h (D.n+ops.size):=fun id fv=>G id ab;have:=LI hC aq h3 hj (Q:=Q) ops.toList 0 {D with n:=D.n+ops.size} a w W j ai aa s0.rel hc C K u (iX _) (fun q _ _=>G _ ab)
     (fun f w' I' σ' ak k P cQ H L=>U f w' ⟨I',σ',aj,k,P,cQ,H,L⟩)
    rw[List.range_eq_range'];omega
  |seq x y=>
   simp only[kN]at h;simp only[xo,X8]at B;cases hx:uK X n cR x S with
   |none=>grind
   |some z=>
    obtain⟨v,T⟩:=z;rw[hx]at h;refine wp_seq (s cR J m x S v T hx B.1 O l a w I σ R F fr K u _ fun f w' r=> ?_).wp;cases v with
    |normal=>
     obtain⟨I',σ',Y,k,P,C,H,L⟩:=r;exact(s cR J m y T e S1 h B.2 Y l f w' I' σ' k.rel P C H L Q fun a2 w2 ho=>A a2 w2 (ho.trans k)).wp
    |exit id=>
     exact ma
    |ret=>
     exact ma
  |cond x p q=>
   simp only[kN]at h;simp only[xo,X8]at B;split at h
   case h_2=>grind
   rename_i t ht;have M:dX w I σ (S.ev x) (a.eval x):=fu F B.1.1;rw[ht]at M;have mQ:=ve M;refine wp_cond mQ ?_;cases t with
   |true=>exact(s cR J m p S e S1 aj B.1.2 O l a w I σ R F fr K u Q A).wp
   |false=>exact(s cR J m q S e S1 aj B.2 O l a w I σ R F fr K u Q A).wp
  |block id b=>
   simp only[kN]at h;cases N:uK X n cR b S with
   |none=>grind
   |some z=>
    obtain⟨v,T⟩:=z;rw[N]at h;refine wp_block (s cR J m b S v T N B O l a w I σ R F fr K u _ fun f w' r=> ?_).wp;cases v with
    |normal=>
     exact ma
    |ret=>
     exact ma
    |exit i=>
     simp only at h;simp only[Ex.ex,Exit.inBlock];split at h
     .rename_i hi;obtain⟨rfl,rfl⟩:=h;simp only[hi,if_true];exact A f w' r
     .rename_i hi;obtain⟨rfl,rfl⟩:=h;simp only[hi,if_false];exact A f w' r
  |loop b=>
   simp only[kN]at h;have au:xo X lD J cR b=true:=by simpa only[xo] using B
   split at h
   case h_2=>grind
   rename_i D aw;obtain⟨W,j,an,s0,hc,G⟩:=Kx Z aw R F fr O l;cases N:uK X n cR b D with
   |none=>grind
   |some z=>
    obtain⟨v,T⟩:=z;rw[N]at h;refine B1.round (s cR J m b D v T N au an l a w W j s0.rel hc G K u _ fun f w' r=> ?_).wp;cases v with
    |normal=>
     obtain⟨I',σ',Y,k,P,C,H,L⟩:=r;exact s cR J m (.loop b) T e S1 h B Y l f w' I' σ' k.rel P C H L Q fun a2 w2 ho=>A a2 w2 (ho.trans (s0.trans k))
    |exit id=>
     obtain⟨rfl,rfl⟩:=h;exact A f w' (r.trans s0)
    |ret=>
     obtain⟨rfl,rfl⟩:=h;exact A f w' (r.trans s0)
  |_=>simp[kN]at h
theorem aag(A:Kw X lD)(N:wL X)(C:v9 X)(K: ∀g,((X.clone g).isSome||(X.pO g).isSome)=true->xm X g)(D:Rf X lD)(V: ∀n,pZ X (dV X (uK X n))):sb X (df X):=by
 intro g args h k v h' k' c;obtain⟨n,W⟩:=nq c;exact B2 A (sound A N C K D V n) g args h k v h' k' W
end
def stepG(X:Env)(C:jv)(cR:FuncId)(dF:List (Option Nat))(n0 k:Nat)(o:Oper)(S:St):Option St:=
 match o.guard with
 |none=>fD X C cR n0 k o S
 |some (j,w)=>
  match dF[j]? with
  |some (some d)=>match S.f d with
   | .bool b=>if b=w then fD X C cR n0 k o S else some (S.set o.dst (.ed []))
   | .ed []=>some (S.set o.dst (.ed []))
   |_=>none
  |_=>none
section
variable {X:Env} {C:jv} {cR:FuncId} {dF:List (Option Nat)} {n0:Nat}
theorem B3(k:Nat)(o:Oper)(l:List Oper)(S:St):gZ X C cR dF n0 k (o::l) S=(match stepG X C cR dF n0 k o S with|some S1=>gZ X C cR dF n0 (k+1) l S1|none=>none):=by
 simp only[gZ,stepG]
 grind
theorem yl: ∀(l m:List Oper) (k:Nat) (S:St),gZ X C cR dF n0 k (l++m) S=(match gZ X C cR dF n0 k l S with|some S1=>gZ X C cR dF n0 (k+l.length) m S1|none=>none)
 | [],m,k,S=>by simp[gZ]
 |o::l,m,k,S=>by
  rw[zP,B3,B3];cases stepG X C cR dF n0 k o S with
  |none=>rfl
  |some S1=>
   simp only;rw[yl l m (k+1) S1,s9,show k+1+l.length=k+(l.length+1) from ab]
def JE(dF:List (Option Nat))(o:Oper)(S k:St):Prop:=
 Alike o S k/\ ∀j w d,o.guard=some (j,w)->dF[j]?=some (some d)->k.f d=S.f d
theorem Hj{k:Nat}{j d:Nat}{w:Bool}(h:o.guard=some (j,w))(u:dF[j]?=some (some d))(f:S.f d= .ed []\/S.f d= .bool (!w)):
  stepG X C cR dF n0 k o S=some (S.set o.dst (.ed [])):=by
 unfold stepG
 grind
theorem rI{k:Nat}(h:stepG X C cR dF n0 k o S=some S1):
  (fD X C cR n0 k o S=some S1/\ ∀S',JE dF o S S'->stepG X C cR dF n0 k o S'=fD X C cR n0 k o S')\/
  (S1=S.set o.dst (.ed [])/\ ∀S',JE dF o S S'->stepG X C cR dF n0 k o S'=some (S'.set o.dst (.ed []))):=by
 unfold stepG at h;cases T:o.guard with
 |none=>
  simp only[T]at h;exact .inl ⟨h,fun S' _=>by simp only[stepG,T]⟩
 |some g=>
  obtain⟨j,w⟩:=g;simp only[T]at h;cases u:dF[j]? with
  |none=>grind
  |some x=>
   cases x with
   |none=>grind
   |some d=>
    simp only[u]at h;cases K:S.f d with
    |bool b=>
     simp only[K]at h;have f: ∀S',JE dF o S S'->S'.f d= .bool b:=fun S' s=>by rw[s.2 j w d T u];omega
     split at h
     .rename_i e;exact .inl ⟨h,fun S' s=>by simp only[stepG,T,u,f S' s,e,if_true]⟩
     .rename_i e;simp only[aS]at h;exact .inr ⟨h.symm,fun S' s=>by simp only[stepG,T,u,f S' s,e,if_false]⟩
    |ed l=>
     cases l with
     |nil=>
      simp only[K,aS]at h;have f: ∀S',JE dF o S S'->S'.f d= .ed []:=fun S' s=>by rw[s.2 j w d T u];omega
      exact .inr ⟨h.symm,fun S' s=>by simp only[stepG,T,u,f S' s]⟩
     |cons _ _=>grind
    |_=>grind
theorem L9{k:Nat}(c:cls X cR o=0)(e:stepG X C cR dF n0 k o S=some S1): ∃v,S1=S.set o.dst v/\ ∀S',JE dF o S S'->stepG X C cR dF n0 k o S'=some (S'.set o.dst v):=by
 rcases rI e with⟨h1,K⟩|⟨h1,K⟩
 .obtain⟨v,T,a⟩:=a0m c h1;exact⟨v,T,fun S' h=>by rw[K S' h];exact a S' h.1⟩
 grind
theorem L8{k:Nat}(c:cls X cR o=1)(e:stepG X C cR dF n0 k o S=some S1): ∃v,S1=S.set o.dst v/\ ∀S',JE dF o S S'->Sub S.h S'.h->stepG X C cR dF n0 k o S'=some (S'.set o.dst v):=by
 rcases rI e with⟨h1,K⟩|⟨h1,K⟩
 .obtain⟨v,T,a⟩:=a0n c h1;exact⟨v,T,fun S' h B=>by rw[K S' h];exact a S' h.1 B⟩
 grind
def CW(h:bI)(id:Nat):Option Ob->bI
 |some ob=>bB h id (some ob)
 |none=>h
theorem L7{k:Nat}(c:cls X cR o=2)(e:stepG X C cR dF n0 k o S=some S1): ∃v ob,S1=({S with h:=CW S.h (n0+k) ob}:St).set o.dst v/\
  ∀j,JE dF o S j->stepG X C cR dF n0 k o j=some (({j with h:=CW j.h (n0+k) ob}:St).set o.dst v):=by
 rcases rI e with⟨h1,K⟩|⟨h1,K⟩
 .obtain⟨v,ob,T,a⟩:=a0o c h1;exact⟨v,some ob,T,fun j s=>by rw[K j s];exact a j s.1⟩
 .exact⟨_,none,h1,K⟩
theorem Rg{k:Nat}(e:stepG X C cR dF n0 k o S=some S1): ∃v,S1=({S with h:=S1.h,n:=S1.n}:St).set o.dst v/\
  ∀j,JE dF o S j->j.h=S.h->j.n=S.n->stepG X C cR dF n0 k o j=some (({j with h:=S1.h,n:=S1.n}:St).set o.dst v):=by
 rcases rI e with⟨h1,K⟩|⟨h1,K⟩
 .obtain⟨v,T,b⟩:=a0p h1;exact⟨v,T,fun j s a W=>by rw[K j s];exact b j s.1 a W⟩
 .refine⟨.ed [],by rw[h1,fw,ik],fun j s a W=> ?_⟩;rw[K j s,h1,fw,ik,<-a,<-W]
theorem HR(q:sj X C){k:Nat}(h:stepG X C cR dF n0 k o S=some S1):S.n<=S1.n/\ ∀id,id≠n0+k->id<S.n->S.h id=none->S1.h id=none:=by
 rcases rI h with⟨h1,_⟩|⟨h1,_⟩
 .exact AM q h1
 .subst h1;rw[fw,ik]
  grind
theorem trace{L:List Oper}(e:gZ X C cR dF n0 0 L S0=some F): ∃T:Nat->St,T 0=S0/\T L.length=F/\(∀p,p<=L.length->gZ X C cR dF n0 0 (L.take p) S0=some (T p))/\
  ∀k o,L[k]?=some o->stepG X C cR dF n0 k o (T k)=some (T (k+1)):=by
 have pre: ∀p,p<=L.length-> ∃S,gZ X C cR dF n0 0 (L.take p) S0=some S:=by
  intro p m;have:=yl (X:=X) (C:=C) (cR:=cR) (dF:=dF) (n0:=n0) (L.take p) (L.drop p) 0 S0;rw[List.take_append_drop,e]at this;cases hx:gZ X C cR dF n0 0 (L.take p) S0 with
  |none=>grind
  |some S=>grind
 refine⟨fun p=>(gZ X C cR dF n0 0 (L.take p) S0).getD S0,?_,?_,fun p m=> ?_,fun k o y=> ?_⟩
 .simp[gZ]
 .grind
 .grind
 .have l:k<L.length:=(List.getElem?_eq_some_iff.1 y).1;obtain⟨A,a⟩:=pre k ab;obtain⟨B,i⟩:=pre (k+1) ab;have N:L.take (k+1)=L.take k++ [o]:=by
   rw[zZ,y];rfl
  have h:=i;rw[N,yl,a]at h;simp only[sr,vy]at h;rw[B3,Jg ab]at h;show stepG X C cR dF n0 k o ((gZ X C cR dF n0 0 (L.take k) S0).getD S0)=some ((gZ X C cR dF n0 0 (L.take (k+1)) S0).getD S0);rw[a,i];simp only[tj];cases s:stepG X C cR dF n0 k o A with
  |none=>grind
  |some S1=>
   rw[s]at h;exact h
end
end Go.Abs
