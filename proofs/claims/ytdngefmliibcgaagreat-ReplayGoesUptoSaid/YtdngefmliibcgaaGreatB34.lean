import Derived.Test.YtdngefmliibcgaaGreatB33
import Derived.Lib.SliceRun
import Derived.Orders
set_option linter.all false
set_option maxRecDepth 20000
set_option maxHeartbeats 0
namespace Go.Abs
open Go
variable  {ob:Ob}{Q:Exit->Act->World->Prop}{w w':World}
section
variable {h h' h1 G:bI} {n:Nat}
theorem vZ.off(H:vZ h G n){id:Nat}(g:h id=some ob):G id=none:=by
 cases S:G id with
 |none=>rfl
 |some x=>rw[(H id aj).1]at g;grind
theorem vZ.xl(H:vZ h G n){id:Nat}(f:n<=id):G id=none:=by
 cases g:G id with
 |none=>rfl
 |some x=>have:=(H id aj).2;omega
theorem LK{id:Nat}(g:G id=none):pY h G id=h id:=by unfold pY;rw[g]
theorem vZ.get(H:vZ h G n){id:Nat}(g:h id=some ob):pY h G id=some ob:=by rw[LK (H.off g),g]
theorem m9{id:Nat}{x:Option Ob}(g:G id=none):bB (pY h G) id x=pY (bB h id x) G:=by
 funext i;unfold pY bB
 grind
theorem vZ.bB(H:vZ h G n){id:Nat}{x:Option Ob}(g:G id=none):vZ (bB h id x) G n:=by
 intro i j;have e:i≠id:=fun e=>aj
 have:=H i j
 grind [bB]
theorem vZ.sub(H:vZ h G n)(s: ∀i,h i=none->h' i=none):vZ h' G n:=fun i j=>⟨s i (H i j).1,(H i j).2⟩
theorem vZ.M1(H:vZ h G n):Sub h (pY h G):=fun id ob g=>H.get g
theorem Hk(H:vZ h G n){v U:V}(g:pQ h v=some (U,h1)):pQ (pY h G) v=some (U,pY h1 G)/\vZ h1 G n:=by
 unfold pQ at g⊢;split at g
 .rename_i id s l;cases X:h id with
  |none=>grind
  |some ob=>
   simp only[X]at g;simp only[H.get X];split at g
   .rename_i c;rw[if_pos c];obtain⟨rfl,rfl⟩:=g;have:=H.off X;exact⟨by rw[m9 this],H.bB this⟩
   grind
 grind
theorem Hl: ∀{cs s:List V} {h h1:bI},vZ h G n->eY h cs=some (s,h1)->eY (pY h G) cs=some (s,pY h1 G)/\vZ h1 G n
 | [],s,h,h1,H,g=>by
  exact n_
 |c::cs,s,h,h1,H,g=>by
  simp only[eY]at g⊢;split at g
  case h_2=>grind
  rename_i c' K m;obtain⟨i,o⟩:=Hk H m;split at g
  case h_2=>grind
  rename_i J S B;obtain⟨e,u⟩:=Hl o B
  grind
theorem DZ(H:vZ h G n){v U:V}(g:re h v=some (U,h1)):re (pY h G) v=some (U,pY h1 G)/\vZ h1 G n:=by
 unfold re at g⊢;split at g
 .split at g
  case h_2=>grind
  rename_i s K l;obtain⟨e,m⟩:=Hl H l
  grind
 .exact Hk H g
theorem Hm: ∀{ps z:List (Nat×V)} {h h1:bI},vZ h G n->mV h ps=some (z,h1)->mV (pY h G) ps=some (z,pY h1 G)/\vZ h1 G n
 | [],z,h,h1,H,g=>by
  exact n_
 |(i,c)::cs,z,h,h1,H,g=>by
  simp only[mV]at g⊢;split at g
  case h_2=>grind
  rename_i c' K m;obtain⟨j,o⟩:=DZ H m;split at g
  case h_2=>grind
  rename_i s S B;obtain⟨e,u⟩:=Hm o B
  grind
theorem B4: ∀{ps z:List V} {h h1:bI},vZ h G n->sQ h ps=some (z,h1)->sQ (pY h G) ps=some (z,pY h1 G)/\vZ h1 G n
 | [],z,h,h1,H,g=>by
  exact n_
 |c::cs,z,h,h1,H,g=>by
  simp only[sQ]at g⊢;split at g
  case h_2=>grind
  rename_i c' K m;obtain⟨i,o⟩:=DZ H m;split at g
  case h_2=>grind
  rename_i s S B;obtain⟨e,u⟩:=B4 o B
  grind
theorem ym(H:vZ h G n){v:V}{r:List V×Bool}(e:elems h v=some r):elems (pY h G) v=some r:=by
 unfold elems at e⊢;split at e
 .omega
 .rename_i id s l;cases g:h id with
  |none=>grind
  |some ob=>simp only[g]at e;simp only[H.get g];omega
 .omega
 omega
theorem B5: ∀{l:List (Option Nat)} {h:bI},vZ h G n->(∀i,some i∈l->G i=none)->gN (pY h G) l=pY (gN h l) G/\vZ (gN h l) G n
 | [],h,H,_=>⟨rfl,H⟩
 |none::l,h,H,I=>B5 (l:=l) H fun i j=>I i (u' _ j)
 |some i::l,h,H,I=>by
  obtain⟨e,m⟩:=B5 (l:=l) H fun i j=>I i (u' _ j);have g:=I i (t5 ..);simp only[gN];exact⟨by rw[e,m9 g],m.bB g⟩
theorem D0{X:Env}{kp:TypeId->Bool}{R:V}: ∀{m:Mask} {k:Nat} {h:bI},(∀i,k<=i->G i=none)->zj X kp R k m (pY h G)=pY (zj X kp R k m h) G
 | [],k,h,_=>rfl
 |q::m,k,h,y=>by
  simp only[zj];rw[D0 (fun i j=>y i ab),m9 (y k (iX _))]
theorem Rh{X:Env}{hx:bI}(H:vZ h G n){t:TypeId}{c:V}(r:(rowAt X h hx t c).isSome=true):rowAt X (pY h G) hx t c=rowAt X h hx t c/\ ∀i,c.src=some i->G i=none:=by
 unfold rowAt at r⊢;split at r
 .exact⟨rfl,fun i j=>by simp[V.src]at j⟩
 .rename_i id s l;cases g:h id with
  |none=>grind
  |some ob=>
   simp only[H.get g];exact⟨trivial,fun i j=>by simp only[V.src,aS]at j;subst j;exact H.off g⟩
 grind
theorem B6{F w:Nat->V->V}: ∀{cs:List V} {k:Nat},(∀j c,cs[j]?=some c->F (k+j) c=w (k+j) c)->sO F k cs=sO w k cs
 | [],k,_=>rfl
 |c::cs,k,h=>by
  have i:F k c=w k c:=by simpa using h 0 c ai
  have e:sO F (k+1) cs=sO w (k+1) cs:=B6 fun j c' q=>by
   have:=h (j+1) c' aj
   grind
  simp only[sO,i,e]
theorem Hn{F w:Nat->V->V}{v:V}(i: ∀j,F j (v.cells.getD j .bad)=w j (v.cells.getD j .bad)):vY F v=vY w v:=by
 by_cases h: ∃cs,v= .agg cs
 .obtain⟨cs,rfl⟩:=h;rw[zK,zK,B6 fun j c q=> ?_];have:=i j;simpa[V.cells,rT,q] using this
 .have h': ∀cs,v≠ .agg cs:=fun cs e=>h ⟨cs,e⟩;rw[se F h',se w h'];have:=i 0;rw[mP h']at this
  grind
theorem Ri{F w:Nat->Nat->V->V}{v:V}(k: ∀i j,F i j (v.cellAt i j)=w i j (v.cellAt i j)):wD F v=wD w v:=by
 by_cases h: ∃cs,v= .ed cs
 .obtain⟨cs,rfl⟩:=h;rw[zL,zL,B6 fun i c l=> ?_];refine Hn fun j=> ?_;have:=k i j;simp only[V.cellAt,rT,l,tj]at this
  grind
 .have h': ∀cs,v≠ .ed cs:=fun cs e=>h ⟨cs,e⟩;rw[vk F h',vk w h'];refine Hn fun j=> ?_;have:=k 0 j;have e:v.cellAt 0 j=v.cells.getD j .bad:=by
   cases v with
   |ed cs=>grind
   |_=>rfl
  grind
theorem V6{X:Env}{hx:bI}(H:vZ h G n){v R:V}{m:Mask}(r:CI X h hx v m=some R):CI X (pY h G) hx v m=some R/\ ∀i,some i∈iI v m->G i=none:=by
 unfold CI at r⊢;split at r
 case isFalse=>grind
 rename_i c;simp only[X8]at c;have P: ∀q∈m,rowAt X (pY h G) hx q.2.2 (v.cellAt q.1 q.2.1)=rowAt X h hx q.2.2 (v.cellAt q.1 q.2.1)/\ ∀i,(v.cellAt q.1 q.2.1).src=some i->G i=none:=fun q u=>Rh H (List.all_eq_true.1 c.2 q u);have F:m.all (fun q=>(rowAt X (pY h G) hx q.2.2 (v.cellAt q.1 q.2.1)).isSome)=true:=by
  rw[rZ];intro q u;rw[(P q u).1];exact List.all_eq_true.1 c.2 q u
 refine⟨?_,fun i k=> ?_⟩
 .simp only[c.1,F,Bool.and_self,if_true];rw[<-r];congr 1;refine Ri fun i j=> ?_;unfold mX;cases O:nj 0 m i j with
  |none=>rfl
  |some p=>
   obtain⟨_,u⟩:=wb O
   grind
 .obtain⟨q,u,e⟩:=List.mem_map.1 k
  grind
end
section
variable {X:Env} {C:jv} {cR:FuncId} {dst:Option Nat} {g:FuncId} {args:List V} {S S1:St} {G:bI}
theorem qO(S:St)(d:Option Nat)(v:V)(h:bI):({S.set d v with h:=h}:St)=({S with h:=h}:St).set d v:=fe
theorem X1(H:vZ S.h G S.n)(D:wG X C cR dst g args S=some S1):wG X C cR dst g args {S with h:=pY S.h G}=some {S1 with h:=pY S1.h G}:=by
 unfold wG at D⊢;split at D
 case h_2=>grind
 split at D
 case h_2=>grind
 rename_i ob w;split at D
 case h_2=>grind
 rename_i e Z;split at D
 case isFalse=>grind
 rename_i k;split at D
 case h_2=>grind
 rename_i R I;split at D
 case h_2=>grind
 rename_i bxb h1 T;split at D
 case h_2=>grind
 rename_i v h n c;split at D
 case h_2=>grind
 rename_i V r s U;simp only[aS]at D;subst D;have o:=H.off w;have m:=H.bB (x:=none) o;obtain⟨p,K⟩:=V6 m I;obtain⟨y,E⟩:=B5 m K;obtain⟨F,L⟩:=B4 E T;simp only[H.get w,Z,k,if_true,m9 o,p,y,F,c,U];rw[qO,fw,D0 (fun i j=>H.xl j)]
theorem V7(H:vZ S.h G S.n)(e:np X C cR dst g args S=some S1):np X C cR dst g args {S with h:=pY S.h G}=some {S1 with h:=pY S1.h G}:=by
 unfold np at e⊢;split at e
 case h_2=>grind
 rename_i bxb h1 T;split at e
 case h_2=>grind
 rename_i v h n c;split at e
 case h_2=>grind
 rename_i r R;simp only[aS]at e;subst e;obtain⟨F,K⟩:=B4 H T;simp only[F,c,R];rw[qO,fw,D0 (fun i j=>H.xl j)]
theorem V8(O:pZ X C)(H:vZ S.h G S.n)(e:iv X C cR dst g args S=some S1):iv X C cR dst g args {S with h:=pY S.h G}=some {S1 with h:=pY S1.h G}:=by
 unfold iv at e⊢;split at e
 .split at e
  case h_2=>grind
  split at e
  case h_2=>grind
  rename_i es x u;split at e
  .grind
  rename_i U;simp only[aS]at e;subst e;simp only[ym H u];rw[if_neg U,qO,fw];simp only[St.new,m9 (H.xl (iX _))]
 .by_cases f:(X.ja g&& !X.low g)=true
  .simp only[f,if_true]at e⊢;split at e
   case h_2=>grind
   rename_i v h n c;simp only[aS]at e;subst e;have k:X.low g=false:=by simp only[X8,sG]at f;exact f.2
   simp only[O _ _ _ _ _ _ _ G k H c];rw[qO,fw]
  simp only[f,r3,if_false]at e⊢;split at e
  .rename_i E;rw[if_pos E];exact X1 H e
  rename_i E;rw[if_neg E];split at e
  .rename_i J;rw[if_pos J];exact V7 H e
  rename_i J;rw[if_neg J];split at e
  case h_2=>grind
  rename_i bxb s;have a:di (args.map (da (pY S.h G) depth))=some bxb:=zO H.M1 s;split at e
  .rename_i F;split at e
   case h_2=>grind
   rename_i v h n c;split at e
   .grind
   rename_i r;simp only[aS]at e;subst e;have z:(fun id=>if id<S.n then pY S.h G id else if args.any V.zi=true then j6 (h id) else h id)=pY (fun id=>if id<S.n then S.h id else if args.any V.zi=true then j6 (h id) else h id) G:=by
    funext i;unfold pY;by_cases j:i<S.n
    .grind
    .simp only[j,if_false,H.xl (C3 j)]
   simp only[a,F,if_true,c];rw[if_neg r,qO,fw,z]
  .rename_i F;split at e
   case h_2=>grind
   rename_i v h n c;split at e
   case h_2=>grind
   rename_i W N;split at e
   .grind
   rename_i U;simp only[aS]at e;subst e;simp only[a,F,if_false,r3,c,N];rw[if_neg U,qO,fw]
theorem V9{o:Oper}{u:Operand->V}{h h1:bI}{n E k:Nat}{v:V}(H:vZ h G k)(W:G n=none)(p:cls X cR o=3)(C:dm X cR o u h n=some (v,h1,E)):dm X cR o u (pY h G) n=some (v,pY h1 G,E):=by
 obtain⟨d,op,ty,pos,after,guard⟩:=o;cases op with
 |store t a x=>
  simp only[dm]at C⊢;split at C
  case h_2=>grind
  rename_i id i f ha;cases g:h id with
  |none=>grind
  |some ob=>
   simp only[g]at C;simp only[H.get g];cases S:ob.eP with
   |true=>
    simp only[S,if_true]at C⊢;simp only[g]at C;simp only[H.get g];split at C
    case h_2=>grind
    split at C
    case isFalse=>grind
    exact pn
   |false=>
    simp only[S,if_false,r3]at C⊢;split at C
    case h_2=>grind
    rename_i R K T;obtain⟨B,I⟩:=DZ H T;simp only[B];cases q:K id with
    |none=>grind
    |some L=>
     simp only[q]at C;simp only[I.get q];split at C
     case h_2=>grind
     split at C
     case isFalse=>grind
     exact pn
 |buildSlice t m ps=>
  simp only[dm]at C⊢;split at C
  .rename_i A;simp only[cls,A,if_true]at p;omega
  .rename_i A;rw[if_neg A];split at C
   .rename_i y;rw[if_pos y];split at C
    case h_2=>grind
    rename_i l K T;split at C
    case h_2=>grind
    grind
   rename_i y;rw[if_neg y];split at C
   case h_2=>grind
   rename_i l K T;obtain⟨B,I⟩:=Hm H T;simp only[B];split at C
   case h_2=>grind
   split at C
   .rename_i M;rw[if_pos M];obtain⟨rfl,rfl,rfl⟩:=C;rw[m9 W]
   grind
 |call c=>
  obtain⟨VS,args,mW⟩:=c;cases VS with
  |value x=>simp[dm]at C
  |builtin b=>
   cases b with
   |append=>
    simp only[dm]at C⊢;split at C
    case h_2=>grind
    rename_i s x hl;split at C
    case h_2=>grind
    rename_i es aw U Y j w;simp only[ym H j,ym H w];split at C
    .grind
    rename_i D;rw[if_neg D];split at C
    case isFalse=>grind
    rename_i F;rw[if_pos F];split at C
    .obtain⟨rfl,rfl,rfl⟩:=C;rw[m9 W]
    .grind
    .rename_i id _ _;cases g:h id with
     |none=>grind
     |some ob=>
      simp only[g]at C;simp only[H.get g];split at C
      case isFalse=>grind
      rename_i Q;rw[if_pos Q];obtain⟨rfl,rfl,rfl⟩:=C;rw[m9 (H.off g),m9 W]
    grind
   |copy=>
    simp only[dm]at C⊢;split at C
    case h_2=>grind
    split at C
    case h_2=>grind
    rename_i ob U Y j w;simp only[H.get j,ym H w];split at C
    .grind
    rename_i D;rw[if_neg D];split at C
    case isFalse=>grind
    rename_i F;rw[if_pos F];obtain⟨rfl,rfl,rfl⟩:=C;rw[m9 (H.off j)]
   |len|min|max=>exact absurd (show(0:Nat)=3 from p) aG
   |_=>simp[dm]at C
  |_=>simp[dm]at C
 |convert aq hb O=>simp only[cls]at p;grind
 |slice t x hr hi au=>
  simp only[cls]at p;split at p
  case isFalse=>omega
  rename_i an;simp only[dm]at C⊢;split at C
  case isFalse=>grind
  rename_i J;rw[if_pos J];have N: ∀{z:V},u x=z->z.CH=false->False:=fun{z} e hz=>aj
  cases hx:u x with
  |ptr id i f=>
   simp only[hx]at C⊢;cases i with
   |succ i=>grind
   |zero=>
   cases f with
   |succ f=>grind
   |zero=>
   simp only at C⊢;cases g:h id with
   |none=>grind
   |some ob=>
    rw[g]at C;rw[H.get g];split at C
    case h_2=>grind
    rename_i m po P Z;simp only[aS]at Z;split at C
    case h_2=>grind
    split at C
    case isFalse=>grind
    rename_i r;obtain⟨rfl,rfl,rfl⟩:=C;rw[if_pos r,m9 (H.off g)]
  |_=>exact(N hx rfl).elim
 |move|assign|pick|build|nilCheck|binOp|unOp|makeFunc|fieldAddr|index|field|extract=>exact absurd (show(0:Nat)=3 from p) aG
 |load|indexAddr=>exact absurd (show(1:Nat)=3 from p) aG
 |alloc|box|makeSlice=>exact absurd (show(2:Nat)=3 from p) aG
 |_=>simp[dm]at C
theorem Ho{o:Oper}{S:St}{h h1:bI}{n s k:Nat}{v:V}(H:vZ h G k)(W:G n=none)(Y: ∀x args mW,o.op≠ .call ⟨.value x,args,mW⟩)(C:dm X cR o S.ev h n=some (v,h1,s)):dm X cR o S.ev (pY h G) n=some (v,pY h1 G,s):=by
 have l:cls X cR o=0\/cls X cR o=1\/cls X cR o=2\/cls X cR o=3:=by
  unfold cls;repeat' split
  all_goals simp
 rcases l with c|c|c|c
 .obtain⟨e,a⟩:=core0 (fun _=>rfl) c C
  grind
 .obtain⟨e,a⟩:=Z8 c Y C;rw[e];have K:=a h n (fun _ _ x=>x);rw[C]at K;simp only[aS,cy,true_and]at K;rw[K.2];exact a _ _ H.M1
 .obtain⟨ob,e,a⟩:=HT c C;have K:=a h;rw[C]at K;simp only[aS,cy,true_and]at K;rw[e,K.2,a,m9 W]
 .exact V9 H W c C
theorem D1(O:pZ X C){n0 j:Nat}{o:Oper}(H:vZ S.h G S.n)(n:G (n0+j)=none)(e:fD X C cR n0 j o S=some S1):fD X C cR n0 j o {S with h:=pY S.h G}=some {S1 with h:=pY S1.h G}:=by
 unfold fD at e⊢;split at e
 .have D:({S with h:=pY S.h G}:St).ev=S.ev:=by funext y;cases y<;>rfl
  rw[D];split at e
  case h_2=>grind
  exact V8 O H e
 .rename_i k;have D:({S with h:=pY S.h G}:St).ev=S.ev:=by funext y;cases y<;>rfl
  rw[D];split at e
  case h_2=>grind
  rename_i v h1 s a;simp only[aS]at e;subst e;simp only[Ho H n k a];rw[qO,fw]
theorem Rj(O:pZ X C){dF:List (Option Nat)}{n0 j:Nat}{o:Oper}(H:vZ S.h G S.n)(n:G (n0+j)=none)(e:stepG X C cR dF n0 j o S=some S1):stepG X C cR dF n0 j o {S with h:=pY S.h G}=some {S1 with h:=pY S1.h G}:=by
 unfold stepG at e⊢;split at e
 .exact D1 O H n e
 .split at e
  case h_2=>grind
  split at e
  .rename_i b f;simp only[f];split at e
   .rename_i W;rw[if_pos W];exact D1 O H n e
   .rename_i W;rw[if_neg W];simp only[aS]at e;subst e;rw[qO,fw]
  .rename_i f;simp only[f];simp only[aS]at e;subst e;rw[qO,fw]
  grind
theorem CX(O:pZ X C)(N:sj X C){dF:List (Option Nat)}{n0:Nat}: ∀{l:List Oper} {k:Nat} {S S1:St},vZ S.h G n0->n0<=S.n->gZ X C cR dF n0 k l S=some S1->gZ X C cR dF n0 k l {S with h:=pY S.h G}=some {S1 with h:=pY S1.h G}
 | [],k,S,S1,H,n,e=>by
  simp only[gZ,aS]at e⊢
  grind
 |o::l,k,S,S1,H,n,e=>by
  have W:G (n0+k)=none:=H.xl ab;have f:vZ S.h G S.n:=fun i j=>⟨(H i j).1,de⟩;have two: ∀{T:St},fD X C cR n0 k o S=some T->gZ X C cR dF n0 (k+1) l T=some S1->fD X C cR n0 k o {S with h:=pY S.h G}=some {T with h:=pY T.h G}/\gZ X C cR dF n0 (k+1) l {T with h:=pY T.h G}=some {S1 with h:=pY S1.h G}:=fun{T} h1 K=>by
   obtain⟨a1,a2⟩:=AM N h1;exact⟨D1 O f W h1,CX O N (fun i j=>⟨a2 i aj de (H i j).1,(H i j).2⟩) ab K⟩
  have skip:gZ X C cR dF n0 (k+1) l (S.set o.dst (.ed []))=some S1->gZ X C cR dF n0 (k+1) l (({S with h:=pY S.h G}:St).set o.dst (.ed []))=some {S1 with h:=pY S1.h G}:=fun U=>by
   have:=CX O N (S:=S.set o.dst (.ed [])) (by rw[fw];exact H) gO U;rw[qO,fw]at this;omega
  simp only[gZ]at e⊢;split at e
  .grind
  .split at e
   case h_2=>grind
   split at e
   .grind
   .grind
   grind
theorem Od(O:pZ X C)(N:sj X C){ops:List Oper}{n0:Nat}{S0:St}{l:List (Nat×Nat)}(H:vZ S0.h G n0)(n:n0<=S0.n)(s:lL X C cR ops n0 S0 S1 l):
  lL X C cR ops n0 {S0 with h:=pY S0.h G} {S1 with h:=pY S1.h G} l:=by
 intro q u;rcases s q u with⟨o,h1,K⟩|⟨o,T,v,h1,K,U,a⟩
 .exact .inl ⟨o,h1,K⟩
 .have W:=Hg N K;refine .inr ⟨o,{T with h:=pY T.h G},v,h1,CX O N H n K,?_,a⟩;have I:vZ T.h G n0:=fun i j=>⟨W.2 i de de (H i j).1,(H i j).2⟩;refine Ho (S:=S1) I (I.xl ab) (fun x args m e=> ?_) U;obtain⟨dst,op,ty,pos,after,guard⟩:=o;subst e;simp[dm]at U
end
def LG(X:Env)(E:Ev):Prop:= ∀f c S e S1 G,X.low f=false->vZ S.h G S.n->E f c S=some (e,S1)->E f c {S with h:=pY S.h G}=some (e,{S1 with h:=pY S1.h G})
def B7{m s:Type}{f g:m->Option s}: ∀(l:List m) {r:List s},di (l.map f)=some r->(∀x y,f x=some y->g x=some y)->di (l.map g)=some r
 | [],r,h,_=>h
 |a::l,r,h,S=>by
  simp only[r2]at h⊢;cases W:f a with
  |none=>rw[W]at h;simp[di]at h
  |some b=>
   rw[W]at h;rw[S a b W];simp only[di]at h⊢;split at h
   case h_2=>cases h
   rename_i C B;rw[B7 l B S];exact h
def BD{X:Env}{E:Ev}(I:LG X E)(N: ∀f c S e S1,X.low f=false->E f c S=some (e,S1)-> ∀id,id<S.n->S.h id=none->S1.h id=none):pZ X (dV X E):=by
 intro g args h k v h' k' G l H m;unfold dV at m⊢;have L:X.pO g=none:=by
  cases L:X.pO g with
  |none=>rfl
  |some p=>grind
 simp only[L]at m⊢;split at m
 case h_2=>grind
 rename_i fn M;split at m
 case h_2=>grind
 rename_i b j;cases C:E g b ⟨pS args,h,k⟩ with
 |none=>simp[C,xf]at m
 |some x=>
  obtain⟨e,S1⟩:=x;have h1:=I _ _ ⟨pS args,h,k⟩ _ _ G l H C;have B: ∀id ob,S1.h id=some ob->pY S1.h G id=some ob:=fun id ob z=>by
   cases U:G id with
   |none=>rw[LK U,z]
   |some x=>
    have T:=H id aj;have d:=N _ _ _ _ _ l C id T.2 T.1
    grind
  have D: ∀{v:V},nO X fn.results.toList S1=some v->nO X fn.results.toList {S1 with h:=pY S1.h G}=some v:=fun{v} r=>by
   unfold nO at r⊢;split at r
   .rename_i A K;rw[B7 _ K fun x y w=> ?_]
    .omega
    .cases x with
     |tmp t=>omega
     |cell a t=>
      grind
   .rename_i vs s K;rw[B7 _ K fun x y w=> ?_]
    .grind
    .cases x with
     |tmp t=>omega
     |cell a t=>
      grind
   grind
  rw[C]at m;rw[h1];cases e with
  |exit i=>simp[xf]at m
  |normal|ret=>
   simp only[xf]at m⊢
   grind
def Oe{X:Env}(N:wL X)(n:Nat): ∀f c S e S1,X.low f=false->uK X n f c S=some (e,S1)-> ∀id,id<S.n->S.h id=none->S1.h id=none:=fun f c S e S1 l C id h1 K=>
 (zQ N n f c S e S1 S.n C (iX _) (fun h=>aj)).2 id h1 K
def Of{X:Env}(g:wL X): ∀n,LG X (uK X n)
 |0=>fun f c S e S1 G _ _ C=>by simp[uK]at C
 |n+1=>by
  have j:=Of g n;have O:=BD (X:=X) j (Oe g n);have q:=wM (X:=X) (zQ g n);intro f c S e S1 G l H C;have F: ∀key,X.norm f key=none:=fun key=>by
   cases A:X.norm f key with
   |none=>rfl
   |some N=>have:=(g f key N A).2.1;grind
  have W: ∀key (S:St),pD X f key S=some S:=fun key S=>by unfold pD;grind
  have news: ∀{c:Code} {S S1:St} {e:Ex},uK X n f c S=some (e,S1)->vZ S.h G S.n->vZ S1.h G S1.n:=fun{c S S1 e} h1 K=>by
   have U:=zQ g n f c S e S1 S.n h1 (iX _) (fun h=>aj);exact fun i k=>⟨U.2 i (K i k).2 (K i k).1,by have:=(K i k).2;omega⟩
  rw[uK]at C⊢;cases c with
  |skip|exit _|ret=>
   simp only[kN,aS,cy]at C⊢
   grind
  |region id ops d=>
   simp only[kN,W]at C⊢;split at C
   case h_2=>grind
   rename_i T D;split at C
   case isFalse=>grind
   rename_i u;obtain⟨rfl,rfl⟩:=C;have r:=CX O q (S:={S with n:=S.n+ops.size}) H ai D;have Y:=Od O q (S0:={S with n:=S.n+ops.size}) H ai u
   grind
  |seq x y=>
   simp only[kN]at C⊢;cases hx:uK X n f x S with
   |none=>grind
   |some z=>
    obtain⟨p,T⟩:=z;rw[hx]at C;rw[j _ _ _ _ _ G l H hx];cases p with
    |normal=>exact j _ _ _ _ _ G l (news hx H) C
    |exit i|ret=>
     grind
  |cond x a b=>
   simp only[kN]at C⊢;have D:({S with h:=pY S.h G}:St).ev x=S.ev x:=by cases x<;>rfl
   rw[D];split at C
   .split at C
    .rename_i m;rw[if_pos m];exact j _ _ _ _ _ G l H C
    .rename_i m;rw[if_neg m];exact j _ _ _ _ _ G l H C
   grind
  |block i b=>
   simp only[kN]at C⊢;cases hx:uK X n f b S with
   |none=>grind
   |some z=>
    obtain⟨p,T⟩:=z;rw[hx]at C;rw[j _ _ _ _ _ G l H hx]
    grind
  |loop b=>
   simp only[kN,W]at C⊢;cases hx:uK X n f b S with
   |none=>grind
   |some z=>
    obtain⟨p,T⟩:=z;rw[hx]at C;rw[j _ _ _ _ _ G l H hx];cases p with
    |normal=>exact j _ _ _ _ _ G l (news hx H) C
    |exit i|ret=>
     grind
  |_=>simp[kN]at C
def aal{X:Env}(h:wL X)(n:Nat):pZ X (dV X (uK X n)):=BD (Of h n) (Oe h n)
def y5(L:List Oper):List (List Nat):=
 L.foldl (fun a o=>a++ [((o.after.toList.filter (Region.binds .any)).flatMap fun e=>e.on::a.getD e.on []).eraseDups]) []
def wr(cl:List Nat)(p:Nat):Bool:=cl.getD p 0==3
def HP(cl:List Nat)(B:List (List Nat))(j p:Nat):Bool:=
 (List.range cl.length).all fun w=> !wr cl w||((!(B.getD j []).contains w||decide (w<p))&& (!(B.getD w []).contains j||decide (p<=w)))
def M0(cl:List Nat)(B:List (List Nat))(j p:Nat):Bool:=
 decide (p<=j)&& (List.range cl.length).all fun w=>(!wr cl w||(decide (w<j)==decide (w<p)))&& (!(cl.getD w 0==2&&decide (p<=w)&&decide (w<j))||(B.getD j []).contains w)
def lD(X:Env)(cR:FuncId)(id:Nat)(ops:Array Oper):Bool:=
 let L:=ops.toList;let B:=y5 L;let cl:=L.map (cls X cR);let d:=L.map (·.dst)
 X.P.follows .mixedOrders&&
 (List.range L.length).all fun j=>
  match L[j]? with
  |none=>true
  |some o=>
   let b:=B.getD j []
   (o.after.toList.all fun e=> !Region.binds .any e||decide (e.on<j))&&
   (b.all fun i=>decide (i<j)&&o.after.toList.any fun e=>Region.binds .any e&& (e.on==i||(B.getD e.on []).contains i))&&
   ((List.range j).all fun i=>(d.getD i none==none||d.getD i none !=o.dst)&&
    (!(wr cl j&&decide (2<=cl.getD i 0))||b.contains i))&&
   ((o.looksAt ops).all fun t=>(List.range L.length).all fun k=>d.getD k none !=some t||b.contains k||((B.getD k []).contains j&& !(X.uz cR id).any fun q=>q.1==j))&&
   (!(cl.getD j 0==1)||(List.range (L.length+1)).all fun p=> !(p==0||wr cl (p-1))|| !HP cl B j p||M0 cl B j p||(X.uz cR id).contains (j,p))
structure HO (X:Env) (cR:FuncId) (id:Nat) (ops:Array Oper) (B:Nat->List Nat):Prop where
 mixed:X.P.follows .mixedOrders=true
 a9g: ∀j o e,ops.toList[j]?=some o->e∈o.after->Region.binds .any e=true->e.on<j
 lt: ∀j i,j<ops.size->i∈B j->i<j
 bef: ∀j o i,ops.toList[j]?=some o->i∈B j-> ∃e∈o.after,Region.binds .any e=true/\(e.on=i\/i∈B e.on)
 dst: ∀(i j:Nat) oi oj t,i<j->ops.toList[i]?=some oi->ops.toList[j]?=some oj->oi.dst=some t->oj.dst≠some t
 looks: ∀(j k:Nat) o ok t,ops.toList[j]?=some o->ops.toList[k]?=some ok->ok.dst=some t->t∈o.looksAt ops->k∈B j\/(j∈B k/\ ∀p,(j,p)∉X.uz cR id)
 ww: ∀(i j:Nat) oi oj,i<j->ops.toList[i]?=some oi->ops.toList[j]?=some oj->cls X cR oj=3->2<=cls X cR oi->i∈B j
 reads: ∀(j p:Nat) o,ops.toList[j]?=some o->cls X cR o=1->p<=ops.size->(p=0\/ ∃ow,ops.toList[p-1]?=some ow/\cls X cR ow=3)->
  (∀(w:Nat) ow,ops.toList[w]?=some ow->cls X cR ow=3->(w∈B j->w<p)/\(j∈B w->p<=w))->
  (p<=j/\ ∀(w:Nat) ow,ops.toList[w]?=some ow->(cls X cR ow=3->(w<j↔w<p))/\(cls X cR ow=2->p<=w->w<j->w∈B j))\/(j,p)∈X.uz cR id
def D2{X:Env}{cR:FuncId}{L:List Oper}{j:Nat}{o:Oper}(h:L[j]?=some o):(L.map (cls X cR)).getD j 0=cls X cR o:=aj
def Ly{L:List Oper}{j:Nat}{o:Oper}(h:L[j]?=some o):(L.map (·.dst)).getD j none=o.dst:=aj
def Rk{X:Env}{cR:FuncId}{id:Nat}{ops:Array Oper}(h:lD X cR id ops=true):HO X cR id ops (fun j=>(y5 ops.toList).getD j []):=by
 unfold lD at h;simp only[X8]at h;obtain⟨O,h⟩:=h;generalize y5 ops.toList=B at*;have q: ∀(j:Nat) o,ops.toList[j]?=some o->_:=fun j o f=>by
  have V:j<ops.toList.length:=(List.getElem?_eq_some_iff.1 f).1;have:=List.all_eq_true.1 h j (List.mem_range.2 V);simp only[f,X8]at this;exact this
 have v:ops.toList.length=ops.size:=uy;refine⟨O,fun j o e f C b=> ?_,fun j i W m=> ?_,fun j o i f m=> ?_,fun i j oi oj t l n x F d=> ?_,fun j k o ok t f u A G=> ?_,fun i j oi oj l n x S K=> ?_,fun j p o f c s y L=> ?_⟩
 .have:=List.all_eq_true.1 (q j o f).1.1.1.1 e (by simpa using C);simpa[b] using this
 .have f:ops.toList[j]?=some ops.toList[j]:=rk ab;have:=List.all_eq_true.1 (q j _ f).1.1.1.2 i m;simp only[X8,decide_eq_true_eq]at this;exact this.1
 .have:=List.all_eq_true.1 (q j o f).1.1.1.2 i m;simp only[X8,decide_eq_true_eq,C4,ua,beq_iff_eq,y1]at this;obtain⟨_,e,C,b,Z⟩:=this;exact⟨e,by simpa using C,b,Z⟩
 .have:=List.all_eq_true.1 (q j oj x).1.1.2 i (List.mem_range.2 l);simp only[X8,Ly n]at this;have h1:=this.1;rw[F,d]at h1;simp at h1
 .have z:k<ops.toList.length:=(List.getElem?_eq_some_iff.1 u).1;have:=List.all_eq_true.1 (List.all_eq_true.1 (q j o f).1.2 t G) k (List.mem_range.2 z);rw[Ly u,A]at this;simp only[bne_self_eq_false,zx,ua,X8,sG,y1,List.any_eq_false,beq_iff_eq]at this;rcases this with h1|⟨h1,K⟩
  .exact .inl h1
  .exact .inr ⟨h1,fun p s=>K (j,p) s rfl⟩
 .have:=List.all_eq_true.1 (q j oj x).1.1.2 i (List.mem_range.2 l);simp only[X8,wr,D2 n,D2 x,S]at this;have h1:=this.2;simpa[K] using h1
 .have:=(q j o f).2;simp only[D2 f,c,beq_self_eq_true,yr,zx]at this;have:=List.all_eq_true.1 this p (List.mem_range.2 ab);simp only[ua,sG,y1]at this;rcases this with((h1|h1)|h1)|h1
  .exfalso;rw[Bool.or_eq_false_iff]at h1;rcases y with rfl|⟨ow,D,S⟩
   .simp at h1
   .have:=h1.2;unfold wr at this;rw[D2 D,S]at this;cases this
  .exfalso;rw[<-Bool.not_eq_true]at h1;apply h1;unfold HP;rw[rZ];intro w N;rw[BW,r9]at N;have D:ops.toList[w]?=some ops.toList[w]:=rk N;have r:=L w _ D;simp only[wr,D2 D,ua,sG,beq_eq_false_iff_ne,X8,decide_eq_true_eq];by_cases Q:cls X cR ops.toList[w]=3
   .right;obtain⟨E,g⟩:=r Q;refine⟨?_,?_⟩
    .by_cases U:w∈B.getD j []
     .exact .inr (E U)
     .left;simpa[y1] using U
    .by_cases U:j∈B.getD w []
     .exact .inr (g U)
     .left;simpa[y1] using U
   .left;exact Q
  .left;unfold M0 at h1;simp only[X8,decide_eq_true_eq]at h1;refine⟨h1.1,fun w ow D=> ?_⟩;have a:w<ops.toList.length:=(List.getElem?_eq_some_iff.1 D).1;have:=List.all_eq_true.1 h1.2 w (List.mem_range.2 (by simpa using a));simp only[X8,wr,D2 D,ua,sG]at this;refine⟨fun S=> ?_,fun K I P=> ?_⟩
   .have:=this.1;simp only[S,beq_self_eq_true,Bool.true_eq_false,false_or,beq_iff_eq,decide_eq_decide]at this;exact this
   .have:=this.2;simpa[K,I,P] using this
  .exact .inr h1
structure Tr (X:Env) (C:jv) (cR:FuncId) (id:Nat) (ops:Array Oper) (S F:St) (T:Nat->St) (B:Nat->List Nat):Prop where
 draw:HO X cR id ops B
 news:sj X C
 qF:pZ X C
 t0:T 0={S with n:=S.n+ops.size}
 tN:T ops.size=F
 step: ∀(k:Nat) o,ops.toList[k]?=some o->stepG X C cR (ops.toList.map (·.dst)) S.n k o (T k)=some (T (k+1))
 pre: ∀p,p<=ops.size->gZ X C cR (ops.toList.map (·.dst)) S.n 0 (ops.toList.take p) {S with n:=S.n+ops.size}=some (T p)
 a9i:lL X C cR ops.toList S.n {S with n:=S.n+ops.size} F (X.uz cR id)
 fresh: ∀i,S.n<=i->S.h i=none
section
variable {X:Env} {C:jv} {cR:FuncId} {id:Nat} {ops:Array Oper} {S F:St} {T:Nat->St} {B:Nat->List Nat}
theorem Ky{k:Nat}(h:k<ops.size):ops.toList[k]?=some ops.toList[k]:=rk ab
theorem Kz{k:Nat}{o:Oper}(h:ops.toList[k]?=some o):k<ops.size:=aj
theorem Tr.zn(t:Tr X C cR id ops S F T B): ∀k,k<=ops.size->S.n+ops.size<=(T k).n
 |0,_=>by rw[t.t0];grind
 |k+1,h=>by
  have h1:=t.zn k ab;have:=(HR t.news (t.step k _ (Ky ab))).1;omega
theorem Tr.Ca(t:Tr X C cR id ops S F T B): ∀m q,m<=q->q<ops.size->(T m).h (S.n+q)=none
 |0,q,_,h=>by rw[t.t0];exact t.fresh _ ab
 |m+1,q,O,h=>by
  have h1:=t.Ca m q ab h;have K:=t.zn m ab;exact(HR t.news (t.step m _ (Ky ab))).2 _ ab ab h1
theorem Lr{S:St}{d:Option Nat}{v:V}{t:Nat}(h:d≠some t):(S.set d v).f t=S.f t:=by
 cases d with
 |none=>rfl
 |some x=>
  have:t≠x:=fun e=>h bC;simp[St.set,bB,this]
theorem Rl{S:St}{d:Option Nat}{v:V}{t:Nat}(h:d=some t):(S.set d v).f t=v:=by
 subst h;simp[St.set,bB]
theorem Tr.S2(t:Tr X C cR id ops S F T B){k:Nat}{o:Oper}(h:ops.toList[k]?=some o){x:Nat}(d:o.dst≠some x):(T (k+1)).f x=(T k).f x:=by
 obtain⟨v,h1,_⟩:=Rg (t.step k o h);rw[h1,Lr d]
theorem Tr.F3(t:Tr X C cR id ops S F T B){x:Nat}{i:Nat}: ∀m,i<=m->m<=ops.size->(∀k o,i<=k->k<m->ops.toList[k]?=some o->o.dst≠some x)->(T m).f x=(T i).f x
 |0,j,_,_=>aj
 |m+1,j,O,h=>by
  by_cases e:i=m+1
  .rw[e]
  .rw[t.S2 (Ky ab) (h m _ ab ab (Ky ab))];exact t.F3 m ab ab fun k o h1 K U=>h k o h1 ab U
theorem Tr.Un(t:Tr X C cR id ops S F T B){k:Nat}{o:Oper}(h:ops.toList[k]?=some o){x:Nat}(d:o.dst=some x): ∀m,k<m->m<=ops.size->(T m).f x=F.f x:=by
 intro m O N;have y:=Kz h;have key: ∀m,k<m->m<=ops.size->(T m).f x=(T (k+1)).f x:=fun m O N=>t.F3 m ab N fun i oi h1 K U=>t.draw.dst k i o oi x ab h U d;rw[<-t.tN,key m O N,key ops.size y (iX _)]
theorem Tr.Rm(t:Tr X C cR id ops S F T B){x:Nat}(hx: ∀(k:Nat) o,ops.toList[k]?=some o->o.dst≠some x): ∀m,m<=ops.size->(T m).f x=S.f x:=by
 intro m O;rw[t.F3 (i:=0) m ab O fun k o _ _ h=>hx k o h,t.t0]
theorem Tr.quiet(t:Tr X C cR id ops S F T B){p:Nat}: ∀m,p<=m->m<=ops.size->(∀k o,p<=k->k<m->ops.toList[k]?=some o->cls X cR o≠3)->
  (T m).n=(T p).n/\(∀i,(∀(k:Nat) o,p<=k->k<m->ops.toList[k]?=some o->cls X cR o=2->i≠S.n+k)->(T m).h i=(T p).h i)/\
   (∀(k:Nat) o,p<=k->k<m->ops.toList[k]?=some o->cls X cR o=2->(T m).h (S.n+k)=(T (k+1)).h (S.n+k))
 |0,n,_,_=>aj
 |m+1,n,O,w=>by
  by_cases D:p=m+1
  .grind
  .obtain⟨h1,K,V⟩:=t.quiet m ab ab fun k o x E g=>w k o x ab g;have f:=Ky (ops:=ops) (k:=m) ab;have u:=t.step m _ f;generalize ops.toList[m]=o at*;have Q:=w m o ab ab f;have q:cls X cR o=0\/cls X cR o=1\/cls X cR o=2:=by
    have:cls X cR o<=3:=by
     unfold cls;repeat' split
     all_goals omega
    omega
   have same:(cls X cR o=0\/cls X cR o=1)->(T (m+1)).h=(T m).h/\(T (m+1)).n=(T m).n:=by
    rintro(h|h)
    .obtain⟨v,e,_⟩:=L9 h u;rw[e,fw,ik];grind
    .obtain⟨v,e,_⟩:=L8 h u;rw[e,fw,ik];grind
   by_cases U:cls X cR o=2
   .obtain⟨v,ob,e,_⟩:=L7 U u;have W:(T (m+1)).n=(T m).n:=by rw[e,ik]
    have a: ∀i,i≠S.n+m->(T (m+1)).h i=(T m).h i:=by
     intro i j;rw[e,fw];cases ob with
     |none=>rfl
     |some ob=>simp[CW,bB,j]
    grind
   grind
end
open Classical in
noncomputable def SE(X:Env)(cR:FuncId)(ops:Array Oper)(S F:St)(T:Nat->St)(E:Nat->Prop)(p:Nat):St:=
 {f:=fun x=>if∃k o,E k/\ops.toList[k]?=some o/\o.dst=some x then F.f x else S.f x
  h:=fun i=>if∃k o,i=S.n+k/\ops.toList[k]?=some o/\cls X cR o=2/\E k/\p<=k then(T (i-S.n+1)).h i else(T p).h i
  n:=(T p).n}
structure uL (X:Env) (cR:FuncId) (ops:Array Oper) (B:Nat->List Nat) (E:Nat->Prop) (p:Nat):Prop where
 lt: ∀k,E k->k<ops.size
 closed: ∀k,E k-> ∀i∈B k,E i
 le:p<=ops.size
 last:p=0\/ ∃o,ops.toList[p-1]?=some o/\cls X cR o=3
 iff: ∀(w:Nat) o,ops.toList[w]?=some o->cls X cR o=3->(E w↔w<p)
section
variable {X:Env} {C:jv} {cR:FuncId} {id:Nat} {ops:Array Oper} {S F:St} {T:Nat->St} {B:Nat->List Nat} {E:Nat->Prop} {p j:Nat} {o:Oper}
theorem F4(t:Tr X C cR id ops S F T B)(g:uL X cR ops B E p)(e:ops.toList[j]?=some o)(u: ∀i∈B j,E i)(n: ¬E j){x:Nat}(hx:x∈o.looksAt ops):
  (SE X cR ops S F T E p).f x=(T j).f x/\((∃p,(j,p)∈X.uz cR id)->F.f x=(T j).f x):=by
 have s:=Kz e;by_cases y: ∃(k:Nat) (ok:Oper),ops.toList[k]?=some ok/\ok.dst=some x
 .obtain⟨k,ok,l,d⟩:=y;rcases t.draw.looks j k o ok x e l d hx with b|⟨q,Y⟩
  .have Q:=t.draw.lt j k s b;have f:=t.Un l d j Q ab;refine⟨?_,fun _=>f.symm⟩;simp only[SE];rw[if_pos ⟨k,ok,u k b,l,d⟩,f]
  .have R:=t.draw.lt k j (Kz l) q;have only: ∀(i:Nat) oi,ops.toList[i]?=some oi->oi.dst=some x->i=k:=by
    intro i oi m U;rcases zV i k with h|h|h
    .exact absurd d (t.draw.dst i k oi ok x h m l U)
    .exact h
    .exact absurd U (t.draw.dst k i ok oi x h l m d)
   refine⟨?_,fun⟨p,r⟩=>absurd r (Y p)⟩;have h1:(T j).f x=S.f x:=by
    rw[t.F3 (i:=0) j ab ab fun i oi _ K V a=>aj,t.t0]
   simp only[SE];rw[if_neg,h1];rintro⟨i,oi,G,m,U⟩;rw[only i oi m U]at G;exact n (g.closed k G j q)
 .have W: ∀(k:Nat) ok,ops.toList[k]?=some ok->ok.dst≠some x:=fun k ok h1 K=>y ⟨k,ok,h1,K⟩;have h1:=t.Rm W j ab;have K:=t.Rm W ops.size (iX _);rw[t.tN]at K;refine⟨?_,fun _=>aj⟩;simp only[SE]
  grind
theorem KA{y:Operand}{x:Nat}(h:y∈o.op.operands.toList)(e:y= .tmp x):x∈o.looksAt ops:=by
 subst e;exact DI _ (List.mem_filterMap.2 ⟨.tmp x,h,rfl⟩)
theorem EG{i d:Nat}{w:Bool}(h:o.guard=some (i,w))(u:(ops.toList.map (·.dst))[i]?=some (some d)):d∈o.looksAt ops:=by
 refine List.mem_append_right _ ?_
 grind
theorem XW(t:Tr X C cR id ops S F T B)(g:uL X cR ops B E p)(e:ops.toList[j]?=some o)(b: ∀i∈B j,E i)(h: ¬E j):JE (ops.toList.map (·.dst)) o (T j) (SE X cR ops S F T E p):=by
 refine⟨fun y G=> ?_,fun i w d U u=>(F4 t g e b h (EG U u)).1⟩;cases y with
 |tmp x=>exact(F4 t g e b h (KA G rfl)).1
 |_=>rfl
theorem Og(t:Tr X C cR id ops S F T B)(e:ops.toList[j]?=some o){A Y:St}{v:V}(a:A.f=(SE X cR ops S F T E p).f)(i: ∀d,o.dst=some d->F.f d=v)(q:Nat):
  (A.set o.dst v).f=(SE X cR ops S F T (fun k=>E k\/k=j) q).f:=by
 funext x;by_cases h:o.dst=some x
 .rw[Rl h];simp only[SE]
  simp_all
 .rw[Lr h,a];simp only[SE];have this:(∃(k:Nat) (o:Oper),E k/\ops.toList[k]?=some o/\o.dst=some x)↔(∃(k:Nat) (o:Oper),(E k\/k=j)/\ops.toList[k]?=some o/\o.dst=some x):=by
   constructor
   .grind
   .grind
  by_cases c: ∃(k:Nat) (o:Oper),E k/\ops.toList[k]?=some o/\o.dst=some x
  .simp_all
  grind
theorem yq(t:Tr X C cR id ops S F T B)(h:ops.toList[j]?=some o){Y:St}{v:V}(e:T (j+1)=Y.set o.dst v): ∀d,o.dst=some d->F.f d=v:=by
 intro d u;have q:=Kz h;rw[<-t.Un h u (j+1) ab ab,e,Rl u]
theorem Cb{A Y:St}(h1:A.f=Y.f)(K:A.h=Y.h)(h:A.n=Y.n):A=Y:=by
 cases A;simp_all
theorem adv(t:Tr X C cR id ops S F T B)(g:uL X cR ops B E p)(f:ops.toList[j]?=some o)(V: ¬E j)(b: ∀i∈B j,E i):
  ∃p',uL X cR ops B (fun k=>E k\/k=j) p'/\stepG X C cR (ops.toList.map (·.dst)) S.n j o (SE X cR ops S F T E p)=some (SE X cR ops S F T (fun k=>E k\/k=j) p'):=by
 have iS:=Kz f;have L:=XW t g f b V;have M:=t.step j o f;have q: ∀{ok:Oper},ops.toList[j]?=some ok->ok=o:=fun h=>aj
 have hq: ∀k,(E k\/k=j)->k<ops.size:=fun k z=>by
  rcases z with z|rfl
  .exact g.lt k z
  omega
 have aw: ∀k,(E k\/k=j)-> ∀i∈B k,E i\/i=j:=fun k z i l=>by
  rcases z with z|rfl
  .exact .inl (g.closed k z i l)
  grind
 have Q: ∀k,E k->j∉B k:=fun k z aa=>V (g.closed k z j aa);by_cases an:cls X cR o=3
 ·
  have fv: ∀(w:Nat) ow,ops.toList[w]?=some ow->cls X cR ow=3->(E w↔w<j):=by
   intro w ow D U;constructor
   .intro bP;rcases zV w j with h|h|h
    .exact h
    .grind
    .exact absurd (t.draw.ww j w o ow h f D U ab) (Q w bP)
   .intro h;exact b w (t.draw.ww w j ow o h D f an ab)
  have H:p<=j:=by
   rcases g.last with h|⟨ow,D,U⟩
   .omega
   .by_cases h0:p=0
    .omega
    .have:=(g.iff (p-1) ow D U).2 ab
     grind
  obtain⟨q1,q2,cz⟩:=t.quiet j H ab fun k ok h1 K u U=>by
   have:=(fv k ok u U).2 K;have:=(g.iff k ok u U).1 this;omega
  have g3: ∀k,j<=k->k<ops.size->(T j).h (S.n+k)=none:=fun k h1 K=>t.Ca j k h1 K
  classical
  have aq: ∃G:bI,(∀i,G i=if∃k o,i=S.n+k/\ops.toList[k]?=some o/\cls X cR o=2/\E k/\j+1<=k then(T (i-S.n+1)).h i else none):=by
   exact⟨fun i=>if∃k o,i=S.n+k/\ops.toList[k]?=some o/\cls X cR o=2/\E k/\j+1<=k then(T (i-S.n+1)).h i else none,fun _=>rfl⟩
  obtain⟨G,aq⟩:=aq;have cQ: ∀i,G i≠none-> ∃k,i=S.n+k/\j+1<=k/\k<ops.size/\ ∃o,ops.toList[k]?=some o/\cls X cR o=2/\E k:=by
   intro i l;rw[aq]at l;split at l
   .grind
   .grind
  have hh:(SE X cR ops S F T E p).h=pY (T j).h G:=by
   funext i;simp only[SE,pY];split
   .rename_i hx;obtain⟨k,ok,rfl,u,K,I,N⟩:=hx;have bS:k≠j:=fun e=>aj
    rcases ru k j with h|h
    .grind
    .rw[aq,if_pos ⟨k,ok,rfl,u,K,I,ab⟩]
     grind
   .rename_i hx;have bT:G i=none:=by
     cases hz:G i with
     |none=>rfl
     |some y=>
      grind
    rw[bT];rw[q2 i fun k ok h1 K u U e=>hx ⟨k,ok,e,u,U,b k (t.draw.ww k j ok o K u f an ab),h1⟩]
  obtain⟨v,m,s⟩:=Rg M;have hB:uL X cR ops B (fun k=>E k\/k=j) (j+1):=⟨hq,aw,ab,.inr ⟨o,aj,an⟩,fun w ow D U=>aj⟩;have O:(SE X cR ops S F T (fun k=>E k\/k=j) (j+1)).h=pY (T (j+1)).h G:=by
   funext i;simp only[SE,pY];by_cases hx: ∃k o,i=S.n+k/\ops.toList[k]?=some o/\cls X cR o=2/\E k/\j+1<=k
   .obtain⟨k,ok,rfl,u,K,I,z⟩:=hx;rw[if_pos ⟨k,ok,rfl,u,K,.inl I,z⟩,aq,if_pos ⟨k,ok,rfl,u,K,I,z⟩];cases hz:(T (S.n+k-S.n+1)).h (S.n+k) with
    |some y=>rfl
    |none=>
     rw[t.Ca (j+1) k z (g.lt k I)]
   .grind
  have he:(SE X cR ops S F T (fun k=>E k\/k=j) (j+1)).n=(T (j+1)).n:=rfl;refine⟨j+1,hB,?_⟩;have hf:=Og (A:={SE X cR ops S F T E p with h:=(T (j+1)).h,n:=(T (j+1)).n}) (p:=p) (E:=E) (Y:=S) t f rfl (yq t f m) (j+1);by_cases HG: ∀i,G i=none
  .have bW: ∀h:bI,pY h G=h:=fun h=>by funext i;exact LK (HG i)
   rw[bW]at hh O;rw[s _ L hh q1.symm];exact congrArg some (Cb hf (by rw[fw,O]) ec)
  ·
   have c2:vZ (T j).h G (T j).n:=fun i l=>by
    obtain⟨k,h1,K,U,_⟩:=cQ i l;have:=t.zn j ab
    grind
   have ae:G (S.n+j)=none:=by
    cases hz:G (S.n+j) with
    |none=>rfl
    |some y=>
     grind
   have dz:=Rj t.qF c2 ae M;obtain⟨bp,e3,e4⟩:=Rg dz;have ay:JE (ops.toList.map (·.dst)) o {T j with h:=pY (T j).h G} (SE X cR ops S F T E p):=L;rw[e4 _ ay hh q1.symm];have ht: ∀d,o.dst=some d->bp=v:=by
    intro d J;have h1:=congrArg (fun Z:St=>Z.f d) e3;have K:=congrArg (fun Z:St=>Z.f d) m;simp only[Rl J]at h1 K;rw[<-h1,<-K]
   have ha: ∀d,o.dst=some d->F.f d=bp:=fun d J=>by rw[ht d J];exact yq t f m d J
   have mm:=Og (A:={SE X cR ops S F T E p with h:=pY (T (j+1)).h G,n:=(T (j+1)).n}) (p:=p) (E:=E) (Y:=S) t f rfl ha (j+1);exact congrArg some (Cb mm (by rw[fw,O]) ec)
 ·
  have S':uL X cR ops B (fun k=>E k\/k=j) p:=⟨hq,aw,g.le,g.last,fun w ow D U=>by
   constructor
   .rintro(h|h)
    .exact(g.iff w ow D U).1 h
    .subst h;rw[q D]at U;exact absurd U an
   .intro h;exact .inl ((g.iff w ow D U).2 h)⟩
  refine⟨p,S',?_⟩;have he:(SE X cR ops S F T (fun k=>E k\/k=j) p).n=(SE X cR ops S F T E p).n:=rfl;have au:cls X cR o≠2->(SE X cR ops S F T E p).h=(SE X cR ops S F T (fun k=>E k\/k=j) p).h:=by
   intro bL;funext i;simp only[SE];by_cases c: ∃(k:Nat) (ok:Oper),i=S.n+k/\ops.toList[k]?=some ok/\cls X cR ok=2/\E k/\p<=k
   .obtain⟨k,ok,h1,K,U,a,r⟩:=c;exact pB
   .rw[if_neg c,if_neg];rintro⟨k,ok,h1,K,U,a|a,r⟩
    .exact c ⟨k,ok,h1,K,U,a,r⟩
    .subst a;rw[q K]at U;exact bL U
  have bs:cls X cR o=0\/cls X cR o=1\/cls X cR o=2:=by
   have:cls X cR o<=3:=by
    unfold cls;repeat' split
    all_goals omega
   omega
  rcases bs with c|c|c
  .obtain⟨v,m,s⟩:=L9 c M;rw[s _ L];exact congrArg some (Cb (Og (Y:=S) t f rfl (yq t f m) p) (by rw[fw,au ab]) ec)
  .have W: ∀v,(∀d,o.dst=some d->F.f d=v)->some ((SE X cR ops S F T E p).set o.dst v)=some (SE X cR ops S F T (fun k=>E k\/k=j) p):=fun v hv=>
    congrArg some (Cb (Og (Y:=S) t f rfl hv p) (by rw[fw,au ab]) ec)
   have ak: ∀(w:Nat) ow,ops.toList[w]?=some ow->cls X cR ow=3->(w∈B j->w<p)/\(j∈B w->p<=w):=fun w ow D U=>
    ⟨fun hs=>(g.iff w ow D U).1 (b w hs),fun hs=>by
     rcases ru w p with h|h
     .exact absurd hs (Q w ((g.iff w ow D U).2 h))
     .exact h⟩
   rcases t.draw.reads j p o f c g.le g.last ak with⟨H,hr⟩|P
   .obtain⟨q1,q2,cz⟩:=t.quiet j H ab fun k ok h1 K u U=>by
     have:=((hr k ok u).1 U).1 K;omega
    obtain⟨v,m,s⟩:=L8 c M;rw[s _ L ?_]
    .exact W v (yq t f m)
    .intro i ob l;simp only[SE];split
     .rename_i hx;obtain⟨k,ok,rfl,u,K,I,N⟩:=hx;rcases ru k j with h|h
      .rw[show S.n+k-S.n+1=k+1 from ab,<-cz k ok N h u K];exact l
      .rw[t.Ca j k h (g.lt k I)]at l;cases l
     .rename_i hx;rw[<-q2 i fun k ok h1 K u U e=>hx ⟨k,ok,e,u,U,b k ((hr k ok u).2 U h1 K),h1⟩];exact l
   .rcases t.a9i (j,p) P with⟨o',h1,R⟩|⟨o',ts,v',h1,K,U,a⟩
    .have ah:=q h1;subst ah;unfold Kc at R;cases hg:o'.guard with
     |none=>rw[hg]at R;exact absurd R (fun h=>h)
     |some fG=>
      obtain⟨c1,dN⟩:=fG;rw[hg]at R;simp only at R;cases J:(ops.toList.map (·.dst))[c1]? with
      |none=>rw[J]at R;exact absurd R (fun h=>h)
      |some od=>
       cases od with
       |none=>rw[J]at R;exact absurd R (fun h=>h)
       |some d=>
        rw[J]at R;simp only at R;have hl:=F4 t g f b V (EG hg J);rw[hl.2 ⟨p,P⟩]at R;have m:=Hj (X:=X) (C:=C) (cR:=cR) (n0:=S.n) (k:=j) hg J R;rw[M]at m;simp only[aS]at m;rw[<-hl.1]at R;rw[Hj hg J R];exact W _ (yq t f m)
    have ah:=q h1;subst ah;have bV:ts=T p:=by
     have:=t.pre p g.le;simp only at K;rw[K]at this;exact ns
    subst bV;rcases rI M with⟨g1,g2⟩|⟨g1,g2⟩
    .rw[g2 _ L];have kK: ∀x args mW,o'.op≠ .call ⟨.value x,args,mW⟩:=by
      intro x args mW e;simp[dm,e]at U
     obtain⟨_,k2⟩:=Z8 c kK U;have hp: ∀y∈o'.op.operands.toList,(SE X cR ops S F T E p).ev y=F.ev y:=by
      intro y hy;cases y with
      |tmp x=>
       have:=F4 t g f b V (KA hy rfl);show(SE X cR ops S F T E p).f x=F.f x;rw[this.1,this.2 ⟨p,P⟩]
      |_=>rfl
     rw[qw kK,si hp,k2 (SE X cR ops S F T E p).h (S.n+j) ?_]
     .exact W v' a
     .intro i ob l;simp only[SE];split
      .rename_i hx;obtain⟨k,ok,rfl,u,K,I,N⟩:=hx;rw[t.Ca p k N (g.lt k I)]at l;cases l
      .exact l
    .rw[g2 _ L];exact W _ (yq t f g1)
  .obtain⟨v,ob,m,s⟩:=L7 c M;rw[s _ L];have H:p<=j:=by
    rcases g.last with h|⟨ow,D,U⟩
    .omega
    .by_cases h0:p=0
     .omega
     .have I:=(g.iff (p-1) ow D U).2 ab;rcases zV (p-1) j with h|h|h
      .omega
      .rw[h]at I;exact absurd I V
      .exact absurd (t.draw.ww j (p-1) o ow h f D U ab) (Q _ I)
   refine congrArg some (Cb (Og (A:={SE X cR ops S F T E p with h:=CW (SE X cR ops S F T E p).h (S.n+j) ob}) (E:=E) (p:=p) (Y:=S) t f rfl (yq t f m) p) ?_ ec);rw[fw];funext i;by_cases l:i=S.n+j
   .subst l;have hR:(SE X cR ops S F T (fun k=>E k\/k=j) p).h (S.n+j)=(T (j+1)).h (S.n+j):=by
     simp only[SE];rw[if_pos ⟨j,o,rfl,f,c,.inr rfl,H⟩,show S.n+j-S.n+1=j+1 from ab]
    have hL:(SE X cR ops S F T E p).h (S.n+j)=none:=by
     simp only[SE];rw[if_neg,t.Ca p j H iS];rintro⟨k,ok,h1,_,_,a,_⟩;have:k=j:=ab
     subst this;exact V a
    rw[hR,m,fw];cases ob with
    |none=>simp only[CW];rw[hL,t.Ca j j (iX _) iS]
    |some ob=>simp[CW,bB]
   .have:CW (SE X cR ops S F T E p).h (S.n+j) ob i=(SE X cR ops S F T E p).h i:=by
     cases ob with
     |none=>rfl
     |some ob=>simp[CW,bB,l]
    show CW (SE X cR ops S F T E p).h (S.n+j) ob i=_;rw[this];simp only[SE];by_cases hn: ∃(k:Nat) (ok:Oper),i=S.n+k/\ops.toList[k]?=some ok/\cls X cR ok=2/\E k/\p<=k
    .obtain⟨k,ok,h1,K,U,a,r⟩:=hn;exact pB
    .rw[if_neg hn,if_neg];rintro⟨k,ok,h1,K,U,a|a,r⟩
     .exact hn ⟨k,ok,h1,K,U,a,r⟩
     .subst a;exact l h1
end
section
variable {X:Env} {C:jv} {cR:FuncId} {id nt:Nat} {ops:Array Oper} {S F:St} {T:Nat->St} {B:Nat->List Nat}
theorem aaq(t:Tr X C cR id ops S F T B){E:Nat->Prop}{p:Nat}(g:uL X cR ops B E p)(n: ∀k,k<ops.size->E k):SE X cR ops S F T E p=F:=by
 obtain⟨q,V,d⟩:=t.quiet ops.size g.le (iX _) fun k ok h1 h l U=>by
  have:=(g.iff k ok l U).1 (n k h);omega
 rw[t.tN]at q V d;refine Cb ?_ ?_ ?_
 .funext x;simp only[SE];split
  .rfl
  .rename_i hx;have:=t.Rm (x:=x) (fun k o h1 h=>hx ⟨k,o,n k (Kz h1),h1,h⟩) ops.size (iX _);rw[t.tN]at this
   grind
 .funext i;simp only[SE];split
  .grind
  grind
 .exact q.symm
theorem XV (hC:sb X C) (bs:v9 X) (c1: ∀cR dst g args S S1,iv X C cR dst g args S=some S1->xm X g) (hB: ∀o∈ops.toList,VE X nt o=true) (t:Tr X C cR id ops S F T B)
    {I:Nat->Prop} {σ:jI} (S': ∀a w',Re nt S.n w I σ S.h F a w'->Q .normal a w'):
  ∀(f:Nat) (n:Array Bool) (E:Nat->Prop) (p:Nat) (U:List Nat) (a:Act) (w':World) (I':Nat->Prop) (σ':jI),n.size=ops.size->(∀k,E k↔n.getD k false=true)->uL X cR ops B E p->
   U.Nodup->U.length=f->(∀k,k<ops.size->(¬E k↔k∈U))->
   Step w I σ S.h S.n w' I' σ' (SE X cR ops S F T E p).h (SE X cR ops S F T E p).n->jO w' I' σ' (SE X cR ops S F T E p).f a->mf σ' (SE X cR ops S F T E p).h (SE X cR ops S F T E p).n->nt<=a.tmps.size->a.defers=[]->
   (∀q,q<ops.size-> ¬E q->(SE X cR ops S F T E p).h (S.n+q)=none/\σ' (S.n+q)=none)->
   wpAny X.P .any ops Q f n a w':=by
 have hp: ∀{n:Array Bool} {E:Nat->Prop},n.size=ops.size->(∀k,E k↔n.getD k false=true)->Region.ready .any ops n=[]-> ∀k,k<ops.size->E k:=by
  intro n E K P hr k;induction k using Nat.strongRecOn with
  |_ k ih=>
   intro hk;by_cases ht:E k
   .omega
   .have ho:=Ky (ops:=ops) hk;have bS:k∈Region.ready .any ops n:=by
     rw[mem_ready];have hl:n.getD k false=false:=by
      have:=mt (P k).2 ht;exact ns
     refine⟨?_,ops.toList[k],aj,fun e he hb=> ?_⟩
     .grind
     .have iS:=t.draw.a9g k _ e ho he hb
      grind
    grind
 have aq: ∀{E:Nat->Prop} {p:Nat} {a:Act} {w':World} {I':Nat->Prop} {σ':jI},uL X cR ops B E p->(∀k,k<ops.size->E k)->Step w I σ S.h S.n w' I' σ' (SE X cR ops S F T E p).h (SE X cR ops S F T E p).n->jO w' I' σ' (SE X cR ops S F T E p).f a->
   mf σ' (SE X cR ops S F T E p).h (SE X cR ops S F T E p).n->nt<=a.tmps.size->a.defers=[]->Q .normal a w':=by
  intro E p a w' I' σ' g an y O G K N;rw[aaq t g an]at y O G;exact S' a w' ⟨I',σ',y.le,y,O,G,K,N⟩
 intro f;induction f with
 |zero=>
  intro n E p U a w' I' σ' H P g m cz J y O G K N M;have an: ∀k,k<ops.size->E k:=fun k hk=>aj
  refine⟨?_,aq g an y O G K N⟩;cases hr:Region.ready .any ops n with
  |nil=>rfl
  |cons k r=>
   have hL:k∈Region.ready .any ops n:=by rw[hr];simp
   rw[mem_ready]at hL
   grind
 |succ f ih=>
  intro n E p U a w' I' σ' H P g m cz J y O G K N M;refine⟨fun hr=>aq g (hp H P hr) y O G K N,fun j hj=> ?_⟩;rw[mem_ready]at hj;obtain⟨h1,o,W,mm⟩:=hj;have au:j<ops.size:=(Array.getElem?_eq_some_iff.1 W).1;have ho:ops.toList[j]?=some o:=by rw[y2];exact W
  have h4:n[j]?=some (n[j]' ab):=by simp[H,au]
  have Y: ¬E j:=fun h=>aj
  have hb: ∀i∈B j,E i:=fun i hi=>by
   obtain⟨e,he,h3,ae⟩:=t.draw.bef j o i ho hi;have hv:=(P e.on).2 (mm e he h3);rcases ae with rfl|ae
   .omega
   .exact g.closed _ hv i ae
  obtain⟨l,g',z⟩:=adv t g ho Y hb;have hc:VE X nt o=true:=hB o aj;have ay: ∀x,o.dst=some x->x<a.tmps.size:=fun x hx=>va (Ui hc x hx) K;have aa: ∀k,(E k\/k=j)↔(n.setIfInBounds j true).getD k false=true:=by
   intro k;rw[uD];by_cases dN:k=j
   .grind
   .have:=P k;rw[uD]at this
    grind
  have bp:j∈U:=(J j au).1 Y;have cQ: ∀k,k<ops.size->(¬(E k\/k=j)↔k∈U.erase j):=by
   intro k hk;rw[m.mem_erase_iff,<-J k hk];constructor
   .grind
   .grind
  have hz:S.n+ops.size<=(SE X cR ops S F T E p).n:=t.zn p g.le;have next: ∀(a2:Act) (L:World) (R:Nat->Prop) (s:jI),Step w I σ S.h S.n L R s (SE X cR ops S F T (fun k=>E k\/k=j) l).h (SE X cR ops S F T (fun k=>E k\/k=j) l).n->jO L R s (SE X cR ops S F T (fun k=>E k\/k=j) l).f a2->
    mf s (SE X cR ops S F T (fun k=>E k\/k=j) l).h (SE X cR ops S F T (fun k=>E k\/k=j) l).n->nt<=a2.tmps.size->a2.defers=[]->
    (∀q,q<ops.size-> ¬(E q\/q=j)->(SE X cR ops S F T (fun k=>E k\/k=j) l).h (S.n+q)=none/\s (S.n+q)=none)->wpAny X.P .any ops Q f (n.setIfInBounds j true) a2 L:=
   fun a2 L R s k1 k2 k3 g2 g1 HG=>ih _ _ l (U.erase j) a2 L R s aj aa g' (m.erase j) aj cQ k1 k2 k3 g2 g1 HG
  generalize SE X cR ops S F T (fun k=>E k\/k=j) l=Z at*;generalize SE X cR ops S F T E p=A at*;unfold wpOp;simp only[W];have run:fD X C cR S.n j o A=some Z->o.wp X.P a w' (wpAny X.P .any ops Q f (n.setIfInBounds j true)) Q:=by
   intro aw;refine Oper.wp_mono (fun a2 L hh=> ?_) (N4 hC bs c1 hc aw y.rel O G (M j au Y).1 (M j au Y).2 ab Q);obtain⟨u,v,R,s,rfl,ha,hf,n0,hn,ak,bP⟩:=hh;exact next _ _ R s (y.join n0 (iX _) hn) ((O.ext n0.ext).zq ha o.dst ay hf) ak gQ ej
    fun q V c=>bP q (fun e=>c (.inr e)) ab (M q V fun e=>c (.inl e)).1 (M q V fun e=>c (.inl e)).2
  have skip:A.set o.dst (.ed [])=Z->wpAny X.P .any ops Q f (n.setIfInBounds j true) (a.put o.dst undef) w':=by
   intro aw;subst aw;refine next _ _ I' σ' d0 (O.zq Ks o.dst ay rfl) d0 (by rw[CU];exact K) (by rw[put_defers];exact N) fun q V c=> ?_;rw[fw];exact M q V fun e=>c (.inl e)
  unfold stepG at z;split at z
  .rename_i hg;have D:Region.wanted o (yielded ops a.tmps)=true:=by simp[Region.wanted,hg]
   simp only[D,if_true];exact .inl (run z)
  .rename_i i h2 hg;split at z
   case h_2=>cases z
   rename_i d g3;have e2:=Hd O hg g3;split at z
   .rename_i b ah;have D:=e2.1 b ah;split at z
    .rename_i e1;subst e1;rw[beq_self_eq_true]at D;simp only[D,if_true];exact .inl (run z)
    .rename_i e1;have:(b==h2)=false:=by simpa using e1
     rw[this]at D;exact qg
   .rename_i ah;have D:=e2.2 ah;exact qg
   .cases z
theorem SU(X:Env):Rf X (lD X):=by
 intro C A N V K G cR id J ops S F B cX D b a w I σ R O u s d Q z;obtain⟨T,h0,W,v,y⟩:=trace D;have l:ops.toList.length=ops.size:=uy;have t:Tr X C cR id ops S F T (fun j=>(y5 ops.toList).getD j []):=
  ⟨Rk cX,N,V,h0,ab,y,fun p H=>v p ab,b,fun i m=>(u i m).1⟩
 refine wp_region_any t.draw.mixed ?_;have g:uL X cR ops (fun j=>(y5 ops.toList).getD j []) (fun _=>False) 0:=⟨fun _ h=>h.elim,fun _ h=>h.elim,ab,.inl rfl,fun w o _ _=>⟨fun h=>h.elim,fun h=>ab⟩⟩;have E:SE X cR ops S F T (fun _=>False) 0={S with n:=S.n+ops.size}:=by
  refine Cb ?_ ?_ ?_
  .funext x;simp only[SE]
   grind
  .funext i;simp only[SE]
   simp_all
  .simp only[SE];rw[h0]
 have r:=Step.drew R S.n;refine XV A K G B t (w:=w) (I:=I) (σ:=σ) z ops.size _ (fun _=>False) 0 (List.range ops.size) a w.drew I σ ai (fun k=> ?_) g List.nodup_range ai (fun k L=>aj) ?_ ?_ ?_ s d ?_
 .constructor
  .grind
  .intro h;rw[uD,Array.getElem?_replicate]at h
   grind
 .rw[E];exact r.Ug (iX _) ai
 .rw[E];exact O.ext r.ext
 .rw[E];exact fun i m=>u i aj
 .intro q _ _;rw[E];exact u _ ab
end
structure Is (o:Oper) (d:Nat) (op:Op):Prop where
 dst:o.dst=some d
 op:o.op=op
 guard:o.guard=none
def Wb(i0 i1 i2 i3:Nat)(a b c d e f g h:Oper):Code:=
 .seq (.region i0 #[a] false) (.seq (.seq (.region i1 #[b,c] false) (.cond (.tmp 4) (.seq (.region i2 #[d] false) .ret) .skip)) (.seq (.region i3 #[e,f,g,h] false) .ret))
structure F5 (X:Env) (g:FuncId) (t:TypeId):Prop where
 slice:X.P.underlying t=some (.slice (X.ti t).elem)
 elem:tB X (X.ti t).elem=true
 body: ∃fn ty YX i0 i1 i2 i3 oa ob oc od oe of og oh,X.P.funcs[g]?=some fn/\fn.body=some (Wb i0 i1 i2 i3 oa ob oc od oe of og oh)/\fn.ntmps=8/\fn.results= #[.tmp 2]/\(fn.name== "runtime.NumGoroutine")=false/\
  Is oa 2 (.assign (.const (.slice none 0 0)))/\Is ob 3 (.move (.tmp 0))/\Is oc 4 (.binOp .eql t (.tmp 3) (.const (.slice none 0 0)) ty)/\Is od 2 (.assign (.const (.slice none 0 0)))/\
  Is oe 5 (.buildSlice t 0 #[])/\Is of 6 (.move (.tmp 0))/\Is og 7 (.call ⟨.builtin .append,#[.tmp 5,.tmp 6],#[t,YX]⟩)/\YX=t/\Is oh 2 (.assign (.tmp 7))
def oE {P:Program} {ops:Array Oper}  {i d:Nat} {r:List Nat} {a:Act}  {o:Oper} {op:Op} {v:Value} (h:Is o d op) (j:ops[i]?=some o)
  (C:(execOp a.eval o).run P w= .ok (.value v) w') (n:wpOps P ops Q r (a.put (some d) v) w'):wpOps P ops Q (i::r) a w:=by
 simp only[wpOps,j,Region.wanted,h.guard,if_true];left;unfold Oper.wp;rw[C];simp only[Oper.upon,h.dst];omega
def Step.alloc{w:World}{I:Nat->Prop}{σ:jI}{h:bI}(R:Rel w I σ h)(ob:Obj)(n:Nat):Step w I σ h n (w.alloc ob) I σ h n:=
 ⟨Ext.alloc R.eA ob,R.alloc ob,rfl,rfl,rfl,bu,fun b e _=>QV w ob b e,fun _ e=> .inr e,fun _ e=> .inl e,iX _,fun _ _=>rfl,fun _ _ W=>W⟩
def aas{X:Env}(N: ∀g t,X.clone g=some t->F5 X g t)(V:G5 X):v9 X:=by
 refine⟨V,?_⟩;intro g t S w I σ h n s u es aa L R W M r e an hi G F O;obtain⟨a,U,fn,ty,YX,i0,i1,i2,i3,oa,ob,oc,od,oe,of,og,oh,Q,m,ho,E,_,Y,q,C,A,d,f,Z,rfl,z⟩:=N g t S;have T:=me U;have hk: ∃ad l cap,u= .slice ad l cap/\l=es.length/\(ad=none->es=[]):=by
  cases s with
  |sl c cQ=>
   obtain⟨rfl,_⟩:=e;obtain⟨ad,cap,rfl,_,_,_,h4⟩:=r
   grind
  |cX id st l=>
   simp only[elems]at e;cases D:h id with
   |none=>grind
   |some po=>
    simp only[D]at e;split at e
    case isFalse=>grind
    obtain⟨rfl,_⟩:=e;have p:((po.es.drop st).take l).length=l:=aA
    obtain⟨ad,cap,rfl,B⟩:=NP R r D;refine⟨ad,l,cap,rfl,p.symm,fun h=> ?_⟩;rcases B.place with hp|⟨b,o,c,el,_,mm,_⟩
    .apply xR;have:=B.le;omega
    grind
  |str x=>cases an
  |_=>simp[elems]at e
 obtain⟨ad,l,cap,rfl,rfl,ht⟩:=hk;have H:=LF (h:=h) (v:=s) e R G;have k:(∃hx,X.P.underlying YX=some (.slice hx))\/X.P.underlying YX=some .string:= .inl ⟨_,a⟩;refine calls_of_wp Q m ?_;rw[ho];have h0:(#[Value.slice ad es.length cap]++Array.replicate (8- #[Value.slice ad es.length cap].size) undef)= #[.slice ad es.length cap,undef,undef,undef,undef,undef,undef,undef]:=rfl;refine wp_seq (wp_region ?_);refine oE (i:=0) Y rfl (v:= .slice none 0 0) (w':=w) (by simp[execOp,Y.op,Act.eval]) ?_;refine wp_seq (wp_seq (wp_region ?_));refine oE (i:=0) q rfl (v:= .slice ad es.length cap) (w':=w) (by simp[execOp,q.op,Act.eval,Act.put]) ?_;refine oE (i:=1) C rfl (v:= .bool ad.isNone) (w':=w) ?_ ?_
 .have h1:=Go.Lib.run_eql_slice_nil (P:=X.P) w YX _ ad es.length cap 0 0 a;simp[execOp,C.op,Act.eval,Act.put,eqGuard,h1]
 cases ad with
 |none=>
  have hj:=ht rfl;subst hj;refine wp_cond_true (by simp[Act.eval,Act.put]) ?_;refine wp_seq (wp_region ?_);refine oE (i:=0) A rfl (v:= .slice none 0 0) (w':=w) (by simp[execOp,A.op,Act.eval]) ?_;refine wp_ret ?_;refine⟨rfl,.slice none 0 0,?_,.slice none 0 0,σ,rfl,Step.nil R W M,?_⟩
  .simp[results,E,Act.put]
  .exact⟨none,0,rfl,ai,ab,.inl rfl⟩
 |some ad=>
  refine wp_cond_false (by simp[Act.eval,Act.put]) ?_;refine wp_skip ?_;refine wp_seq (wp_region ?_);obtain⟨y,aq,_,_,_⟩:=vh (X:=X) (t:=YX) (n:=0) a T ai (ps:=[]) (es:=[]) (Fw:= #[]) (w:=w) (J:=I) (τ:=σ) fL ai (by simp[rE]);refine oE (i:=0) d rfl (v:= .slice (some ⟨w.heap.size,0,none⟩) 0 0) (w':=w.alloc (.cells y (X.ti YX).elem)) (by simp[execOp,d.op,aq]) ?_;refine oE (i:=1) f rfl (v:= .slice (some ad) es.length cap) (w':=w.alloc (.cells y (X.ti YX).elem)) (by simp[execOp,f.op,Act.eval,Act.put]) ?_;have j:=Step.alloc R (.cells y (X.ti YX).elem) n;obtain⟨news,aw,K⟩:=Ub k j.rel (r.ext j.ext) e G H;have au:dX (w.alloc (.cells y (X.ti YX).elem)) I σ (.sl true []) (.slice (some ⟨w.heap.size,0,none⟩) 0 0):=by
   simp only[dX];exact⟨some ⟨w.heap.size,0,none⟩,0,rfl,ai,ab,fun _=>rfl,.inl trivial⟩
  obtain⟨v,w',σ',h1,h2,h3⟩:=zI (ty:=og.type) (kp:=L) j.rel a T au hi G aw K W M F O;refine oE (i:=2) Z rfl (v:=v) (w':=w') (by simp[execOp,Z.op,Act.eval,Act.put,resolve,invoke,builtin,h1]) ?_;refine oE (i:=3) z rfl (v:=v) (w':=w') (by simp[execOp,z.op,Act.eval,Act.put]) ?_;refine wp_ret ?_;refine⟨rfl,v,?_,v,σ',rfl,j.trans h2,h3⟩;simp[results,E,Act.put]
def Rp{X:Env}(q: ∀g t,X.clone g=some t->F5 X g t): ∀g t,X.clone g=some t->xm X g:=by
 intro g t h;obtain⟨_,_,fn,ty,YX,i0,i1,i2,i3,oa,ob,oc,od,oe,of,og,oh,f,a,_,_,b,_⟩:=q g t h;exact⟨fn,_,f,a,ab⟩
def okB(X:Env)(a n:Nat):Bool:=(List.range' a n).all fun g=>match X.P.funcs[g]? with|some fn=>(X.pO g).isSome||x8 X (lD X) g fn|none=>true
def jx{X:Env}{a n g:Nat}{fn:Func}(h:okB X a n=true)(h1:a<=g)(K:g<a+n)(f:X.P.funcs[g]?=some fn)(hp:X.pO g=none):x8 X (lD X) g fn=true:=by
 have:=List.all_eq_true.1 h g (List.mem_range'_1.2 ⟨h1,K⟩)
 grind
def Wc{X:Env}(A:Kw X (lD X))(h:wL X)(q: ∀g t,X.clone g=some t->F5 X g t)(r:G5 X)(P: ∀g,(X.pO g).isSome=true->xm X g):sb X (df X):=
 aag A h (aas q r) (fun g S=>by
  cases c:X.clone g with
  |some t=>exact Rp q g t c
  |none=>grind) (SU X) (aal h)
end Go.Abs
