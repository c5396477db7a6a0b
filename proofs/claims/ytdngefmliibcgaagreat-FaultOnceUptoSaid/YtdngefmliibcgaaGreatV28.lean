/- part -/
import Derived.Test.YtdngefmliibcgaaGreatV27
set_option linter.all false
set_option maxRecDepth 20000
set_option maxHeartbeats 20000000
namespace Go.Abs
open Go
variable  {N:Norm}{S S' S1 S0 F:St}{v:V}{act a:Act}{o:Oper}{E:Ev}
def Env.base(X:Env)(g:FuncId):Nat:=if X.gq g=true then 1 else 0
def vo(X:Env):Prop:= ∀f key N,X.norm f key=some N->N.ok=true/\X.low f=true/\(X.gq f=true->N.base=true)
def MZ(S:St)(N:Norm)(hx:bh): ∀(L:List Nat) (t:Nat),fixF S N hx L t=if L.contains t then xW (zx t N.roots) (S.f t) (E9 S N hx (S.f t)) else .bad
 | [],t=>rfl
 |i::L,t=>by
  simp only[fixF,aR,List.contains_cons];by_cases e:t=i
  ·grind
  ·rw[MZ S N hx L t]
   grind
def BF(S:St)(N:Norm)(hx:bh): ∀(L:List Gr) (id:Nat),PM S N hx L id=match m9 id L with|some a=>a.ob S N hx|none=>none
 | [],id=>rfl
 |a::L,id=>by
  simp only[PM,aR,m9];by_cases e:id=a.new
  ·grind
  ·rw[BF S N hx L id]
   grind
def w7: ∀{L:List Gr} {id:Nat} {a:Gr},m9 id L=some a->a∈L/\a.new=id
 | [],id,a,h=>by simp[m9]at h
 |b::L,id,a,h=>by
  simp only[m9]at h;split at h
  ·grind
  ·have:=w7 h
   grind
def Ju{S:St}{id:Nat}: ∀{L:List Gr} {j:Nat},look S id L=some j-> ∃a,a∈L/\(a.loc.val S).root=some id/\a.new=j
 | [],j,h=>by simp[look]at h
 |b::L,j,h=>by
  simp only[look]at h;split at h
  ·grind
  ·obtain⟨a,h1,h2⟩:=Ju h
   grind
structure Norm.Ok (N:Norm):Prop where
 one:1<=N.n
 new: ∀a,a∈N.roots->a.new<N.n/\ ∃b,m9 a.new N.roots=some b/\b.loc=a.loc
def Norm.Zl(h:N.ok=true):N.Ok:=by
 unfold Norm.ok at h;simp only[aaF,decide_eq_true_eq]at h;obtain⟨h2,h4⟩:=h;refine⟨h2,fun a ha=> ?_⟩
 grind
def FP(hb:N.base=true)(h:N.first S=true): ∃a,m9 0 N.roots=some a/\(a.loc.val S).root=some 0:=by
 unfold Norm.first at h;rw[hb]at h;cases hr:N.roots with
 |nil=>grind
 |cons a r=>
  rw[hr]at h;simp only[aaF,beq_iff_eq]at h;exact⟨a,by simp[m9,h.1],h.2⟩
def Vf(hN:N.ok=true)(h:N.run S=some S'){m:Nat}(hm:m<=if N.base=true then 1 else 0):m<=S'.n/\ ∀id,id<m->S.h id=none->S'.h id=none:=by
 have K:=Norm.Zl hN;unfold Norm.run at h;split at h
 case isFalse=>cases h
 rename_i hc;simp only[aaF]at hc;simp only[aA]at h;subst h;have sV:m<=1:=by split at hm<;>omega
 refine⟨abK sV K.one,fun id fa hn=> ?_⟩;have:id=0:=by omega
 subst this;have hb:N.base=true:=by
  cases hb:N.base with
  |true=>rfl
  |false=>grind
 obtain⟨a,h1,h2⟩:=FP hb hc.2;simp only;rw[BF,h1];simp only;unfold Gr.ob PL;split
 ·rename_i hv;rw[hv]at h2;cases h2
 ·rw[h2];simp only[hn,Fa]
def AH{X:Env}(hN:vo X){f key:Nat}(h:oN X f key S=some S'){m:Nat}(hm:X.low f=true->m<=Env.base X f)(hmn:m<=S.n):m<=S'.n/\ ∀id,id<m->S.h id=none->S'.h id=none:=by
 unfold oN at h;cases hc:X.norm f key with
 |none=>grind
 |some N=>
  rw[hc]at h;obtain⟨h1,h2,h3⟩:=hN f key N hc;refine Vf h1 h (abK (hm h2) ?_);unfold Env.base
  grind
def Norm.sig(N:Norm)(S:St)(σ:ju):ju:=fun id=>
 match m9 id N.roots with
 |some a=>match(a.loc.val S).root with
  |some j=>σ j
  |none=>none
 |none=>none
section
variable {w:World} {I J:Nat->Prop} {σ σ':ju}
theorem Zm{u:Value}(hr:dD w I σ v u):dD w I σ v.wide u:=by
 cases v with
 |sl c es=>
  obtain⟨a,cap,h1,h2,h3,h4,h5⟩:=hr;exact⟨a,cap,h1,h2,h3,fun hc=>(by grind),h5⟩
 |_=>exact hr
theorem Vg{α:Type}{f:α->Option Nat}{l:List α}(h:vg (l.map f)=true){a b:α}(ha:a∈l)(hb:b∈l){j:Nat}(h1:f a=some j)(h2:f b=some j):a=b:=by
 obtain⟨p,hp⟩:=aeC ha;obtain⟨q,hq⟩:=aeC hb;have:=zE h (i:=p) (j:=q) (x:=j) (by grind) (by grind)
 grind
theorem Zn(hN:N.ok=true)(kr:N.run S=some S')(R:Rel w I σ S.h)(F:jw w I σ S.f act)(fr:lV σ S.h S.n):
  let J:=fun b=>I b\/jk σ (gr S.h (N.tq S)) b
  Rel w J (N.sig S σ) S'.h/\jw w J (N.sig S σ) S'.f act/\lV (N.sig S σ) S'.h S'.n/\(∀b,jk (N.sig S σ) S'.h b->jk σ S.h b):=by
 intro J;have K:=Norm.Zl hN;unfold Norm.run at kr;split at kr
 case isFalse=>grind
 rename_i Y9;simp only[aaF]at Y9;have Y7:=Y9.1;simp only[aA]at kr;subst kr;simp only;have UT: ∀b,I b->J b:=fun b hb=> .inl hb;have EJ:Ext w I fv w J fv:=⟨fun _ _=>rfl,fun _ c _ fz hh=>⟨c,fz,hh,rfl⟩,UT,fun _ _ hh=>hh⟩;have Tp:Rel w I σ (gr S.h (N.tq S)):=R.sub fun id ob h=>(k8 h).1;have him: ∀c c' x,cy (gr S.h (N.tq S)) depth c=some c'->dD w I σ c x->dD w J fv c' x:=fun c c' x ht hx=>uJ Tp UT (fun b hb=> .inr hb) depth c c' x ht hx;have MS: ∀a,a∈N.roots-> ∀j,(a.loc.val S).root=some j->some j∈N.tq S:=fun a ha j hv=>by
  exact List.mem_map.2 ⟨a,ha,hv⟩
 have azb: ∀a b,a∈N.roots->b∈N.roots-> ∀j,(a.loc.val S).root=some j->(b.loc.val S).root=some j->a=b:=fun a b ha hb j h1 h2=>Vg Y7 ha hb h1 h2;have aof: ∀a,a∈N.roots-> ∀j,(a.loc.val S).root=some j->N.sig S σ a.new=σ j:=by
  intro a ha j hv;obtain⟨h1,b,h3,h4⟩:=K.new a ha;unfold Norm.sig;rw[h3];simp only[h4,hv]
 have DG: ∀id j,look S id N.roots=some j->N.sig S σ j=σ id:=by
  intro id j h;obtain⟨a,h1,h2,rfl⟩:=Ju h;exact aof a h1 id h2
 have Qd: ∀a,a∈N.roots-> ∀j ob b o k,(a.loc.val S).root=some j->S.h j=some ob->σ j=some (b,o,k)-> ¬J b:=by
  intro a ha j ob b o k hv ho hs;rintro(hx|⟨i,ob2,o2,k2,g1,g2⟩)
  ·exact(R.owned ⟨j,ob,o,k,ho,hs⟩).1 hx
  ·have g3:=k8 g1;have:i=j:=R.apart i j ob2 ob b o2 k2 o k g3.1 ho g2 hs
   grind
 have beu: ∀c x,dD w I σ c x->dD w J (N.sig S σ) (fixC S N (gr S.h (N.tq S)) c) x:=by
  intro c x hx;unfold fixC;split
  ·rename_i id s l;split
   ·rename_i j hj;simp only[dD]at hx⊢;rw[DG id j hj];omega
   ·split
    ·rename_i v hv;exact(him _ v x hv hx).ext Ext.free
    ·simp[dD]
  ·rename_i id i f;split
   ·rename_i j hj;simp only[dD]at hx⊢
    grind
   ·simp[dD]
  ·split
   ·rename_i h;exact(Zm ((tU h hx).ext EJ)).ext Ext.free
   ·simp[dD]
 have bev: ∀c x,dD w I σ c x->dD w J (N.sig S σ) (Kx S N (gr S.h (N.tq S)) c) x:=by
  intro c x hx;unfold Kx;split
  ·rename_i cs;obtain⟨us,rfl,hc⟩:=hx;refine⟨us,rfl,?_⟩;rw[dO]at hc⊢
   grind
  ·grind
 have Zo: ∀cs us,iO w I σ cs us->iO w J (N.sig S σ) (cs.map (Kx S N (gr S.h (N.tq S)))) us:=by
  intro cs us hc;rw[mJ]at hc⊢;refine⟨by grind,fun j c u' xX hu=> ?_⟩;rw[abG]at xX;cases AF:cs[j]? with
  |none=>grind
  |some c0=>
   grind
 have azc: ∀c x,dD w I σ c x->dD w J (N.sig S σ) (E9 S N (gr S.h (N.tq S)) c) x:=by
  intro c x hx;unfold E9;split
  ·obtain⟨us,rfl,hc⟩:=hx;exact⟨us,rfl,Zo _ _ hc⟩
  ·obtain⟨us,vs,rfl,h1,h2⟩:=hx;exact⟨us,vs,rfl,Zo _ _ h1,Zo _ _ h2⟩
  ·rename_i cs;obtain⟨b,o,h1,h2,h3⟩:=hx;exact⟨b,o,h1,UT b h2,qF.ext' cs b o EJ h2 h3⟩
  ·grind
 have azd: ∀(o:Option Nat) v w' x,dD w I σ v x->dD w J (N.sig S σ) w' x->dD w J (N.sig S σ) (xW o v w') x:=by
  intro o v w' x h1 h2;unfold xW;split
  ·split
   ·exact MQ rfl h1
   omega
  ·omega
 have asc: ∀(id:Nat) (cs:List V) (b o j0:Nat),(Bu S N (gr S.h (N.tq S)) id j0 cs).length=cs.length/\
   (Cm w I σ cs b o->Cm w J (N.sig S σ) (Bu S N (gr S.h (N.tq S)) id j0 cs) b o):=by
  intro id cs b o;induction cs generalizing o with
  |nil=>intro j0;exact⟨rfl,fun _ j c hj=>by simp[Bu]at hj⟩
  |cons c cs ih=>
   intro j0;obtain⟨g1,g2⟩:=ih (o+1) (j0+1);refine⟨by simp[Bu,g1],fun yo j c' hj=> ?_⟩;cases j with
   |zero=>
    simp only[Bu,adR,aA]at hj;obtain⟨u,k1,k2,k3⟩:=yo 0 c (by simp)
    grind
   |succ j=>
    have a8u:Cm w I σ cs b (o+1):=fun j c' hj=>by
     have:=yo (j+1) c' (by grind)
     grind
    have:=g2 a8u j c' hj
    grind
 have aze: ∀(id:Nat) (e:V) (b o:Nat),(∀cs,e≠ .dP cs)->(PK S N (gr S.h (N.tq S)) id e).cells.length=e.cells.length/\(Cm w I σ e.cells b o->Cm w J (N.sig S σ) (PK S N (gr S.h (N.tq S)) id e).cells b o):=by
  intro id e b o Cz;by_cases hx: ∃cs,e= .agg cs
  ·obtain⟨cs,rfl⟩:=hx;exact asc id cs b o 0
  ·have Ig: ∀cs,e≠ .agg cs:=fun cs h=>hx ⟨cs,h⟩;have Qe:PK S N (gr S.h (N.tq S)) id e=xW (qo S id 0 N.roots) e (fixC S N (gr S.h (N.tq S)) e):=by
    cases e with
    |agg cs=>grind
    |_=>rfl
   have hna: ∀cs,PK S N (gr S.h (N.tq S)) id e≠ .agg cs:=by
    rw[Qe];intro cs hh;have BD: ∀cs,fixC S N (gr S.h (N.tq S)) e≠ .agg cs:=by
     intro cs hh;unfold fixC at hh;split at hh
     ·split at hh
      ·grind
      ·split at hh
       ·rename_i v hv;exact zD hv (by omega) cs hh
       grind
     ·grind
     ·split at hh
      ·cases e<;>simp[V.wide]at hh
       grind
      grind
    unfold xW at hh;split at hh
    ·grind
    ·grind
   rw[mC hna,mC Ig];refine⟨rfl,fun yo j c hj=> ?_⟩;cases j with
   |succ j=>grind
   |zero=>
    simp at hj;subst hj;obtain⟨u,k1,k2,k3⟩:=yo 0 e (by simp)
    grind
 have Tw: ∀a ob,a∈N.roots->m9 a.new N.roots=some a->a.ob S N (gr S.h (N.tq S))=some ob->Mp w J (N.sig S σ) a.new ob/\(∀b o k,N.sig S σ a.new=some (b,o,k)-> ∃j H5,(a.loc.val S).root=some j/\S.h j=some H5/\σ j=some (b,o,k)):=by
  intro a ob ha hna gG;unfold Gr.ob PL at gG;split at gG
  ·rename_i hv;simp only[aA]at gG;subst gG;have hz:N.sig S σ a.new=none:=by
    unfold Norm.sig;rw[hna];simp only[hv,V.root]
   exact⟨.inl ⟨rfl,hz⟩,fun b o k hs=>by grind⟩
  ·split at gG
   case h_2=>grind
   rename_i j hv;have hz:=aof a ha j hv;cases ho:S.h j with
   |none=>rw[ho]at gG;simp[Fa]at gG
   |some H5=>
    rw[ho]at gG;refine⟨?_,fun b o k hs=>⟨j,H5,hv,ho,by grind⟩⟩;unfold Fa at gG;have hR:=R.obj j H5 ho;simp only at gG;split at gG
    ·rename_i hk;split at gG
     ·rename_i e he;simp only[aA]at gG;subst gG;rcases hR with⟨h1,_⟩|⟨b,o,c,el,hs,hi,hb,hle,fX⟩
      ·grind
      ·rw[he,hk]at fX;rw[he]at hle;rw[kP]at fX;refine .inr ⟨b,o,c,el,by grind,Qd a ha j H5 b o H5.k hv ho hs,hb,by omega,?_⟩;rw[kP];by_cases azf: ∃cs,e= .dP cs
       ·obtain⟨cs,rfl⟩:=azf;obtain⟨u,_,k2,k3⟩:=fX.2.1 0 (.dP cs) (by simp[V.cells]);obtain⟨us,rfl,_⟩:=k3;simp[Value.oneCell']at k2
       ·obtain⟨g1,g2⟩:=aze j e b o (fun cs h=>azf ⟨cs,h⟩);exact⟨by grind,g2 fX.2.1,by simp[dN]⟩
     ·split at gG
      case isFalse=>grind
      rename_i jV;simp only[aA]at gG;subst gG;rcases hR with⟨h1,h2⟩|⟨b,o,c,el,hs,hi,hb,hle,fX⟩
      ·exact .inl ⟨h1,by grind⟩
      ·refine .inr ⟨b,o,c,el,by rw[hz];exact hs,Qd a ha j H5 b o H5.k hv ho hs,hb,hle,?_⟩;rw[hk]at fX⊢;exact((Mv jV fX).nO EJ rfl).nO Ext.free rfl
    ·rename_i hk;simp only[aA]at gG;subst gG;have qT:H5.eU=false:=by simpa using hk
     rcases hR with⟨h1,h2⟩|⟨b,o,c,el,hs,hi,hb,hle,fX⟩
     ·exact .inl ⟨h1,by rw[hz];exact h2⟩
     ·refine .inr ⟨b,o,c,el,by rw[hz];exact hs,Qd a ha j H5 b o H5.k hv ho hs,hb,hle,?_⟩;rw[qT]at fX⊢;exact fX.nO EJ rfl
 have Tx: ∀id ob,PM S N (gr S.h (N.tq S)) N.roots id=some ob-> ∃a,a∈N.roots/\a.new=id/\m9 a.new N.roots=some a/\a.ob S N (gr S.h (N.tq S))=some ob:=by
  intro id ob ho;rw[BF]at ho;cases hz:m9 id N.roots with
  |some a=>
   rw[hz]at ho;obtain⟨h1,h2⟩:=w7 hz;exact⟨a,h1,h2,by rw[h2];exact hz,ho⟩
  |none=>rw[hz]at ho;cases ho
 have gZ: ∀b,jk σ (gr S.h (N.tq S)) b->jk σ S.h b:=fun b ⟨i,ob,o,k,h1,h2⟩=>⟨i,ob,o,k,(k8 h1).1,h2⟩;have azg: ∀id,N.n<=id->m9 id N.roots=none:=fun id fa=>by
  cases hz:m9 id N.roots with
  |none=>rfl
  |some a=>
   obtain⟨h1,h2⟩:=w7 hz;have:=(K.new a h1).1;omega
 refine⟨⟨fun b hb=> ?_,fun id ob ho=> ?_,fun id nA ob oE b o k o' k' h1 h2 h3 h4=> ?_,R.AA.sub fun b hb=> .inl hb⟩,fun t=> ?_,fun id fa=>⟨?_,?_⟩,fun b hb=> ?_⟩
 ·rcases hb with hb|hb
  ·exact R.eu b hb
  ·exact R.me (gZ b hb)
 ·obtain⟨a,g1,rfl,g2,g3⟩:=Tx id ob ho;exact(Tw a ob g1 g2 g3).1
 ·obtain⟨a,g1,rfl,g2,g3⟩:=Tx id ob h1;obtain⟨j,H5,m1,m2,m3⟩:=(Tw a ob g1 g2 g3).2 b o k h3;obtain⟨a',g1',rfl,g2',g3'⟩:=Tx nA oE h2;obtain⟨j',a8v,m1',m2',m3'⟩:=(Tw a' oE g1' g2' g3').2 b o' k' h4;have:j=j':=R.apart j j' H5 a8v b o k o' k' m2 m2' m3 m3';subst this;rw[azb a a' g1 g1' j m1 m1']
 ·rw[MZ];split
  case isFalse=>simp[dD]
  exact azd _ _ _ _ (F t) (azc _ _ (F t))
 ·rw[BF,azg id fa]
 ·unfold Norm.sig;rw[azg id fa]
 ·obtain⟨id,ob,o,k,h1,h2⟩:=hb;obtain⟨a,g1,rfl,g2,g3⟩:=Tx id ob h1;obtain⟨j,H5,m1,m2,m3⟩:=(Tw a ob g1 g2 g3).2 b o k h2;exact⟨j,H5,o,k,m2,m3⟩
end
def CG: ∀{vs CC:List V} {h h':bh},rL h vs=some (CC,h')-> ∀id,h id=none->h' id=none
 | [],CC,h,h',hg,id,fa=>by
  simp only[rL,aA,bM]at hg
  grind
 |v::ps,CC,h,h',hg,id,fa=>by
  simp only[rL]at hg;split at hg
  ·rename_i v' h1 hg1;split at hg
   ·rename_i h2 EL;simp only[aA,bM]at hg;rw[<-hg.2];exact CG EL id (FN hg1 id fa)
   grind
  grind
section
variable {X:Env} {C:jm} {bZ:FuncId}
theorem Vh(hC:rh X C){dst:Option Nat}{g:FuncId}{args:List V}(he:gV X C bZ dst g args S=some S1):S.n<=S1.n/\ ∀id,id<S.n->S.h id=none->S1.h id=none:=by
 unfold gV at he;split at he
 ·split at he
  case h_2=>grind
  split at he
  case h_2=>grind
  split at he
  ·grind
  simp only[aA]at he;subst he;rw[fm,hX];refine⟨by simp[St.new],fun id fa hn=> ?_⟩;have:id≠S.n:=by omega
  simp[St.new,aR,this,hn]
 ·split at he
  ·rename_i hby
   have Eo:X.low g=false:=by
    simp only[aaF,aaZ]at hby;exact hby.2
   split at he
   case h_2=>grind
   rename_i v h n hc;simp only[aA]at he;subst he;rw[fm,hX];have:=hC _ _ _ _ _ _ _ hc;rw[yp Eo]at this;omega
  split at he
  ·unfold vj at he;split at he
   case h_2=>grind
   split at he
   case h_2=>grind
   rename_i ob gG;split at he
   case h_2=>grind
   split at he
   case isFalse=>grind
   split at he
   case h_2=>grind
   split at he
   case h_2=>grind
   rename_i hg
   repeat (split at he;rotate_left;cases he)
   simp only[aA]at he;subst he;rw[fm,hX];refine⟨by simp,fun i hi hn=> ?_⟩;dsimp only;rw[oZ,if_neg (by omega)];have kz:i≠_:=fun e=>by rw[e,gG]at hn;grind
   simp only[aR,kz,if_false];refine CG hg i ?_;cases hz:gr (aR S.h _ none) _ i with
   |none=>rfl
   |some y=>
    have:=(k8 hz).1
    grind [aR]
  split at he
  ·unfold mT at he;split at he
   case h_2=>grind
   rename_i hg
   repeat (split at he;rotate_left;cases he)
   simp only[aA]at he;subst he;rw[fm,hX];refine⟨by simp,fun i hi hn=> ?_⟩;dsimp only;rw[oZ,if_neg (by omega)];exact CG hg i hn
  ·split at he
   case h_2=>grind
   split at he
   ·rename_i oT;have Eo:X.low g=false:=by
     simp only[aaF,aaZ]at oT;exact oT.2
    split at he
    case h_2=>grind
    rename_i v h n hc;split at he
    ·grind
    simp only[aA]at he;subst he;rw[fm,hX];have:=hC _ _ _ _ _ _ _ hc;rw[yp Eo]at this
    grind
   ·split at he
    case h_2=>grind
    split at he
    case h_2=>grind
    split at he
    ·grind
    simp only[aA]at he;subst he;rw[fm,hX]
    grind
theorem zF(hC:rh X C){n0 j:Nat}(he:fq X C bZ n0 j o S=some S1):S.n<=S1.n/\ ∀id,id≠n0+j->id<S.n->S.h id=none->S1.h id=none:=by
 unfold fq at he;split at he
 ·split at he
  case h_2=>grind
  have:=Vh hC he
  grind
 ·split at he
  case h_2=>grind
  rename_i v h n hc;simp only[aA]at he;subst he;rw[fm,hX];exact⟨aaI _,fun id kz _ hn=>MX hc id kz hn⟩
theorem FQ(hC:rh X C){dc:List (Option Nat)}{n0:Nat}: ∀{l:List Oper} {k:Nat} {S S1:St},gM X C bZ dc n0 k l S=some S1->S.n<=S1.n/\ ∀id,(id<n0+k\/n0+k+l.length<=id)->id<S.n->S.h id=none->S1.h id=none
 | [],k,S,S1,he=>by
  simp only[gM,aA]at he
  grind
 |o::l,k,S,S1,he=>by
  have two: ∀{S2:St},S.n<=S2.n->(∀id,id≠n0+k->id<S.n->S.h id=none->S2.h id=none)->gM X C bZ dc n0 (k+1) l S2=some S1->S.n<=S1.n/\ ∀id,(id<n0+k\/n0+k+(o::l).length<=id)->id<S.n->S.h id=none->S1.h id=none:=by
   intro S2 h1 h2 h3;obtain⟨h4,h5⟩:=FQ hC h3;refine⟨by omega,fun id fa gZ hn=>h5 id ?_ (by omega) (h2 id ?_ gZ hn)⟩
   ·grind
   ·grind
  have skip:gM X C bZ dc n0 (k+1) l (S.set o.dst (.dP []))=some S1->S.n<=S1.n/\ ∀id,(id<n0+k\/n0+k+(o::l).length<=id)->id<S.n->S.h id=none->S1.h id=none:=fun h3=>
   two (by rw[hX];omega) (fun id _ _ hn=>by rw[fm];omega) h3
  simp only[gM]at he;split at he
  ·split at he
   case h_2=>grind
   rename_i S2 h1;have:=zF hC h1
   grind
  ·split at he
   case h_2=>grind
   split at he
   ·split at he
    ·split at he
     case h_2=>grind
     rename_i S2 h1;have:=zF hC h1
     grind
    grind
   ·grind
   grind
def Zp(X:Env)(E:Ev):Prop:= ∀f c S e S1 m,E f c S=some (e,S1)->m<=S.n->(X.low f=true->m<=Env.base X f)->m<=S1.n/\ ∀id,id<m->S.h id=none->S1.h id=none
theorem vp(hE:Zp X E):rh X (dC X E):=by
 intro g args h k v h' k' hc;unfold dC at hc;have Ky:X.oS g=none:=by
  cases Ky:X.oS g with
  |none=>rfl
  |some pr=>grind
 simp only[Ky]at hc;split at hc
 case h_2=>grind
 split at hc
 case h_2=>grind
 rename_i fn hf b hb;cases he:E g b ⟨oH args,h,k⟩ with
 |none=>simp[he,vW]at hc
 |some x=>
  obtain⟨e,S1⟩:=x;rw[he]at hc;have:=hE _ _ _ _ _ (L2 X g k) he (YY X g k) (fun hl=>by
   unfold L2 Env.base;grind)
  cases e with
  |exit id=>simp[vW]at hc
  |normal|ret=>
   simp only[vW]at hc
   grind
theorem yA(hN:vo X): ∀n,Zp X (tu X n)
 |0=>fun f c S e S1 m he=>by simp[tu]at he
 |n+1=>by
  have ih:=yA hN n;have hC:=vp (X:=X) ih;intro f c S e S1 m he hm hl;rw[tu]at he;have done:S=S1->m<=S1.n/\ ∀id,id<m->S.h id=none->S1.h id=none:=by
   rintro rfl;exact⟨hm,fun _ _ h=>h⟩
  have trans: ∀{S2:St},(m<=S2.n/\ ∀id,id<m->S.h id=none->S2.h id=none)->(m<=S1.n/\ ∀id,id<m->S2.h id=none->S1.h id=none)->m<=S1.n/\ ∀id,id<m->S.h id=none->S1.h id=none:=
   fun h1 h2=>⟨h2.1,fun id fa hn=>h2.2 id fa (h1.2 id fa hn)⟩
  cases c with
  |skip|exit _|ret=>
   simp only[kq,aA,bM]at he
   grind
  |region id ops d=>
   simp only[kq]at he;split at he
   case h_2=>grind
   rename_i S0 Po;split at he
   case h_2=>grind
   rename_i S2 Cp;split at he
   case isFalse=>grind
   obtain⟨_,rfl⟩:=he;obtain⟨h1,h2⟩:=FQ hC Cp;simp only at h1 h2;have h0:=AH hN Po hl hm
   grind
  |seq x y=>
   simp only[kq]at he;cases hx:tu X n f x S with
   |none=>grind
   |some z=>
    obtain⟨e2,S2⟩:=z;rw[hx]at he;have h1:=ih _ _ _ _ _ m hx hm hl;cases e2 with
    |normal=>exact trans h1 (ih _ _ _ _ _ m he h1.1 hl)
    |exit id=>
     grind
    |ret=>
     grind
  |cond x p q=>
   simp only[kq]at he;split at he
   case h_2=>grind
   split at he
   ·exact ih _ _ _ _ _ m he hm hl
   ·exact ih _ _ _ _ _ m he hm hl
  |block id b=>
   simp only[kq]at he;cases hb:tu X n f b S with
   |none=>grind
   |some z=>
    obtain⟨e2,S2⟩:=z;rw[hb]at he;have h1:=ih _ _ _ _ _ m hb hm hl
    grind
  |loop b=>
   simp only[kq]at he;split at he
   case h_2=>grind
   rename_i S0 Po;have h0:=AH hN Po hl hm;cases hb:tu X n f b S0 with
   |none=>grind
   |some z=>
    obtain⟨e2,S2⟩:=z;rw[hb]at he;have h1:=ih _ _ _ _ _ m hb h0.1 hl;have h2:m<=S2.n/\ ∀id,id<m->S.h id=none->S2.h id=none:=⟨h1.1,fun id fa hn=>h1.2 id fa (h0.2 id fa hn)⟩;cases e2 with
    |normal=>exact trans h2 (ih _ _ _ _ _ m he h1.1 hl)
    |exit id=>
     grind
    |ret=>
     grind
  |_=>simp[kq]at he
end
def AI(P:Program)(c:Code)(Q:Exit->Act->World->Prop)(a:Act)(w:World):Prop:=
 ∀(b:Frame) (k:List Item) (cs:List Frame),∃e a' w',Q e a' w'/\Arrives P (lone (b.at a (.code c:: .inLoop c::k)) cs w) b k cs e a' w'
def AI.wp{P:Program}{c:Code}{Q:Exit->Act->World->Prop}{a:Act}{w:World}(h:AI P c Q a w):(Code.loop c).wp P Q a w:=by
 intro b k cs;obtain⟨e,a',w',hq,M0⟩:=h b k cs;exact⟨e,a',w',hq,.of_steps (.one step_loop) M0⟩
def AI.round{P:Program}{c:Code}{Q:Exit->Act->World->Prop}{w:World}(h:c.wp P (Exit.then (AI P c Q) Q) a w):AI P c Q a w:=by
 intro b k cs;obtain⟨e,a₁,w₁,hq,M0⟩:=h b (.inLoop c::k) cs;cases e with
 |normal=>
  obtain⟨e₂,a₂,w₂,hq₂,azh⟩:=hq b k cs;exact⟨e₂,a₂,w₂,hq₂,.of_steps (Steps.trans M0 (.one step_inLoop)) azh⟩
 |exit id=>exact⟨_,a₁,w₁,hq,.pass (x:= .inLoop c) rfl (fun _ _=> .inl (by simp)) M0⟩
 |goto l=>exact⟨_,a₁,w₁,hq,.pass (x:= .inLoop c) rfl (fun _ _=> .inl (by simp)) M0⟩
 |ret=>exact⟨_,a₁,w₁,hq,.pass (x:= .inLoop c) rfl (fun _ _=> .inl (by simp)) M0⟩
 |panic ch=>exact⟨_,a₁,w₁,hq,.pass (x:= .inLoop c) rfl (fun _ _=> .inl (by simp)) M0⟩
 |outgrown=>exact⟨_,a₁,w₁,hq,.pass (x:= .inLoop c) rfl (fun _ _=> .inl (by simp)) M0⟩
def ai5(P:Program):Code->(Exit->Act->World->Prop)->Act->World->Prop
 | .loop b=>AI P b
 |c=>c.wp P
def ai5.wp{P:Program}{c:Code}{Q:Exit->Act->World->Prop}{a:Act}{w:World}(h:ai5 P c Q a w):c.wp P Q a w:=by
 unfold ai5 at h;split at h
 ·exact h.wp
 omega
def Ex.ex:Ex->Exit
 | .normal=> .normal
 | .exit id=> .exit id
 | .ret=> .ret
def Qf(nt n0:Nat)(w:World)(I:Nat->Prop)(σ:ju)(h:bh)(S1:St)(a':Act)(w':World):Prop:=
 ∃I' σ',n0<=S1.n/\Step w I σ h n0 w' I' σ' S1.h S1.n/\jw w' I' σ' S1.f a'/\lV σ' S1.h S1.n/\nt<=a'.tmps.size/\a'.defers=[]
def M3(nt m:Nat)(w:World)(I:Nat->Prop)(σ:ju)(h:bh)(S1:St)(a':Act)(w':World):Prop:=
 ∃I' σ',m<=S1.n/\vn m w I σ h w' I' σ' S1.h/\jw w' I' σ' S1.f a'/\lV σ' S1.h S1.n/\nt<=a'.tmps.size/\a'.defers=[]
def Qg(X:Env)(lp:FuncId->Nat->Array Oper->Bool):Prop:=
 ∀(C:jm),qY X C->rh X C->o7 X C->uK X->(∀bZ dst g args S S1,gV X C bZ dst g args S=some S1->wc X g)->
 ∀(bZ:FuncId) (id nt:Nat) (ops:Array Oper) (S S1:St),(∀o∈ops.toList,UR X nt o=true)->lp bZ id ops=true->
  gM X C bZ (ops.toList.map (·.dst)) S.n 0 ops.toList {S with n:=S.n+ops.size}=some S1->lD X C bZ ops.toList S.n {S with n:=S.n+ops.size} S1 (X.sZ bZ id)->
  ∀(a:Act) (w:World) (I:Nat->Prop) (σ:ju),Rel w I σ S.h->jw w I σ S.f a->lV σ S.h S.n->nt<=a.tmps.size->a.defers=[]->
  ∀(Q:Exit->Act->World->Prop),(∀a' w',Qf nt S.n w I σ S.h S1 a' w'->Q .normal a' w')->(Code.region id ops true).wp X.P Q a w
def we(X:Env)(lp:FuncId->Nat->Array Oper->Bool)(nt:Nat)(bZ:FuncId):Code->Bool
 | .region id ops d=>ops.toList.all (UR X nt)&& (!d||lp bZ id ops)
 | .seq a b=>we X lp nt bZ a&&we X lp nt bZ b
 | .cond x a b=>aij x&&we X lp nt bZ a&&we X lp nt bZ b
 | .block _ b=>we X lp nt bZ b
 | .loop b=>we X lp nt bZ b
 |_=>true
def sF(X:Env):ResultVar->Bool
 | .tmp _=>true
 | .cell _ t=>tB X t
def fnB(X:Env)(lp:FuncId->Nat->Array Oper->Bool)(g:FuncId)(fn:Func):Bool:=
 match fn.body with
 |some b=>we X lp fn.ntmps g b&&fn.results.toList.all (sF X)&& !(fn.name== "runtime.NumGoroutine")
 |none=>true
def Jv(X:Env)(lp:FuncId->Nat->Array Oper->Bool):Prop:= ∀g fn,X.P.funcs[g]?=some fn->X.oS g=none->fnB X lp g fn=true
section
variable {X:Env} {lp:FuncId->Nat->Array Oper->Bool}
def Sound(X:Env)(lp:FuncId->Nat->Array Oper->Bool)(E:Ev):Prop:=
 ∀(bZ:FuncId) (nt m:Nat) (c:Code) (S:St) (e:Ex) (S1:St),E bZ c S=some (e,S1)->we X lp nt bZ c=true->m<=S.n->(X.low bZ=true->m<=Env.base X bZ)->
  ∀(a:Act) (w:World) (I:Nat->Prop) (σ:ju),Rel w I σ S.h->jw w I σ S.f a->lV σ S.h S.n->nt<=a.tmps.size->a.defers=[]->
  ∀(Q:Exit->Act->World->Prop),(∀a' w',M3 nt m w I σ S.h S1 a' w'->Q e.ex a' w')->ai5 X.P c Q a w
theorem M3.trans {nt m:Nat} {w w1 w2:World} {I I1:Nat->Prop} {σ σ1:ju} {h h1:bh} {S2:St} {a2:Act} (s:vn m w I σ h w1 I1 σ1 h1)
  (hp:M3 nt m w1 I1 σ1 h1 S2 a2 w2):M3 nt m w I σ h S2 a2 w2:=by
 obtain⟨I',σ',hn,hs,hF,nU,s7,hd⟩:=hp;exact⟨I',σ',hn,s.trans hs,hF,nU,s7,hd⟩
theorem Jw{X:Env}(hN:vo X){bZ key m:Nat}{w:World}{I:Nat->Prop}{σ:ju}(h:oN X bZ key S=some S')(R:Rel w I σ S.h)(F:jw w I σ S.f a)(fr:lV σ S.h S.n)(hm:m<=S.n)(hl:X.low bZ=true->m<=Env.base X bZ):
  ∃I' σ',m<=S'.n/\vn m w I σ S.h w I' σ' S'.h/\jw w I' σ' S'.f a/\lV σ' S'.h S'.n:=by
 have xJ:=AH hN h hl hm;unfold oN at h;cases hc:X.norm bZ key with
 |none=>
  rw[hc]at h;simp only[aA]at h;subst h;exact⟨I,σ,hm,vn.refl R m,F,fr⟩
 |some N=>
  rw[hc]at h;obtain⟨h1,h2,h3⟩:=hN bZ key N hc;obtain⟨g1,g2,g3,g4⟩:=Zn h1 h R F fr;have kr:=h;refine⟨_,_,xJ.1,⟨fun _ _=>rfl,fun _ c _ fz hb=>⟨c,fz,hb,rfl⟩,fun b hb=> .inl hb,g1,rfl,rfl,rfl,aaI _,fun _ _ _=>rfl,fun b hb=> .inr (g4 b hb),fun b hb=> ?_,fun id fa=> ?_,xJ.2⟩,g2,g3⟩
  ·rcases hb with hb|⟨i,ob,o,k,k1,k2⟩
   ·grind
   ·exact .inr (.inr ⟨i,ob,o,k,(k8 k1).1,k2⟩)
  ·have sV:=hl h2;unfold Env.base at sV;have Bm:X.gq bZ=true:=by
    cases Bm:X.gq bZ with
    |true=>rfl
    |false=>grind
   rw[if_pos Bm]at sV;have:id=0:=by omega
   subst this;have kr:N.run S=some S':=kr;unfold Norm.run at kr;split at kr
   case isFalse=>grind
   rename_i s9;simp only[aaF]at s9;obtain⟨r,k1,k2⟩:=FP (h3 Bm) s9.2;unfold Norm.sig
   grind
def FR(X:Env)(S:St):ResultVar->Option V
 | .tmp t=>some (S.f t)
 | .cell a t=>match S.f a with
  | .ptr id i f=>match S.h id with
   |some ob=>match ob.es[i]? with
    |some e=>part (X.ti t) e.cells f
    |none=>none
   |none=>none
  |_=>none
def KQ(tmps:Array Value):ResultVar->Sem Value
 | .tmp t=>pure (tmps.getD t undef)
 | .cell a t=>do loadVar t (<-asAddr (tmps.getD a undef))
theorem M4(rs:List ResultVar)(S:St):na X rs S=(match cF (rs.map (FR X S)) with
 |some [v]=>some v
 |some vs=>some (.dP vs)
 |none=>none):=rfl
theorem FT(fn:Func)(tmps:Array Value):results fn tmps=(do
  let vs<-fn.results.mapM (KQ tmps)
  pure (if h:vs.size=1 then vs[0] else .tuple vs)):=rfl
theorem M5 {w:World} {I:Nat->Prop} {σ:ju}   (R:Rel w I σ S.h) (F:jw w I σ S.f a) {fn:Func} (hB:fn.results.toList.all (sF X)=true) 
  (hv:na X fn.results.toList S=some v): ∃u,(results fn a.tmps).run X.P w= .ok u w/\dD w I σ v u:=by
 have key: ∀(rs:List ResultVar) (l:List V),rs.all (sF X)=true->cF (rs.map (FR X S))=some l-> ∃us:List Value,(rs.mapM (KQ a.tmps)).run X.P w= .ok us w/\iO w I σ l us:=by
  intro rs;induction rs with
  |nil=>
   intro l _ hl;simp only[abM,cF,aA]at hl;subst hl;exact⟨[],by simp,by simp[iO]⟩
  |cons r rs ih=>
   intro l hb hl;simp only[aeA,aaF]at hb;simp only[aaV]at hl;cases r with
   |tmp t=>
    simp only[FR,cF]at hl;split at hl
    case h_2=>grind
    rename_i l' Ah;simp only[aA]at hl;subst hl;obtain⟨us,h1,h2⟩:=ih l' hb.2 Ah;refine⟨a.tmps.getD t undef::us,?_,?_⟩
    ·simp[afw,KQ,h1]
    ·exact⟨_,_,rfl,F t,h2⟩
   |cell x t=>
    have T:mh X.P t (X.ti t):=lU hb.1;cases hx:S.f x with
    |ptr id i f=>
     simp only[FR,hx]at hl;cases gG:S.h id with
     |none=>simp[gG,cF]at hl
     |some ob=>
     simp only[gG]at hl;cases hi:ob.es[i]? with
     |none=>simp[hi,cF]at hl
     |some e=>
     simp only[hi]at hl;cases hp:part (X.ti t) e.cells f with
     |none=>simp[hp,cF]at hl
     |some v0=>
     simp only[hp,cF]at hl;split at hl
     case h_2=>grind
     rename_i l' Ah;simp only[aA]at hl;subst hl;obtain⟨us,h1,h2⟩:=ih l' hb.2 Ah;have hF:=F x;rw[hx]at hF;obtain⟨b,of,k,mQ,hu⟩:=hF;obtain⟨b',o',c,el,oG,hI,wT,s7,fX⟩:=R.at gG hi;rw[mQ]at oG;obtain⟨rfl,rfl,rfl⟩:=oG;have hc:=(fX.get hi).2.ext (Ext.Fc ob.eU) rfl;obtain⟨u,hld,hr⟩:=Ff T (f:=f) hc hp;refine⟨u::us,?_,?_⟩
     ·simp[afw,KQ,h1,hu,asAddr,hld]
     ·exact⟨_,_,rfl,hr,h2⟩
    |_=>simp[FR,hx,cF]at hl
 rw[M4]at hv;split at hv
 ·rename_i v0 hl;simp only[aA]at hv;subst hv;obtain⟨us,h1,h2⟩:=key _ _ hB hl;obtain⟨u,r,rfl,h3,rfl⟩:=h2;refine⟨u,?_,h3⟩;rw[FT,adH];simp[h1]
 ·rename_i vs kz hl;simp only[aA]at hv;subst hv;obtain⟨us,h1,h2⟩:=key _ _ hB hl;refine⟨.tuple us.toArray,?_,?_⟩
  ·have hlen:us.length≠1:=by
    intro hl1;rw[mJ]at h2;match vs,h2 with
    | [v],_=>grind
    | [],h2=>grind
    |_::_::_,h2=>grind
   rw[FT,adH]
   simp_all
  ·exact⟨_,rfl,by omega⟩
 grind
theorem KR(hA:Jv X lp)(hS:Sound X lp E):qY X (dC X E):=by
 intro g args h k v h' k' hc w I σ us R fr hr;unfold dC at hc;have Ky:X.oS g=none:=by
  cases Ky:X.oS g with
  |none=>rfl
  |some pr=>grind
 simp only[Ky]at hc;split at hc
 case h_2=>grind
 rename_i fn hf;split at hc
 case h_2=>grind
 rename_i b hb;have hB:=hA g fn hf Ky;unfold fnB at hB;simp only[hb,aaF]at hB;have hF0:jw w I σ (oH args) {tmps:=us++Array.replicate (fn.ntmps-us.size) undef,defers:=[]}:=by
  intro t;unfold oH;split
  ·rename_i v0 hv;rw[mJ]at hr;have ht:t<us.size:=by
    have:=(List.getElem?_eq_some_iff.1 hv).1;rw[hr.1]at this;simpa using this
   have hu:us.toList[t]?=some us[t]:=by simp[ht]
   have:=hr.2 t _ _ hv hu;have hg:(us++Array.replicate (fn.ntmps-us.size) undef).getD t undef=us[t]:=by
    rw[abH,Array.getElem?_append_left ht];simp[ht]
   grind
  ·simp[dD]
 have fin: ∀{S1:St} {a':Act} {w':World},vW X fn.results.toList (some (.normal,S1))=some (v,h',k')->M3 fn.ntmps (L2 X g k) w I σ h S1 a' w'->
   a'.defers=[]/\ ∃u,(results fn a'.tmps).run X.P w'= .ok u w'/\ ∃u' I' σ',Ending.returned u= .returned u'/\L2 X g k<=k'/\vn (L2 X g k) w I σ h w' I' σ' h'/\lV σ' h' k'/\dD w' I' σ' v u':=by
  intro S1 a' w' hr hp;obtain⟨I',σ',hkn,hs,hF,nU,_,hd⟩:=hp;simp only[vW]at hr;split at hr
  case h_2=>grind
  rename_i v0 hv;simp only[aA,bM]at hr;obtain⟨rfl,rfl,rfl⟩:=hr;obtain⟨u,h1,h2⟩:=M5 hs.rel hF hB.1.2 hv;exact⟨hd,u,h1,u,I',σ',rfl,hkn,hs,nU,h2⟩
 cases he:E g b ⟨oH args,h,k⟩ with
 |none=>simp[he,vW]at hc
 |some x=>
  obtain⟨e,S1⟩:=x;rw[he]at hc;refine calls_of_wp hf hb ?_;refine(hS g fn.ntmps (L2 X g k) b ⟨oH args,h,k⟩ e S1 he hB.1.1 (YY X g k) (fun hl=>by
   unfold L2 Env.base;grind) _ w I σ R hF0 fr (by grind) rfl _ ?_).wp
  intro a' w' hp;cases e with
  |normal=>exact fin hc hp
  |ret=>exact fin (by simpa[vW] using hc) hp
  |exit id=>simp[vW]at hc
theorem azj(hA:Jv X lp)(hKG: ∀g,((X.clone g).isSome||(X.oS g).isSome)=true->wc X g): ∀bZ dst g args S S1,gV X (dC X E) bZ dst g args S=some S1->wc X g:=by
 have key: ∀g args h k r,dC X E g args h k=some r->wc X g:=by
  intro g args h k r hc;unfold dC at hc;have Ky:X.oS g=none:=by
   cases Ky:X.oS g with
   |none=>rfl
   |some pr=>grind
  simp only[Ky]at hc;split at hc
  case h_2=>grind
  rename_i fn hf;split at hc
  case h_2=>grind
  rename_i b hb;have hB:=hA g fn hf Ky;unfold fnB at hB;simp only[hb,aaF]at hB;exact⟨fn,b,hf,hb,by grind⟩
 intro bZ dst g args S S1 he;unfold gV at he;split at he
 ·grind
 split at he
 ·grind
 split at he
 ·unfold vj at he;split at he
  case h_2=>grind
  split at he
  case h_2=>grind
  grind
 split at he
 ·unfold mT at he
  grind
 ··split at he
   ·split at he
    ·grind
    ·split at he
     ·rename_i hc;unfold rM at hc
      grind
     grind
   grind
theorem sound(hA:Jv X lp)(hN:vo X)(hK:uK X)(hKG: ∀g,((X.clone g).isSome||(X.oS g).isSome)=true->wc X g)(hD:Qg X lp)(hV: ∀n,o7 X (dC X (tu X n))): ∀n,Sound X lp (tu X n)
 |0=>fun bZ nt m c S e S1 he=>by simp[tu]at he
 |n+1=>by
  have ih:=sound hA hN hK hKG hD hV n;have hC:=KR hA ih;have hG:=azj (E:=tu X n) hA hKG;intro bZ nt m c S e S1 he hB hm hl a w I σ R F fr hs hd Q hQ;have base: ∀{e'},e'=e->S=S1->Q e'.ex a w:=by
   intro e' h1 h2;subst h1;subst h2;exact hQ a w ⟨I,σ,hm,vn.refl R _,F,fr,hs,hd⟩
  rw[tu]at he;cases c with
  |skip=>
   simp only[kq,aA,bM]at he;exact wp_skip (base he.1 he.2)
  |exit id=>
   simp only[kq,aA,bM]at he;exact wp_exit (base he.1 he.2)
  |ret=>
   simp only[kq,aA,bM]at he;exact wp_ret (base he.1 he.2)
  |region id ops d=>
   simp only[kq]at he;simp only[we,aaF]at hB;have jV: ∀o∈ops.toList,UR X nt o=true:=List.all_eq_true.1 hB.1;split at he
   case h_2=>grind
   rename_i S0 Po;obtain⟨I0,σ0,hm0,s0,F0,fr0⟩:=Jw hN Po R F fr hm hl;split at he
   case h_2=>grind
   rename_i S2 Cp;split at he
   case isFalse=>grind
   rename_i kH;simp only[aA,bM]at he;obtain⟨rfl,rfl⟩:=he;have hQ': ∀a' w',Qf nt S0.n w I0 σ0 S0.h S2 a' w'->Q .normal a' w':=by
    rintro a' w' ⟨I',σ',hn,yx,hF,nU,oG,EM⟩;exact hQ a' w' ⟨I',σ',by omega,s0.trans (yx.aym hm0),hF,nU,oG,EM⟩
   cases d with
   |true=>exact hD _ hC (vp (yA hN n)) (hV n) hK hG bZ id nt ops S0 S2 jV (by grind) Cp kH a w I0 σ0 s0.rel F0 fr0 hs hd Q hQ'
   |false=>
    refine wp_region ?_;have nU:lV σ0 S0.h (S0.n+ops.size):=fun id fa=>fr0 id (by omega);have:=KP hC hK hG jV (Q:=Q) ops.toList 0 {S0 with n:=S0.n+ops.size} a w I0 σ0 (by simp) Cp s0.rel F0 nU hs hd (aaI _) (fun q _ _=>fr0 _ (by omega))
     (fun a' w' I' σ' hle kH hF Zg oG EM=>hQ' a' w' ⟨I',σ',by grind,kH,hF,Zg,oG,EM⟩)
    rw[List.range_eq_range'];omega
  |seq x y=>
   simp only[kq]at he;simp only[we,aaF]at hB;cases hx:tu X n bZ x S with
   |none=>grind
   |some z=>
    obtain⟨e2,S2⟩:=z;rw[hx]at he;refine wp_seq (ih bZ nt m x S e2 S2 hx hB.1 hm hl a w I σ R F fr hs hd _ fun a' w' hp=> ?_).wp;cases e2 with
    |normal=>
     obtain⟨I',σ',hn,kH,hF,nU,oG,EM⟩:=hp;exact(ih bZ nt m y S2 e S1 he hB.2 hn hl a' w' I' σ' kH.rel hF nU oG EM Q fun a2 w2 CH=>hQ a2 w2 (CH.trans kH)).wp
    |exit id=>
     obtain⟨rfl,rfl⟩:=he;exact hQ a' w' hp
    |ret=>
     obtain⟨rfl,rfl⟩:=he;exact hQ a' w' hp
  |cond x p q=>
   simp only[kq]at he;simp only[we,aaF]at hB;split at he
   case h_2=>grind
   rename_i t ht;have hxr:dD w I σ (S.ev x) (a.eval x):=fj F hB.1.1;rw[ht]at hxr;have pH:=tS hxr;refine wp_cond pH ?_;cases t with
   |true=>exact(ih bZ nt m p S e S1 (by grind) hB.1.2 hm hl a w I σ R F fr hs hd Q hQ).wp
   |false=>exact(ih bZ nt m q S e S1 (by grind) hB.2 hm hl a w I σ R F fr hs hd Q hQ).wp
  |block id b=>
   simp only[kq]at he;cases hb:tu X n bZ b S with
   |none=>grind
   |some z=>
    obtain⟨e2,S2⟩:=z;rw[hb]at he;refine wp_block (ih bZ nt m b S e2 S2 hb hB hm hl a w I σ R F fr hs hd _ fun a' w' hp=> ?_).wp;cases e2 with
    |normal=>
     obtain⟨rfl,rfl⟩:=he;exact hQ a' w' hp
    |ret=>
     obtain⟨rfl,rfl⟩:=he;exact hQ a' w' hp
    |exit i=>
     simp only at he;simp only[Ex.ex,Exit.inBlock];split at he
     ·rename_i hi;obtain⟨rfl,rfl⟩:=he;simp only[hi,if_true];exact hQ a' w' hp
     ·rename_i hi;obtain⟨rfl,rfl⟩:=he;simp only[hi,if_false];exact hQ a' w' hp
  |loop b=>
   simp only[kq]at he;have hBb:we X lp nt bZ b=true:=by simpa only[we] using hB
   split at he
   case h_2=>grind
   rename_i S0 Po;obtain⟨I0,σ0,hm0,s0,F0,fr0⟩:=Jw hN Po R F fr hm hl;cases hb:tu X n bZ b S0 with
   |none=>grind
   |some z=>
    obtain⟨e2,S2⟩:=z;rw[hb]at he;refine AI.round (ih bZ nt m b S0 e2 S2 hb hBb hm0 hl a w I0 σ0 s0.rel F0 fr0 hs hd _ fun a' w' hp=> ?_).wp;cases e2 with
    |normal=>
     obtain⟨I',σ',hn,kH,hF,nU,oG,EM⟩:=hp;exact ih bZ nt m (.loop b) S2 e S1 he hB hn hl a' w' I' σ' kH.rel hF nU oG EM Q fun a2 w2 CH=>hQ a2 w2 (CH.trans (s0.trans kH))
    |exit id=>
     obtain⟨rfl,rfl⟩:=he;exact hQ a' w' (hp.trans s0)
    |ret=>
     obtain⟨rfl,rfl⟩:=he;exact hQ a' w' (hp.trans s0)
  |_=>simp[kq]at he
theorem Zq(hA:Jv X lp)(hN:vo X)(hK:uK X)(hKG: ∀g,((X.clone g).isSome||(X.oS g).isSome)=true->wc X g)(hD:Qg X lp)(hV: ∀n,o7 X (dC X (tu X n))):qY X (cL X):=by
 intro g args h k v h' k' hc;obtain⟨n,hn⟩:=mU hc;exact KR hA (sound hA hN hK hKG hD hV n) g args h k v h' k' hn
end
def stepG(X:Env)(C:jm)(bZ:FuncId)(dc:List (Option Nat))(n0 k:Nat)(o:Oper)(S:St):Option St:=
 match o.guard with
 |none=>fq X C bZ n0 k o S
 |some (j,want)=>
  match dc[j]? with
  |some (some d)=>match S.f d with
   | .bool b=>if b=want then fq X C bZ n0 k o S else some (S.set o.dst (.dP []))
   | .dP []=>some (S.set o.dst (.dP []))
   |_=>none
  |_=>none
section
variable {X:Env} {C:jm} {bZ:FuncId} {dc:List (Option Nat)} {n0:Nat}
theorem AJ(k:Nat)(o:Oper)(l:List Oper)(S:St):gM X C bZ dc n0 k (o::l) S=(match stepG X C bZ dc n0 k o S with|some S1=>gM X C bZ dc n0 (k+1) l S1|none=>none):=by
 simp only[gM,stepG]
 grind
theorem w9: ∀(l1 l2:List Oper) (k:Nat) (S:St),gM X C bZ dc n0 k (l1++l2) S=(match gM X C bZ dc n0 k l1 S with|some S1=>gM X C bZ dc n0 (k+l1.length) l2 S1|none=>none)
 | [],l2,k,S=>by simp[gM]
 |o::l1,l2,k,S=>by
  rw[aeT,AJ,AJ];cases stepG X C bZ dc n0 k o S with
  |none=>rfl
  |some S1=>
   simp only;rw[w9 l1 l2 (k+1) S1,abP,show k+1+l1.length=k+(l1.length+1) by omega]
def Iw(dc:List (Option Nat))(o:Oper)(S S':St):Prop:=
 Alike o S S'/\ ∀j want d,o.guard=some (j,want)->dc[j]?=some (some d)->S'.f d=S.f d
theorem FU{k:Nat}{j d:Nat}{want:Bool}(hg:o.guard=some (j,want))(hd:dc[j]?=some (some d))(hf:S.f d= .dP []\/S.f d= .bool (!want)):
  stepG X C bZ dc n0 k o S=some (S.set o.dst (.dP [])):=by
 unfold stepG
 grind
theorem qG{k:Nat}(he:stepG X C bZ dc n0 k o S=some S1):
  (fq X C bZ n0 k o S=some S1/\ ∀S',Iw dc o S S'->stepG X C bZ dc n0 k o S'=fq X C bZ n0 k o S')\/
  (S1=S.set o.dst (.dP [])/\ ∀S',Iw dc o S S'->stepG X C bZ dc n0 k o S'=some (S'.set o.dst (.dP []))):=by
 unfold stepG at he;cases hg:o.guard with
 |none=>
  simp only[hg]at he;exact .inl ⟨he,fun S' _=>by simp only[stepG,hg]⟩
 |some g=>
  obtain⟨j,want⟩:=g;simp only[hg]at he;cases hd:dc[j]? with
  |none=>grind
  |some x=>
   cases x with
   |none=>grind
   |some d=>
    simp only[hd]at he;cases hf:S.f d with
    |bool b=>
     simp only[hf]at he;have X5: ∀S',Iw dc o S S'->S'.f d= .bool b:=fun S' hs=>by rw[hs.2 j want d hg hd];omega
     split at he
     ·rename_i hb;exact .inl ⟨he,fun S' hs=>by simp only[stepG,hg,hd,X5 S' hs,hb,if_true]⟩
     ·rename_i hb;simp only[aA]at he;exact .inr ⟨he.symm,fun S' hs=>by simp only[stepG,hg,hd,X5 S' hs,hb,if_false]⟩
    |dP l=>
     cases l with
     |nil=>
      simp only[hf,aA]at he;have X5: ∀S',Iw dc o S S'->S'.f d= .dP []:=fun S' hs=>by rw[hs.2 j want d hg hd];omega
      exact .inr ⟨he.symm,fun S' hs=>by simp only[stepG,hg,hd,X5 S' hs]⟩
     |cons _ _=>grind
    |_=>grind
theorem Zr{k:Nat}(hc:cls X bZ o=0)(he:stepG X C bZ dc n0 k o S=some S1): ∃v,S1=S.set o.dst v/\ ∀S',Iw dc o S S'->stepG X C bZ dc n0 k o S'=some (S'.set o.dst v):=by
 rcases qG he with⟨h1,h2⟩|⟨h1,h2⟩
 ·obtain⟨v,h3,h4⟩:=ay7 hc h1;exact⟨v,h3,fun S' hs=>by rw[h2 S' hs];exact h4 S' hs.1⟩
 grind
theorem Zs{k:Nat}(hc:cls X bZ o=1)(he:stepG X C bZ dc n0 k o S=some S1): ∃v,S1=S.set o.dst v/\ ∀S',Iw dc o S S'->Sub S.h S'.h->stepG X C bZ dc n0 k o S'=some (S'.set o.dst v):=by
 rcases qG he with⟨h1,h2⟩|⟨h1,h2⟩
 ·obtain⟨v,h3,h4⟩:=ay8 hc h1;exact⟨v,h3,fun S' hs AB=>by rw[h2 S' hs];exact h4 S' hs.1 AB⟩
 grind
def BG(h:bh)(id:Nat):Option Ob->bh
 |some ob=>aR h id (some ob)
 |none=>h
theorem Zt{k:Nat}(hc:cls X bZ o=2)(he:stepG X C bZ dc n0 k o S=some S1): ∃v ob,S1=({S with h:=BG S.h (n0+k) ob}:St).set o.dst v/\
  ∀S',Iw dc o S S'->stepG X C bZ dc n0 k o S'=some (({S' with h:=BG S'.h (n0+k) ob}:St).set o.dst v):=by
 rcases qG he with⟨h1,h2⟩|⟨h1,h2⟩
 ·obtain⟨v,ob,h3,h4⟩:=ay9 hc h1;exact⟨v,some ob,h3,fun S' hs=>by rw[h2 S' hs];exact h4 S' hs.1⟩
 ·exact⟨_,none,h1,h2⟩
theorem Qh{k:Nat}(he:stepG X C bZ dc n0 k o S=some S1): ∃v,S1=({S with h:=S1.h,n:=S1.n}:St).set o.dst v/\
  ∀S',Iw dc o S S'->S'.h=S.h->S'.n=S.n->stepG X C bZ dc n0 k o S'=some (({S' with h:=S1.h,n:=S1.n}:St).set o.dst v):=by
 rcases qG he with⟨h1,h2⟩|⟨h1,h2⟩
 ·obtain⟨v,h3,h4⟩:=aza h1;exact⟨v,h3,fun S' hs hh hn=>by rw[h2 S' hs];exact h4 S' hs.1 hh hn⟩
 ·refine⟨.dP [],by rw[h1,fm,hX],fun S' hs hh hn=> ?_⟩;rw[h2 S' hs,h1,fm,hX,<-hh,<-hn]
theorem aog(hC:rh X C){k:Nat}(he:stepG X C bZ dc n0 k o S=some S1):S.n<=S1.n/\ ∀id,id≠n0+k->id<S.n->S.h id=none->S1.h id=none:=by
 rcases qG he with⟨h1,_⟩|⟨h1,_⟩
 ·exact zF hC h1
 ·subst h1;rw[fm,hX]
  grind
theorem trace{L:List Oper}(he:gM X C bZ dc n0 0 L S0=some F): ∃T:Nat->St,T 0=S0/\T L.length=F/\(∀p,p<=L.length->gM X C bZ dc n0 0 (L.take p) S0=some (T p))/\
  ∀k o,L[k]?=some o->stepG X C bZ dc n0 k o (T k)=some (T (k+1)):=by
 have pre: ∀p,p<=L.length-> ∃S,gM X C bZ dc n0 0 (L.take p) S0=some S:=by
  intro p hp;have:=w9 (X:=X) (C:=C) (bZ:=bZ) (dc:=dc) (n0:=n0) (L.take p) (L.drop p) 0 S0;rw[List.take_append_drop,he]at this;cases hx:gM X C bZ dc n0 0 (L.take p) S0 with
  |none=>grind
  |some S=>grind
 refine⟨fun p=>(gM X C bZ dc n0 0 (L.take p) S0).getD S0,?_,?_,fun p hp=> ?_,fun k o hk=> ?_⟩
 ·simp[gM]
 ·grind
 ·grind
 ·have hkl:k<L.length:=(List.getElem?_eq_some_iff.1 hk).1;obtain⟨A,hA⟩:=pre k (by omega);obtain⟨B,hB⟩:=pre (k+1) (by omega);have L5:L.take (k+1)=L.take k++ [o]:=by
   rw[acZ,hk];rfl
  have h2:=hB;rw[L5,w9,hA]at h2;simp only[abR,acL]at h2;rw[AJ,aeZ (by omega)]at h2;show stepG X C bZ dc n0 k o ((gM X C bZ dc n0 0 (L.take k) S0).getD S0)=some ((gM X C bZ dc n0 0 (L.take (k+1)) S0).getD S0);rw[hA,hB];simp only[abV];cases hs:stepG X C bZ dc n0 k o A with
  |none=>grind
  |some S1=>
   rw[hs]at h2;exact h2
end
end Go.Abs
