/- Part of a proof: engine N1. -/
import Derived.Test.YtdngefmliibcgaaGreatM08
set_option linter.all false
set_option maxRecDepth 20000
set_option maxHeartbeats 20000000
namespace Go.Abs
open Go
variable  {N:Norm}{S S' S1 S0 F:St}{v:V}{act a:Act}{o:Oper}{E:Ev}
def Env.base(X:Env)(g:FuncId):Nat:=if X.gm g=true then 1 else 0
def vg(X:Env):Prop:= ∀f key N,X.norm f key=some N->N.ok=true/\X.low f=true/\(X.gm f=true->N.base=true)
def Mt(S:St)(N:Norm)(hx:bh): ∀(L:List Nat) (t:Nat),fixF S N hx L t=if L.contains t then xP (zn t N.roots) (S.f t) (EO S N hx (S.f t)) else .bad
 | [],t=>rfl
 |i::L,t=>by
  simp only[fixF,aR,List.contains_cons];by_cases e:t=i
  ·grind
  ·rw[Mt S N hx L t]
   grind
def Bz(S:St)(N:Norm)(hx:bh): ∀(L:List Gr) (id:Nat),Ph S N hx L id=match nj id L with|some a=>a.ob S N hx|none=>none
 | [],id=>rfl
 |a::L,id=>by
  simp only[Ph,aR,nj];by_cases e:id=a.new
  ·grind
  ·rw[Bz S N hx L id]
   grind
def wS: ∀{L:List Gr} {id:Nat} {a:Gr},nj id L=some a->a∈L/\a.new=id
 | [],id,a,h=>by simp[nj]at h
 |b::L,id,a,h=>by
  simp only[nj]at h;split at h
  ·grind
  ·have:=wS h
   grind
def Ja{S:St}{id:Nat}: ∀{L:List Gr} {j:Nat},look S id L=some j-> ∃a,a∈L/\(a.loc.val S).root=some id/\a.new=j
 | [],j,h=>by simp[look]at h
 |b::L,j,h=>by
  simp only[look]at h;split at h
  ·grind
  ·obtain⟨a,h1,h2⟩:=Ja h
   grind
structure Norm.Ok (N:Norm):Prop where
 one:1<=N.n
 new: ∀a,a∈N.roots->a.new<N.n/\ ∃b,nj a.new N.roots=some b/\b.loc=a.loc
def Norm.YN(h:N.ok=true):N.Ok:=by
 unfold Norm.ok at h;simp only[aaF,decide_eq_true_eq]at h;obtain⟨h2,h4⟩:=h;refine⟨h2,fun a ha=> ?_⟩
 grind
def Fy(hb:N.base=true)(h:N.first S=true): ∃a,nj 0 N.roots=some a/\(a.loc.val S).root=some 0:=by
 unfold Norm.first at h;rw[hb]at h;cases hr:N.roots with
 |nil=>grind
 |cons a r=>
  rw[hr]at h;simp only[aaF,beq_iff_eq]at h;exact⟨a,by simp[nj,h.1],h.2⟩
def UN(hN:N.ok=true)(h:N.run S=some S'){m:Nat}(hm:m<=if N.base=true then 1 else 0):m<=S'.n/\ ∀id,id<m->S.h id=none->S'.h id=none:=by
 have K:=Norm.YN hN;unfold Norm.run at h;split at h
 case isFalse=>cases h
 rename_i hc;simp only[aaF]at hc;simp only[aA]at h;subst h;have sT:m<=1:=by split at hm<;>omega
 refine⟨abG sT K.one,fun id fg hn=> ?_⟩;have:id=0:=by omega
 subst this;have hb:N.base=true:=by
  cases hb:N.base with
  |true=>rfl
  |false=>grind
 obtain⟨a,h1,h2⟩:=Fy hb hc.2;simp only;rw[Bz,h1];simp only;unfold Gr.ob Pg;split
 ·rename_i hv;rw[hv]at h2;cases h2
 ·rw[h2];simp only[hn,EP]
def AB{X:Env}(hN:vg X){f key:Nat}(h:oR X f key S=some S'){m:Nat}(hm:X.low f=true->m<=Env.base X f)(hmn:m<=S.n):m<=S'.n/\ ∀id,id<m->S.h id=none->S'.h id=none:=by
 unfold oR at h;cases hc:X.norm f key with
 |none=>grind
 |some N=>
  rw[hc]at h;obtain⟨h1,h2,h3⟩:=hN f key N hc;refine UN h1 h (abG (hm h2) ?_);unfold Env.base
  grind
def Norm.sig(N:Norm)(S:St)(σ:jt):jt:=fun id=>
 match nj id N.roots with
 |some a=>match(a.loc.val S).root with
  |some j=>σ j
  |none=>none
 |none=>none
section
variable {w:World} {I J:Nat->Prop} {σ σ':jt}
theorem YO{u:Value}(hr:dB w I σ v u):dB w I σ v.wide u:=by
 cases v with
 |sl c es=>
  obtain⟨a,cap,h1,h2,h3,h4,h5⟩:=hr;exact⟨a,cap,h1,h2,h3,fun hc=>(by grind),h5⟩
 |_=>exact hr
theorem UO{α:Type}{f:α->Option Nat}{l:List α}(h:vb (l.map f)=true){a b:α}(ha:a∈l)(hb:b∈l){j:Nat}(h1:f a=some j)(h2:f b=some j):a=b:=by
 obtain⟨p,hp⟩:=aei ha;obtain⟨q,hq⟩:=aei hb;have:=zv h (i:=p) (j:=q) (x:=j) (by grind) (by grind)
 grind
theorem YP(hN:N.ok=true)(kn:N.run S=some S')(R:Rel w I σ S.h)(F:jv w I σ S.f act)(fr:lQ σ S.h S.n):
  let J:=fun b=>I b\/jk σ (gq S.h (N.tf S)) b
  Rel w J (N.sig S σ) S'.h/\jv w J (N.sig S σ) S'.f act/\lQ (N.sig S σ) S'.h S'.n/\(∀b,jk (N.sig S σ) S'.h b->jk σ S.h b):=by
 intro J;have K:=Norm.YN hN;unfold Norm.run at kn;split at kn
 case isFalse=>grind
 rename_i YB;simp only[aaF]at YB;have Yz:=YB.1;simp only[aA]at kn;subst kn;simp only;have Ut: ∀b,I b->J b:=fun b hb=> .inl hb;have EJ:Ext w I fy w J fy:=⟨fun _ _=>rfl,fun _ c _ fz hh=>⟨c,fz,hh,rfl⟩,Ut,fun _ _ hh=>hh⟩;have SP:Rel w I σ (gq S.h (N.tf S)):=R.sub fun id ob h=>(kZ h).1;have him: ∀c c' x,cx (gq S.h (N.tf S)) depth c=some c'->dB w I σ c x->dB w J fy c' x:=fun c c' x ht hx=>uH SP Ut (fun b hb=> .inr hb) depth c c' x ht hx;have Mn: ∀a,a∈N.roots-> ∀j,(a.loc.val S).root=some j->some j∈N.tf S:=fun a ha j hv=>by
  exact List.mem_map.2 ⟨a,ha,hv⟩
 have axw: ∀a b,a∈N.roots->b∈N.roots-> ∀j,(a.loc.val S).root=some j->(b.loc.val S).root=some j->a=b:=fun a b ha hb j h1 h2=>UO Yz ha hb h1 h2;have am9: ∀a,a∈N.roots-> ∀j,(a.loc.val S).root=some j->N.sig S σ a.new=σ j:=by
  intro a ha j hv;obtain⟨h1,b,h3,h4⟩:=K.new a ha;unfold Norm.sig;rw[h3];simp only[h4,hv]
 have Dq: ∀id j,look S id N.roots=some j->N.sig S σ j=σ id:=by
  intro id j h;obtain⟨a,h1,h2,rfl⟩:=Ja h;exact am9 a h1 id h2
 have PI: ∀a,a∈N.roots-> ∀j ob b o k,(a.loc.val S).root=some j->S.h j=some ob->σ j=some (b,o,k)-> ¬J b:=by
  intro a ha j ob b o k hv ho hs;rintro(hx|⟨i,ob2,o2,k2,g1,g2⟩)
  ·exact(R.owned ⟨j,ob,o,k,ho,hs⟩).1 hx
  ·have g3:=kZ g1;have:i=j:=R.apart i j ob2 ob b o2 k2 o k g3.1 ho g2 hs
   grind
 have bcy: ∀c x,dB w I σ c x->dB w J (N.sig S σ) (fixC S N (gq S.h (N.tf S)) c) x:=by
  intro c x hx;unfold fixC;split
  ·rename_i id s l;split
   ·rename_i j hj;simp only[dB]at hx⊢;rw[Dq id j hj];omega
   ·split
    ·rename_i v hv;exact(him _ v x hv hx).ext Ext.free
    ·simp[dB]
  ·rename_i id i f;split
   ·rename_i j hj;simp only[dB]at hx⊢
    grind
   ·simp[dB]
  ·split
   ·rename_i h;exact(YO ((tU h hx).ext EJ)).ext Ext.free
   ·simp[dB]
 have bcz: ∀c x,dB w I σ c x->dB w J (N.sig S σ) (Kc S N (gq S.h (N.tf S)) c) x:=by
  intro c x hx;unfold Kc;split
  ·rename_i cs;obtain⟨us,rfl,hc⟩:=hx;refine⟨us,rfl,?_⟩;rw[dL]at hc⊢
   grind
  ·grind
 have YQ: ∀cs us,iN w I σ cs us->iN w J (N.sig S σ) (cs.map (Kc S N (gq S.h (N.tf S)))) us:=by
  intro cs us hc;rw[mP]at hc⊢;refine⟨by grind,fun j c u' xQ hu=> ?_⟩;rw[abm]at xQ;cases Az:cs[j]? with
  |none=>grind
  |some c0=>
   grind
 have axx: ∀c x,dB w I σ c x->dB w J (N.sig S σ) (EO S N (gq S.h (N.tf S)) c) x:=by
  intro c x hx;unfold EO;split
  ·obtain⟨us,rfl,hc⟩:=hx;exact⟨us,rfl,YQ _ _ hc⟩
  ·obtain⟨us,vs,rfl,h1,h2⟩:=hx;exact⟨us,vs,rfl,YQ _ _ h1,YQ _ _ h2⟩
  ·rename_i cs;obtain⟨b,o,h1,h2,h3⟩:=hx;exact⟨b,o,h1,Ut b h2,qH.ext' cs b o EJ h2 h3⟩
  ·grind
 have axy: ∀(o:Option Nat) v w' x,dB w I σ v x->dB w J (N.sig S σ) w' x->dB w J (N.sig S σ) (xP o v w') x:=by
  intro o v w' x h1 h2;unfold xP;split
  ·split
   ·exact Ml rfl h1
   omega
  ·omega
 have aq8: ∀(id:Nat) (cs:List V) (b o j0:Nat),(Bn S N (gq S.h (N.tf S)) id j0 cs).length=cs.length/\
   (Cg w I σ cs b o->Cg w J (N.sig S σ) (Bn S N (gq S.h (N.tf S)) id j0 cs) b o):=by
  intro id cs b o;induction cs generalizing o with
  |nil=>intro j0;exact⟨rfl,fun _ j c hj=>by simp[Bn]at hj⟩
  |cons c cs ih=>
   intro j0;obtain⟨g1,g2⟩:=ih (o+1) (j0+1);refine⟨by simp[Bn,g1],fun yf j c' hj=> ?_⟩;cases j with
   |zero=>
    simp only[Bn,adN,aA]at hj;obtain⟨u,k1,k2,k3⟩:=yf 0 c (by simp)
    grind
   |succ j=>
    have a68:Cg w I σ cs b (o+1):=fun j c' hj=>by
     have:=yf (j+1) c' (by grind)
     grind
    have:=g2 a68 j c' hj
    grind
 have axz: ∀(id:Nat) (e:V) (b o:Nat),(∀cs,e≠ .dM cs)->(Pf S N (gq S.h (N.tf S)) id e).cells.length=e.cells.length/\(Cg w I σ e.cells b o->Cg w J (N.sig S σ) (Pf S N (gq S.h (N.tf S)) id e).cells b o):=by
  intro id e b o Cr;by_cases hx: ∃cs,e= .agg cs
  ·obtain⟨cs,rfl⟩:=hx;exact aq8 id cs b o 0
  ·have Hy: ∀cs,e≠ .agg cs:=fun cs h=>hx ⟨cs,h⟩;have PJ:Pf S N (gq S.h (N.tf S)) id e=xP (qp S id 0 N.roots) e (fixC S N (gq S.h (N.tf S)) e):=by
    cases e with
    |agg cs=>grind
    |_=>rfl
   have hna: ∀cs,Pf S N (gq S.h (N.tf S)) id e≠ .agg cs:=by
    rw[PJ];intro cs hh;have Bx: ∀cs,fixC S N (gq S.h (N.tf S)) e≠ .agg cs:=by
     intro cs hh;unfold fixC at hh;split at hh
     ·split at hh
      ·grind
      ·split at hh
       ·rename_i v hv;exact zu hv (by omega) cs hh
       grind
     ·grind
     ·split at hh
      ·cases e<;>simp[V.wide]at hh
       grind
      grind
    unfold xP at hh;split at hh
    ·grind
    ·grind
   rw[mH hna,mH Hy];refine⟨rfl,fun yf j c hj=> ?_⟩;cases j with
   |succ j=>grind
   |zero=>
    simp at hj;subst hj;obtain⟨u,k1,k2,k3⟩:=yf 0 e (by simp)
    grind
 have SW: ∀a ob,a∈N.roots->nj a.new N.roots=some a->a.ob S N (gq S.h (N.tf S))=some ob->LW w J (N.sig S σ) a.new ob/\(∀b o k,N.sig S σ a.new=some (b,o,k)-> ∃j Hq,(a.loc.val S).root=some j/\S.h j=some Hq/\σ j=some (b,o,k)):=by
  intro a ob ha hna gG;unfold Gr.ob Pg at gG;split at gG
  ·rename_i hv;simp only[aA]at gG;subst gG;have hz:N.sig S σ a.new=none:=by
    unfold Norm.sig;rw[hna];simp only[hv,V.root]
   exact⟨.inl ⟨rfl,hz⟩,fun b o k hs=>by grind⟩
  ·split at gG
   case h_2=>grind
   rename_i j hv;have hz:=am9 a ha j hv;cases ho:S.h j with
   |none=>rw[ho]at gG;simp[EP]at gG
   |some Hq=>
    rw[ho]at gG;refine⟨?_,fun b o k hs=>⟨j,Hq,hv,ho,by grind⟩⟩;unfold EP at gG;have hR:=R.obj j Hq ho;simp only at gG;split at gG
    ·rename_i hk;split at gG
     ·rename_i e he;simp only[aA]at gG;subst gG;rcases hR with⟨h1,_⟩|⟨b,o,c,el,hs,hi,hb,hle,fV⟩
      ·grind
      ·rw[he,hk]at fV;rw[he]at hle;rw[kM]at fV;refine .inr ⟨b,o,c,el,by grind,PI a ha j Hq b o Hq.k hv ho hs,hb,by omega,?_⟩;rw[kM];by_cases ax0: ∃cs,e= .dM cs
       ·obtain⟨cs,rfl⟩:=ax0;obtain⟨u,_,k2,k3⟩:=fV.2.1 0 (.dM cs) (by simp[V.cells]);obtain⟨us,rfl,_⟩:=k3;simp[Value.oneCell']at k2
       ·obtain⟨g1,g2⟩:=axz j e b o (fun cs h=>ax0 ⟨cs,h⟩);exact⟨by grind,g2 fV.2.1,by simp[dK]⟩
     ·split at gG
      case isFalse=>grind
      rename_i m8;simp only[aA]at gG;subst gG;rcases hR with⟨h1,h2⟩|⟨b,o,c,el,hs,hi,hb,hle,fV⟩
      ·exact .inl ⟨h1,by grind⟩
      ·refine .inr ⟨b,o,c,el,by rw[hz];exact hs,PI a ha j Hq b o Hq.k hv ho hs,hb,hle,?_⟩;rw[hk]at fV⊢;exact((L3 m8 fV).nZ EJ rfl).nZ Ext.free rfl
    ·rename_i hk;simp only[aA]at gG;subst gG;have qT:Hq.eU=false:=by simpa using hk
     rcases hR with⟨h1,h2⟩|⟨b,o,c,el,hs,hi,hb,hle,fV⟩
     ·exact .inl ⟨h1,by rw[hz];exact h2⟩
     ·refine .inr ⟨b,o,c,el,by rw[hz];exact hs,PI a ha j Hq b o Hq.k hv ho hs,hb,hle,?_⟩;rw[qT]at fV⊢;exact fV.nZ EJ rfl
 have SX: ∀id ob,Ph S N (gq S.h (N.tf S)) N.roots id=some ob-> ∃a,a∈N.roots/\a.new=id/\nj a.new N.roots=some a/\a.ob S N (gq S.h (N.tf S))=some ob:=by
  intro id ob ho;rw[Bz]at ho;cases hz:nj id N.roots with
  |some a=>
   rw[hz]at ho;obtain⟨h1,h2⟩:=wS hz;exact⟨a,h1,h2,by rw[h2];exact hz,ho⟩
  |none=>rw[hz]at ho;cases ho
 have gY: ∀b,jk σ (gq S.h (N.tf S)) b->jk σ S.h b:=fun b ⟨i,ob,o,k,h1,h2⟩=>⟨i,ob,o,k,(kZ h1).1,h2⟩;have ax1: ∀id,N.n<=id->nj id N.roots=none:=fun id fg=>by
  cases hz:nj id N.roots with
  |none=>rfl
  |some a=>
   obtain⟨h1,h2⟩:=wS hz;have:=(K.new a h1).1;omega
 refine⟨⟨fun b hb=> ?_,fun id ob ho=> ?_,fun id nN ob oK b o k o' k' h1 h2 h3 h4=> ?_,R.Av.sub fun b hb=> .inl hb⟩,fun t=> ?_,fun id fg=>⟨?_,?_⟩,fun b hb=> ?_⟩
 ·rcases hb with hb|hb
  ·exact R.ed b hb
  ·exact R.mh (gY b hb)
 ·obtain⟨a,g1,rfl,g2,g3⟩:=SX id ob ho;exact(SW a ob g1 g2 g3).1
 ·obtain⟨a,g1,rfl,g2,g3⟩:=SX id ob h1;obtain⟨j,Hq,m1,m2,m3⟩:=(SW a ob g1 g2 g3).2 b o k h3;obtain⟨a',g1',rfl,g2',g3'⟩:=SX nN oK h2;obtain⟨j',a69,m1',m2',m3'⟩:=(SW a' oK g1' g2' g3').2 b o' k' h4;have:j=j':=R.apart j j' Hq a69 b o k o' k' m2 m2' m3 m3';subst this;rw[axw a a' g1 g1' j m1 m1']
 ·rw[Mt];split
  case isFalse=>simp[dB]
  exact axy _ _ _ _ (F t) (axx _ _ (F t))
 ·rw[Bz,ax1 id fg]
 ·unfold Norm.sig;rw[ax1 id fg]
 ·obtain⟨id,ob,o,k,h1,h2⟩:=hb;obtain⟨a,g1,rfl,g2,g3⟩:=SX id ob h1;obtain⟨j,Hq,m1,m2,m3⟩:=(SW a ob g1 g2 g3).2 b o k h2;exact⟨j,Hq,o,k,m2,m3⟩
end
def Cx: ∀{vs Cu:List V} {h h':bh},rL h vs=some (Cu,h')-> ∀id,h id=none->h' id=none
 | [],Cu,h,h',hg,id,fg=>by
  simp only[rL,aA,bM]at hg
  grind
 |v::ps,Cu,h,h',hg,id,fg=>by
  simp only[rL]at hg;split at hg
  ·rename_i v' h1 hg1;split at hg
   ·rename_i h2 Es;simp only[aA,bM]at hg;rw[<-hg.2];exact Cx Es id (Fw hg1 id fg)
   grind
  grind
section
variable {X:Env} {C:jm} {bY:FuncId}
theorem UP(hC:rh X C){dst:Option Nat}{g:FuncId}{args:List V}(he:gU X C bY dst g args S=some S1):S.n<=S1.n/\ ∀id,id<S.n->S.h id=none->S1.h id=none:=by
 unfold gU at he;split at he
 ·split at he
  case h_2=>grind
  split at he
  case h_2=>grind
  split at he
  ·grind
  simp only[aA]at he;subst he;rw[fm,gZ];refine⟨by simp[St.new],fun id fg hn=> ?_⟩;have:id≠S.n:=by omega
  simp[St.new,aR,this,hn]
 ·split at he
  ·rename_i hby
   have D8:X.low g=false:=by
    simp only[aaF,aaZ]at hby;exact hby.2
   split at he
   case h_2=>grind
   rename_i v h n hc;simp only[aA]at he;subst he;rw[fm,gZ];have:=hC _ _ _ _ _ _ _ hc;rw[yg D8]at this;omega
  split at he
  ·unfold vd at he;split at he
   case h_2=>grind
   split at he
   case h_2=>grind
   rename_i ob gG;split at he
   case h_2=>grind
   split at he
   case isFalse=>grind
   split at he
   case h_2=>grind
   split at he
   case h_2=>grind
   rename_i hg
   repeat (split at he;rotate_left;cases he)
   simp only[aA]at he;subst he;rw[fm,gZ];refine⟨by simp,fun i hi hn=> ?_⟩;dsimp only;rw[o7,if_neg (by omega)];have kC:i≠_:=fun e=>by rw[e,gG]at hn;grind
   simp only[aR,kC,if_false];refine Cx hg i ?_;cases hz:gq (aR S.h _ none) _ i with
   |none=>rfl
   |some y=>
    have:=(kZ hz).1
    grind [aR]
  split at he
  ·unfold mZ at he;split at he
   case h_2=>grind
   rename_i hg
   repeat (split at he;rotate_left;cases he)
   simp only[aA]at he;subst he;rw[fm,gZ];refine⟨by simp,fun i hi hn=> ?_⟩;dsimp only;rw[o7,if_neg (by omega)];exact Cx hg i hn
  ·split at he
   case h_2=>grind
   split at he
   ·rename_i pn;have D8:X.low g=false:=by
     simp only[aaF,aaZ]at pn;exact pn.2
    split at he
    case h_2=>grind
    rename_i v h n hc;split at he
    ·grind
    simp only[aA]at he;subst he;rw[fm,gZ];have:=hC _ _ _ _ _ _ _ hc;rw[yg D8]at this
    grind
   ·split at he
    case h_2=>grind
    split at he
    case h_2=>grind
    split at he
    ·grind
    simp only[aA]at he;subst he;rw[fm,gZ]
    grind
theorem zw(hC:rh X C){n0 j:Nat}(he:fu X C bY n0 j o S=some S1):S.n<=S1.n/\ ∀id,id≠n0+j->id<S.n->S.h id=none->S1.h id=none:=by
 unfold fu at he;split at he
 ·split at he
  case h_2=>grind
  have:=UP hC he
  grind
 ·split at he
  case h_2=>grind
  rename_i v h n hc;simp only[aA]at he;subst he;rw[fm,gZ];exact⟨aaI _,fun id kC _ hn=>Mr hc id kC hn⟩
theorem Fz(hC:rh X C){da:List (Option Nat)}{n0:Nat}: ∀{l:List Oper} {k:Nat} {S S1:St},gM X C bY da n0 k l S=some S1->S.n<=S1.n/\ ∀id,(id<n0+k\/n0+k+l.length<=id)->id<S.n->S.h id=none->S1.h id=none
 | [],k,S,S1,he=>by
  simp only[gM,aA]at he
  grind
 |o::l,k,S,S1,he=>by
  have two: ∀{S2:St},S.n<=S2.n->(∀id,id≠n0+k->id<S.n->S.h id=none->S2.h id=none)->gM X C bY da n0 (k+1) l S2=some S1->S.n<=S1.n/\ ∀id,(id<n0+k\/n0+k+(o::l).length<=id)->id<S.n->S.h id=none->S1.h id=none:=by
   intro S2 h1 h2 h3;obtain⟨h4,h5⟩:=Fz hC h3;refine⟨by omega,fun id fg gY hn=>h5 id ?_ (by omega) (h2 id ?_ gY hn)⟩
   ·grind
   ·grind
  have skip:gM X C bY da n0 (k+1) l (S.set o.dst (.dM []))=some S1->S.n<=S1.n/\ ∀id,(id<n0+k\/n0+k+(o::l).length<=id)->id<S.n->S.h id=none->S1.h id=none:=fun h3=>
   two (by rw[gZ];omega) (fun id _ _ hn=>by rw[fm];omega) h3
  simp only[gM]at he;split at he
  ·split at he
   case h_2=>grind
   rename_i S2 h1;have:=zw hC h1
   grind
  ·split at he
   case h_2=>grind
   split at he
   ·split at he
    ·split at he
     case h_2=>grind
     rename_i S2 h1;have:=zw hC h1
     grind
    grind
   ·grind
   grind
def YR(X:Env)(E:Ev):Prop:= ∀f c S e S1 m,E f c S=some (e,S1)->m<=S.n->(X.low f=true->m<=Env.base X f)->m<=S1.n/\ ∀id,id<m->S.h id=none->S1.h id=none
theorem vh(hE:YR X E):rh X (dA X E):=by
 intro g args h k v h' k' hc;unfold dA at hc;have Kd:X.oW g=none:=by
  cases Kd:X.oW g with
  |none=>rfl
  |some pr=>grind
 simp only[Kd]at hc;split at hc
 case h_2=>grind
 split at hc
 case h_2=>grind
 rename_i fn hf b hb;cases he:E g b ⟨oN args,h,k⟩ with
 |none=>simp[he,vQ]at hc
 |some x=>
  obtain⟨e,S1⟩:=x;rw[he]at hc;have:=hE _ _ _ _ _ (Ly X g k) he (Yq X g k) (fun hl=>by
   unfold Ly Env.base;grind)
  cases e with
  |exit id=>simp[vQ]at hc
  |normal|ret=>
   simp only[vQ]at hc
   grind
theorem yo(hN:vg X): ∀n,YR X (tp X n)
 |0=>fun f c S e S1 m he=>by simp[tp]at he
 |n+1=>by
  have ih:=yo hN n;have hC:=vh (X:=X) ih;intro f c S e S1 m he hm hl;rw[tp]at he;have done:S=S1->m<=S1.n/\ ∀id,id<m->S.h id=none->S1.h id=none:=by
   rintro rfl;exact⟨hm,fun _ _ h=>h⟩
  have trans: ∀{S2:St},(m<=S2.n/\ ∀id,id<m->S.h id=none->S2.h id=none)->(m<=S1.n/\ ∀id,id<m->S2.h id=none->S1.h id=none)->m<=S1.n/\ ∀id,id<m->S.h id=none->S1.h id=none:=
   fun h1 h2=>⟨h2.1,fun id fg hn=>h2.2 id fg (h1.2 id fg hn)⟩
  cases c with
  |skip|exit _|ret=>
   simp only[ki,aA,bM]at he
   grind
  |region id ops d=>
   simp only[ki]at he;split at he
   case h_2=>grind
   rename_i S0 OS;split at he
   case h_2=>grind
   rename_i S2 Ci;split at he
   case isFalse=>grind
   obtain⟨_,rfl⟩:=he;obtain⟨h1,h2⟩:=Fz hC Ci;simp only at h1 h2;have h0:=AB hN OS hl hm
   grind
  |seq x y=>
   simp only[ki]at he;cases hx:tp X n f x S with
   |none=>grind
   |some z=>
    obtain⟨e2,S2⟩:=z;rw[hx]at he;have h1:=ih _ _ _ _ _ m hx hm hl;cases e2 with
    |normal=>exact trans h1 (ih _ _ _ _ _ m he h1.1 hl)
    |exit id=>
     grind
    |ret=>
     grind
  |cond x p q=>
   simp only[ki]at he;split at he
   case h_2=>grind
   split at he
   ·exact ih _ _ _ _ _ m he hm hl
   ·exact ih _ _ _ _ _ m he hm hl
  |block id b=>
   simp only[ki]at he;cases hb:tp X n f b S with
   |none=>grind
   |some z=>
    obtain⟨e2,S2⟩:=z;rw[hb]at he;have h1:=ih _ _ _ _ _ m hb hm hl
    grind
  |loop b=>
   simp only[ki]at he;split at he
   case h_2=>grind
   rename_i S0 OS;have h0:=AB hN OS hl hm;cases hb:tp X n f b S0 with
   |none=>grind
   |some z=>
    obtain⟨e2,S2⟩:=z;rw[hb]at he;have h1:=ih _ _ _ _ _ m hb h0.1 hl;have h2:m<=S2.n/\ ∀id,id<m->S.h id=none->S2.h id=none:=⟨h1.1,fun id fg hn=>h1.2 id fg (h0.2 id fg hn)⟩;cases e2 with
    |normal=>exact trans h2 (ih _ _ _ _ _ m he h1.1 hl)
    |exit id=>
     grind
    |ret=>
     grind
  |_=>simp[ki]at he
end
def AD(P:Program)(c:Code)(Q:Exit->Act->World->Prop)(a:Act)(w:World):Prop:=
 ∀(b:Frame) (k:List Item) (cs:List Frame),∃e a' w',Q e a' w'/\Arrives P (lone (b.at a (.code c:: .inLoop c::k)) cs w) b k cs e a' w'
def AD.wp{P:Program}{c:Code}{Q:Exit->Act->World->Prop}{a:Act}{w:World}(h:AD P c Q a w):(Code.loop c).wp P Q a w:=by
 intro b k cs;obtain⟨e,a',w',hq,Mu⟩:=h b k cs;exact⟨e,a',w',hq,.of_steps (.one step_loop) Mu⟩
def AD.round{P:Program}{c:Code}{Q:Exit->Act->World->Prop}{w:World}(h:c.wp P (Exit.then (AD P c Q) Q) a w):AD P c Q a w:=by
 intro b k cs;obtain⟨e,a₁,w₁,hq,Mu⟩:=h b (.inLoop c::k) cs;cases e with
 |normal=>
  obtain⟨e₂,a₂,w₂,hq₂,ax2⟩:=hq b k cs;exact⟨e₂,a₂,w₂,hq₂,.of_steps (Steps.trans Mu (.one step_inLoop)) ax2⟩
 |exit id=>exact⟨_,a₁,w₁,hq,.pass (x:= .inLoop c) rfl (fun _ _=> .inl (by simp)) Mu⟩
 |goto l=>exact⟨_,a₁,w₁,hq,.pass (x:= .inLoop c) rfl (fun _ _=> .inl (by simp)) Mu⟩
 |ret=>exact⟨_,a₁,w₁,hq,.pass (x:= .inLoop c) rfl (fun _ _=> .inl (by simp)) Mu⟩
 |panic ch=>exact⟨_,a₁,w₁,hq,.pass (x:= .inLoop c) rfl (fun _ _=> .inl (by simp)) Mu⟩
 |outgrown=>exact⟨_,a₁,w₁,hq,.pass (x:= .inLoop c) rfl (fun _ _=> .inl (by simp)) Mu⟩
def ah7(P:Program):Code->(Exit->Act->World->Prop)->Act->World->Prop
 | .loop b=>AD P b
 |c=>c.wp P
def ah7.wp{P:Program}{c:Code}{Q:Exit->Act->World->Prop}{a:Act}{w:World}(h:ah7 P c Q a w):c.wp P Q a w:=by
 unfold ah7 at h;split at h
 ·exact h.wp
 omega
def Ex.ex:Ex->Exit
 | .normal=> .normal
 | .exit id=> .exit id
 | .ret=> .ret
def PK(nt n0:Nat)(w:World)(I:Nat->Prop)(σ:jt)(h:bh)(S1:St)(a':Act)(w':World):Prop:=
 ∃I' σ',n0<=S1.n/\Step w I σ h n0 w' I' σ' S1.h S1.n/\jv w' I' σ' S1.f a'/\lQ σ' S1.h S1.n/\nt<=a'.tmps.size/\a'.defers=[]
def Mv(nt m:Nat)(w:World)(I:Nat->Prop)(σ:jt)(h:bh)(S1:St)(a':Act)(w':World):Prop:=
 ∃I' σ',m<=S1.n/\vf m w I σ h w' I' σ' S1.h/\jv w' I' σ' S1.f a'/\lQ σ' S1.h S1.n/\nt<=a'.tmps.size/\a'.defers=[]
def PL(X:Env)(lk:FuncId->Nat->Array Oper->Bool):Prop:=
 ∀(C:jm),qY X C->rh X C->o9 X C->uI X->(∀bY dst g args S S1,gU X C bY dst g args S=some S1->vZ X g)->
 ∀(bY:FuncId) (id nt:Nat) (ops:Array Oper) (S S1:St),(∀o∈ops.toList,Ur X nt o=true)->lk bY id ops=true->
  gM X C bY (ops.toList.map (·.dst)) S.n 0 ops.toList {S with n:=S.n+ops.size}=some S1->lA X C bY ops.toList S.n {S with n:=S.n+ops.size} S1 (X.sX bY id)->
  ∀(a:Act) (w:World) (I:Nat->Prop) (σ:jt),Rel w I σ S.h->jv w I σ S.f a->lQ σ S.h S.n->nt<=a.tmps.size->a.defers=[]->
  ∀(Q:Exit->Act->World->Prop),(∀a' w',PK nt S.n w I σ S.h S1 a' w'->Q .normal a' w')->(Code.region id ops true).wp X.P Q a w
def v5(X:Env)(lk:FuncId->Nat->Array Oper->Bool)(nt:Nat)(bY:FuncId):Code->Bool
 | .region id ops d=>ops.toList.all (Ur X nt)&& (!d||lk bY id ops)
 | .seq a b=>v5 X lk nt bY a&&v5 X lk nt bY b
 | .cond x a b=>ahk x&&v5 X lk nt bY a&&v5 X lk nt bY b
 | .block _ b=>v5 X lk nt bY b
 | .loop b=>v5 X lk nt bY b
 |_=>true
def sE(X:Env):ResultVar->Bool
 | .tmp _=>true
 | .cell _ t=>tB X t
def fnB(X:Env)(lk:FuncId->Nat->Array Oper->Bool)(g:FuncId)(fn:Func):Bool:=
 match fn.body with
 |some b=>v5 X lk fn.ntmps g b&&fn.results.toList.all (sE X)&& !(fn.name== "runtime.NumGoroutine")
 |none=>true
def Jb(X:Env)(lk:FuncId->Nat->Array Oper->Bool):Prop:= ∀g fn,X.P.funcs[g]?=some fn->X.oW g=none->fnB X lk g fn=true
section
variable {X:Env} {lk:FuncId->Nat->Array Oper->Bool}
def Sound(X:Env)(lk:FuncId->Nat->Array Oper->Bool)(E:Ev):Prop:=
 ∀(bY:FuncId) (nt m:Nat) (c:Code) (S:St) (e:Ex) (S1:St),E bY c S=some (e,S1)->v5 X lk nt bY c=true->m<=S.n->(X.low bY=true->m<=Env.base X bY)->
  ∀(a:Act) (w:World) (I:Nat->Prop) (σ:jt),Rel w I σ S.h->jv w I σ S.f a->lQ σ S.h S.n->nt<=a.tmps.size->a.defers=[]->
  ∀(Q:Exit->Act->World->Prop),(∀a' w',Mv nt m w I σ S.h S1 a' w'->Q e.ex a' w')->ah7 X.P c Q a w
theorem Mv.trans {nt m:Nat} {w w1 w2:World} {I I1:Nat->Prop} {σ σ1:jt} {h h1:bh} {S2:St} {a2:Act} (s:vf m w I σ h w1 I1 σ1 h1)
  (hp:Mv nt m w1 I1 σ1 h1 S2 a2 w2):Mv nt m w I σ h S2 a2 w2:=by
 obtain⟨I',σ',hn,hs,hF,ot,sY,hd⟩:=hp;exact⟨I',σ',hn,s.trans hs,hF,ot,sY,hd⟩
theorem Jc{X:Env}(hN:vg X){bY key m:Nat}{w:World}{I:Nat->Prop}{σ:jt}(h:oR X bY key S=some S')(R:Rel w I σ S.h)(F:jv w I σ S.f a)(fr:lQ σ S.h S.n)(hm:m<=S.n)(hl:X.low bY=true->m<=Env.base X bY):
  ∃I' σ',m<=S'.n/\vf m w I σ S.h w I' σ' S'.h/\jv w I' σ' S'.f a/\lQ σ' S'.h S'.n:=by
 have xA:=AB hN h hl hm;unfold oR at h;cases hc:X.norm bY key with
 |none=>
  rw[hc]at h;simp only[aA]at h;subst h;exact⟨I,σ,hm,vf.refl R m,F,fr⟩
 |some N=>
  rw[hc]at h;obtain⟨h1,h2,h3⟩:=hN bY key N hc;obtain⟨g1,g2,g3,g4⟩:=YP h1 h R F fr;have kn:=h;refine⟨_,_,xA.1,⟨fun _ _=>rfl,fun _ c _ fz hb=>⟨c,fz,hb,rfl⟩,fun b hb=> .inl hb,g1,rfl,rfl,rfl,aaI _,fun _ _ _=>rfl,fun b hb=> .inr (g4 b hb),fun b hb=> ?_,fun id fg=> ?_,xA.2⟩,g2,g3⟩
  ·rcases hb with hb|⟨i,ob,o,k,k1,k2⟩
   ·grind
   ·exact .inr (.inr ⟨i,ob,o,k,(kZ k1).1,k2⟩)
  ·have sT:=hl h2;unfold Env.base at sT;have Bg:X.gm bY=true:=by
    cases Bg:X.gm bY with
    |true=>rfl
    |false=>grind
   rw[if_pos Bg]at sT;have:id=0:=by omega
   subst this;have kn:N.run S=some S':=kn;unfold Norm.run at kn;split at kn
   case isFalse=>grind
   rename_i s7;simp only[aaF]at s7;obtain⟨r,k1,k2⟩:=Fy (h3 Bg) s7.2;unfold Norm.sig
   grind
def FA(X:Env)(S:St):ResultVar->Option V
 | .tmp t=>some (S.f t)
 | .cell a t=>match S.f a with
  | .ptr id i f=>match S.h id with
   |some ob=>match ob.es[i]? with
    |some e=>part (X.ti t) e.cells f
    |none=>none
   |none=>none
  |_=>none
def Kv(tmps:Array Value):ResultVar->Sem Value
 | .tmp t=>pure (tmps.getD t undef)
 | .cell a t=>do loadVar t (<-asAddr (tmps.getD a undef))
theorem Mw(rs:List ResultVar)(S:St):nm X rs S=(match cF (rs.map (FA X S)) with
 |some [v]=>some v
 |some vs=>some (.dM vs)
 |none=>none):=rfl
theorem FB(fn:Func)(tmps:Array Value):results fn tmps=(do
  let vs<-fn.results.mapM (Kv tmps)
  pure (if h:vs.size=1 then vs[0] else .tuple vs)):=rfl
theorem Mx {w:World} {I:Nat->Prop} {σ:jt}   (R:Rel w I σ S.h) (F:jv w I σ S.f a) {fn:Func} (hB:fn.results.toList.all (sE X)=true) 
  (hv:nm X fn.results.toList S=some v): ∃u,(results fn a.tmps).run X.P w= .ok u w/\dB w I σ v u:=by
 have key: ∀(rs:List ResultVar) (l:List V),rs.all (sE X)=true->cF (rs.map (FA X S))=some l-> ∃us:List Value,(rs.mapM (Kv a.tmps)).run X.P w= .ok us w/\iN w I σ l us:=by
  intro rs;induction rs with
  |nil=>
   intro l _ hl;simp only[abI,cF,aA]at hl;subst hl;exact⟨[],by simp,by simp[iN]⟩
  |cons r rs ih=>
   intro l hb hl;simp only[adZ,aaF]at hb;simp only[aaU]at hl;cases r with
   |tmp t=>
    simp only[FA,cF]at hl;split at hl
    case h_2=>grind
    rename_i l' Ac;simp only[aA]at hl;subst hl;obtain⟨us,h1,h2⟩:=ih l' hb.2 Ac;refine⟨a.tmps.getD t undef::us,?_,?_⟩
    ·simp[aeW,Kv,h1]
    ·exact⟨_,_,rfl,F t,h2⟩
   |cell x t=>
    have T:mo X.P t (X.ti t):=lP hb.1;cases hx:S.f x with
    |ptr id i f=>
     simp only[FA,hx]at hl;cases gG:S.h id with
     |none=>simp[gG,cF]at hl
     |some ob=>
     simp only[gG]at hl;cases hi:ob.es[i]? with
     |none=>simp[hi,cF]at hl
     |some e=>
     simp only[hi]at hl;cases hp:part (X.ti t) e.cells f with
     |none=>simp[hp,cF]at hl
     |some v0=>
     simp only[hp,cF]at hl;split at hl
     case h_2=>grind
     rename_i l' Ac;simp only[aA]at hl;subst hl;obtain⟨us,h1,h2⟩:=ih l' hb.2 Ac;have hF:=F x;rw[hx]at hF;obtain⟨b,of,k,mX,hu⟩:=hF;obtain⟨b',o',c,el,oM,hI,wL,sY,fV⟩:=R.at gG hi;rw[mX]at oM;obtain⟨rfl,rfl,rfl⟩:=oM;have hc:=(fV.get hi).2.ext (Ext.ES ob.eU) rfl;obtain⟨u,hld,hr⟩:=EU T (f:=f) hc hp;refine⟨u::us,?_,?_⟩
     ·simp[aeW,Kv,h1,hu,asAddr,hld]
     ·exact⟨_,_,rfl,hr,h2⟩
    |_=>simp[FA,hx,cF]at hl
 rw[Mw]at hv;split at hv
 ·rename_i v0 hl;simp only[aA]at hv;subst hv;obtain⟨us,h1,h2⟩:=key _ _ hB hl;obtain⟨u,r,rfl,h3,rfl⟩:=h2;refine⟨u,?_,h3⟩;rw[FB,adD];simp[h1]
 ·rename_i vs kC hl;simp only[aA]at hv;subst hv;obtain⟨us,h1,h2⟩:=key _ _ hB hl;refine⟨.tuple us.toArray,?_,?_⟩
  ·have hlen:us.length≠1:=by
    intro hl1;rw[mP]at h2;match vs,h2 with
    | [v],_=>grind
    | [],h2=>grind
    |_::_::_,h2=>grind
   rw[FB,adD]
   simp_all
  ·exact⟨_,rfl,by omega⟩
 grind
theorem Kw(hA:Jb X lk)(hS:Sound X lk E):qY X (dA X E):=by
 intro g args h k v h' k' hc w I σ us R fr hr;unfold dA at hc;have Kd:X.oW g=none:=by
  cases Kd:X.oW g with
  |none=>rfl
  |some pr=>grind
 simp only[Kd]at hc;split at hc
 case h_2=>grind
 rename_i fn hf;split at hc
 case h_2=>grind
 rename_i b hb;have hB:=hA g fn hf Kd;unfold fnB at hB;simp only[hb,aaF]at hB;have hF0:jv w I σ (oN args) {tmps:=us++Array.replicate (fn.ntmps-us.size) undef,defers:=[]}:=by
  intro t;unfold oN;split
  ·rename_i v0 hv;rw[mP]at hr;have ht:t<us.size:=by
    have:=(List.getElem?_eq_some_iff.1 hv).1;rw[hr.1]at this;simpa using this
   have hu:us.toList[t]?=some us[t]:=by simp[ht]
   have:=hr.2 t _ _ hv hu;have hg:(us++Array.replicate (fn.ntmps-us.size) undef).getD t undef=us[t]:=by
    rw[abB,Array.getElem?_append_left ht];simp[ht]
   grind
  ·simp[dB]
 have fin: ∀{S1:St} {a':Act} {w':World},vQ X fn.results.toList (some (.normal,S1))=some (v,h',k')->Mv fn.ntmps (Ly X g k) w I σ h S1 a' w'->
   a'.defers=[]/\ ∃u,(results fn a'.tmps).run X.P w'= .ok u w'/\ ∃u' I' σ',Ending.returned u= .returned u'/\Ly X g k<=k'/\vf (Ly X g k) w I σ h w' I' σ' h'/\lQ σ' h' k'/\dB w' I' σ' v u':=by
  intro S1 a' w' hr hp;obtain⟨I',σ',hkn,hs,hF,ot,_,hd⟩:=hp;simp only[vQ]at hr;split at hr
  case h_2=>grind
  rename_i v0 hv;simp only[aA,bM]at hr;obtain⟨rfl,rfl,rfl⟩:=hr;obtain⟨u,h1,h2⟩:=Mx hs.rel hF hB.1.2 hv;exact⟨hd,u,h1,u,I',σ',rfl,hkn,hs,ot,h2⟩
 cases he:E g b ⟨oN args,h,k⟩ with
 |none=>simp[he,vQ]at hc
 |some x=>
  obtain⟨e,S1⟩:=x;rw[he]at hc;refine calls_of_wp hf hb ?_;refine(hS g fn.ntmps (Ly X g k) b ⟨oN args,h,k⟩ e S1 he hB.1.1 (Yq X g k) (fun hl=>by
   unfold Ly Env.base;grind) _ w I σ R hF0 fr (by grind) rfl _ ?_).wp
  intro a' w' hp;cases e with
  |normal=>exact fin hc hp
  |ret=>exact fin (by simpa[vQ] using hc) hp
  |exit id=>simp[vQ]at hc
theorem ax4(hA:Jb X lk)(hKG: ∀g,((X.clone g).isSome||(X.oW g).isSome)=true->vZ X g): ∀bY dst g args S S1,gU X (dA X E) bY dst g args S=some S1->vZ X g:=by
 have key: ∀g args h k r,dA X E g args h k=some r->vZ X g:=by
  intro g args h k r hc;unfold dA at hc;have Kd:X.oW g=none:=by
   cases Kd:X.oW g with
   |none=>rfl
   |some pr=>grind
  simp only[Kd]at hc;split at hc
  case h_2=>grind
  rename_i fn hf;split at hc
  case h_2=>grind
  rename_i b hb;have hB:=hA g fn hf Kd;unfold fnB at hB;simp only[hb,aaF]at hB;exact⟨fn,b,hf,hb,by grind⟩
 intro bY dst g args S S1 he;unfold gU at he;split at he
 ·grind
 split at he
 ·grind
 split at he
 ·unfold vd at he;split at he
  case h_2=>grind
  split at he
  case h_2=>grind
  grind
 split at he
 ·unfold mZ at he
  grind
 ··split at he
   ·split at he
    ·grind
    ·split at he
     ·rename_i hc;unfold rM at hc
      grind
     grind
   grind
theorem sound(hA:Jb X lk)(hN:vg X)(hK:uI X)(hKG: ∀g,((X.clone g).isSome||(X.oW g).isSome)=true->vZ X g)(hD:PL X lk)(hV: ∀n,o9 X (dA X (tp X n))): ∀n,Sound X lk (tp X n)
 |0=>fun bY nt m c S e S1 he=>by simp[tp]at he
 |n+1=>by
  have ih:=sound hA hN hK hKG hD hV n;have hC:=Kw hA ih;have hG:=ax4 (E:=tp X n) hA hKG;intro bY nt m c S e S1 he hB hm hl a w I σ R F fr hs hd Q hQ;have base: ∀{e'},e'=e->S=S1->Q e'.ex a w:=by
   intro e' h1 h2;subst h1;subst h2;exact hQ a w ⟨I,σ,hm,vf.refl R _,F,fr,hs,hd⟩
  rw[tp]at he;cases c with
  |skip=>
   simp only[ki,aA,bM]at he;exact wp_skip (base he.1 he.2)
  |exit id=>
   simp only[ki,aA,bM]at he;exact wp_exit (base he.1 he.2)
  |ret=>
   simp only[ki,aA,bM]at he;exact wp_ret (base he.1 he.2)
  |region id ops d=>
   simp only[ki]at he;simp only[v5,aaF]at hB;have m8: ∀o∈ops.toList,Ur X nt o=true:=List.all_eq_true.1 hB.1;split at he
   case h_2=>grind
   rename_i S0 OS;obtain⟨I0,σ0,hm0,s0,F0,fr0⟩:=Jc hN OS R F fr hm hl;split at he
   case h_2=>grind
   rename_i S2 Ci;split at he
   case isFalse=>grind
   rename_i kD;simp only[aA,bM]at he;obtain⟨rfl,rfl⟩:=he;have hQ': ∀a' w',PK nt S0.n w I0 σ0 S0.h S2 a' w'->Q .normal a' w':=by
    rintro a' w' ⟨I',σ',hn,yk,hF,ot,oM,Hs⟩;exact hQ a' w' ⟨I',σ',by omega,s0.trans (yk.aw6 hm0),hF,ot,oM,Hs⟩
   cases d with
   |true=>exact hD _ hC (vh (yo hN n)) (hV n) hK hG bY id nt ops S0 S2 m8 (by grind) Ci kD a w I0 σ0 s0.rel F0 fr0 hs hd Q hQ'
   |false=>
    refine wp_region ?_;have ot:lQ σ0 S0.h (S0.n+ops.size):=fun id fg=>fr0 id (by omega);have:=Ku hC hK hG m8 (Q:=Q) ops.toList 0 {S0 with n:=S0.n+ops.size} a w I0 σ0 (by simp) Ci s0.rel F0 ot hs hd (aaI _) (fun q _ _=>fr0 _ (by omega))
     (fun a' w' I' σ' hle kD hF YI oM Hs=>hQ' a' w' ⟨I',σ',by grind,kD,hF,YI,oM,Hs⟩)
    rw[List.range_eq_range'];omega
  |seq x y=>
   simp only[ki]at he;simp only[v5,aaF]at hB;cases hx:tp X n bY x S with
   |none=>grind
   |some z=>
    obtain⟨e2,S2⟩:=z;rw[hx]at he;refine wp_seq (ih bY nt m x S e2 S2 hx hB.1 hm hl a w I σ R F fr hs hd _ fun a' w' hp=> ?_).wp;cases e2 with
    |normal=>
     obtain⟨I',σ',hn,kD,hF,ot,oM,Hs⟩:=hp;exact(ih bY nt m y S2 e S1 he hB.2 hn hl a' w' I' σ' kD.rel hF ot oM Hs Q fun a2 w2 Dr=>hQ a2 w2 (Dr.trans kD)).wp
    |exit id=>
     obtain⟨rfl,rfl⟩:=he;exact hQ a' w' hp
    |ret=>
     obtain⟨rfl,rfl⟩:=he;exact hQ a' w' hp
  |cond x p q=>
   simp only[ki]at he;simp only[v5,aaF]at hB;split at he
   case h_2=>grind
   rename_i t ht;have hxr:dB w I σ (S.ev x) (a.eval x):=fj F hB.1.1;rw[ht]at hxr;have pO:=tS hxr;refine wp_cond pO ?_;cases t with
   |true=>exact(ih bY nt m p S e S1 (by grind) hB.1.2 hm hl a w I σ R F fr hs hd Q hQ).wp
   |false=>exact(ih bY nt m q S e S1 (by grind) hB.2 hm hl a w I σ R F fr hs hd Q hQ).wp
  |block id b=>
   simp only[ki]at he;cases hb:tp X n bY b S with
   |none=>grind
   |some z=>
    obtain⟨e2,S2⟩:=z;rw[hb]at he;refine wp_block (ih bY nt m b S e2 S2 hb hB hm hl a w I σ R F fr hs hd _ fun a' w' hp=> ?_).wp;cases e2 with
    |normal=>
     obtain⟨rfl,rfl⟩:=he;exact hQ a' w' hp
    |ret=>
     obtain⟨rfl,rfl⟩:=he;exact hQ a' w' hp
    |exit i=>
     simp only at he;simp only[Ex.ex,Exit.inBlock];split at he
     ·rename_i hi;obtain⟨rfl,rfl⟩:=he;simp only[hi,if_true];exact hQ a' w' hp
     ·rename_i hi;obtain⟨rfl,rfl⟩:=he;simp only[hi,if_false];exact hQ a' w' hp
  |loop b=>
   simp only[ki]at he;have hBb:v5 X lk nt bY b=true:=by simpa only[v5] using hB
   split at he
   case h_2=>grind
   rename_i S0 OS;obtain⟨I0,σ0,hm0,s0,F0,fr0⟩:=Jc hN OS R F fr hm hl;cases hb:tp X n bY b S0 with
   |none=>grind
   |some z=>
    obtain⟨e2,S2⟩:=z;rw[hb]at he;refine AD.round (ih bY nt m b S0 e2 S2 hb hBb hm0 hl a w I0 σ0 s0.rel F0 fr0 hs hd _ fun a' w' hp=> ?_).wp;cases e2 with
    |normal=>
     obtain⟨I',σ',hn,kD,hF,ot,oM,Hs⟩:=hp;exact ih bY nt m (.loop b) S2 e S1 he hB hn hl a' w' I' σ' kD.rel hF ot oM Hs Q fun a2 w2 Dr=>hQ a2 w2 (Dr.trans (s0.trans kD))
    |exit id=>
     obtain⟨rfl,rfl⟩:=he;exact hQ a' w' (hp.trans s0)
    |ret=>
     obtain⟨rfl,rfl⟩:=he;exact hQ a' w' (hp.trans s0)
  |_=>simp[ki]at he
theorem YS(hA:Jb X lk)(hN:vg X)(hK:uI X)(hKG: ∀g,((X.clone g).isSome||(X.oW g).isSome)=true->vZ X g)(hD:PL X lk)(hV: ∀n,o9 X (dA X (tp X n))):qY X (cL X):=by
 intro g args h k v h' k' hc;obtain⟨n,hn⟩:=m7 hc;exact Kw hA (sound hA hN hK hKG hD hV n) g args h k v h' k' hn
end
def stepG(X:Env)(C:jm)(bY:FuncId)(da:List (Option Nat))(n0 k:Nat)(o:Oper)(S:St):Option St:=
 match o.guard with
 |none=>fu X C bY n0 k o S
 |some (j,want)=>
  match da[j]? with
  |some (some d)=>match S.f d with
   | .bool b=>if b=want then fu X C bY n0 k o S else some (S.set o.dst (.dM []))
   | .dM []=>some (S.set o.dst (.dM []))
   |_=>none
  |_=>none
section
variable {X:Env} {C:jm} {bY:FuncId} {da:List (Option Nat)} {n0:Nat}
theorem AE(k:Nat)(o:Oper)(l:List Oper)(S:St):gM X C bY da n0 k (o::l) S=(match stepG X C bY da n0 k o S with|some S1=>gM X C bY da n0 (k+1) l S1|none=>none):=by
 simp only[gM,stepG]
 grind
theorem wT: ∀(l1 l2:List Oper) (k:Nat) (S:St),gM X C bY da n0 k (l1++l2) S=(match gM X C bY da n0 k l1 S with|some S1=>gM X C bY da n0 (k+l1.length) l2 S1|none=>none)
 | [],l2,k,S=>by simp[gM]
 |o::l1,l2,k,S=>by
  rw[aeM,AE,AE];cases stepG X C bY da n0 k o S with
  |none=>rfl
  |some S1=>
   simp only;rw[wT l1 l2 (k+1) S1,abJ,show k+1+l1.length=k+(l1.length+1) by omega]
def H7(da:List (Option Nat))(o:Oper)(S S':St):Prop:=
 Alike o S S'/\ ∀j want d,o.guard=some (j,want)->da[j]?=some (some d)->S'.f d=S.f d
theorem FC{k:Nat}{j d:Nat}{want:Bool}(hg:o.guard=some (j,want))(hd:da[j]?=some (some d))(hf:S.f d= .dM []\/S.f d= .bool (!want)):
  stepG X C bY da n0 k o S=some (S.set o.dst (.dM [])):=by
 unfold stepG
 grind
theorem qI{k:Nat}(he:stepG X C bY da n0 k o S=some S1):
  (fu X C bY n0 k o S=some S1/\ ∀S',H7 da o S S'->stepG X C bY da n0 k o S'=fu X C bY n0 k o S')\/
  (S1=S.set o.dst (.dM [])/\ ∀S',H7 da o S S'->stepG X C bY da n0 k o S'=some (S'.set o.dst (.dM []))):=by
 unfold stepG at he;cases hg:o.guard with
 |none=>
  simp only[hg]at he;exact .inl ⟨he,fun S' _=>by simp only[stepG,hg]⟩
 |some g=>
  obtain⟨j,want⟩:=g;simp only[hg]at he;cases hd:da[j]? with
  |none=>grind
  |some x=>
   cases x with
   |none=>grind
   |some d=>
    simp only[hd]at he;cases hf:S.f d with
    |bool b=>
     simp only[hf]at he;have Xx: ∀S',H7 da o S S'->S'.f d= .bool b:=fun S' hs=>by rw[hs.2 j want d hg hd];omega
     split at he
     ·rename_i hb;exact .inl ⟨he,fun S' hs=>by simp only[stepG,hg,hd,Xx S' hs,hb,if_true]⟩
     ·rename_i hb;simp only[aA]at he;exact .inr ⟨he.symm,fun S' hs=>by simp only[stepG,hg,hd,Xx S' hs,hb,if_false]⟩
    |dM l=>
     cases l with
     |nil=>
      simp only[hf,aA]at he;have Xx: ∀S',H7 da o S S'->S'.f d= .dM []:=fun S' hs=>by rw[hs.2 j want d hg hd];omega
      exact .inr ⟨he.symm,fun S' hs=>by simp only[stepG,hg,hd,Xx S' hs]⟩
     |cons _ _=>grind
    |_=>grind
theorem YT{k:Nat}(hc:cls X bY o=0)(he:stepG X C bY da n0 k o S=some S1): ∃v,S1=S.set o.dst v/\ ∀S',H7 da o S S'->stepG X C bY da n0 k o S'=some (S'.set o.dst v):=by
 rcases qI he with⟨h1,h2⟩|⟨h1,h2⟩
 ·obtain⟨v,h3,h4⟩:=axs hc h1;exact⟨v,h3,fun S' hs=>by rw[h2 S' hs];exact h4 S' hs.1⟩
 grind
theorem YU{k:Nat}(hc:cls X bY o=1)(he:stepG X C bY da n0 k o S=some S1): ∃v,S1=S.set o.dst v/\ ∀S',H7 da o S S'->Sub S.h S'.h->stepG X C bY da n0 k o S'=some (S'.set o.dst v):=by
 rcases qI he with⟨h1,h2⟩|⟨h1,h2⟩
 ·obtain⟨v,h3,h4⟩:=axt hc h1;exact⟨v,h3,fun S' hs Aw=>by rw[h2 S' hs];exact h4 S' hs.1 Aw⟩
 grind
def BA(h:bh)(id:Nat):Option Ob->bh
 |some ob=>aR h id (some ob)
 |none=>h
theorem YV{k:Nat}(hc:cls X bY o=2)(he:stepG X C bY da n0 k o S=some S1): ∃v ob,S1=({S with h:=BA S.h (n0+k) ob}:St).set o.dst v/\
  ∀S',H7 da o S S'->stepG X C bY da n0 k o S'=some (({S' with h:=BA S'.h (n0+k) ob}:St).set o.dst v):=by
 rcases qI he with⟨h1,h2⟩|⟨h1,h2⟩
 ·obtain⟨v,ob,h3,h4⟩:=axu hc h1;exact⟨v,some ob,h3,fun S' hs=>by rw[h2 S' hs];exact h4 S' hs.1⟩
 ·exact⟨_,none,h1,h2⟩
theorem PM{k:Nat}(he:stepG X C bY da n0 k o S=some S1): ∃v,S1=({S with h:=S1.h,n:=S1.n}:St).set o.dst v/\
  ∀S',H7 da o S S'->S'.h=S.h->S'.n=S.n->stepG X C bY da n0 k o S'=some (({S' with h:=S1.h,n:=S1.n}:St).set o.dst v):=by
 rcases qI he with⟨h1,h2⟩|⟨h1,h2⟩
 ·obtain⟨v,h3,h4⟩:=axv h1;exact⟨v,h3,fun S' hs hh hn=>by rw[h2 S' hs];exact h4 S' hs.1 hh hn⟩
 ·refine⟨.dM [],by rw[h1,fm,gZ],fun S' hs hh hn=> ?_⟩;rw[h2 S' hs,h1,fm,gZ,<-hh,<-hn]
theorem ana(hC:rh X C){k:Nat}(he:stepG X C bY da n0 k o S=some S1):S.n<=S1.n/\ ∀id,id≠n0+k->id<S.n->S.h id=none->S1.h id=none:=by
 rcases qI he with⟨h1,_⟩|⟨h1,_⟩
 ·exact zw hC h1
 ·subst h1;rw[fm,gZ]
  grind
theorem trace{L:List Oper}(he:gM X C bY da n0 0 L S0=some F): ∃T:Nat->St,T 0=S0/\T L.length=F/\(∀p,p<=L.length->gM X C bY da n0 0 (L.take p) S0=some (T p))/\
  ∀k o,L[k]?=some o->stepG X C bY da n0 k o (T k)=some (T (k+1)):=by
 have pre: ∀p,p<=L.length-> ∃S,gM X C bY da n0 0 (L.take p) S0=some S:=by
  intro p hp;have:=wT (X:=X) (C:=C) (bY:=bY) (da:=da) (n0:=n0) (L.take p) (L.drop p) 0 S0;rw[List.take_append_drop,he]at this;cases hx:gM X C bY da n0 0 (L.take p) S0 with
  |none=>grind
  |some S=>grind
 refine⟨fun p=>(gM X C bY da n0 0 (L.take p) S0).getD S0,?_,?_,fun p hp=> ?_,fun k o hk=> ?_⟩
 ·simp[gM]
 ·grind
 ·grind
 ·have hkl:k<L.length:=(List.getElem?_eq_some_iff.1 hk).1;obtain⟨A,hA⟩:=pre k (by omega);obtain⟨B,hB⟩:=pre (k+1) (by omega);have LA:L.take (k+1)=L.take k++ [o]:=by
   rw[acW,hk];rfl
  have h2:=hB;rw[LA,wT,hA]at h2;simp only[abN,acN]at h2;rw[AE,aeS (by omega)]at h2;show stepG X C bY da n0 k o ((gM X C bY da n0 0 (L.take k) S0).getD S0)=some ((gM X C bY da n0 0 (L.take (k+1)) S0).getD S0);rw[hA,hB];simp only[abR];cases hs:stepG X C bY da n0 k o A with
  |none=>grind
  |some S1=>
   rw[hs]at h2;exact h2
end
end Go.Abs
