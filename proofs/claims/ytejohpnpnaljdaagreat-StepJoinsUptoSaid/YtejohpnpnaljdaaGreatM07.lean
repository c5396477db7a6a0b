/- Part of a proof: engine A21. -/
import Derived.Test.YtejohpnpnaljdaaGreatM06
set_option linter.all false
set_option maxRecDepth 20000
set_option maxHeartbeats 20000000
namespace Go.Abs
open Go
theorem RN{X:Env}{bO:FuncId}{o:Oper}{ρ:Operand->V}{h0 h1:aY}{n0 n1:Nat}{v:V}(h:cm X bO o ρ h0 n0=some (v,h1,n1)):n1=n0\/n1=n0+1:=by
 unfold cm at h;dsimp (zeta:=true) only at h;repeat' split at h
 all_goals first
  |(cases h;done)
  |(simp only[au,aF]at h;exact .inl h.2.2.symm)
  |(simp only[au,aF]at h;exact .inr h.2.2.symm)
section
variable {w w1 w2 w':World} {I I1 I2 I':Nat->Prop} {σ σ1 σ2 σ':gH} {h h1 h2 h':aY} {n n1 n2 n' p m m':Nat}
theorem Step.join(s:Step w I σ h n w1 I1 σ1 h1 n1)(s':Step w1 I1 σ1 h1 p w2 I2 σ2 h2 n2)(hp:n<=p)(hn:n1<=n2):Step w I σ h n w2 I2 σ2 h2 n2 where
 ext:=s.ext.trans s'.ext
 rel:=s'.rel
 os:=s'.os.trans s.os
 tape:=s'.tape.trans s.tape
 output:=s'.output.trans s.output
 size:=Nat.le_trans s.size s'.size
 frame:=fun b hb ho=>(s'.frame b (Nat.lt_of_lt_of_le hb s.size) (fun hx=>by
  rcases s.own b hx with hx|hx
  ·omega
  ·exact ho hx)).trans (s.frame b hb ho)
 own:=fun b hb=>by
  rcases s'.own b hb with hx|hx
  ·exact .inl (Nat.le_trans s.size hx)
  ·exact s.own b hx
 sq:=fun b hb=>by
  rcases s'.sq b hb with hx|hx|hx
  ·exact s.sq b hx
  ·exact .inr (.inl (Nat.le_trans s.size hx))
  ·exact .inr (s.own b hx)
 le:=Nat.le_trans s.le hn
 sigs:=fun id dg=>by
  have l1:=s.le;have l2:=s'.le;rw[s'.sigs id (by omega),s.sigs id (by omega)]
 news:=fun id dg hz=>by
  have l1:=s.le;have l2:=s'.le;exact s'.news id (by omega) (s.news id (by omega) hz)
theorem Step.MJ(s:Step w I σ h n w' I' σ' h' n')(hm:m<=n)(MK:n'<=m'):Step w I σ h m w' I' σ' h' m':=
 {s with
  le:=by have:=s.le;omega
  sigs:=fun id dg=>s.sigs id (by omega)
  news:=fun id dg hz=>s.news id (by omega) hz}
theorem dU.append{cs ds:List V}{us vs:List Value}(hc:dU w I σ cs us)(hd:dU w I σ ds vs):dU w I σ (cs++ds) (us++vs):=by
 induction cs generalizing us with
 |nil=>simp only[dU]at hc;subst hc;simpa using hd
 |cons c cs ih=>
  simp only[dU]at hc;obtain⟨u,r,rfl,h1,h2⟩:=hc;simp only[List.cons_append,dU];exact⟨u,r++vs,rfl,h1,ih h2⟩
end
def uE(X:Env)(g:FuncId):Prop:= ∃fn b,X.P.funcs[g]?=some fn/\fn.body=some b/\(fn.name== "runtime.NumGoroutine")=false
theorem N2{X:Env}{g:FuncId}(hg:uE X g)(args:Array Value)(w:World):(callFunc g args).run X.P w= .ok (.enter g args) w:=by
 obtain⟨fn,b,hf,hb,hn⟩:=hg;simp only[beq_eq_false_iff_ne,ne_eq]at hn;simp[callFunc,hf,hb,hn]
theorem Xw(S:St)(m:Nat):({S with n:=m}:St).ev=S.ev:=by
 funext x;cases x<;>rfl
section
variable {X:Env} {C:iz} {bO:FuncId} {n0 j nt:Nat} {o:Oper} {S S1:St} {w:World} {I:Nat->Prop} {σ:gH} {a:Act}
def Left(o:Oper)(a:Act)(w:World)(I:Nat->Prop)(σ:gH)(S S1:St)(n0 j:Nat)(a':Act)(w':World):Prop:=
 ∃u v I' σ',a'=a.put o.dst u/\cC w' I' σ' v u/\S1.f=(S.set o.dst v).f/\Step w I σ S.h n0 w' I' σ' S1.h S1.n/\S.n<=S1.n/\jY σ' S1.h S1.n/\
  (∀q,q≠j->n0+q<S.n->S.h (n0+q)=none->σ (n0+q)=none->S1.h (n0+q)=none/\σ' (n0+q)=none)
theorem Hg (hC:qj X C) (hK:rE X) (hG: ∀bO dst g args S S1,eK X C bO dst g args S=some S1->uE X g) (hB:NJ X nt o=true) (he:dH X C bO n0 j o S=some S1)
  (R:Rel w I σ S.h) (F:ir w I σ S.f a) (fr:jY σ S.h S.n) (hn:S.h (n0+j)=none) (sZ:σ (n0+j)=none) (eX:n0+j<S.n) (Q:Exit->Act->World->Prop):
  o.wp X.P a w (Left o a w I σ S S1 n0 j) Q:=by
 have op:(∀x args jP,o.op≠ .call ⟨.value x,args,jP⟩)->o.wp X.P a w (Left o a w I σ S S1 n0 j) Q:=by
  intro iK;unfold dH at he;split at he
  ·rename_i x args jP ho;exact absurd ho (iK x args jP)
  ·split at he
   case h_2=>cases he
   rename_i v0 h0 n1 hc;simp only[au]at he;subst he;have A2:=RN hc;have xA:W5 X bO o {S with n:=n0+j}=some (({S with h:=h0,n:=n1}:St).set o.dst v0):=by
    unfold W5;rw[Xw,hc]
   obtain⟨nx,w',I',σ',u,v,jt,hnx,iZ,hf,lX⟩:=adz (S:={S with n:=n0+j}) hB R F hn sZ bO xA;rw[dJ,fa]at iZ;have Xx:Left o a w I σ S (({S with h:=h0}:St).set o.dst v0) n0 j (a.put o.dst u) w':=by
    refine⟨u,v,I',σ',rfl,lX,?_,?_,by rw[fa];exact Nat.le_refl _,?_,fun q hq hql h1 h2=>⟨?_,?_⟩⟩
    ·have e1:(({S with h:=h0,n:=n1}:St).set o.dst v0).f=(({S with h:=h0}:St).set o.dst v0).f:=by cases o.dst<;>rfl
     have e2:(({S with n:=n0+j}:St).set o.dst v).f=(S.set o.dst v).f:=by cases o.dst<;>rfl
     rw[<-e1,<-e2];exact hf
    ·rw[dJ,fa];exact iZ.MJ (by simp) (by simp only;omega)
    ·intro id dg;rw[fa]at dg;have:=fr id dg;rw[dJ];refine⟨iZ.news id (by simp only at dg⊢;omega) this.1,?_⟩;rw[iZ.sigs id (by simp only at dg⊢;omega)];exact this.2
    ·rw[dJ];exact iZ.news (n0+q) (by simp only;omega) h1
    ·rw[iZ.sigs (n0+q) (by simp only;omega)];exact h2
   unfold Oper.wp;rw[jt];rcases hnx with rfl|⟨rfl,rfl⟩
   ·exact Xx
   ·exact Xx
 by_cases hc: ∃x args jP,o.op= .call ⟨.value x,args,jP⟩
 ·obtain⟨x,args,jP,ho⟩:=hc;unfold dH at he;simp only[ho]at he;have aki:mn o:=by
   unfold NJ at hB;rw[Bool.and_eq_true,Bool.and_eq_true]at hB;exact fun x hm=>List.all_eq_true.1 hB.1.2 x hm
  split at he
  case h_2=>cases he
  rename_i g first AI hx
  have akj:=hG _ _ _ _ _ _ he;have Rg:cC w I σ (S.ev x) (a.eval x):=dO (S:=S) F (aki x (by simp[ho,Op.operands,Call.operands]));rw[hx]at Rg;simp only[cC]at Rg;obtain⟨us,vs,nq,h1,h2⟩:=Rg;have fJ:dU w I σ (args.toList.map S.ev) (args.map a.eval).toList:=by
   rw[kG];refine⟨by simp,fun i c u hc hu=> ?_⟩;rw[List.getElem?_map]at hc;rw[Array.getElem?_toList,Array.getElem?_map]at hu;cases hi:args[i]? with
   |none=>simp[hi]at hu
   |some y=>
    rw[Array.getElem?_toList,hi]at hc;rw[hi]at hu;simp at hc hu;subst hc;subst hu;exact dO (S:=S) F (aki y (by
     have:=Array.mem_of_getElem? hi;simp[ho,Op.operands,Call.operands,this]))
  have kn:dU w I σ (first++args.toList.map S.ev++AI) (us++args.map a.eval++vs).toList:=by
   simp only[Array.toList_append];exact(h1.append fJ).append h2
  have jt:(execOp a.eval o).run X.P w= .ok (.enter g (us++args.map a.eval++vs)) w:=by
   simp only[execOp,ho,resolve,nq,Deferred.ofValue];simp[invoke,N2 akj]
  unfold Oper.wp;rw[jt];simp only[Oper.upon];refine Calls.mono (RM hC hK he R fr _ kn) fun e w' hh=> ?_;obtain⟨u,v,I',σ',rfl,iZ,hf,lX⟩:=hh;refine⟨u,v,I',σ',rfl,lX,hf,iZ.MJ (by omega) (Nat.le_refl _),iZ.le,iZ.fresh fr,fun q hq hql h1 h2=>⟨iZ.news _ (.inl hql) h1,?_⟩⟩;rw[iZ.sigs _ (.inl hql)];exact h2
 ·exact op fun x args jP ho=>hc ⟨x,args,jP,ho⟩
end
section
variable {X:Env} {C:iz} {bO:FuncId} {n0 nt:Nat} {ops:Array Oper}
theorem xW(a:Act)(d:Option Nat)(u:Value):(a.put d u).tmps.size=a.tmps.size:=by cases d<;>simp[Act.put]
theorem put_defers(a:Act)(d:Option Nat)(u:Value):(a.put d u).defers=a.defers:=by cases d<;>rfl
theorem ir.Xy {w:World} {I:Nat->Prop} {σ:gH} {S S1:St} {a:Act} (F:ir w I σ S.f a) {v:V} {u:Value} (hr:cC w I σ v u) (d:Option Nat) (hd: ∀t,d=some t->t<a.tmps.size)
  (hf:S1.f=(S.set d v).f):ir w I σ S1.f (a.put d u):=by
 rw[hf];cases d with
 |none=>exact F
 |some t=>exact F.put hr t (hd t rfl)
theorem ML{o:Oper}(hB:NJ X nt o=true): ∀t,o.dst=some t->t<nt:=by
 intro t ht;unfold NJ at hB;rw[Bool.and_eq_true,Bool.and_eq_true]at hB;have:=hB.1.1;simpa[ht] using this
theorem BO{w:World}{I:Nat->Prop}{σ:gH}{S:St}{a:Act}(F:ir w I σ S.f a){o:Oper}{j d:Nat}{want:Bool}(hg:o.guard=some (j,want))(hd:(ops.toList.map (·.dst))[j]?=some (some d)):
  (∀b,S.f d= .bool b->Region.wanted o (yielded ops a.tmps)=(b==want))/\(S.f d= .de []->Region.wanted o (yielded ops a.tmps)=false):=by
 have hj:(ops[j]?).bind (·.dst)=some d:=by
  rw[List.getElem?_map,Array.getElem?_toList]at hd;cases ho:ops[j]? with
  |none=>simp[ho]at hd
  |some x=>simpa[ho] using hd
 have hF:=F d;refine⟨fun b hb=> ?_,fun hb=> ?_⟩
 ·rw[hb]at hF;have hv:a.tmps.getD d undef= .bool b:=by simpa[cC] using hF
  have ht:a.tmps[d]?=some (.bool b):=by
   rw[Array.getD_eq_getD_getElem?]at hv;cases hx:a.tmps[d]? with
   |none=>simp[hx,undef]at hv
   |some y=>simpa[hx] using hv
  simp only[Region.wanted,hg,yielded,hj,Option.bind_some,ht];cases b<;>cases want<;>rfl
 ·rw[hb]at hF;simp only[cC,dU]at hF;obtain⟨us,hu,he⟩:=hF;have hnb: ∀b,a.tmps[d]?≠some (.bool b):=by
   intro b hx;rw[Array.getD_eq_getD_getElem?,hx]at hu;simp at hu
  simp only[Region.wanted,hg,yielded,hj,Option.bind_some];first
   |rfl
   |(
    split
    ·rename_i b hx;exact absurd hx (hnb b)
    ·rfl)
theorem D8{w:World}{I:Nat->Prop}{σ:gH}:cC w I σ (.de []) undef:=by
 simp only[cC,undef,dU];exact⟨#[],rfl,rfl⟩
theorem Fl(hC:qj X C)(hK:rE X)(hG: ∀bO dst g args S S1,eK X C bO dst g args S=some S1->uE X g)(hB: ∀o∈ops.toList,NJ X nt o=true){Q:Exit->Act->World->Prop}{S1:St}:
  ∀(l:List Oper) (k:Nat) (S:St) (a:Act) (w:World) (I:Nat->Prop) (σ:gH),l=ops.toList.drop k->eu X C bO (ops.toList.map (·.dst)) n0 k l S=some S1->Rel w I σ S.h->ir w I σ S.f a->jY σ S.h S.n->nt<=a.tmps.size->
   a.defers=[]->n0+ops.size<=S.n->(∀q,k<=q->q<ops.size->S.h (n0+q)=none/\σ (n0+q)=none)->
   (∀a' w' I' σ',S.n<=S1.n->Step w I σ S.h n0 w' I' σ' S1.h S1.n->ir w' I' σ' S1.f a'->jY σ' S1.h S1.n->nt<=a'.tmps.size->a'.defers=[]->Q .normal a' w')->
   wpOps X.P ops Q (List.range' k (ops.size-k)) a w
 | [],k,S,a,w,I,σ,hl,he,R,F,fr,hs,hd,hn,hq,hQ=>by
  have hk:ops.size-k=0:=by
   have:=congrArg List.length hl;simp at this;omega
  rw[hk];simp only[eu,au]at he;subst he;exact hQ a w I σ (Nat.le_refl _) ((Step.refl R n0).MJ (Nat.le_refl _) (by omega)) F fr hs hd
 |o::l,k,S,a,w,I,σ,hl,he,R,F,fr,hs,hd,hn,hq,hQ=>by
  have hk:k<ops.size:=by
   have:=congrArg List.length hl;simp at this;omega
  have ju:ops[k]?=some o:=by
   have:=congrArg (fun l=>l[0]?) hl;simp only[List.getElem?_cons_zero,List.getElem?_drop,Nat.add_zero]at this;rw[<-Array.getElem?_toList];exact this.symm
  have xz:l=ops.toList.drop (k+1):=by
   have:=congrArg List.tail hl;simpa using this
  have hoB:NJ X nt o=true:=hB o (by
   have:=Array.mem_of_getElem? ju;simpa using this)
  have RO: ∀t,o.dst=some t->t<a.tmps.size:=fun t ht=>Nat.lt_of_lt_of_le (ML hoB t ht) hs;rw[show ops.size-k=(ops.size-(k+1))+1 by omega,List.range'_succ];simp only[wpOps,ju];have run: ∀{S2:St},dH X C bO n0 k o S=some S2->eu X C bO (ops.toList.map (·.dst)) n0 (k+1) l S2=some S1->
    o.wp X.P a w (wpOps X.P ops Q (List.range' (k+1) (ops.size-(k+1)))) Q:=by
   intro S2 h1 h2;refine Oper.wp_mono (fun a' w' hh=> ?_) (Hg hC hK hG hoB h1 R F fr (hq k (Nat.le_refl _) hk).1 (hq k (Nat.le_refl _) hk).2 (by omega) Q);obtain⟨u,v,I',σ',rfl,lX,hf,iZ,hle,lK,Ke⟩:=hh;refine Fl hC hK hG hB l (k+1) S2 _ w' I' σ' xz h2 iZ.rel ((F.ext iZ.ext).Xy lX o.dst RO hf) lK (by rw[xW];exact hs) (by rw[put_defers];exact hd) (by omega) (fun q h1 h2=>Ke q (by omega) (by omega) (hq q (by omega) h2).1 (hq q (by omega) h2).2) (fun a' w'' I'' σ'' AJ wQ hF' RP ln Gv=> ?_);exact hQ a' w'' I'' σ'' (by omega) (iZ.join wQ (Nat.le_refl _) AJ) hF' RP ln Gv
  have skip:eu X C bO (ops.toList.map (·.dst)) n0 (k+1) l (S.set o.dst (.de []))=some S1->wpOps X.P ops Q (List.range' (k+1) (ops.size-(k+1))) (a.put o.dst undef) w:=by
   intro h2;refine Fl hC hK hG hB l (k+1) _ _ w I σ xz h2 (by rw[dJ];exact R) (F.Xy D8 o.dst RO rfl) (by rw[dJ,fa];exact fr) (by rw[xW];exact hs) (by rw[put_defers];exact hd) (by rw[fa];exact hn) (fun q h1 h2=>by rw[dJ];exact hq q (by omega) h2) (fun a' w'' I'' σ'' AJ wQ hF' RP ln Gv=> ?_);rw[dJ]at wQ;rw[fa]at AJ;exact hQ a' w'' I'' σ'' AJ wQ hF' RP ln Gv
  simp only[eu]at he;split at he
  ·rename_i hg;have hw:Region.wanted o (yielded ops a.tmps)=true:=by simp[Region.wanted,hg]
   simp only[hw,if_true];split at he
   ·rename_i S2 h1;exact .inl (run h1 he)
   ·cases he
  ·rename_i j want hg;split at he
   case h_2=>cases he
   rename_i d Gv;have QL:=BO F hg Gv;split at he
   ·rename_i b hb;have hw:=QL.1 b hb;split at he
    ·rename_i Hh;subst Hh;rw[beq_self_eq_true]at hw;simp only[hw,if_true];split at he
     ·rename_i S2 h1;exact .inl (run h1 he)
     ·cases he
    ·rename_i Hh;have:(b==want)=false:=by simpa using Hh
     rw[this]at hw;simp only[hw,Bool.false_eq_true,if_false];exact skip he
   ·rename_i hb;have hw:=QL.2 hb;simp only[hw,Bool.false_eq_true,if_false];exact skip he
   ·cases he
end
theorem uF{α β:Type}{f g:α->β}{l:List α}(h: ∀x∈l,f x=g x):l.map f=l.map g:=List.map_congr_left h
theorem ov{X:Env}{bO:FuncId}{o:Oper}{ρ ρ':Operand->V}(h: ∀x∈o.op.operands.toList,ρ x=ρ' x)(h0:aY)(n0:Nat):cm X bO o ρ h0 n0=cm X bO o ρ' h0 n0:=by
 obtain⟨dst,op,ty,pos,after,guard⟩:=o;have aao: ∀ps:Array (Nat×Operand),(∀x∈ps.toList.map (·.2),ρ x=ρ' x)->(ps.toList.map fun p=>(p.1,ρ p.2))=ps.toList.map fun p=>(p.1,ρ' p.2):=fun ps hp=>
  List.map_congr_left fun p hm=>by rw[hp p.2 (List.mem_map_of_mem hm)]
 have opt: ∀q:Option Operand,(∀x,q=some x->ρ x=ρ' x)->q.map ρ=q.map ρ':=fun q hq=>by
  cases q with
  |none=>rfl
  |some x=>simp[hq x rfl]
 cases op with
 |build t ps=>
  have:=aao ps (by simpa[Op.operands] using h);simp only[cm,this]
 |buildSlice t n ps=>
  have:=aao ps (by simpa[Op.operands] using h);simp only[cm,this]
 |makeFunc c p q=>
  cases c with
  |func g=>
   have h1:p.toList.map ρ=p.toList.map ρ':=uF fun x hx=>h x (by simp[Op.operands]at hx⊢;exact .inl hx);have h2:q.toList.map ρ=q.toList.map ρ':=uF fun x hx=>h x (by simp[Op.operands]at hx⊢;exact .inr hx);simp only[cm,h1,h2]
  |_=>simp only[cm]
 |slice t x lo hi mx=>
  have hx:ρ x=ρ' x:=h x (by simp[Op.operands]);have h1:=opt lo (fun y hy=>h y (by simp[Op.operands,hy]));have h2:=opt hi (fun y hy=>h y (by simp[Op.operands,hy]));cases mx with
  |none=>
   simp only[cm,hx,h1,h2];cases ρ' x with
   |bU id s n=>cases hh:h0 id<;>simp only[hh]
   |_=>rfl
  |some m=>
   have h3:ρ m=ρ' m:=h m (by simp[Op.operands]);simp only[cm,hx,h1,h2,h3];cases ρ' x with
   |bU id s n=>cases hh:h0 id<;>simp only[hh,h3]
   |_=>rfl
 |call c=>
  obtain⟨J7,args,jP⟩:=c;have ha:args.toList.map ρ=args.toList.map ρ':=uF fun x hx=>h x (by simp[Op.operands,Call.operands]at hx⊢;first|exact hx|exact .inl hx|exact .inr hx|simp[hx]);cases J7 with
  |builtin b=>cases b<;>simp only[cm,ha]
  |_=>simp only[cm]
 |_=>first
  |(simp only[cm];done)
  |(simp only[Op.operands,List.mem_cons,List.not_mem_nil,or_false,forall_eq_or_imp,forall_eq]at h;simp only[cm,h])
theorem D9{h h':aY}{v v':V}(hg:qm h v=some (v',h')): ∀id,h id=none->h' id=none:=by
 intro id dg;unfold qm at hg;split at hg
 ·split at hg
  ·split at hg
   ·simp only[au,aF]at hg;rw[<-hg.2];simp[aO,dg]
   ·cases hg
  ·cases hg
 ·split at hg
  ·simp only[au,aF]at hg;rw[<-hg.2];exact dg
  ·cases hg
theorem Ea: ∀{cs qC:List V} {h h':aY},fj h cs=some (qC,h')-> ∀id,h id=none->h' id=none
 | [],qC,h,h',hg,id,dg=>by
  simp only[fj,au,aF]at hg;rw[<-hg.2];exact dg
 |c::cs,qC,h,h',hg,id,dg=>by
  simp only[fj]at hg;split at hg
  ·rename_i h1;split at hg
   ·rename_i h2;simp only[au,aF]at hg;rw[<-hg.2];exact Ea h2 id (D9 h1 id dg)
   ·cases hg
  ·cases hg
theorem BP{h h':aY}{v v':V}(hg:qu h v=some (v',h')): ∀id,h id=none->h' id=none:=by
 unfold qu at hg;split at hg
 ·split at hg
  ·rename_i h1;simp only[au,aF]at hg;rw[<-hg.2];exact Ea h1
  ·cases hg
 ·exact D9 hg
theorem zh: ∀{ps wj:List (Nat×V)} {h h':aY},lz h ps=some (wj,h')-> ∀id,h id=none->h' id=none
 | [],wj,h,h',hg,id,dg=>by
  simp only[lz,au,aF]at hg;rw[<-hg.2];exact dg
 |(i,v)::ps,wj,h,h',hg,id,dg=>by
  simp only[lz]at hg;split at hg
  ·rename_i h1;split at hg
   ·rename_i h2;simp only[au,aF]at hg;rw[<-hg.2];exact zh h2 id (BP h1 id dg)
   ·cases hg
  ·cases hg
theorem RQ{h h':aY}{k:Bool}{x v':V}(hg:(if k=true then some (x,h) else qu h x)=some (v',h')): ∀id,h id=none->h' id=none:=by
 intro id dg;split at hg
 ·simp only[au,aF]at hg;rw[<-hg.2];exact dg
 ·exact BP hg id dg
theorem Hi{X:Env}{bO:FuncId}{o:Oper}{ρ:Operand->V}{h0 h1:aY}{n0 n1:Nat}{v:V}(h:cm X bO o ρ h0 n0=some (v,h1,n1)): ∀id,id≠n0->h0 id=none->h1 id=none:=by
 intro id iK dg;have hu: ∀(hh:aY) ob,hh id=none->aO hh n0 (some ob) id=none:=fun hh ob hz=>by simp[aO,iK,hz]
 have hk: ∀(hh:aY) i,hh id=none->aO hh i none id=none:=fun hh i hz=>by simp[aO,hz]
 have hs: ∀(hh:aY) i (ob lU:Ob),hh i=some lU->hh id=none->aO hh i (some ob) id=none:=fun hh i ob lU h1 hz=>by
  have:id≠i:=fun e=>by rw[e,h1]at hz;cases hz
  simp[aO,this,hz]
 unfold cm at h;dsimp (zeta:=true) only at h;repeat' split at h
 all_goals first
  |(cases h;done)
  |(
   simp only[au,aF]at h;obtain⟨_,rfl,_⟩:=h;first
    |exact dg
    |exact hu _ _ dg
    |exact hu _ _ (hk _ _ dg)
    |exact hu _ _ (zh (by assumption) id dg)
    |exact zh (by assumption) id dg
    |exact hs _ _ _ _ (by assumption) dg
    |exact hs _ _ _ _ (by assumption) (RQ (by assumption) id dg))
def mr(h G:aY):aY:=fun i=>match G i with|some ob=>some ob|none=>h i
def rz(h G:aY)(n:Nat):Prop:= ∀i,G i≠none->h i=none/\i<n
def mu(X:Env)(C:iz):Prop:= ∀g args h k v h' k' G,X.low g=false->rz h G k->C g args h k=some (v,h',k')->C g args (mr h G) k=some (v,mr h' G,k')
def ox(X:Env)(C:iz):Prop:= ∀g args h k v h' k',C g args h k=some (v,h',k')->Gt X g k<=k'/\ ∀id,id<Gt X g k->h id=none->h' id=none
def isConst:Operand->Bool
 | .const _=>true
 |_=>false
theorem Hj(v:Value):(∀i s l,tX v≠ .bU i s l):=by
 intro i s l e;unfold tX at e;split at e<;>cases e
theorem zX{v v':V}{h h1:aY}(hv: ∀i s l,v≠ .bU i s l)(hg:qm h v=some (v',h1)):h1=h/\ ∀h',qm h' v=some (v',h'):=by
 unfold qm at hg⊢;split at hg
 ·exact absurd rfl (hv _ _ _)
 ·split at hg
  ·rename_i hc;simp only[au,aF]at hg;obtain⟨rfl,rfl⟩:=hg;exact⟨rfl,fun h'=>by rw[if_pos hc]⟩
  ·cases hg
theorem zY: ∀{cs qC:List V} {h h1:aY},(∀c∈cs,∀i s l,c≠ .bU i s l)->fj h cs=some (qC,h1)->h1=h/\ ∀h',fj h' cs=some (qC,h')
 | [],qC,h,h1,_,hg=>by
  simp only[fj,au,aF]at hg;obtain⟨rfl,rfl⟩:=hg;exact⟨rfl,fun h'=>rfl⟩
 |c::cs,qC,h,h1,hv,hg=>by
  simp only[fj]at hg;split at hg
  case h_2=>cases hg
  rename_i c' h2 hc;obtain⟨rfl,e1⟩:=zX (hv c (List.mem_cons_self ..)) hc;split at hg
  case h_2=>cases hg
  rename_i cs2 h3 v7;obtain⟨rfl,e2⟩:=zY (fun x hx=>hv x (List.mem_cons_of_mem _ hx)) v7;simp only[au,aF]at hg;obtain⟨rfl,rfl⟩:=hg;exact⟨rfl,fun h'=>by simp only[fj,e1,e2]⟩
theorem Kf{u:Value}{v':V}{h h1:aY}(hg:qu h (sm u)=some (v',h1)):h1=h/\ ∀h',qu h' (sm u)=some (v',h'):=by
 by_cases hu: ∃cs,u= .agg cs
 ·obtain⟨cs,rfl⟩:=hu;have e:sm (.agg cs)= .agg (cs.toList.map tX):=rfl;rw[e]at hg⊢;simp only[qu]at hg;split at hg
  case h_2=>cases hg
  rename_i qC h2 hl;obtain⟨rfl,e2⟩:=zY (fun c hc i s l e=>by
   obtain⟨x,_,rfl⟩:=List.mem_map.1 hc;exact Hj x i s l e) hl
  simp only[au,aF]at hg;obtain⟨rfl,rfl⟩:=hg;exact⟨rfl,fun h'=>by simp only[qu,e2]⟩
 ·have e:sm u=tX u:=by cases u<;>first|rfl|exact absurd ⟨_,rfl⟩ hu
  have Xo: ∀cs,tX u≠ .agg cs:=by
   intro cs e;unfold tX at e;split at e<;>cases e
  have hg0: ∀h,qu h (tX u)=qm h (tX u):=fun h=>by
   unfold qu;split
   ·rename_i cs hc;exact absurd hc (Xo cs)
   ·rfl
  rw[e]at hg⊢;rw[hg0]at hg;obtain⟨h1,h2⟩:=zX (Hj u) hg;exact⟨h1,fun h'=>by rw[hg0];exact h2 h'⟩
theorem zZ{ρ:Operand->V}(hρ: ∀v,ρ (.const v)=sm v): ∀{ps:List (Nat×Operand)} {wj:List (Nat×V)} {h h1:aY},ps.all (fun p=>isConst p.2)=true->lz h (ps.map fun p=>(p.1,ρ p.2))=some (wj,h1)->h1=h/\ ∀h',lz h' (ps.map fun p=>(p.1,ρ p.2))=some (wj,h')
 | [],wj,h,h1,_,hg=>by
  simp only[List.map_nil,lz,au,aF]at hg;obtain⟨rfl,rfl⟩:=hg;exact⟨rfl,fun h'=>rfl⟩
 |(i,x)::ps,wj,h,h1,ha,hg=>by
  simp only[List.all_cons,Bool.and_eq_true]at ha;simp only[List.map_cons,lz]at hg;cases x with
  |const u=>
   rw[hρ]at hg;split at hg
   case h_2=>cases hg
   rename_i c' h2 hc;obtain⟨rfl,e1⟩:=Kf hc;split at hg
   case h_2=>cases hg
   rename_i cs2 h3 v7;obtain⟨rfl,e2⟩:=zZ hρ ha.2 v7;simp only[au,aF]at hg;obtain⟨rfl,rfl⟩:=hg;exact⟨rfl,fun h'=>by simp only[List.map_cons,lz,hρ,e1,e2]⟩
  |_=>exact absurd ha.1 (by simp[isConst])
def cls(X:Env)(bO:FuncId)(o:Oper):Nat:=
 match o.op with
 | .move _| .assign _| .pick .. | .build .. | .nilCheck _| .binOp .. | .unOp .. | .convert .. | .makeFunc .. | .fieldAddr .. | .index .. | .extract .. =>0
 | .call ⟨.builtin .len,_,_⟩| .call ⟨.builtin .min,_,_⟩| .call ⟨.builtin .max,_,_⟩=>0
 | .load .. | .slice .. | .indexAddr .. =>1
 | .call ⟨.value (.func g),args,_⟩=>if(X.clone g).isNone&& !X.fw g&& !X.eJ g&& (o.dst.elim [] (X.mask bO)).isEmpty&& !o.dst.any (X.mX bO) then(if args.isEmpty then 0 else 1) else 3
 | .alloc _| .box .. | .makeSlice .. =>2
 | .buildSlice t _ ps=>if X.eh bO (X.ti t).elem then 2 else if ps.isEmpty then(if o.dst.any (X.mX bO) then 2 else 0) else if ps.toList.all (fun p=>isConst p.2)&& !o.dst.any (X.mX bO) then 0 else 3
 |_=>3
def Sub(h h':aY):Prop:= ∀id ob,h id=some ob->h' id=some ob
section
variable {X:Env} {bO:FuncId} {o:Oper} {ρ:Operand->V} {h h1:aY} {n n1:Nat} {v:V}
theorem core0(hρ: ∀v,ρ (.const v)=sm v)(hc:cls X bO o=0)(he:cm X bO o ρ h n=some (v,h1,n1)):h1=h/\ ∀h' n',cm X bO o ρ h' n'=some (v,h',n'):=by
 obtain⟨dst,op,ty,pos,after,guard⟩:=o;cases op with
 |call c=>
  obtain⟨J7,args,jP⟩:=c;cases J7 with
  |value x=>simp[cm]at he
  |builtin b=>
   cases b with
   |len|min|max=>
    unfold cm at he⊢;dsimp only at he⊢;repeat' split at he
    all_goals first
     |(cases he;done)
     |(
      simp only[au,aF]at he;obtain⟨rfl,rfl,rfl⟩:=he;refine⟨rfl,fun h' n'=> ?_⟩;simp only[*,if_true,if_false])
   |_=>simp[cls]at hc
  |_=>simp[cm]at he
 |makeFunc c p q=>
  cases c<;>simp only[cm,au,aF,reduceCtorEq]at he;obtain⟨rfl,rfl,rfl⟩:=he;exact⟨rfl,fun h' n'=>by simp only[cm]⟩
 |move|assign|pick|build|nilCheck|binOp|unOp|convert|fieldAddr|index|extract=>
  unfold cm at he⊢;dsimp only at he⊢;repeat' split at he
  all_goals first
   |(cases he;done)
   |(
    simp only[au,aF]at he;obtain⟨rfl,rfl,rfl⟩:=he;refine⟨rfl,fun h' n'=> ?_⟩;first
     |rfl
     |(simp only[*,if_true];done)
     |(simp[*];done))
 |buildSlice t m ps=>
  simp only[cls]at hc;split at hc
  ·cases hc
  ·rename_i hk;split at hc
   ·rename_i hps;split at hc
    ·cases hc
    ·rename_i qO;have Dr:ps.toList=[]:=by simpa using hps
     simp only[cm,hk,Bool.false_eq_true,if_false,Dr,List.map_nil,lz,oU,qO,au,aF]at he;obtain⟨rfl,rfl,rfl⟩:=he;exact⟨rfl,fun h' n'=>by simp only[cm,hk,Bool.false_eq_true,if_false,Dr,List.map_nil,lz,oU,qO]⟩
   ·split at hc
    case isFalse=>cases hc
    rename_i tf;simp only[Bool.and_eq_true,Bool.not_eq_true']at tf;simp only[cm,hk,Bool.false_eq_true,if_false]at he⊢;split at he
    case h_2=>cases he
    rename_i l h2 hg;obtain⟨rfl,e1⟩:=zZ hρ tf.1 hg;split at he
    case h_2=>cases he
    rename_i es hf;simp only[tf.2,Bool.false_eq_true,if_false,au,aF]at he;obtain⟨rfl,rfl,rfl⟩:=he;refine⟨rfl,fun h' n'=> ?_⟩;simp only[e1,hf,tf.2,Bool.false_eq_true,if_false]
 |_=>simp[cls]at hc
theorem RR(hc:cls X bO o=1)(iK: ∀x args jP,o.op≠ .call ⟨.value x,args,jP⟩)(he:cm X bO o ρ h n=some (v,h1,n1)):h1=h/\ ∀h' n',Sub h h'->cm X bO o ρ h' n'=some (v,h',n'):=by
 obtain⟨dst,op,ty,pos,after,guard⟩:=o;cases op with
 |call c=>
  obtain⟨J7,args,jP⟩:=c;cases J7 with
  |value x=>exact absurd rfl (iK x args jP)
  |builtin b=>cases b<;>simp[cls]at hc
  |_=>simp[cm]at he
 |slice t x lo hi mx=>
  simp only[cm]at he;split at he
  case isFalse=>cases he
  rename_i yY;cases hx:ρ x with
  |sl c es=>
   simp only[hx]at he;cases mx with
   |none=>
    simp only at he;repeat' split at he
    all_goals first
     |(cases he;done)
     |(
      simp only[au,aF]at he;obtain⟨rfl,rfl,rfl⟩:=he;refine⟨rfl,fun h' n' hs=> ?_⟩;simp only[cm];rw[if_pos yY];clear yY;first
       |(simp only[*,if_true];done)
       |(simp_all only[if_true];done)
       |(simp_all;done))
   |some m=>
    simp only at he;repeat' split at he
    all_goals first
     |(cases he;done)
     |(
      simp only[au,aF]at he;obtain⟨rfl,rfl,rfl⟩:=he;refine⟨rfl,fun h' n' hs=> ?_⟩;simp only[cm];rw[if_pos yY];clear yY;first
       |(simp only[*,if_true];done)
       |(simp_all only[if_true];done)
       |(simp_all;done))
  |bU id s m=>
   simp only[hx]at he;cases ea:h id with
   |none=>cases mx<;>simp[ea]at he
   |some ob=>
   cases mx with
   |none=>
    simp only[ea]at he;repeat' split at he
    all_goals first
     |(cases he;done)
     |(
      simp only[au,aF]at he;obtain⟨rfl,rfl,rfl⟩:=he;refine⟨rfl,fun h' n' hs=> ?_⟩;have N0:=hs _ _ ea;simp only[cm];rw[if_pos yY];clear yY ea;first
       |(simp only[*,if_true];done)
       |(simp_all only[if_true];done)
       |(simp_all;done))
   |some y=>
    simp only[ea]at he;repeat' split at he
    all_goals first
     |(cases he;done)
     |(
      simp only[au,aF]at he;obtain⟨rfl,rfl,rfl⟩:=he;refine⟨rfl,fun h' n' hs=> ?_⟩;have N0:=hs _ _ ea;simp only[cm];rw[if_pos yY];clear yY ea;first
       |(simp only[*,if_true];done)
       |(simp_all only[if_true];done)
       |(simp_all;done))
  |str s=>
   simp only[hx]at he;cases mx with
   |none=>
    simp only at he;split at he
    ·rename_i hb;simp only[au,aF]at he;obtain⟨rfl,rfl,rfl⟩:=he;refine⟨rfl,fun h' n' hs=> ?_⟩;simp only[cm];rw[if_pos yY];simp only[hx,hb]
    ·cases he
   |some m=>cases he
  |_=>simp[hx]at he
 |load|indexAddr=>
  unfold cm at he⊢;dsimp only at he⊢;repeat' split at he
  all_goals first
   |(cases he;done)
   |(
    simp only[au,aF]at he;obtain⟨rfl,rfl,rfl⟩:=he;refine⟨rfl,fun h' n' hs=> ?_⟩;first
     |(simp only[*,if_true];done)
     |(simp only[*,hs _ _ (by assumption),if_true];done)
     |(simp[*];done)
     |(simp[*,hs _ _ (by assumption)];done))
 |buildSlice t m ps=>
  simp only[cls]at hc;split at hc
  ·cases hc
  ·split at hc
   ·split at hc<;>cases hc
   ·split at hc<;>cases hc
 |_=>simp[cls]at hc
theorem aap(hc:cls X bO o=2)(he:cm X bO o ρ h n=some (v,h1,n1)): ∃ob,h1=aO h n (some ob)/\ ∀h',cm X bO o ρ h' n=some (v,aO h' n (some ob),n+1):=by
 obtain⟨dst,op,ty,pos,after,guard⟩:=o;cases op with
 |call c=>
  obtain⟨J7,args,jP⟩:=c;cases J7 with
  |value x=>simp[cm]at he
  |builtin b=>cases b<;>simp[cls]at hc
  |_=>simp[cm]at he
 |alloc t=>
  simp only[cm,au,aF]at he;obtain⟨rfl,rfl,rfl⟩:=he;exact⟨_,rfl,fun h'=>rfl⟩
 |box t x=>
  simp only[cm]at he;split at he
  ·rename_i hf;simp only[au,aF]at he;obtain⟨rfl,rfl,rfl⟩:=he;exact⟨_,rfl,fun h'=>by simp only[cm,hf,if_true]⟩
  ·cases he
 |makeSlice t l c=>
  simp only[cm]at he;split at he
  ·rename_i p q hl wm;split at he
   ·rename_i hb;simp only[au,aF]at he;obtain⟨rfl,rfl,rfl⟩:=he;exact⟨_,rfl,fun h'=>by simp only[cm,hl,wm];rw[if_pos hb]⟩
   ·cases he
  ·cases he
 |buildSlice t m ps=>
  simp only[cls]at hc;split at hc
  ·rename_i hk;simp only[cm,hk,if_true]at he;split at he
   ·rename_i es hf;simp only[au,aF]at he;obtain⟨rfl,rfl,rfl⟩:=he;exact⟨_,rfl,fun h'=>by simp only[cm,hk,if_true,hf]⟩
   ·cases he
  ·rename_i hk;split at hc
   ·rename_i hps;split at hc
    ·rename_i qO;have Dr:ps.toList=[]:=by simpa using hps
     simp only[cm,hk,Bool.false_eq_true,if_false,Dr,List.map_nil,lz,oU,qO,if_true,au,aF]at he;obtain⟨rfl,rfl,rfl⟩:=he;exact⟨_,rfl,fun h'=>by simp only[cm,hk,Bool.false_eq_true,if_false,Dr,List.map_nil,lz,oU,qO,if_true]⟩
    ·cases hc
   ·split at hc<;>cases hc
 |_=>simp[cls]at hc
theorem N3{h':aY}(hs:Sub h h'): ∀{d:Nat} {v v':V},bT h d v=some v'->bT h' d v=some v':=by
 intro d;induction d with
 |zero=>
  intro v v' ht;cases v with
  |fn g a b=>cases a<;>cases b<;>simp_all [bT]
  |_=>first|(simp[bT]at ht;done)|(simpa[bT] using ht)
 |succ d ih=>
  have key: ∀{cs l:List V},cn (cs.map (bT h d))=some l->cn (cs.map (bT h' d))=some l:=by
   intro cs;induction cs with
   |nil=>intro l hl;exact hl
   |cons c cs ih2=>
    intro l hl;simp only[List.map_cons]at hl⊢;cases hc:bT h d c with
    |none=>simp[hc,cn]at hl
    |some c'=>
     simp only[hc,cn]at hl;split at hl
     ·rename_i l' xz;simp only[cn,ih hc,ih2 xz];exact hl
     ·cases hl
  intro v v' ht;cases v with
  |agg cs=>
   obtain⟨l,rfl,hl⟩:=pe ht;rw[bT];simp only[key hl]
  |de cs=>
   obtain⟨l,rfl,hl⟩:=vu ht;rw[bT];simp only[key hl]
  |bU id s l=>
   rw[bT]at ht⊢;split at ht
   ·rename_i ob ea;rw[hs _ _ ea];simp only;split at ht
    ·rename_i hle;simp only[hle,if_true];split at ht
     ·rename_i hk;simp only[hk,if_true];split at ht
      ·rename_i l' xz;simp only[key xz];exact ht
      ·cases ht
     ·rename_i hk;simp only[hk];exact ht
    ·cases ht
   ·cases ht
  |fn g a b=>cases a<;>cases b<;>simp_all [bT]
  |_=>first|(simp[bT]at ht;done)|(simpa[bT] using ht)
theorem uG{h':aY}(hs:Sub h h'){d:Nat}: ∀{l r:List V},cn (l.map (bT h d))=some r->cn (l.map (bT h' d))=some r
 | [],_,hl=>hl
 |c::cs,r,hl=>by
  simp only[List.map_cons]at hl⊢;cases hc:bT h d c with
  |none=>simp[hc,cn]at hl
  |some c'=>
   simp only[hc,cn]at hl;split at hl
   ·rename_i l' xz;simp only[cn,N3 hs hc,uG hs xz];exact hl
   ·cases hl
end
section
variable {X:Env} {C:iz} {bO:FuncId} {dst:Option Nat} {g:FuncId} {args:List V} {S S1:St}
theorem aec(he:rU X C bO dst g args S=some S1): ∃v,S1=({S with h:=S1.h,n:=S1.n}:St).set dst v/\
  ∀S':St,S'.h=S.h->S'.n=S.n->rU X C bO dst g args S'=some (({S' with h:=S1.h,n:=S1.n}:St).set dst v):=by
 unfold rU at he⊢;have hn: ∀(S:St) v,(S.set dst v).n=S.n:=fun S v=>fa S dst v;have hh: ∀(S:St) v,(S.set dst v).h=S.h:=fun S v=>dJ S dst v;split at he
 case h_2=>cases he
 rename_i id rest;split at he
 case h_2=>cases he
 rename_i ob ea;split at he
 case h_2=>cases he
 rename_i e Kd;split at he
 case isFalse=>cases he
 rename_i hk;split at he
 case h_2=>cases he
 rename_i R hR;split at he
 case h_2=>cases he
 rename_i bez h1 hg;split at he
 case h_2=>cases he
 rename_i v h n hc;split at he
 case h_2=>cases he
 rename_i kk r rs wP;simp only[au]at he;subst he;refine⟨_,by rw[hh,hn],fun S' e1 e2=> ?_⟩;simp only[e1,e2,ea,Kd,hk,if_true,hR,hg,hc,wP,hh,hn]
theorem RS(he:kN X C bO dst g args S=some S1): ∃v,S1=({S with h:=S1.h,n:=S1.n}:St).set dst v/\
  ∀S':St,S'.h=S.h->S'.n=S.n->kN X C bO dst g args S'=some (({S' with h:=S1.h,n:=S1.n}:St).set dst v):=by
 unfold kN at he⊢;have hn: ∀(S:St) v,(S.set dst v).n=S.n:=fun S v=>fa S dst v;have hh: ∀(S:St) v,(S.set dst v).h=S.h:=fun S v=>dJ S dst v;split at he
 case h_2=>cases he
 rename_i bez h1 hg;split at he
 case h_2=>cases he
 rename_i v h n hc;split at he
 case h_2=>cases he
 rename_i r hR;simp only[au]at he;subst he;refine⟨_,by rw[hh,hn],fun S' e1 e2=> ?_⟩;simp only[e1,e2,hg,hc,hR,hh,hn]
theorem RU(he:eK X C bO dst g args S=some S1): ∃v,S1=({S with h:=S1.h,n:=S1.n}:St).set dst v/\
  ∀S':St,S'.h=S.h->S'.n=S.n->eK X C bO dst g args S'=some (({S' with h:=S1.h,n:=S1.n}:St).set dst v):=by
 unfold eK at he⊢;have hn: ∀(S:St) v,(S.set dst v).n=S.n:=fun S v=>fa S dst v;have hh: ∀(S:St) v,(S.set dst v).h=S.h:=fun S v=>dJ S dst v;split at he
 ·rename_i t mM;split at he
  case h_2=>cases he
  split at he
  case h_2=>cases he
  rename_i es kx su;split at he
  ·cases he
  rename_i ku;simp only[au]at he;subst he;refine⟨_,by rw[hh,hn];rfl,fun S' h1 h2=> ?_⟩;simp only[h1,su];rw[if_neg ku];simp only[St.new,h1,h2,hh,hn]
 ·split at he
  ·rename_i hb;split at he
   case h_2=>cases he
   rename_i v h n hc;simp only[au]at he;subst he;refine⟨v,by rw[hh,hn],fun S' h1 h2=> ?_⟩;simp only[hb,if_true,h1,h2,hc,hh,hn]
  rename_i hb;split at he
  ·rename_i rC;obtain⟨v,e1,e2⟩:=aec he;refine⟨v,e1,fun S' h1 h2=> ?_⟩;simp only[hb,if_false,Bool.false_eq_true,rC,if_true];exact e2 S' h1 h2
  rename_i rC;split at he
  ·rename_i xK;obtain⟨v,e1,e2⟩:=RS he;refine⟨v,e1,fun S' h1 h2=> ?_⟩;simp only[hb,if_false,Bool.false_eq_true,rC,xK,if_true];exact e2 S' h1 h2
  ·rename_i xK;split at he
   case h_2=>cases he
   rename_i bez has;split at he
   ·rename_i qO;split at he
    case h_2=>cases he
    rename_i v h n hc;split at he
    ·cases he
    rename_i lW;simp only[au]at he;subst he;refine⟨v,by rw[hh,hn],fun S' h1 h2=> ?_⟩;simp only[hb,rC,xK,Bool.false_eq_true,if_false,h1,has,qO,if_true,h2,hc,hh,hn];rw[if_neg lW]
   ·rename_i qO;split at he
    case h_2=>cases he
    rename_i v h n hc;split at he
    case h_2=>cases he
    rename_i v' C9;split at he
    ·cases he
    rename_i ku;simp only[au]at he;subst he;refine⟨v'.jm,by rw[hh,hn],fun S' h1 h2=> ?_⟩;simp only[hb,rC,xK,Bool.false_eq_true,if_false,h1,has,qO,hc,C9,hh,hn];rw[if_neg ku,<-h1,<-h2]
theorem N4(hp:((X.clone g).isNone&& !X.fw g&& !X.eJ g&& (dst.elim [] (X.mask bO)).isEmpty&& !dst.any (X.mX bO))=true)(he:eK X C bO dst g args S=some S1): ∃v,S1=S.set dst v/\
  ∀S':St,Sub S.h S'.h->eK X C bO dst g args S'=some (S'.set dst v):=by
 simp only[Bool.and_eq_true,Bool.not_eq_true',Option.isNone_iff_eq_none]at hp;obtain⟨⟨⟨⟨mM,hb⟩,rC⟩,xK⟩,qO⟩:=hp;unfold eK at he⊢;simp only[mM,hb,rC,qO,xK,Bool.not_true,Bool.false_and,Bool.false_eq_true,if_false]at he⊢;split at he
 case h_2=>cases he
 rename_i bez has;split at he
 case h_2=>cases he
 rename_i v h n hc;split at he
 case h_2=>cases he
 rename_i v' C9;split at he
 ·cases he
 rename_i ku;simp only[au]at he;subst he;refine⟨v'.jm,rfl,fun S' hs=> ?_⟩;simp only[uG hs has,hc,C9];rw[if_neg ku]
end
theorem N5{X:Env}{C:iz}{bO:FuncId}{dst:Option Nat}{g:FuncId}{S S1:St}(hp:((X.clone g).isNone&& !X.fw g&& !X.eJ g&& (dst.elim [] (X.mask bO)).isEmpty&& !dst.any (X.mX bO))=true)(he:eK X C bO dst g [] S=some S1): ∃v,S1=S.set dst v/\
  ∀S':St,eK X C bO dst g [] S'=some (S'.set dst v):=by
 simp only[Bool.and_eq_true,Bool.not_eq_true',Option.isNone_iff_eq_none]at hp;obtain⟨⟨⟨⟨mM,hb⟩,rC⟩,xK⟩,qO⟩:=hp;unfold eK at he⊢;simp only[mM,hb,rC,qO,xK,Bool.not_true,Bool.false_and,Bool.false_eq_true,if_false,List.map_nil,cn]at he⊢;split at he
 case h_2=>cases he
 rename_i v h n hc;split at he
 case h_2=>cases he
 rename_i v' C9;split at he
 ·cases he
 rename_i ku;simp only[au]at he;subst he;refine⟨v'.jm,rfl,fun S'=> ?_⟩;rw[if_neg ku]
section
variable {X:Env} {C:iz} {bO:FuncId} {n0 j:Nat} {o:Oper} {S S1:St}
def Alike(o:Oper)(S S':St):Prop:= ∀x∈o.op.operands.toList,S'.ev x=S.ev x
theorem mG(iK: ∀x args jP,o.op≠ .call ⟨.value x,args,jP⟩):dH X C bO n0 j o S=(match cm X bO o S.ev S.h (n0+j) with
  |some (v,h,_)=>some (({S with h:=h}:St).set o.dst v)
  |none=>none):=by
 unfold dH;split
 ·rename_i x args jP ho;exact absurd ho (iK x args jP)
 ·rfl
theorem akl(hc:cls X bO o=0)(he:dH X C bO n0 j o S=some S1): ∃v,S1=S.set o.dst v/\ ∀S',Alike o S S'->dH X C bO n0 j o S'=some (S'.set o.dst v):=by
 by_cases oW: ∃x args jP,o.op= .call ⟨.value x,args,jP⟩
 ·obtain⟨x,args,jP,ho⟩:=oW;simp only[cls,ho]at hc;cases x with
  |func g=>
   simp only at hc;split at hc
   ·rename_i hp;split at hc
    ·rename_i hem;have Dr:args.toList=[]:=by simpa using hem
     have xA: ∀S:St,S.ev (.func g)= .fn g [] []:=fun _=>rfl;unfold dH at he;simp only[ho,xA,Dr,List.map_nil,List.append_nil]at he;obtain⟨v,h1,h2⟩:=N5 hp he;refine⟨v,h1,fun S' ha=> ?_⟩;unfold dH;simp only[ho,xA,Dr,List.map_nil,List.append_nil];exact h2 S'
    ·cases hc
   ·cases hc
  |_=>cases hc
 have iK: ∀x args jP,o.op≠ .call ⟨.value x,args,jP⟩:=fun x args jP ho=>oW ⟨x,args,jP,ho⟩;rw[mG iK]at he;split at he
 case h_2=>cases he
 rename_i v h m xA;simp only[au]at he;subst he;obtain⟨rfl,h2⟩:=core0 (fun _=>rfl) hc xA;refine⟨v,rfl,fun S' ha=> ?_⟩;rw[mG iK,ov ha,h2]
theorem akm(hc:cls X bO o=1)(he:dH X C bO n0 j o S=some S1): ∃v,S1=S.set o.dst v/\ ∀S',Alike o S S'->Sub S.h S'.h->dH X C bO n0 j o S'=some (S'.set o.dst v):=by
 by_cases oW: ∃x args jP,o.op= .call ⟨.value x,args,jP⟩
 ·obtain⟨x,args,jP,ho⟩:=oW;simp only[cls,ho]at hc;cases x with
  |func g=>
   simp only at hc;split at hc
   ·rename_i hp;split at hc
    ·cases hc
    have xA: ∀S:St,S.ev (.func g)= .fn g [] []:=fun _=>rfl;unfold dH at he;simp only[ho,xA]at he;obtain⟨v,h1,h2⟩:=N4 hp he;refine⟨v,h1,fun S' ha hs=> ?_⟩;have fJ:args.toList.map S'.ev=args.toList.map S.ev:=uF fun x hx=>ha x (by simp[ho,Op.operands,Call.operands]at hx⊢;exact .inr hx);unfold dH;simp only[ho,xA,fJ];exact h2 S' hs
   ·cases hc
  |_=>cases hc
 ·have iK: ∀x args jP,o.op≠ .call ⟨.value x,args,jP⟩:=fun x args jP ho=>oW ⟨x,args,jP,ho⟩;rw[mG iK]at he;split at he
  case h_2=>cases he
  rename_i v h m xA;simp only[au]at he;subst he;obtain⟨rfl,h2⟩:=RR hc iK xA;refine⟨v,rfl,fun S' ha hs=> ?_⟩;rw[mG iK,ov ha,h2 _ _ hs]
theorem akn(hc:cls X bO o=2)(he:dH X C bO n0 j o S=some S1): ∃v ob,S1=({S with h:=aO S.h (n0+j) (some ob)}:St).set o.dst v/\
  ∀S',Alike o S S'->dH X C bO n0 j o S'=some (({S' with h:=aO S'.h (n0+j) (some ob)}:St).set o.dst v):=by
 have iK: ∀x args jP,o.op≠ .call ⟨.value x,args,jP⟩:=by
  intro x args jP ho;simp only[cls,ho]at hc;cases x with
  |func g=>
   simp only at hc;split at hc
   ·split at hc<;>cases hc
   ·cases hc
  |_=>cases hc
 rw[mG iK]at he;split at he
 case h_2=>cases he
 rename_i v h m xA;simp only[au]at he;subst he;obtain⟨ob,rfl,h2⟩:=aap hc xA;refine⟨v,ob,rfl,fun S' ha=> ?_⟩;rw[mG iK,ov ha,h2]
theorem ako(he:dH X C bO n0 j o S=some S1): ∃v,S1=({S with h:=S1.h,n:=S1.n}:St).set o.dst v/\
  ∀S',Alike o S S'->S'.h=S.h->S'.n=S.n->dH X C bO n0 j o S'=some (({S' with h:=S1.h,n:=S1.n}:St).set o.dst v):=by
 by_cases oW: ∃x args jP,o.op= .call ⟨.value x,args,jP⟩
 ·obtain⟨x,args,jP,ho⟩:=oW;unfold dH at he;simp only[ho]at he;split at he
  case h_2=>cases he
  rename_i g first AI hx
  obtain⟨v,h1,h2⟩:=RU he;refine⟨v,h1,fun S' ha hh hn=> ?_⟩;have fJ:args.toList.map S'.ev=args.toList.map S.ev:=uF fun x hx=>ha x (by simp[ho,Op.operands,Call.operands]at hx⊢;exact .inr hx);have vz:S'.ev x= .fn g first AI:=by rw[<-hx];exact ha x (by simp[ho,Op.operands,Call.operands])
  unfold dH;simp only[ho,vz,fJ];exact h2 S' hh hn
 ·have iK: ∀x args jP,o.op≠ .call ⟨.value x,args,jP⟩:=fun x args jP ho=>oW ⟨x,args,jP,ho⟩;rw[mG iK]at he;split at he
  case h_2=>cases he
  rename_i v h m xA;simp only[au]at he;subst he;refine⟨v,by rw[dJ,fa],fun S' ha hh hn=> ?_⟩;rw[mG iK,ov ha,hh,xA,dJ,fa,<-hn]
end
def Env.base(X:Env)(g:FuncId):Nat:=if X.eJ g=true then 1 else 0
def rW(X:Env):Prop:= ∀f key N,X.norm f key=some N->N.ok=true/\X.low f=true/\(X.eJ f=true->N.base=true)
theorem Hk(S:St)(N:Norm)(hx:aY): ∀(L:List Nat) (t:Nat),fixF S N hx L t=if L.contains t then ub (vo t N.roots) (S.f t) (Dd S N hx (S.f t)) else .bad
 | [],t=>rfl
 |i::L,t=>by
  simp only[fixF,aO,List.contains_cons];by_cases e:t=i
  ·subst e;simp only[if_true,beq_self_eq_true,Bool.true_or]
  ·rw[Hk S N hx L t];have:(t==i)=false:=by simpa using e
   simp only[e,if_false,this,Bool.false_or]
theorem xX(S:St)(N:Norm)(hx:aY): ∀(L:List Gr) (id:Nat),JM S N hx L id=match kF id L with|some a=>a.ob S N hx|none=>none
 | [],id=>rfl
 |a::L,id=>by
  simp only[JM,aO,kF];by_cases e:id=a.new
  ·subst e;simp
  ·rw[xX S N hx L id];have: ¬a.new=id:=fun h=>e h.symm;simp only[e,this,if_false]
theorem tm: ∀{L:List Gr} {id:Nat} {a:Gr},kF id L=some a->a∈L/\a.new=id
 | [],id,a,h=>by simp[kF]at h
 |b::L,id,a,h=>by
  simp only[kF]at h;split at h
  ·simp only[au]at h;subst h;rename_i e;exact⟨List.mem_cons_self ..,e⟩
  ·have:=tm h;exact⟨List.mem_cons_of_mem _ this.1,this.2⟩
theorem Eb{S:St}{id:Nat}: ∀{L:List Gr} {j:Nat},look S id L=some j-> ∃a,a∈L/\(a.loc.val S).root=some id/\a.new=j
 | [],j,h=>by simp[look]at h
 |b::L,j,h=>by
  simp only[look]at h;split at h
  ·rename_i e;simp only[au]at h;exact⟨b,List.mem_cons_self ..,e,h⟩
  ·obtain⟨a,h1,h2⟩:=Eb h;exact⟨a,List.mem_cons_of_mem _ h1,h2⟩
structure Norm.Ok (N:Norm):Prop where
 one:1<=N.n
 new: ∀a,a∈N.roots->a.new<N.n/\ ∃b,kF a.new N.roots=some b/\b.loc=a.loc
theorem Norm.Kg{N:Norm}(h:N.ok=true):N.Ok:=by
 unfold Norm.ok at h;simp only[Bool.and_eq_true,decide_eq_true_eq]at h;obtain⟨h2,h4⟩:=h;refine⟨h2,fun a ha=> ?_⟩;have:=List.all_eq_true.1 h4 a ha;simp only[Bool.and_eq_true,decide_eq_true_eq]at this;refine⟨this.1,?_⟩;have h5:=this.2;cases hb:kF a.new N.roots with
 |none=>rw[hb]at h5;cases h5
 |some b=>
  rw[hb]at h5;exact⟨b,rfl,by simpa using h5⟩
theorem BQ{N:Norm}{S:St}(hb:N.base=true)(h:N.first S=true): ∃a,kF 0 N.roots=some a/\(a.loc.val S).root=some 0:=by
 unfold Norm.first at h;rw[hb]at h;cases hr:N.roots with
 |nil=>rw[hr]at h;cases h
 |cons a r=>
  rw[hr]at h;simp only[Bool.and_eq_true,beq_iff_eq]at h;exact⟨a,by simp[kF,h.1],h.2⟩
theorem N6{N:Norm}{S S':St}(hN:N.ok=true)(h:N.run S=some S'){m:Nat}(hm:m<=if N.base=true then 1 else 0):m<=S'.n/\ ∀id,id<m->S.h id=none->S'.h id=none:=by
 have K:=Norm.Kg hN;unfold Norm.run at h;split at h
 case isFalse=>cases h
 rename_i hc;simp only[Bool.and_eq_true]at hc;simp only[au]at h;subst h;have rX:m<=1:=by split at hm<;>omega
 refine⟨Nat.le_trans rX K.one,fun id dg hn=> ?_⟩;have:id=0:=by omega
 subst this;have hb:N.base=true:=by
  cases hb:N.base with
  |true=>rfl
  |false=>rw[hb]at hm;simp at hm;omega
 obtain⟨a,h1,h2⟩:=BQ hb hc.2;simp only;rw[xX,h1];simp only;unfold Gr.ob JL;split
 ·rename_i hv;rw[hv]at h2;cases h2
 ·rw[h2];simp only[hn,Bo]
theorem wR{X:Env}(hN:rW X){f key:Nat}{S S':St}(h:mj X f key S=some S'){m:Nat}(hm:X.low f=true->m<=Env.base X f)(hmn:m<=S.n):m<=S'.n/\ ∀id,id<m->S.h id=none->S'.h id=none:=by
 unfold mj at h;cases hc:X.norm f key with
 |none=>rw[hc]at h;simp only[au]at h;subst h;exact⟨hmn,fun _ _ h=>h⟩
 |some N=>
  rw[hc]at h;obtain⟨h1,h2,h3⟩:=hN f key N hc;refine N6 h1 h (Nat.le_trans (hm h2) ?_);unfold Env.base;by_cases rC:X.eJ f=true
  ·rw[if_pos rC,if_pos (h3 rC)];exact Nat.le_refl _
  ·rw[if_neg rC];exact Nat.zero_le _
def Norm.sig(N:Norm)(S:St)(σ:gH):gH:=fun id=>
 match kF id N.roots with
 |some a=>match(a.loc.val S).root with
  |some j=>σ j
  |none=>none
 |none=>none
section
variable {w:World} {I J:Nat->Prop} {σ σ':gH}
theorem RV{v:V}{u:Value}(hr:cC w I σ v u):cC w I σ v.wide u:=by
 cases v with
 |sl c es=>
  simp only[V.wide,cC]at hr⊢;obtain⟨a,cap,h1,h2,h3,h4,h5⟩:=hr;exact⟨a,cap,h1,h2,h3,fun hc=>(by cases hc),h5⟩
 |_=>exact hr
theorem N7{α:Type}{f:α->Option Nat}{l:List α}(h:rS (l.map f)=true){a b:α}(ha:a∈l)(hb:b∈l){j:Nat}(h1:f a=some j)(h2:f b=some j):a=b:=by
 obtain⟨p,hp⟩:=List.getElem?_of_mem ha;obtain⟨q,hq⟩:=List.getElem?_of_mem hb;have:=vy h (i:=p) (j:=q) (x:=j) (by rw[List.getElem?_map,hp];simp[h1]) (by rw[List.getElem?_map,hq];simp[h2]);subst this;rw[hp]at hq;simpa using hq
theorem RW{N:Norm}{S S':St}{act:Act}(hN:N.ok=true)(jt:N.run S=some S')(R:Rel w I σ S.h)(F:ir w I σ S.f act)(fr:jY σ S.h S.n):
  let J:=fun b=>I b\/gm σ (ep S.h (N.pY S)) b
  Rel w J (N.sig S σ) S'.h/\ir w J (N.sig S σ) S'.f act/\jY (N.sig S σ) S'.h S'.n/\(∀b,gm (N.sig S σ) S'.h b->gm σ S.h b):=by
 intro J;have K:=Norm.Kg hN;unfold Norm.run at jt;split at jt
 case isFalse=>cases jt
 rename_i RG;simp only[Bool.and_eq_true]at RG;have QK:=RG.1;simp only[au]at jt;subst jt;simp only;have NN: ∀b,I b->J b:=fun b hb=> .inl hb;have EJ:Ext w I eA w J eA:=⟨fun _ _=>rfl,fun _ c _ fz hh=>⟨c,fz,hh,rfl⟩,NN,fun _ _ hh=>hh⟩;have MF:Rel w I σ (ep S.h (N.pY S)):=R.sub fun id ob h=>(jv h).1;have him: ∀c c' x,bT (ep S.h (N.pY S)) depth c=some c'->cC w I σ c x->cC w J eA c' x:=fun c c' x ht hx=>rD MF NN (fun b hb=> .inr hb) depth c c' x ht hx;have BK: ∀a,a∈N.roots-> ∀j,(a.loc.val S).root=some j->some j∈N.pY S:=fun a ha j hv=>by
  unfold Norm.pY;exact List.mem_map.2 ⟨a,ha,hv⟩
 have akp: ∀a b,a∈N.roots->b∈N.roots-> ∀j,(a.loc.val S).root=some j->(b.loc.val S).root=some j->a=b:=fun a b ha hb j h1 h2=>N7 QK ha hb h1 h2;have aaq: ∀a,a∈N.roots-> ∀j,(a.loc.val S).root=some j->N.sig S σ a.new=σ j:=by
  intro a ha j hv;obtain⟨h1,b,h3,h4⟩:=K.new a ha;unfold Norm.sig;rw[h3];simp only[h4,hv]
 have xY: ∀id j,look S id N.roots=some j->N.sig S σ j=σ id:=by
  intro id j h;obtain⟨a,h1,h2,rfl⟩:=Eb h;exact aaq a h1 id h2
 have Kh: ∀a,a∈N.roots-> ∀j ob b o k,(a.loc.val S).root=some j->S.h j=some ob->σ j=some (b,o,k)-> ¬J b:=by
  intro a ha j ob b o k hv ho hs;rintro(hx|⟨i,ob2,o2,k2,g1,g2⟩)
  ·exact(R.owned ⟨j,ob,o,k,ho,hs⟩).1 hx
  ·have g3:=jv g1;have:i=j:=R.apart i j ob2 ob b o2 k2 o k g3.1 ho g2 hs;subst this;exact g3.2 (BK a ha i hv)
 have MM: ∀c x,cC w I σ c x->cC w J (N.sig S σ) (fixC S N (ep S.h (N.pY S)) c) x:=by
  intro c x hx;unfold fixC;split
  ·rename_i id s l;split
   ·rename_i j hj;simp only[cC]at hx⊢;rw[xY id j hj];exact hx
   ·split
    ·rename_i v hv;exact(him _ v x hv hx).ext Ext.free
    ·simp[cC]
  ·rename_i id i f;split
   ·rename_i j hj;simp only[cC]at hx⊢;rw[xY id j hj];exact hx
   ·simp[cC]
  ·split
   ·rename_i h;exact(RV ((sv h hx).ext EJ)).ext Ext.free
   ·simp[cC]
 have aar: ∀c x,cC w I σ c x->cC w J (N.sig S σ) (E3 S N (ep S.h (N.pY S)) c) x:=by
  intro c x hx;unfold E3;split
  ·rename_i cs;simp only[cC]at hx⊢;obtain⟨us,rfl,hc⟩:=hx;refine⟨us,rfl,?_⟩;rw[dh]at hc⊢;refine⟨by rw[List.length_map];exact hc.1,fun j c u' nn hu=> ?_⟩;rw[List.getElem?_map]at nn;cases v7:cs[j]? with
   |none=>rw[v7]at nn;cases nn
   |some c0=>
    rw[v7]at nn;simp only[Option.map_some,au]at nn;subst nn;have:=hc.2 j c0 u' v7 hu;exact⟨this.1,MM c0 u' this.2⟩
  ·exact MM c x hx
 have RX: ∀cs us,dU w I σ cs us->dU w J (N.sig S σ) (cs.map (E3 S N (ep S.h (N.pY S)))) us:=by
  intro cs us hc;rw[kG]at hc⊢;refine⟨by rw[List.length_map];exact hc.1,fun j c u' nn hu=> ?_⟩;rw[List.getElem?_map]at nn;cases v7:cs[j]? with
  |none=>rw[v7]at nn;cases nn
  |some c0=>
   rw[v7]at nn;simp only[Option.map_some,au]at nn;subst nn;exact aar c0 u' (hc.2 j c0 u' v7 hu)
 have akq: ∀c x,cC w I σ c x->cC w J (N.sig S σ) (Dd S N (ep S.h (N.pY S)) c) x:=by
  intro c x hx;unfold Dd;split
  ·simp only[cC]at hx⊢;obtain⟨us,rfl,hc⟩:=hx;exact⟨us,rfl,RX _ _ hc⟩
  ·simp only[cC]at hx⊢;obtain⟨us,vs,rfl,h1,h2⟩:=hx;exact⟨us,vs,rfl,RX _ _ h1,RX _ _ h2⟩
  ·rename_i cs;simp only[cC]at hx⊢;obtain⟨b,o,h1,h2,h3⟩:=hx;exact⟨b,o,h1,NN b h2,mL.ext' cs b o EJ h2 h3⟩
  ·exact aar c x hx
 have RY: ∀(o:Option Nat) v w' x,cC w I σ v x->cC w J (N.sig S σ) w' x->cC w J (N.sig S σ) (ub o v w') x:=by
  intro o v w' x h1 h2;unfold ub;split
  ·split
   ·exact G8 rfl h1
   ·exact h2
  ·exact h2
 have aed: ∀(id:Nat) (cs:List V) (b o j0:Nat),(wh S N (ep S.h (N.pY S)) id j0 cs).length=cs.length/\
   (yQ w I σ cs b o->yQ w J (N.sig S σ) (wh S N (ep S.h (N.pY S)) id j0 cs) b o):=by
  intro id cs b o;induction cs generalizing o with
  |nil=>intro j0;exact⟨rfl,fun _ j c hj=>by simp[wh]at hj⟩
  |cons c cs ih=>
   intro j0;obtain⟨g1,g2⟩:=ih (o+1) (j0+1);refine⟨by simp[wh,g1],fun yZ j c' hj=> ?_⟩;cases j with
   |zero=>
    simp only[wh,List.getElem?_cons_zero,au]at hj;obtain⟨u,k1,k2,k3⟩:=yZ 0 c (by simp);refine⟨u,k1,k2,?_⟩;subst hj;exact RY _ _ _ _ k3 (MM c u k3)
   |succ j=>
    simp only[wh,List.getElem?_cons_succ]at hj;have asn:yQ w I σ cs b (o+1):=fun j c' hj=>by
     have:=yZ (j+1) c' (by simpa using hj);rwa[show o+(j+1)=o+1+j by omega]at this
    have:=g2 asn j c' hj;rwa[show o+(j+1)=o+1+j by omega]
 have akr: ∀(id:Nat) (e:V) (b o:Nat),(∀cs,e≠ .de cs)->(GD S N (ep S.h (N.pY S)) id e).cells.length=e.cells.length/\(yQ w I σ e.cells b o->yQ w J (N.sig S σ) (GD S N (ep S.h (N.pY S)) id e).cells b o):=by
  intro id e b o BH;by_cases hx: ∃cs,e= .agg cs
  ·obtain⟨cs,rfl⟩:=hx;simp only[GD,V.cells];exact aed id cs b o 0
  ·have AL: ∀cs,e≠ .agg cs:=fun cs h=>hx ⟨cs,h⟩;have Hl:GD S N (ep S.h (N.pY S)) id e=ub (nd S id 0 N.roots) e (fixC S N (ep S.h (N.pY S)) e):=by
    cases e with
    |agg cs=>exact absurd rfl (AL cs)
    |_=>rfl
   have Xo: ∀cs,GD S N (ep S.h (N.pY S)) id e≠ .agg cs:=by
    rw[Hl];intro cs hh;have wO: ∀cs,fixC S N (ep S.h (N.pY S)) e≠ .agg cs:=by
     intro cs hh;unfold fixC at hh;split at hh
     ·split at hh
      ·cases hh
      ·split at hh
       ·rename_i v hv;exact vx hv (by intro cs e;cases e) cs hh
       ·cases hh
     ·split at hh<;>cases hh
     ·split at hh
      ·cases e<;>simp[V.wide]at hh;exact AL _ rfl
      ·cases hh
    unfold ub at hh;split at hh
    ·split at hh
     ·cases hh
     ·exact wO cs hh
    ·exact wO cs hh
   rw[kB Xo,kB AL];refine⟨rfl,fun yZ j c hj=> ?_⟩;cases j with
   |succ j=>simp at hj
   |zero=>
    simp at hj;subst hj;obtain⟨u,k1,k2,k3⟩:=yZ 0 e (by simp);refine⟨u,k1,k2,?_⟩;rw[Hl];exact RY _ _ _ _ k3 (MM e u k3)
 have MN: ∀a ob,a∈N.roots->kF a.new N.roots=some a->a.ob S N (ep S.h (N.pY S))=some ob->GN w J (N.sig S σ) a.new ob/\(∀b o k,N.sig S σ a.new=some (b,o,k)-> ∃j C5,(a.loc.val S).root=some j/\S.h j=some C5/\σ j=some (b,o,k)):=by
  intro a ob ha Xo ea;unfold Gr.ob JL at ea;split at ea
  ·rename_i hv;simp only[au]at ea;subst ea;have hz:N.sig S σ a.new=none:=by
    unfold Norm.sig;rw[Xo];simp only[hv,V.root]
   exact⟨.inl ⟨rfl,hz⟩,fun b o k hs=>by rw[hz]at hs;cases hs⟩
  ·split at ea
   case h_2=>cases ea
   rename_i j hv;have hz:=aaq a ha j hv;cases ho:S.h j with
   |none=>rw[ho]at ea;simp[Bo]at ea
   |some C5=>
    rw[ho]at ea;refine⟨?_,fun b o k hs=>⟨j,C5,hv,ho,by rw[<-hz];exact hs⟩⟩;unfold Bo at ea;have hR:=R.obj j C5 ho;simp only at ea;split at ea
    ·rename_i hk;split at ea
     ·rename_i e he;simp only[au]at ea;subst ea;rcases hR with⟨h1,_⟩|⟨b,o,c,el,hs,hi,hb,hle,dV⟩
      ·rw[he]at h1;cases h1
      ·rw[he,hk]at dV;rw[he]at hle;rw[jR]at dV;refine .inr ⟨b,o,c,el,by rw[hz];exact hs,Kh a ha j C5 b o C5.k hv ho hs,hb,by simpa using hle,?_⟩;simp only[kH,if_true]at dV⊢;rw[jR];by_cases aks: ∃cs,e= .de cs
       ·obtain⟨cs,rfl⟩:=aks;exfalso;obtain⟨u,_,k2,k3⟩:=dV.2.1 0 (.de cs) (by simp[V.cells]);simp only[cC]at k3;obtain⟨us,rfl,_⟩:=k3;simp[Value.oneCell']at k2
       ·obtain⟨g1,g2⟩:=akr j e b o (fun cs h=>aks ⟨cs,h⟩);exact⟨by rw[g1];exact dV.1,g2 dV.2.1,by simp[cQ]⟩
     ·split at ea
      case isFalse=>cases ea
      rename_i kn;simp only[au]at ea;subst ea;rcases hR with⟨h1,h2⟩|⟨b,o,c,el,hs,hi,hb,hle,dV⟩
      ·exact .inl ⟨h1,by rw[hz];exact h2⟩
      ·refine .inr ⟨b,o,c,el,by rw[hz];exact hs,Kh a ha j C5 b o C5.k hv ho hs,hb,hle,?_⟩;rw[hk]at dV⊢;exact((GS kn dV).lJ EJ rfl).lJ Ext.free rfl
    ·rename_i hk;simp only[au]at ea;subst ea;have tP:C5.dG=false:=by simpa using hk
     rcases hR with⟨h1,h2⟩|⟨b,o,c,el,hs,hi,hb,hle,dV⟩
     ·exact .inl ⟨h1,by rw[hz];exact h2⟩
     ·refine .inr ⟨b,o,c,el,by rw[hz];exact hs,Kh a ha j C5 b o C5.k hv ho hs,hb,hle,?_⟩;rw[tP]at dV⊢;exact dV.lJ EJ rfl
 have MO: ∀id ob,JM S N (ep S.h (N.pY S)) N.roots id=some ob-> ∃a,a∈N.roots/\a.new=id/\kF a.new N.roots=some a/\a.ob S N (ep S.h (N.pY S))=some ob:=by
  intro id ob ho;rw[xX]at ho;cases hz:kF id N.roots with
  |some a=>
   rw[hz]at ho;obtain⟨h1,h2⟩:=tm hz;exact⟨a,h1,h2,by rw[h2];exact hz,ho⟩
  |none=>rw[hz]at ho;cases ho
 have eX: ∀b,gm σ (ep S.h (N.pY S)) b->gm σ S.h b:=fun b ⟨i,ob,o,k,h1,h2⟩=>⟨i,ob,o,k,(jv h1).1,h2⟩;have akt: ∀id,N.n<=id->kF id N.roots=none:=fun id dg=>by
  cases hz:kF id N.roots with
  |none=>rfl
  |some a=>
   obtain⟨h1,h2⟩:=tm hz;have:=(K.new a h1).1;omega
 refine⟨⟨fun b hb=> ?_,fun id ob ho=> ?_,fun id nj ob lU b o k o' k' h1 h2 h3 h4=> ?_⟩,fun t=> ?_,fun id dg=>⟨?_,?_⟩,fun b hb=> ?_⟩
 ·rcases hb with hb|hb
  ·exact R.dy b hb
  ·exact R.jJ (eX b hb)
 ·obtain⟨a,g1,rfl,g2,g3⟩:=MO id ob ho;exact(MN a ob g1 g2 g3).1
 ·obtain⟨a,g1,rfl,g2,g3⟩:=MO id ob h1;obtain⟨j,C5,m1,m2,m3⟩:=(MN a ob g1 g2 g3).2 b o k h3;obtain⟨a',g1',rfl,g2',g3'⟩:=MO nj lU h2;obtain⟨j',aso,m1',m2',m3'⟩:=(MN a' lU g1' g2' g3').2 b o' k' h4;have:j=j':=R.apart j j' C5 aso b o k o' k' m2 m2' m3 m3';subst this;rw[akp a a' g1 g1' j m1 m1']
 ·rw[Hk];split
  case isFalse=>simp[cC]
  exact RY _ _ _ _ (F t) (akq _ _ (F t))
 ·rw[xX,akt id dg]
 ·unfold Norm.sig;rw[akt id dg]
 ·obtain⟨id,ob,o,k,h1,h2⟩:=hb;obtain⟨a,g1,rfl,g2,g3⟩:=MO id ob h1;obtain⟨j,C5,m1,m2,m3⟩:=(MN a ob g1 g2 g3).2 b o k h2;exact⟨j,C5,o,k,m2,m3⟩
end
theorem zi: ∀{vs zg:List V} {h h':aY},mY h vs=some (zg,h')-> ∀id,h id=none->h' id=none
 | [],zg,h,h',hg,id,dg=>by
  simp only[mY,au,aF]at hg;rw[<-hg.2];exact dg
 |v::ps,zg,h,h',hg,id,dg=>by
  simp only[mY]at hg;split at hg
  ·rename_i v' h1 hg1;split at hg
   ·rename_i h2 A8;simp only[au,aF]at hg;rw[<-hg.2];exact zi A8 id (BP hg1 id dg)
   ·cases hg
  ·cases hg
section
variable {X:Env} {C:iz} {bO:FuncId}
theorem N8(hC:ox X C){dst:Option Nat}{g:FuncId}{args:List V}{S S1:St}(he:eK X C bO dst g args S=some S1):S.n<=S1.n/\ ∀id,id<S.n->S.h id=none->S1.h id=none:=by
 unfold eK at he;split at he
 ·split at he
  case h_2=>cases he
  split at he
  case h_2=>cases he
  split at he
  ·cases he
  simp only[au]at he;subst he;rw[dJ,fa];refine⟨by simp[St.new],fun id dg hn=> ?_⟩;have:id≠S.n:=by omega
  simp[St.new,aO,this,hn]
 ·split at he
  ·rename_i hby
   have xU:X.low g=false:=by
    simp only[Bool.and_eq_true,Bool.not_eq_true']at hby;exact hby.2
   split at he
   case h_2=>cases he
   rename_i v h n hc;simp only[au]at he;subst he;rw[dJ,fa];have:=hC _ _ _ _ _ _ _ hc;rw[uC xU]at this;exact this
  split at he
  ·unfold rU at he;split at he
   case h_2=>cases he
   split at he
   case h_2=>cases he
   rename_i ob ea;split at he
   case h_2=>cases he
   split at he
   case isFalse=>cases he
   split at he
   case h_2=>cases he
   split at he
   case h_2=>cases he
   rename_i hg
   repeat (split at he;rotate_left;cases he)
   simp only[au]at he;subst he;rw[dJ,fa];refine⟨by simp,fun i hi hn=> ?_⟩;dsimp only;rw[mq,if_neg (by omega)];have iK:i≠_:=fun e=>by rw[e,ea]at hn;cases hn
   simp only[aO,iK,if_false];refine zi hg i ?_;cases hz:ep (aO S.h _ none) _ i with
   |none=>rfl
   |some y=>
    have:=(jv hz).1;simp only[aO,iK,if_false,hn]at this;cases this
  split at he
  ·unfold kN at he;split at he
   case h_2=>cases he
   rename_i hg
   repeat (split at he;rotate_left;cases he)
   simp only[au]at he;subst he;rw[dJ,fa];refine⟨by simp,fun i hi hn=> ?_⟩;dsimp only;rw[mq,if_neg (by omega)];exact zi hg i hn
  ·split at he
   case h_2=>cases he
   split at he
   ·rename_i qO;have xU:X.low g=false:=by
     simp only[Bool.and_eq_true,Bool.not_eq_true']at qO;exact qO.2
    split at he
    case h_2=>cases he
    rename_i v h n hc;split at he
    ·cases he
    simp only[au]at he;subst he;rw[dJ,fa];have:=hC _ _ _ _ _ _ _ hc;rw[uC xU]at this;refine⟨this.1,fun id dg hn=> ?_⟩;simp only[dg,if_true];exact hn
   ·split at he
    case h_2=>cases he
    split at he
    case h_2=>cases he
    split at he
    ·cases he
    simp only[au]at he;subst he;rw[dJ,fa];exact⟨Nat.le_refl _,fun id _ hn=>hn⟩
theorem vA(hC:ox X C){n0 j:Nat}{o:Oper}{S S1:St}(he:dH X C bO n0 j o S=some S1):S.n<=S1.n/\ ∀id,id≠n0+j->id<S.n->S.h id=none->S1.h id=none:=by
 unfold dH at he;split at he
 ·split at he
  case h_2=>cases he
  have:=N8 hC he;exact⟨this.1,fun id _ dg hn=>this.2 id dg hn⟩
 ·split at he
  case h_2=>cases he
  rename_i v h n hc;simp only[au]at he;subst he;rw[dJ,fa];exact⟨Nat.le_refl _,fun id iK _ hn=>Hi hc id iK hn⟩
theorem BR(hC:ox X C){cG:List (Option Nat)}{n0:Nat}: ∀{l:List Oper} {k:Nat} {S S1:St},eu X C bO cG n0 k l S=some S1->S.n<=S1.n/\ ∀id,(id<n0+k\/n0+k+l.length<=id)->id<S.n->S.h id=none->S1.h id=none
 | [],k,S,S1,he=>by
  simp only[eu,au]at he;subst he;exact⟨Nat.le_refl _,fun id _ _ hn=>hn⟩
 |o::l,k,S,S1,he=>by
  have two: ∀{S2:St},S.n<=S2.n->(∀id,id≠n0+k->id<S.n->S.h id=none->S2.h id=none)->eu X C bO cG n0 (k+1) l S2=some S1->S.n<=S1.n/\ ∀id,(id<n0+k\/n0+k+(o::l).length<=id)->id<S.n->S.h id=none->S1.h id=none:=by
   intro S2 h1 h2 h3;obtain⟨h4,h5⟩:=BR hC h3;refine⟨by omega,fun id dg eX hn=>h5 id ?_ (by omega) (h2 id ?_ eX hn)⟩
   ·simp only[List.length_cons]at dg;omega
   ·simp only[List.length_cons]at dg;omega
  have skip:eu X C bO cG n0 (k+1) l (S.set o.dst (.de []))=some S1->S.n<=S1.n/\ ∀id,(id<n0+k\/n0+k+(o::l).length<=id)->id<S.n->S.h id=none->S1.h id=none:=fun h3=>
   two (by rw[fa];exact Nat.le_refl _) (fun id _ _ hn=>by rw[dJ];exact hn) h3
  simp only[eu]at he;split at he
  ·split at he
   case h_2=>cases he
   rename_i S2 h1;have:=vA hC h1;exact two this.1 this.2 he
  ·split at he
   case h_2=>cases he
   split at he
   ·split at he
    ·split at he
     case h_2=>cases he
     rename_i S2 h1;have:=vA hC h1;exact two this.1 this.2 he
    ·exact skip he
   ·exact skip he
   ·cases he
def RZ(X:Env)(E:Ev):Prop:= ∀f c S e S1 m,E f c S=some (e,S1)->m<=S.n->(X.low f=true->m<=Env.base X f)->m<=S1.n/\ ∀id,id<m->S.h id=none->S1.h id=none
theorem rY{E:Ev}(hE:RZ X E):ox X (cW X E):=by
 intro g args h k v h' k' hc;unfold cW at hc;split at hc
 case h_2=>cases hc
 split at hc
 case h_2=>cases hc
 rename_i fn hf b hb;cases he:E g b ⟨mS args,h,k⟩ with
 |none=>simp[he,so]at hc
 |some x=>
  obtain⟨e,S1⟩:=x;rw[he]at hc;have:=hE _ _ _ _ _ (Gt X g k) he (Rw X g k) (fun hl=>by
   unfold Gt Env.base;rw[if_pos hl];exact Nat.min_le_left _ _)
  cases e with
  |exit id=>simp[so]at hc
  |normal|ret=>
   simp only[so]at hc;split at hc
   case h_2=>cases hc
   simp only[au,aF]at hc;obtain⟨_,rfl,rfl⟩:=hc;exact this
theorem uH(hN:rW X): ∀n,RZ X (qH X n)
 |0=>fun f c S e S1 m he=>by simp[qH]at he
 |n+1=>by
  have ih:=uH hN n;have hC:=rY (X:=X) ih;intro f c S e S1 m he hm hl;rw[qH]at he;have done:S=S1->m<=S1.n/\ ∀id,id<m->S.h id=none->S1.h id=none:=by
   rintro rfl;exact⟨hm,fun _ _ h=>h⟩
  have trans: ∀{S2:St},(m<=S2.n/\ ∀id,id<m->S.h id=none->S2.h id=none)->(m<=S1.n/\ ∀id,id<m->S2.h id=none->S1.h id=none)->m<=S1.n/\ ∀id,id<m->S.h id=none->S1.h id=none:=
   fun h1 h2=>⟨h2.1,fun id dg hn=>h2.2 id dg (h1.2 id dg hn)⟩
  cases c with
  |skip|exit _|ret=>
   simp only[iP,au,aF]at he;exact done he.2
  |region id ops d=>
   simp only[iP]at he;split at he
   case h_2=>cases he
   rename_i S0 Jx;split at he
   case h_2=>cases he
   rename_i S2 xA;split at he
   case isFalse=>cases he
   simp only[au,aF]at he;obtain⟨_,rfl⟩:=he;obtain⟨h1,h2⟩:=BR hC xA;simp only at h1 h2;have h0:=wR hN Jx hl hm;exact trans h0 ⟨by omega,fun id dg hn=>h2 id (.inl (by omega)) (by omega) hn⟩
  |seq x y=>
   simp only[iP]at he;cases hx:qH X n f x S with
   |none=>simp[hx]at he
   |some z=>
    obtain⟨e2,S2⟩:=z;rw[hx]at he;have h1:=ih _ _ _ _ _ m hx hm hl;cases e2 with
    |normal=>exact trans h1 (ih _ _ _ _ _ m he h1.1 hl)
    |exit id=>
     simp only[au,aF]at he;obtain⟨_,rfl⟩:=he;exact h1
    |ret=>
     simp only[au,aF]at he;obtain⟨_,rfl⟩:=he;exact h1
  |cond x p q=>
   simp only[iP]at he;split at he
   case h_2=>cases he
   split at he
   ·exact ih _ _ _ _ _ m he hm hl
   ·exact ih _ _ _ _ _ m he hm hl
  |block id b=>
   simp only[iP]at he;cases hb:qH X n f b S with
   |none=>simp[hb]at he
   |some z=>
    obtain⟨e2,S2⟩:=z;rw[hb]at he;have h1:=ih _ _ _ _ _ m hb hm hl;cases e2 with
    |normal=>
     simp only[au,aF]at he;obtain⟨_,rfl⟩:=he;exact h1
    |ret=>
     simp only[au,aF]at he;obtain⟨_,rfl⟩:=he;exact h1
    |exit i=>
     simp only at he;split at he
     ·simp only[au,aF]at he;obtain⟨_,rfl⟩:=he;exact h1
     ·simp only[au,aF]at he;obtain⟨_,rfl⟩:=he;exact h1
  |loop b=>
   simp only[iP]at he;split at he
   case h_2=>cases he
   rename_i S0 Jx;have h0:=wR hN Jx hl hm;cases hb:qH X n f b S0 with
   |none=>simp[hb]at he
   |some z=>
    obtain⟨e2,S2⟩:=z;rw[hb]at he;have h1:=ih _ _ _ _ _ m hb h0.1 hl;have h2:m<=S2.n/\ ∀id,id<m->S.h id=none->S2.h id=none:=⟨h1.1,fun id dg hn=>h1.2 id dg (h0.2 id dg hn)⟩;cases e2 with
    |normal=>exact trans h2 (ih _ _ _ _ _ m he h1.1 hl)
    |exit id=>
     simp only[au,aF]at he;obtain⟨_,rfl⟩:=he;exact h2
    |ret=>
     simp only[au,aF]at he;obtain⟨_,rfl⟩:=he;exact h2
  |_=>simp[iP]at he
end
def uI(P:Program)(c:Code)(Q:Exit->Act->World->Prop)(a:Act)(w:World):Prop:=
 ∀(b:Frame) (k:List Item) (cs:List Frame),∃e a' w',Q e a' w'/\Arrives P (lone (b.at a (.code c:: .inLoop c::k)) cs w) b k cs e a' w'
theorem uI.wp{P:Program}{c:Code}{Q:Exit->Act->World->Prop}{a:Act}{w:World}(h:uI P c Q a w):(Code.loop c).wp P Q a w:=by
 intro b k cs;obtain⟨e,a',w',hq,Hm⟩:=h b k cs;exact⟨e,a',w',hq,.of_steps (.one step_loop) Hm⟩
theorem uI.round{P:Program}{c:Code}{Q:Exit->Act->World->Prop}{a:Act}{w:World}(h:c.wp P (Exit.then (uI P c Q) Q) a w):uI P c Q a w:=by
 intro b k cs;obtain⟨e,a₁,w₁,hq,Hm⟩:=h b (.inLoop c::k) cs;cases e with
 |normal=>
  obtain⟨e₂,a₂,w₂,hq₂,aku⟩:=hq b k cs;exact⟨e₂,a₂,w₂,hq₂,.of_steps (Steps.trans Hm (.one step_inLoop)) aku⟩
 |exit id=>exact⟨_,a₁,w₁,hq,.pass (x:= .inLoop c) rfl (fun _ _=> .inl (by simp)) Hm⟩
 |goto l=>exact⟨_,a₁,w₁,hq,.pass (x:= .inLoop c) rfl (fun _ _=> .inl (by simp)) Hm⟩
 |ret=>exact⟨_,a₁,w₁,hq,.pass (x:= .inLoop c) rfl (fun _ _=> .inl (by simp)) Hm⟩
 |panic ch=>exact⟨_,a₁,w₁,hq,.pass (x:= .inLoop c) rfl (fun _ _=> .inl (by simp)) Hm⟩
 |outgrown=>exact⟨_,a₁,w₁,hq,.pass (x:= .inLoop c) rfl (fun _ _=> .inl (by simp)) Hm⟩
def Xz(P:Program):Code->(Exit->Act->World->Prop)->Act->World->Prop
 | .loop b=>uI P b
 |c=>c.wp P
theorem Xz.wp{P:Program}{c:Code}{Q:Exit->Act->World->Prop}{a:Act}{w:World}(h:Xz P c Q a w):c.wp P Q a w:=by
 unfold Xz at h;split at h
 ·exact h.wp
 ·exact h
def Ex.ex:Ex->Exit
 | .normal=> .normal
 | .exit id=> .exit id
 | .ret=> .ret
def Ki(nt n0:Nat)(w:World)(I:Nat->Prop)(σ:gH)(h:aY)(S1:St)(a':Act)(w':World):Prop:=
 ∃I' σ',n0<=S1.n/\Step w I σ h n0 w' I' σ' S1.h S1.n/\ir w' I' σ' S1.f a'/\jY σ' S1.h S1.n/\nt<=a'.tmps.size/\a'.defers=[]
def Hn(nt m:Nat)(w:World)(I:Nat->Prop)(σ:gH)(h:aY)(S1:St)(a':Act)(w':World):Prop:=
 ∃I' σ',m<=S1.n/\rV m w I σ h w' I' σ' S1.h/\ir w' I' σ' S1.f a'/\jY σ' S1.h S1.n/\nt<=a'.tmps.size/\a'.defers=[]
def Kj(X:Env)(jD:FuncId->Nat->Array Oper->Bool):Prop:=
 ∀(C:iz),qj X C->ox X C->mu X C->rE X->(∀bO dst g args S S1,eK X C bO dst g args S=some S1->uE X g)->
 ∀(bO:FuncId) (id nt:Nat) (ops:Array Oper) (S S1:St),(∀o∈ops.toList,NJ X nt o=true)->jD bO id ops=true->
  eu X C bO (ops.toList.map (·.dst)) S.n 0 ops.toList {S with n:=S.n+ops.size}=some S1->jA X C bO ops.toList S.n {S with n:=S.n+ops.size} S1 (X.rq bO id)->
  ∀(a:Act) (w:World) (I:Nat->Prop) (σ:gH),Rel w I σ S.h->ir w I σ S.f a->jY σ S.h S.n->nt<=a.tmps.size->a.defers=[]->
  ∀(Q:Exit->Act->World->Prop),(∀a' w',Ki nt S.n w I σ S.h S1 a' w'->Q .normal a' w')->(Code.region id ops true).wp X.P Q a w
def rG(X:Env)(jD:FuncId->Nat->Array Oper->Bool)(nt:Nat)(bO:FuncId):Code->Bool
 | .region id ops d=>ops.toList.all (NJ X nt)&& (!d||jD bO id ops)
 | .seq a b=>rG X jD nt bO a&&rG X jD nt bO b
 | .cond x a b=>W7 x&&rG X jD nt bO a&&rG X jD nt bO b
 | .block _ b=>rG X jD nt bO b
 | .loop b=>rG X jD nt bO b
 |_=>true
def xZ(X:Env):ResultVar->Bool
 | .tmp _=>true
 | .cell _ t=>tB X t
def fnB(X:Env)(jD:FuncId->Nat->Array Oper->Bool)(g:FuncId)(fn:Func):Bool:=
 match fn.body with
 |some b=>rG X jD fn.ntmps g b&&fn.results.toList.all (xZ X)&& !(fn.name== "runtime.NumGoroutine")
 |none=>true
def Ec(X:Env)(jD:FuncId->Nat->Array Oper->Bool):Prop:= ∀g fn,X.P.funcs[g]?=some fn->fnB X jD g fn=true
section
variable {X:Env} {jD:FuncId->Nat->Array Oper->Bool}
def Sound(X:Env)(jD:FuncId->Nat->Array Oper->Bool)(E:Ev):Prop:=
 ∀(bO:FuncId) (nt m:Nat) (c:Code) (S:St) (e:Ex) (S1:St),E bO c S=some (e,S1)->rG X jD nt bO c=true->m<=S.n->(X.low bO=true->m<=Env.base X bO)->
  ∀(a:Act) (w:World) (I:Nat->Prop) (σ:gH),Rel w I σ S.h->ir w I σ S.f a->jY σ S.h S.n->nt<=a.tmps.size->a.defers=[]->
  ∀(Q:Exit->Act->World->Prop),(∀a' w',Hn nt m w I σ S.h S1 a' w'->Q e.ex a' w')->Xz X.P c Q a w
theorem Hn.trans {nt m:Nat} {w w1 w2:World} {I I1:Nat->Prop} {σ σ1:gH} {h h1:aY} {S2:St} {a2:Act} (s:rV m w I σ h w1 I1 σ1 h1)
  (hp:Hn nt m w1 I1 σ1 h1 S2 a2 w2):Hn nt m w I σ h S2 a2 w2:=by
 obtain⟨I',σ',hn,hs,hF,lK,qE,hd⟩:=hp;exact⟨I',σ',hn,s.trans hs,hF,lK,qE,hd⟩
theorem Ed{X:Env}(hN:rW X){bO key m:Nat}{S S':St}{w:World}{I:Nat->Prop}{σ:gH}{a:Act}(h:mj X bO key S=some S')(R:Rel w I σ S.h)(F:ir w I σ S.f a)(fr:jY σ S.h S.n)(hm:m<=S.n)(hl:X.low bO=true->m<=Env.base X bO):
  ∃I' σ',m<=S'.n/\rV m w I σ S.h w I' σ' S'.h/\ir w I' σ' S'.f a/\jY σ' S'.h S'.n:=by
 have wu:=wR hN h hl hm;unfold mj at h;cases hc:X.norm bO key with
 |none=>
  rw[hc]at h;simp only[au]at h;subst h;exact⟨I,σ,hm,rV.refl R m,F,fr⟩
 |some N=>
  rw[hc]at h;obtain⟨h1,h2,h3⟩:=hN bO key N hc;obtain⟨g1,g2,g3,g4⟩:=RW h1 h R F fr;have jt:=h;have K:=Norm.Kg h1;refine⟨_,_,wu.1,⟨fun _ _=>rfl,fun _ c _ fz hb=>⟨c,fz,hb,rfl⟩,fun b hb=> .inl hb,g1,rfl,rfl,rfl,Nat.le_refl _,fun _ _ _=>rfl,fun b hb=> .inr (g4 b hb),fun b hb=> ?_,fun id dg=> ?_,wu.2⟩,g2,g3⟩
  ·rcases hb with hb|⟨i,ob,o,k,k1,k2⟩
   ·exact .inl hb
   ·exact .inr (.inr ⟨i,ob,o,k,(jv k1).1,k2⟩)
  ·have rX:=hl h2;unfold Env.base at rX;have rC:X.eJ bO=true:=by
    cases rC:X.eJ bO with
    |true=>rfl
    |false=>rw[rC]at rX;simp at rX;omega
   rw[if_pos rC]at rX;have:id=0:=by omega
   subst this;have jt:N.run S=some S':=jt;unfold Norm.run at jt;split at jt
   case isFalse=>cases jt
   rename_i tf;simp only[Bool.and_eq_true]at tf;obtain⟨r,k1,k2⟩:=BQ (h3 rC) tf.2;unfold Norm.sig;rw[k1];simp only[k2]
def BS(X:Env)(S:St):ResultVar->Option V
 | .tmp t=>some (S.f t)
 | .cell a t=>match S.f a with
  | .ptr id i f=>match S.h id with
   |some ob=>match ob.es[i]? with
    |some e=>part (X.ti t) e.cells f
    |none=>none
   |none=>none
  |_=>none
def Fm(tmps:Array Value):ResultVar->Sem Value
 | .tmp t=>pure (tmps.getD t undef)
 | .cell a t=>do loadVar t (<-asAddr (tmps.getD a undef))
theorem Ho(rs:List ResultVar)(S:St):k9 X rs S=(match cn (rs.map (BS X S)) with
 |some [v]=>some v
 |some vs=>some (.de vs)
 |none=>none):=rfl
theorem BT(fn:Func)(tmps:Array Value):results fn tmps=(do
  let vs<-fn.results.mapM (Fm tmps)
  pure (if h:vs.size=1 then vs[0] else .tuple vs)):=rfl
theorem Hp {w:World} {I:Nat->Prop} {σ:gH} {S:St} {a:Act} (R:Rel w I σ S.h) (F:ir w I σ S.f a) {fn:Func} (hB:fn.results.toList.all (xZ X)=true) {v:V}
  (hv:k9 X fn.results.toList S=some v): ∃u,(results fn a.tmps).run X.P w= .ok u w/\cC w I σ v u:=by
 have key: ∀(rs:List ResultVar) (l:List V),rs.all (xZ X)=true->cn (rs.map (BS X S))=some l-> ∃us:List Value,(rs.mapM (Fm a.tmps)).run X.P w= .ok us w/\dU w I σ l us:=by
  intro rs;induction rs with
  |nil=>
   intro l _ hl;simp only[List.map_nil,cn,au]at hl;subst hl;exact⟨[],by simp,by simp[dU]⟩
  |cons r rs ih=>
   intro l hb hl;simp only[List.all_cons,Bool.and_eq_true]at hb;simp only[List.map_cons]at hl;cases r with
   |tmp t=>
    simp only[BS,cn]at hl;split at hl
    case h_2=>cases hl
    rename_i l' xz;simp only[au]at hl;subst hl;obtain⟨us,h1,h2⟩:=ih l' hb.2 xz;refine⟨a.tmps.getD t undef::us,?_,?_⟩
    ·simp[List.mapM_cons,Fm,h1]
    ·simp only[dU];exact⟨_,_,rfl,F t,h2⟩
   |cell x t=>
    have T:kP X.P t (X.ti t):=lb hb.1;cases hx:S.f x with
    |ptr id i f=>
     simp only[BS,hx]at hl;cases ea:S.h id with
     |none=>simp[ea,cn]at hl
     |some ob=>
     simp only[ea]at hl;cases hi:ob.es[i]? with
     |none=>simp[hi,cn]at hl
     |some e=>
     simp only[hi]at hl;cases hp:part (X.ti t) e.cells f with
     |none=>simp[hp,cn]at hl
     |some v0=>
     simp only[hp,cn]at hl;split at hl
     case h_2=>cases hl
     rename_i l' xz;simp only[au]at hl;subst hl;obtain⟨us,h1,h2⟩:=ih l' hb.2 xz;have hF:=F x;rw[hx]at hF;simp only[cC]at hF;obtain⟨b,of,k,iT,hu⟩:=hF;obtain⟨b',o',c,el,ln,hI,vp,qE,dV⟩:=R.at ea hi;rw[iT]at ln;simp only[au,aF]at ln;obtain⟨rfl,rfl,rfl⟩:=ln;have hc:=(dV.get hi).2.ext (Ext.Bq ob.dG) rfl;obtain⟨u,W8,hr⟩:=Bs T (f:=f) hc hp;refine⟨u::us,?_,?_⟩
     ·simp[List.mapM_cons,Fm,h1,hu,asAddr,W8]
     ·simp only[dU];exact⟨_,_,rfl,hr,h2⟩
    |_=>simp[BS,hx,cn]at hl
 rw[Ho]at hv;split at hv
 ·rename_i v0 hl;simp only[au]at hv;subst hv;obtain⟨us,h1,h2⟩:=key _ _ hB hl;simp only[dU]at h2;obtain⟨u,r,rfl,h3,rfl⟩:=h2;refine⟨u,?_,h3⟩;rw[BT,Array.mapM_eq_mapM_toList];simp[h1]
 ·rename_i vs iK hl;simp only[au]at hv;subst hv;obtain⟨us,h1,h2⟩:=key _ _ hB hl;refine⟨.tuple us.toArray,?_,?_⟩
  ·have hlen:us.length≠1:=by
    intro hl1;rw[kG]at h2;match vs,h2 with
    | [v],_=>exact iK v rfl
    | [],h2=>simp at h2;omega
    |_::_::_,h2=>simp at h2;omega
   rw[BT,Array.mapM_eq_mapM_toList];simp[h1,hlen]
  ·simp only[cC];exact⟨_,rfl,by simpa using h2⟩
 ·cases hv
theorem Fo(hA:Ec X jD){E:Ev}(hS:Sound X jD E):qj X (cW X E):=by
 intro g args h k v h' k' hc w I σ us R fr hr;unfold cW at hc;split at hc
 case h_2=>cases hc
 rename_i fn hf;split at hc
 case h_2=>cases hc
 rename_i b hb;have hB:=hA g fn hf;unfold fnB at hB;simp only[hb,Bool.and_eq_true]at hB;have hF0:ir w I σ (mS args) {tmps:=us++Array.replicate (fn.ntmps-us.size) undef,defers:=[]}:=by
  intro t;unfold mS;split
  ·rename_i v0 hv;rw[kG]at hr;have ht:t<us.size:=by
    have:=(List.getElem?_eq_some_iff.1 hv).1;rw[hr.1]at this;simpa using this
   have hu:us.toList[t]?=some us[t]:=by simp[ht]
   have:=hr.2 t _ _ hv hu;have hg:(us++Array.replicate (fn.ntmps-us.size) undef).getD t undef=us[t]:=by
    rw[Array.getD_eq_getD_getElem?,Array.getElem?_append_left ht];simp[ht]
   simp only[hg];exact this
  ·simp[cC]
 have fin: ∀{S1:St} {a':Act} {w':World},so X fn.results.toList (some (.normal,S1))=some (v,h',k')->Hn fn.ntmps (Gt X g k) w I σ h S1 a' w'->
   a'.defers=[]/\ ∃u,(results fn a'.tmps).run X.P w'= .ok u w'/\ ∃u' I' σ',Ending.returned u= .returned u'/\Gt X g k<=k'/\rV (Gt X g k) w I σ h w' I' σ' h'/\jY σ' h' k'/\cC w' I' σ' v u':=by
  intro S1 a' w' hr hp;obtain⟨I',σ',hkn,hs,hF,lK,_,hd⟩:=hp;simp only[so]at hr;split at hr
  case h_2=>cases hr
  rename_i v0 hv;simp only[au,aF]at hr;obtain⟨rfl,rfl,rfl⟩:=hr;obtain⟨u,h1,h2⟩:=Hp hs.rel hF hB.1.2 hv;exact⟨hd,u,h1,u,I',σ',rfl,hkn,hs,lK,h2⟩
 cases he:E g b ⟨mS args,h,k⟩ with
 |none=>simp[he,so]at hc
 |some x=>
  obtain⟨e,S1⟩:=x;rw[he]at hc;refine calls_of_wp hf hb ?_;refine(hS g fn.ntmps (Gt X g k) b ⟨mS args,h,k⟩ e S1 he hB.1.1 (Rw X g k) (fun hl=>by
   unfold Gt Env.base;rw[if_pos hl];exact Nat.min_le_left _ _) _ w I σ R hF0 fr (by simp;omega) rfl _ ?_).wp
  intro a' w' hp;cases e with
  |normal=>exact fin hc hp
  |ret=>exact fin (by simpa[so] using hc) hp
  |exit id=>simp[so]at hc
theorem akw(hA:Ec X jD)(hKG: ∀g t,X.clone g=some t->uE X g){E:Ev}: ∀bO dst g args S S1,eK X (cW X E) bO dst g args S=some S1->uE X g:=by
 have key: ∀g args h k r,cW X E g args h k=some r->uE X g:=by
  intro g args h k r hc;unfold cW at hc;split at hc
  case h_2=>cases hc
  rename_i fn hf;split at hc
  case h_2=>cases hc
  rename_i b hb;have hB:=hA g fn hf;unfold fnB at hB;simp only[hb,Bool.and_eq_true]at hB;exact⟨fn,b,hf,hb,by simpa using hB.2⟩
 intro bO dst g args S S1 he;unfold eK at he;split at he
 ·rename_i t mM;exact hKG g t mM
 split at he
 ·split at he
  ·rename_i hc;exact key _ _ _ _ _ hc
  ·cases he
 split at he
 ·unfold rU at he;split at he
  case h_2=>cases he
  split at he
  case h_2=>cases he
  split at he
  case h_2=>cases he
  split at he
  case isFalse=>cases he
  split at he
  case h_2=>cases he
  split at he
  case h_2=>cases he
  split at he
  case h_2=>cases he
  rename_i hc;exact key _ _ _ _ _ hc
 split at he
 ·unfold kN at he;split at he
  case h_2=>cases he
  split at he
  case h_2=>cases he
  rename_i hc;exact key _ _ _ _ _ hc
 ·skip
  ·split at he
   ·split at he
    ·split at he
     ·rename_i hc;exact key _ _ _ _ _ hc
     ·cases he
    ·split at he
     ·rename_i hc;exact key _ _ _ _ _ hc
     ·cases he
   ·cases he
theorem sound(hA:Ec X jD)(hN:rW X)(hK:rE X)(hKG: ∀g t,X.clone g=some t->uE X g)(hD:Kj X jD)(hV: ∀n,mu X (cW X (qH X n))): ∀n,Sound X jD (qH X n)
 |0=>fun bO nt m c S e S1 he=>by simp[qH]at he
 |n+1=>by
  have ih:=sound hA hN hK hKG hD hV n;have hC:=Fo hA ih;have hG:=akw (E:=qH X n) hA hKG;intro bO nt m c S e S1 he hB hm hl a w I σ R F fr hs hd Q hQ;have base: ∀{e'},e'=e->S=S1->Q e'.ex a w:=by
   intro e' h1 h2;subst h1;subst h2;exact hQ a w ⟨I,σ,hm,rV.refl R _,F,fr,hs,hd⟩
  rw[qH]at he;cases c with
  |skip=>
   simp only[iP,au,aF]at he;exact wp_skip (base he.1 he.2)
  |exit id=>
   simp only[iP,au,aF]at he;exact wp_exit (base he.1 he.2)
  |ret=>
   simp only[iP,au,aF]at he;exact wp_ret (base he.1 he.2)
  |region id ops d=>
   simp only[iP]at he;simp only[rG,Bool.and_eq_true]at hB;have kn: ∀o∈ops.toList,NJ X nt o=true:=List.all_eq_true.1 hB.1;split at he
   case h_2=>cases he
   rename_i S0 Jx;obtain⟨I0,σ0,hm0,s0,F0,fr0⟩:=Ed hN Jx R F fr hm hl;split at he
   case h_2=>cases he
   rename_i S2 xA;split at he
   case isFalse=>cases he
   rename_i iZ;simp only[au,aF]at he;obtain⟨rfl,rfl⟩:=he;have hQ': ∀a' w',Ki nt S0.n w I0 σ0 S0.h S2 a' w'->Q .normal a' w':=by
    rintro a' w' ⟨I',σ',hn,wQ,hF,lK,ln,Gv⟩;exact hQ a' w' ⟨I',σ',by omega,s0.trans (wQ.ajx hm0),hF,lK,ln,Gv⟩
   cases d with
   |true=>exact hD _ hC (rY (uH hN n)) (hV n) hK hG bO id nt ops S0 S2 kn (by simpa using hB.2) xA iZ a w I0 σ0 s0.rel F0 fr0 hs hd Q hQ'
   |false=>
    refine wp_region ?_;have lK:jY σ0 S0.h (S0.n+ops.size):=fun id dg=>fr0 id (by omega);have:=Fl hC hK hG kn (Q:=Q) ops.toList 0 {S0 with n:=S0.n+ops.size} a w I0 σ0 (by simp) xA s0.rel F0 lK hs hd (Nat.le_refl _) (fun q _ _=>fr0 _ (by omega))
     (fun a' w' I' σ' hle iZ hF RP ln Gv=>hQ' a' w' ⟨I',σ',by simp only at hle;omega,iZ,hF,RP,ln,Gv⟩)
    rw[List.range_eq_range'];simpa using this
  |seq x y=>
   simp only[iP]at he;simp only[rG,Bool.and_eq_true]at hB;cases hx:qH X n bO x S with
   |none=>simp[hx]at he
   |some z=>
    obtain⟨e2,S2⟩:=z;rw[hx]at he;refine wp_seq (ih bO nt m x S e2 S2 hx hB.1 hm hl a w I σ R F fr hs hd _ fun a' w' hp=> ?_).wp;cases e2 with
    |normal=>
     obtain⟨I',σ',hn,iZ,hF,lK,ln,Gv⟩:=hp;exact(ih bO nt m y S2 e S1 he hB.2 hn hl a' w' I' σ' iZ.rel hF lK ln Gv Q fun a2 w2 A9=>hQ a2 w2 (A9.trans iZ)).wp
    |exit id=>
     simp only[au,aF]at he;obtain⟨rfl,rfl⟩:=he;exact hQ a' w' hp
    |ret=>
     simp only[au,aF]at he;obtain⟨rfl,rfl⟩:=he;exact hQ a' w' hp
  |cond x p q=>
   simp only[iP]at he;simp only[rG,Bool.and_eq_true]at hB;split at he
   case h_2=>cases he
   rename_i t ht;have Rg:cC w I σ (S.ev x) (a.eval x):=dO F hB.1.1;rw[ht]at Rg;have nq:=qK Rg;refine wp_cond nq ?_;cases t with
   |true=>exact(ih bO nt m p S e S1 (by simpa using he) hB.1.2 hm hl a w I σ R F fr hs hd Q hQ).wp
   |false=>exact(ih bO nt m q S e S1 (by simpa using he) hB.2 hm hl a w I σ R F fr hs hd Q hQ).wp
  |block id b=>
   simp only[iP]at he;simp only[rG]at hB;cases hb:qH X n bO b S with
   |none=>simp[hb]at he
   |some z=>
    obtain⟨e2,S2⟩:=z;rw[hb]at he;refine wp_block (ih bO nt m b S e2 S2 hb hB hm hl a w I σ R F fr hs hd _ fun a' w' hp=> ?_).wp;cases e2 with
    |normal=>
     simp only[au,aF]at he;obtain⟨rfl,rfl⟩:=he;exact hQ a' w' hp
    |ret=>
     simp only[au,aF]at he;obtain⟨rfl,rfl⟩:=he;exact hQ a' w' hp
    |exit i=>
     simp only at he;simp only[Ex.ex,Exit.inBlock];split at he
     ·rename_i hi;simp only[au,aF]at he;obtain⟨rfl,rfl⟩:=he;simp only[hi,if_true];exact hQ a' w' hp
     ·rename_i hi;simp only[au,aF]at he;obtain⟨rfl,rfl⟩:=he;simp only[hi,if_false];exact hQ a' w' hp
  |loop b=>
   simp only[iP]at he;have hBb:rG X jD nt bO b=true:=by simpa only[rG] using hB
   split at he
   case h_2=>cases he
   rename_i S0 Jx;obtain⟨I0,σ0,hm0,s0,F0,fr0⟩:=Ed hN Jx R F fr hm hl;cases hb:qH X n bO b S0 with
   |none=>simp[hb]at he
   |some z=>
    obtain⟨e2,S2⟩:=z;rw[hb]at he;show uI X.P b Q a w;refine uI.round (ih bO nt m b S0 e2 S2 hb hBb hm0 hl a w I0 σ0 s0.rel F0 fr0 hs hd _ fun a' w' hp=> ?_).wp;cases e2 with
    |normal=>
     obtain⟨I',σ',hn,iZ,hF,lK,ln,Gv⟩:=hp;exact ih bO nt m (.loop b) S2 e S1 he hB hn hl a' w' I' σ' iZ.rel hF lK ln Gv Q fun a2 w2 A9=>hQ a2 w2 (A9.trans (s0.trans iZ))
    |exit id=>
     simp only[au,aF]at he;obtain⟨rfl,rfl⟩:=he;exact hQ a' w' (hp.trans s0)
    |ret=>
     simp only[au,aF]at he;obtain⟨rfl,rfl⟩:=he;exact hQ a' w' (hp.trans s0)
  |_=>simp[iP]at he
theorem R5(hA:Ec X jD)(hN:rW X)(hK:rE X)(hKG: ∀g t,X.clone g=some t->uE X g)(hD:Kj X jD)(hV: ∀n,mu X (cW X (qH X n))):qj X (cy X):=by
 intro g args h k v h' k' hc;obtain⟨n,hn⟩:=l7 hc;exact Fo hA (sound hA hN hK hKG hD hV n) g args h k v h' k' hn
end
def stepG(X:Env)(C:iz)(bO:FuncId)(cG:List (Option Nat))(n0 k:Nat)(o:Oper)(S:St):Option St:=
 match o.guard with
 |none=>dH X C bO n0 k o S
 |some (j,want)=>
  match cG[j]? with
  |some (some d)=>match S.f d with
   | .bool b=>if b=want then dH X C bO n0 k o S else some (S.set o.dst (.de []))
   | .de []=>some (S.set o.dst (.de []))
   |_=>none
  |_=>none
section
variable {X:Env} {C:iz} {bO:FuncId} {cG:List (Option Nat)} {n0:Nat}
theorem wS(k:Nat)(o:Oper)(l:List Oper)(S:St):eu X C bO cG n0 k (o::l) S=(match stepG X C bO cG n0 k o S with|some S1=>eu X C bO cG n0 (k+1) l S1|none=>none):=by
 simp only[eu,stepG];cases hg:o.guard with
 |none=>rfl
 |some g=>
  obtain⟨j,want⟩:=g;simp only;cases hd:cG[j]? with
  |none=>rfl
  |some x=>
   cases x with
   |none=>rfl
   |some d=>
    simp only;cases hf:S.f d with
    |bool b=>
     simp only;split
     ·rfl
     ·rfl
    |de l=>cases l<;>rfl
    |_=>rfl
theorem tq: ∀(l1 l2:List Oper) (k:Nat) (S:St),eu X C bO cG n0 k (l1++l2) S=(match eu X C bO cG n0 k l1 S with|some S1=>eu X C bO cG n0 (k+l1.length) l2 S1|none=>none)
 | [],l2,k,S=>by simp[eu]
 |o::l1,l2,k,S=>by
  rw[List.cons_append,wS,wS];cases stepG X C bO cG n0 k o S with
  |none=>rfl
  |some S1=>
   simp only;rw[tq l1 l2 (k+1) S1,List.length_cons,show k+1+l1.length=k+(l1.length+1) by omega]
def Ds(cG:List (Option Nat))(o:Oper)(S S':St):Prop:=
 Alike o S S'/\ ∀j want d,o.guard=some (j,want)->cG[j]?=some (some d)->S'.f d=S.f d
theorem BU{k:Nat}{o:Oper}{S:St}{j d:Nat}{want:Bool}(hg:o.guard=some (j,want))(hd:cG[j]?=some (some d))(hf:S.f d= .de []\/S.f d= .bool (!want)):
  stepG X C bO cG n0 k o S=some (S.set o.dst (.de [])):=by
 unfold stepG;simp only[hg,hd];rcases hf with h|h
 ·rw[h]
 ·rw[h];cases want<;>simp
theorem nH{k:Nat}{o:Oper}{S S1:St}(he:stepG X C bO cG n0 k o S=some S1):
  (dH X C bO n0 k o S=some S1/\ ∀S',Ds cG o S S'->stepG X C bO cG n0 k o S'=dH X C bO n0 k o S')\/
  (S1=S.set o.dst (.de [])/\ ∀S',Ds cG o S S'->stepG X C bO cG n0 k o S'=some (S'.set o.dst (.de []))):=by
 unfold stepG at he;cases hg:o.guard with
 |none=>
  simp only[hg]at he;exact .inl ⟨he,fun S' _=>by simp only[stepG,hg]⟩
 |some g=>
  obtain⟨j,want⟩:=g;simp only[hg]at he;cases hd:cG[j]? with
  |none=>simp[hd]at he
  |some x=>
   cases x with
   |none=>simp[hd]at he
   |some d=>
    simp only[hd]at he;cases hf:S.f d with
    |bool b=>
     simp only[hf]at he;have hf': ∀S',Ds cG o S S'->S'.f d= .bool b:=fun S' hs=>by rw[hs.2 j want d hg hd];exact hf
     split at he
     ·rename_i hb;exact .inl ⟨he,fun S' hs=>by simp only[stepG,hg,hd,hf' S' hs,hb,if_true]⟩
     ·rename_i hb;simp only[au]at he;exact .inr ⟨he.symm,fun S' hs=>by simp only[stepG,hg,hd,hf' S' hs,hb,if_false]⟩
    |de l=>
     cases l with
     |nil=>
      simp only[hf,au]at he;have hf': ∀S',Ds cG o S S'->S'.f d= .de []:=fun S' hs=>by rw[hs.2 j want d hg hd];exact hf
      exact .inr ⟨he.symm,fun S' hs=>by simp only[stepG,hg,hd,hf' S' hs]⟩
     |cons _ _=>simp[hf]at he
    |_=>simp[hf]at he
theorem R6{k:Nat}{o:Oper}{S S1:St}(hc:cls X bO o=0)(he:stepG X C bO cG n0 k o S=some S1): ∃v,S1=S.set o.dst v/\ ∀S',Ds cG o S S'->stepG X C bO cG n0 k o S'=some (S'.set o.dst v):=by
 rcases nH he with⟨h1,h2⟩|⟨h1,h2⟩
 ·obtain⟨v,h3,h4⟩:=akl hc h1;exact⟨v,h3,fun S' hs=>by rw[h2 S' hs];exact h4 S' hs.1⟩
 ·exact⟨_,h1,h2⟩
theorem R7{k:Nat}{o:Oper}{S S1:St}(hc:cls X bO o=1)(he:stepG X C bO cG n0 k o S=some S1): ∃v,S1=S.set o.dst v/\ ∀S',Ds cG o S S'->Sub S.h S'.h->stepG X C bO cG n0 k o S'=some (S'.set o.dst v):=by
 rcases nH he with⟨h1,h2⟩|⟨h1,h2⟩
 ·obtain⟨v,h3,h4⟩:=akm hc h1;exact⟨v,h3,fun S' hs s7=>by rw[h2 S' hs];exact h4 S' hs.1 s7⟩
 ·exact⟨_,h1,fun S' hs _=>h2 S' hs⟩
def x8(h:aY)(id:Nat):Option Ob->aY
 |some ob=>aO h id (some ob)
 |none=>h
theorem R8{k:Nat}{o:Oper}{S S1:St}(hc:cls X bO o=2)(he:stepG X C bO cG n0 k o S=some S1): ∃v ob,S1=({S with h:=x8 S.h (n0+k) ob}:St).set o.dst v/\
  ∀S',Ds cG o S S'->stepG X C bO cG n0 k o S'=some (({S' with h:=x8 S'.h (n0+k) ob}:St).set o.dst v):=by
 rcases nH he with⟨h1,h2⟩|⟨h1,h2⟩
 ·obtain⟨v,ob,h3,h4⟩:=akn hc h1;exact⟨v,some ob,h3,fun S' hs=>by rw[h2 S' hs];exact h4 S' hs.1⟩
 ·exact⟨_,none,h1,h2⟩
theorem Kk{k:Nat}{o:Oper}{S S1:St}(he:stepG X C bO cG n0 k o S=some S1): ∃v,S1=({S with h:=S1.h,n:=S1.n}:St).set o.dst v/\
  ∀S',Ds cG o S S'->S'.h=S.h->S'.n=S.n->stepG X C bO cG n0 k o S'=some (({S' with h:=S1.h,n:=S1.n}:St).set o.dst v):=by
 rcases nH he with⟨h1,h2⟩|⟨h1,h2⟩
 ·obtain⟨v,h3,h4⟩:=ako h1;exact⟨v,h3,fun S' hs hh hn=>by rw[h2 S' hs];exact h4 S' hs.1 hh hn⟩
 ·refine⟨.de [],by rw[h1,dJ,fa],fun S' hs hh hn=> ?_⟩;rw[h2 S' hs,h1,dJ,fa,<-hh,<-hn]
theorem aas(hC:ox X C){k:Nat}{o:Oper}{S S1:St}(he:stepG X C bO cG n0 k o S=some S1):S.n<=S1.n/\ ∀id,id≠n0+k->id<S.n->S.h id=none->S1.h id=none:=by
 rcases nH he with⟨h1,_⟩|⟨h1,_⟩
 ·exact vA hC h1
 ·subst h1;rw[dJ,fa];exact⟨Nat.le_refl _,fun _ _ _ h=>h⟩
theorem trace{L:List Oper}{S0 F:St}(he:eu X C bO cG n0 0 L S0=some F): ∃T:Nat->St,T 0=S0/\T L.length=F/\(∀p,p<=L.length->eu X C bO cG n0 0 (L.take p) S0=some (T p))/\
  ∀k o,L[k]?=some o->stepG X C bO cG n0 k o (T k)=some (T (k+1)):=by
 have pre: ∀p,p<=L.length-> ∃S,eu X C bO cG n0 0 (L.take p) S0=some S:=by
  intro p hp;have:=tq (X:=X) (C:=C) (bO:=bO) (cG:=cG) (n0:=n0) (L.take p) (L.drop p) 0 S0;rw[List.take_append_drop,he]at this;cases hx:eu X C bO cG n0 0 (L.take p) S0 with
  |none=>rw[hx]at this;cases this
  |some S=>exact⟨S,rfl⟩
 refine⟨fun p=>(eu X C bO cG n0 0 (L.take p) S0).getD S0,?_,?_,fun p hp=> ?_,fun k o hk=> ?_⟩
 ·simp[eu]
 ·simp[he]
 ·obtain⟨S,hS⟩:=pre p hp;simp[hS]
 ·have hkl:k<L.length:=(List.getElem?_eq_some_iff.1 hk).1;obtain⟨A,hA⟩:=pre k (by omega);obtain⟨B,hB⟩:=pre (k+1) (by omega);have Gw:L.take (k+1)=L.take k++ [o]:=by
   rw[List.take_add_one,hk];rfl
  have h2:=hB;rw[Gw,tq,hA]at h2;simp only[List.length_take,Nat.zero_add]at h2;rw[wS,Nat.min_eq_left (by omega)]at h2;show stepG X C bO cG n0 k o ((eu X C bO cG n0 0 (L.take k) S0).getD S0)=some ((eu X C bO cG n0 0 (L.take (k+1)) S0).getD S0);rw[hA,hB];simp only[Option.getD_some];cases hs:stepG X C bO cG n0 k o A with
  |none=>rw[hs]at h2;cases h2
  |some S1=>
   rw[hs]at h2;simp only[eu]at h2;exact h2
end
section
variable {h h' h1 G:aY} {n:Nat}
theorem rz.off(H:rz h G n){id:Nat}{ob:Ob}(ea:h id=some ob):G id=none:=by
 cases hg:G id with
 |none=>rfl
 |some x=>rw[(H id (by rw[hg];simp)).1]at ea;cases ea
theorem rz.big(H:rz h G n){id:Nat}(dg:n<=id):G id=none:=by
 cases hg:G id with
 |none=>rfl
 |some x=>have:=(H id (by rw[hg];simp)).2;omega
theorem Fp{id:Nat}(hg:G id=none):mr h G id=h id:=by unfold mr;rw[hg]
theorem rz.get(H:rz h G n){id:Nat}{ob:Ob}(ea:h id=some ob):mr h G id=some ob:=by rw[Fp (H.off ea),ea]
theorem ld{id:Nat}{x:Option Ob}(hg:G id=none):aO (mr h G) id x=mr (aO h id x) G:=by
 funext i;unfold mr aO;by_cases e:i=id
 ·subst e;simp[hg]
 ·simp[e]
theorem rz.aO(H:rz h G n){id:Nat}{x:Option Ob}(hg:G id=none):rz (aO h id x) G n:=by
 intro i hi;have e:i≠id:=fun e=>by subst e;exact hi hg
 have:=H i hi;simp only[Abs.aO,e,if_false];exact this
theorem rz.sub(H:rz h G n)(hs: ∀i,h i=none->h' i=none):rz h' G n:=fun i hi=>⟨hs i (H i hi).1,(H i hi).2⟩
theorem rz.aky(H:rz h G n):Sub h (mr h G):=fun id ob ea=>H.get ea
theorem BV(H:rz h G n){v v':V}(hg:qm h v=some (v',h1)):qm (mr h G) v=some (v',mr h1 G)/\rz h1 G n:=by
 unfold qm at hg⊢;split at hg
 ·rename_i id s l;cases ea:h id with
  |none=>simp[ea]at hg
  |some ob=>
   simp only[ea]at hg;simp only[H.get ea];split at hg
   ·rename_i hc;rw[if_pos hc];simp only[au,aF]at hg;obtain⟨rfl,rfl⟩:=hg;have:=H.off ea;exact⟨by rw[ld this],H.aO this⟩
   ·cases hg
 ·split at hg
  ·rename_i hc;simp only[au,aF]at hg;obtain⟨rfl,rfl⟩:=hg;exact⟨by rw[if_pos hc],H⟩
  ·cases hg
theorem BW: ∀{cs qC:List V} {h h1:aY},rz h G n->fj h cs=some (qC,h1)->fj (mr h G) cs=some (qC,mr h1 G)/\rz h1 G n
 | [],qC,h,h1,H,hg=>by
  simp only[fj,au,aF]at hg;obtain⟨rfl,rfl⟩:=hg;exact⟨rfl,H⟩
 |c::cs,qC,h,h1,H,hg=>by
  simp only[fj]at hg⊢;split at hg
  case h_2=>cases hg
  rename_i c' h2 hc;obtain⟨e1,H1⟩:=BV H hc;split at hg
  case h_2=>cases hg
  rename_i cs2 h3 v7;obtain⟨e2,H2⟩:=BW H1 v7;simp only[au,aF]at hg;obtain⟨rfl,rfl⟩:=hg;exact⟨by simp only[e1,e2],H2⟩
theorem zj(H:rz h G n){v v':V}(hg:qu h v=some (v',h1)):qu (mr h G) v=some (v',mr h1 G)/\rz h1 G n:=by
 unfold qu at hg⊢;split at hg
 ·split at hg
  case h_2=>cases hg
  rename_i qC h2 hl;obtain⟨e,H1⟩:=BW H hl;simp only[au,aF]at hg;obtain⟨rfl,rfl⟩:=hg;exact⟨by simp only[e],H1⟩
 ·exact BV H hg
theorem BX: ∀{ps wj:List (Nat×V)} {h h1:aY},rz h G n->lz h ps=some (wj,h1)->lz (mr h G) ps=some (wj,mr h1 G)/\rz h1 G n
 | [],wj,h,h1,H,hg=>by
  simp only[lz,au,aF]at hg;obtain⟨rfl,rfl⟩:=hg;exact⟨rfl,H⟩
 |(i,c)::cs,wj,h,h1,H,hg=>by
  simp only[lz]at hg⊢;split at hg
  case h_2=>cases hg
  rename_i c' h2 hc;obtain⟨e1,H1⟩:=zj H hc;split at hg
  case h_2=>cases hg
  rename_i cs2 h3 v7;obtain⟨e2,H2⟩:=BX H1 v7;simp only[au,aF]at hg;obtain⟨rfl,rfl⟩:=hg;exact⟨by simp only[e1,e2],H2⟩
theorem wT: ∀{ps wj:List V} {h h1:aY},rz h G n->mY h ps=some (wj,h1)->mY (mr h G) ps=some (wj,mr h1 G)/\rz h1 G n
 | [],wj,h,h1,H,hg=>by
  simp only[mY,au,aF]at hg;obtain⟨rfl,rfl⟩:=hg;exact⟨rfl,H⟩
 |c::cs,wj,h,h1,H,hg=>by
  simp only[mY]at hg⊢;split at hg
  case h_2=>cases hg
  rename_i c' h2 hc;obtain⟨e1,H1⟩:=zj H hc;split at hg
  case h_2=>cases hg
  rename_i cs2 h3 v7;obtain⟨e2,H2⟩:=wT H1 v7;simp only[au,aF]at hg;obtain⟨rfl,rfl⟩:=hg;exact⟨by simp only[e1,e2],H2⟩
theorem tt(H:rz h G n){v:V}{r:List V×Bool}(he:elems h v=some r):elems (mr h G) v=some r:=by
 unfold elems at he⊢;split at he
 ·exact he
 ·rename_i id s l;cases ea:h id with
  |none=>simp[ea]at he
  |some ob=>simp only[ea]at he;simp only[H.get ea];exact he
 ·exact he
 ·cases he
theorem wU: ∀{l:List (Option Nat)} {h:aY},rz h G n->(∀i,some i∈l->G i=none)->ep (mr h G) l=mr (ep h l) G/\rz (ep h l) G n
 | [],h,H,_=>⟨rfl,H⟩
 |none::l,h,H,hl=>wU (l:=l) H fun i hi=>hl i (List.mem_cons_of_mem _ hi)
 |some i::l,h,H,hl=>by
  obtain⟨e,H1⟩:=wU (l:=l) H fun i hi=>hl i (List.mem_cons_of_mem _ hi);have hg:=hl i (List.mem_cons_self ..);simp only[ep];exact⟨by rw[e,ld hg],H1.aO hg⟩
theorem zk{X:Env}{kp:TypeId->Bool}{R:V}: ∀{m:Mask} {k:Nat} {h:aY},(∀i,k<=i->G i=none)->tZ X kp R k m (mr h G)=mr (tZ X kp R k m h) G
 | [],k,h,_=>rfl
 |q::m,k,h,hk=>by
  simp only[tZ];rw[zk (fun i hi=>hk i (by omega)),ld (hk k (Nat.le_refl _))]
theorem Kl{X:Env}{hx:aY}(H:rz h G n){t:TypeId}{c:V}(hr:(rowAt X h hx t c).isSome=true):rowAt X (mr h G) hx t c=rowAt X h hx t c/\ ∀i,c.src=some i->G i=none:=by
 unfold rowAt at hr⊢;split at hr
 ·exact⟨rfl,fun i hi=>by simp[V.src]at hi⟩
 ·rename_i id s l;cases ea:h id with
  |none=>simp[ea]at hr
  |some ob=>
   simp only[H.get ea];exact⟨trivial,fun i hi=>by simp only[V.src,au]at hi;subst hi;exact H.off ea⟩
 ·cases hr
theorem wV{F F':Nat->V->V}: ∀{cs:List V} {k:Nat},(∀j c,cs[j]?=some c->F (k+j) c=F' (k+j) c)->oS F k cs=oS F' k cs
 | [],k,_=>rfl
 |c::cs,k,hc=>by
  have e1:F k c=F' k c:=by simpa using hc 0 c (by simp)
  have e2:oS F (k+1) cs=oS F' (k+1) cs:=wV fun j c' hj=>by
   have:=hc (j+1) c' (by simpa using hj);rwa[show k+(j+1)=k+1+j by omega]at this
  simp only[oS,e1,e2]
theorem BY{F F':Nat->V->V}{v:V}(hv: ∀j,F j (v.cells.getD j .bad)=F' j (v.cells.getD j .bad)):ry F v=ry F' v:=by
 by_cases h: ∃cs,v= .agg cs
 ·obtain⟨cs,rfl⟩:=h;rw[pK,pK,wV fun j c hj=> ?_];have:=hv j;simpa[V.cells,List.getD_eq_getElem?_getD,hj] using this
 ·have h': ∀cs,v≠ .agg cs:=fun cs e=>h ⟨cs,e⟩;rw[ot F h',ot F' h'];have:=hv 0;rw[kB h']at this;exact this
theorem Km{F F':Nat->Nat->V->V}{v:V}(hv: ∀i j,F i j (v.cellAt i j)=F' i j (v.cellAt i j)):rR F v=rR F' v:=by
 by_cases h: ∃cs,v= .de cs
 ·obtain⟨cs,rfl⟩:=h;rw[sy,sy,wV fun i c hi=> ?_];refine BY fun j=> ?_;have:=hv i j;simp only[V.cellAt,List.getD_eq_getElem?_getD,hi,Option.getD_some]at this;simpa[List.getD_eq_getElem?_getD] using this
 ·have h': ∀cs,v≠ .de cs:=fun cs e=>h ⟨cs,e⟩;rw[qM F h',qM F' h'];refine BY fun j=> ?_;have:=hv 0 j;have e:v.cellAt 0 j=v.cells.getD j .bad:=by
   cases v with
   |de cs=>exact absurd rfl (h' cs)
   |_=>rfl
  rwa[e]at this
theorem N9{X:Env}{hx:aY}(H:rz h G n){v R:V}{m:Mask}(hr:xG X h hx v m=some R):xG X (mr h G) hx v m=some R/\ ∀i,some i∈eZ v m->G i=none:=by
 unfold xG at hr⊢;split at hr
 case isFalse=>cases hr
 rename_i hc;simp only[Bool.and_eq_true]at hc;have kn: ∀q∈m,rowAt X (mr h G) hx q.2.2 (v.cellAt q.1 q.2.1)=rowAt X h hx q.2.2 (v.cellAt q.1 q.2.1)/\ ∀i,(v.cellAt q.1 q.2.1).src=some i->G i=none:=fun q hq=>Kl H (List.all_eq_true.1 hc.2 q hq);have yV:m.all (fun q=>(rowAt X (mr h G) hx q.2.2 (v.cellAt q.1 q.2.1)).isSome)=true:=by
  rw[List.all_eq_true];intro q hq;rw[(kn q hq).1];exact List.all_eq_true.1 hc.2 q hq
 refine⟨?_,fun i hi=> ?_⟩
 ·simp only[hc.1,yV,Bool.and_self,if_true];rw[<-hr];congr 1;refine Km fun i j=> ?_;unfold jH;cases hm:kM 0 m i j with
  |none=>rfl
  |some p=>
   obtain⟨q,t⟩:=p;obtain⟨_,hq⟩:=rF hm;have:=(kn _ (List.mem_of_getElem? hq)).1;simp only at this;simp only[this]
 ·unfold eZ at hi;obtain⟨q,hq,he⟩:=List.mem_map.1 hi;exact(kn q hq).2 i he
end
section
variable {X:Env} {C:iz} {bO:FuncId} {dst:Option Nat} {g:FuncId} {args:List V} {S S1:St} {G:aY}
theorem m7(S:St)(d:Option Nat)(v:V)(h:aY):({S.set d v with h:=h}:St)=({S with h:=h}:St).set d v:=by cases d<;>rfl
theorem XA(H:rz S.h G S.n)(he:rU X C bO dst g args S=some S1):rU X C bO dst g args {S with h:=mr S.h G}=some {S1 with h:=mr S1.h G}:=by
 unfold rU at he⊢;split at he
 case h_2=>cases he
 rename_i id rest;split at he
 case h_2=>cases he
 rename_i ob ea;split at he
 case h_2=>cases he
 rename_i e Kd;split at he
 case isFalse=>cases he
 rename_i hk;split at he
 case h_2=>cases he
 rename_i R hR;split at he
 case h_2=>cases he
 rename_i bez h1 hg;split at he
 case h_2=>cases he
 rename_i v h n hc;split at he
 case h_2=>cases he
 rename_i kk r rs wP;simp only[au]at he;subst he;have g0:=H.off ea;have H1:=H.aO (x:=none) g0;obtain⟨e2,Fa⟩:=N9 H1 hR;obtain⟨e3,H3⟩:=wU H1 Fa;obtain⟨e4,H4⟩:=wT H3 hg;simp only[H.get ea,Kd,hk,if_true,ld g0,e2,e3,e4,hc,wP];rw[m7,dJ,zk (fun i hi=>H.big hi)]
theorem Oa(H:rz S.h G S.n)(he:kN X C bO dst g args S=some S1):kN X C bO dst g args {S with h:=mr S.h G}=some {S1 with h:=mr S1.h G}:=by
 unfold kN at he⊢;split at he
 case h_2=>cases he
 rename_i bez h1 hg;split at he
 case h_2=>cases he
 rename_i v h n hc;split at he
 case h_2=>cases he
 rename_i r hR;simp only[au]at he;subst he;obtain⟨e4,H4⟩:=wT H hg;simp only[e4,hc,hR];rw[m7,dJ,zk (fun i hi=>H.big hi)]
theorem Oc(hO:mu X C)(H:rz S.h G S.n)(he:eK X C bO dst g args S=some S1):eK X C bO dst g args {S with h:=mr S.h G}=some {S1 with h:=mr S1.h G}:=by
 unfold eK at he⊢;split at he
 ·rename_i t mM;split at he
  case h_2=>cases he
  split at he
  case h_2=>cases he
  rename_i es kx su;split at he
  ·cases he
  rename_i ku;simp only[au]at he;subst he;simp only[tt H su];rw[if_neg ku,m7,dJ];simp only[St.new,ld (H.big (Nat.le_refl _))]
 ·by_cases hf:(X.fw g&& !X.low g)=true
  ·simp only[hf,if_true]at he⊢;split at he
   case h_2=>cases he
   rename_i v h n hc;simp only[au]at he;subst he;have xU:X.low g=false:=by simp only[Bool.and_eq_true,Bool.not_eq_true']at hf;exact hf.2
   simp only[hO _ _ _ _ _ _ _ G xU H hc];rw[m7,dJ]
  rw[Bool.not_eq_true]at hf;simp only[hf,Bool.false_eq_true,if_false]at he⊢;split at he
  ·rename_i rC;rw[if_pos rC];exact XA H he
  rename_i rC;rw[if_neg rC];split at he
  ·rename_i xK;rw[if_pos xK];exact Oa H he
  rename_i xK;rw[if_neg xK];split at he
  case h_2=>cases he
  rename_i bez has;have akz:cn (args.map (bT (mr S.h G) depth))=some bez:=uG H.aky has;split at he
  ·rename_i qO;split at he
   case h_2=>cases he
   rename_i v h n hc;split at he
   ·cases he
   rename_i lW;simp only[au]at he;subst he;have asq:(fun id=>if id<S.n then mr S.h G id else if args.any V.tY=true then jz (h id) else h id)=mr (fun id=>if id<S.n then S.h id else if args.any V.tY=true then jz (h id) else h id) G:=by
    funext i;unfold mr;by_cases hi:i<S.n
    ·simp only[hi,if_true]
    ·simp only[hi,if_false,H.big (Nat.le_of_not_lt hi)]
   simp only[akz,qO,if_true,hc];rw[if_neg lW,m7,dJ,asq]
  ·rename_i qO;split at he
   case h_2=>cases he
   rename_i v h n hc;split at he
   case h_2=>cases he
   rename_i v' C9;split at he
   ·cases he
   rename_i ku;simp only[au]at he;subst he;simp only[akz,qO,if_false,Bool.false_eq_true,hc,C9];rw[if_neg ku,m7,dJ]
theorem Od{o:Oper}{ρ:Operand->V}{h h1:aY}{n n1 k:Nat}{v:V}(H:rz h G k)(hn:G n=none)(hc:cls X bO o=3)(he:cm X bO o ρ h n=some (v,h1,n1)):cm X bO o ρ (mr h G) n=some (v,mr h1 G,n1):=by
 obtain⟨d,op,ty,pos,after,guard⟩:=o;cases op with
 |store t a x=>
  simp only[cm]at he⊢;split at he
  case h_2=>cases he
  rename_i id i f ha;cases ea:h id with
  |none=>simp[ea]at he
  |some ob=>
   simp only[ea]at he;simp only[H.get ea];cases hkp:ob.dG with
   |true=>
    simp only[hkp,if_true]at he⊢;simp only[ea]at he;simp only[H.get ea];split at he
    case h_2=>cases he
    rename_i e D4;split at he
    case isFalse=>cases he
    rename_i tf;rw[if_pos tf];simp only[au,aF]at he;obtain⟨rfl,rfl,rfl⟩:=he;rw[ld (H.off ea)]
   |false=>
    simp only[hkp,if_false,Bool.false_eq_true]at he⊢;split at he
    case h_2=>cases he
    rename_i v' h2 hg;obtain⟨e1,H1⟩:=zj H hg;simp only[e1];cases aee:h2 id with
    |none=>simp[aee]at he
    |some ob2=>
     simp only[aee]at he;simp only[H1.get aee];split at he
     case h_2=>cases he
     rename_i e D4;split at he
     case isFalse=>cases he
     rename_i tf;rw[if_pos tf];simp only[au,aF]at he;obtain⟨rfl,rfl,rfl⟩:=he;rw[ld (H.off ea)]
 |buildSlice t m ps=>
  simp only[cm]at he⊢;split at he
  ·rename_i hk;simp only[cls,hk,if_true]at hc;cases hc
  ·rename_i hk;rw[if_neg hk];split at he
   case h_2=>cases he
   rename_i l h2 hg;obtain⟨e1,H1⟩:=BX H hg;simp only[e1];split at he
   case h_2=>cases he
   rename_i es hf;split at he
   ·rename_i qO;rw[if_pos qO];simp only[au,aF]at he;obtain⟨rfl,rfl,rfl⟩:=he;rw[ld hn]
   ·rename_i qO;rw[if_neg qO];simp only[au,aF]at he;obtain⟨rfl,rfl,rfl⟩:=he;rfl
 |call c=>
  obtain⟨J7,args,jP⟩:=c;cases J7 with
  |value x=>simp[cm]at he
  |builtin b=>
   cases b with
   |append=>
    simp only[cm]at he⊢;split at he
    case h_2=>cases he
    rename_i s x fJ;split at he
    case h_2=>cases he
    rename_i es kb xs kx h5 h6;simp only[tt H h5,tt H h6];split at he
    ·cases he
    rename_i C7;rw[if_neg C7];split at he
    case isFalse=>cases he
    rename_i yV;rw[if_pos yV];split at he
    ·simp only[au,aF]at he;obtain⟨rfl,rfl,rfl⟩:=he;rw[ld hn]
    ·split at he
     ·cases he
     rename_i Kn;rw[if_neg Kn];simp only[au,aF]at he;obtain⟨rfl,rfl,rfl⟩:=he;rfl
    ·rename_i id _ _;cases ea:h id with
     |none=>simp[ea]at he
     |some ob=>
      simp only[ea]at he;simp only[H.get ea];split at he
      case isFalse=>cases he
      rename_i Kn;rw[if_pos Kn];simp only[au,aF]at he;obtain⟨rfl,rfl,rfl⟩:=he;rw[ld (H.off ea),ld hn]
    ·cases he
   |copy=>
    simp only[cm]at he⊢;split at he
    case h_2=>cases he
    rename_i id s l x fJ;split at he
    case h_2=>cases he
    rename_i ob xs kx h5 h6;simp only[H.get h5,tt H h6];split at he
    ·cases he
    rename_i C7;rw[if_neg C7];split at he
    case isFalse=>cases he
    rename_i yV;rw[if_pos yV];simp only[au,aF]at he;obtain⟨rfl,rfl,rfl⟩:=he;rw[ld (H.off h5)]
   |len|min|max=>exact absurd (show(0:Nat)=3 from hc) (by decide)
   |_=>simp[cm]at he
  |_=>simp[cm]at he
 |move|assign|pick|build|nilCheck|binOp|unOp|convert|makeFunc|fieldAddr|index|extract=>exact absurd (show(0:Nat)=3 from hc) (by decide)
 |load|slice|indexAddr=>exact absurd (show(1:Nat)=3 from hc) (by decide)
 |alloc|box|makeSlice=>exact absurd (show(2:Nat)=3 from hc) (by decide)
 |_=>simp[cm]at he
theorem BZ{o:Oper}{S:St}{h h1:aY}{n n1 k:Nat}{v:V}(H:rz h G k)(hn:G n=none)(iK: ∀x args jP,o.op≠ .call ⟨.value x,args,jP⟩)(he:cm X bO o S.ev h n=some (v,h1,n1)):cm X bO o S.ev (mr h G) n=some (v,mr h1 G,n1):=by
 have hle:cls X bO o=0\/cls X bO o=1\/cls X bO o=2\/cls X bO o=3:=by
  unfold cls;repeat' split
  all_goals simp
 rcases hle with hc|hc|hc|hc
 ·obtain⟨e,hh⟩:=core0 (fun _=>rfl) hc he;rw[e];have h2:=hh h n;rw[he]at h2;simp only[au,aF,true_and]at h2;rw[h2.2];exact hh _ _
 ·obtain⟨e,hh⟩:=RR hc iK he;rw[e];have h2:=hh h n (fun _ _ x=>x);rw[he]at h2;simp only[au,aF,true_and]at h2;rw[h2.2];exact hh _ _ H.aky
 ·obtain⟨ob,e,hh⟩:=aap hc he;have h2:=hh h;rw[he]at h2;simp only[au,aF,true_and]at h2;rw[e,h2.2,hh,ld hn]
 ·exact Od H hn hc he
theorem zm(hO:mu X C){n0 j:Nat}{o:Oper}(H:rz S.h G S.n)(hn:G (n0+j)=none)(he:dH X C bO n0 j o S=some S1):dH X C bO n0 j o {S with h:=mr S.h G}=some {S1 with h:=mr S1.h G}:=by
 unfold dH at he⊢;split at he
 ·rename_i x args jP ho;have xA:({S with h:=mr S.h G}:St).ev=S.ev:=by funext y;cases y<;>rfl
  rw[xA];split at he
  case h_2=>cases he
  rename_i g first AI hx
  exact Oc hO H he
 ·rename_i iK;have xA:({S with h:=mr S.h G}:St).ev=S.ev:=by funext y;cases y<;>rfl
  rw[xA];split at he
  case h_2=>cases he
  rename_i v h1 n1 ak0;simp only[au]at he;subst he;simp only[BZ H hn iK ak0];rw[m7,dJ]
theorem Ko(hO:mu X C){cG:List (Option Nat)}{n0 j:Nat}{o:Oper}(H:rz S.h G S.n)(hn:G (n0+j)=none)(he:stepG X C bO cG n0 j o S=some S1):stepG X C bO cG n0 j o {S with h:=mr S.h G}=some {S1 with h:=mr S1.h G}:=by
 unfold stepG at he⊢;split at he
 ·exact zm hO H hn he
 ·split at he
  case h_2=>cases he
  rename_i d hd;split at he
  ·rename_i b hb;simp only[hb];split at he
   ·rename_i Hh;rw[if_pos Hh];exact zm hO H hn he
   ·rename_i Hh;rw[if_neg Hh];simp only[au]at he;subst he;rw[m7,dJ]
  ·rename_i hb;simp only[hb];simp only[au]at he;subst he;rw[m7,dJ]
  ·cases he
theorem x9(hO:mu X C)(hN:ox X C){cG:List (Option Nat)}{n0:Nat}: ∀{l:List Oper} {k:Nat} {S S1:St},rz S.h G n0->n0<=S.n->eu X C bO cG n0 k l S=some S1->eu X C bO cG n0 k l {S with h:=mr S.h G}=some {S1 with h:=mr S1.h G}
 | [],k,S,S1,H,hn,he=>by
  simp only[eu,au]at he⊢;subst he;rfl
 |o::l,k,S,S1,H,hn,he=>by
  have hG:G (n0+k)=none:=H.big (by omega);have H0:rz S.h G S.n:=fun i hi=>⟨(H i hi).1,by have:=(H i hi).2;omega⟩;have two: ∀{S2:St},dH X C bO n0 k o S=some S2->eu X C bO cG n0 (k+1) l S2=some S1->dH X C bO n0 k o {S with h:=mr S.h G}=some {S2 with h:=mr S2.h G}/\eu X C bO cG n0 (k+1) l {S2 with h:=mr S2.h G}=some {S1 with h:=mr S1.h G}:=fun{S2} h1 h2=>by
   obtain⟨a1,a2⟩:=vA hN h1;exact⟨zm hO H0 hG h1,x9 hO hN (fun i hi=>⟨a2 i (by have:=(H i hi).2;omega) (by have:=(H i hi).2;omega) (H i hi).1,(H i hi).2⟩) (by omega) h2⟩
  have skip:eu X C bO cG n0 (k+1) l (S.set o.dst (.de []))=some S1->eu X C bO cG n0 (k+1) l (({S with h:=mr S.h G}:St).set o.dst (.de []))=some {S1 with h:=mr S1.h G}:=fun h3=>by
   have:=x9 hO hN (S:=S.set o.dst (.de [])) (by rw[dJ];exact H) (by rw[fa];exact hn) h3;rw[m7,dJ]at this;exact this
  simp only[eu]at he⊢;split at he
  ·split at he
   case h_2=>cases he
   rename_i S2 h1;obtain⟨e1,e2⟩:=two h1 he;simp only[e1,e2]
  ·split at he
   case h_2=>cases he
   rename_i d hd;split at he
   ·rename_i b hb;split at he
    ·rename_i Hh;rw[if_pos Hh];split at he
     case h_2=>cases he
     rename_i S2 h1;obtain⟨e1,e2⟩:=two h1 he;simp only[e1,e2]
    ·rename_i Hh;rw[if_neg Hh];exact skip he
   ·rename_i hb;exact skip he
   ·cases he
theorem Hq(hO:mu X C)(hN:ox X C){ops:List Oper}{n0:Nat}{S0:St}{l:List (Nat×Nat)}(H:rz S0.h G n0)(hn:n0<=S0.n)(hs:jA X C bO ops n0 S0 S1 l):
  jA X C bO ops n0 {S0 with h:=mr S0.h G} {S1 with h:=mr S1.h G} l:=by
 intro q hq;rcases hs q hq with⟨o,h1,h2⟩|⟨o,T,v,h1,h2,h3,h4⟩
 ·exact .inl ⟨o,h1,h2⟩
 ·have hT:=BR hN h2;refine .inr ⟨o,{T with h:=mr T.h G},v,h1,x9 hO hN H hn h2,?_,h4⟩;have HT:rz T.h G n0:=fun i hi=>⟨hT.2 i (by have:=(H i hi).2;omega) (by have:=(H i hi).2;omega) (H i hi).1,(H i hi).2⟩;refine BZ (S:=S1) HT (HT.big (by omega)) (fun x args jP e=> ?_) h3;obtain⟨dst,op,ty,pos,after,guard⟩:=o;simp only at e;subst e;simp[cm]at h3
end
def Sa(X:Env)(E:Ev):Prop:= ∀f c S e S1 G,X.low f=false->rz S.h G S.n->E f c S=some (e,S1)->E f c {S with h:=mr S.h G}=some (e,{S1 with h:=mr S1.h G})
theorem wW{α β:Type}{f g:α->Option β}: ∀(l:List α) {r:List β},cn (l.map f)=some r->(∀x y,f x=some y->g x=some y)->cn (l.map g)=some r
 | [],r,h,_=>h
 |a::l,r,h,hg=>by
  simp only[List.map_cons]at h⊢;cases ha:f a with
  |none=>rw[ha]at h;simp[cn]at h
  |some b=>
   rw[ha]at h;rw[hg a b ha];simp only[cn]at h⊢;split at h
   case h_2=>cases h
   rename_i l' xz;rw[wW l xz hg];exact h
theorem wv{X:Env}{E:Ev}(hE:Sa X E)(hN1: ∀f c S e S1,X.low f=false->E f c S=some (e,S1)-> ∀id,id<S.n->S.h id=none->S1.h id=none):mu X (cW X E):=by
 intro g args h k v h' k' G hl H hc;unfold cW at hc⊢;split at hc
 case h_2=>cases hc
 rename_i fn hf;split at hc
 case h_2=>cases hc
 rename_i b hb;cases he:E g b ⟨mS args,h,k⟩ with
 |none=>simp[he,so]at hc
 |some x=>
  obtain⟨e,S1⟩:=x;have h1:=hE _ _ ⟨mS args,h,k⟩ _ _ G hl H he;simp only at h1;have s7: ∀id ob,S1.h id=some ob->mr S1.h G id=some ob:=fun id ob ea=>by
   cases hg:G id with
   |none=>rw[Fp hg,ea]
   |some x=>
    have h3:=H id (by rw[hg];simp);have h4:=hN1 _ _ _ _ _ hl he id h3.2 h3.1;rw[h4]at ea;cases ea
  have XB: ∀{v:V},k9 X fn.results.toList S1=some v->k9 X fn.results.toList {S1 with h:=mr S1.h G}=some v:=fun{v} hr=>by
   unfold k9 at hr⊢;split at hr
   ·rename_i v1 h2;rw[wW _ h2 fun x y Kp=> ?_]
    ·exact hr
    ·cases x with
     |tmp t=>exact Kp
     |cell a t=>
      simp only at Kp⊢;split at Kp
      case h_2=>cases Kp
      rename_i id i f asr;split at Kp
      case h_2=>cases Kp
      rename_i ob ea;simp only[s7 id ob ea];exact Kp
   ·rename_i vs hvs h2;rw[wW _ h2 fun x y Kp=> ?_]
    ·split
     ·rename_i v2 e;simp only[au]at e;exact absurd e (hvs v2)
     ·rename_i l2 e;simp only[au]at e;subst e;exact hr
     ·rename_i e;cases e
    ·cases x with
     |tmp t=>exact Kp
     |cell a t=>
      simp only at Kp⊢;split at Kp
      case h_2=>cases Kp
      rename_i id i f asr;split at Kp
      case h_2=>cases Kp
      rename_i ob ea;simp only[s7 id ob ea];exact Kp
   ·cases hr
  rw[he]at hc;rw[h1];cases e with
  |exit i=>simp[so]at hc
  |normal|ret=>
   simp only[so]at hc⊢;split at hc
   case h_2=>cases hc
   rename_i v1 hv1;simp only[au,aF]at hc;obtain⟨rfl,rfl,rfl⟩:=hc;rw[XB hv1]
theorem Hr{X:Env}(hN:rW X)(n:Nat): ∀f c S e S1,X.low f=false->qH X n f c S=some (e,S1)-> ∀id,id<S.n->S.h id=none->S1.h id=none:=fun f c S e S1 hl he id h1 h2=>
 (uH hN n f c S e S1 S.n he (Nat.le_refl _) (fun h=>by rw[hl]at h;cases h)).2 id h1 h2
theorem Hs{X:Env}(hN:rW X): ∀n,Sa X (qH X n)
 |0=>fun f c S e S1 G _ _ he=>by simp[qH]at he
 |n+1=>by
  have ih:=Hs hN n;have hO:=wv (X:=X) ih (Hr hN n);have hC:=rY (X:=X) (uH hN n);intro f c S e S1 G hl H he;have Jx: ∀key,X.norm f key=none:=fun key=>by
   cases hk:X.norm f key with
   |none=>rfl
   |some N=>have:=(hN f key N hk).2.1;rw[hl]at this;cases this
  have hn: ∀key (S:St),mj X f key S=some S:=fun key S=>by unfold mj;rw[Jx]
  have news: ∀{c:Code} {S S1:St} {e:Ex},qH X n f c S=some (e,S1)->rz S.h G S.n->rz S1.h G S1.n:=fun{c S S1 e} h1 h2=>by
   have h3:=uH hN n f c S e S1 S.n h1 (Nat.le_refl _) (fun h=>by rw[hl]at h;cases h);exact fun i hi=>⟨h3.2 i (h2 i hi).2 (h2 i hi).1,by have:=(h2 i hi).2;omega⟩
  rw[qH]at he⊢;cases c with
  |skip|exit _|ret=>
   simp only[iP,au,aF]at he⊢;obtain⟨h1,rfl⟩:=he;exact⟨h1,rfl⟩
  |region id ops d=>
   simp only[iP,hn]at he⊢;split at he
   case h_2=>cases he
   rename_i S2 xA;split at he
   case isFalse=>cases he
   rename_i iZ;simp only[au,aF]at he;obtain⟨rfl,rfl⟩:=he;have ast:=x9 hO hC (S:={S with n:=S.n+ops.size}) H (by simp) xA;have Oe:=Hq hO hC (S0:={S with n:=S.n+ops.size}) H (by simp) iZ;simp only[ast,Oe,if_true]
  |seq x y=>
   simp only[iP]at he⊢;cases hx:qH X n f x S with
   |none=>simp[hx]at he
   |some z=>
    obtain⟨e2,S2⟩:=z;rw[hx]at he;rw[ih _ _ _ _ _ G hl H hx];cases e2 with
    |normal=>exact ih _ _ _ _ _ G hl (news hx H) he
    |exit i|ret=>
     simp only[au,aF]at he⊢;obtain⟨rfl,rfl⟩:=he;exact⟨rfl,rfl⟩
  |cond x a b=>
   simp only[iP]at he⊢;have xA:({S with h:=mr S.h G}:St).ev x=S.ev x:=by cases x<;>rfl
   rw[xA];split at he
   ·rename_i t ht;split at he
    ·rename_i hb;rw[if_pos hb];exact ih _ _ _ _ _ G hl H he
    ·rename_i hb;rw[if_neg hb];exact ih _ _ _ _ _ G hl H he
   ·cases he
  |block i b=>
   simp only[iP]at he⊢;cases hx:qH X n f b S with
   |none=>simp[hx]at he
   |some z=>
    obtain⟨e2,S2⟩:=z;rw[hx]at he;rw[ih _ _ _ _ _ G hl H hx];cases e2 with
    |exit j=>
     simp only at he⊢;split at he
     ·rename_i hb;rw[if_pos hb];simp only[au,aF]at he⊢;obtain⟨rfl,rfl⟩:=he;exact⟨rfl,rfl⟩
     ·rename_i hb;rw[if_neg hb];simp only[au,aF]at he⊢;obtain⟨rfl,rfl⟩:=he;exact⟨rfl,rfl⟩
    |normal|ret=>
     simp only[au,aF]at he⊢;obtain⟨rfl,rfl⟩:=he;exact⟨rfl,rfl⟩
  |loop b=>
   simp only[iP,hn]at he⊢;cases hx:qH X n f b S with
   |none=>simp[hx]at he
   |some z=>
    obtain⟨e2,S2⟩:=z;rw[hx]at he;rw[ih _ _ _ _ _ G hl H hx];cases e2 with
    |normal=>exact ih _ _ _ _ _ G hl (news hx H) he
    |exit i|ret=>
     simp only[au,aF]at he⊢;obtain⟨rfl,rfl⟩:=he;exact⟨rfl,rfl⟩
  |_=>simp[iP]at he
theorem Sb{X:Env}(hN:rW X)(n:Nat):mu X (cW X (qH X n)):=wv (Hs hN n) (Hr hN n)
end Go.Abs
