/- part -/
import Derived.Test.YtdngefmliibcgaaGreatV26
set_option linter.all false
set_option maxRecDepth 20000
set_option maxHeartbeats 20000000
namespace Go.Abs
open Go
variable  {u:Value}{want k:Bool}{α β:Type}
def Ze{X:Env}{bZ:FuncId}{o:Oper}{ρ:Operand->V}{h0 h1:bh}{n0 n1:Nat}{v:V}(h:cI X bZ o ρ h0 n0=some (v,h1,n1)):n1=n0\/n1=n0+1:=by
 unfold cI at h;dsimp (zeta:=true) only at h;repeat' split at h
 all_goals first
  |(cases h;done)
  |(simp only[aA,bM]at h;exact .inl h.2.2.symm)
  |(simp only[aA,bM]at h;exact .inr h.2.2.symm)
  |(obtain⟨_,_,_,_,_,_,_,hn⟩:=tO h;omega)
section
variable {w w1 w2 w':World} {I I1 I2 I':Nat->Prop} {σ σ1 σ2 σ':ju} {h h1 h2 h':bh} {n n1 n2 n' p m m':Nat}
theorem Step.join(s:Step w I σ h n w1 I1 σ1 h1 n1)(s':Step w1 I1 σ1 h1 p w2 I2 σ2 h2 n2)(hp:n<=p)(hn:n1<=n2):Step w I σ h n w2 I2 σ2 h2 n2 where
 ext:=s.ext.trans s'.ext
 rel:=s'.rel
 os:=s'.os.trans s.os
 tape:=s'.tape.trans s.tape
 output:=s'.output.trans s.output
 size:=abK s.size s'.size
 frame:=fun b hb ho=>(s'.frame b (abY hb s.size) (fun hx=>by
  rcases s.own b hx with hx|hx
  ·omega
  grind)).trans (s.frame b hb ho)
 own:=fun b hb=>by
  rcases s'.own b hb with hx|hx
  ·exact .inl (abK s.size hx)
  ·exact s.own b hx
 vY:=fun b hb=>by
  rcases s'.vY b hb with hx|hx|hx
  ·exact s.vY b hx
  ·exact .inr (.inl (abK s.size hx))
  ·exact .inr (s.own b hx)
 le:=abK s.le hn
 sigs:=fun id fa=>by
  rw[s'.sigs id (by omega),s.sigs id (by omega)]
 news:=fun id fa hz=>by
  exact s'.news id (by omega) (s.news id (by omega) hz)
theorem Step.Ts(s:Step w I σ h n w' I' σ' h' n')(hm:m<=n)(Tt:n'<=m'):Step w I σ h m w' I' σ' h' m':=
 {s with
  le:=by have:=s.le;omega
  sigs:=fun id fa=>s.sigs id (by omega)
  news:=fun id fa hz=>s.news id (by omega) hz}
theorem iO.append{cs ds:List V}{us vs:List Value}(hc:iO w I σ cs us)(hd:iO w I σ ds vs):iO w I σ (cs++ds) (us++vs):=by
 induction cs generalizing us with
 |nil=>subst hc;grind
 |cons c cs ih=>
  obtain⟨u,r,rfl,h1,h2⟩:=hc;exact⟨u,r++vs,rfl,h1,ih h2⟩
end
def wc(X:Env)(g:FuncId):Prop:= ∃fn b,X.P.funcs[g]?=some fn/\fn.body=some b/\(fn.name== "runtime.NumGoroutine")=false
def Vb{X:Env}{g:FuncId}(hg:wc X g)(args:Array Value)(w:World):(callFunc g args).run X.P w= .ok (.enter g args) w:=by
 obtain⟨fn,b,hf,hb,hn⟩:=hg;simp only[beq_eq_false_iff_ne,ne_eq]at hn;simp[callFunc,hf,hb,hn]
def ai2(S:St)(m:Nat):({S with n:=m}:St).ev=S.ev:=by
 funext x;cases x<;>rfl
section
variable {X:Env} {C:jm} {bZ:FuncId} {n0 j nt:Nat} {o:Oper} {S S1:St} {w:World} {I:Nat->Prop} {σ:ju} {a:Act}
def Left(o:Oper)(a:Act)(w:World)(I:Nat->Prop)(σ:ju)(S S1:St)(n0 j:Nat)(a':Act)(w':World):Prop:=
 ∃u v I' σ',a'=a.put o.dst u/\dD w' I' σ' v u/\S1.f=(S.set o.dst v).f/\Step w I σ S.h n0 w' I' σ' S1.h S1.n/\S.n<=S1.n/\lV σ' S1.h S1.n/\
  (∀q,q≠j->n0+q<S.n->S.h (n0+q)=none->σ (n0+q)=none->S1.h (n0+q)=none/\σ' (n0+q)=none)
theorem MW (hC:qY X C) (hK:uK X) (hG: ∀bZ dst g args S S1,gV X C bZ dst g args S=some S1->wc X g) (hB:UR X nt o=true) (he:fq X C bZ n0 j o S=some S1)
  (R:Rel w I σ S.h) (F:jw w I σ S.f a) (fr:lV σ S.h S.n) (hn:S.h (n0+j)=none) (vk:σ (n0+j)=none) (gZ:n0+j<S.n) (Q:Exit->Act->World->Prop):
  o.wp X.P a w (Left o a w I σ S S1 n0 j) Q:=by
 have op:(∀x args mH,o.op≠ .call ⟨.value x,args,mH⟩)->o.wp X.P a w (Left o a w I σ S S1 n0 j) Q:=by
  intro kz;unfold fq at he;split at he
  ·grind
  ·split at he
   case h_2=>grind
   rename_i v0 h0 n1 hc;simp only[aA]at he;subst he;have Mq:=Ze hc;have Cp:aih X bZ o {S with n:=n0+j}=some (({S with h:=h0,n:=n1}:St).set o.dst v0):=by
    unfold aih;rw[ai2,hc]
   obtain⟨nx,w',I',σ',u,v,kr,hnx,kH,hf,mK⟩:=art (S:={S with n:=n0+j}) hB R F hn vk bZ Cp;rw[fm,hX]at kH;have ai3:Left o a w I σ S (({S with h:=h0}:St).set o.dst v0) n0 j (a.put o.dst u) w':=by
    refine⟨u,v,I',σ',rfl,mK,?_,?_,by rw[hX];grind,?_,fun q hq Tu h1 h2=>⟨?_,?_⟩⟩
    ·have e1:(({S with h:=h0,n:=n1}:St).set o.dst v0).f=(({S with h:=h0}:St).set o.dst v0).f:=by cases o.dst<;>rfl
     have e2:(({S with n:=n0+j}:St).set o.dst v).f=(S.set o.dst v).f:=by cases o.dst<;>rfl
     grind
    ·rw[fm,hX];exact kH.Ts (by simp) (by grind)
    ·intro id fa;rw[hX]at fa;have:=fr id fa;rw[fm];refine⟨kH.news id (by grind) this.1,?_⟩;rw[kH.sigs id (by grind)];grind
    ·rw[fm];exact kH.news (n0+q) (by grind) h1
    ·rw[kH.sigs (n0+q) (by grind)];omega
   unfold Oper.wp;rw[kr];rcases hnx with rfl|⟨rfl,rfl⟩
   ·exact ai3
   ·exact ai3
 by_cases hc: ∃x args mH,o.op= .call ⟨.value x,args,mH⟩
 ·obtain⟨x,args,mH,ho⟩:=hc;unfold fq at he;simp only[ho]at he;have ay3:nP o:=by
   unfold UR at hB;rw[aaF,aaF]at hB;exact fun x hm=>List.all_eq_true.1 hB.1.2 x hm
  split at he
  case h_2=>grind
  rename_i g first E6 hx
  have ay4:=hG _ _ _ _ _ _ he;have hxr:dD w I σ (S.ev x) (a.eval x):=fj (S:=S) F (ay3 x (by simp[ho,Op.operands,Call.operands]));rw[hx]at hxr;obtain⟨us,vs,pH,h1,h2⟩:=hxr;have jL:iO w I σ (args.toList.map S.ev) (args.map a.eval).toList:=by
   rw[mJ];refine⟨by simp,fun i c u hc hu=> ?_⟩;rw[abG]at hc;rw[acM,aeM]at hu;cases hi:args[i]? with
   |none=>grind
   |some y=>
    rw[acM,hi]at hc;rw[hi]at hu;simp at hc hu;subst hc;subst hu;exact fj (S:=S) F (ay3 y (by
     have:=Array.mem_of_getElem? hi;simp[ho,Op.operands,Call.operands,this]))
  have jV:iO w I σ (first++args.toList.map S.ev++E6) (us++args.map a.eval++vs).toList:=by
   simp only[Array.toList_append];exact(h1.append jL).append h2
  have kr:(execOp a.eval o).run X.P w= .ok (.enter g (us++args.map a.eval++vs)) w:=by
   simp only[execOp,ho,resolve,pH,Deferred.ofValue];simp[invoke,Vb ay4]
  unfold Oper.wp;rw[kr];refine Calls.mono (Zd hC hK he R fr _ jV) fun e w' hh=> ?_;obtain⟨u,v,I',σ',rfl,kH,hf,mK⟩:=hh;refine⟨u,v,I',σ',rfl,mK,hf,kH.Ts (by omega) (aaI _),kH.le,kH.fresh fr,fun q hq Tu h1 h2=>⟨kH.news _ (.inl Tu) h1,?_⟩⟩;rw[kH.sigs _ (.inl Tu)];omega
 grind
end
section
variable {X:Env} {C:jm} {bZ:FuncId} {n0 nt:Nat} {ops:Array Oper}
theorem BE(a:Act)(d:Option Nat)(u:Value):(a.put d u).tmps.size=a.tmps.size:=by cases d<;>simp[Act.put]
theorem put_defers(a:Act)(d:Option Nat)(u:Value):(a.put d u).defers=a.defers:=by cases d<;>rfl
theorem jw.ai4 {w:World} {I:Nat->Prop} {σ:ju} {S S1:St} {a:Act} (F:jw w I σ S.f a) {v:V}  (hr:dD w I σ v u) (d:Option Nat) (hd: ∀t,d=some t->t<a.tmps.size)
  (hf:S1.f=(S.set d v).f):jw w I σ S1.f (a.put d u):=by
 rw[hf];cases d with
 |none=>exact F
 |some t=>exact F.put hr t (hd t rfl)
theorem Tv{o:Oper}(hB:UR X nt o=true): ∀t,o.dst=some t->t<nt:=by
 intro t ht;unfold UR at hB
 grind
theorem FM{w:World}{I:Nat->Prop}{σ:ju}{S:St}{a:Act}(F:jw w I σ S.f a){o:Oper}{j d:Nat}(hg:o.guard=some (j,want))(hd:(ops.toList.map (·.dst))[j]?=some (some d)):
  (∀b,S.f d= .bool b->Region.wanted o (yielded ops a.tmps)=(b==want))/\(S.f d= .dP []->Region.wanted o (yielded ops a.tmps)=false):=by
 have hj:(ops[j]?).bind (·.dst)=some d:=by
  rw[abG,acM]at hd;cases ho:ops[j]? with
  |none=>grind
  |some x=>grind
 have hF:=F d;refine⟨fun b hb=> ?_,fun hb=> ?_⟩
 ·rw[hb]at hF;have hv:a.tmps.getD d undef= .bool b:=by simpa[dD] using hF
  have ht:a.tmps[d]?=some (.bool b):=by
   rw[abH]at hv;cases hx:a.tmps[d]? with
   |none=>simp[hx,undef]at hv
   |some y=>grind
  simp only[Region.wanted,hg,yielded,hj,aeo,ht]
  grind
 ·rw[hb]at hF;obtain⟨us,hu,he⟩:=hF;have hnb: ∀b,a.tmps[d]?≠some (.bool b):=by
   intro b hx;rw[abH,hx]at hu;simp at hu
  simp only[Region.wanted,hg,yielded,hj,aeo]
  grind
theorem Jr{w:World}{I:Nat->Prop}{σ:ju}:dD w I σ (.dP []) undef:=by
 exact⟨#[],rfl,rfl⟩
theorem KP(hC:qY X C)(hK:uK X)(hG: ∀bZ dst g args S S1,gV X C bZ dst g args S=some S1->wc X g)(hB: ∀o∈ops.toList,UR X nt o=true){Q:Exit->Act->World->Prop}{S1:St}:
  ∀(l:List Oper) (k:Nat) (S:St) (a:Act) (w:World) (I:Nat->Prop) (σ:ju),l=ops.toList.drop k->gM X C bZ (ops.toList.map (·.dst)) n0 k l S=some S1->Rel w I σ S.h->jw w I σ S.f a->lV σ S.h S.n->nt<=a.tmps.size->
   a.defers=[]->n0+ops.size<=S.n->(∀q,k<=q->q<ops.size->S.h (n0+q)=none/\σ (n0+q)=none)->
   (∀a' w' I' σ',S.n<=S1.n->Step w I σ S.h n0 w' I' σ' S1.h S1.n->jw w' I' σ' S1.f a'->lV σ' S1.h S1.n->nt<=a'.tmps.size->a'.defers=[]->Q .normal a' w')->
   wpOps X.P ops Q (List.range' k (ops.size-k)) a w
 | [],k,S,a,w,I,σ,hl,he,R,F,fr,hs,hd,hn,hq,hQ=>by
  have hk:ops.size-k=0:=by
   have:=congrArg List.length hl;simp at this;omega
  rw[hk];simp only[gM,aA]at he;subst he;exact hQ a w I σ (aaI _) ((Step.refl R n0).Ts (aaI _) (by omega)) F fr hs hd
 |o::l,k,S,a,w,I,σ,hl,he,R,F,fr,hs,hd,hn,hq,hQ=>by
  have hk:k<ops.size:=by
   have:=congrArg List.length hl;simp at this;omega
  have ln:ops[k]?=some o:=by
   have:=congrArg (fun l=>l[0]?) hl;simp only[adR,abX,adU]at this;rw[<-Array.getElem?_toList];exact this.symm
  have Ah:l=ops.toList.drop (k+1):=by
   have:=congrArg List.tail hl;simpa using this
  have hoB:UR X nt o=true:=hB o (by grind);have Zf: ∀t,o.dst=some t->t<a.tmps.size:=fun t ht=>abY (Tv hoB t ht) hs;rw[show ops.size-k=(ops.size-(k+1))+1 by omega,List.range'_succ];simp only[wpOps,ln];have run: ∀{S2:St},fq X C bZ n0 k o S=some S2->gM X C bZ (ops.toList.map (·.dst)) n0 (k+1) l S2=some S1->
    o.wp X.P a w (wpOps X.P ops Q (List.range' (k+1) (ops.size-(k+1)))) Q:=by
   intro S2 h1 h2;refine Oper.wp_mono (fun a' w' hh=> ?_) (MW hC hK hG hoB h1 R F fr (hq k (aaI _) hk).1 (hq k (aaI _) hk).2 (by omega) Q);obtain⟨u,v,I',σ',rfl,mK,hf,kH,hle,nU,Qa⟩:=hh;refine KP hC hK hG hB l (k+1) S2 _ w' I' σ' Ah h2 kH.rel ((F.ext kH.ext).ai4 mK o.dst Zf hf) nU (by rw[BE];omega) (by rw[put_defers];omega) (by omega) (fun q h1 h2=>Qa q (by omega) (by omega) (hq q (by omega) h2).1 (hq q (by omega) h2).2) (fun a' w'' I'' σ'' Ei yx hF' Zg oG EM=> ?_);exact hQ a' w'' I'' σ'' (by omega) (kH.join yx (aaI _) Ei) hF' Zg oG EM
  have skip:gM X C bZ (ops.toList.map (·.dst)) n0 (k+1) l (S.set o.dst (.dP []))=some S1->wpOps X.P ops Q (List.range' (k+1) (ops.size-(k+1))) (a.put o.dst undef) w:=by
   intro h2;refine KP hC hK hG hB l (k+1) _ _ w I σ Ah h2 (by rw[fm];exact R) (F.ai4 Jr o.dst Zf rfl) (by rw[fm,hX];omega) (by rw[BE];omega) (by rw[put_defers];omega) (by rw[hX];omega) (fun q h1 h2=>by rw[fm];grind) (fun a' w'' I'' σ'' Ei yx hF' Zg oG EM=> ?_);rw[fm]at yx;rw[hX]at Ei;exact hQ a' w'' I'' σ'' Ei yx hF' Zg oG EM
  simp only[gM]at he;split at he
  ·rename_i hg;have hw:Region.wanted o (yielded ops a.tmps)=true:=by simp[Region.wanted,hg]
   grind
  ·rename_i j want hg;split at he
   case h_2=>grind
   rename_i d EM;have Qb:=FM F hg EM
   grind
end
def yy{f g:α->β}{l:List α}(h: ∀x∈l,f x=g x):l.map f=l.map g:=aeG h
def rf{X:Env}{bZ:FuncId}{o:Oper}{ρ ρ':Operand->V}(h: ∀x∈o.op.operands.toList,ρ x=ρ' x)(h0:bh)(n0:Nat):cI X bZ o ρ h0 n0=cI X bZ o ρ' h0 n0:=by
 obtain⟨dst,op,ty,pos,after,guard⟩:=o;have aoc: ∀ps:Array (Nat×Operand),(∀x∈ps.toList.map (·.2),ρ x=ρ' x)->(ps.toList.map fun p=>(p.1,ρ p.2))=ps.toList.map fun p=>(p.1,ρ' p.2):=fun ps hp=>
  aeG fun p hm=>by grind
 have opt: ∀q:Option Operand,(∀x,q=some x->ρ x=ρ' x)->q.map ρ=q.map ρ':=fun q hq=>by
  cases q with
  |none=>rfl
  |some x=>grind
 cases op with
 |build t ps=>
  have:=aoc ps (by simpa[Op.operands] using h);simp only[cI,this]
 |buildSlice t n ps=>
  have:=aoc ps (by simpa[Op.operands] using h);simp only[cI,this]
 |makeFunc c p q=>
  cases c with
  |func g=>
   have h1:p.toList.map ρ=p.toList.map ρ':=yy fun x hx=>h x (by simp[Op.operands]at hx⊢;grind);have h2:q.toList.map ρ=q.toList.map ρ':=yy fun x hx=>h x (by simp[Op.operands]at hx⊢;grind);simp only[cI,h1,h2]
  |_=>simp only[cI]
 |slice t x lo hi mx=>
  have hx:ρ x=ρ' x:=h x (by simp[Op.operands]);have h1:=opt lo (fun y hy=>h y (by simp[Op.operands,hy]));have h2:=opt hi (fun y hy=>h y (by simp[Op.operands,hy]));cases mx with
  |none=>
   simp only[cI,hx,h1,h2]
   grind
  |some m=>
   have h3:ρ m=ρ' m:=h m (by simp[Op.operands]);simp only[cI,hx,h1,h2,h3];cases ρ' x with
   |cx id s n=>grind
   |ptr id i f=>grind
   |_=>rfl
 |call c=>
  obtain⟨U7,args,mH⟩:=c;have ha:args.toList.map ρ=args.toList.map ρ':=yy fun x hx=>h x (by simp[Op.operands,Call.operands]at hx⊢;grind);cases U7 with
  |builtin b=>cases b<;>simp only[cI,ha]
  |_=>simp only[cI]
 |_=>first
  |(simp only[cI];done)
  |(simp only[Op.operands,afB,aeS,or_false,forall_eq_or_imp,forall_eq]at h;simp only[cI,h])
def Js{h h':bh}{v v':V}(hg:oV h v=some (v',h')): ∀id,h id=none->h' id=none:=by
 intro id fa;unfold oV at hg;split at hg
 ·split at hg
  ·split at hg
   ·simp only[aA,bM]at hg;rw[<-hg.2];grind [aR]
   grind
  grind
 grind
def Jt: ∀{cs rS:List V} {h h':bh},gd h cs=some (rS,h')-> ∀id,h id=none->h' id=none
 | [],rS,h,h',hg,id,fa=>by
  simp only[gd,aA,bM]at hg
  grind
 |c::cs,rS,h,h',hg,id,fa=>by
  simp only[gd]at hg;split at hg
  ·rename_i h1;split at hg
   ·rename_i h2;simp only[aA,bM]at hg;rw[<-hg.2];exact Jt h2 id (Js h1 id fa)
   grind
  grind
def FN{h h':bh}{v v':V}(hg:qs h v=some (v',h')): ∀id,h id=none->h' id=none:=by
 unfold qs at hg;split at hg
 ·split at hg
  ·rename_i h1;simp only[aA,bM]at hg;rw[<-hg.2];exact Jt h1
  grind
 ·exact Js hg
def CF: ∀{ps x9:List (Nat×V)} {h h':bh},mG h ps=some (x9,h')-> ∀id,h id=none->h' id=none
 | [],x9,h,h',hg,id,fa=>by
  simp only[mG,aA,bM]at hg
  grind
 |(i,v)::ps,x9,h,h',hg,id,fa=>by
  simp only[mG]at hg;split at hg
  ·rename_i h1;split at hg
   ·rename_i h2;simp only[aA,bM]at hg;rw[<-hg.2];exact CF h2 id (FN h1 id fa)
   grind
  grind
def Zh{h h':bh}{x v':V}(hg:(if k=true then some (x,h) else qs h x)=some (v',h')): ∀id,h id=none->h' id=none:=by
 intro id fa;split at hg
 ·grind
 ·exact FN hg id fa
def MX{X:Env}{bZ:FuncId}{o:Oper}{ρ:Operand->V}{h0 h1:bh}{n0 n1:Nat}{v:V}(h:cI X bZ o ρ h0 n0=some (v,h1,n1)): ∀id,id≠n0->h0 id=none->h1 id=none:=by
 intro id kz fa;have hu: ∀(hh:bh) ob,hh id=none->aR hh n0 (some ob) id=none:=fun hh ob hz=>by grind [aR]
 have hk: ∀(hh:bh) i,hh id=none->aR hh i none id=none:=fun hh i hz=>by grind [aR]
 have hs: ∀(hh:bh) i (ob oE:Ob),hh i=some oE->hh id=none->aR hh i (some ob) id=none:=fun hh i ob oE h1 hz=>by grind [aR]
 unfold cI at h;dsimp (zeta:=true) only at h;repeat' split at h
 all_goals first
  |(cases h;done)
  |(
   obtain⟨_,rfl,_⟩:=h;first
    |exact fa
    |exact hu _ _ fa
    |exact hk _ _ fa
    |exact hu _ _ (hk _ _ fa)
    |exact hu _ _ (CF (by omega) id fa)
    |exact CF (by omega) id fa
    |exact hs _ _ _ _ (by assumption) fa
    |exact hs _ _ _ _ (by omega) (Zh (by omega) id fa))
  |(obtain⟨_,_,_,_,_,_,rfl,_⟩:=tO h;grind)
def o5(h G:bh):bh:=fun i=>match G i with|some ob=>some ob|none=>h i
def uG(h G:bh)(n:Nat):Prop:= ∀i,G i≠none->h i=none/\i<n
def o7(X:Env)(C:jm):Prop:= ∀g args h k v h' k' G,X.low g=false->uG h G k->C g args h k=some (v,h',k')->C g args (o5 h G) k=some (v,o5 h' G,k')
def rh(X:Env)(C:jm):Prop:= ∀g args h k v h' k',C g args h k=some (v,h',k')->L2 X g k<=k'/\ ∀id,id<L2 X g k->h id=none->h' id=none
def isConst:Operand->Bool
 | .const _=>true
 |_=>false
def MY(v:Value):(∀i s l,wS v≠ .cx i s l):=by
 intro i s l e;unfold wS at e
 grind
def DD{v v':V}{h h1:bh}(hv: ∀i s l,v≠ .cx i s l)(hg:oV h v=some (v',h1)):h1=h/\ ∀h',oV h' v=some (v',h'):=by
 unfold oV at hg⊢
 grind
def DE: ∀{cs rS:List V} {h h1:bh},(∀c∈cs,∀i s l,c≠ .cx i s l)->gd h cs=some (rS,h1)->h1=h/\ ∀h',gd h' cs=some (rS,h')
 | [],rS,h,h1,_,hg=>by
  obtain⟨rfl,rfl⟩:=hg;exact⟨rfl,fun h'=>rfl⟩
 |c::cs,rS,h,h1,hv,hg=>by
  simp only[gd]at hg;split at hg
  case h_2=>grind
  rename_i c' h2 hc;obtain⟨rfl,e1⟩:=DD (hv c (acT ..)) hc;split at hg
  case h_2=>grind
  rename_i cs2 h3 AF;obtain⟨rfl,e2⟩:=DE (fun x hx=>hv x (ads _ hx)) AF;obtain⟨rfl,rfl⟩:=hg;exact⟨rfl,fun h'=>by simp only[gd,e1,e2]⟩
def Qc{v':V}{h h1:bh}(hg:qs h (vV u)=some (v',h1)):h1=h/\ ∀h',qs h' (vV u)=some (v',h'):=by
 by_cases hu: ∃cs,u= .agg cs
 ·obtain⟨cs,rfl⟩:=hu;have e:vV (.agg cs)= .agg (cs.toList.map wS):=rfl;rw[e]at hg⊢;simp only[qs]at hg;split at hg
  case h_2=>grind
  rename_i rS h2 hl;obtain⟨rfl,e2⟩:=DE (fun c hc i s l e=>by
   obtain⟨x,_,rfl⟩:=List.mem_map.1 hc;exact MY x i s l e) hl
  obtain⟨rfl,rfl⟩:=hg;exact⟨rfl,fun h'=>by simp only[qs,e2]⟩
 ·have e:vV u=wS u:=by cases u<;>first|rfl|grind
  have hna: ∀cs,wS u≠ .agg cs:=by
   intro cs e;unfold wS at e;split at e<;>cases e
  have hg0: ∀h,qs h (wS u)=oV h (wS u):=fun h=>by
   unfold qs
   grind
  rw[e]at hg⊢;rw[hg0]at hg;obtain⟨h1,h2⟩:=DD (MY u) hg
  grind
def DF{ρ:Operand->V}(hρ: ∀v,ρ (.const v)=vV v): ∀{ps:List (Nat×Operand)} {x9:List (Nat×V)} {h h1:bh},ps.all (fun p=>isConst p.2)=true->mG h (ps.map fun p=>(p.1,ρ p.2))=some (x9,h1)->h1=h/\ ∀h',mG h' (ps.map fun p=>(p.1,ρ p.2))=some (x9,h')
 | [],x9,h,h1,_,hg=>by
  obtain⟨rfl,rfl⟩:=hg;exact⟨rfl,fun h'=>rfl⟩
 |(i,x)::ps,x9,h,h1,ha,hg=>by
  simp only[aeA,aaF]at ha;simp only[aaV,mG]at hg;cases x with
  |const u=>
   rw[hρ]at hg;split at hg
   case h_2=>grind
   rename_i c' h2 hc;obtain⟨rfl,e1⟩:=Qc hc;split at hg
   case h_2=>grind
   rename_i cs2 h3 AF;obtain⟨rfl,e2⟩:=DF hρ ha.2 AF;obtain⟨rfl,rfl⟩:=hg;exact⟨rfl,fun h'=>by simp only[aaV,mG,hρ,e1,e2]⟩
  |_=>exact absurd ha.1 (by simp[isConst])
def cls(X:Env)(bZ:FuncId)(o:Oper):Nat:=
 match o.op with
 | .move _| .assign _| .pick .. | .build .. | .nilCheck _| .binOp .. | .unOp .. | .makeFunc .. | .fieldAddr .. | .index .. | .field .. | .extract .. =>0
 | .convert _ d _=>if(X.ti d).isStr=true then 1 else if(X.ti d).kind.isSome=true then 0 else 2
 | .call ⟨.builtin .len,_,_⟩| .call ⟨.builtin .min,_,_⟩| .call ⟨.builtin .max,_,_⟩=>0
 | .load .. | .indexAddr .. =>1
 | .slice t .. =>if(X.ti t).arr.isSome=true then 3 else 1
 | .call ⟨.value (.func g),args,_⟩=>if(X.clone g).isNone&& !X.ie g&& !X.gq g&& (o.dst.elim [] (X.mask bZ)).isEmpty&& !o.dst.any (X.oR bZ) then(if args.isEmpty then 0 else 1) else 3
 | .alloc _| .box .. | .makeSlice .. =>2
 | .buildSlice t _ ps=>if X.fZ bZ (X.ti t).elem then 2 else if o.dst.any (X.flat bZ) then 0 else if ps.isEmpty then(if o.dst.any (X.oR bZ) then 2 else 0) else if ps.toList.all (fun p=>isConst p.2)&& !o.dst.any (X.oR bZ) then 0 else 3
 |_=>3
def Sub(h h':bh):Prop:= ∀id ob,h id=some ob->h' id=some ob
section
variable {X:Env} {bZ:FuncId} {o:Oper} {ρ:Operand->V} {h h1:bh} {n n1:Nat} {v:V}
theorem core0(hρ: ∀v,ρ (.const v)=vV v)(hc:cls X bZ o=0)(he:cI X bZ o ρ h n=some (v,h1,n1)):h1=h/\ ∀h' n',cI X bZ o ρ h' n'=some (v,h',n'):=by
 obtain⟨dst,op,ty,pos,after,guard⟩:=o;cases op with
 |call c=>
  obtain⟨U7,args,mH⟩:=c;cases U7 with
  |value x=>simp[cI]at he
  |builtin b=>
   cases b with
   |len|min|max=>
    unfold cI at he⊢;dsimp only at he⊢;repeat' split at he
    all_goals grind
   |_=>simp[cls]at hc
  |_=>simp[cI]at he
 |makeFunc c p q=>
  cases c<;>simp only[cI,aA,bM,reduceCtorEq]at he;obtain⟨rfl,rfl,rfl⟩:=he;exact⟨rfl,fun h' n'=>by simp only[cI]⟩
 |convert u0 u1 x0=>
  simp only[cls]at hc;split at hc
  ·omega
  split at hc
  case isFalse=>omega
  rename_i hkd;simp only[cI]at he⊢;split at he
  ·grind
  ·grind
  grind
 |move|assign|pick|build|nilCheck|binOp|unOp|fieldAddr|index|field|extract=>
  unfold cI at he⊢;dsimp only at he⊢;repeat' split at he
  all_goals grind
 |buildSlice t m ps=>
  simp only[cls]at hc;split at hc
  ·omega
  ·rename_i hk;by_cases wW:dst.any (X.flat bZ)=true
   ·simp only[cI,hk,aaM,if_false,wW,if_true]at he⊢;split at he
    case h_2=>grind
    rename_i l h2 hg;split at he
    case h_2=>grind
    grind
   rw[if_neg wW]at hc;split at hc
   ·rename_i hps;split at hc
    ·omega
    ·rename_i oT;have FO:ps.toList=[]:=by simpa using hps
     simp only[cI,hk,wW,aaM,if_false,FO,abM,mG,qD,oT,aA,bM]at he;obtain⟨rfl,rfl,rfl⟩:=he;exact⟨rfl,fun h' n'=>by simp only[cI,hk,wW,aaM,if_false,FO,abM,mG,qD,oT]⟩
   ·split at hc
    case isFalse=>omega
    rename_i s9;simp only[aaF,aaZ]at s9;simp only[cI,hk,wW,aaM,if_false]at he⊢;split at he
    case h_2=>grind
    rename_i l h2 hg;obtain⟨rfl,e1⟩:=DF hρ s9.1 hg
    grind
 |slice t x lo hi mx=>simp only[cls]at hc;grind
 |_=>simp[cls]at hc
theorem Zi(hc:cls X bZ o=1)(kz: ∀x args mH,o.op≠ .call ⟨.value x,args,mH⟩)(he:cI X bZ o ρ h n=some (v,h1,n1)):h1=h/\ ∀h' n',Sub h h'->cI X bZ o ρ h' n'=some (v,h',n'):=by
 obtain⟨dst,op,ty,pos,after,guard⟩:=o;cases op with
 |call c=>
  obtain⟨U7,args,mH⟩:=c;cases U7 with
  |value x=>exact absurd rfl (kz x args mH)
  |builtin b=>cases b<;>simp[cls]at hc
  |_=>simp[cI]at he
 |slice t x lo hi mx=>
  simp only[cI]at he;split at he
  case isFalse=>cases he
  rename_i wY;cases hx:ρ x with
  |sl c es=>
   simp only[hx]at he;cases mx with
   |none=>
    simp only at he;repeat' split at he
    all_goals first
     |(cases he;done)
     |(
      simp only[aA,bM]at he;obtain⟨rfl,rfl,rfl⟩:=he;refine⟨rfl,fun h' n' hs=> ?_⟩;simp only[cI];rw[if_pos wY];clear wY;first
       |(simp only[*,if_true];done)
       |(simp_all only[if_true];done)
       |(simp_all;done))
   |some m=>
    simp only at he;repeat' split at he
    all_goals first
     |(cases he;done)
     |(
      simp only[aA,bM]at he;obtain⟨rfl,rfl,rfl⟩:=he;refine⟨rfl,fun h' n' hs=> ?_⟩;simp only[cI];rw[if_pos wY];clear wY;first
       |(simp only[*,if_true];done)
       |(simp_all only[if_true];done)
       |(simp_all;done))
  |cx id s m=>
   simp only[hx]at he;cases gG:h id with
   |none=>cases mx<;>simp[gG]at he
   |some ob=>
   cases mx with
   |none=>
    simp only[gG]at he;repeat' split at he
    all_goals first
     |(cases he;done)
     |(
      simp only[aA,bM]at he;obtain⟨rfl,rfl,rfl⟩:=he;refine⟨rfl,fun h' n' hs=> ?_⟩;have U9:=hs _ _ gG;simp only[cI];rw[if_pos wY];clear wY gG;first
       |(simp only[*,if_true];done)
       |(simp_all only[if_true];done)
       |(simp_all;done))
   |some y=>
    simp only[gG]at he;repeat' split at he
    all_goals first
     |(cases he;done)
     |(
      simp only[aA,bM]at he;obtain⟨rfl,rfl,rfl⟩:=he;refine⟨rfl,fun h' n' hs=> ?_⟩;have U9:=hs _ _ gG;simp only[cI];rw[if_pos wY];clear wY gG;first
       |(simp only[*,if_true];done)
       |(simp_all only[if_true];done)
       |(simp_all;done))
  |str s=>
   simp only[hx]at he;cases mx with
   |none=>
    simp only at he;split at he
    ·rename_i hb;simp only[aA,bM]at he;obtain⟨rfl,rfl,rfl⟩:=he;refine⟨rfl,fun h' n' hs=> ?_⟩;simp only[cI];rw[if_pos wY];simp only[hx,hb]
    ·cases he
   |some m=>cases he
  |ptr id i f=>
   exfalso;have:=wY.2;rw[hx]at this;simp only[V.Br]at this;simp[cls,<-this]at hc
  |_=>simp[hx]at he
 |convert u0 u1 x0=>
  simp only[cls]at hc;split at hc
  case isFalse=>split at hc<;>cases hc
  rename_i kH;simp only[cI]at he⊢;cases hk:(X.ti u1).kind with
  |some k=>
   simp only[hk]at he⊢;cases hx:ρ x0<;>simp only[hx]at he⊢ <;>first|(cases he;done)|skip
   simp only[aA,bM]at he;obtain⟨rfl,rfl,rfl⟩:=he;exact⟨rfl,fun _ _ _=>rfl⟩
  |none=>
   simp only[hk]at he⊢;split at he
   case isFalse=>exact absurd (tO he).1 (by simp[kH])
   rename_i hs2;split at he
   case h_2=>cases he
   rename_i es kx tw;split at he
   case h_2=>cases he
   rename_i bs XZ;simp only[aA,bM]at he;obtain⟨rfl,rfl,rfl⟩:=he;refine⟨rfl,fun h' n' hs=> ?_⟩;have a8t:elems h' (ρ x0)=some (es,kx):=by
    cases hx:ρ x0 with
    |cx id s l=>
     rw[hx]at tw;cases gG:h id with
     |none=>simp[elems,gG]at tw
     |some ob=>simp only[elems,gG]at tw⊢;simp only[hs _ _ gG];exact tw
    |_=>rw[hx]at tw;exact tw
   rw[if_pos hs2];simp only[a8t,XZ]
 |load|indexAddr=>
  unfold cI at he⊢;dsimp only at he⊢;repeat' split at he
  all_goals first
   |(cases he;done)
   |(
    simp only[aA,bM]at he;obtain⟨rfl,rfl,rfl⟩:=he;refine⟨rfl,fun h' n' hs=> ?_⟩;first
     |(simp only[*,if_true];done)
     |(simp only[*,hs _ _ (by assumption),if_true];done)
     |(simp[*];done)
     |(simp[*,hs _ _ (by assumption)];done))
 |buildSlice t m ps=>
  simp only[cls]at hc;split at hc
  ·cases hc
  ·split at hc
   ·cases hc
   split at hc
   ·split at hc<;>cases hc
   ·split at hc<;>cases hc
 |_=>simp[cls]at hc
theorem aoe(hc:cls X bZ o=2)(he:cI X bZ o ρ h n=some (v,h1,n1)): ∃ob,h1=aR h n (some ob)/\ ∀h',cI X bZ o ρ h' n=some (v,aR h' n (some ob),n+1):=by
 obtain⟨dst,op,ty,pos,after,guard⟩:=o;cases op with
 |call c=>
  obtain⟨U7,args,mH⟩:=c;cases U7 with
  |value x=>simp[cI]at he
  |builtin b=>cases b<;>simp[cls]at hc
  |_=>simp[cI]at he
 |alloc t=>
  obtain⟨rfl,rfl,rfl⟩:=he;exact⟨_,rfl,fun h'=>rfl⟩
 |box t x=>
  simp only[cI]at he;split at he
  ·rename_i hf;obtain⟨rfl,rfl,rfl⟩:=he;exact⟨_,rfl,fun h'=>by simp only[cI,hf,if_true]⟩
  grind
 |makeSlice t l c=>
  simp only[cI]at he;split at he
  ·rename_i p q hl Cv;split at he
   ·rename_i hb;obtain⟨rfl,rfl,rfl⟩:=he;exact⟨_,rfl,fun h'=>by simp only[cI,hl,Cv];grind⟩
   grind
  grind
 |buildSlice t m ps=>
  simp only[cls]at hc;split at hc
  ·rename_i hk;simp only[cI,hk,if_true]at he;split at he
   ·rename_i es hf;obtain⟨rfl,rfl,rfl⟩:=he;exact⟨_,rfl,fun h'=>by simp only[cI,hk,if_true,hf]⟩
   grind
  ·rename_i hk;split at hc
   ·omega
   rename_i wW;split at hc
   ·rename_i hps;split at hc
    ·rename_i oT;have FO:ps.toList=[]:=by simpa using hps
     simp only[cI,hk,wW,aaM,if_false,FO,abM,mG,qD,oT,if_true,aA,bM]at he;obtain⟨rfl,rfl,rfl⟩:=he;exact⟨_,rfl,fun h'=>by simp only[cI,hk,wW,aaM,if_false,FO,abM,mG,qD,oT,if_true]⟩
    omega
   grind
 |slice t x lo hi mx=>simp only[cls]at hc;grind
 |convert u0 u1 x0=>
  simp only[cls]at hc;split at hc
  ·omega
  rename_i kH;split at hc
  ·omega
  rename_i hkd;have hk:(X.ti u1).kind=none:=by simpa using hkd
  have yx:(X.ti u1).isStr=false:=by simpa using kH
  simp only[cI,hk,yx,aaM,false_and,if_false]at he⊢;obtain⟨_,Bn,s1,hv1,hl,rfl,rfl,rfl⟩:=tO he;exact⟨_,rfl,fun h'=>by simp[hv1,Mg,Bn,hl]⟩
 |_=>simp[cls]at hc
theorem Vc{h':bh}(hs:Sub h h'): ∀{d:Nat} {v v':V},cy h d v=some v'->cy h' d v=some v':=by
 intro d;induction d with
 |zero=>
  intro v v' ht;cases v with
  |fn g a b=>cases a<;>cases b<;>simp_all [cy]
  |_=>first|(simp[cy]at ht;done)|(simpa[cy] using ht)
 |succ d ih=>
  have key: ∀{cs l:List V},cF (cs.map (cy h d))=some l->cF (cs.map (cy h' d))=some l:=by
   intro cs;induction cs with
   |nil=>grind
   |cons c cs ih2=>
    intro l hl;simp only[aaV]at hl⊢;cases hc:cy h d c with
    |none=>simp[hc,cF]at hl
    |some c'=>
     simp only[hc,cF]at hl;split at hl
     ·rename_i l' Ah;simp only[cF,ih hc,ih2 Ah];omega
     grind
  intro v v' ht;cases v with
  |agg cs=>
   obtain⟨l,rfl,hl⟩:=rY ht;rw[cy]
   grind
  |dP cs=>
   obtain⟨l,rfl,hl⟩:=zC ht;rw[cy]
   grind
  |cx id s l=>
   rw[cy]at ht⊢;split at ht
   ·rename_i ob gG;rw[hs _ _ gG]
    grind
   grind
  |fn g a b=>cases a<;>cases b<;>simp_all [cy]
  |_=>first|(simp[cy]at ht;done)|(simpa[cy] using ht)
theorem yz{h':bh}(hs:Sub h h'){d:Nat}: ∀{l r:List V},cF (l.map (cy h d))=some r->cF (l.map (cy h' d))=some r
 | [],_,hl=>hl
 |c::cs,r,hl=>by
  simp only[aaV]at hl⊢;cases hc:cy h d c with
  |none=>simp[hc,cF]at hl
  |some c'=>
   simp only[hc,cF]at hl;split at hl
   ·rename_i l' Ah;simp only[cF,Vc hs hc,yz hs Ah];omega
   grind
end
section
variable {X:Env} {C:jm} {bZ:FuncId} {dst:Option Nat} {g:FuncId} {args:List V} {S S1:St}
theorem asb(he:vj X C bZ dst g args S=some S1): ∃v,S1=({S with h:=S1.h,n:=S1.n}:St).set dst v/\
  ∀S':St,S'.h=S.h->S'.n=S.n->vj X C bZ dst g args S'=some (({S' with h:=S1.h,n:=S1.n}:St).set dst v):=by
 unfold vj at he⊢;have hn: ∀(S:St) v,(S.set dst v).n=S.n:=fun S v=>hX S dst v;have hh: ∀(S:St) v,(S.set dst v).h=S.h:=fun S v=>fm S dst v;split at he
 case h_2=>grind
 split at he
 case h_2=>grind
 rename_i ob gG;split at he
 case h_2=>grind
 rename_i e Zb;split at he
 case isFalse=>grind
 rename_i hk;split at he
 case h_2=>grind
 rename_i R hR;split at he
 case h_2=>grind
 rename_i bx7 h1 hg;split at he
 case h_2=>grind
 rename_i v h n hc;split at he
 case h_2=>grind
 grind
theorem Zj(he:mT X C bZ dst g args S=some S1): ∃v,S1=({S with h:=S1.h,n:=S1.n}:St).set dst v/\
  ∀S':St,S'.h=S.h->S'.n=S.n->mT X C bZ dst g args S'=some (({S' with h:=S1.h,n:=S1.n}:St).set dst v):=by
 unfold mT at he⊢;have hn: ∀(S:St) v,(S.set dst v).n=S.n:=fun S v=>hX S dst v;have hh: ∀(S:St) v,(S.set dst v).h=S.h:=fun S v=>fm S dst v;split at he
 case h_2=>grind
 grind
theorem Zk(he:gV X C bZ dst g args S=some S1): ∃v,S1=({S with h:=S1.h,n:=S1.n}:St).set dst v/\
  ∀S':St,S'.h=S.h->S'.n=S.n->gV X C bZ dst g args S'=some (({S' with h:=S1.h,n:=S1.n}:St).set dst v):=by
 unfold gV at he⊢;have hn: ∀(S:St) v,(S.set dst v).n=S.n:=fun S v=>hX S dst v;have hh: ∀(S:St) v,(S.set dst v).h=S.h:=fun S v=>fm S dst v;split at he
 ·split at he
  case h_2=>grind
  split at he
  case h_2=>grind
  rename_i es kx tw;split at he
  ·grind
  rename_i nc;simp only[aA]at he;subst he;refine⟨_,by rw[hh,hn];rfl,fun S' h1 h2=> ?_⟩;simp only[h1,tw];rw[if_neg nc];simp only[St.new,h1,h2,hh,hn]
 ·split at he
  ·grind
  rename_i hb;split at he
  ·rename_i Bm;obtain⟨v,e1,e2⟩:=asb he
   grind
  rename_i Bm;split at he
  ·rename_i HX;obtain⟨v,e1,e2⟩:=Zj he
   grind
  ·rename_i HX;split at he
   case h_2=>grind
   rename_i bx7 has;split at he
   ·grind
   ·rename_i oT;split at he
    case h_2=>grind
    rename_i v h n hc;split at he
    case h_2=>grind
    rename_i v' KO;split at he
    ·grind
    rename_i nc;simp only[aA]at he;subst he;refine⟨v'.lP,by simp_all,fun S' h1 h2=> ?_⟩;simp only[hb,Bm,HX,aaM,if_false,h1,has,oT,hc,KO,hh,hn];rw[if_neg nc,<-h1,<-h2]
theorem Vd(hp:((X.clone g).isNone&& !X.ie g&& !X.gq g&& (dst.elim [] (X.mask bZ)).isEmpty&& !dst.any (X.oR bZ))=true)(he:gV X C bZ dst g args S=some S1): ∃v,S1=S.set dst v/\
  ∀S':St,Sub S.h S'.h->gV X C bZ dst g args S'=some (S'.set dst v):=by
 simp only[aaF,aaZ,Option.isNone_iff_eq_none]at hp;obtain⟨⟨⟨⟨pS,hb⟩,Bm⟩,HX⟩,oT⟩:=hp;unfold gV at he⊢;simp only[pS,hb,Bm,oT,HX,aeB,acF,aaM,if_false]at he⊢;split at he
 case h_2=>grind
 rename_i bx7 has;split at he
 case h_2=>grind
 rename_i v h n hc;split at he
 case h_2=>grind
 rename_i v' KO;split at he
 ·grind
 rename_i nc;simp only[aA]at he;subst he;refine⟨v'.lP,rfl,fun S' hs=> ?_⟩;simp only[yz hs has,hc,KO]
 grind
end
def Ve{X:Env}{C:jm}{bZ:FuncId}{dst:Option Nat}{g:FuncId}{S S1:St}(hp:((X.clone g).isNone&& !X.ie g&& !X.gq g&& (dst.elim [] (X.mask bZ)).isEmpty&& !dst.any (X.oR bZ))=true)(he:gV X C bZ dst g [] S=some S1): ∃v,S1=S.set dst v/\
  ∀S':St,gV X C bZ dst g [] S'=some (S'.set dst v):=by
 simp only[aaF,aaZ,Option.isNone_iff_eq_none]at hp;obtain⟨⟨⟨⟨pS,hb⟩,Bm⟩,HX⟩,oT⟩:=hp;unfold gV at he⊢;simp only[pS,hb,Bm,oT,HX,aeB,acF,aaM,if_false,abM,cF]at he⊢
 grind
section
variable {X:Env} {C:jm} {bZ:FuncId} {n0 j:Nat} {o:Oper} {S S1:St}
def Alike(o:Oper)(S S':St):Prop:= ∀x∈o.op.operands.toList,S'.ev x=S.ev x
theorem pn(kz: ∀x args mH,o.op≠ .call ⟨.value x,args,mH⟩):fq X C bZ n0 j o S=(match cI X bZ o S.ev S.h (n0+j) with
  |some (v,h,_)=>some (({S with h:=h}:St).set o.dst v)
  |none=>none):=by
 unfold fq
 grind
theorem ay7(hc:cls X bZ o=0)(he:fq X C bZ n0 j o S=some S1): ∃v,S1=S.set o.dst v/\ ∀S',Alike o S S'->fq X C bZ n0 j o S'=some (S'.set o.dst v):=by
 by_cases rO: ∃x args mH,o.op= .call ⟨.value x,args,mH⟩
 ·obtain⟨x,args,mH,ho⟩:=rO;simp only[cls,ho]at hc;cases x with
  |func g=>
   simp only at hc;split at hc
   ·rename_i hp;split at hc
    ·rename_i hem;have FO:args.toList=[]:=by simpa using hem
     have Cp: ∀S:St,S.ev (.func g)= .fn g [] []:=fun _=>rfl;unfold fq at he;simp only[ho,Cp,FO,abM,acX]at he;obtain⟨v,h1,h2⟩:=Ve hp he;refine⟨v,h1,fun S' ha=> ?_⟩;unfold fq
     grind
    omega
   omega
  |_=>grind
 have kz: ∀x args mH,o.op≠ .call ⟨.value x,args,mH⟩:=fun x args mH ho=>rO ⟨x,args,mH,ho⟩;rw[pn kz]at he;split at he
 case h_2=>grind
 rename_i v h m Cp;simp only[aA]at he;subst he;obtain⟨rfl,h2⟩:=core0 (fun _=>rfl) hc Cp;refine⟨v,rfl,fun S' ha=> ?_⟩;rw[pn kz,rf ha,h2]
theorem ay8(hc:cls X bZ o=1)(he:fq X C bZ n0 j o S=some S1): ∃v,S1=S.set o.dst v/\ ∀S',Alike o S S'->Sub S.h S'.h->fq X C bZ n0 j o S'=some (S'.set o.dst v):=by
 by_cases rO: ∃x args mH,o.op= .call ⟨.value x,args,mH⟩
 ·obtain⟨x,args,mH,ho⟩:=rO;simp only[cls,ho]at hc;cases x with
  |func g=>
   simp only at hc;split at hc
   ·rename_i hp;split at hc
    ·omega
    have Cp: ∀S:St,S.ev (.func g)= .fn g [] []:=fun _=>rfl;unfold fq at he;simp only[ho,Cp]at he;obtain⟨v,h1,h2⟩:=Vd hp he;refine⟨v,h1,fun S' ha hs=> ?_⟩;have jL:args.toList.map S'.ev=args.toList.map S.ev:=yy fun x hx=>ha x (by simp[ho,Op.operands,Call.operands]at hx⊢;grind);unfold fq
    grind
   omega
  |_=>grind
 ·have kz: ∀x args mH,o.op≠ .call ⟨.value x,args,mH⟩:=fun x args mH ho=>rO ⟨x,args,mH,ho⟩;rw[pn kz]at he;split at he
  case h_2=>grind
  rename_i v h m Cp;simp only[aA]at he;subst he;obtain⟨rfl,h2⟩:=Zi hc kz Cp;refine⟨v,rfl,fun S' ha hs=> ?_⟩;rw[pn kz,rf ha,h2 _ _ hs]
theorem ay9(hc:cls X bZ o=2)(he:fq X C bZ n0 j o S=some S1): ∃v ob,S1=({S with h:=aR S.h (n0+j) (some ob)}:St).set o.dst v/\
  ∀S',Alike o S S'->fq X C bZ n0 j o S'=some (({S' with h:=aR S'.h (n0+j) (some ob)}:St).set o.dst v):=by
 have kz: ∀x args mH,o.op≠ .call ⟨.value x,args,mH⟩:=by
  intro x args mH ho;simp only[cls,ho]at hc;cases x with
  |func g=>
   grind
  |_=>grind
 rw[pn kz]at he;split at he
 case h_2=>grind
 rename_i v h m Cp;simp only[aA]at he;subst he;obtain⟨ob,rfl,h2⟩:=aoe hc Cp;refine⟨v,ob,rfl,fun S' ha=> ?_⟩;rw[pn kz,rf ha,h2]
theorem aza(he:fq X C bZ n0 j o S=some S1): ∃v,S1=({S with h:=S1.h,n:=S1.n}:St).set o.dst v/\
  ∀S',Alike o S S'->S'.h=S.h->S'.n=S.n->fq X C bZ n0 j o S'=some (({S' with h:=S1.h,n:=S1.n}:St).set o.dst v):=by
 by_cases rO: ∃x args mH,o.op= .call ⟨.value x,args,mH⟩
 ·obtain⟨x,args,mH,ho⟩:=rO;unfold fq at he;simp only[ho]at he;split at he
  case h_2=>grind
  rename_i g first E6 hx
  obtain⟨v,h1,h2⟩:=Zk he;refine⟨v,h1,fun S' ha hh hn=> ?_⟩;have jL:args.toList.map S'.ev=args.toList.map S.ev:=yy fun x hx=>ha x (by simp[ho,Op.operands,Call.operands]at hx⊢;grind);have AG:S'.ev x= .fn g first E6:=by rw[<-hx];exact ha x (by simp[ho,Op.operands,Call.operands])
  unfold fq
  grind
 ·have kz: ∀x args mH,o.op≠ .call ⟨.value x,args,mH⟩:=fun x args mH ho=>rO ⟨x,args,mH,ho⟩;rw[pn kz]at he;split at he
  case h_2=>grind
  rename_i v h m Cp;simp only[aA]at he;subst he;refine⟨v,by rw[fm,hX],fun S' ha hh hn=> ?_⟩;rw[pn kz,rf ha,hh,Cp,fm,hX,<-hn]
end
end Go.Abs
