/- Part of a proof: engine A21. -/
import Derived.Test.YtdngefmliibcgaaGreatM07
set_option linter.all false
set_option maxRecDepth 20000
set_option maxHeartbeats 20000000
namespace Go.Abs
open Go
variable  {u:Value}{want k:Bool}{α β:Type}
def YG{X:Env}{bY:FuncId}{o:Oper}{ρ:Operand->V}{h0 h1:bh}{n0 n1:Nat}{v:V}(h:cI X bY o ρ h0 n0=some (v,h1,n1)):n1=n0\/n1=n0+1:=by
 unfold cI at h;dsimp (zeta:=true) only at h;repeat' split at h
 all_goals first
  |(cases h;done)
  |(simp only[aA,bM]at h;exact .inl h.2.2.symm)
  |(simp only[aA,bM]at h;exact .inr h.2.2.symm)
  |(obtain⟨_,_,_,_,_,_,_,hn⟩:=tO h;omega)
section
variable {w w1 w2 w':World} {I I1 I2 I':Nat->Prop} {σ σ1 σ2 σ':jt} {h h1 h2 h':bh} {n n1 n2 n' p m m':Nat}
theorem Step.join(s:Step w I σ h n w1 I1 σ1 h1 n1)(s':Step w1 I1 σ1 h1 p w2 I2 σ2 h2 n2)(hp:n<=p)(hn:n1<=n2):Step w I σ h n w2 I2 σ2 h2 n2 where
 ext:=s.ext.trans s'.ext
 rel:=s'.rel
 os:=s'.os.trans s.os
 tape:=s'.tape.trans s.tape
 output:=s'.output.trans s.output
 size:=abG s.size s'.size
 frame:=fun b hb ho=>(s'.frame b (abS hb s.size) (fun hx=>by
  rcases s.own b hx with hx|hx
  ·omega
  grind)).trans (s.frame b hb ho)
 own:=fun b hb=>by
  rcases s'.own b hb with hx|hx
  ·exact .inl (abG s.size hx)
  ·exact s.own b hx
 vS:=fun b hb=>by
  rcases s'.vS b hb with hx|hx|hx
  ·exact s.vS b hx
  ·exact .inr (.inl (abG s.size hx))
  ·exact .inr (s.own b hx)
 le:=abG s.le hn
 sigs:=fun id fg=>by
  rw[s'.sigs id (by omega),s.sigs id (by omega)]
 news:=fun id fg hz=>by
  exact s'.news id (by omega) (s.news id (by omega) hz)
theorem Step.SR(s:Step w I σ h n w' I' σ' h' n')(hm:m<=n)(SS:n'<=m'):Step w I σ h m w' I' σ' h' m':=
 {s with
  le:=by have:=s.le;omega
  sigs:=fun id fg=>s.sigs id (by omega)
  news:=fun id fg hz=>s.news id (by omega) hz}
theorem iN.append{cs ds:List V}{us vs:List Value}(hc:iN w I σ cs us)(hd:iN w I σ ds vs):iN w I σ (cs++ds) (us++vs):=by
 induction cs generalizing us with
 |nil=>subst hc;grind
 |cons c cs ih=>
  obtain⟨u,r,rfl,h1,h2⟩:=hc;exact⟨u,r++vs,rfl,h1,ih h2⟩
end
def vZ(X:Env)(g:FuncId):Prop:= ∃fn b,X.P.funcs[g]?=some fn/\fn.body=some b/\(fn.name== "runtime.NumGoroutine")=false
def UJ{X:Env}{g:FuncId}(hg:vZ X g)(args:Array Value)(w:World):(callFunc g args).run X.P w= .ok (.enter g args) w:=by
 obtain⟨fn,b,hf,hb,hn⟩:=hg;simp only[beq_eq_false_iff_ne,ne_eq]at hn;simp[callFunc,hf,hb,hn]
def ah4(S:St)(m:Nat):({S with n:=m}:St).ev=S.ev:=by
 funext x;cases x<;>rfl
section
variable {X:Env} {C:jm} {bY:FuncId} {n0 j nt:Nat} {o:Oper} {S S1:St} {w:World} {I:Nat->Prop} {σ:jt} {a:Act}
def Left(o:Oper)(a:Act)(w:World)(I:Nat->Prop)(σ:jt)(S S1:St)(n0 j:Nat)(a':Act)(w':World):Prop:=
 ∃u v I' σ',a'=a.put o.dst u/\dB w' I' σ' v u/\S1.f=(S.set o.dst v).f/\Step w I σ S.h n0 w' I' σ' S1.h S1.n/\S.n<=S1.n/\lQ σ' S1.h S1.n/\
  (∀q,q≠j->n0+q<S.n->S.h (n0+q)=none->σ (n0+q)=none->S1.h (n0+q)=none/\σ' (n0+q)=none)
theorem Mq (hC:qY X C) (hK:uI X) (hG: ∀bY dst g args S S1,gU X C bY dst g args S=some S1->vZ X g) (hB:Ur X nt o=true) (he:fu X C bY n0 j o S=some S1)
  (R:Rel w I σ S.h) (F:jv w I σ S.f a) (fr:lQ σ S.h S.n) (hn:S.h (n0+j)=none) (ve:σ (n0+j)=none) (gY:n0+j<S.n) (Q:Exit->Act->World->Prop):
  o.wp X.P a w (Left o a w I σ S S1 n0 j) Q:=by
 have op:(∀x args mM,o.op≠ .call ⟨.value x,args,mM⟩)->o.wp X.P a w (Left o a w I σ S S1 n0 j) Q:=by
  intro kC;unfold fu at he;split at he
  ·grind
  ·split at he
   case h_2=>grind
   rename_i v0 h0 n1 hc;simp only[aA]at he;subst he;have LX:=YG hc;have Ci:ahi X bY o {S with n:=n0+j}=some (({S with h:=h0,n:=n1}:St).set o.dst v0):=by
    unfold ahi;rw[ah4,hc]
   obtain⟨nx,w',I',σ',u,v,kn,hnx,kD,hf,mQ⟩:=aqp (S:={S with n:=n0+j}) hB R F hn ve bY Ci;rw[fm,gZ]at kD;have ah5:Left o a w I σ S (({S with h:=h0}:St).set o.dst v0) n0 j (a.put o.dst u) w':=by
    refine⟨u,v,I',σ',rfl,mQ,?_,?_,by rw[gZ];grind,?_,fun q hq SU h1 h2=>⟨?_,?_⟩⟩
    ·have e1:(({S with h:=h0,n:=n1}:St).set o.dst v0).f=(({S with h:=h0}:St).set o.dst v0).f:=by cases o.dst<;>rfl
     have e2:(({S with n:=n0+j}:St).set o.dst v).f=(S.set o.dst v).f:=by cases o.dst<;>rfl
     grind
    ·rw[fm,gZ];exact kD.SR (by simp) (by grind)
    ·intro id fg;rw[gZ]at fg;have:=fr id fg;rw[fm];refine⟨kD.news id (by grind) this.1,?_⟩;rw[kD.sigs id (by grind)];grind
    ·rw[fm];exact kD.news (n0+q) (by grind) h1
    ·rw[kD.sigs (n0+q) (by grind)];omega
   unfold Oper.wp;rw[kn];rcases hnx with rfl|⟨rfl,rfl⟩
   ·exact ah5
   ·exact ah5
 by_cases hc: ∃x args mM,o.op= .call ⟨.value x,args,mM⟩
 ·obtain⟨x,args,mM,ho⟩:=hc;unfold fu at he;simp only[ho]at he;have axo:oq o:=by
   unfold Ur at hB;rw[aaF,aaF]at hB;exact fun x hm=>List.all_eq_true.1 hB.1.2 x hm
  split at he
  case h_2=>grind
  rename_i g first EL hx
  have axp:=hG _ _ _ _ _ _ he;have hxr:dB w I σ (S.ev x) (a.eval x):=fj (S:=S) F (axo x (by simp[ho,Op.operands,Call.operands]));rw[hx]at hxr;obtain⟨us,vs,pO,h1,h2⟩:=hxr;have jK:iN w I σ (args.toList.map S.ev) (args.map a.eval).toList:=by
   rw[mP];refine⟨by simp,fun i c u hc hu=> ?_⟩;rw[abm]at hc;rw[acJ,aeH]at hu;cases hi:args[i]? with
   |none=>grind
   |some y=>
    rw[acJ,hi]at hc;rw[hi]at hu;simp at hc hu;subst hc;subst hu;exact fj (S:=S) F (axo y (by
     have:=Array.mem_of_getElem? hi;simp[ho,Op.operands,Call.operands,this]))
  have m8:iN w I σ (first++args.toList.map S.ev++EL) (us++args.map a.eval++vs).toList:=by
   simp only[Array.toList_append];exact(h1.append jK).append h2
  have kn:(execOp a.eval o).run X.P w= .ok (.enter g (us++args.map a.eval++vs)) w:=by
   simp only[execOp,ho,resolve,pO,Deferred.ofValue];simp[invoke,UJ axp]
  unfold Oper.wp;rw[kn];refine Calls.mono (YF hC hK he R fr _ m8) fun e w' hh=> ?_;obtain⟨u,v,I',σ',rfl,kD,hf,mQ⟩:=hh;refine⟨u,v,I',σ',rfl,mQ,hf,kD.SR (by omega) (aaI _),kD.le,kD.fresh fr,fun q hq SU h1 h2=>⟨kD.news _ (.inl SU) h1,?_⟩⟩;rw[kD.sigs _ (.inl SU)];omega
 grind
end
section
variable {X:Env} {C:jm} {bY:FuncId} {n0 nt:Nat} {ops:Array Oper}
theorem By(a:Act)(d:Option Nat)(u:Value):(a.put d u).tmps.size=a.tmps.size:=by cases d<;>simp[Act.put]
theorem put_defers(a:Act)(d:Option Nat)(u:Value):(a.put d u).defers=a.defers:=by cases d<;>rfl
theorem jv.ah6 {w:World} {I:Nat->Prop} {σ:jt} {S S1:St} {a:Act} (F:jv w I σ S.f a) {v:V}  (hr:dB w I σ v u) (d:Option Nat) (hd: ∀t,d=some t->t<a.tmps.size)
  (hf:S1.f=(S.set d v).f):jv w I σ S1.f (a.put d u):=by
 rw[hf];cases d with
 |none=>exact F
 |some t=>exact F.put hr t (hd t rfl)
theorem SV{o:Oper}(hB:Ur X nt o=true): ∀t,o.dst=some t->t<nt:=by
 intro t ht;unfold Ur at hB
 grind
theorem Fv{w:World}{I:Nat->Prop}{σ:jt}{S:St}{a:Act}(F:jv w I σ S.f a){o:Oper}{j d:Nat}(hg:o.guard=some (j,want))(hd:(ops.toList.map (·.dst))[j]?=some (some d)):
  (∀b,S.f d= .bool b->Region.wanted o (yielded ops a.tmps)=(b==want))/\(S.f d= .dM []->Region.wanted o (yielded ops a.tmps)=false):=by
 have hj:(ops[j]?).bind (·.dst)=some d:=by
  rw[abm,acJ]at hd;cases ho:ops[j]? with
  |none=>grind
  |some x=>grind
 have hF:=F d;refine⟨fun b hb=> ?_,fun hb=> ?_⟩
 ·rw[hb]at hF;have hv:a.tmps.getD d undef= .bool b:=by simpa[dB] using hF
  have ht:a.tmps[d]?=some (.bool b):=by
   rw[abB]at hv;cases hx:a.tmps[d]? with
   |none=>simp[hx,undef]at hv
   |some y=>grind
  simp only[Region.wanted,hg,yielded,hj,adT,ht]
  grind
 ·rw[hb]at hF;obtain⟨us,hu,he⟩:=hF;have hnb: ∀b,a.tmps[d]?≠some (.bool b):=by
   intro b hx;rw[abB,hx]at hu;simp at hu
  simp only[Region.wanted,hg,yielded,hj,adT]
  grind
theorem I7{w:World}{I:Nat->Prop}{σ:jt}:dB w I σ (.dM []) undef:=by
 exact⟨#[],rfl,rfl⟩
theorem Ku(hC:qY X C)(hK:uI X)(hG: ∀bY dst g args S S1,gU X C bY dst g args S=some S1->vZ X g)(hB: ∀o∈ops.toList,Ur X nt o=true){Q:Exit->Act->World->Prop}{S1:St}:
  ∀(l:List Oper) (k:Nat) (S:St) (a:Act) (w:World) (I:Nat->Prop) (σ:jt),l=ops.toList.drop k->gM X C bY (ops.toList.map (·.dst)) n0 k l S=some S1->Rel w I σ S.h->jv w I σ S.f a->lQ σ S.h S.n->nt<=a.tmps.size->
   a.defers=[]->n0+ops.size<=S.n->(∀q,k<=q->q<ops.size->S.h (n0+q)=none/\σ (n0+q)=none)->
   (∀a' w' I' σ',S.n<=S1.n->Step w I σ S.h n0 w' I' σ' S1.h S1.n->jv w' I' σ' S1.f a'->lQ σ' S1.h S1.n->nt<=a'.tmps.size->a'.defers=[]->Q .normal a' w')->
   wpOps X.P ops Q (List.range' k (ops.size-k)) a w
 | [],k,S,a,w,I,σ,hl,he,R,F,fr,hs,hd,hn,hq,hQ=>by
  have hk:ops.size-k=0:=by
   have:=congrArg List.length hl;simp at this;omega
  rw[hk];simp only[gM,aA]at he;subst he;exact hQ a w I σ (aaI _) ((Step.refl R n0).SR (aaI _) (by omega)) F fr hs hd
 |o::l,k,S,a,w,I,σ,hl,he,R,F,fr,hs,hd,hn,hq,hQ=>by
  have hk:k<ops.size:=by
   have:=congrArg List.length hl;simp at this;omega
  have lj:ops[k]?=some o:=by
   have:=congrArg (fun l=>l[0]?) hl;simp only[adN,abT,adQ]at this;rw[<-Array.getElem?_toList];exact this.symm
  have Ac:l=ops.toList.drop (k+1):=by
   have:=congrArg List.tail hl;simpa using this
  have hoB:Ur X nt o=true:=hB o (by grind);have YH: ∀t,o.dst=some t->t<a.tmps.size:=fun t ht=>abS (SV hoB t ht) hs;rw[show ops.size-k=(ops.size-(k+1))+1 by omega,List.range'_succ];simp only[wpOps,lj];have run: ∀{S2:St},fu X C bY n0 k o S=some S2->gM X C bY (ops.toList.map (·.dst)) n0 (k+1) l S2=some S1->
    o.wp X.P a w (wpOps X.P ops Q (List.range' (k+1) (ops.size-(k+1)))) Q:=by
   intro S2 h1 h2;refine Oper.wp_mono (fun a' w' hh=> ?_) (Mq hC hK hG hoB h1 R F fr (hq k (aaI _) hk).1 (hq k (aaI _) hk).2 (by omega) Q);obtain⟨u,v,I',σ',rfl,mQ,hf,kD,hle,ot,PF⟩:=hh;refine Ku hC hK hG hB l (k+1) S2 _ w' I' σ' Ac h2 kD.rel ((F.ext kD.ext).ah6 mQ o.dst YH hf) ot (by rw[By];omega) (by rw[put_defers];omega) (by omega) (fun q h1 h2=>PF q (by omega) (by omega) (hq q (by omega) h2).1 (hq q (by omega) h2).2) (fun a' w'' I'' σ'' D0 yk hF' YI oM Hs=> ?_);exact hQ a' w'' I'' σ'' (by omega) (kD.join yk (aaI _) D0) hF' YI oM Hs
  have skip:gM X C bY (ops.toList.map (·.dst)) n0 (k+1) l (S.set o.dst (.dM []))=some S1->wpOps X.P ops Q (List.range' (k+1) (ops.size-(k+1))) (a.put o.dst undef) w:=by
   intro h2;refine Ku hC hK hG hB l (k+1) _ _ w I σ Ac h2 (by rw[fm];exact R) (F.ah6 I7 o.dst YH rfl) (by rw[fm,gZ];omega) (by rw[By];omega) (by rw[put_defers];omega) (by rw[gZ];omega) (fun q h1 h2=>by rw[fm];grind) (fun a' w'' I'' σ'' D0 yk hF' YI oM Hs=> ?_);rw[fm]at yk;rw[gZ]at D0;exact hQ a' w'' I'' σ'' D0 yk hF' YI oM Hs
  simp only[gM]at he;split at he
  ·rename_i hg;have hw:Region.wanted o (yielded ops a.tmps)=true:=by simp[Region.wanted,hg]
   grind
  ·rename_i j want hg;split at he
   case h_2=>grind
   rename_i d Hs;have PG:=Fv F hg Hs
   grind
end
def yl{f g:α->β}{l:List α}(h: ∀x∈l,f x=g x):l.map f=l.map g:=aeC h
def rf{X:Env}{bY:FuncId}{o:Oper}{ρ ρ':Operand->V}(h: ∀x∈o.op.operands.toList,ρ x=ρ' x)(h0:bh)(n0:Nat):cI X bY o ρ h0 n0=cI X bY o ρ' h0 n0:=by
 obtain⟨dst,op,ty,pos,after,guard⟩:=o;have am6: ∀ps:Array (Nat×Operand),(∀x∈ps.toList.map (·.2),ρ x=ρ' x)->(ps.toList.map fun p=>(p.1,ρ p.2))=ps.toList.map fun p=>(p.1,ρ' p.2):=fun ps hp=>
  aeC fun p hm=>by grind
 have opt: ∀q:Option Operand,(∀x,q=some x->ρ x=ρ' x)->q.map ρ=q.map ρ':=fun q hq=>by
  cases q with
  |none=>rfl
  |some x=>grind
 cases op with
 |build t ps=>
  have:=am6 ps (by simpa[Op.operands] using h);simp only[cI,this]
 |buildSlice t n ps=>
  have:=am6 ps (by simpa[Op.operands] using h);simp only[cI,this]
 |makeFunc c p q=>
  cases c with
  |func g=>
   have h1:p.toList.map ρ=p.toList.map ρ':=yl fun x hx=>h x (by simp[Op.operands]at hx⊢;grind);have h2:q.toList.map ρ=q.toList.map ρ':=yl fun x hx=>h x (by simp[Op.operands]at hx⊢;grind);simp only[cI,h1,h2]
  |_=>simp only[cI]
 |slice t x lo hi mx=>
  have hx:ρ x=ρ' x:=h x (by simp[Op.operands]);have h1:=opt lo (fun y hy=>h y (by simp[Op.operands,hy]));have h2:=opt hi (fun y hy=>h y (by simp[Op.operands,hy]));cases mx with
  |none=>
   simp only[cI,hx,h1,h2]
   grind
  |some m=>
   have h3:ρ m=ρ' m:=h m (by simp[Op.operands]);simp only[cI,hx,h1,h2,h3];cases ρ' x with
   |cu id s n=>grind
   |ptr id i f=>grind
   |_=>rfl
 |call c=>
  obtain⟨UF,args,mM⟩:=c;have ha:args.toList.map ρ=args.toList.map ρ':=yl fun x hx=>h x (by simp[Op.operands,Call.operands]at hx⊢;grind);cases UF with
  |builtin b=>cases b<;>simp only[cI,ha]
  |_=>simp only[cI]
 |_=>first
  |(simp only[cI];done)
  |(simp only[Op.operands,aeY,aeL,or_false,forall_eq_or_imp,forall_eq]at h;simp only[cI,h])
def I8{h h':bh}{v v':V}(hg:oY h v=some (v',h')): ∀id,h id=none->h' id=none:=by
 intro id fg;unfold oY at hg;split at hg
 ·split at hg
  ·split at hg
   ·simp only[aA,bM]at hg;rw[<-hg.2];grind [aR]
   grind
  grind
 grind
def I9: ∀{cs rS:List V} {h h':bh},fY h cs=some (rS,h')-> ∀id,h id=none->h' id=none
 | [],rS,h,h',hg,id,fg=>by
  simp only[fY,aA,bM]at hg
  grind
 |c::cs,rS,h,h',hg,id,fg=>by
  simp only[fY]at hg;split at hg
  ·rename_i h1;split at hg
   ·rename_i h2;simp only[aA,bM]at hg;rw[<-hg.2];exact I9 h2 id (I8 h1 id fg)
   grind
  grind
def Fw{h h':bh}{v v':V}(hg:qu h v=some (v',h')): ∀id,h id=none->h' id=none:=by
 unfold qu at hg;split at hg
 ·split at hg
  ·rename_i h1;simp only[aA,bM]at hg;rw[<-hg.2];exact I9 h1
  grind
 ·exact I8 hg
def Cw: ∀{ps xW:List (Nat×V)} {h h':bh},mL h ps=some (xW,h')-> ∀id,h id=none->h' id=none
 | [],xW,h,h',hg,id,fg=>by
  simp only[mL,aA,bM]at hg
  grind
 |(i,v)::ps,xW,h,h',hg,id,fg=>by
  simp only[mL]at hg;split at hg
  ·rename_i h1;split at hg
   ·rename_i h2;simp only[aA,bM]at hg;rw[<-hg.2];exact Cw h2 id (Fw h1 id fg)
   grind
  grind
def YJ{h h':bh}{x v':V}(hg:(if k=true then some (x,h) else qu h x)=some (v',h')): ∀id,h id=none->h' id=none:=by
 intro id fg;split at hg
 ·grind
 ·exact Fw hg id fg
def Mr{X:Env}{bY:FuncId}{o:Oper}{ρ:Operand->V}{h0 h1:bh}{n0 n1:Nat}{v:V}(h:cI X bY o ρ h0 n0=some (v,h1,n1)): ∀id,id≠n0->h0 id=none->h1 id=none:=by
 intro id kC fg;have hu: ∀(hh:bh) ob,hh id=none->aR hh n0 (some ob) id=none:=fun hh ob hz=>by grind [aR]
 have hk: ∀(hh:bh) i,hh id=none->aR hh i none id=none:=fun hh i hz=>by grind [aR]
 have hs: ∀(hh:bh) i (ob oK:Ob),hh i=some oK->hh id=none->aR hh i (some ob) id=none:=fun hh i ob oK h1 hz=>by grind [aR]
 unfold cI at h;dsimp (zeta:=true) only at h;repeat' split at h
 all_goals first
  |(cases h;done)
  |(
   obtain⟨_,rfl,_⟩:=h;first
    |exact fg
    |exact hu _ _ fg
    |exact hk _ _ fg
    |exact hu _ _ (hk _ _ fg)
    |exact hu _ _ (Cw (by omega) id fg)
    |exact Cw (by omega) id fg
    |exact hs _ _ _ _ (by assumption) fg
    |exact hs _ _ _ _ (by omega) (YJ (by omega) id fg))
  |(obtain⟨_,_,_,_,_,_,rfl,_⟩:=tO h;grind)
def o8(h G:bh):bh:=fun i=>match G i with|some ob=>some ob|none=>h i
def uF(h G:bh)(n:Nat):Prop:= ∀i,G i≠none->h i=none/\i<n
def o9(X:Env)(C:jm):Prop:= ∀g args h k v h' k' G,X.low g=false->uF h G k->C g args h k=some (v,h',k')->C g args (o8 h G) k=some (v,o8 h' G,k')
def rh(X:Env)(C:jm):Prop:= ∀g args h k v h' k',C g args h k=some (v,h',k')->Ly X g k<=k'/\ ∀id,id<Ly X g k->h id=none->h' id=none
def isConst:Operand->Bool
 | .const _=>true
 |_=>false
def Ms(v:Value):(∀i s l,wK v≠ .cu i s l):=by
 intro i s l e;unfold wK at e
 grind
def Dm{v v':V}{h h1:bh}(hv: ∀i s l,v≠ .cu i s l)(hg:oY h v=some (v',h1)):h1=h/\ ∀h',oY h' v=some (v',h'):=by
 unfold oY at hg⊢
 grind
def Dn: ∀{cs rS:List V} {h h1:bh},(∀c∈cs,∀i s l,c≠ .cu i s l)->fY h cs=some (rS,h1)->h1=h/\ ∀h',fY h' cs=some (rS,h')
 | [],rS,h,h1,_,hg=>by
  obtain⟨rfl,rfl⟩:=hg;exact⟨rfl,fun h'=>rfl⟩
 |c::cs,rS,h,h1,hv,hg=>by
  simp only[fY]at hg;split at hg
  case h_2=>grind
  rename_i c' h2 hc;obtain⟨rfl,e1⟩:=Dm (hv c (acQ ..)) hc;split at hg
  case h_2=>grind
  rename_i cs2 h3 Az;obtain⟨rfl,e2⟩:=Dn (fun x hx=>hv x (acY _ hx)) Az;obtain⟨rfl,rfl⟩:=hg;exact⟨rfl,fun h'=>by simp only[fY,e1,e2]⟩
def PH{v':V}{h h1:bh}(hg:qu h (vO u)=some (v',h1)):h1=h/\ ∀h',qu h' (vO u)=some (v',h'):=by
 by_cases hu: ∃cs,u= .agg cs
 ·obtain⟨cs,rfl⟩:=hu;have e:vO (.agg cs)= .agg (cs.toList.map wK):=rfl;rw[e]at hg⊢;simp only[qu]at hg;split at hg
  case h_2=>grind
  rename_i rS h2 hl;obtain⟨rfl,e2⟩:=Dn (fun c hc i s l e=>by
   obtain⟨x,_,rfl⟩:=List.mem_map.1 hc;exact Ms x i s l e) hl
  obtain⟨rfl,rfl⟩:=hg;exact⟨rfl,fun h'=>by simp only[qu,e2]⟩
 ·have e:vO u=wK u:=by cases u<;>first|rfl|grind
  have hna: ∀cs,wK u≠ .agg cs:=by
   intro cs e;unfold wK at e;split at e<;>cases e
  have hg0: ∀h,qu h (wK u)=oY h (wK u):=fun h=>by
   unfold qu
   grind
  rw[e]at hg⊢;rw[hg0]at hg;obtain⟨h1,h2⟩:=Dm (Ms u) hg
  grind
def Dp{ρ:Operand->V}(hρ: ∀v,ρ (.const v)=vO v): ∀{ps:List (Nat×Operand)} {xW:List (Nat×V)} {h h1:bh},ps.all (fun p=>isConst p.2)=true->mL h (ps.map fun p=>(p.1,ρ p.2))=some (xW,h1)->h1=h/\ ∀h',mL h' (ps.map fun p=>(p.1,ρ p.2))=some (xW,h')
 | [],xW,h,h1,_,hg=>by
  obtain⟨rfl,rfl⟩:=hg;exact⟨rfl,fun h'=>rfl⟩
 |(i,x)::ps,xW,h,h1,ha,hg=>by
  simp only[adZ,aaF]at ha;simp only[aaU,mL]at hg;cases x with
  |const u=>
   rw[hρ]at hg;split at hg
   case h_2=>grind
   rename_i c' h2 hc;obtain⟨rfl,e1⟩:=PH hc;split at hg
   case h_2=>grind
   rename_i cs2 h3 Az;obtain⟨rfl,e2⟩:=Dp hρ ha.2 Az;obtain⟨rfl,rfl⟩:=hg;exact⟨rfl,fun h'=>by simp only[aaU,mL,hρ,e1,e2]⟩
  |_=>exact absurd ha.1 (by simp[isConst])
def cls(X:Env)(bY:FuncId)(o:Oper):Nat:=
 match o.op with
 | .move _| .assign _| .pick .. | .build .. | .nilCheck _| .binOp .. | .unOp .. | .makeFunc .. | .fieldAddr .. | .index .. | .field .. | .extract .. =>0
 | .convert _ d _=>if(X.ti d).isStr=true then 1 else if(X.ti d).kind.isSome=true then 0 else 2
 | .call ⟨.builtin .len,_,_⟩| .call ⟨.builtin .min,_,_⟩| .call ⟨.builtin .max,_,_⟩=>0
 | .load .. | .indexAddr .. =>1
 | .slice t .. =>if(X.ti t).arr.isSome=true then 3 else 1
 | .call ⟨.value (.func g),args,_⟩=>if(X.clone g).isNone&& !X.hZ g&& !X.gm g&& (o.dst.elim [] (X.mask bY)).isEmpty&& !o.dst.any (X.oV bY) then(if args.isEmpty then 0 else 1) else 3
 | .alloc _| .box .. | .makeSlice .. =>2
 | .buildSlice t _ ps=>if X.fX bY (X.ti t).elem then 2 else if o.dst.any (X.flat bY) then 0 else if ps.isEmpty then(if o.dst.any (X.oV bY) then 2 else 0) else if ps.toList.all (fun p=>isConst p.2)&& !o.dst.any (X.oV bY) then 0 else 3
 |_=>3
def Sub(h h':bh):Prop:= ∀id ob,h id=some ob->h' id=some ob
section
variable {X:Env} {bY:FuncId} {o:Oper} {ρ:Operand->V} {h h1:bh} {n n1:Nat} {v:V}
theorem core0(hρ: ∀v,ρ (.const v)=vO v)(hc:cls X bY o=0)(he:cI X bY o ρ h n=some (v,h1,n1)):h1=h/\ ∀h' n',cI X bY o ρ h' n'=some (v,h',n'):=by
 obtain⟨dst,op,ty,pos,after,guard⟩:=o;cases op with
 |call c=>
  obtain⟨UF,args,mM⟩:=c;cases UF with
  |value x=>simp[cI]at he
  |builtin b=>
   cases b with
   |len|min|max=>
    unfold cI at he⊢;dsimp only at he⊢;repeat' split at he
    all_goals grind
   |_=>simp[cls]at hc
  |_=>simp[cI]at he
 |makeFunc c p q=>
  cases c<;>simp only[cI,aA,bM,reduceCtorEq]at he;obtain⟨rfl,rfl,rfl⟩:=he;exact⟨rfl,fun h' n'=>by simp only[cI]⟩
 |convert u0 u1 x0=>
  simp only[cls]at hc;split at hc
  ·omega
  split at hc
  case isFalse=>omega
  rename_i hkd;simp only[cI]at he⊢;split at he
  ·grind
  ·grind
  grind
 |move|assign|pick|build|nilCheck|binOp|unOp|fieldAddr|index|field|extract=>
  unfold cI at he⊢;dsimp only at he⊢;repeat' split at he
  all_goals grind
 |buildSlice t m ps=>
  simp only[cls]at hc;split at hc
  ·omega
  ·rename_i hk;by_cases wO:dst.any (X.flat bY)=true
   ·simp only[cI,hk,aaM,if_false,wO,if_true]at he⊢;split at he
    case h_2=>grind
    rename_i l h2 hg;split at he
    case h_2=>grind
    grind
   rw[if_neg wO]at hc;split at hc
   ·rename_i hps;split at hc
    ·omega
    ·rename_i pn;have Fx:ps.toList=[]:=by simpa using hps
     simp only[cI,hk,wO,aaM,if_false,Fx,abI,mL,qF,pn,aA,bM]at he;obtain⟨rfl,rfl,rfl⟩:=he;exact⟨rfl,fun h' n'=>by simp only[cI,hk,wO,aaM,if_false,Fx,abI,mL,qF,pn]⟩
   ·split at hc
    case isFalse=>omega
    rename_i s7;simp only[aaF,aaZ]at s7;simp only[cI,hk,wO,aaM,if_false]at he⊢;split at he
    case h_2=>grind
    rename_i l h2 hg;obtain⟨rfl,e1⟩:=Dp hρ s7.1 hg
    grind
 |slice t x lo hi mx=>simp only[cls]at hc;grind
 |_=>simp[cls]at hc
theorem YK(hc:cls X bY o=1)(kC: ∀x args mM,o.op≠ .call ⟨.value x,args,mM⟩)(he:cI X bY o ρ h n=some (v,h1,n1)):h1=h/\ ∀h' n',Sub h h'->cI X bY o ρ h' n'=some (v,h',n'):=by
 obtain⟨dst,op,ty,pos,after,guard⟩:=o;cases op with
 |call c=>
  obtain⟨UF,args,mM⟩:=c;cases UF with
  |value x=>exact absurd rfl (kC x args mM)
  |builtin b=>cases b<;>simp[cls]at hc
  |_=>simp[cI]at he
 |slice t x lo hi mx=>
  simp only[cI]at he;split at he
  case isFalse=>cases he
  rename_i wQ;cases hx:ρ x with
  |sl c es=>
   simp only[hx]at he;cases mx with
   |none=>
    simp only at he;repeat' split at he
    all_goals first
     |(cases he;done)
     |(
      simp only[aA,bM]at he;obtain⟨rfl,rfl,rfl⟩:=he;refine⟨rfl,fun h' n' hs=> ?_⟩;simp only[cI];rw[if_pos wQ];clear wQ;first
       |(simp only[*,if_true];done)
       |(simp_all only[if_true];done)
       |(simp_all;done))
   |some m=>
    simp only at he;repeat' split at he
    all_goals first
     |(cases he;done)
     |(
      simp only[aA,bM]at he;obtain⟨rfl,rfl,rfl⟩:=he;refine⟨rfl,fun h' n' hs=> ?_⟩;simp only[cI];rw[if_pos wQ];clear wQ;first
       |(simp only[*,if_true];done)
       |(simp_all only[if_true];done)
       |(simp_all;done))
  |cu id s m=>
   simp only[hx]at he;cases gG:h id with
   |none=>cases mx<;>simp[gG]at he
   |some ob=>
   cases mx with
   |none=>
    simp only[gG]at he;repeat' split at he
    all_goals first
     |(cases he;done)
     |(
      simp only[aA,bM]at he;obtain⟨rfl,rfl,rfl⟩:=he;refine⟨rfl,fun h' n' hs=> ?_⟩;have UH:=hs _ _ gG;simp only[cI];rw[if_pos wQ];clear wQ gG;first
       |(simp only[*,if_true];done)
       |(simp_all only[if_true];done)
       |(simp_all;done))
   |some y=>
    simp only[gG]at he;repeat' split at he
    all_goals first
     |(cases he;done)
     |(
      simp only[aA,bM]at he;obtain⟨rfl,rfl,rfl⟩:=he;refine⟨rfl,fun h' n' hs=> ?_⟩;have UH:=hs _ _ gG;simp only[cI];rw[if_pos wQ];clear wQ gG;first
       |(simp only[*,if_true];done)
       |(simp_all only[if_true];done)
       |(simp_all;done))
  |str s=>
   simp only[hx]at he;cases mx with
   |none=>
    simp only at he;split at he
    ·rename_i hb;simp only[aA,bM]at he;obtain⟨rfl,rfl,rfl⟩:=he;refine⟨rfl,fun h' n' hs=> ?_⟩;simp only[cI];rw[if_pos wQ];simp only[hx,hb]
    ·cases he
   |some m=>cases he
  |ptr id i f=>
   exfalso;have:=wQ.2;rw[hx]at this;simp only[V.Bk]at this;simp[cls,<-this]at hc
  |_=>simp[hx]at he
 |convert u0 u1 x0=>
  simp only[cls]at hc;split at hc
  case isFalse=>split at hc<;>cases hc
  rename_i kD;simp only[cI]at he⊢;cases hk:(X.ti u1).kind with
  |some k=>
   simp only[hk]at he⊢;cases hx:ρ x0<;>simp only[hx]at he⊢ <;>first|(cases he;done)|skip
   simp only[aA,bM]at he;obtain⟨rfl,rfl,rfl⟩:=he;exact⟨rfl,fun _ _ _=>rfl⟩
  |none=>
   simp only[hk]at he⊢;split at he
   case isFalse=>exact absurd (tO he).1 (by simp[kD])
   rename_i hs2;split at he
   case h_2=>cases he
   rename_i es kx tq;split at he
   case h_2=>cases he
   rename_i bs Xr;simp only[aA,bM]at he;obtain⟨rfl,rfl,rfl⟩:=he;refine⟨rfl,fun h' n' hs=> ?_⟩;have a67:elems h' (ρ x0)=some (es,kx):=by
    cases hx:ρ x0 with
    |cu id s l=>
     rw[hx]at tq;cases gG:h id with
     |none=>simp[elems,gG]at tq
     |some ob=>simp only[elems,gG]at tq⊢;simp only[hs _ _ gG];exact tq
    |_=>rw[hx]at tq;exact tq
   rw[if_pos hs2];simp only[a67,Xr]
 |load|indexAddr=>
  unfold cI at he⊢;dsimp only at he⊢;repeat' split at he
  all_goals first
   |(cases he;done)
   |(
    simp only[aA,bM]at he;obtain⟨rfl,rfl,rfl⟩:=he;refine⟨rfl,fun h' n' hs=> ?_⟩;first
     |(simp only[*,if_true];done)
     |(simp only[*,hs _ _ (by assumption),if_true];done)
     |(simp[*];done)
     |(simp[*,hs _ _ (by assumption)];done))
 |buildSlice t m ps=>
  simp only[cls]at hc;split at hc
  ·cases hc
  ·split at hc
   ·cases hc
   split at hc
   ·split at hc<;>cases hc
   ·split at hc<;>cases hc
 |_=>simp[cls]at hc
theorem am8(hc:cls X bY o=2)(he:cI X bY o ρ h n=some (v,h1,n1)): ∃ob,h1=aR h n (some ob)/\ ∀h',cI X bY o ρ h' n=some (v,aR h' n (some ob),n+1):=by
 obtain⟨dst,op,ty,pos,after,guard⟩:=o;cases op with
 |call c=>
  obtain⟨UF,args,mM⟩:=c;cases UF with
  |value x=>simp[cI]at he
  |builtin b=>cases b<;>simp[cls]at hc
  |_=>simp[cI]at he
 |alloc t=>
  obtain⟨rfl,rfl,rfl⟩:=he;exact⟨_,rfl,fun h'=>rfl⟩
 |box t x=>
  simp only[cI]at he;split at he
  ·rename_i hf;obtain⟨rfl,rfl,rfl⟩:=he;exact⟨_,rfl,fun h'=>by simp only[cI,hf,if_true]⟩
  grind
 |makeSlice t l c=>
  simp only[cI]at he;split at he
  ·rename_i p q hl Bq;split at he
   ·rename_i hb;obtain⟨rfl,rfl,rfl⟩:=he;exact⟨_,rfl,fun h'=>by simp only[cI,hl,Bq];grind⟩
   grind
  grind
 |buildSlice t m ps=>
  simp only[cls]at hc;split at hc
  ·rename_i hk;simp only[cI,hk,if_true]at he;split at he
   ·rename_i es hf;obtain⟨rfl,rfl,rfl⟩:=he;exact⟨_,rfl,fun h'=>by simp only[cI,hk,if_true,hf]⟩
   grind
  ·rename_i hk;split at hc
   ·omega
   rename_i wO;split at hc
   ·rename_i hps;split at hc
    ·rename_i pn;have Fx:ps.toList=[]:=by simpa using hps
     simp only[cI,hk,wO,aaM,if_false,Fx,abI,mL,qF,pn,if_true,aA,bM]at he;obtain⟨rfl,rfl,rfl⟩:=he;exact⟨_,rfl,fun h'=>by simp only[cI,hk,wO,aaM,if_false,Fx,abI,mL,qF,pn,if_true]⟩
    omega
   grind
 |slice t x lo hi mx=>simp only[cls]at hc;grind
 |convert u0 u1 x0=>
  simp only[cls]at hc;split at hc
  ·omega
  rename_i kD;split at hc
  ·omega
  rename_i hkd;have hk:(X.ti u1).kind=none:=by simpa using hkd
  have yk:(X.ti u1).isStr=false:=by simpa using kD
  simp only[cI,hk,yk,aaM,false_and,if_false]at he⊢;obtain⟨_,D4,s1,hv1,hl,rfl,rfl,rfl⟩:=tO he;exact⟨_,rfl,fun h'=>by simp[hv1,LM,D4,hl]⟩
 |_=>simp[cls]at hc
theorem UK{h':bh}(hs:Sub h h'): ∀{d:Nat} {v v':V},cx h d v=some v'->cx h' d v=some v':=by
 intro d;induction d with
 |zero=>
  intro v v' ht;cases v with
  |fn g a b=>cases a<;>cases b<;>simp_all [cx]
  |_=>first|(simp[cx]at ht;done)|(simpa[cx] using ht)
 |succ d ih=>
  have key: ∀{cs l:List V},cF (cs.map (cx h d))=some l->cF (cs.map (cx h' d))=some l:=by
   intro cs;induction cs with
   |nil=>grind
   |cons c cs ih2=>
    intro l hl;simp only[aaU]at hl⊢;cases hc:cx h d c with
    |none=>simp[hc,cF]at hl
    |some c'=>
     simp only[hc,cF]at hl;split at hl
     ·rename_i l' Ac;simp only[cF,ih hc,ih2 Ac];omega
     grind
  intro v v' ht;cases v with
  |agg cs=>
   obtain⟨l,rfl,hl⟩:=rY ht;rw[cx]
   grind
  |dM cs=>
   obtain⟨l,rfl,hl⟩:=zt ht;rw[cx]
   grind
  |cu id s l=>
   rw[cx]at ht⊢;split at ht
   ·rename_i ob gG;rw[hs _ _ gG]
    grind
   grind
  |fn g a b=>cases a<;>cases b<;>simp_all [cx]
  |_=>first|(simp[cx]at ht;done)|(simpa[cx] using ht)
theorem ym{h':bh}(hs:Sub h h'){d:Nat}: ∀{l r:List V},cF (l.map (cx h d))=some r->cF (l.map (cx h' d))=some r
 | [],_,hl=>hl
 |c::cs,r,hl=>by
  simp only[aaU]at hl⊢;cases hc:cx h d c with
  |none=>simp[hc,cF]at hl
  |some c'=>
   simp only[hc,cF]at hl;split at hl
   ·rename_i l' Ac;simp only[cF,UK hs hc,ym hs Ac];omega
   grind
end
section
variable {X:Env} {C:jm} {bY:FuncId} {dst:Option Nat} {g:FuncId} {args:List V} {S S1:St}
theorem aq7(he:vd X C bY dst g args S=some S1): ∃v,S1=({S with h:=S1.h,n:=S1.n}:St).set dst v/\
  ∀S':St,S'.h=S.h->S'.n=S.n->vd X C bY dst g args S'=some (({S' with h:=S1.h,n:=S1.n}:St).set dst v):=by
 unfold vd at he⊢;have hn: ∀(S:St) v,(S.set dst v).n=S.n:=fun S v=>gZ S dst v;have hh: ∀(S:St) v,(S.set dst v).h=S.h:=fun S v=>fm S dst v;split at he
 case h_2=>grind
 split at he
 case h_2=>grind
 rename_i ob gG;split at he
 case h_2=>grind
 rename_i e YD;split at he
 case isFalse=>grind
 rename_i hk;split at he
 case h_2=>grind
 rename_i R hR;split at he
 case h_2=>grind
 rename_i bwf h1 hg;split at he
 case h_2=>grind
 rename_i v h n hc;split at he
 case h_2=>grind
 grind
theorem YL(he:mZ X C bY dst g args S=some S1): ∃v,S1=({S with h:=S1.h,n:=S1.n}:St).set dst v/\
  ∀S':St,S'.h=S.h->S'.n=S.n->mZ X C bY dst g args S'=some (({S' with h:=S1.h,n:=S1.n}:St).set dst v):=by
 unfold mZ at he⊢;have hn: ∀(S:St) v,(S.set dst v).n=S.n:=fun S v=>gZ S dst v;have hh: ∀(S:St) v,(S.set dst v).h=S.h:=fun S v=>fm S dst v;split at he
 case h_2=>grind
 grind
theorem YM(he:gU X C bY dst g args S=some S1): ∃v,S1=({S with h:=S1.h,n:=S1.n}:St).set dst v/\
  ∀S':St,S'.h=S.h->S'.n=S.n->gU X C bY dst g args S'=some (({S' with h:=S1.h,n:=S1.n}:St).set dst v):=by
 unfold gU at he⊢;have hn: ∀(S:St) v,(S.set dst v).n=S.n:=fun S v=>gZ S dst v;have hh: ∀(S:St) v,(S.set dst v).h=S.h:=fun S v=>fm S dst v;split at he
 ·split at he
  case h_2=>grind
  split at he
  case h_2=>grind
  rename_i es kx tq;split at he
  ·grind
  rename_i nn;simp only[aA]at he;subst he;refine⟨_,by rw[hh,hn];rfl,fun S' h1 h2=> ?_⟩;simp only[h1,tq];rw[if_neg nn];simp only[St.new,h1,h2,hh,hn]
 ·split at he
  ·grind
  rename_i hb;split at he
  ·rename_i Bg;obtain⟨v,e1,e2⟩:=aq7 he
   grind
  rename_i Bg;split at he
  ·rename_i Hn;obtain⟨v,e1,e2⟩:=YL he
   grind
  ·rename_i Hn;split at he
   case h_2=>grind
   rename_i bwf has;split at he
   ·grind
   ·rename_i pn;split at he
    case h_2=>grind
    rename_i v h n hc;split at he
    case h_2=>grind
    rename_i v' Kt;split at he
    ·grind
    rename_i nn;simp only[aA]at he;subst he;refine⟨v'.lM,by simp_all,fun S' h1 h2=> ?_⟩;simp only[hb,Bg,Hn,aaM,if_false,h1,has,pn,hc,Kt,hh,hn];rw[if_neg nn,<-h1,<-h2]
theorem UL(hp:((X.clone g).isNone&& !X.hZ g&& !X.gm g&& (dst.elim [] (X.mask bY)).isEmpty&& !dst.any (X.oV bY))=true)(he:gU X C bY dst g args S=some S1): ∃v,S1=S.set dst v/\
  ∀S':St,Sub S.h S'.h->gU X C bY dst g args S'=some (S'.set dst v):=by
 simp only[aaF,aaZ,Option.isNone_iff_eq_none]at hp;obtain⟨⟨⟨⟨pW,hb⟩,Bg⟩,Hn⟩,pn⟩:=hp;unfold gU at he⊢;simp only[pW,hb,Bg,pn,Hn,adY,acB,aaM,if_false]at he⊢;split at he
 case h_2=>grind
 rename_i bwf has;split at he
 case h_2=>grind
 rename_i v h n hc;split at he
 case h_2=>grind
 rename_i v' Kt;split at he
 ·grind
 rename_i nn;simp only[aA]at he;subst he;refine⟨v'.lM,rfl,fun S' hs=> ?_⟩;simp only[ym hs has,hc,Kt]
 grind
end
def UM{X:Env}{C:jm}{bY:FuncId}{dst:Option Nat}{g:FuncId}{S S1:St}(hp:((X.clone g).isNone&& !X.hZ g&& !X.gm g&& (dst.elim [] (X.mask bY)).isEmpty&& !dst.any (X.oV bY))=true)(he:gU X C bY dst g [] S=some S1): ∃v,S1=S.set dst v/\
  ∀S':St,gU X C bY dst g [] S'=some (S'.set dst v):=by
 simp only[aaF,aaZ,Option.isNone_iff_eq_none]at hp;obtain⟨⟨⟨⟨pW,hb⟩,Bg⟩,Hn⟩,pn⟩:=hp;unfold gU at he⊢;simp only[pW,hb,Bg,pn,Hn,adY,acB,aaM,if_false,abI,cF]at he⊢
 grind
section
variable {X:Env} {C:jm} {bY:FuncId} {n0 j:Nat} {o:Oper} {S S1:St}
def Alike(o:Oper)(S S':St):Prop:= ∀x∈o.op.operands.toList,S'.ev x=S.ev x
theorem px(kC: ∀x args mM,o.op≠ .call ⟨.value x,args,mM⟩):fu X C bY n0 j o S=(match cI X bY o S.ev S.h (n0+j) with
  |some (v,h,_)=>some (({S with h:=h}:St).set o.dst v)
  |none=>none):=by
 unfold fu
 grind
theorem axs(hc:cls X bY o=0)(he:fu X C bY n0 j o S=some S1): ∃v,S1=S.set o.dst v/\ ∀S',Alike o S S'->fu X C bY n0 j o S'=some (S'.set o.dst v):=by
 by_cases rO: ∃x args mM,o.op= .call ⟨.value x,args,mM⟩
 ·obtain⟨x,args,mM,ho⟩:=rO;simp only[cls,ho]at hc;cases x with
  |func g=>
   simp only at hc;split at hc
   ·rename_i hp;split at hc
    ·rename_i hem;have Fx:args.toList=[]:=by simpa using hem
     have Ci: ∀S:St,S.ev (.func g)= .fn g [] []:=fun _=>rfl;unfold fu at he;simp only[ho,Ci,Fx,abI,acU]at he;obtain⟨v,h1,h2⟩:=UM hp he;refine⟨v,h1,fun S' ha=> ?_⟩;unfold fu
     grind
    omega
   omega
  |_=>grind
 have kC: ∀x args mM,o.op≠ .call ⟨.value x,args,mM⟩:=fun x args mM ho=>rO ⟨x,args,mM,ho⟩;rw[px kC]at he;split at he
 case h_2=>grind
 rename_i v h m Ci;simp only[aA]at he;subst he;obtain⟨rfl,h2⟩:=core0 (fun _=>rfl) hc Ci;refine⟨v,rfl,fun S' ha=> ?_⟩;rw[px kC,rf ha,h2]
theorem axt(hc:cls X bY o=1)(he:fu X C bY n0 j o S=some S1): ∃v,S1=S.set o.dst v/\ ∀S',Alike o S S'->Sub S.h S'.h->fu X C bY n0 j o S'=some (S'.set o.dst v):=by
 by_cases rO: ∃x args mM,o.op= .call ⟨.value x,args,mM⟩
 ·obtain⟨x,args,mM,ho⟩:=rO;simp only[cls,ho]at hc;cases x with
  |func g=>
   simp only at hc;split at hc
   ·rename_i hp;split at hc
    ·omega
    have Ci: ∀S:St,S.ev (.func g)= .fn g [] []:=fun _=>rfl;unfold fu at he;simp only[ho,Ci]at he;obtain⟨v,h1,h2⟩:=UL hp he;refine⟨v,h1,fun S' ha hs=> ?_⟩;have jK:args.toList.map S'.ev=args.toList.map S.ev:=yl fun x hx=>ha x (by simp[ho,Op.operands,Call.operands]at hx⊢;grind);unfold fu
    grind
   omega
  |_=>grind
 ·have kC: ∀x args mM,o.op≠ .call ⟨.value x,args,mM⟩:=fun x args mM ho=>rO ⟨x,args,mM,ho⟩;rw[px kC]at he;split at he
  case h_2=>grind
  rename_i v h m Ci;simp only[aA]at he;subst he;obtain⟨rfl,h2⟩:=YK hc kC Ci;refine⟨v,rfl,fun S' ha hs=> ?_⟩;rw[px kC,rf ha,h2 _ _ hs]
theorem axu(hc:cls X bY o=2)(he:fu X C bY n0 j o S=some S1): ∃v ob,S1=({S with h:=aR S.h (n0+j) (some ob)}:St).set o.dst v/\
  ∀S',Alike o S S'->fu X C bY n0 j o S'=some (({S' with h:=aR S'.h (n0+j) (some ob)}:St).set o.dst v):=by
 have kC: ∀x args mM,o.op≠ .call ⟨.value x,args,mM⟩:=by
  intro x args mM ho;simp only[cls,ho]at hc;cases x with
  |func g=>
   grind
  |_=>grind
 rw[px kC]at he;split at he
 case h_2=>grind
 rename_i v h m Ci;simp only[aA]at he;subst he;obtain⟨ob,rfl,h2⟩:=am8 hc Ci;refine⟨v,ob,rfl,fun S' ha=> ?_⟩;rw[px kC,rf ha,h2]
theorem axv(he:fu X C bY n0 j o S=some S1): ∃v,S1=({S with h:=S1.h,n:=S1.n}:St).set o.dst v/\
  ∀S',Alike o S S'->S'.h=S.h->S'.n=S.n->fu X C bY n0 j o S'=some (({S' with h:=S1.h,n:=S1.n}:St).set o.dst v):=by
 by_cases rO: ∃x args mM,o.op= .call ⟨.value x,args,mM⟩
 ·obtain⟨x,args,mM,ho⟩:=rO;unfold fu at he;simp only[ho]at he;split at he
  case h_2=>grind
  rename_i g first EL hx
  obtain⟨v,h1,h2⟩:=YM he;refine⟨v,h1,fun S' ha hh hn=> ?_⟩;have jK:args.toList.map S'.ev=args.toList.map S.ev:=yl fun x hx=>ha x (by simp[ho,Op.operands,Call.operands]at hx⊢;grind);have AA:S'.ev x= .fn g first EL:=by rw[<-hx];exact ha x (by simp[ho,Op.operands,Call.operands])
  unfold fu
  grind
 ·have kC: ∀x args mM,o.op≠ .call ⟨.value x,args,mM⟩:=fun x args mM ho=>rO ⟨x,args,mM,ho⟩;rw[px kC]at he;split at he
  case h_2=>grind
  rename_i v h m Ci;simp only[aA]at he;subst he;refine⟨v,by rw[fm,gZ],fun S' ha hh hn=> ?_⟩;rw[px kC,rf ha,hh,Ci,fm,gZ,<-hn]
end
end Go.Abs
