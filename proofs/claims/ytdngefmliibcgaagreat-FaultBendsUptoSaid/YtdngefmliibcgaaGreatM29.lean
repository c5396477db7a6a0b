/- Part of a proof: engine A21. -/
import Derived.Test.YtdngefmliibcgaaGreatM28
set_option linter.all false
set_option maxRecDepth 20000
set_option maxHeartbeats 20000000
namespace Go.Abs
open Go
theorem LH{X:Env}{aP:FuncId}{o:Oper}{ρ:Operand→V}{h0 h1:aG}{n0 n1:Nat}{v:V}(h:aR X aP o ρ h0 n0=some (v,h1,n1)):n1=n0∨n1=n0+1:=by
 unfold aR at h;dsimp (zeta:=true) only at h;repeat' split at h
 all_goals first
  |(cases h;done)
  |(simp only[aa,ax]at h;exact .inl h.2.2.symm)
  |(simp only[aa,ax]at h;exact .inr h.2.2.symm)
  |(obtain⟨_,_,_,_,_,_,_,hn⟩:=nz h;exact .inr hn)
section
variable {w w1 w2 w':World} {I I1 I2 I':Nat→Prop} {σ σ1 σ2 σ':dK} {h h1 h2 h':aG} {n n1 n2 n' p m m':Nat}
theorem Step.join(s:Step w I σ h n w1 I1 σ1 h1 n1)(s':Step w1 I1 σ1 h1 p w2 I2 σ2 h2 n2)(hp:n≤p)(hn:n1≤n2):Step w I σ h n w2 I2 σ2 h2 n2 where
 ext:=s.ext.trans s'.ext
 rel:=s'.rel
 os:=s'.os.trans s.os
 tape:=s'.tape.trans s.tape
 output:=s'.output.trans s.output
 size:=Nat.le_trans s.size s'.size
 frame:=fun b hb ho=>(s'.frame b (Nat.lt_of_lt_of_le hb s.size) (fun hx=>by
  rcases s.own b hx with hx|hx
  ·omega
  ·exact ho hx)).trans (s.frame b hb ho)
 own:=fun b hb=>by
  rcases s'.own b hb with hx|hx
  ·exact .inl (Nat.le_trans s.size hx)
  ·exact s.own b hx
 pn:=fun b hb=>by
  rcases s'.pn b hb with hx|hx|hx
  ·exact s.pn b hx
  ·exact .inr (.inl (Nat.le_trans s.size hx))
  ·exact .inr (s.own b hx)
 le:=Nat.le_trans s.le hn
 sigs:=fun id bV=>by
  have l1:=s.le;have l2:=s'.le;rw[s'.sigs id (by omega),s.sigs id (by omega)]
 news:=fun id bV hz=>by
  have l1:=s.le;have l2:=s'.le;exact s'.news id (by omega) (s.news id (by omega) hz)
theorem Step.GN(s:Step w I σ h n w' I' σ' h' n')(hm:m≤n)(So:n'≤m'):Step w I σ h m w' I' σ' h' m':=
 {s with
  le:=by have:=s.le;omega
  sigs:=fun id bV=>s.sigs id (by omega)
  news:=fun id bV hz=>s.news id (by omega) hz}
theorem cI.append{cs ds:List V}{us vs:List Value}(hc:cI w I σ cs us)(hd:cI w I σ ds vs):cI w I σ (cs++ds) (us++vs):=by
 induction cs generalizing us with
 |nil=>simp only[cI]at hc;subst hc;simpa using hd
 |cons c cs ih=>
  simp only[cI]at hc;obtain⟨u,r,rfl,h1,h2⟩:=hc;simp only[List.cons_append,cI];exact⟨u,r++vs,rfl,h1,ih h2⟩
end
def pA(X:Env)(g:FuncId):Prop:= ∃fn b,X.P.funcs[g]?=some fn∧fn.body=some b∧(fn.name== "runtime.NumGoroutine")=false
theorem It{X:Env}{g:FuncId}(hg:pA X g)(args:Array Value)(w:World):(callFunc g args).run X.P w= .ok (.enter g args) w:=by
 obtain⟨fn,b,hf,hb,hn⟩:=hg;simp only[beq_eq_false_iff_ne,ne_eq]at hn;simp[callFunc,hf,hb,hn]
theorem P8(S:St)(m:Nat):({S with n:=m}:St).ev=S.ev:=by
 funext x;cases x<;>rfl
section
variable {X:Env} {C:dH} {aP:FuncId} {n0 j nt:Nat} {o:Oper} {S S1:St} {w:World} {I:Nat→Prop} {σ:dK} {a:Act}
def Left(o:Oper)(a:Act)(w:World)(I:Nat→Prop)(σ:dK)(S S1:St)(n0 j:Nat)(a':Act)(w':World):Prop:=
 ∃u v I' σ',a'=a.put o.dst u∧aV w' I' σ' v u∧S1.f=(S.set o.dst v).f∧Step w I σ S.h n0 w' I' σ' S1.h S1.n∧S.n≤S1.n∧gO σ' S1.h S1.n∧
  (∀q,q≠j→n0+q<S.n→S.h (n0+q)=none→σ (n0+q)=none→S1.h (n0+q)=none∧σ' (n0+q)=none)
theorem CG (hC:k8 X C) (hK:oC X) (hG: ∀aP dst g args S S1,cX X C aP dst g args S=some S1→pA X g) (hB:H5 X nt o=true) (he:cw X C aP n0 j o S=some S1)
  (R:Rel w I σ S.h) (F:dM w I σ S.f a) (fr:gO σ S.h S.n) (hn:S.h (n0+j)=none) (qM:σ (n0+j)=none) (jw:n0+j<S.n) (Q:Exit→Act→World→Prop):
  o.wp X.P a w (Left o a w I σ S S1 n0 j) Q:=by
 have op:(∀x args gq,o.op≠ .call ⟨.value x,args,gq⟩)→o.wp X.P a w (Left o a w I σ S S1 n0 j) Q:=by
  intro eZ;unfold cw at he;split at he
  ·rename_i x args gq ho;exact absurd ho (eZ x args gq)
  ·split at he
   case h_2=>cases he
   rename_i v0 h0 n1 hc;simp only[aa]at he;subst he;have xe:=LH hc;have tL:PO X aP o {S with n:=n0+j}=some (({S with h:=h0,n:=n1}:St).set o.dst v0):=by
    unfold PO;rw[P8,hc]
   obtain⟨nx,w',I',σ',u,v,eJ,hnx,gr,hf,ik⟩:=Ub (S:={S with n:=n0+j}) hB R F hn qM aP tL;rw[ck,cZ]at gr;have P9:Left o a w I σ S (({S with h:=h0}:St).set o.dst v0) n0 j (a.put o.dst u) w':=by
    refine⟨u,v,I',σ',rfl,ik,?_,?_,by rw[cZ];exact Nat.le_refl _,?_,fun q hq KI h1 h2=>⟨?_,?_⟩⟩
    ·have e1:(({S with h:=h0,n:=n1}:St).set o.dst v0).f=(({S with h:=h0}:St).set o.dst v0).f:=by cases o.dst<;>rfl
     have e2:(({S with n:=n0+j}:St).set o.dst v).f=(S.set o.dst v).f:=by cases o.dst<;>rfl
     rw[←e1,←e2];exact hf
    ·rw[ck,cZ];exact gr.GN (by simp) (by simp only;omega)
    ·intro id bV;rw[cZ]at bV;have:=fr id bV;rw[ck];refine⟨gr.news id (by simp only at bV⊢;omega) this.1,?_⟩;rw[gr.sigs id (by simp only at bV⊢;omega)];exact this.2
    ·rw[ck];exact gr.news (n0+q) (by simp only;omega) h1
    ·rw[gr.sigs (n0+q) (by simp only;omega)];exact h2
   unfold Oper.wp;rw[eJ];rcases hnx with rfl|⟨rfl,rfl⟩
   ·exact P9
   ·exact P9
 by_cases hc: ∃x args gq,o.op= .call ⟨.value x,args,gq⟩
 ·obtain⟨x,args,gq,ho⟩:=hc;unfold cw at he;simp only[ho]at he;have Yk:jd o:=by
   unfold H5 at hB;rw[Bool.and_eq_true,Bool.and_eq_true]at hB;exact fun x hm=>List.all_eq_true.1 hB.1.2 x hm
  split at he
  case h_2=>cases he
  rename_i g first wk hx
  have Yl:=hG _ _ _ _ _ _ he;have H9:aV w I σ (S.ev x) (a.eval x):=cj (S:=S) F (Yk x (by simp[ho,Op.operands,Call.operands]));rw[hx]at H9;simp only[aV]at H9;obtain⟨us,vs,wB,h1,h2⟩:=H9;have ee:cI w I σ (args.toList.map S.ev) (args.map a.eval).toList:=by
   rw[ig];refine⟨by simp,fun i c u hc hu=> ?_⟩;rw[List.getElem?_map]at hc;rw[Array.getElem?_toList,Array.getElem?_map]at hu;cases hi:args[i]? with
   |none=>simp[hi]at hu
   |some y=>
    rw[Array.getElem?_toList,hi]at hc;rw[hi]at hu;simp at hc hu;subst hc;subst hu;exact cj (S:=S) F (Yk y (by
     have:=Array.mem_of_getElem? hi;simp[ho,Op.operands,Call.operands,this]))
  have iG:cI w I σ (first++args.toList.map S.ev++wk) (us++args.map a.eval++vs).toList:=by
   simp only[Array.toList_append];exact(h1.append ee).append h2
  have eJ:(execOp a.eval o).run X.P w= .ok (.enter g (us++args.map a.eval++vs)) w:=by
   simp only[execOp,ho,resolve,wB,Deferred.ofValue];simp[invoke,It Yl]
  unfold Oper.wp;rw[eJ];simp only[Oper.upon];refine Calls.mono (LF hC hK he R fr _ iG) fun e w' hh=> ?_;obtain⟨u,v,I',σ',rfl,gr,hf,ik⟩:=hh;refine⟨u,v,I',σ',rfl,ik,hf,gr.GN (by omega) (Nat.le_refl _),gr.le,gr.fresh fr,fun q hq KI h1 h2=>⟨gr.news _ (.inl KI) h1,?_⟩⟩;rw[gr.sigs _ (.inl KI)];exact h2
 ·exact op fun x args gq ho=>hc ⟨x,args,gq,ho⟩
end
section
variable {X:Env} {C:dH} {aP:FuncId} {n0 nt:Nat} {ops:Array Oper}
theorem uf(a:Act)(d:Option Nat)(u:Value):(a.put d u).tmps.size=a.tmps.size:=by cases d<;>simp[Act.put]
theorem put_defers(a:Act)(d:Option Nat)(u:Value):(a.put d u).defers=a.defers:=by cases d<;>rfl
theorem dM.Qa {w:World} {I:Nat→Prop} {σ:dK} {S S1:St} {a:Act} (F:dM w I σ S.f a) {v:V} {u:Value} (hr:aV w I σ v u) (d:Option Nat) (hd: ∀t,d=some t→t<a.tmps.size)
  (hf:S1.f=(S.set d v).f):dM w I σ S1.f (a.put d u):=by
 rw[hf];cases d with
 |none=>exact F
 |some t=>exact F.put hr t (hd t rfl)
theorem GO{o:Oper}(hB:H5 X nt o=true): ∀t,o.dst=some t→t<nt:=by
 intro t ht;unfold H5 at hB;rw[Bool.and_eq_true,Bool.and_eq_true]at hB;have:=hB.1.1;simpa[ht] using this
theorem xQ{w:World}{I:Nat→Prop}{σ:dK}{S:St}{a:Act}(F:dM w I σ S.f a){o:Oper}{j d:Nat}{want:Bool}(hg:o.guard=some (j,want))(hd:(ops.toList.map (·.dst))[j]?=some (some d)):
  (∀b,S.f d= .bool b→Region.wanted o (yielded ops a.tmps)=(b==want))∧(S.f d= .cg []→Region.wanted o (yielded ops a.tmps)=false):=by
 have hj:(ops[j]?).bind (·.dst)=some d:=by
  rw[List.getElem?_map,Array.getElem?_toList]at hd;cases ho:ops[j]? with
  |none=>simp[ho]at hd
  |some x=>simpa[ho] using hd
 have hF:=F d;refine⟨fun b hb=> ?_,fun hb=> ?_⟩
 ·rw[hb]at hF;have hv:a.tmps.getD d undef= .bool b:=by simpa[aV] using hF
  have ht:a.tmps[d]?=some (.bool b):=by
   rw[Array.getD_eq_getD_getElem?]at hv;cases hx:a.tmps[d]? with
   |none=>simp[hx,undef]at hv
   |some y=>simpa[hx] using hv
  simp only[Region.wanted,hg,yielded,hj,Option.bind_some,ht];cases b<;>cases want<;>rfl
 ·rw[hb]at hF;simp only[aV,cI]at hF;obtain⟨us,hu,he⟩:=hF;have lI: ∀b,a.tmps[d]?≠some (.bool b):=by
   intro b hx;rw[Array.getD_eq_getD_getElem?,hx]at hu;simp at hu
  simp only[Region.wanted,hg,yielded,hj,Option.bind_some];first
   |rfl
   |(
    split
    ·rename_i b hx;exact absurd hx (lI b)
    ·rfl)
theorem Af{w:World}{I:Nat→Prop}{σ:dK}:aV w I σ (.cg []) undef:=by
 simp only[aV,undef,cI];exact⟨#[],rfl,rfl⟩
theorem Be(hC:k8 X C)(hK:oC X)(hG: ∀aP dst g args S S1,cX X C aP dst g args S=some S1→pA X g)(hB: ∀o∈ops.toList,H5 X nt o=true){Q:Exit→Act→World→Prop}{S1:St}:
  ∀(l:List Oper) (k:Nat) (S:St) (a:Act) (w:World) (I:Nat→Prop) (σ:dK),l=ops.toList.drop k→cQ X C aP (ops.toList.map (·.dst)) n0 k l S=some S1→Rel w I σ S.h→dM w I σ S.f a→gO σ S.h S.n→nt≤a.tmps.size→
   a.defers=[]→n0+ops.size≤S.n→(∀q,k≤q→q<ops.size→S.h (n0+q)=none∧σ (n0+q)=none)→
   (∀a' w' I' σ',S.n≤S1.n→Step w I σ S.h n0 w' I' σ' S1.h S1.n→dM w' I' σ' S1.f a'→gO σ' S1.h S1.n→nt≤a'.tmps.size→a'.defers=[]→Q .normal a' w')→
   wpOps X.P ops Q (List.range' k (ops.size-k)) a w
 | [],k,S,a,w,I,σ,hl,he,R,F,fr,hs,hd,hn,hq,hQ=>by
  have hk:ops.size-k=0:=by
   have:=congrArg List.length hl;simp at this;omega
  rw[hk];simp only[cQ,aa]at he;subst he;exact hQ a w I σ (Nat.le_refl _) ((Step.refl R n0).GN (Nat.le_refl _) (by omega)) F fr hs hd
 |o::l,k,S,a,w,I,σ,hl,he,R,F,fr,hs,hd,hn,hq,hQ=>by
  have hk:k<ops.size:=by
   have:=congrArg List.length hl;simp at this;omega
  have jF:ops[k]?=some o:=by
   have:=congrArg (fun l=>l[0]?) hl;simp only[List.getElem?_cons_zero,List.getElem?_drop,Nat.add_zero]at this;rw[←Array.getElem?_toList];exact this.symm
  have tK:l=ops.toList.drop (k+1):=by
   have:=congrArg List.tail hl;simpa using this
  have Ym:H5 X nt o=true:=hB o (by
   have:=Array.mem_of_getElem? jF;simpa using this)
  have LI: ∀t,o.dst=some t→t<a.tmps.size:=fun t ht=>Nat.lt_of_lt_of_le (GO Ym t ht) hs;rw[show ops.size-k=(ops.size-(k+1))+1 by omega,List.range'_succ];simp only[wpOps,jF];have run: ∀{S2:St},cw X C aP n0 k o S=some S2→cQ X C aP (ops.toList.map (·.dst)) n0 (k+1) l S2=some S1→
    o.wp X.P a w (wpOps X.P ops Q (List.range' (k+1) (ops.size-(k+1)))) Q:=by
   intro S2 h1 h2;refine Oper.wp_mono (fun a' w' hh=> ?_) (CG hC hK hG Ym h1 R F fr (hq k (Nat.le_refl _) hk).1 (hq k (Nat.le_refl _) hk).2 (by omega) Q);obtain⟨u,v,I',σ',rfl,ik,hf,gr,hle,mJ,EB⟩:=hh;refine Be hC hK hG hB l (k+1) S2 _ w' I' σ' tK h2 gr.rel ((F.ext gr.ext).Qa ik o.dst LI hf) mJ (by rw[uf];exact hs) (by rw[put_defers];exact hd) (by omega) (fun q h1 h2=>EB q (by omega) (by omega) (hq q (by omega) h2).1 (hq q (by omega) h2).2) (fun a' w'' I'' σ'' wm zB hF' LJ jV zC=> ?_);exact hQ a' w'' I'' σ'' (by omega) (gr.join zB (Nat.le_refl _) wm) hF' LJ jV zC
  have skip:cQ X C aP (ops.toList.map (·.dst)) n0 (k+1) l (S.set o.dst (.cg []))=some S1→wpOps X.P ops Q (List.range' (k+1) (ops.size-(k+1))) (a.put o.dst undef) w:=by
   intro h2;refine Be hC hK hG hB l (k+1) _ _ w I σ tK h2 (by rw[ck];exact R) (F.Qa Af o.dst LI rfl) (by rw[ck,cZ];exact fr) (by rw[uf];exact hs) (by rw[put_defers];exact hd) (by rw[cZ];exact hn) (fun q h1 h2=>by rw[ck];exact hq q (by omega) h2) (fun a' w'' I'' σ'' wm zB hF' LJ jV zC=> ?_);rw[ck]at zB;rw[cZ]at wm;exact hQ a' w'' I'' σ'' wm zB hF' LJ jV zC
  simp only[cQ]at he;split at he
  ·rename_i hg;have hw:Region.wanted o (yielded ops a.tmps)=true:=by simp[Region.wanted,hg]
   simp only[hw,if_true];split at he
   ·rename_i S2 h1;exact .inl (run h1 he)
   ·cases he
  ·rename_i j want hg;split at he
   case h_2=>cases he
   rename_i d zC;have LK:=xQ F hg zC;split at he
   ·rename_i b hb;have hw:=LK.1 b hb;split at he
    ·rename_i CH;subst CH;rw[beq_self_eq_true]at hw;simp only[hw,if_true];split at he
     ·rename_i S2 h1;exact .inl (run h1 he)
     ·cases he
    ·rename_i CH;have:(b==want)=false:=by simpa using CH
     rw[this]at hw;simp only[hw,Bool.false_eq_true,if_false];exact skip he
   ·rename_i hb;have hw:=LK.2 hb;simp only[hw,Bool.false_eq_true,if_false];exact skip he
   ·cases he
end
theorem qT{α β:Type}{f g:α→β}{l:List α}(h: ∀x∈l,f x=g x):l.map f=l.map g:=List.map_congr_left h
theorem lb{X:Env}{aP:FuncId}{o:Oper}{ρ ρ':Operand→V}(h: ∀x∈o.op.operands.toList,ρ x=ρ' x)(h0:aG)(n0:Nat):aR X aP o ρ h0 n0=aR X aP o ρ' h0 n0:=by
 obtain⟨dst,op,ty,pos,after,guard⟩:=o;have Sp: ∀ps:Array (Nat×Operand),(∀x∈ps.toList.map (·.2),ρ x=ρ' x)→(ps.toList.map fun p=>(p.1,ρ p.2))=ps.toList.map fun p=>(p.1,ρ' p.2):=fun ps hp=>
  List.map_congr_left fun p hm=>by rw[hp p.2 (List.mem_map_of_mem hm)]
 have opt: ∀q:Option Operand,(∀x,q=some x→ρ x=ρ' x)→q.map ρ=q.map ρ':=fun q hq=>by
  cases q with
  |none=>rfl
  |some x=>simp[hq x rfl]
 cases op with
 |build t ps=>
  have:=Sp ps (by simpa[Op.operands] using h);simp only[aR,this]
 |buildSlice t n ps=>
  have:=Sp ps (by simpa[Op.operands] using h);simp only[aR,this]
 |makeFunc c p q=>
  cases c with
  |func g=>
   have h1:p.toList.map ρ=p.toList.map ρ':=qT fun x hx=>h x (by simp[Op.operands]at hx⊢;exact .inl hx);have h2:q.toList.map ρ=q.toList.map ρ':=qT fun x hx=>h x (by simp[Op.operands]at hx⊢;exact .inr hx);simp only[aR,h1,h2]
  |_=>simp only[aR]
 |slice t x lo hi mx=>
  have hx:ρ x=ρ' x:=h x (by simp[Op.operands]);have h1:=opt lo (fun y hy=>h y (by simp[Op.operands,hy]));have h2:=opt hi (fun y hy=>h y (by simp[Op.operands,hy]));cases mx with
  |none=>
   simp only[aR,hx,h1,h2];cases ρ' x with
   |bJ id s n=>cases hh:h0 id<;>simp only[hh]
   |ptr id i f=>cases i<;>cases f<;>rfl
   |_=>rfl
  |some m=>
   have h3:ρ m=ρ' m:=h m (by simp[Op.operands]);simp only[aR,hx,h1,h2,h3];cases ρ' x with
   |bJ id s n=>cases hh:h0 id<;>simp only[hh,h3]
   |ptr id i f=>cases i<;>cases f<;>rfl
   |_=>rfl
 |call c=>
  obtain⟨Ip,args,gq⟩:=c;have ha:args.toList.map ρ=args.toList.map ρ':=qT fun x hx=>h x (by simp[Op.operands,Call.operands]at hx⊢;first|exact hx|exact .inl hx|exact .inr hx|simp[hx]);cases Ip with
  |builtin b=>cases b<;>simp only[aR,ha]
  |_=>simp only[aR]
 |_=>first
  |(simp only[aR];done)
  |(simp only[Op.operands,List.mem_cons,List.not_mem_nil,or_false,forall_eq_or_imp,forall_eq]at h;simp only[aR,h])
theorem Ag{h h':aG}{v v':V}(hg:jG h v=some (v',h')): ∀id,h id=none→h' id=none:=by
 intro id bV;unfold jG at hg;split at hg
 ·split at hg
  ·split at hg
   ·simp only[aa,ax]at hg;rw[←hg.2];simp[aS,bV]
   ·cases hg
  ·cases hg
 ·split at hg
  ·simp only[aa,ax]at hg;rw[←hg.2];exact bV
  ·cases hg
theorem Ah: ∀{cs lH:List V} {h h':aG},hZ h cs=some (lH,h')→ ∀id,h id=none→h' id=none
 | [],lH,h,h',hg,id,bV=>by
  simp only[hZ,aa,ax]at hg;rw[←hg.2];exact bV
 |c::cs,lH,h,h',hg,id,bV=>by
  simp only[hZ]at hg;split at hg
  ·rename_i h1;split at hg
   ·rename_i h2;simp only[aa,ax]at hg;rw[←hg.2];exact Ah h2 id (Ag h1 id bV)
   ·cases hg
  ·cases hg
theorem xS{h h':aG}{v v':V}(hg:kE h v=some (v',h')): ∀id,h id=none→h' id=none:=by
 unfold kE at hg;split at hg
 ·split at hg
  ·rename_i h1;simp only[aa,ax]at hg;rw[←hg.2];exact Ah h1
  ·cases hg
 ·exact Ag hg
theorem uY: ∀{ps qI:List (Nat×V)} {h h':aG},gp h ps=some (qI,h')→ ∀id,h id=none→h' id=none
 | [],qI,h,h',hg,id,bV=>by
  simp only[gp,aa,ax]at hg;rw[←hg.2];exact bV
 |(i,v)::ps,qI,h,h',hg,id,bV=>by
  simp only[gp]at hg;split at hg
  ·rename_i h1;split at hg
   ·rename_i h2;simp only[aa,ax]at hg;rw[←hg.2];exact uY h2 id (xS h1 id bV)
   ·cases hg
  ·cases hg
theorem LL{h h':aG}{k:Bool}{x v':V}(hg:(if k=true then some (x,h) else kE h x)=some (v',h')): ∀id,h id=none→h' id=none:=by
 intro id bV;split at hg
 ·simp only[aa,ax]at hg;rw[←hg.2];exact bV
 ·exact xS hg id bV
theorem CI{X:Env}{aP:FuncId}{o:Oper}{ρ:Operand→V}{h0 h1:aG}{n0 n1:Nat}{v:V}(h:aR X aP o ρ h0 n0=some (v,h1,n1)): ∀id,id≠n0→h0 id=none→h1 id=none:=by
 intro id eZ bV;have hu: ∀(hh:aG) ob,hh id=none→aS hh n0 (some ob) id=none:=fun hh ob hz=>by simp[aS,eZ,hz]
 have hk: ∀(hh:aG) i,hh id=none→aS hh i none id=none:=fun hh i hz=>by simp[aS,hz]
 have hs: ∀(hh:aG) i (ob ja:Ob),hh i=some ja→hh id=none→aS hh i (some ob) id=none:=fun hh i ob ja h1 hz=>by
  have:id≠i:=fun e=>by rw[e,h1]at hz;cases hz
  simp[aS,this,hz]
 unfold aR at h;dsimp (zeta:=true) only at h;repeat' split at h
 all_goals first
  |(cases h;done)
  |(
   simp only[aa,ax]at h;obtain⟨_,rfl,_⟩:=h;first
    |exact bV
    |exact hu _ _ bV
    |exact hk _ _ bV
    |exact hu _ _ (hk _ _ bV)
    |exact hu _ _ (uY (by assumption) id bV)
    |exact uY (by assumption) id bV
    |exact hs _ _ _ _ (by assumption) bV
    |exact hs _ _ _ _ (by assumption) (LL (by assumption) id bV))
  |(obtain⟨_,_,_,_,_,_,rfl,_⟩:=nz h;exact hu _ _ bV)
def jL(h G:aG):aG:=fun i=>match G i with|some ob=>some ob|none=>h i
def oA(h G:aG)(n:Nat):Prop:= ∀i,G i≠none→h i=none∧i<n
def jM(X:Env)(C:dH):Prop:= ∀g args h k v h' k' G,X.low g=false→oA h G k→C g args h k=some (v,h',k')→C g args (jL h G) k=some (v,jL h' G,k')
def lh(X:Env)(C:dH):Prop:= ∀g args h k v h' k',C g args h k=some (v,h',k')→B2 X g k≤k'∧ ∀id,id<B2 X g k→h id=none→h' id=none
def isConst:Operand→Bool
 | .const _=>true
 |_=>false
theorem CJ(v:Value):(∀i s l,pU v≠ .bJ i s l):=by
 intro i s l e;unfold pU at e;split at e<;>cases e
theorem vI{v v':V}{h h1:aG}(hv: ∀i s l,v≠ .bJ i s l)(hg:jG h v=some (v',h1)):h1=h∧ ∀h',jG h' v=some (v',h'):=by
 unfold jG at hg⊢;split at hg
 ·exact absurd rfl (hv _ _ _)
 ·split at hg
  ·rename_i hc;simp only[aa,ax]at hg;obtain⟨rfl,rfl⟩:=hg;exact⟨rfl,fun h'=>by rw[if_pos hc]⟩
  ·cases hg
theorem vM: ∀{cs lH:List V} {h h1:aG},(∀c∈cs,∀i s l,c≠ .bJ i s l)→hZ h cs=some (lH,h1)→h1=h∧ ∀h',hZ h' cs=some (lH,h')
 | [],lH,h,h1,_,hg=>by
  simp only[hZ,aa,ax]at hg;obtain⟨rfl,rfl⟩:=hg;exact⟨rfl,fun h'=>rfl⟩
 |c::cs,lH,h,h1,hv,hg=>by
  simp only[hZ]at hg;split at hg
  case h_2=>cases hg
  rename_i c' h2 hc;obtain⟨rfl,e1⟩:=vI (hv c (List.mem_cons_self ..)) hc;split at hg
  case h_2=>cases hg
  rename_i cs2 h3 p0;obtain⟨rfl,e2⟩:=vM (fun x hx=>hv x (List.mem_cons_of_mem _ hx)) p0;simp only[aa,ax]at hg;obtain⟨rfl,rfl⟩:=hg;exact⟨rfl,fun h'=>by simp only[hZ,e1,e2]⟩
theorem EC{u:Value}{v':V}{h h1:aG}(hg:kE h (pj u)=some (v',h1)):h1=h∧ ∀h',kE h' (pj u)=some (v',h'):=by
 by_cases hu: ∃cs,u= .agg cs
 ·obtain⟨cs,rfl⟩:=hu;have e:pj (.agg cs)= .agg (cs.toList.map pU):=rfl;rw[e]at hg⊢;simp only[kE]at hg;split at hg
  case h_2=>cases hg
  rename_i lH h2 hl;obtain⟨rfl,e2⟩:=vM (fun c hc i s l e=>by
   obtain⟨x,_,rfl⟩:=List.mem_map.1 hc;exact CJ x i s l e) hl
  simp only[aa,ax]at hg;obtain⟨rfl,rfl⟩:=hg;exact⟨rfl,fun h'=>by simp only[kE,e2]⟩
 ·have e:pj u=pU u:=by cases u<;>first|rfl|exact absurd ⟨_,rfl⟩ hu
  have P2: ∀cs,pU u≠ .agg cs:=by
   intro cs e;unfold pU at e;split at e<;>cases e
  have WZ: ∀h,kE h (pU u)=jG h (pU u):=fun h=>by
   unfold kE;split
   ·rename_i cs hc;exact absurd hc (P2 cs)
   ·rfl
  rw[e]at hg⊢;rw[WZ]at hg;obtain⟨h1,h2⟩:=vI (CJ u) hg;exact⟨h1,fun h'=>by rw[WZ];exact h2 h'⟩
theorem vN{ρ:Operand→V}(hρ: ∀v,ρ (.const v)=pj v): ∀{ps:List (Nat×Operand)} {qI:List (Nat×V)} {h h1:aG},ps.all (fun p=>isConst p.2)=true→gp h (ps.map fun p=>(p.1,ρ p.2))=some (qI,h1)→h1=h∧ ∀h',gp h' (ps.map fun p=>(p.1,ρ p.2))=some (qI,h')
 | [],qI,h,h1,_,hg=>by
  simp only[List.map_nil,gp,aa,ax]at hg;obtain⟨rfl,rfl⟩:=hg;exact⟨rfl,fun h'=>rfl⟩
 |(i,x)::ps,qI,h,h1,ha,hg=>by
  simp only[List.all_cons,Bool.and_eq_true]at ha;simp only[List.map_cons,gp]at hg;cases x with
  |const u=>
   rw[hρ]at hg;split at hg
   case h_2=>cases hg
   rename_i c' h2 hc;obtain⟨rfl,e1⟩:=EC hc;split at hg
   case h_2=>cases hg
   rename_i cs2 h3 p0;obtain⟨rfl,e2⟩:=vN hρ ha.2 p0;simp only[aa,ax]at hg;obtain⟨rfl,rfl⟩:=hg;exact⟨rfl,fun h'=>by simp only[List.map_cons,gp,hρ,e1,e2]⟩
  |_=>exact absurd ha.1 (by simp[isConst])
def cls(X:Env)(aP:FuncId)(o:Oper):Nat:=
 match o.op with
 | .move _| .assign _| .pick .. | .build .. | .nilCheck _| .binOp .. | .unOp .. | .makeFunc .. | .fieldAddr .. | .index .. | .field .. | .extract .. =>0
 | .convert _ d _=>if(X.ti d).isStr=true then 1 else if(X.ti d).kind.isSome=true then 0 else 2
 | .call ⟨.builtin .len,_,_⟩| .call ⟨.builtin .min,_,_⟩| .call ⟨.builtin .max,_,_⟩=>0
 | .load .. | .indexAddr .. =>1
 | .slice t .. =>if(X.ti t).arr.isSome=true then 3 else 1
 | .call ⟨.value (.func g),args,_⟩=>if(X.clone g).isNone&& !X.fg g&& !X.dP g&& (o.dst.elim [] (X.mask aP)).isEmpty&& !o.dst.any (X.nf aP) then(if args.isEmpty then 0 else 1) else 3
 | .alloc _| .box .. | .makeSlice .. =>2
 | .buildSlice t _ ps=>if X.dX aP (X.ti t).elem then 2 else if o.dst.any (X.flat aP) then 0 else if ps.isEmpty then(if o.dst.any (X.nf aP) then 2 else 0) else if ps.toList.all (fun p=>isConst p.2)&& !o.dst.any (X.nf aP) then 0 else 3
 |_=>3
def Sub(h h':aG):Prop:= ∀id ob,h id=some ob→h' id=some ob
section
variable {X:Env} {aP:FuncId} {o:Oper} {ρ:Operand→V} {h h1:aG} {n n1:Nat} {v:V}
theorem core0(hρ: ∀v,ρ (.const v)=pj v)(hc:cls X aP o=0)(he:aR X aP o ρ h n=some (v,h1,n1)):h1=h∧ ∀h' n',aR X aP o ρ h' n'=some (v,h',n'):=by
 obtain⟨dst,op,ty,pos,after,guard⟩:=o;cases op with
 |call c=>
  obtain⟨Ip,args,gq⟩:=c;cases Ip with
  |value x=>simp[aR]at he
  |builtin b=>
   cases b with
   |len|min|max=>
    unfold aR at he⊢;dsimp only at he⊢;repeat' split at he
    all_goals first
     |(cases he;done)
     |(
      simp only[aa,ax]at he;obtain⟨rfl,rfl,rfl⟩:=he;refine⟨rfl,fun h' n'=> ?_⟩;simp only[*,if_true,if_false])
   |_=>simp[cls]at hc
  |_=>simp[aR]at he
 |makeFunc c p q=>
  cases c<;>simp only[aR,aa,ax,reduceCtorEq]at he;obtain⟨rfl,rfl,rfl⟩:=he;exact⟨rfl,fun h' n'=>by simp only[aR]⟩
 |convert u0 u1 x0=>
  simp only[cls]at hc;split at hc
  ·cases hc
  rename_i gr;split at hc
  case isFalse=>cases hc
  rename_i hkd;simp only[aR]at he⊢;split at he
  ·rename_i hk hv;simp only[aa,ax]at he;obtain⟨rfl,rfl,rfl⟩:=he;exact⟨rfl,fun h' n'=>by simp only[hk,hv]⟩
  ·have hk:(X.ti u1).kind=none:=by assumption
   rw[hk]at hkd;cases hkd
  ·cases he
 |move|assign|pick|build|nilCheck|binOp|unOp|fieldAddr|index|field|extract=>
  unfold aR at he⊢;dsimp only at he⊢;repeat' split at he
  all_goals first
   |(cases he;done)
   |(
    simp only[aa,ax]at he;obtain⟨rfl,rfl,rfl⟩:=he;refine⟨rfl,fun h' n'=> ?_⟩;first
     |rfl
     |(simp only[*,if_true];done)
     |(simp[*];done))
 |buildSlice t m ps=>
  simp only[cls]at hc;split at hc
  ·cases hc
  ·rename_i hk;by_cases sH:dst.any (X.flat aP)=true
   ·simp only[aR,hk,Bool.false_eq_true,if_false,sH,if_true]at he⊢;split at he
    case h_2=>cases he
    rename_i l h2 hg;split at he
    case h_2=>cases he
    rename_i es hf;simp only[aa,ax]at he;obtain⟨rfl,rfl,rfl⟩:=he;exact⟨rfl,fun h' n'=>by simp only[hg,hf]⟩
   rw[if_neg sH]at hc;split at hc
   ·rename_i Yn;split at hc
    ·cases hc
    ·rename_i mw;have wC:ps.toList=[]:=by simpa using Yn
     simp only[aR,hk,sH,Bool.false_eq_true,if_false,wC,List.map_nil,gp,kP,mw,aa,ax]at he;obtain⟨rfl,rfl,rfl⟩:=he;exact⟨rfl,fun h' n'=>by simp only[aR,hk,sH,Bool.false_eq_true,if_false,wC,List.map_nil,gp,kP,mw]⟩
   ·split at hc
    case isFalse=>cases hc
    rename_i sM;simp only[Bool.and_eq_true,Bool.not_eq_true']at sM;simp only[aR,hk,sH,Bool.false_eq_true,if_false]at he⊢;split at he
    case h_2=>cases he
    rename_i l h2 hg;obtain⟨rfl,e1⟩:=vN hρ sM.1 hg;split at he
    case h_2=>cases he
    rename_i es hf;simp only[sM.2,Bool.false_eq_true,if_false,aa,ax]at he;obtain⟨rfl,rfl,rfl⟩:=he;refine⟨rfl,fun h' n'=> ?_⟩;simp only[e1,hf,sM.2,Bool.false_eq_true,if_false]
 |slice t x lo hi mx=>simp only[cls]at hc;split at hc<;>cases hc
 |_=>simp[cls]at hc
theorem LM(hc:cls X aP o=1)(eZ: ∀x args gq,o.op≠ .call ⟨.value x,args,gq⟩)(he:aR X aP o ρ h n=some (v,h1,n1)):h1=h∧ ∀h' n',Sub h h'→aR X aP o ρ h' n'=some (v,h',n'):=by
 obtain⟨dst,op,ty,pos,after,guard⟩:=o;cases op with
 |call c=>
  obtain⟨Ip,args,gq⟩:=c;cases Ip with
  |value x=>exact absurd rfl (eZ x args gq)
  |builtin b=>cases b<;>simp[cls]at hc
  |_=>simp[aR]at he
 |slice t x lo hi mx=>
  simp only[aR]at he;split at he
  case isFalse=>cases he
  rename_i px;cases hx:ρ x with
  |sl c es=>
   simp only[hx]at he;cases mx with
   |none=>
    simp only at he;repeat' split at he
    all_goals first
     |(cases he;done)
     |(
      simp only[aa,ax]at he;obtain⟨rfl,rfl,rfl⟩:=he;refine⟨rfl,fun h' n' hs=> ?_⟩;simp only[aR];rw[if_pos px];clear px;first
       |(simp only[*,if_true];done)
       |(simp_all only[if_true];done)
       |(simp_all;done))
   |some m=>
    simp only at he;repeat' split at he
    all_goals first
     |(cases he;done)
     |(
      simp only[aa,ax]at he;obtain⟨rfl,rfl,rfl⟩:=he;refine⟨rfl,fun h' n' hs=> ?_⟩;simp only[aR];rw[if_pos px];clear px;first
       |(simp only[*,if_true];done)
       |(simp_all only[if_true];done)
       |(simp_all;done))
  |bJ id s m=>
   simp only[hx]at he;cases cy:h id with
   |none=>cases mx<;>simp[cy]at he
   |some ob=>
   cases mx with
   |none=>
    simp only[cy]at he;repeat' split at he
    all_goals first
     |(cases he;done)
     |(
      simp only[aa,ax]at he;obtain⟨rfl,rfl,rfl⟩:=he;refine⟨rfl,fun h' n' hs=> ?_⟩;have Ir:=hs _ _ cy;simp only[aR];rw[if_pos px];clear px cy;first
       |(simp only[*,if_true];done)
       |(simp_all only[if_true];done)
       |(simp_all;done))
   |some y=>
    simp only[cy]at he;repeat' split at he
    all_goals first
     |(cases he;done)
     |(
      simp only[aa,ax]at he;obtain⟨rfl,rfl,rfl⟩:=he;refine⟨rfl,fun h' n' hs=> ?_⟩;have Ir:=hs _ _ cy;simp only[aR];rw[if_pos px];clear px cy;first
       |(simp only[*,if_true];done)
       |(simp_all only[if_true];done)
       |(simp_all;done))
  |str s=>
   simp only[hx]at he;cases mx with
   |none=>
    simp only at he;split at he
    ·rename_i hb;simp only[aa,ax]at he;obtain⟨rfl,rfl,rfl⟩:=he;refine⟨rfl,fun h' n' hs=> ?_⟩;simp only[aR];rw[if_pos px];simp only[hx,hb]
    ·cases he
   |some m=>cases he
  |ptr id i f=>
   exfalso;have:=px.2;rw[hx]at this;simp only[V.tQ]at this;simp[cls,←this]at hc
  |_=>simp[hx]at he
 |convert u0 u1 x0=>
  simp only[cls]at hc;split at hc
  case isFalse=>split at hc<;>cases hc
  rename_i gr;simp only[aR]at he⊢;cases hk:(X.ti u1).kind with
  |some k=>
   simp only[hk]at he⊢;cases hx:ρ x0<;>simp only[hx]at he⊢ <;>first|(cases he;done)|skip
   simp only[aa,ax]at he;obtain⟨rfl,rfl,rfl⟩:=he;exact⟨rfl,fun _ _ _=>rfl⟩
  |none=>
   simp only[hk]at he⊢;split at he
   case isFalse=>exact absurd (nz he).1 (by simp[gr])
   rename_i hs2;split at he
   case h_2=>cases he
   rename_i es kx uI;split at he
   case h_2=>cases he
   rename_i bs T1;simp only[aa,ax]at he;obtain⟨rfl,rfl,rfl⟩:=he;refine⟨rfl,fun h' n' hs=> ?_⟩;have ad8:elems h' (ρ x0)=some (es,kx):=by
    cases hx:ρ x0 with
    |bJ id s l=>
     rw[hx]at uI;cases cy:h id with
     |none=>simp[elems,cy]at uI
     |some ob=>simp only[elems,cy]at uI⊢;simp only[hs _ _ cy];exact uI
    |_=>rw[hx]at uI;exact uI
   rw[if_pos hs2];simp only[ad8,T1]
 |load|indexAddr=>
  unfold aR at he⊢;dsimp only at he⊢;repeat' split at he
  all_goals first
   |(cases he;done)
   |(
    simp only[aa,ax]at he;obtain⟨rfl,rfl,rfl⟩:=he;refine⟨rfl,fun h' n' hs=> ?_⟩;first
     |(simp only[*,if_true];done)
     |(simp only[*,hs _ _ (by assumption),if_true];done)
     |(simp[*];done)
     |(simp[*,hs _ _ (by assumption)];done))
 |buildSlice t m ps=>
  simp only[cls]at hc;split at hc
  ·cases hc
  ·split at hc
   ·cases hc
   split at hc
   ·split at hc<;>cases hc
   ·split at hc<;>cases hc
 |_=>simp[cls]at hc
theorem Sq(hc:cls X aP o=2)(he:aR X aP o ρ h n=some (v,h1,n1)): ∃ob,h1=aS h n (some ob)∧ ∀h',aR X aP o ρ h' n=some (v,aS h' n (some ob),n+1):=by
 obtain⟨dst,op,ty,pos,after,guard⟩:=o;cases op with
 |call c=>
  obtain⟨Ip,args,gq⟩:=c;cases Ip with
  |value x=>simp[aR]at he
  |builtin b=>cases b<;>simp[cls]at hc
  |_=>simp[aR]at he
 |alloc t=>
  simp only[aR,aa,ax]at he;obtain⟨rfl,rfl,rfl⟩:=he;exact⟨_,rfl,fun h'=>rfl⟩
 |box t x=>
  simp only[aR]at he;split at he
  ·rename_i hf;simp only[aa,ax]at he;obtain⟨rfl,rfl,rfl⟩:=he;exact⟨_,rfl,fun h'=>by simp only[aR,hf,if_true]⟩
  ·cases he
 |makeSlice t l c=>
  simp only[aR]at he;split at he
  ·rename_i p q hl wv;split at he
   ·rename_i hb;simp only[aa,ax]at he;obtain⟨rfl,rfl,rfl⟩:=he;exact⟨_,rfl,fun h'=>by simp only[aR,hl,wv];rw[if_pos hb]⟩
   ·cases he
  ·cases he
 |buildSlice t m ps=>
  simp only[cls]at hc;split at hc
  ·rename_i hk;simp only[aR,hk,if_true]at he;split at he
   ·rename_i es hf;simp only[aa,ax]at he;obtain⟨rfl,rfl,rfl⟩:=he;exact⟨_,rfl,fun h'=>by simp only[aR,hk,if_true,hf]⟩
   ·cases he
  ·rename_i hk;split at hc
   ·cases hc
   rename_i sH;split at hc
   ·rename_i Yn;split at hc
    ·rename_i mw;have wC:ps.toList=[]:=by simpa using Yn
     simp only[aR,hk,sH,Bool.false_eq_true,if_false,wC,List.map_nil,gp,kP,mw,if_true,aa,ax]at he;obtain⟨rfl,rfl,rfl⟩:=he;exact⟨_,rfl,fun h'=>by simp only[aR,hk,sH,Bool.false_eq_true,if_false,wC,List.map_nil,gp,kP,mw,if_true]⟩
    ·cases hc
   ·split at hc<;>cases hc
 |slice t x lo hi mx=>simp only[cls]at hc;split at hc<;>cases hc
 |convert u0 u1 x0=>
  simp only[cls]at hc;split at hc
  ·cases hc
  rename_i gr;split at hc
  ·cases hc
  rename_i hkd;have hk:(X.ti u1).kind=none:=by simpa using hkd
  have zB:(X.ti u1).isStr=false:=by simpa using gr
  simp only[aR,hk,zB,Bool.false_eq_true,false_and,if_false]at he⊢;obtain⟨_,A6,s1,Ln,hl,rfl,rfl,rfl⟩:=nz he;exact⟨_,rfl,fun h'=>by simp[Ln,zT,A6,hl]⟩
 |_=>simp[cls]at hc
theorem Iu{h':aG}(hs:Sub h h'): ∀{d:Nat} {v v':V},aX h d v=some v'→aX h' d v=some v':=by
 intro d;induction d with
 |zero=>
  intro v v' ht;cases v with
  |fn g a b=>cases a<;>cases b<;>simp_all [aX]
  |_=>first|(simp[aX]at ht;done)|(simpa[aX] using ht)
 |succ d ih=>
  have key: ∀{cs l:List V},aY (cs.map (aX h d))=some l→aY (cs.map (aX h' d))=some l:=by
   intro cs;induction cs with
   |nil=>intro l hl;exact hl
   |cons c cs ih2=>
    intro l hl;simp only[List.map_cons]at hl⊢;cases hc:aX h d c with
    |none=>simp[hc,aY]at hl
    |some c'=>
     simp only[hc,aY]at hl;split at hl
     ·rename_i l' tK;simp only[aY,ih hc,ih2 tK];exact hl
     ·cases hl
  intro v v' ht;cases v with
  |agg cs=>
   obtain⟨l,rfl,hl⟩:=lW ht;rw[aX];simp only[key hl]
  |cg cs=>
   obtain⟨l,rfl,hl⟩:=rT ht;rw[aX];simp only[key hl]
  |bJ id s l=>
   rw[aX]at ht⊢;split at ht
   ·rename_i ob cy;rw[hs _ _ cy];simp only;split at ht
    ·rename_i hle;simp only[hle,if_true];split at ht
     ·rename_i hk;simp only[hk,if_true];split at ht
      ·rename_i l' tK;simp only[key tK];exact ht
      ·cases ht
     ·rename_i hk;simp only[hk,if_false];exact ht
    ·cases ht
   ·cases ht
  |fn g a b=>cases a<;>cases b<;>simp_all [aX]
  |_=>first|(simp[aX]at ht;done)|(simpa[aX] using ht)
theorem qU{h':aG}(hs:Sub h h'){d:Nat}: ∀{l r:List V},aY (l.map (aX h d))=some r→aY (l.map (aX h' d))=some r
 | [],_,hl=>hl
 |c::cs,r,hl=>by
  simp only[List.map_cons]at hl⊢;cases hc:aX h d c with
  |none=>simp[hc,aY]at hl
  |some c'=>
   simp only[hc,aY]at hl;split at hl
   ·rename_i l' tK;simp only[aY,Iu hs hc,qU hs tK];exact hl
   ·cases hl
end
section
variable {X:Env} {C:dH} {aP:FuncId} {dst:Option Nat} {g:FuncId} {args:List V} {S S1:St}
theorem Uq(he:oP X C aP dst g args S=some S1): ∃v,S1=({S with h:=S1.h,n:=S1.n}:St).set dst v∧
  ∀S':St,S'.h=S.h→S'.n=S.n→oP X C aP dst g args S'=some (({S' with h:=S1.h,n:=S1.n}:St).set dst v):=by
 unfold oP at he⊢;have hn: ∀(S:St) v,(S.set dst v).n=S.n:=fun S v=>cZ S dst v;have hh: ∀(S:St) v,(S.set dst v).h=S.h:=fun S v=>ck S dst v;split at he
 case h_2=>cases he
 rename_i id rest;split at he
 case h_2=>cases he
 rename_i ob cy;split at he
 case h_2=>cases he
 rename_i e EA;split at he
 case isFalse=>cases he
 rename_i hk;split at he
 case h_2=>cases he
 rename_i R hR;split at he
 case h_2=>cases he
 rename_i auj h1 hg;split at he
 case h_2=>cases he
 rename_i v h n hc;split at he
 case h_2=>cases he
 rename_i kk r rs sL;simp only[aa]at he;subst he;refine⟨_,by rw[hh,hn],fun S' e1 e2=> ?_⟩;simp only[e1,e2,cy,EA,hk,if_true,hR,hg,hc,sL,hh,hn]
theorem LN(he:iA X C aP dst g args S=some S1): ∃v,S1=({S with h:=S1.h,n:=S1.n}:St).set dst v∧
  ∀S':St,S'.h=S.h→S'.n=S.n→iA X C aP dst g args S'=some (({S' with h:=S1.h,n:=S1.n}:St).set dst v):=by
 unfold iA at he⊢;have hn: ∀(S:St) v,(S.set dst v).n=S.n:=fun S v=>cZ S dst v;have hh: ∀(S:St) v,(S.set dst v).h=S.h:=fun S v=>ck S dst v;split at he
 case h_2=>cases he
 rename_i auj h1 hg;split at he
 case h_2=>cases he
 rename_i v h n hc;split at he
 case h_2=>cases he
 rename_i r hR;simp only[aa]at he;subst he;refine⟨_,by rw[hh,hn],fun S' e1 e2=> ?_⟩;simp only[e1,e2,hg,hc,hR,hh,hn]
theorem LO(he:cX X C aP dst g args S=some S1): ∃v,S1=({S with h:=S1.h,n:=S1.n}:St).set dst v∧
  ∀S':St,S'.h=S.h→S'.n=S.n→cX X C aP dst g args S'=some (({S' with h:=S1.h,n:=S1.n}:St).set dst v):=by
 unfold cX at he⊢;have hn: ∀(S:St) v,(S.set dst v).n=S.n:=fun S v=>cZ S dst v;have hh: ∀(S:St) v,(S.set dst v).h=S.h:=fun S v=>ck S dst v;split at he
 ·rename_i t kf;split at he
  case h_2=>cases he
  split at he
  case h_2=>cases he
  rename_i es kx uI;split at he
  ·cases he
  rename_i gZ;simp only[aa]at he;subst he;refine⟨_,by rw[hh,hn];rfl,fun S' h1 h2=> ?_⟩;simp only[h1,uI];rw[if_neg gZ];simp only[St.new,h1,h2,hh,hn]
 ·split at he
  ·rename_i hb;split at he
   case h_2=>cases he
   rename_i v h n hc;simp only[aa]at he;subst he;refine⟨v,by rw[hh,hn],fun S' h1 h2=> ?_⟩;simp only[hb,if_true,h1,h2,hc,hh,hn]
  rename_i hb;split at he
  ·rename_i pW;obtain⟨v,e1,e2⟩:=Uq he;refine⟨v,e1,fun S' h1 h2=> ?_⟩;simp only[hb,if_false,Bool.false_eq_true,pW,if_true];exact e2 S' h1 h2
  rename_i pW;split at he
  ·rename_i wM;obtain⟨v,e1,e2⟩:=LN he;refine⟨v,e1,fun S' h1 h2=> ?_⟩;simp only[hb,if_false,Bool.false_eq_true,pW,wM,if_true];exact e2 S' h1 h2
  ·rename_i wM;split at he
   case h_2=>cases he
   rename_i auj has;split at he
   ·rename_i mw;split at he
    case h_2=>cases he
    rename_i v h n hc;split at he
    ·cases he
    rename_i jJ;simp only[aa]at he;subst he;refine⟨v,by rw[hh,hn],fun S' h1 h2=> ?_⟩;simp only[hb,pW,wM,Bool.false_eq_true,if_false,h1,has,mw,if_true,h2,hc,hh,hn];rw[if_neg jJ]
   ·rename_i mw;split at he
    case h_2=>cases he
    rename_i v h n hc;split at he
    case h_2=>cases he
    rename_i v' Ad;split at he
    ·cases he
    rename_i gZ;simp only[aa]at he;subst he;refine⟨v'.fo,by rw[hh,hn],fun S' h1 h2=> ?_⟩;simp only[hb,pW,wM,Bool.false_eq_true,if_false,h1,has,mw,hc,Ad,hh,hn];rw[if_neg gZ,←h1,←h2]
theorem Iv(hp:((X.clone g).isNone&& !X.fg g&& !X.dP g&& (dst.elim [] (X.mask aP)).isEmpty&& !dst.any (X.nf aP))=true)(he:cX X C aP dst g args S=some S1): ∃v,S1=S.set dst v∧
  ∀S':St,Sub S.h S'.h→cX X C aP dst g args S'=some (S'.set dst v):=by
 simp only[Bool.and_eq_true,Bool.not_eq_true',Option.isNone_iff_eq_none]at hp;obtain⟨⟨⟨⟨kf,hb⟩,pW⟩,wM⟩,mw⟩:=hp;unfold cX at he⊢;simp only[kf,hb,pW,mw,wM,Bool.not_true,Bool.false_and,Bool.false_eq_true,if_false]at he⊢;split at he
 case h_2=>cases he
 rename_i auj has;split at he
 case h_2=>cases he
 rename_i v h n hc;split at he
 case h_2=>cases he
 rename_i v' Ad;split at he
 ·cases he
 rename_i gZ;simp only[aa]at he;subst he;refine⟨v'.fo,rfl,fun S' hs=> ?_⟩;simp only[qU hs has,hc,Ad];rw[if_neg gZ]
end
theorem Iw{X:Env}{C:dH}{aP:FuncId}{dst:Option Nat}{g:FuncId}{S S1:St}(hp:((X.clone g).isNone&& !X.fg g&& !X.dP g&& (dst.elim [] (X.mask aP)).isEmpty&& !dst.any (X.nf aP))=true)(he:cX X C aP dst g [] S=some S1): ∃v,S1=S.set dst v∧
  ∀S':St,cX X C aP dst g [] S'=some (S'.set dst v):=by
 simp only[Bool.and_eq_true,Bool.not_eq_true',Option.isNone_iff_eq_none]at hp;obtain⟨⟨⟨⟨kf,hb⟩,pW⟩,wM⟩,mw⟩:=hp;unfold cX at he⊢;simp only[kf,hb,pW,mw,wM,Bool.not_true,Bool.false_and,Bool.false_eq_true,if_false,List.map_nil,aY]at he⊢;split at he
 case h_2=>cases he
 rename_i v h n hc;split at he
 case h_2=>cases he
 rename_i v' Ad;split at he
 ·cases he
 rename_i gZ;simp only[aa]at he;subst he;refine⟨v'.fo,rfl,fun S'=> ?_⟩;rw[if_neg gZ]
section
variable {X:Env} {C:dH} {aP:FuncId} {n0 j:Nat} {o:Oper} {S S1:St}
def Alike(o:Oper)(S S':St):Prop:= ∀x∈o.op.operands.toList,S'.ev x=S.ev x
theorem jY(eZ: ∀x args gq,o.op≠ .call ⟨.value x,args,gq⟩):cw X C aP n0 j o S=(match aR X aP o S.ev S.h (n0+j) with
  |some (v,h,_)=>some (({S with h:=h}:St).set o.dst v)
  |none=>none):=by
 unfold cw;split
 ·rename_i x args gq ho;exact absurd ho (eZ x args gq)
 ·rfl
theorem Yo(hc:cls X aP o=0)(he:cw X C aP n0 j o S=some S1): ∃v,S1=S.set o.dst v∧ ∀S',Alike o S S'→cw X C aP n0 j o S'=some (S'.set o.dst v):=by
 by_cases mX: ∃x args gq,o.op= .call ⟨.value x,args,gq⟩
 ·obtain⟨x,args,gq,ho⟩:=mX;simp only[cls,ho]at hc;cases x with
  |func g=>
   simp only at hc;split at hc
   ·rename_i hp;split at hc
    ·rename_i hem;have wC:args.toList=[]:=by simpa using hem
     have tL: ∀S:St,S.ev (.func g)= .fn g [] []:=fun _=>rfl;unfold cw at he;simp only[ho,tL,wC,List.map_nil,List.append_nil]at he;obtain⟨v,h1,h2⟩:=Iw hp he;refine⟨v,h1,fun S' ha=> ?_⟩;unfold cw;simp only[ho,tL,wC,List.map_nil,List.append_nil];exact h2 S'
    ·cases hc
   ·cases hc
  |_=>cases hc
 have eZ: ∀x args gq,o.op≠ .call ⟨.value x,args,gq⟩:=fun x args gq ho=>mX ⟨x,args,gq,ho⟩;rw[jY eZ]at he;split at he
 case h_2=>cases he
 rename_i v h m tL;simp only[aa]at he;subst he;obtain⟨rfl,h2⟩:=core0 (fun _=>rfl) hc tL;refine⟨v,rfl,fun S' ha=> ?_⟩;rw[jY eZ,lb ha,h2]
theorem Yp(hc:cls X aP o=1)(he:cw X C aP n0 j o S=some S1): ∃v,S1=S.set o.dst v∧ ∀S',Alike o S S'→Sub S.h S'.h→cw X C aP n0 j o S'=some (S'.set o.dst v):=by
 by_cases mX: ∃x args gq,o.op= .call ⟨.value x,args,gq⟩
 ·obtain⟨x,args,gq,ho⟩:=mX;simp only[cls,ho]at hc;cases x with
  |func g=>
   simp only at hc;split at hc
   ·rename_i hp;split at hc
    ·cases hc
    have tL: ∀S:St,S.ev (.func g)= .fn g [] []:=fun _=>rfl;unfold cw at he;simp only[ho,tL]at he;obtain⟨v,h1,h2⟩:=Iv hp he;refine⟨v,h1,fun S' ha hs=> ?_⟩;have ee:args.toList.map S'.ev=args.toList.map S.ev:=qT fun x hx=>ha x (by simp[ho,Op.operands,Call.operands]at hx⊢;exact .inr hx);unfold cw;simp only[ho,tL,ee];exact h2 S' hs
   ·cases hc
  |_=>cases hc
 ·have eZ: ∀x args gq,o.op≠ .call ⟨.value x,args,gq⟩:=fun x args gq ho=>mX ⟨x,args,gq,ho⟩;rw[jY eZ]at he;split at he
  case h_2=>cases he
  rename_i v h m tL;simp only[aa]at he;subst he;obtain⟨rfl,h2⟩:=LM hc eZ tL;refine⟨v,rfl,fun S' ha hs=> ?_⟩;rw[jY eZ,lb ha,h2 _ _ hs]
theorem Yq(hc:cls X aP o=2)(he:cw X C aP n0 j o S=some S1): ∃v ob,S1=({S with h:=aS S.h (n0+j) (some ob)}:St).set o.dst v∧
  ∀S',Alike o S S'→cw X C aP n0 j o S'=some (({S' with h:=aS S'.h (n0+j) (some ob)}:St).set o.dst v):=by
 have eZ: ∀x args gq,o.op≠ .call ⟨.value x,args,gq⟩:=by
  intro x args gq ho;simp only[cls,ho]at hc;cases x with
  |func g=>
   simp only at hc;split at hc
   ·split at hc<;>cases hc
   ·cases hc
  |_=>cases hc
 rw[jY eZ]at he;split at he
 case h_2=>cases he
 rename_i v h m tL;simp only[aa]at he;subst he;obtain⟨ob,rfl,h2⟩:=Sq hc tL;refine⟨v,ob,rfl,fun S' ha=> ?_⟩;rw[jY eZ,lb ha,h2]
theorem Yr(he:cw X C aP n0 j o S=some S1): ∃v,S1=({S with h:=S1.h,n:=S1.n}:St).set o.dst v∧
  ∀S',Alike o S S'→S'.h=S.h→S'.n=S.n→cw X C aP n0 j o S'=some (({S' with h:=S1.h,n:=S1.n}:St).set o.dst v):=by
 by_cases mX: ∃x args gq,o.op= .call ⟨.value x,args,gq⟩
 ·obtain⟨x,args,gq,ho⟩:=mX;unfold cw at he;simp only[ho]at he;split at he
  case h_2=>cases he
  rename_i g first wk hx
  obtain⟨v,h1,h2⟩:=LO he;refine⟨v,h1,fun S' ha hh hn=> ?_⟩;have ee:args.toList.map S'.ev=args.toList.map S.ev:=qT fun x hx=>ha x (by simp[ho,Op.operands,Call.operands]at hx⊢;exact .inr hx);have rW:S'.ev x= .fn g first wk:=by rw[←hx];exact ha x (by simp[ho,Op.operands,Call.operands])
  unfold cw;simp only[ho,rW,ee];exact h2 S' hh hn
 ·have eZ: ∀x args gq,o.op≠ .call ⟨.value x,args,gq⟩:=fun x args gq ho=>mX ⟨x,args,gq,ho⟩;rw[jY eZ]at he;split at he
  case h_2=>cases he
  rename_i v h m tL;simp only[aa]at he;subst he;refine⟨v,by rw[ck,cZ],fun S' ha hh hn=> ?_⟩;rw[jY eZ,lb ha,hh,tL,ck,cZ,←hn]
end
def Env.base(X:Env)(g:FuncId):Nat:=if X.dP g=true then 1 else 0
def oS(X:Env):Prop:= ∀f key N,X.norm f key=some N→N.ok=true∧X.low f=true∧(X.dP f=true→N.base=true)
theorem CK(S:St)(N:Norm)(hx:aG): ∀(L:List Nat) (t:Nat),fixF S N hx L t=if L.contains t then qD (rP t N.roots) (S.f t) (wZ S N hx (S.f t)) else .bad
 | [],t=>rfl
 |i::L,t=>by
  simp only[fixF,aS,List.contains_cons];by_cases e:t=i
  ·subst e;simp only[if_true,beq_self_eq_true,Bool.true_or]
  ·rw[CK S N hx L t];have:(t==i)=false:=by simpa using e
   simp only[e,if_false,this,Bool.false_or]
theorem ug(S:St)(N:Norm)(hx:aG): ∀(L:List Gr) (id:Nat),Ed S N hx L id=match ie id L with|some a=>a.ob S N hx|none=>none
 | [],id=>rfl
 |a::L,id=>by
  simp only[Ed,aS,ie];by_cases e:id=a.new
  ·subst e;simp
  ·rw[ug S N hx L id];have: ¬a.new=id:=fun h=>e h.symm;simp only[e,this,if_false]
theorem qb: ∀{L:List Gr} {id:Nat} {a:Gr},ie id L=some a→a∈L∧a.new=id
 | [],id,a,h=>by simp[ie]at h
 |b::L,id,a,h=>by
  simp only[ie]at h;split at h
  ·simp only[aa]at h;subst h;rename_i e;exact⟨List.mem_cons_self ..,e⟩
  ·have:=qb h;exact⟨List.mem_cons_of_mem _ this.1,this.2⟩
theorem Ai{S:St}{id:Nat}: ∀{L:List Gr} {j:Nat},look S id L=some j→ ∃a,a∈L∧(a.loc.val S).root=some id∧a.new=j
 | [],j,h=>by simp[look]at h
 |b::L,j,h=>by
  simp only[look]at h;split at h
  ·rename_i e;simp only[aa]at h;exact⟨b,List.mem_cons_self ..,e,h⟩
  ·obtain⟨a,h1,h2⟩:=Ai h;exact⟨a,List.mem_cons_of_mem _ h1,h2⟩
structure Norm.Ok (N:Norm):Prop where
 one:1≤N.n
 new: ∀a,a∈N.roots→a.new<N.n∧ ∃b,ie a.new N.roots=some b∧b.loc=a.loc
theorem Norm.ED{N:Norm}(h:N.ok=true):N.Ok:=by
 unfold Norm.ok at h;simp only[Bool.and_eq_true,decide_eq_true_eq]at h;obtain⟨h2,h4⟩:=h;refine⟨h2,fun a ha=> ?_⟩;have:=List.all_eq_true.1 h4 a ha;simp only[Bool.and_eq_true,decide_eq_true_eq]at this;refine⟨this.1,?_⟩;have h5:=this.2;cases hb:ie a.new N.roots with
 |none=>rw[hb]at h5;cases h5
 |some b=>
  rw[hb]at h5;exact⟨b,rfl,by simpa using h5⟩
theorem xT{N:Norm}{S:St}(hb:N.base=true)(h:N.first S=true): ∃a,ie 0 N.roots=some a∧(a.loc.val S).root=some 0:=by
 unfold Norm.first at h;rw[hb]at h;cases hr:N.roots with
 |nil=>rw[hr]at h;cases h
 |cons a r=>
  rw[hr]at h;simp only[Bool.and_eq_true,beq_iff_eq]at h;exact⟨a,by simp[ie,h.1],h.2⟩
theorem Ix{N:Norm}{S S':St}(hN:N.ok=true)(h:N.run S=some S'){m:Nat}(hm:m≤if N.base=true then 1 else 0):m≤S'.n∧ ∀id,id<m→S.h id=none→S'.h id=none:=by
 have K:=Norm.ED hN;unfold Norm.run at h;split at h
 case isFalse=>cases h
 rename_i hc;simp only[Bool.and_eq_true]at hc;simp only[aa]at h;subst h;have uM:m≤1:=by split at hm<;>omega
 refine⟨Nat.le_trans uM K.one,fun id bV hn=> ?_⟩;have:id=0:=by omega
 subst this;have hb:N.base=true:=by
  cases hb:N.base with
  |true=>rfl
  |false=>rw[hb]at hm;simp at hm;omega
 obtain⟨a,h1,h2⟩:=xT hb hc.2;simp only;rw[ug,h1];simp only;unfold Gr.ob Ec;split
 ·rename_i hv;rw[hv]at h2;cases h2
 ·rw[h2];simp only[hn,w7]
theorem sN{X:Env}(hN:oS X){f key:Nat}{S S':St}(h:jH X f key S=some S'){m:Nat}(hm:X.low f=true→m≤Env.base X f)(hmn:m≤S.n):m≤S'.n∧ ∀id,id<m→S.h id=none→S'.h id=none:=by
 unfold jH at h;cases hc:X.norm f key with
 |none=>rw[hc]at h;simp only[aa]at h;subst h;exact⟨hmn,fun _ _ h=>h⟩
 |some N=>
  rw[hc]at h;obtain⟨h1,h2,h3⟩:=hN f key N hc;refine Ix h1 h (Nat.le_trans (hm h2) ?_);unfold Env.base;by_cases pW:X.dP f=true
  ·rw[if_pos pW,if_pos (h3 pW)];exact Nat.le_refl _
  ·rw[if_neg pW];exact Nat.zero_le _
def Norm.sig(N:Norm)(S:St)(σ:dK):dK:=fun id=>
 match ie id N.roots with
 |some a=>match(a.loc.val S).root with
  |some j=>σ j
  |none=>none
 |none=>none
section
variable {w:World} {I J:Nat→Prop} {σ σ':dK}
theorem LP{v:V}{u:Value}(hr:aV w I σ v u):aV w I σ v.wide u:=by
 cases v with
 |sl c es=>
  simp only[V.wide,aV]at hr⊢;obtain⟨a,cap,h1,h2,h3,h4,h5⟩:=hr;exact⟨a,cap,h1,h2,h3,fun hc=>(by cases hc),h5⟩
 |_=>exact hr
theorem Iy{α:Type}{f:α→Option Nat}{l:List α}(h:oN (l.map f)=true){a b:α}(ha:a∈l)(hb:b∈l){j:Nat}(h1:f a=some j)(h2:f b=some j):a=b:=by
 obtain⟨p,hp⟩:=List.getElem?_of_mem ha;obtain⟨q,hq⟩:=List.getElem?_of_mem hb;have:=rV h (i:=p) (j:=q) (x:=j) (by rw[List.getElem?_map,hp];simp[h1]) (by rw[List.getElem?_map,hq];simp[h2]);subst this;rw[hp]at hq;simpa using hq
theorem LQ{N:Norm}{S S':St}{act:Act}(hN:N.ok=true)(eJ:N.run S=some S')(R:Rel w I σ S.h)(F:dM w I σ S.f act)(fr:gO σ S.h S.n):
  let J:=fun b=>I b∨dF σ (cP S.h (N.mM S)) b
  Rel w J (N.sig S σ) S'.h∧dM w J (N.sig S σ) S'.f act∧gO (N.sig S σ) S'.h S'.n∧(∀b,dF (N.sig S σ) S'.h b→dF σ S.h b):=by
 intro J;have K:=Norm.ED hN;unfold Norm.run at eJ;split at eJ
 case isFalse=>cases eJ
 rename_i Lz;simp only[Bool.and_eq_true]at Lz;have P5:=Lz.1;simp only[aa]at eJ;subst eJ;simp only;have H7: ∀b,I b→J b:=fun b hb=> .inl hb;have EJ:Ext w I cC w J cC:=⟨fun _ _=>rfl,fun _ c _ fz hh=>⟨c,fz,hh,rfl⟩,H7,fun _ _ hh=>hh⟩;have GL:Rel w I σ (cP S.h (N.mM S)):=R.sub fun id ob h=>(fO h).1;have X8: ∀c c' x,aX (cP S.h (N.mM S)) depth c=some c'→aV w I σ c x→aV w J cC c' x:=fun c c' x ht hx=>oB GL H7 (fun b hb=> .inr hb) depth c c' x ht hx;have xK: ∀a,a∈N.roots→ ∀j,(a.loc.val S).root=some j→some j∈N.mM S:=fun a ha j hv=>by
  unfold Norm.mM;exact List.mem_map.2 ⟨a,ha,hv⟩
 have Ys: ∀a b,a∈N.roots→b∈N.roots→ ∀j,(a.loc.val S).root=some j→(b.loc.val S).root=some j→a=b:=fun a b ha hb j h1 h2=>Iy P5 ha hb h1 h2;have Sr: ∀a,a∈N.roots→ ∀j,(a.loc.val S).root=some j→N.sig S σ a.new=σ j:=by
  intro a ha j hv;obtain⟨h1,b,h3,h4⟩:=K.new a ha;unfold Norm.sig;rw[h3];simp only[h4,hv]
 have Ss: ∀id j,look S id N.roots=some j→N.sig S σ j=σ id:=by
  intro id j h;obtain⟨a,h1,h2,rfl⟩:=Ai h;exact Sr a h1 id h2
 have EE: ∀a,a∈N.roots→ ∀j ob b o k,(a.loc.val S).root=some j→S.h j=some ob→σ j=some (b,o,k)→ ¬J b:=by
  intro a ha j ob b o k hv ho hs;rintro(hx|⟨i,ob2,o2,k2,g1,g2⟩)
  ·exact(R.owned ⟨j,ob,o,k,ho,hs⟩).1 hx
  ·have g3:=fO g1;have:i=j:=R.apart i j ob2 ob b o2 k2 o k g3.1 ho g2 hs;subst this;exact g3.2 (xK a ha i hv)
 have GP: ∀c x,aV w I σ c x→aV w J (N.sig S σ) (fixC S N (cP S.h (N.mM S)) c) x:=by
  intro c x hx;unfold fixC;split
  ·rename_i id s l;split
   ·rename_i j hj;simp only[aV]at hx⊢;rw[Ss id j hj];exact hx
   ·split
    ·rename_i v hv;exact(X8 _ v x hv hx).ext Ext.free
    ·simp[aV]
  ·rename_i id i f;split
   ·rename_i j hj;simp only[aV]at hx⊢;rw[Ss id j hj];exact hx
   ·simp[aV]
  ·split
   ·rename_i h;exact(LP ((nG h hx).ext EJ)).ext Ext.free
   ·simp[aV]
 have Su: ∀c x,aV w I σ c x→aV w J (N.sig S σ) (AX S N (cP S.h (N.mM S)) c) x:=by
  intro c x hx;unfold AX;split
  ·rename_i cs;simp only[aV]at hx⊢;obtain⟨us,rfl,hc⟩:=hx;refine⟨us,rfl,?_⟩;rw[bH]at hc⊢;refine⟨by rw[List.length_map];exact hc.1,fun j c u' kY hu=> ?_⟩;rw[List.getElem?_map]at kY;cases p0:cs[j]? with
   |none=>rw[p0]at kY;cases kY
   |some c0=>
    rw[p0]at kY;simp only[Option.map_some,aa]at kY;subst kY;have:=hc.2 j c0 u' p0 hu;exact⟨this.1,GP c0 u' this.2⟩
  ·exact GP c x hx
 have LR: ∀cs us,cI w I σ cs us→cI w J (N.sig S σ) (cs.map (AX S N (cP S.h (N.mM S)))) us:=by
  intro cs us hc;rw[ig]at hc⊢;refine⟨by rw[List.length_map];exact hc.1,fun j c u' kY hu=> ?_⟩;rw[List.getElem?_map]at kY;cases p0:cs[j]? with
  |none=>rw[p0]at kY;cases kY
  |some c0=>
   rw[p0]at kY;simp only[Option.map_some,aa]at kY;subst kY;exact Su c0 u' (hc.2 j c0 u' p0 hu)
 have Yt: ∀c x,aV w I σ c x→aV w J (N.sig S σ) (wZ S N (cP S.h (N.mM S)) c) x:=by
  intro c x hx;unfold wZ;split
  ·simp only[aV]at hx⊢;obtain⟨us,rfl,hc⟩:=hx;exact⟨us,rfl,LR _ _ hc⟩
  ·simp only[aV]at hx⊢;obtain⟨us,vs,rfl,h1,h2⟩:=hx;exact⟨us,vs,rfl,LR _ _ h1,LR _ _ h2⟩
  ·rename_i cs;simp only[aV]at hx⊢;obtain⟨b,o,h1,h2,h3⟩:=hx;exact⟨b,o,h1,H7 b h2,ke.ext' cs b o EJ h2 h3⟩
  ·exact Su c x hx
 have LS: ∀(o:Option Nat) v w' x,aV w I σ v x→aV w J (N.sig S σ) w' x→aV w J (N.sig S σ) (qD o v w') x:=by
  intro o v w' x h1 h2;unfold qD;split
  ·split
   ·exact CB rfl h1
   ·exact h2
  ·exact h2
 have Ur: ∀(id:Nat) (cs:List V) (b o j0:Nat),(sv S N (cP S.h (N.mM S)) id j0 cs).length=cs.length∧
   (uH w I σ cs b o→uH w J (N.sig S σ) (sv S N (cP S.h (N.mM S)) id j0 cs) b o):=by
  intro id cs b o;induction cs generalizing o with
  |nil=>intro j0;exact⟨rfl,fun _ j c hj=>by simp[sv]at hj⟩
  |cons c cs ih=>
   intro j0;obtain⟨g1,g2⟩:=ih (o+1) (j0+1);refine⟨by simp[sv,g1],fun uL j c' hj=> ?_⟩;cases j with
   |zero=>
    simp only[sv,List.getElem?_cons_zero,aa]at hj;obtain⟨u,k1,k2,k3⟩:=uL 0 c (by simp);refine⟨u,k1,k2,?_⟩;subst hj;exact LS _ _ _ _ k3 (GP c u k3)
   |succ j=>
    simp only[sv,List.getElem?_cons_succ]at hj;have ad9:uH w I σ cs b (o+1):=fun j c' hj=>by
     have:=uL (j+1) c' (by simpa using hj);rwa[show o+(j+1)=o+1+j by omega]at this
    have:=g2 ad9 j c' hj;rwa[show o+(j+1)=o+1+j by omega]
 have Yu: ∀(id:Nat) (e:V) (b o:Nat),(∀cs,e≠ .cg cs)→(B6 S N (cP S.h (N.mM S)) id e).cells.length=e.cells.length∧(uH w I σ e.cells b o→uH w J (N.sig S σ) (B6 S N (cP S.h (N.mM S)) id e).cells b o):=by
  intro id e b o zh;by_cases hx: ∃cs,e= .agg cs
  ·obtain⟨cs,rfl⟩:=hx;simp only[B6,V.cells];exact Ur id cs b o 0
  ·have Cf: ∀cs,e≠ .agg cs:=fun cs h=>hx ⟨cs,h⟩;have CL:B6 S N (cP S.h (N.mM S)) id e=qD (kB S id 0 N.roots) e (fixC S N (cP S.h (N.mM S)) e):=by
    cases e with
    |agg cs=>exact absurd rfl (Cf cs)
    |_=>rfl
   have P2: ∀cs,B6 S N (cP S.h (N.mM S)) id e≠ .agg cs:=by
    rw[CL];intro cs hh;have uV: ∀cs,fixC S N (cP S.h (N.mM S)) e≠ .agg cs:=by
     intro cs hh;unfold fixC at hh;split at hh
     ·split at hh
      ·cases hh
      ·split at hh
       ·rename_i v hv;exact rU hv (by intro cs e;cases e) cs hh
       ·cases hh
     ·split at hh<;>cases hh
     ·split at hh
      ·cases e<;>simp[V.wide]at hh;exact Cf _ rfl
      ·cases hh
    unfold qD at hh;split at hh
    ·split at hh
     ·cases hh
     ·exact uV cs hh
    ·exact uV cs hh
   rw[hX P2,hX Cf];refine⟨rfl,fun uL j c hj=> ?_⟩;cases j with
   |succ j=>simp at hj
   |zero=>
    simp at hj;subst hj;obtain⟨u,k1,k2,k3⟩:=uL 0 e (by simp);refine⟨u,k1,k2,?_⟩;rw[CL];exact LS _ _ _ _ k3 (GP e u k3)
 have GQ: ∀a ob,a∈N.roots→ie a.new N.roots=some a→a.ob S N (cP S.h (N.mM S))=some ob→Ce w J (N.sig S σ) a.new ob∧(∀b o k,N.sig S σ a.new=some (b,o,k)→ ∃j zf,(a.loc.val S).root=some j∧S.h j=some zf∧σ j=some (b,o,k)):=by
  intro a ob ha P2 cy;unfold Gr.ob Ec at cy;split at cy
  ·rename_i hv;simp only[aa]at cy;subst cy;have hz:N.sig S σ a.new=none:=by
    unfold Norm.sig;rw[P2];simp only[hv,V.root]
   exact⟨.inl ⟨rfl,hz⟩,fun b o k hs=>by rw[hz]at hs;cases hs⟩
  ·split at cy
   case h_2=>cases cy
   rename_i j hv;have hz:=Sr a ha j hv;cases ho:S.h j with
   |none=>rw[ho]at cy;simp[w7]at cy
   |some zf=>
    rw[ho]at cy;refine⟨?_,fun b o k hs=>⟨j,zf,hv,ho,by rw[←hz];exact hs⟩⟩;unfold w7 at cy;have hR:=R.obj j zf ho;simp only at cy;split at cy
    ·rename_i hk;split at cy
     ·rename_i e he;simp only[aa]at cy;subst cy;rcases hR with⟨h1,_⟩|⟨b,o,c,el,hs,hi,hb,hle,di⟩
      ·rw[he]at h1;cases h1
      ·rw[he,hk]at di;rw[he]at hle;rw[fp]at di;refine .inr ⟨b,o,c,el,by rw[hz];exact hs,EE a ha j zf b o zf.k hv ho hs,hb,by simpa using hle,?_⟩;simp only[gE,if_true]at di⊢;rw[fp];by_cases Yv: ∃cs,e= .cg cs
       ·obtain⟨cs,rfl⟩:=Yv;exfalso;obtain⟨u,_,k2,k3⟩:=di.2.1 0 (.cg cs) (by simp[V.cells]);simp only[aV]at k3;obtain⟨us,rfl,_⟩:=k3;simp[Value.oneCell']at k2
       ·obtain⟨g1,g2⟩:=Yu j e b o (fun cs h=>Yv ⟨cs,h⟩);exact⟨by rw[g1];exact di.1,g2 di.2.1,by simp[bw]⟩
     ·split at cy
      case isFalse=>cases cy
      rename_i iG;simp only[aa]at cy;subst cy;rcases hR with⟨h1,h2⟩|⟨b,o,c,el,hs,hi,hb,hle,di⟩
      ·exact .inl ⟨h1,by rw[hz];exact h2⟩
      ·refine .inr ⟨b,o,c,el,by rw[hz];exact hs,EE a ha j zf b o zf.k hv ho hs,hb,hle,?_⟩;rw[hk]at di⊢;exact((Ck iG di).jc EJ rfl).jc Ext.free rfl
    ·rename_i hk;simp only[aa]at cy;subst cy;have mI:zf.bZ=false:=by simpa using hk
     rcases hR with⟨h1,h2⟩|⟨b,o,c,el,hs,hi,hb,hle,di⟩
     ·exact .inl ⟨h1,by rw[hz];exact h2⟩
     ·refine .inr ⟨b,o,c,el,by rw[hz];exact hs,EE a ha j zf b o zf.k hv ho hs,hb,hle,?_⟩;rw[mI]at di⊢;exact di.jc EJ rfl
 have GR: ∀id ob,Ed S N (cP S.h (N.mM S)) N.roots id=some ob→ ∃a,a∈N.roots∧a.new=id∧ie a.new N.roots=some a∧a.ob S N (cP S.h (N.mM S))=some ob:=by
  intro id ob ho;rw[ug]at ho;cases hz:ie id N.roots with
  |some a=>
   rw[hz]at ho;obtain⟨h1,h2⟩:=qb hz;exact⟨a,h1,h2,by rw[h2];exact hz,ho⟩
  |none=>rw[hz]at ho;cases ho
 have jw: ∀b,dF σ (cP S.h (N.mM S)) b→dF σ S.h b:=fun b ⟨i,ob,o,k,h1,h2⟩=>⟨i,ob,o,k,(fO h1).1,h2⟩;have Yw: ∀id,N.n≤id→ie id N.roots=none:=fun id bV=>by
  cases hz:ie id N.roots with
  |none=>rfl
  |some a=>
   obtain⟨h1,h2⟩:=qb hz;have:=(K.new a h1).1;omega
 refine⟨⟨fun b hb=> ?_,fun id ob ho=> ?_,fun id iI ob ja b o k o' k' h1 h2 h3 h4=> ?_,R.sE.sub fun b hb=> .inl hb⟩,fun t=> ?_,fun id bV=>⟨?_,?_⟩,fun b hb=> ?_⟩
 ·rcases hb with hb|hb
  ·exact R.cT b hb
  ·exact R.gm (jw b hb)
 ·obtain⟨a,g1,rfl,g2,g3⟩:=GR id ob ho;exact(GQ a ob g1 g2 g3).1
 ·obtain⟨a,g1,rfl,g2,g3⟩:=GR id ob h1;obtain⟨j,zf,m1,m2,m3⟩:=(GQ a ob g1 g2 g3).2 b o k h3;obtain⟨a',Sj,rfl,g2',g3'⟩:=GR iI ja h2;obtain⟨j',aea,m1',m2',m3'⟩:=(GQ a' ja Sj g2' g3').2 b o' k' h4;have:j=j':=R.apart j j' zf aea b o k o' k' m2 m2' m3 m3';subst this;rw[Ys a a' g1 Sj j m1 m1']
 ·rw[CK];split
  case isFalse=>simp[aV]
  exact LS _ _ _ _ (F t) (Yt _ _ (F t))
 ·rw[ug,Yw id bV]
 ·unfold Norm.sig;rw[Yw id bV]
 ·obtain⟨id,ob,o,k,h1,h2⟩:=hb;obtain⟨a,g1,rfl,g2,g3⟩:=GR id ob h1;obtain⟨j,zf,m1,m2,m3⟩:=(GQ a ob g1 g2 g3).2 b o k h2;exact⟨j,zf,o,k,m2,m3⟩
end
theorem uZ: ∀{vs uX:List V} {h h':aG},kq h vs=some (uX,h')→ ∀id,h id=none→h' id=none
 | [],uX,h,h',hg,id,bV=>by
  simp only[kq,aa,ax]at hg;rw[←hg.2];exact bV
 |v::ps,uX,h,h',hg,id,bV=>by
  simp only[kq]at hg;split at hg
  ·rename_i v' h1 hg1;split at hg
   ·rename_i h2 hg2;simp only[aa,ax]at hg;rw[←hg.2];exact uZ hg2 id (xS hg1 id bV)
   ·cases hg
  ·cases hg
section
variable {X:Env} {C:dH} {aP:FuncId}
theorem Iz(hC:lh X C){dst:Option Nat}{g:FuncId}{args:List V}{S S1:St}(he:cX X C aP dst g args S=some S1):S.n≤S1.n∧ ∀id,id<S.n→S.h id=none→S1.h id=none:=by
 unfold cX at he;split at he
 ·split at he
  case h_2=>cases he
  split at he
  case h_2=>cases he
  split at he
  ·cases he
  simp only[aa]at he;subst he;rw[ck,cZ];refine⟨by simp[St.new],fun id bV hn=> ?_⟩;have:id≠S.n:=by omega
  simp[St.new,aS,this,hn]
 ·split at he
  ·rename_i Yj;have ud:X.low g=false:=by
    simp only[Bool.and_eq_true,Bool.not_eq_true']at Yj;exact Yj.2
   split at he
   case h_2=>cases he
   rename_i v h n hc;simp only[aa]at he;subst he;rw[ck,cZ];have:=hC _ _ _ _ _ _ _ hc;rw[qR ud]at this;exact this
  split at he
  ·unfold oP at he;split at he
   case h_2=>cases he
   split at he
   case h_2=>cases he
   rename_i ob cy;split at he
   case h_2=>cases he
   split at he
   case isFalse=>cases he
   split at he
   case h_2=>cases he
   split at he
   case h_2=>cases he
   rename_i hg
   repeat (split at he;rotate_left;cases he)
   simp only[aa]at he;subst he;rw[ck,cZ];refine⟨by simp,fun i hi hn=> ?_⟩;dsimp only;rw[jK,if_neg (by omega)];have eZ:i≠_:=fun e=>by rw[e,cy]at hn;cases hn
   simp only[aS,eZ,if_false];refine uZ hg i ?_;cases hz:cP (aS S.h _ none) _ i with
   |none=>rfl
   |some y=>
    have:=(fO hz).1;simp only[aS,eZ,if_false,hn]at this;cases this
  split at he
  ·unfold iA at he;split at he
   case h_2=>cases he
   rename_i hg
   repeat (split at he;rotate_left;cases he)
   simp only[aa]at he;subst he;rw[ck,cZ];refine⟨by simp,fun i hi hn=> ?_⟩;dsimp only;rw[jK,if_neg (by omega)];exact uZ hg i hn
  ·split at he
   case h_2=>cases he
   split at he
   ·rename_i mw;have ud:X.low g=false:=by
     simp only[Bool.and_eq_true,Bool.not_eq_true']at mw;exact mw.2
    split at he
    case h_2=>cases he
    rename_i v h n hc;split at he
    ·cases he
    simp only[aa]at he;subst he;rw[ck,cZ];have:=hC _ _ _ _ _ _ _ hc;rw[qR ud]at this;refine⟨this.1,fun id bV hn=> ?_⟩;simp only[bV,if_true];exact hn
   ·split at he
    case h_2=>cases he
    split at he
    case h_2=>cases he
    split at he
    ·cases he
    simp only[aa]at he;subst he;rw[ck,cZ];exact⟨Nat.le_refl _,fun id _ hn=>hn⟩
theorem rY(hC:lh X C){n0 j:Nat}{o:Oper}{S S1:St}(he:cw X C aP n0 j o S=some S1):S.n≤S1.n∧ ∀id,id≠n0+j→id<S.n→S.h id=none→S1.h id=none:=by
 unfold cw at he;split at he
 ·split at he
  case h_2=>cases he
  have:=Iz hC he;exact⟨this.1,fun id _ bV hn=>this.2 id bV hn⟩
 ·split at he
  case h_2=>cases he
  rename_i v h n hc;simp only[aa]at he;subst he;rw[ck,cZ];exact⟨Nat.le_refl _,fun id eZ _ hn=>CI hc id eZ hn⟩
theorem xU(hC:lh X C){bm:List (Option Nat)}{n0:Nat}: ∀{l:List Oper} {k:Nat} {S S1:St},cQ X C aP bm n0 k l S=some S1→S.n≤S1.n∧ ∀id,(id<n0+k∨n0+k+l.length≤id)→id<S.n→S.h id=none→S1.h id=none
 | [],k,S,S1,he=>by
  simp only[cQ,aa]at he;subst he;exact⟨Nat.le_refl _,fun id _ _ hn=>hn⟩
 |o::l,k,S,S1,he=>by
  have two: ∀{S2:St},S.n≤S2.n→(∀id,id≠n0+k→id<S.n→S.h id=none→S2.h id=none)→cQ X C aP bm n0 (k+1) l S2=some S1→S.n≤S1.n∧ ∀id,(id<n0+k∨n0+k+(o::l).length≤id)→id<S.n→S.h id=none→S1.h id=none:=by
   intro S2 h1 h2 h3;obtain⟨h4,h5⟩:=xU hC h3;refine⟨by omega,fun id bV jw hn=>h5 id ?_ (by omega) (h2 id ?_ jw hn)⟩
   ·simp only[List.length_cons]at bV;omega
   ·simp only[List.length_cons]at bV;omega
  have skip:cQ X C aP bm n0 (k+1) l (S.set o.dst (.cg []))=some S1→S.n≤S1.n∧ ∀id,(id<n0+k∨n0+k+(o::l).length≤id)→id<S.n→S.h id=none→S1.h id=none:=fun h3=>
   two (by rw[cZ];exact Nat.le_refl _) (fun id _ _ hn=>by rw[ck];exact hn) h3
  simp only[cQ]at he;split at he
  ·split at he
   case h_2=>cases he
   rename_i S2 h1;have:=rY hC h1;exact two this.1 this.2 he
  ·split at he
   case h_2=>cases he
   split at he
   ·split at he
    ·split at he
     case h_2=>cases he
     rename_i S2 h1;have:=rY hC h1;exact two this.1 this.2 he
    ·exact skip he
   ·exact skip he
   ·cases he
def LU(X:Env)(E:Ev):Prop:= ∀f c S e S1 m,E f c S=some (e,S1)→m≤S.n→(X.low f=true→m≤Env.base X f)→m≤S1.n∧ ∀id,id<m→S.h id=none→S1.h id=none
theorem oT{E:Ev}(hE:LU X E):lh X (bz X E):=by
 intro g args h k v h' k' hc;unfold bz at hc;have vw:X.ki g=none:=by
  cases vw:X.ki g with
  |none=>rfl
  |some pr=>simp[vw]at hc
 simp only[vw]at hc;split at hc
 case h_2=>cases hc
 split at hc
 case h_2=>cases hc
 rename_i fn hf b hb;cases he:E g b ⟨kF args,h,k⟩ with
 |none=>simp[he,pk]at hc
 |some x=>
  obtain⟨e,S1⟩:=x;rw[he]at hc;have:=hE _ _ _ _ _ (B2 X g k) he (Lp X g k) (fun hl=>by
   unfold B2 Env.base;rw[if_pos hl];exact Nat.min_le_left _ _)
  cases e with
  |exit id=>simp[pk]at hc
  |normal|ret=>
   simp only[pk]at hc;split at hc
   case h_2=>cases hc
   simp only[aa,ax]at hc;obtain⟨_,rfl,rfl⟩:=hc;exact this
theorem qV(hN:oS X): ∀n,LU X (ng X n)
 |0=>fun f c S e S1 m he=>by simp[ng]at he
 |n+1=>by
  have ih:=qV hN n;have hC:=oT (X:=X) ih;intro f c S e S1 m he hm hl;rw[ng]at he;have done:S=S1→m≤S1.n∧ ∀id,id<m→S.h id=none→S1.h id=none:=by
   rintro rfl;exact⟨hm,fun _ _ h=>h⟩
  have trans: ∀{S2:St},(m≤S2.n∧ ∀id,id<m→S.h id=none→S2.h id=none)→(m≤S1.n∧ ∀id,id<m→S2.h id=none→S1.h id=none)→m≤S1.n∧ ∀id,id<m→S.h id=none→S1.h id=none:=
   fun h1 h2=>⟨h2.1,fun id bV hn=>h2.2 id bV (h1.2 id bV hn)⟩
  cases c with
  |skip|exit _|ret=>
   simp only[eS,aa,ax]at he;exact done he.2
  |region id ops d=>
   simp only[eS]at he;split at he
   case h_2=>cases he
   rename_i S0 Cc;split at he
   case h_2=>cases he
   rename_i S2 tL;split at he
   case isFalse=>cases he
   simp only[aa,ax]at he;obtain⟨_,rfl⟩:=he;obtain⟨h1,h2⟩:=xU hC tL;simp only at h1 h2;have h0:=sN hN Cc hl hm;exact trans h0 ⟨by omega,fun id bV hn=>h2 id (.inl (by omega)) (by omega) hn⟩
  |seq x y=>
   simp only[eS]at he;cases hx:ng X n f x S with
   |none=>simp[hx]at he
   |some z=>
    obtain⟨e2,S2⟩:=z;rw[hx]at he;have h1:=ih _ _ _ _ _ m hx hm hl;cases e2 with
    |normal=>exact trans h1 (ih _ _ _ _ _ m he h1.1 hl)
    |exit id=>
     simp only[aa,ax]at he;obtain⟨_,rfl⟩:=he;exact h1
    |ret=>
     simp only[aa,ax]at he;obtain⟨_,rfl⟩:=he;exact h1
  |cond x p q=>
   simp only[eS]at he;split at he
   case h_2=>cases he
   split at he
   ·exact ih _ _ _ _ _ m he hm hl
   ·exact ih _ _ _ _ _ m he hm hl
  |block id b=>
   simp only[eS]at he;cases hb:ng X n f b S with
   |none=>simp[hb]at he
   |some z=>
    obtain⟨e2,S2⟩:=z;rw[hb]at he;have h1:=ih _ _ _ _ _ m hb hm hl;cases e2 with
    |normal=>
     simp only[aa,ax]at he;obtain⟨_,rfl⟩:=he;exact h1
    |ret=>
     simp only[aa,ax]at he;obtain⟨_,rfl⟩:=he;exact h1
    |exit i=>
     simp only at he;split at he
     ·simp only[aa,ax]at he;obtain⟨_,rfl⟩:=he;exact h1
     ·simp only[aa,ax]at he;obtain⟨_,rfl⟩:=he;exact h1
  |loop b=>
   simp only[eS]at he;split at he
   case h_2=>cases he
   rename_i S0 Cc;have h0:=sN hN Cc hl hm;cases hb:ng X n f b S0 with
   |none=>simp[hb]at he
   |some z=>
    obtain⟨e2,S2⟩:=z;rw[hb]at he;have h1:=ih _ _ _ _ _ m hb h0.1 hl;have h2:m≤S2.n∧ ∀id,id<m→S.h id=none→S2.h id=none:=⟨h1.1,fun id bV hn=>h1.2 id bV (h0.2 id bV hn)⟩;cases e2 with
    |normal=>exact trans h2 (ih _ _ _ _ _ m he h1.1 hl)
    |exit id=>
     simp only[aa,ax]at he;obtain⟨_,rfl⟩:=he;exact h2
    |ret=>
     simp only[aa,ax]at he;obtain⟨_,rfl⟩:=he;exact h2
  |_=>simp[eS]at he
end
def qW(P:Program)(c:Code)(Q:Exit→Act→World→Prop)(a:Act)(w:World):Prop:=
 ∀(b:Frame) (k:List Item) (cs:List Frame),∃e a' w',Q e a' w'∧Arrives P (lone (b.at a (.code c:: .inLoop c::k)) cs w) b k cs e a' w'
theorem qW.wp{P:Program}{c:Code}{Q:Exit→Act→World→Prop}{a:Act}{w:World}(h:qW P c Q a w):(Code.loop c).wp P Q a w:=by
 intro b k cs;obtain⟨e,a',w',hq,CM⟩:=h b k cs;exact⟨e,a',w',hq,.of_steps (.one step_loop) CM⟩
theorem qW.round{P:Program}{c:Code}{Q:Exit→Act→World→Prop}{a:Act}{w:World}(h:c.wp P (Exit.then (qW P c Q) Q) a w):qW P c Q a w:=by
 intro b k cs;obtain⟨e,a₁,w₁,hq,CM⟩:=h b (.inLoop c::k) cs;cases e with
 |normal=>
  obtain⟨e₂,a₂,w₂,hq₂,Yx⟩:=hq b k cs;exact⟨e₂,a₂,w₂,hq₂,.of_steps (Steps.trans CM (.one step_inLoop)) Yx⟩
 |exit id=>exact⟨_,a₁,w₁,hq,.pass (x:= .inLoop c) rfl (fun _ _=> .inl (by simp)) CM⟩
 |goto l=>exact⟨_,a₁,w₁,hq,.pass (x:= .inLoop c) rfl (fun _ _=> .inl (by simp)) CM⟩
 |ret=>exact⟨_,a₁,w₁,hq,.pass (x:= .inLoop c) rfl (fun _ _=> .inl (by simp)) CM⟩
 |panic ch=>exact⟨_,a₁,w₁,hq,.pass (x:= .inLoop c) rfl (fun _ _=> .inl (by simp)) CM⟩
 |outgrown=>exact⟨_,a₁,w₁,hq,.pass (x:= .inLoop c) rfl (fun _ _=> .inl (by simp)) CM⟩
def Qb(P:Program):Code→(Exit→Act→World→Prop)→Act→World→Prop
 | .loop b=>qW P b
 |c=>c.wp P
theorem Qb.wp{P:Program}{c:Code}{Q:Exit→Act→World→Prop}{a:Act}{w:World}(h:Qb P c Q a w):c.wp P Q a w:=by
 unfold Qb at h;split at h
 ·exact h.wp
 ·exact h
def Ex.ex:Ex→Exit
 | .normal=> .normal
 | .exit id=> .exit id
 | .ret=> .ret
def EF(nt n0:Nat)(w:World)(I:Nat→Prop)(σ:dK)(h:aG)(S1:St)(a':Act)(w':World):Prop:=
 ∃I' σ',n0≤S1.n∧Step w I σ h n0 w' I' σ' S1.h S1.n∧dM w' I' σ' S1.f a'∧gO σ' S1.h S1.n∧nt≤a'.tmps.size∧a'.defers=[]
def CN(nt m:Nat)(w:World)(I:Nat→Prop)(σ:dK)(h:aG)(S1:St)(a':Act)(w':World):Prop:=
 ∃I' σ',m≤S1.n∧oR m w I σ h w' I' σ' S1.h∧dM w' I' σ' S1.f a'∧gO σ' S1.h S1.n∧nt≤a'.tmps.size∧a'.defers=[]
def EG(X:Env)(fZ:FuncId→Nat→Array Oper→Bool):Prop:=
 ∀(C:dH),k8 X C→lh X C→jM X C→oC X→(∀aP dst g args S S1,cX X C aP dst g args S=some S1→pA X g)→
 ∀(aP:FuncId) (id nt:Nat) (ops:Array Oper) (S S1:St),(∀o∈ops.toList,H5 X nt o=true)→fZ aP id ops=true→
  cQ X C aP (ops.toList.map (·.dst)) S.n 0 ops.toList {S with n:=S.n+ops.size}=some S1→fW X C aP ops.toList S.n {S with n:=S.n+ops.size} S1 (X.uG aP id)→
  ∀(a:Act) (w:World) (I:Nat→Prop) (σ:dK),Rel w I σ S.h→dM w I σ S.f a→gO σ S.h S.n→nt≤a.tmps.size→a.defers=[]→
  ∀(Q:Exit→Act→World→Prop),(∀a' w',EF nt S.n w I σ S.h S1 a' w'→Q .normal a' w')→(Code.region id ops true).wp X.P Q a w
def oE(X:Env)(fZ:FuncId→Nat→Array Oper→Bool)(nt:Nat)(aP:FuncId):Code→Bool
 | .region id ops d=>ops.toList.all (H5 X nt)&& (!d||fZ aP id ops)
 | .seq a b=>oE X fZ nt aP a&&oE X fZ nt aP b
 | .cond x a b=>PR x&&oE X fZ nt aP a&&oE X fZ nt aP b
 | .block _ b=>oE X fZ nt aP b
 | .loop b=>oE X fZ nt aP b
 |_=>true
def ui(X:Env):ResultVar→Bool
 | .tmp _=>true
 | .cell _ t=>tB X t
def Yy(X:Env)(fZ:FuncId→Nat→Array Oper→Bool)(g:FuncId)(fn:Func):Bool:=
 match fn.body with
 |some b=>oE X fZ fn.ntmps g b&&fn.results.toList.all (ui X)&& !(fn.name== "runtime.NumGoroutine")
 |none=>true
def Aj(X:Env)(fZ:FuncId→Nat→Array Oper→Bool):Prop:= ∀g fn,X.P.funcs[g]?=some fn→X.ki g=none→Yy X fZ g fn=true
section
variable {X:Env} {fZ:FuncId→Nat→Array Oper→Bool}
def Sound(X:Env)(fZ:FuncId→Nat→Array Oper→Bool)(E:Ev):Prop:=
 ∀(aP:FuncId) (nt m:Nat) (c:Code) (S:St) (e:Ex) (S1:St),E aP c S=some (e,S1)→oE X fZ nt aP c=true→m≤S.n→(X.low aP=true→m≤Env.base X aP)→
  ∀(a:Act) (w:World) (I:Nat→Prop) (σ:dK),Rel w I σ S.h→dM w I σ S.f a→gO σ S.h S.n→nt≤a.tmps.size→a.defers=[]→
  ∀(Q:Exit→Act→World→Prop),(∀a' w',CN nt m w I σ S.h S1 a' w'→Q e.ex a' w')→Qb X.P c Q a w
theorem CN.trans {nt m:Nat} {w w1 w2:World} {I I1:Nat→Prop} {σ σ1:dK} {h h1:aG} {S2:St} {a2:Act} (s:oR m w I σ h w1 I1 σ1 h1)
  (hp:CN nt m w1 I1 σ1 h1 S2 a2 w2):CN nt m w I σ h S2 a2 w2:=by
 obtain⟨I',σ',hn,hs,hF,mJ,nq,hd⟩:=hp;exact⟨I',σ',hn,s.trans hs,hF,mJ,nq,hd⟩
theorem Ak{X:Env}(hN:oS X){aP key m:Nat}{S S':St}{w:World}{I:Nat→Prop}{σ:dK}{a:Act}(h:jH X aP key S=some S')(R:Rel w I σ S.h)(F:dM w I σ S.f a)(fr:gO σ S.h S.n)(hm:m≤S.n)(hl:X.low aP=true→m≤Env.base X aP):
  ∃I' σ',m≤S'.n∧oR m w I σ S.h w I' σ' S'.h∧dM w I' σ' S'.f a∧gO σ' S'.h S'.n:=by
 have qz:=sN hN h hl hm;unfold jH at h;cases hc:X.norm aP key with
 |none=>
  rw[hc]at h;simp only[aa]at h;subst h;exact⟨I,σ,hm,oR.refl R m,F,fr⟩
 |some N=>
  rw[hc]at h;obtain⟨h1,h2,h3⟩:=hN aP key N hc;obtain⟨g1,g2,g3,g4⟩:=LQ h1 h R F fr;have eJ:=h;have K:=Norm.ED h1;refine⟨_,_,qz.1,⟨fun _ _=>rfl,fun _ c _ fz hb=>⟨c,fz,hb,rfl⟩,fun b hb=> .inl hb,g1,rfl,rfl,rfl,Nat.le_refl _,fun _ _ _=>rfl,fun b hb=> .inr (g4 b hb),fun b hb=> ?_,fun id bV=> ?_,qz.2⟩,g2,g3⟩
  ·rcases hb with hb|⟨i,ob,o,k,k1,k2⟩
   ·exact .inl hb
   ·exact .inr (.inr ⟨i,ob,o,k,(fO k1).1,k2⟩)
  ·have uM:=hl h2;unfold Env.base at uM;have pW:X.dP aP=true:=by
    cases pW:X.dP aP with
    |true=>rfl
    |false=>rw[pW]at uM;simp at uM;omega
   rw[if_pos pW]at uM;have:id=0:=by omega
   subst this;have eJ:N.run S=some S':=eJ;unfold Norm.run at eJ;split at eJ
   case isFalse=>cases eJ
   rename_i sM;simp only[Bool.and_eq_true]at sM;obtain⟨r,k1,k2⟩:=xT (h3 pW) sM.2;unfold Norm.sig;rw[k1];simp only[k2]
def xV(X:Env)(S:St):ResultVar→Option V
 | .tmp t=>some (S.f t)
 | .cell a t=>match S.f a with
  | .ptr id i f=>match S.h id with
   |some ob=>match ob.es[i]? with
    |some e=>part (X.ti t) e.cells f
    |none=>none
   |none=>none
  |_=>none
def Bf(tmps:Array Value):ResultVar→Sem Value
 | .tmp t=>pure (tmps.getD t undef)
 | .cell a t=>do loadVar t (←asAddr (tmps.getD a undef))
theorem CO(rs:List ResultVar)(S:St):iH X rs S=(match aY (rs.map (xV X S)) with
 |some [v]=>some v
 |some vs=>some (.cg vs)
 |none=>none):=rfl
theorem xW(fn:Func)(tmps:Array Value):results fn tmps=(do
  let vs←fn.results.mapM (Bf tmps)
  pure (if h:vs.size=1 then vs[0] else .tuple vs)):=rfl
theorem CP {w:World} {I:Nat→Prop} {σ:dK} {S:St} {a:Act} (R:Rel w I σ S.h) (F:dM w I σ S.f a) {fn:Func} (hB:fn.results.toList.all (ui X)=true) {v:V}
  (hv:iH X fn.results.toList S=some v): ∃u,(results fn a.tmps).run X.P w= .ok u w∧aV w I σ v u:=by
 have key: ∀(rs:List ResultVar) (l:List V),rs.all (ui X)=true→aY (rs.map (xV X S))=some l→ ∃us:List Value,(rs.mapM (Bf a.tmps)).run X.P w= .ok us w∧cI w I σ l us:=by
  intro rs;induction rs with
  |nil=>
   intro l _ hl;simp only[List.map_nil,aY,aa]at hl;subst hl;exact⟨[],by simp,by simp[cI]⟩
  |cons r rs ih=>
   intro l hb hl;simp only[List.all_cons,Bool.and_eq_true]at hb;simp only[List.map_cons]at hl;cases r with
   |tmp t=>
    simp only[xV,aY]at hl;split at hl
    case h_2=>cases hl
    rename_i l' tK;simp only[aa]at hl;subst hl;obtain⟨us,h1,h2⟩:=ih l' hb.2 tK;refine⟨a.tmps.getD t undef::us,?_,?_⟩
    ·simp[List.mapM_cons,Bf,h1]
    ·simp only[cI];exact⟨_,_,rfl,F t,h2⟩
   |cell x t=>
    have T:gX X.P t (X.ti t):=gN hb.1;cases hx:S.f x with
    |ptr id i f=>
     simp only[xV,hx]at hl;cases cy:S.h id with
     |none=>simp[cy,aY]at hl
     |some ob=>
     simp only[cy]at hl;cases hi:ob.es[i]? with
     |none=>simp[hi,aY]at hl
     |some e=>
     simp only[hi]at hl;cases hp:part (X.ti t) e.cells f with
     |none=>simp[hp,aY]at hl
     |some v0=>
     simp only[hp,aY]at hl;split at hl
     case h_2=>cases hl
     rename_i l' tK;simp only[aa]at hl;subst hl;obtain⟨us,h1,h2⟩:=ih l' hb.2 tK;have hF:=F x;rw[hx]at hF;simp only[aV]at hF;obtain⟨b,of,k,eN,hu⟩:=hF;obtain⟨b',o',c,el,jV,hI,qH,nq,di⟩:=R.at cy hi;rw[eN]at jV;simp only[aa,ax]at jV;obtain⟨rfl,rfl,rfl⟩:=jV;have hc:=(di.get hi).2.ext (Ext.xd ob.bZ) rfl;obtain⟨u,PS,hr⟩:=xg T (f:=f) hc hp;refine⟨u::us,?_,?_⟩
     ·simp[List.mapM_cons,Bf,h1,hu,asAddr,PS]
     ·simp only[cI];exact⟨_,_,rfl,hr,h2⟩
    |_=>simp[xV,hx,aY]at hl
 rw[CO]at hv;split at hv
 ·rename_i v0 hl;simp only[aa]at hv;subst hv;obtain⟨us,h1,h2⟩:=key _ _ hB hl;simp only[cI]at h2;obtain⟨u,r,rfl,h3,rfl⟩:=h2;refine⟨u,?_,h3⟩;rw[xW,Array.mapM_eq_mapM_toList];simp[h1]
 ·rename_i vs eZ hl;simp only[aa]at hv;subst hv;obtain⟨us,h1,h2⟩:=key _ _ hB hl;refine⟨.tuple us.toArray,?_,?_⟩
  ·have hlen:us.length≠1:=by
    intro XQ;rw[ig]at h2;match vs,h2 with
    | [v],_=>exact eZ v rfl
    | [],h2=>simp at h2;omega
    |_::_::_,h2=>simp at h2;omega
   rw[xW,Array.mapM_eq_mapM_toList];simp[h1,hlen]
  ·simp only[aV];exact⟨_,rfl,by simpa using h2⟩
 ·cases hv
theorem Bg(hA:Aj X fZ){E:Ev}(hS:Sound X fZ E):k8 X (bz X E):=by
 intro g args h k v h' k' hc w I σ us R fr hr;unfold bz at hc;have vw:X.ki g=none:=by
  cases vw:X.ki g with
  |none=>rfl
  |some pr=>simp[vw]at hc
 simp only[vw]at hc;split at hc
 case h_2=>cases hc
 rename_i fn hf;split at hc
 case h_2=>cases hc
 rename_i b hb;have hB:=hA g fn hf vw;unfold Yy at hB;simp only[hb,Bool.and_eq_true]at hB;have hF0:dM w I σ (kF args) {tmps:=us++Array.replicate (fn.ntmps-us.size) undef,defers:=[]}:=by
  intro t;unfold kF;split
  ·rename_i v0 hv;rw[ig]at hr;have ht:t<us.size:=by
    have:=(List.getElem?_eq_some_iff.1 hv).1;rw[hr.1]at this;simpa using this
   have hu:us.toList[t]?=some us[t]:=by simp[ht]
   have:=hr.2 t _ _ hv hu;have hg:(us++Array.replicate (fn.ntmps-us.size) undef).getD t undef=us[t]:=by
    rw[Array.getD_eq_getD_getElem?,Array.getElem?_append_left ht];simp[ht]
   simp only[hg];exact this
  ·simp[aV]
 have fin: ∀{S1:St} {a':Act} {w':World},pk X fn.results.toList (some (.normal,S1))=some (v,h',k')→CN fn.ntmps (B2 X g k) w I σ h S1 a' w'→
   a'.defers=[]∧ ∃u,(results fn a'.tmps).run X.P w'= .ok u w'∧ ∃u' I' σ',Ending.returned u= .returned u'∧B2 X g k≤k'∧oR (B2 X g k) w I σ h w' I' σ' h'∧gO σ' h' k'∧aV w' I' σ' v u':=by
  intro S1 a' w' hr hp;obtain⟨I',σ',P6,hs,hF,mJ,_,hd⟩:=hp;simp only[pk]at hr;split at hr
  case h_2=>cases hr
  rename_i v0 hv;simp only[aa,ax]at hr;obtain⟨rfl,rfl,rfl⟩:=hr;obtain⟨u,h1,h2⟩:=CP hs.rel hF hB.1.2 hv;exact⟨hd,u,h1,u,I',σ',rfl,P6,hs,mJ,h2⟩
 cases he:E g b ⟨kF args,h,k⟩ with
 |none=>simp[he,pk]at hc
 |some x=>
  obtain⟨e,S1⟩:=x;rw[he]at hc;refine calls_of_wp hf hb ?_;refine(hS g fn.ntmps (B2 X g k) b ⟨kF args,h,k⟩ e S1 he hB.1.1 (Lp X g k) (fun hl=>by
   unfold B2 Env.base;rw[if_pos hl];exact Nat.min_le_left _ _) _ w I σ R hF0 fr (by simp;omega) rfl _ ?_).wp
  intro a' w' hp;cases e with
  |normal=>exact fin hc hp
  |ret=>exact fin (by simpa[pk] using hc) hp
  |exit id=>simp[pk]at hc
theorem Yz(hA:Aj X fZ)(Us: ∀g,((X.clone g).isSome||(X.ki g).isSome)=true→pA X g){E:Ev}: ∀aP dst g args S S1,cX X (bz X E) aP dst g args S=some S1→pA X g:=by
 have key: ∀g args h k r,bz X E g args h k=some r→pA X g:=by
  intro g args h k r hc;unfold bz at hc;have vw:X.ki g=none:=by
   cases vw:X.ki g with
   |none=>rfl
   |some pr=>simp[vw]at hc
  simp only[vw]at hc;split at hc
  case h_2=>cases hc
  rename_i fn hf;split at hc
  case h_2=>cases hc
  rename_i b hb;have hB:=hA g fn hf vw;unfold Yy at hB;simp only[hb,Bool.and_eq_true]at hB;exact⟨fn,b,hf,hb,by simpa using hB.2⟩
 intro aP dst g args S S1 he;unfold cX at he;split at he
 ·rename_i t kf;exact Us g (by simp[kf])
 split at he
 ·split at he
  ·rename_i hc;exact key _ _ _ _ _ hc
  ·cases he
 split at he
 ·unfold oP at he;split at he
  case h_2=>cases he
  split at he
  case h_2=>cases he
  split at he
  case h_2=>cases he
  split at he
  case isFalse=>cases he
  split at he
  case h_2=>cases he
  split at he
  case h_2=>cases he
  split at he
  case h_2=>cases he
  rename_i hc;exact key _ _ _ _ _ hc
 split at he
 ·unfold iA at he;split at he
  case h_2=>cases he
  split at he
  case h_2=>cases he
  rename_i hc;exact key _ _ _ _ _ hc
 ·skip
  ·split at he
   ·split at he
    ·split at he
     ·rename_i hc;exact key _ _ _ _ _ hc
     ·cases he
    ·split at he
     ·rename_i hc;unfold kV at hc;split at hc
      ·rename_i pr hp;exact Us g (by simp[hp])
      ·exact key _ _ _ _ _ hc
     ·cases he
   ·cases he
theorem sound(hA:Aj X fZ)(hN:oS X)(hK:oC X)(Us: ∀g,((X.clone g).isSome||(X.ki g).isSome)=true→pA X g)(hD:EG X fZ)(hV: ∀n,jM X (bz X (ng X n))): ∀n,Sound X fZ (ng X n)
 |0=>fun aP nt m c S e S1 he=>by simp[ng]at he
 |n+1=>by
  have ih:=sound hA hN hK Us hD hV n;have hC:=Bg hA ih;have hG:=Yz (E:=ng X n) hA Us;intro aP nt m c S e S1 he hB hm hl a w I σ R F fr hs hd Q hQ;have base: ∀{e'},e'=e→S=S1→Q e'.ex a w:=by
   intro e' h1 h2;subst h1;subst h2;exact hQ a w ⟨I,σ,hm,oR.refl R _,F,fr,hs,hd⟩
  rw[ng]at he;cases c with
  |skip=>
   simp only[eS,aa,ax]at he;exact wp_skip (base he.1 he.2)
  |exit id=>
   simp only[eS,aa,ax]at he;exact wp_exit (base he.1 he.2)
  |ret=>
   simp only[eS,aa,ax]at he;exact wp_ret (base he.1 he.2)
  |region id ops d=>
   simp only[eS]at he;simp only[oE,Bool.and_eq_true]at hB;have iG: ∀o∈ops.toList,H5 X nt o=true:=List.all_eq_true.1 hB.1;split at he
   case h_2=>cases he
   rename_i S0 Cc;obtain⟨I0,σ0,WM,s0,F0,YA⟩:=Ak hN Cc R F fr hm hl;split at he
   case h_2=>cases he
   rename_i S2 tL;split at he
   case isFalse=>cases he
   rename_i gr;simp only[aa,ax]at he;obtain⟨rfl,rfl⟩:=he;have hQ': ∀a' w',EF nt S0.n w I0 σ0 S0.h S2 a' w'→Q .normal a' w':=by
    rintro a' w' ⟨I',σ',hn,zB,hF,mJ,jV,zC⟩;exact hQ a' w' ⟨I',σ',by omega,s0.trans (zB.X4 WM),hF,mJ,jV,zC⟩
   cases d with
   |true=>exact hD _ hC (oT (qV hN n)) (hV n) hK hG aP id nt ops S0 S2 iG (by simpa using hB.2) tL gr a w I0 σ0 s0.rel F0 YA hs hd Q hQ'
   |false=>
    refine wp_region ?_;have mJ:gO σ0 S0.h (S0.n+ops.size):=fun id bV=>YA id (by omega);have:=Be hC hK hG iG (Q:=Q) ops.toList 0 {S0 with n:=S0.n+ops.size} a w I0 σ0 (by simp) tL s0.rel F0 mJ hs hd (Nat.le_refl _) (fun q _ _=>YA _ (by omega))
     (fun a' w' I' σ' hle gr hF LJ jV zC=>hQ' a' w' ⟨I',σ',by simp only at hle;omega,gr,hF,LJ,jV,zC⟩)
    rw[List.range_eq_range'];simpa using this
  |seq x y=>
   simp only[eS]at he;simp only[oE,Bool.and_eq_true]at hB;cases hx:ng X n aP x S with
   |none=>simp[hx]at he
   |some z=>
    obtain⟨e2,S2⟩:=z;rw[hx]at he;refine wp_seq (ih aP nt m x S e2 S2 hx hB.1 hm hl a w I σ R F fr hs hd _ fun a' w' hp=> ?_).wp;cases e2 with
    |normal=>
     obtain⟨I',σ',hn,gr,hF,mJ,jV,zC⟩:=hp;exact(ih aP nt m y S2 e S1 he hB.2 hn hl a' w' I' σ' gr.rel hF mJ jV zC Q fun a2 w2 KJ=>hQ a2 w2 (KJ.trans gr)).wp
    |exit id=>
     simp only[aa,ax]at he;obtain⟨rfl,rfl⟩:=he;exact hQ a' w' hp
    |ret=>
     simp only[aa,ax]at he;obtain⟨rfl,rfl⟩:=he;exact hQ a' w' hp
  |cond x p q=>
   simp only[eS]at he;simp only[oE,Bool.and_eq_true]at hB;split at he
   case h_2=>cases he
   rename_i t ht;have H9:aV w I σ (S.ev x) (a.eval x):=cj F hB.1.1;rw[ht]at H9;have wB:=nF H9;refine wp_cond wB ?_;cases t with
   |true=>exact(ih aP nt m p S e S1 (by simpa using he) hB.1.2 hm hl a w I σ R F fr hs hd Q hQ).wp
   |false=>exact(ih aP nt m q S e S1 (by simpa using he) hB.2 hm hl a w I σ R F fr hs hd Q hQ).wp
  |block id b=>
   simp only[eS]at he;simp only[oE]at hB;cases hb:ng X n aP b S with
   |none=>simp[hb]at he
   |some z=>
    obtain⟨e2,S2⟩:=z;rw[hb]at he;refine wp_block (ih aP nt m b S e2 S2 hb hB hm hl a w I σ R F fr hs hd _ fun a' w' hp=> ?_).wp;cases e2 with
    |normal=>
     simp only[aa,ax]at he;obtain⟨rfl,rfl⟩:=he;exact hQ a' w' hp
    |ret=>
     simp only[aa,ax]at he;obtain⟨rfl,rfl⟩:=he;exact hQ a' w' hp
    |exit i=>
     simp only at he;simp only[Ex.ex,Exit.inBlock];split at he
     ·rename_i hi;simp only[aa,ax]at he;obtain⟨rfl,rfl⟩:=he;simp only[hi,if_true];exact hQ a' w' hp
     ·rename_i hi;simp only[aa,ax]at he;obtain⟨rfl,rfl⟩:=he;simp only[hi,if_false];exact hQ a' w' hp
  |loop b=>
   simp only[eS]at he;have hBb:oE X fZ nt aP b=true:=by simpa only[oE] using hB
   split at he
   case h_2=>cases he
   rename_i S0 Cc;obtain⟨I0,σ0,WM,s0,F0,YA⟩:=Ak hN Cc R F fr hm hl;cases hb:ng X n aP b S0 with
   |none=>simp[hb]at he
   |some z=>
    obtain⟨e2,S2⟩:=z;rw[hb]at he;show qW X.P b Q a w;refine qW.round (ih aP nt m b S0 e2 S2 hb hBb WM hl a w I0 σ0 s0.rel F0 YA hs hd _ fun a' w' hp=> ?_).wp;cases e2 with
    |normal=>
     obtain⟨I',σ',hn,gr,hF,mJ,jV,zC⟩:=hp;exact ih aP nt m (.loop b) S2 e S1 he hB hn hl a' w' I' σ' gr.rel hF mJ jV zC Q fun a2 w2 KJ=>hQ a2 w2 (KJ.trans (s0.trans gr))
    |exit id=>
     simp only[aa,ax]at he;obtain⟨rfl,rfl⟩:=he;exact hQ a' w' (hp.trans s0)
    |ret=>
     simp only[aa,ax]at he;obtain⟨rfl,rfl⟩:=he;exact hQ a' w' (hp.trans s0)
  |_=>simp[eS]at he
theorem LV(hA:Aj X fZ)(hN:oS X)(hK:oC X)(Us: ∀g,((X.clone g).isSome||(X.ki g).isSome)=true→pA X g)(hD:EG X fZ)(hV: ∀n,jM X (bz X (ng X n))):k8 X (bt X):=by
 intro g args h k v h' k' hc;obtain⟨n,hn⟩:=iB hc;exact Bg hA (sound hA hN hK Us hD hV n) g args h k v h' k' hn
end
def stepG(X:Env)(C:dH)(aP:FuncId)(bm:List (Option Nat))(n0 k:Nat)(o:Oper)(S:St):Option St:=
 match o.guard with
 |none=>cw X C aP n0 k o S
 |some (j,want)=>
  match bm[j]? with
  |some (some d)=>match S.f d with
   | .bool b=>if b=want then cw X C aP n0 k o S else some (S.set o.dst (.cg []))
   | .cg []=>some (S.set o.dst (.cg []))
   |_=>none
  |_=>none
section
variable {X:Env} {C:dH} {aP:FuncId} {bm:List (Option Nat)} {n0:Nat}
theorem sO(k:Nat)(o:Oper)(l:List Oper)(S:St):cQ X C aP bm n0 k (o::l) S=(match stepG X C aP bm n0 k o S with|some S1=>cQ X C aP bm n0 (k+1) l S1|none=>none):=by
 simp only[cQ,stepG];cases hg:o.guard with
 |none=>rfl
 |some g=>
  obtain⟨j,want⟩:=g;simp only;cases hd:bm[j]? with
  |none=>rfl
  |some x=>
   cases x with
   |none=>rfl
   |some d=>
    simp only;cases hf:S.f d with
    |bool b=>
     simp only;split
     ·rfl
     ·rfl
    |cg l=>cases l<;>rfl
    |_=>rfl
theorem qc: ∀(l1 l2:List Oper) (k:Nat) (S:St),cQ X C aP bm n0 k (l1++l2) S=(match cQ X C aP bm n0 k l1 S with|some S1=>cQ X C aP bm n0 (k+l1.length) l2 S1|none=>none)
 | [],l2,k,S=>by simp[cQ]
 |o::l1,l2,k,S=>by
  rw[List.cons_append,sO,sO];cases stepG X C aP bm n0 k o S with
  |none=>rfl
  |some S1=>
   simp only;rw[qc l1 l2 (k+1) S1,List.length_cons,show k+1+l1.length=k+(l1.length+1) by omega]
def zD(bm:List (Option Nat))(o:Oper)(S S':St):Prop:=
 Alike o S S'∧ ∀j want d,o.guard=some (j,want)→bm[j]?=some (some d)→S'.f d=S.f d
theorem xX{k:Nat}{o:Oper}{S:St}{j d:Nat}{want:Bool}(hg:o.guard=some (j,want))(hd:bm[j]?=some (some d))(hf:S.f d= .cg []∨S.f d= .bool (!want)):
  stepG X C aP bm n0 k o S=some (S.set o.dst (.cg [])):=by
 unfold stepG;simp only[hg,hd];rcases hf with h|h
 ·rw[h]
 ·rw[h];cases want<;>simp
theorem kQ{k:Nat}{o:Oper}{S S1:St}(he:stepG X C aP bm n0 k o S=some S1):
  (cw X C aP n0 k o S=some S1∧ ∀S',zD bm o S S'→stepG X C aP bm n0 k o S'=cw X C aP n0 k o S')∨
  (S1=S.set o.dst (.cg [])∧ ∀S',zD bm o S S'→stepG X C aP bm n0 k o S'=some (S'.set o.dst (.cg []))):=by
 unfold stepG at he;cases hg:o.guard with
 |none=>
  simp only[hg]at he;exact .inl ⟨he,fun S' _=>by simp only[stepG,hg]⟩
 |some g=>
  obtain⟨j,want⟩:=g;simp only[hg]at he;cases hd:bm[j]? with
  |none=>simp[hd]at he
  |some x=>
   cases x with
   |none=>simp[hd]at he
   |some d=>
    simp only[hd]at he;cases hf:S.f d with
    |bool b=>
     simp only[hf]at he;have KK: ∀S',zD bm o S S'→S'.f d= .bool b:=fun S' hs=>by rw[hs.2 j want d hg hd];exact hf
     split at he
     ·rename_i hb;exact .inl ⟨he,fun S' hs=>by simp only[stepG,hg,hd,KK S' hs,hb,if_true]⟩
     ·rename_i hb;simp only[aa]at he;exact .inr ⟨he.symm,fun S' hs=>by simp only[stepG,hg,hd,KK S' hs,hb,if_false]⟩
    |cg l=>
     cases l with
     |nil=>
      simp only[hf,aa]at he;have KK: ∀S',zD bm o S S'→S'.f d= .cg []:=fun S' hs=>by rw[hs.2 j want d hg hd];exact hf
      exact .inr ⟨he.symm,fun S' hs=>by simp only[stepG,hg,hd,KK S' hs]⟩
     |cons _ _=>simp[hf]at he
    |_=>simp[hf]at he
theorem LW{k:Nat}{o:Oper}{S S1:St}(hc:cls X aP o=0)(he:stepG X C aP bm n0 k o S=some S1): ∃v,S1=S.set o.dst v∧ ∀S',zD bm o S S'→stepG X C aP bm n0 k o S'=some (S'.set o.dst v):=by
 rcases kQ he with⟨h1,h2⟩|⟨h1,h2⟩
 ·obtain⟨v,h3,h4⟩:=Yo hc h1;exact⟨v,h3,fun S' hs=>by rw[h2 S' hs];exact h4 S' hs.1⟩
 ·exact⟨_,h1,h2⟩
theorem LX{k:Nat}{o:Oper}{S S1:St}(hc:cls X aP o=1)(he:stepG X C aP bm n0 k o S=some S1): ∃v,S1=S.set o.dst v∧ ∀S',zD bm o S S'→Sub S.h S'.h→stepG X C aP bm n0 k o S'=some (S'.set o.dst v):=by
 rcases kQ he with⟨h1,h2⟩|⟨h1,h2⟩
 ·obtain⟨v,h3,h4⟩:=Yp hc h1;exact⟨v,h3,fun S' hs oQ=>by rw[h2 S' hs];exact h4 S' hs.1 oQ⟩
 ·exact⟨_,h1,fun S' hs _=>h2 S' hs⟩
def uj(h:aG)(id:Nat):Option Ob→aG
 |some ob=>aS h id (some ob)
 |none=>h
theorem LY{k:Nat}{o:Oper}{S S1:St}(hc:cls X aP o=2)(he:stepG X C aP bm n0 k o S=some S1): ∃v ob,S1=({S with h:=uj S.h (n0+k) ob}:St).set o.dst v∧
  ∀S',zD bm o S S'→stepG X C aP bm n0 k o S'=some (({S' with h:=uj S'.h (n0+k) ob}:St).set o.dst v):=by
 rcases kQ he with⟨h1,h2⟩|⟨h1,h2⟩
 ·obtain⟨v,ob,h3,h4⟩:=Yq hc h1;exact⟨v,some ob,h3,fun S' hs=>by rw[h2 S' hs];exact h4 S' hs.1⟩
 ·exact⟨_,none,h1,h2⟩
theorem EH{k:Nat}{o:Oper}{S S1:St}(he:stepG X C aP bm n0 k o S=some S1): ∃v,S1=({S with h:=S1.h,n:=S1.n}:St).set o.dst v∧
  ∀S',zD bm o S S'→S'.h=S.h→S'.n=S.n→stepG X C aP bm n0 k o S'=some (({S' with h:=S1.h,n:=S1.n}:St).set o.dst v):=by
 rcases kQ he with⟨h1,h2⟩|⟨h1,h2⟩
 ·obtain⟨v,h3,h4⟩:=Yr h1;exact⟨v,h3,fun S' hs hh hn=>by rw[h2 S' hs];exact h4 S' hs.1 hh hn⟩
 ·refine⟨.cg [],by rw[h1,ck,cZ],fun S' hs hh hn=> ?_⟩;rw[h2 S' hs,h1,ck,cZ,←hh,←hn]
theorem Sv(hC:lh X C){k:Nat}{o:Oper}{S S1:St}(he:stepG X C aP bm n0 k o S=some S1):S.n≤S1.n∧ ∀id,id≠n0+k→id<S.n→S.h id=none→S1.h id=none:=by
 rcases kQ he with⟨h1,_⟩|⟨h1,_⟩
 ·exact rY hC h1
 ·subst h1;rw[ck,cZ];exact⟨Nat.le_refl _,fun _ _ _ h=>h⟩
theorem trace{L:List Oper}{S0 F:St}(he:cQ X C aP bm n0 0 L S0=some F): ∃T:Nat→St,T 0=S0∧T L.length=F∧(∀p,p≤L.length→cQ X C aP bm n0 0 (L.take p) S0=some (T p))∧
  ∀k o,L[k]?=some o→stepG X C aP bm n0 k o (T k)=some (T (k+1)):=by
 have pre: ∀p,p≤L.length→ ∃S,cQ X C aP bm n0 0 (L.take p) S0=some S:=by
  intro p hp;have:=qc (X:=X) (C:=C) (aP:=aP) (bm:=bm) (n0:=n0) (L.take p) (L.drop p) 0 S0;rw[List.take_append_drop,he]at this;cases hx:cQ X C aP bm n0 0 (L.take p) S0 with
  |none=>rw[hx]at this;cases this
  |some S=>exact⟨S,rfl⟩
 refine⟨fun p=>(cQ X C aP bm n0 0 (L.take p) S0).getD S0,?_,?_,fun p hp=> ?_,fun k o hk=> ?_⟩
 ·simp[cQ]
 ·simp[he]
 ·obtain⟨S,hS⟩:=pre p hp;simp[hS]
 ·have WW:k<L.length:=(List.getElem?_eq_some_iff.1 hk).1;obtain⟨A,hA⟩:=pre k (by omega);obtain⟨B,hB⟩:=pre (k+1) (by omega);have htk:L.take (k+1)=L.take k++ [o]:=by
   rw[List.take_add_one,hk];rfl
  have h2:=hB;rw[htk,qc,hA]at h2;simp only[List.length_take,Nat.zero_add]at h2;rw[sO,Nat.min_eq_left (by omega)]at h2;show stepG X C aP bm n0 k o ((cQ X C aP bm n0 0 (L.take k) S0).getD S0)=some ((cQ X C aP bm n0 0 (L.take (k+1)) S0).getD S0);rw[hA,hB];simp only[Option.getD_some];cases hs:stepG X C aP bm n0 k o A with
  |none=>rw[hs]at h2;cases h2
  |some S1=>
   rw[hs]at h2;simp only[cQ]at h2;exact h2
end
section
variable {h h' h1 G:aG} {n:Nat}
theorem oA.off(H:oA h G n){id:Nat}{ob:Ob}(cy:h id=some ob):G id=none:=by
 cases hg:G id with
 |none=>rfl
 |some x=>rw[(H id (by rw[hg];simp)).1]at cy;cases cy
theorem oA.W0(H:oA h G n){id:Nat}(bV:n≤id):G id=none:=by
 cases hg:G id with
 |none=>rfl
 |some x=>have:=(H id (by rw[hg];simp)).2;omega
theorem Bh{id:Nat}(hg:G id=none):jL h G id=h id:=by unfold jL;rw[hg]
theorem oA.get(H:oA h G n){id:Nat}{ob:Ob}(cy:h id=some ob):jL h G id=some ob:=by rw[Bh (H.off cy),cy]
theorem iq{id:Nat}{x:Option Ob}(hg:G id=none):aS (jL h G) id x=jL (aS h id x) G:=by
 funext i;unfold jL aS;by_cases e:i=id
 ·subst e;simp[hg]
 ·simp[e]
theorem oA.aS(H:oA h G n){id:Nat}{x:Option Ob}(hg:G id=none):oA (aS h id x) G n:=by
 intro i hi;have e:i≠id:=fun e=>by subst e;exact hi hg
 have:=H i hi;simp only[Abs.aS,e,if_false];exact this
theorem oA.sub(H:oA h G n)(hs: ∀i,h i=none→h' i=none):oA h' G n:=fun i hi=>⟨hs i (H i hi).1,(H i hi).2⟩
theorem oA.YB(H:oA h G n):Sub h (jL h G):=fun id ob cy=>H.get cy
theorem xY(H:oA h G n){v v':V}(hg:jG h v=some (v',h1)):jG (jL h G) v=some (v',jL h1 G)∧oA h1 G n:=by
 unfold jG at hg⊢;split at hg
 ·rename_i id s l;cases cy:h id with
  |none=>simp[cy]at hg
  |some ob=>
   simp only[cy]at hg;simp only[H.get cy];split at hg
   ·rename_i hc;rw[if_pos hc];simp only[aa,ax]at hg;obtain⟨rfl,rfl⟩:=hg;have:=H.off cy;exact⟨by rw[iq this],H.aS this⟩
   ·cases hg
 ·split at hg
  ·rename_i hc;simp only[aa,ax]at hg;obtain⟨rfl,rfl⟩:=hg;exact⟨by rw[if_pos hc],H⟩
  ·cases hg
theorem xZ: ∀{cs lH:List V} {h h1:aG},oA h G n→hZ h cs=some (lH,h1)→hZ (jL h G) cs=some (lH,jL h1 G)∧oA h1 G n
 | [],lH,h,h1,H,hg=>by
  simp only[hZ,aa,ax]at hg;obtain⟨rfl,rfl⟩:=hg;exact⟨rfl,H⟩
 |c::cs,lH,h,h1,H,hg=>by
  simp only[hZ]at hg⊢;split at hg
  case h_2=>cases hg
  rename_i c' h2 hc;obtain⟨e1,H1⟩:=xY H hc;split at hg
  case h_2=>cases hg
  rename_i cs2 h3 p0;obtain⟨e2,H2⟩:=xZ H1 p0;simp only[aa,ax]at hg;obtain⟨rfl,rfl⟩:=hg;exact⟨by simp only[e1,e2],H2⟩
theorem u5(H:oA h G n){v v':V}(hg:kE h v=some (v',h1)):kE (jL h G) v=some (v',jL h1 G)∧oA h1 G n:=by
 unfold kE at hg⊢;split at hg
 ·split at hg
  case h_2=>cases hg
  rename_i lH h2 hl;obtain⟨e,H1⟩:=xZ H hl;simp only[aa,ax]at hg;obtain⟨rfl,rfl⟩:=hg;exact⟨by simp only[e],H1⟩
 ·exact xY H hg
theorem x7: ∀{ps qI:List (Nat×V)} {h h1:aG},oA h G n→gp h ps=some (qI,h1)→gp (jL h G) ps=some (qI,jL h1 G)∧oA h1 G n
 | [],qI,h,h1,H,hg=>by
  simp only[gp,aa,ax]at hg;obtain⟨rfl,rfl⟩:=hg;exact⟨rfl,H⟩
 |(i,c)::cs,qI,h,h1,H,hg=>by
  simp only[gp]at hg⊢;split at hg
  case h_2=>cases hg
  rename_i c' h2 hc;obtain⟨e1,H1⟩:=u5 H hc;split at hg
  case h_2=>cases hg
  rename_i cs2 h3 p0;obtain⟨e2,H2⟩:=x7 H1 p0;simp only[aa,ax]at hg;obtain⟨rfl,rfl⟩:=hg;exact⟨by simp only[e1,e2],H2⟩
theorem sP: ∀{ps qI:List V} {h h1:aG},oA h G n→kq h ps=some (qI,h1)→kq (jL h G) ps=some (qI,jL h1 G)∧oA h1 G n
 | [],qI,h,h1,H,hg=>by
  simp only[kq,aa,ax]at hg;obtain⟨rfl,rfl⟩:=hg;exact⟨rfl,H⟩
 |c::cs,qI,h,h1,H,hg=>by
  simp only[kq]at hg⊢;split at hg
  case h_2=>cases hg
  rename_i c' h2 hc;obtain⟨e1,H1⟩:=u5 H hc;split at hg
  case h_2=>cases hg
  rename_i cs2 h3 p0;obtain⟨e2,H2⟩:=sP H1 p0;simp only[aa,ax]at hg;obtain⟨rfl,rfl⟩:=hg;exact⟨by simp only[e1,e2],H2⟩
theorem qd(H:oA h G n){v:V}{r:List V×Bool}(he:elems h v=some r):elems (jL h G) v=some r:=by
 unfold elems at he⊢;split at he
 ·exact he
 ·rename_i id s l;cases cy:h id with
  |none=>simp[cy]at he
  |some ob=>simp only[cy]at he;simp only[H.get cy];exact he
 ·exact he
 ·cases he
theorem sQ: ∀{l:List (Option Nat)} {h:aG},oA h G n→(∀i,some i∈l→G i=none)→cP (jL h G) l=jL (cP h l) G∧oA (cP h l) G n
 | [],h,H,_=>⟨rfl,H⟩
 |none::l,h,H,hl=>sQ (l:=l) H fun i hi=>hl i (List.mem_cons_of_mem _ hi)
 |some i::l,h,H,hl=>by
  obtain⟨e,H1⟩:=sQ (l:=l) H fun i hi=>hl i (List.mem_cons_of_mem _ hi);have hg:=hl i (List.mem_cons_self ..);simp only[cP];exact⟨by rw[e,iq hg],H1.aS hg⟩
theorem u6{X:Env}{kp:TypeId→Bool}{R:V}: ∀{m:Mask} {k:Nat} {h:aG},(∀i,k≤i→G i=none)→qC X kp R k m (jL h G)=jL (qC X kp R k m h) G
 | [],k,h,_=>rfl
 |q::m,k,h,hk=>by
  simp only[qC];rw[u6 (fun i hi=>hk i (by omega)),iq (hk k (Nat.le_refl _))]
theorem EK{X:Env}{hx:aG}(H:oA h G n){t:TypeId}{c:V}(hr:(rowAt X h hx t c).isSome=true):rowAt X (jL h G) hx t c=rowAt X h hx t c∧ ∀i,c.src=some i→G i=none:=by
 unfold rowAt at hr⊢;split at hr
 ·exact⟨rfl,fun i hi=>by simp[V.src]at hi⟩
 ·rename_i id s l;cases cy:h id with
  |none=>simp[cy]at hr
  |some ob=>
   simp only[cy,H.get cy];exact⟨trivial,fun i hi=>by simp only[V.src,aa]at hi;subst hi;exact H.off cy⟩
 ·cases hr
theorem sR{F F':Nat→V→V}: ∀{cs:List V} {k:Nat},(∀j c,cs[j]?=some c→F (k+j) c=F' (k+j) c)→lL F k cs=lL F' k cs
 | [],k,_=>rfl
 |c::cs,k,hc=>by
  have e1:F k c=F' k c:=by simpa using hc 0 c (by simp)
  have e2:lL F (k+1) cs=lL F' (k+1) cs:=sR fun j c' hj=>by
   have:=hc (j+1) c' (by simpa using hj);rwa[show k+(j+1)=k+1+j by omega]at this
  simp only[lL,e1,e2]
theorem x8{F F':Nat→V→V}{v:V}(hv: ∀j,F j (v.cells.getD j .bad)=F' j (v.cells.getD j .bad)):oz F v=oz F' v:=by
 by_cases h: ∃cs,v= .agg cs
 ·obtain⟨cs,rfl⟩:=h;rw[mu,mu,sR fun j c hj=> ?_];have:=hv j;simpa[V.cells,List.getD_eq_getElem?_getD,hj] using this
 ·have h': ∀cs,v≠ .agg cs:=fun cs e=>h ⟨cs,e⟩;rw[k9 F h',k9 F' h'];have:=hv 0;rw[hX h']at this;exact this
theorem EL{F F':Nat→Nat→V→V}{v:V}(hv: ∀i j,F i j (v.cellAt i j)=F' i j (v.cellAt i j)):pV F v=pV F' v:=by
 by_cases h: ∃cs,v= .cg cs
 ·obtain⟨cs,rfl⟩:=h;rw[py,py,sR fun i c hi=> ?_];refine x8 fun j=> ?_;have:=hv i j;simp only[V.cellAt,List.getD_eq_getElem?_getD,hi,Option.getD_some]at this;simpa[List.getD_eq_getElem?_getD] using this
 ·have h': ∀cs,v≠ .cg cs:=fun cs e=>h ⟨cs,e⟩;rw[nN F h',nN F' h'];refine x8 fun j=> ?_;have:=hv 0 j;have e:v.cellAt 0 j=v.cells.getD j .bad:=by
   cases v with
   |cg cs=>exact absurd rfl (h' cs)
   |_=>rfl
  rwa[e]at this
theorem IA{X:Env}{hx:aG}(H:oA h G n){v R:V}{m:Mask}(hr:tR X h hx v m=some R):tR X (jL h G) hx v m=some R∧ ∀i,some i∈dd v m→G i=none:=by
 unfold tR at hr⊢;split at hr
 case isFalse=>cases hr
 rename_i hc;simp only[Bool.and_eq_true]at hc;have iG: ∀q∈m,rowAt X (jL h G) hx q.2.2 (v.cellAt q.1 q.2.1)=rowAt X h hx q.2.2 (v.cellAt q.1 q.2.1)∧ ∀i,(v.cellAt q.1 q.2.1).src=some i→G i=none:=fun q hq=>EK H (List.all_eq_true.1 hc.2 q hq);have A9:m.all (fun q=>(rowAt X (jL h G) hx q.2.2 (v.cellAt q.1 q.2.1)).isSome)=true:=by
  rw[List.all_eq_true];intro q hq;rw[(iG q hq).1];exact List.all_eq_true.1 hc.2 q hq
 refine⟨?_,fun i hi=> ?_⟩
 ·simp only[hc.1,A9,Bool.and_self,if_true];rw[←hr];congr 1;refine EL fun i j=> ?_;unfold gh;cases hm:iz 0 m i j with
  |none=>rfl
  |some p=>
   obtain⟨q,t⟩:=p;obtain⟨_,hq⟩:=oD hm;have:=(iG _ (List.mem_of_getElem? hq)).1;simp only at this;simp only[this]
 ·unfold dd at hi;obtain⟨q,hq,he⟩:=List.mem_map.1 hi;exact(iG q hq).2 i he
end
section
variable {X:Env} {C:dH} {aP:FuncId} {dst:Option Nat} {g:FuncId} {args:List V} {S S1:St} {G:aG}
theorem kr(S:St)(d:Option Nat)(v:V)(h:aG):({S.set d v with h:=h}:St)=({S with h:=h}:St).set d v:=by cases d<;>rfl
theorem Qc(H:oA S.h G S.n)(he:oP X C aP dst g args S=some S1):oP X C aP dst g args {S with h:=jL S.h G}=some {S1 with h:=jL S1.h G}:=by
 unfold oP at he⊢;split at he
 case h_2=>cases he
 rename_i id rest;split at he
 case h_2=>cases he
 rename_i ob cy;split at he
 case h_2=>cases he
 rename_i e EA;split at he
 case isFalse=>cases he
 rename_i hk;split at he
 case h_2=>cases he
 rename_i R hR;split at he
 case h_2=>cases he
 rename_i auj h1 hg;split at he
 case h_2=>cases he
 rename_i v h n hc;split at he
 case h_2=>cases he
 rename_i kk r rs sL;simp only[aa]at he;subst he;have g0:=H.off cy;have H1:=H.aS (x:=none) g0;obtain⟨e2,xl⟩:=IA H1 hR;obtain⟨e3,H3⟩:=sQ H1 xl;obtain⟨e4,H4⟩:=sP H3 hg;simp only[H.get cy,EA,hk,if_true,iq g0,e2,e3,e4,hc,sL];rw[kr,ck,u6 (fun i hi=>H.W0 hi)]
theorem IB(H:oA S.h G S.n)(he:iA X C aP dst g args S=some S1):iA X C aP dst g args {S with h:=jL S.h G}=some {S1 with h:=jL S1.h G}:=by
 unfold iA at he⊢;split at he
 case h_2=>cases he
 rename_i auj h1 hg;split at he
 case h_2=>cases he
 rename_i v h n hc;split at he
 case h_2=>cases he
 rename_i r hR;simp only[aa]at he;subst he;obtain⟨e4,H4⟩:=sP H hg;simp only[e4,hc,hR];rw[kr,ck,u6 (fun i hi=>H.W0 hi)]
theorem IC(hO:jM X C)(H:oA S.h G S.n)(he:cX X C aP dst g args S=some S1):cX X C aP dst g args {S with h:=jL S.h G}=some {S1 with h:=jL S1.h G}:=by
 unfold cX at he⊢;split at he
 ·rename_i t kf;split at he
  case h_2=>cases he
  split at he
  case h_2=>cases he
  rename_i es kx uI;split at he
  ·cases he
  rename_i gZ;simp only[aa]at he;subst he;simp only[qd H uI];rw[if_neg gZ,kr,ck];simp only[St.new,iq (H.W0 (Nat.le_refl _))]
 ·by_cases hf:(X.fg g&& !X.low g)=true
  ·simp only[hf,if_true]at he⊢;split at he
   case h_2=>cases he
   rename_i v h n hc;simp only[aa]at he;subst he;have ud:X.low g=false:=by simp only[Bool.and_eq_true,Bool.not_eq_true']at hf;exact hf.2
   simp only[hO _ _ _ _ _ _ _ G ud H hc];rw[kr,ck]
  rw[Bool.not_eq_true]at hf;simp only[hf,Bool.false_eq_true,if_false]at he⊢;split at he
  ·rename_i pW;rw[if_pos pW];exact Qc H he
  rename_i pW;rw[if_neg pW];split at he
  ·rename_i wM;rw[if_pos wM];exact IB H he
  rename_i wM;rw[if_neg wM];split at he
  case h_2=>cases he
  rename_i auj has;have YC:aY (args.map (aX (jL S.h G) depth))=some auj:=qU H.YB has;split at he
  ·rename_i mw;split at he
   case h_2=>cases he
   rename_i v h n hc;split at he
   ·cases he
   rename_i jJ;simp only[aa]at he;subst he;have aeb:(fun id=>if id<S.n then jL S.h G id else if args.any V.qB=true then iy (h id) else h id)=jL (fun id=>if id<S.n then S.h id else if args.any V.qB=true then iy (h id) else h id) G:=by
    funext i;unfold jL;by_cases hi:i<S.n
    ·simp only[hi,if_true]
    ·simp only[hi,if_false,H.W0 (Nat.le_of_not_lt hi)]
   simp only[YC,mw,if_true,hc];rw[if_neg jJ,kr,ck,aeb]
  ·rename_i mw;split at he
   case h_2=>cases he
   rename_i v h n hc;split at he
   case h_2=>cases he
   rename_i v' Ad;split at he
   ·cases he
   rename_i gZ;simp only[aa]at he;subst he;simp only[YC,mw,if_false,Bool.false_eq_true,hc,Ad];rw[if_neg gZ,kr,ck]
theorem ID{o:Oper}{ρ:Operand→V}{h h1:aG}{n n1 k:Nat}{v:V}(H:oA h G k)(hn:G n=none)(hc:cls X aP o=3)(he:aR X aP o ρ h n=some (v,h1,n1)):aR X aP o ρ (jL h G) n=some (v,jL h1 G,n1):=by
 obtain⟨d,op,ty,pos,after,guard⟩:=o;cases op with
 |store t a x=>
  simp only[aR]at he⊢;split at he
  case h_2=>cases he
  rename_i id i f ha;cases cy:h id with
  |none=>simp[cy]at he
  |some ob=>
   simp only[cy]at he;simp only[H.get cy];cases hkp:ob.bZ with
   |true=>
    simp only[hkp,if_true]at he⊢;simp only[cy]at he;simp only[H.get cy];split at he
    case h_2=>cases he
    rename_i e zg;split at he
    case isFalse=>cases he
    rename_i sM;rw[if_pos sM];simp only[aa,ax]at he;obtain⟨rfl,rfl,rfl⟩:=he;rw[iq (H.off cy)]
   |false=>
    simp only[hkp,if_false,Bool.false_eq_true]at he⊢;split at he
    case h_2=>cases he
    rename_i v' h2 hg;obtain⟨e1,H1⟩:=u5 H hg;simp only[e1];cases Ut:h2 id with
    |none=>simp[Ut]at he
    |some ob2=>
     simp only[Ut]at he;simp only[H1.get Ut];split at he
     case h_2=>cases he
     rename_i e zg;split at he
     case isFalse=>cases he
     rename_i sM;rw[if_pos sM];simp only[aa,ax]at he;obtain⟨rfl,rfl,rfl⟩:=he;rw[iq (H.off cy)]
 |buildSlice t m ps=>
  simp only[aR]at he⊢;split at he
  ·rename_i hk;simp only[cls,hk,if_true]at hc;cases hc
  ·rename_i hk;rw[if_neg hk];split at he
   ·rename_i sH;rw[if_pos sH];split at he
    case h_2=>cases he
    rename_i l h2 hg;split at he
    case h_2=>cases he
    rename_i es hf;simp only[aa,ax]at he;obtain⟨rfl,rfl,rfl⟩:=he;simp only[hg,hf]
   rename_i sH;rw[if_neg sH];split at he
   case h_2=>cases he
   rename_i l h2 hg;obtain⟨e1,H1⟩:=x7 H hg;simp only[e1];split at he
   case h_2=>cases he
   rename_i es hf;split at he
   ·rename_i mw;rw[if_pos mw];simp only[aa,ax]at he;obtain⟨rfl,rfl,rfl⟩:=he;rw[iq hn]
   ·rename_i mw;rw[if_neg mw];simp only[aa,ax]at he;obtain⟨rfl,rfl,rfl⟩:=he;rfl
 |call c=>
  obtain⟨Ip,args,gq⟩:=c;cases Ip with
  |value x=>simp[aR]at he
  |builtin b=>
   cases b with
   |append=>
    simp only[aR]at he⊢;split at he
    case h_2=>cases he
    rename_i s x ee;split at he
    case h_2=>cases he
    rename_i es kb xs kx h5 h6;simp only[qd H h5,qd H h6];split at he
    ·cases he
    rename_i GH;rw[if_neg GH];split at he
    case isFalse=>cases he
    rename_i A9;rw[if_pos A9];split at he
    ·simp only[aa,ax]at he;obtain⟨rfl,rfl,rfl⟩:=he;rw[iq hn]
    ·split at he
     ·cases he
     rename_i EM;rw[if_neg EM];simp only[aa,ax]at he;obtain⟨rfl,rfl,rfl⟩:=he;rfl
    ·rename_i id _ _;cases cy:h id with
     |none=>simp[cy]at he
     |some ob=>
      simp only[cy]at he;simp only[H.get cy];split at he
      case isFalse=>cases he
      rename_i EM;rw[if_pos EM];simp only[aa,ax]at he;obtain⟨rfl,rfl,rfl⟩:=he;rw[iq (H.off cy),iq hn]
    ·cases he
   |copy=>
    simp only[aR]at he⊢;split at he
    case h_2=>cases he
    rename_i id s l x ee;split at he
    case h_2=>cases he
    rename_i ob xs kx h5 h6;simp only[H.get h5,qd H h6];split at he
    ·cases he
    rename_i GH;rw[if_neg GH];split at he
    case isFalse=>cases he
    rename_i A9;rw[if_pos A9];simp only[aa,ax]at he;obtain⟨rfl,rfl,rfl⟩:=he;rw[iq (H.off h5)]
   |len|min|max=>exact absurd (show(0:Nat)=3 from hc) (by decide)
   |_=>simp[aR]at he
  |_=>simp[aR]at he
 |convert u0 u1 x0=>simp only[cls]at hc;split at hc;cases hc;split at hc<;>cases hc
 |slice t x lo hi mx=>
  simp only[cls]at hc;split at hc
  case isFalse=>cases hc
  rename_i har;simp only[aR]at he⊢;split at he
  case isFalse=>cases he
  rename_i px;rw[if_pos px];have Cc: ∀{z:V},ρ x=z→z.tQ=false→False:=fun{z} e hz=>by
   have:=px.2;rw[e,hz]at this;rw[←this]at har;cases har
  cases hx:ρ x with
  |ptr id i f=>
   simp only[hx]at he⊢;cases i with
   |succ i=>cases he
   |zero=>
   cases f with
   |succ f=>cases he
   |zero=>
   simp only at he⊢;cases cy:h id with
   |none=>rw[cy]at he;split at he<;>simp_all
   |some ob=>
    rw[cy]at he;rw[H.get cy];split at he
    case h_2=>cases he
    rename_i m ja ham e0;simp only[aa]at e0;subst e0;split at he
    case h_2=>cases he
    rename_i e zg;split at he
    case isFalse=>cases he
    rename_i sM;simp only[aa,ax]at he;obtain⟨rfl,rfl,rfl⟩:=he;rw[if_pos sM,iq (H.off cy)]
  |_=>exact(Cc hx rfl).elim
 |move|assign|pick|build|nilCheck|binOp|unOp|makeFunc|fieldAddr|index|field|extract=>exact absurd (show(0:Nat)=3 from hc) (by decide)
 |load|indexAddr=>exact absurd (show(1:Nat)=3 from hc) (by decide)
 |alloc|box|makeSlice=>exact absurd (show(2:Nat)=3 from hc) (by decide)
 |_=>simp[aR]at he
theorem x9{o:Oper}{S:St}{h h1:aG}{n n1 k:Nat}{v:V}(H:oA h G k)(hn:G n=none)(eZ: ∀x args gq,o.op≠ .call ⟨.value x,args,gq⟩)(he:aR X aP o S.ev h n=some (v,h1,n1)):aR X aP o S.ev (jL h G) n=some (v,jL h1 G,n1):=by
 have hle:cls X aP o=0∨cls X aP o=1∨cls X aP o=2∨cls X aP o=3:=by
  unfold cls;repeat' split
  all_goals simp
 rcases hle with hc|hc|hc|hc
 ·obtain⟨e,hh⟩:=core0 (fun _=>rfl) hc he;rw[e];have h2:=hh h n;rw[he]at h2;simp only[aa,ax,true_and]at h2;rw[h2.2];exact hh _ _
 ·obtain⟨e,hh⟩:=LM hc eZ he;rw[e];have h2:=hh h n (fun _ _ x=>x);rw[he]at h2;simp only[aa,ax,true_and]at h2;rw[h2.2];exact hh _ _ H.YB
 ·obtain⟨ob,e,hh⟩:=Sq hc he;have h2:=hh h;rw[he]at h2;simp only[aa,ax,true_and]at h2;rw[e,h2.2,hh,iq hn]
 ·exact ID H hn hc he
theorem u7(hO:jM X C){n0 j:Nat}{o:Oper}(H:oA S.h G S.n)(hn:G (n0+j)=none)(he:cw X C aP n0 j o S=some S1):cw X C aP n0 j o {S with h:=jL S.h G}=some {S1 with h:=jL S1.h G}:=by
 unfold cw at he⊢;split at he
 ·rename_i x args gq ho;have tL:({S with h:=jL S.h G}:St).ev=S.ev:=by funext y;cases y<;>rfl
  rw[tL];split at he
  case h_2=>cases he
  rename_i g first wk hx
  exact IC hO H he
 ·rename_i eZ;have tL:({S with h:=jL S.h G}:St).ev=S.ev:=by funext y;cases y<;>rfl
  rw[tL];split at he
  case h_2=>cases he
  rename_i v h1 n1 YD;simp only[aa]at he;subst he;simp only[x9 H hn eZ YD];rw[kr,ck]
theorem EN(hO:jM X C){bm:List (Option Nat)}{n0 j:Nat}{o:Oper}(H:oA S.h G S.n)(hn:G (n0+j)=none)(he:stepG X C aP bm n0 j o S=some S1):stepG X C aP bm n0 j o {S with h:=jL S.h G}=some {S1 with h:=jL S1.h G}:=by
 unfold stepG at he⊢;split at he
 ·exact u7 hO H hn he
 ·split at he
  case h_2=>cases he
  rename_i d hd;split at he
  ·rename_i b hb;simp only[hb];split at he
   ·rename_i CH;rw[if_pos CH];exact u7 hO H hn he
   ·rename_i CH;rw[if_neg CH];simp only[aa]at he;subst he;rw[kr,ck]
  ·rename_i hb;simp only[hb];simp only[aa]at he;subst he;rw[kr,ck]
  ·cases he
theorem uk(hO:jM X C)(hN:lh X C){bm:List (Option Nat)}{n0:Nat}: ∀{l:List Oper} {k:Nat} {S S1:St},oA S.h G n0→n0≤S.n→cQ X C aP bm n0 k l S=some S1→cQ X C aP bm n0 k l {S with h:=jL S.h G}=some {S1 with h:=jL S1.h G}
 | [],k,S,S1,H,hn,he=>by
  simp only[cQ,aa]at he⊢;subst he;rfl
 |o::l,k,S,S1,H,hn,he=>by
  have hG:G (n0+k)=none:=H.W0 (by omega);have H0:oA S.h G S.n:=fun i hi=>⟨(H i hi).1,by have:=(H i hi).2;omega⟩;have two: ∀{S2:St},cw X C aP n0 k o S=some S2→cQ X C aP bm n0 (k+1) l S2=some S1→cw X C aP n0 k o {S with h:=jL S.h G}=some {S2 with h:=jL S2.h G}∧cQ X C aP bm n0 (k+1) l {S2 with h:=jL S2.h G}=some {S1 with h:=jL S1.h G}:=fun{S2} h1 h2=>by
   obtain⟨a1,a2⟩:=rY hN h1;exact⟨u7 hO H0 hG h1,uk hO hN (fun i hi=>⟨a2 i (by have:=(H i hi).2;omega) (by have:=(H i hi).2;omega) (H i hi).1,(H i hi).2⟩) (by omega) h2⟩
  have skip:cQ X C aP bm n0 (k+1) l (S.set o.dst (.cg []))=some S1→cQ X C aP bm n0 (k+1) l (({S with h:=jL S.h G}:St).set o.dst (.cg []))=some {S1 with h:=jL S1.h G}:=fun h3=>by
   have:=uk hO hN (S:=S.set o.dst (.cg [])) (by rw[ck];exact H) (by rw[cZ];exact hn) h3;rw[kr,ck]at this;exact this
  simp only[cQ]at he⊢;split at he
  ·split at he
   case h_2=>cases he
   rename_i S2 h1;obtain⟨e1,e2⟩:=two h1 he;simp only[e1,e2]
  ·split at he
   case h_2=>cases he
   rename_i d hd;split at he
   ·rename_i b hb;split at he
    ·rename_i CH;rw[if_pos CH];split at he
     case h_2=>cases he
     rename_i S2 h1;obtain⟨e1,e2⟩:=two h1 he;simp only[e1,e2]
    ·rename_i CH;rw[if_neg CH];exact skip he
   ·rename_i hb;exact skip he
   ·cases he
theorem CQ(hO:jM X C)(hN:lh X C){ops:List Oper}{n0:Nat}{S0:St}{l:List (Nat×Nat)}(H:oA S0.h G n0)(hn:n0≤S0.n)(hs:fW X C aP ops n0 S0 S1 l):
  fW X C aP ops n0 {S0 with h:=jL S0.h G} {S1 with h:=jL S1.h G} l:=by
 intro q hq;rcases hs q hq with⟨o,h1,h2⟩|⟨o,T,v,h1,h2,h3,h4⟩
 ·exact .inl ⟨o,h1,h2⟩
 ·have hT:=xU hN h2;refine .inr ⟨o,{T with h:=jL T.h G},v,h1,uk hO hN H hn h2,?_,h4⟩;have HT:oA T.h G n0:=fun i hi=>⟨hT.2 i (by have:=(H i hi).2;omega) (by have:=(H i hi).2;omega) (H i hi).1,(H i hi).2⟩;refine x9 (S:=S1) HT (HT.W0 (by omega)) (fun x args gq e=> ?_) h3;obtain⟨dst,op,ty,pos,after,guard⟩:=o;simp only at e;subst e;simp[aR]at h3
end
def LZ(X:Env)(E:Ev):Prop:= ∀f c S e S1 G,X.low f=false→oA S.h G S.n→E f c S=some (e,S1)→E f c {S with h:=jL S.h G}=some (e,{S1 with h:=jL S1.h G})
theorem sT{α β:Type}{f g:α→Option β}: ∀(l:List α) {r:List β},aY (l.map f)=some r→(∀x y,f x=some y→g x=some y)→aY (l.map g)=some r
 | [],r,h,_=>h
 |a::l,r,h,hg=>by
  simp only[List.map_cons]at h⊢;cases ha:f a with
  |none=>rw[ha]at h;simp[aY]at h
  |some b=>
   rw[ha]at h;rw[hg a b ha];simp only[aY]at h⊢;split at h
   case h_2=>cases h
   rename_i l' tK;rw[sT l tK hg];exact h
theorem sA{X:Env}{E:Ev}(hE:LZ X E)(hN1: ∀f c S e S1,X.low f=false→E f c S=some (e,S1)→ ∀id,id<S.n→S.h id=none→S1.h id=none):jM X (bz X E):=by
 intro g args h k v h' k' G hl H hc;unfold bz at hc⊢;have vw:X.ki g=none:=by
  cases vw:X.ki g with
  |none=>rfl
  |some pr=>simp[vw]at hc
 simp only[vw]at hc⊢;split at hc
 case h_2=>cases hc
 rename_i fn hf;split at hc
 case h_2=>cases hc
 rename_i b hb;cases he:E g b ⟨kF args,h,k⟩ with
 |none=>simp[he,pk]at hc
 |some x=>
  obtain⟨e,S1⟩:=x;have h1:=hE _ _ ⟨kF args,h,k⟩ _ _ G hl H he;simp only at h1;have oQ: ∀id ob,S1.h id=some ob→jL S1.h G id=some ob:=fun id ob cy=>by
   cases hg:G id with
   |none=>rw[Bh hg,cy]
   |some x=>
    have h3:=H id (by rw[hg];simp);have h4:=hN1 _ _ _ _ _ hl he id h3.2 h3.1;rw[h4]at cy;cases cy
  have Qd: ∀{v:V},iH X fn.results.toList S1=some v→iH X fn.results.toList {S1 with h:=jL S1.h G}=some v:=fun{v} hr=>by
   unfold iH at hr⊢;split at hr
   ·rename_i v1 h2;rw[sT _ h2 fun x y EO=> ?_]
    ·exact hr
    ·cases x with
     |tmp t=>exact EO
     |cell a t=>
      simp only at EO⊢;split at EO
      case h_2=>cases EO
      rename_i id i f aec;split at EO
      case h_2=>cases EO
      rename_i ob cy;simp only[oQ id ob cy];exact EO
   ·rename_i vs hvs h2;rw[sT _ h2 fun x y EO=> ?_]
    ·split
     ·rename_i v2 e;simp only[aa]at e;exact absurd e (hvs v2)
     ·rename_i l2 e;simp only[aa]at e;subst e;exact hr
     ·rename_i e;cases e
    ·cases x with
     |tmp t=>exact EO
     |cell a t=>
      simp only at EO⊢;split at EO
      case h_2=>cases EO
      rename_i id i f aec;split at EO
      case h_2=>cases EO
      rename_i ob cy;simp only[oQ id ob cy];exact EO
   ·cases hr
  rw[he]at hc;rw[h1];cases e with
  |exit i=>simp[pk]at hc
  |normal|ret=>
   simp only[pk]at hc⊢;split at hc
   case h_2=>cases hc
   rename_i v1 Ln;simp only[aa,ax]at hc;obtain⟨rfl,rfl,rfl⟩:=hc;rw[Qd Ln]
theorem CR{X:Env}(hN:oS X)(n:Nat): ∀f c S e S1,X.low f=false→ng X n f c S=some (e,S1)→ ∀id,id<S.n→S.h id=none→S1.h id=none:=fun f c S e S1 hl he id h1 h2=>
 (qV hN n f c S e S1 S.n he (Nat.le_refl _) (fun h=>by rw[hl]at h;cases h)).2 id h1 h2
theorem CT{X:Env}(hN:oS X): ∀n,LZ X (ng X n)
 |0=>fun f c S e S1 G _ _ he=>by simp[ng]at he
 |n+1=>by
  have ih:=CT hN n;have hO:=sA (X:=X) ih (CR hN n);have hC:=oT (X:=X) (qV hN n);intro f c S e S1 G hl H he;have Cc: ∀key,X.norm f key=none:=fun key=>by
   cases hk:X.norm f key with
   |none=>rfl
   |some N=>have:=(hN f key N hk).2.1;rw[hl]at this;cases this
  have hn: ∀key (S:St),jH X f key S=some S:=fun key S=>by unfold jH;rw[Cc]
  have news: ∀{c:Code} {S S1:St} {e:Ex},ng X n f c S=some (e,S1)→oA S.h G S.n→oA S1.h G S1.n:=fun{c S S1 e} h1 h2=>by
   have h3:=qV hN n f c S e S1 S.n h1 (Nat.le_refl _) (fun h=>by rw[hl]at h;cases h);exact fun i hi=>⟨h3.2 i (h2 i hi).2 (h2 i hi).1,by have:=(h2 i hi).2;omega⟩
  rw[ng]at he⊢;cases c with
  |skip|exit _|ret=>
   simp only[eS,aa,ax]at he⊢;obtain⟨h1,rfl⟩:=he;exact⟨h1,rfl⟩
  |region id ops d=>
   simp only[eS,hn]at he⊢;split at he
   case h_2=>cases he
   rename_i S2 tL;split at he
   case isFalse=>cases he
   rename_i gr;simp only[aa,ax]at he;obtain⟨rfl,rfl⟩:=he;have aed:=uk hO hC (S:={S with n:=S.n+ops.size}) H (by simp) tL;have Qe:=CQ hO hC (S0:={S with n:=S.n+ops.size}) H (by simp) gr;simp only[aed,Qe,if_true]
  |seq x y=>
   simp only[eS]at he⊢;cases hx:ng X n f x S with
   |none=>simp[hx]at he
   |some z=>
    obtain⟨e2,S2⟩:=z;rw[hx]at he;rw[ih _ _ _ _ _ G hl H hx];cases e2 with
    |normal=>exact ih _ _ _ _ _ G hl (news hx H) he
    |exit i|ret=>
     simp only[aa,ax]at he⊢;obtain⟨rfl,rfl⟩:=he;exact⟨rfl,rfl⟩
  |cond x a b=>
   simp only[eS]at he⊢;have tL:({S with h:=jL S.h G}:St).ev x=S.ev x:=by cases x<;>rfl
   rw[tL];split at he
   ·rename_i t ht;split at he
    ·rename_i hb;rw[if_pos hb];exact ih _ _ _ _ _ G hl H he
    ·rename_i hb;rw[if_neg hb];exact ih _ _ _ _ _ G hl H he
   ·cases he
  |block i b=>
   simp only[eS]at he⊢;cases hx:ng X n f b S with
   |none=>simp[hx]at he
   |some z=>
    obtain⟨e2,S2⟩:=z;rw[hx]at he;rw[ih _ _ _ _ _ G hl H hx];cases e2 with
    |exit j=>
     simp only at he⊢;split at he
     ·rename_i hb;rw[if_pos hb];simp only[aa,ax]at he⊢;obtain⟨rfl,rfl⟩:=he;exact⟨rfl,rfl⟩
     ·rename_i hb;rw[if_neg hb];simp only[aa,ax]at he⊢;obtain⟨rfl,rfl⟩:=he;exact⟨rfl,rfl⟩
    |normal|ret=>
     simp only[aa,ax]at he⊢;obtain⟨rfl,rfl⟩:=he;exact⟨rfl,rfl⟩
  |loop b=>
   simp only[eS,hn]at he⊢;cases hx:ng X n f b S with
   |none=>simp[hx]at he
   |some z=>
    obtain⟨e2,S2⟩:=z;rw[hx]at he;rw[ih _ _ _ _ _ G hl H hx];cases e2 with
    |normal=>exact ih _ _ _ _ _ G hl (news hx H) he
    |exit i|ret=>
     simp only[aa,ax]at he⊢;obtain⟨rfl,rfl⟩:=he;exact⟨rfl,rfl⟩
  |_=>simp[eS]at he
theorem L0{X:Env}(hN:oS X)(n:Nat):jM X (bz X (ng X n)):=sA (CT hN n) (CR hN n)
end Go.Abs
