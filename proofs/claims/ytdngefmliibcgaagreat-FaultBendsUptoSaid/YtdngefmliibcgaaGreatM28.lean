/- Part of a proof: engine A20. -/
import Derived.Test.YtdngefmliibcgaaGreatM27
set_option linter.all false
set_option maxRecDepth 20000
set_option maxHeartbeats 20000000
namespace Go.Abs
open Go
def gO(σ:dK)(h:aG)(n:Nat):Prop:= ∀id,n≤id→h id=none∧σ id=none
def fu:aG:=fun _=>none
structure oR (m:Nat) (w:World) (I:Nat→Prop) (σ:dK) (h:aG) (w':World) (I':Nat→Prop) (σ':dK) (h':aG):Prop where
 Cd: ∀b,I b→w'.heap[b]?=w.heap[b]?
 grow: ∀(b:Nat) c el fz,w.heap[b]?=some (Obj.cells c el fz)→ ∃c' WG,w'.heap[b]?=some (Obj.cells c' el WG)∧c'.size=c.size
 imp: ∀b,I b→I' b
 rel:Rel w' I' σ' h'
 os:w'.os=w.os
 tape:w'.tape=w.tape
 output:w'.output=w.output
 size:w.heap.size≤w'.heap.size
 frame: ∀b,b<w.heap.size→ ¬dF σ h b→w'.heap[b]?=w.heap[b]?
 own: ∀b,dF σ' h' b→w.heap.size≤b∨dF σ h b
 pn: ∀b,I' b→I b∨w.heap.size≤b∨dF σ h b
 sigs: ∀id,id<m→σ' id=σ id
 news: ∀id,id<m→h id=none→h' id=none
section
variable {w w1 w2 w':World} {I I1 I2 I':Nat→Prop} {σ σ1 σ2 σ':dK} {h h1 h2 h':aG} {n n' m:Nat}
theorem Step.X4(s:Step w I σ h n w' I' σ' h' n')(hm:m≤n):oR m w I σ h w' I' σ' h':=
 ⟨s.ext.Cd,s.ext.grow,s.ext.imp,s.rel,s.os,s.tape,s.output,s.size,s.frame,s.own,s.pn,fun id bV=>s.sigs id (.inl (by omega)),fun id bV=>s.news id (.inl (by omega))⟩
theorem oR.refl(R:Rel w I σ h)(m:Nat):oR m w I σ h w I σ h:=(Step.refl R m).X4 (Nat.le_refl _)
theorem oR.trans(s:oR m w I σ h w1 I1 σ1 h1)(s':oR m w1 I1 σ1 h1 w2 I2 σ2 h2):oR m w I σ h w2 I2 σ2 h2 where
 Cd:=fun b hb=>(s'.Cd b (s.imp b hb)).trans (s.Cd b hb)
 grow:=fun b c el fz hb=>by
  obtain⟨c1,fz1,h1,e1⟩:=s.grow b c el fz hb;obtain⟨c2,fz2,h2,e2⟩:=s'.grow b c1 el fz1 h1;exact⟨c2,fz2,h2,e2.trans e1⟩
 imp:=fun b hb=>s'.imp b (s.imp b hb)
 rel:=s'.rel
 os:=s'.os.trans s.os
 tape:=s'.tape.trans s.tape
 output:=s'.output.trans s.output
 size:=Nat.le_trans s.size s'.size
 frame:=fun b hb ho=>(s'.frame b (Nat.lt_of_lt_of_le hb s.size) (fun hx=>by
  rcases s.own b hx with hx|hx
  ·omega
  ·exact ho hx)).trans (s.frame b hb ho)
 own:=fun b hb=>by
  rcases s'.own b hb with hx|hx
  ·exact .inl (Nat.le_trans s.size hx)
  ·exact s.own b hx
 pn:=fun b hb=>by
  rcases s'.pn b hb with hx|hx|hx
  ·exact s.pn b hx
  ·exact .inr (.inl (Nat.le_trans s.size hx))
  ·exact .inr (s.own b hx)
 sigs:=fun id bV=>(s'.sigs id bV).trans (s.sigs id bV)
 news:=fun id bV hz=>s'.news id bV (s.news id bV hz)
theorem oR.step(s:oR n w I σ h w' I' σ' h')(F:gO σ h n)(F':gO σ' h' n')(hn:n≤n'):Step w I σ h n w' I' σ' h' n' where
 ext:=⟨s.Cd,s.grow,s.imp,fun id x hx=>by
  by_cases bV:id<n
  ·rw[s.sigs id bV];exact hx
  ·rw[(F id (by omega)).2]at hx;cases hx⟩
 rel:=s.rel
 os:=s.os
 tape:=s.tape
 output:=s.output
 size:=s.size
 frame:=s.frame
 own:=s.own
 pn:=s.pn
 le:=hn
 sigs:=fun id bV=>by
  rcases bV with bV|bV
  ·exact s.sigs id bV
  ·rw[(F id (by omega)).2,(F' id bV).2]
 news:=fun id bV hz=>by
  rcases bV with bV|bV
  ·exact s.news id bV hz
  ·exact(F' id bV).1
end
theorem oR.less{w w':World}{I I':Nat→Prop}{σ σ':dK}{h h':aG}{m m':Nat}(s:oR m w I σ h w' I' σ' h')(hm:m'≤m):oR m' w I σ h w' I' σ' h':=
 {s with sigs:=fun id bV=>s.sigs id (by omega),news:=fun id bV=>s.news id (by omega)}
def B2(X:Env)(g:FuncId)(k:Nat):Nat:=if X.low g=true then min (if X.dP g=true then 1 else 0) k else k
theorem Cw(X:Env)(g:FuncId):B2 X g 0=0:=by unfold B2;split<;>simp
theorem Lp(X:Env)(g:FuncId)(k:Nat):B2 X g k≤k:=by unfold B2;split<;>omega
theorem qR{X:Env}{g:FuncId}(h:X.low g=false)(k:Nat):B2 X g k=k:=by unfold B2;simp[h]
def k8(X:Env)(C:dH):Prop:= ∀g args h k v h' k',C g args h k=some (v,h',k')→ ∀w I σ (us:Array Value),Rel w I σ h→gO σ h k→cI w I σ args us.toList→
 Calls X.P g us w fun e w'=> ∃u I' σ',e= .returned u∧B2 X g k≤k'∧oR (B2 X g k) w I σ h w' I' σ' h'∧gO σ' h' k'∧aV w' I' σ' v u
def xF(X:Env):Prop:= ∀g pr,X.ki g=some pr→ ∀C,k8 X C→ ∀args v,pr.run C args=some v→ ∀w I (us:Array Value),Rel w I cC fu→cI w I cC args us.toList→
 Calls X.P g us w fun e w'=> ∃u I',e= .returned u∧Step w I cC fu 0 w' I' cC fu 0∧aV w' I' cC v u
theorem Calls.ki{X:Env}{C:dH}(hC:k8 X C)(hP:xF X){g:FuncId}{auj:List V}{v:V}{h:aG}{n:Nat}(hc:kV X C g auj=some (v,h,n)){w:World}{I:Nat→Prop}{us:Array Value}(R:Rel w I cC fu)(hr:cI w I cC auj us.toList):
  Calls X.P g us w fun e w'=> ∃u I' σ',e= .returned u∧Step w I cC fu 0 w' I' σ' h n∧aV w' I' σ' v u:=by
 unfold kV at hc;split at hc
 ·rename_i pr hp;split at hc
  case h_2=>cases hc
  rename_i v' hv;simp only[aa,ax]at hc;obtain⟨rfl,rfl,rfl⟩:=hc;refine(hP g pr hp C hC auj v' hv w I us R hr).mono fun e w' hh=> ?_;obtain⟨u,I',rfl,st,ik⟩:=hh;exact⟨u,I',cC,rfl,st,ik⟩
 ·refine(hC g auj fu 0 v h n hc w I cC us R (fun _ _=>⟨rfl,rfl⟩) hr).mono fun e w' hh=> ?_;obtain⟨u,I',σ',rfl,hle,GI,mJ,ik⟩:=hh;rw[Cw]at hle GI;exact⟨u,I',σ',rfl,GI.step (fun _ _=>⟨rfl,rfl⟩) mJ hle,ik⟩
def oC(X:Env):Prop:=xF X∧ ∀g t,X.clone g=some t→ ∀w I σ h n s u es kx kp,Rel w I σ h→h n=none→σ n=none→aV w I σ s u→elems h s=some (es,kx)→s.isStr=false→(kx=true→kp=true)→
 (∀v∈es,v.cells.length=(X.ti (X.ti t).elem).size)→es.length*(X.ti (X.ti t).elem).bytes≤2^47→es.length≤2^62→
 Calls X.P g #[u] w fun e w'=> ∃r σ',e= .returned r∧Step w I σ h n w' I σ' (aS h n (some ⟨(X.ti (X.ti t).elem).size,es,kp⟩)) (n+1)∧aV w' I σ' (.bJ n 0 es.length) r
section
variable {w w':World} {I I' Ic Ic' J:Nat→Prop} {σ σ' σc:dK} {h hc:aG} {n k k':Nat}
theorem Step.fresh{h':aG}{n':Nat}(s:Step w I σ h n w' I' σ' h' n')(F:gO σ h n):gO σ' h' n':=fun id bV=>by
 have:=s.le;have f:=F id (by omega);exact⟨s.news id (.inr bV) f.1,by rw[s.sigs id (.inr bV)];exact f.2⟩
theorem Rel.fu(hI: ∀b,I b→b<w.heap.size)(G:AZ w I):Rel w I cC fu:=
 ⟨hI,(fun _ _ h=>by cases h),(fun _ _ _ _ _ _ _ _ _ h=>by cases h),G⟩
theorem kI{b:Nat}: ¬dF cC fu b:=fun⟨_,_,_,_,h,_⟩=>by cases h
theorem Rel.gm(R:Rel w I σ h){b:Nat}(hb:dF σ h b):b<w.heap.size:=by
 obtain⟨_,c,el,hh⟩:=R.owned hb;exact hh.lt
theorem Step.inner(R:Rel w I σ h)(s:Step w Ic cC fu k w' Ic' σc hc k')(h1: ∀b,I b→Ic b)(h2: ∀b,I b→I' b)(h3: ∀b,I' b→I b∨(w.heap.size≤b∧b<w'.heap.size))(n:Nat):Step w I σ h n w' I' σ h n:=by
 have E:Ext w I σ w' I' σ:=⟨fun b hb=>s.ext.Cd b (h1 b hb),s.ext.grow,h2,fun _ _ hh=>hh⟩;refine⟨E,R.bZ E (fun b hb=> ?_) (fun b hb=>⟨s.frame b (R.gm hb) kI,fun hi=> ?_⟩) (fun _ _=>rfl),s.os,s.tape,s.output,s.size,fun b hb _=>s.frame b hb kI,fun b hb=> .inr hb,fun b hb=> ?_,Nat.le_refl _,fun _ _=>rfl,fun _ _ hn=>hn⟩
 ·rcases h3 b hb with hb|hb
  ·exact Nat.lt_of_lt_of_le (R.cT b hb) s.size
  ·exact hb.2
 ·rcases h3 b hi with hi|hi
  ·exact(R.owned hb).1 hi
  ·have:=R.gm hb;omega
 ·rcases h3 b hb with hb|hb
  ·exact .inl hb
  ·exact .inr (.inl hb.1)
theorem Cx{w1 w2:World}{I1 I2:Nat→Prop}{σ1 σ2:dK}{v:V}{u:Value}(hv:v.leaf=true)(hr:aV w1 I1 σ1 v u):aV w2 I2 σ2 v u:=by
 cases v<;>simp_all [V.leaf,aV]
theorem Ab{w1 w2:World}{I1 I2:Nat→Prop}{σ1 σ2:dK}{v:V}{u:Value}(hv:v.qK=true)(hr:aV w1 I1 σ1 v u):aV w2 I2 σ2 v u:=by
 cases v with
 |agg cs=>
  simp only[aV]at hr⊢;obtain⟨us,rfl,hc⟩:=hr;refine⟨us,rfl,?_⟩;rw[bH]at hc⊢;refine⟨hc.1,fun j c u' kY hu=>⟨(hc.2 j c u' kY hu).1,Cx ?_ (hc.2 j c u' kY hu).2⟩⟩;exact List.all_eq_true.1 hv c (List.mem_of_getElem? kY)
 |_=>exact Cx hv hr
theorem Et{w1 w2:World}{I1 I2:Nat→Prop}{σ1 σ2:dK}{v:V}{u:Value}(hv:v.scalar=true)(hr:aV w1 I1 σ1 v u):aV w2 I2 σ2 v u:=by
 cases v with
 |cg cs=>
  simp only[aV]at hr⊢;obtain⟨us,rfl,hc⟩:=hr;refine⟨us,rfl,?_⟩;rw[ig]at hc⊢;refine⟨hc.1,fun j c u' kY hu=>Ab ?_ (hc.2 j c u' kY hu)⟩;exact List.all_eq_true.1 hv c (List.mem_of_getElem? kY)
 |_=>exact Ab hv hr
theorem Lq{d:Nat}{v v':V}{u:Value}(ho:v.B4=false)(ht:aX h d v=some v')(P2: ∀cs,v≠ .agg cs)(zh: ∀cs,v≠ .cg cs)(hr:aV w I σ v u):aV w I cC v' u:=by
 have hv:v.jW=true∧v'=v:=by
  cases v with
  |agg cs=>exact absurd rfl (P2 cs)
  |cg cs=>exact absurd rfl (zh cs)
  |bJ _ _ _=>simp[V.B4]at ho
  |fn g a b=>cases a<;>cases b<;>cases d<;>simp_all [aX,V.jW]
  |_=>cases d<;>simp_all [aX,V.jW]
 rw[hv.2];exact nG hv.1 hr
theorem Lr{d:Nat}{v v':V}{u:Value}(ho:v.qB=false)(ht:aX h d v=some v')(hr:aV w I σ v u):aV w I cC v' u:=by
 cases v with
 |cg cs=>simp[V.qB]at ho
 |agg cs=>
  cases d with
  |zero=>simp[aX]at ht
  |succ d=>
   obtain⟨l,rfl,hl⟩:=lW ht;obtain⟨h1,h2⟩:=gA _ hl;simp only[aV]at hr⊢;obtain⟨us,rfl,hc⟩:=hr;refine⟨us,rfl,?_⟩;rw[bH]at hc⊢;refine⟨by rw[←h1];exact hc.1,fun j c' u' wv B0=> ?_⟩;have hj:j<cs.length:=by rw[h1];exact(List.getElem?_eq_some_iff.1 wv).1
   have kY:cs[j]?=some cs[j]:=List.getElem?_eq_getElem hj;have WT:=hc.2 j _ u' kY B0;have WU:cs[j].B4=false:=by
    simp only[V.qB,List.any_eq_false]at ho;simpa using ho cs[j] (List.getElem_mem hj)
   refine⟨WT.1,Lq WU (h2 j _ _ kY wv) (fun lH e=> ?_) (fun lH e=> ?_) WT.2⟩
   ·have:=WT.2;rw[e]at this;simp only[aV]at this;obtain⟨uJ,rfl,_⟩:=this;simp[Value.oneCell']at WT
   ·have:=WT.2;rw[e]at this;simp only[aV]at this;obtain⟨uJ,rfl,_⟩:=this;simp[Value.oneCell']at WT
 |bJ _ _ _=>simp[V.qB,V.B4]at ho
 |_=>exact Lq (by simpa[V.qB] using ho) ht (by intro cs e;cases e) (by intro cs e;cases e) hr
theorem ub {d:Nat} {args auj:List V} {us:List Value} (ht:aY (args.map (aX h d))=some auj) (hr:cI w I σ args us)
  (hf: ∀v v' u,v∈args→aX h d v=some v'→aV w I σ v u→aV w J cC v' u):cI w J cC auj us:=by
 obtain⟨h1,h2⟩:=gA _ ht;rw[ig]at hr⊢;refine⟨by rw[←h1];exact hr.1,fun j c' u' wv B0=> ?_⟩;have hj:j<args.length:=by rw[h1];exact(List.getElem?_eq_some_iff.1 wv).1
 have kY:args[j]?=some args[j]:=List.getElem?_eq_getElem hj;exact hf _ _ _ (List.getElem_mem hj) (h2 j _ _ kY wv) (hr.2 j _ u' kY B0)
theorem Step.nf(R:Rel w I σ h)(F:gO σ h n)(s:Step w I cC fu n w' I' σc hc k'):
  Step w I σ h n w' I' (fun id=>if id<n then σ id else σc id) (fun id=>if id<n then h id else hc id) k'∧Ext w' I' σc w' I' (fun id=>if id<n then σ id else σc id):=by
 have ud: ∀id,id<n→σc id=none∧hc id=none:=fun id bV=>⟨by rw[s.sigs id (.inl bV)];rfl,s.news id (.inl bV) rfl⟩;have E2:Ext w' I' σc w' I' (fun id=>if id<n then σ id else σc id):=by
  refine⟨fun _ _=>rfl,fun _ c _ fz hh=>⟨c,fz,hh,rfl⟩,fun _ hh=>hh,fun id x hx=> ?_⟩;by_cases bV:id<n
  ·rw[(ud id bV).1]at hx;cases hx
  ·simp only[bV,if_false];exact hx
 have E:Ext w I σ w' I' (fun id=>if id<n then σ id else σc id):=by
  refine⟨s.ext.Cd,s.ext.grow,s.ext.imp,fun id x hx=> ?_⟩;by_cases bV:id<n
  ·simp only[bV,if_true];exact hx
  ·rw[(F id (by omega)).2]at hx;cases hx
 have xG: ∀b,dF σc hc b→w.heap.size≤b:=fun b hb=>by
  rcases s.own b hb with hh|hh
  ·exact hh
  ·exact absurd hh kI
 refine⟨⟨E,⟨s.rel.cT,fun id ob ho=> ?_,fun id iI ob ja b o k o' k' ho sF hs jV=> ?_,s.rel.sE⟩,s.os,s.tape,s.output,s.size,fun b hb _=>s.frame b hb kI,fun b hb=> ?_,fun b hb=> ?_,s.le,fun id bV=> ?_,fun id bV hn=> ?_⟩,E2⟩
 ·by_cases bV:id<n
  ·simp only[bV,if_true]at ho;rcases R.obj id ob ho with⟨he,xe⟩|⟨b,o,c,el,eN,hi,hh,hle,hr⟩
   ·exact .inl ⟨he,by simp only[bV,if_true];exact xe⟩
   ·have jJ:dF σ h b:=⟨id,ob,o,ob.k,ho,eN⟩;have mW:=s.frame b (R.gm jJ) kI;refine .inr ⟨b,o,c,el,by simp only[bV,if_true];exact eN,fun nh=> ?_,hh.same mW,hle,hr.jc (E.kW _) mW⟩;rcases s.pn b nh with hx|hx|hx
    ·exact hi hx
    ·have:=R.gm jJ;omega
    ·exact kI hx
  ·simp only[bV,if_false]at ho;rcases s.rel.obj id ob ho with⟨he,xe⟩|⟨b,o,c,el,eN,hi,hh,hle,hr⟩
   ·exact .inl ⟨he,by simp only[bV,if_false];exact xe⟩
   ·exact .inr ⟨b,o,c,el,by simp only[bV,if_false];exact eN,hi,hh,hle,hr.jc (E2.kW _) rfl⟩
 ·by_cases bV:id<n<;>by_cases p8:iI<n<;>simp only[bV,p8,if_true,if_false]at ho sF hs jV
  ·exact R.apart id iI ob ja b o k o' k' ho sF hs jV
  ·have h1:=R.gm ⟨id,ob,o,k,ho,hs⟩;have h2:=xG b ⟨iI,ja,o',k',sF,jV⟩;omega
  ·have h1:=R.gm ⟨iI,ja,o',k',sF,jV⟩;have h2:=xG b ⟨id,ob,o,k,ho,hs⟩;omega
  ·exact s.rel.apart id iI ob ja b o k o' k' ho sF hs jV
 ·obtain⟨id,ob,o,k,ho,hs⟩:=hb;by_cases bV:id<n<;>simp only[bV,if_true,if_false]at ho hs
  ·exact .inr ⟨id,ob,o,k,ho,hs⟩
  ·exact .inl (xG b ⟨id,ob,o,k,ho,hs⟩)
 ·rcases s.pn b hb with hx|hx|hx
  ·exact .inl hx
  ·exact .inr (.inl hx)
  ·exact absurd hx kI
 ·have:=s.le;rcases bV with bV|bV
  ·simp only[bV,if_true]
  ·have hn: ¬id<n:=by omega
   simp only[hn,if_false];rw[s.sigs id (.inr bV),(F id (by omega)).2];rfl
 ·have:=s.le;rcases bV with bV|bV
  ·simp only[bV,if_true];exact hn
  ·have D4: ¬id<n:=by omega
   simp only[D4,if_false];exact s.news id (.inr bV) rfl
theorem Bd{w:World}{I1 I2:Nat→Prop}{σ:dK}{v:V}{u:Value}(hv:v.KZ=true)(hr:aV w I1 σ v u):aV w I2 σ v u:=by
 cases v with
 |sl c es=>
  simp only[V.KZ,List.isEmpty_iff]at hv;subst hv;simp only[aV]at hr⊢;obtain⟨a,cap,h1,h2,h3,h4,_⟩:=hr;exact⟨a,cap,h1,h2,h3,h4,.inl trivial⟩
 |fn g a b=>
  cases a with
  |cons x y=>simp[V.KZ]at hv
  |nil=>
   cases b with
   |cons x y=>simp[V.KZ]at hv
   |nil=>simp_all only[aV,cI]
 |agg cs=>simp[V.KZ]at hv
 |cg cs=>simp[V.KZ]at hv
 |ref cs=>simp[V.KZ]at hv
 |bad=>simp[aV]
 |_=>simp only[aV]at hr⊢;exact hr
theorem GJ{w:World}{I1 I2:Nat→Prop}{σ:dK}{v:V}{u:Value}(hv:v.B5=true)(hr:aV w I1 σ v u):aV w I2 σ v u:=by
 cases v with
 |agg cs=>
  simp only[aV]at hr⊢;obtain⟨us,rfl,hc⟩:=hr;refine⟨us,rfl,?_⟩;rw[bH]at hc⊢;refine⟨hc.1,fun j c u' kY hu=>⟨(hc.2 j c u' kY hu).1,Bd ?_ (hc.2 j c u' kY hu).2⟩⟩;exact List.all_eq_true.1 hv c (List.mem_of_getElem? kY)
 |_=>exact Bd hv hr
theorem Ud{w:World}{I1 I2:Nat→Prop}{σ:dK}{v:V}{u:Value}(hv:v.pu=true)(hr:aV w I1 σ v u):aV w I2 σ v u:=by
 cases v with
 |cg cs=>
  simp only[aV]at hr⊢;obtain⟨us,rfl,hc⟩:=hr;refine⟨us,rfl,?_⟩;rw[ig]at hc⊢;refine⟨hc.1,fun j c u' kY hu=>GJ ?_ (hc.2 j c u' kY hu)⟩;exact List.all_eq_true.1 hv c (List.mem_of_getElem? kY)
 |_=>exact GJ hv hr
theorem Ue{w:World}{I1 I2:Nat→Prop}{σ:dK}{es:List V}{k b o:Nat}(hv:es.all V.B5=true)(hr:bw w I1 σ es k b o):bw w I2 σ es k b o:=by
 rw[gM]at hr⊢;intro i e hi;obtain⟨h1,h2⟩:=hr i e hi;refine⟨h1,fun j c hj=> ?_⟩;obtain⟨u,g1,g2,g3⟩:=h2 j c hj;refine⟨u,g1,g2,Bd ?_ g3⟩;have he:e.B5=true:=List.all_eq_true.1 hv e (List.mem_of_getElem? hi);cases e with
 |agg cs=>exact List.all_eq_true.1 he c (List.mem_of_getElem? hj)
 |_=>
  cases j with
  |zero=>simp[V.cells]at hj;subst hj;exact he
  |succ j=>simp[V.cells]at hj
theorem vH{o:Option Ob}{ob:Ob}(hp:iy o=some ob):o=some ob∧ob.es.all V.B5=true:=by
 cases o with
 |none=>cases hp
 |some x=>
  unfold iy at hp;simp only at hp;split at hp
  ·rename_i hx;cases hp;exact⟨rfl,hx⟩
  ·cases hp
theorem Step.P3(R:Rel w I σ h)(F:gO σ h n)(s:Step w (fun b=>I b∨dF σ h b) cC fu n w' I' σc hc k'):
  Step w I σ h n w' (fun b=>I b∨(w.heap.size≤b∧I' b)) (fun id=>if id<n then σ id else σc id) (fun id=>if id<n then h id else iy (hc id)) k'∧
  Ext w' (fun b=>I b∨(w.heap.size≤b∧I' b)) σc w' (fun b=>I b∨(w.heap.size≤b∧I' b)) (fun id=>if id<n then σ id else σc id):=by
 have ud: ∀id,id<n→σc id=none∧hc id=none:=fun id bV=>⟨by rw[s.sigs id (.inl bV)];rfl,s.news id (.inl bV) rfl⟩;have E2: ∀K:Nat→Prop,Ext w' K σc w' K (fun id=>if id<n then σ id else σc id):=by
  intro K;refine⟨fun _ _=>rfl,fun _ c _ fz hh=>⟨c,fz,hh,rfl⟩,fun _ hh=>hh,fun id x hx=> ?_⟩;by_cases bV:id<n
  ·rw[(ud id bV).1]at hx;cases hx
  ·simp only[bV,if_false];exact hx
 have E:Ext w I σ w' (fun b=>I b∨(w.heap.size≤b∧I' b)) (fun id=>if id<n then σ id else σc id):=by
  refine⟨fun b hb=>s.ext.Cd b (.inl hb),s.ext.grow,fun b hb=> .inl hb,fun id x hx=> ?_⟩;by_cases bV:id<n
  ·simp only[bV,if_true];exact hx
  ·rw[(F id (by omega)).2]at hx;cases hx
 have xG: ∀b,dF σc hc b→w.heap.size≤b:=fun b hb=>by
  rcases s.own b hb with hh|hh
  ·exact hh
  ·exact absurd hh kI
 have Cy: ∀id ob,iy (hc id)=some ob→hc id=some ob:=fun id ob hp=>(vH hp).1;refine⟨⟨E,⟨fun b hb=> ?_,fun id ob ho=> ?_,fun id iI ob ja b o k o' k' ho sF hs jV=> ?_,R.sE.ext E⟩,s.os,s.tape,s.output,s.size,fun b hb _=>s.frame b hb kI,fun b hb=> ?_,fun b hb=> ?_,s.le,fun id bV=> ?_,fun id bV hn=> ?_⟩,E2 _⟩
 ·rcases hb with hb|hb
  ·exact Nat.lt_of_lt_of_le (R.cT b hb) s.size
  ·exact s.rel.cT b hb.2
 ·by_cases bV:id<n
  ·simp only[bV,if_true]at ho;rcases R.obj id ob ho with⟨he,xe⟩|⟨b,o,c,el,eN,hi,hh,hle,hr⟩
   ·exact .inl ⟨he,by simp only[bV,if_true];exact xe⟩
   ·have jJ:dF σ h b:=⟨id,ob,o,ob.k,ho,eN⟩;have mW:=s.frame b (R.gm jJ) kI;refine .inr ⟨b,o,c,el,by simp only[bV,if_true];exact eN,fun nh=> ?_,hh.same mW,hle,hr.jc (E.kW _) mW⟩;rcases nh with hx|hx
    ·exact hi hx
    ·have:=R.gm jJ;omega
  ·simp only[bV,if_false]at ho;obtain⟨sF,KE⟩:=vH ho;rcases s.rel.obj id ob sF with⟨he,xe⟩|⟨b,o,c,el,eN,hi,hh,hle,hr⟩
   ·exact .inl ⟨he,by simp only[bV,if_false];exact xe⟩
   ·refine .inr ⟨b,o,c,el,by simp only[bV,if_false];exact eN,fun nh=> ?_,hh,hle,(Ue KE hr).jc ((E2 _).kW _) rfl⟩;rcases nh with hx|hx
    ·exact hi (s.ext.imp b (.inl hx))
    ·exact hi hx.2
 ·by_cases bV:id<n<;>by_cases p8:iI<n<;>simp only[bV,p8,if_true,if_false]at ho sF hs jV
  ·exact R.apart id iI ob ja b o k o' k' ho sF hs jV
  ·have h1:=R.gm ⟨id,ob,o,k,ho,hs⟩;have h2:=xG b ⟨iI,ja,o',k',Cy _ _ sF,jV⟩;omega
  ·have h1:=R.gm ⟨iI,ja,o',k',sF,jV⟩;have h2:=xG b ⟨id,ob,o,k,Cy _ _ ho,hs⟩;omega
  ·exact s.rel.apart id iI ob ja b o k o' k' (Cy _ _ ho) (Cy _ _ sF) hs jV
 ·obtain⟨id,ob,o,k,ho,hs⟩:=hb;by_cases bV:id<n<;>simp only[bV,if_true,if_false]at ho hs
  ·exact .inr ⟨id,ob,o,k,ho,hs⟩
  ·exact .inl (xG b ⟨id,ob,o,k,Cy _ _ ho,hs⟩)
 ·rcases hb with hb|hb
  ·exact .inl hb
  ·exact .inr (.inl hb.1)
 ·have:=s.le;rcases bV with bV|bV
  ·simp only[bV,if_true]
  ·have hn: ¬id<n:=by omega
   simp only[hn,if_false];rw[s.sigs id (.inr bV),(F id (by omega)).2];rfl
 ·have:=s.le;rcases bV with bV|bV
  ·simp only[bV,if_true];exact hn
  ·have D4: ¬id<n:=by omega
   simp only[D4,if_false];rw[s.news id (.inr bV) rfl];rfl
end
section
variable {w w':World} {I I' J:Nat→Prop} {σ:dK} {h:aG} {n:Nat}
theorem Ls(R:Rel w I σ h)(H7: ∀b,I b→J b)(hJ: ∀b,dF σ h b→J b){d:Nat}{e e':V}(Ps:aX h d e=some e'){k b o:Nat}(kf:e.cells.length=k)(uL:uH w I σ e.cells b o):
  e'.cells.length=k∧uH w J cC e'.cells b o:=by
 by_cases Ia: ∃cs,e= .agg cs
 ·obtain⟨cs,rfl⟩:=Ia;cases d with
  |zero=>simp[aX]at Ps
  |succ d=>
   obtain⟨lH,rfl,tK⟩:=lW Ps;obtain⟨g1,g2⟩:=gA _ tK;refine⟨by simpa[V.cells,←g1] using kf,fun j c' Bc=> ?_⟩;have vE:j<cs.length:=by rw[g1];exact(List.getElem?_eq_some_iff.1 Bc).1
   have X3:cs[j]?=some cs[j]:=by simp
   obtain⟨u,Ig,Ih,Lc⟩:=uL j _ X3;exact⟨u,Ig,Ih,oB R H7 hJ d _ _ u (g2 j _ _ X3 Bc) Lc⟩
 ·have eZ: ∀cs,e≠ .agg cs:=fun cs hh=>Ia ⟨cs,hh⟩;have Uc:=rU Ps eZ;rw[hX eZ]at kf uL;rw[hX Uc];refine⟨kf,fun j c' Bc=> ?_⟩;cases j with
  |zero=>
   simp at Bc;subst Bc;obtain⟨u,Ig,Ih,Lc⟩:=uL 0 e (by simp);exact⟨u,Ig,Ih,oB R H7 hJ d _ _ u Ps Lc⟩
  |succ j=>simp at Bc
theorem P4(R:Rel w I σ h)(H7: ∀b,I b→J b)(hJ: ∀b,dF σ h b→J b){d:Nat}{es tX:List V}(ht:aY (es.map (aX h d))=some tX){k b o:Nat}(hr:bw w I σ es k b o):
  tX.length=es.length∧bw w J cC tX k b o:=by
 obtain⟨h1,h2⟩:=gA _ ht;refine⟨h1.symm,?_⟩;rw[gM]at hr⊢;intro i e' he';have hi:i<es.length:=by rw[h1];exact(List.getElem?_eq_some_iff.1 he').1
 have WS:es[i]?=some es[i]:=by simp
 exact Ls R H7 hJ (h2 i _ _ WS he') (hr i _ WS).1 (hr i _ WS).2
end
theorem Eu{h:aG}{d:Nat}{v v':V}(ht:aX h d v=some v')(hv: ∀cs,v≠ .cg cs): ∀cs,v'≠ .cg cs:=by
 intro cs e;subst e;cases v with
 |cg lH=>exact hv lH rfl
 |agg lH=>
  cases d with
  |zero=>simp[aX]at ht
  |succ d=>obtain⟨l,h1,_⟩:=lW ht;cases h1
 |bJ id s l=>
  cases d with
  |zero=>simp[aX]at ht
  |succ d=>
   rw[aX]at ht;repeat' split at ht
   all_goals cases ht
 |fn g a b=>cases a<;>cases b<;>cases d<;>simp[aX]at ht
 |_=>cases d<;>simp[aX]at ht
theorem Lt{v:V}(hv: ∀cs,v≠ .agg cs): ∀cs,v.fo≠ .agg cs:=by
 intro cs e;cases v<;>simp[V.fo]at e;exact hv _ rfl
theorem Lu{v:V}(hv: ∀cs,v≠ .cg cs): ∀cs,v.fo≠ .cg cs:=by
 intro cs e;cases v<;>simp[V.fo]at e;exact hv _ rfl
theorem mu(F:Nat→V→V)(cs:List V):oz F (.agg cs)= .agg (lL F 0 cs):=rfl
theorem k9(F:Nat→V→V){v:V}(hv: ∀cs,v≠ .agg cs):oz F v=F 0 v:=by
 cases v with
 |agg cs=>exact absurd rfl (hv cs)
 |_=>rfl
theorem py(F:Nat→Nat→V→V)(vs:List V):pV F (.cg vs)= .cg (lL (fun i v=>oz (F i) v) 0 vs):=rfl
theorem nN(F:Nat→Nat→V→V){v:V}(hv: ∀cs,v≠ .cg cs):pV F v=oz (F 0) v:=by
 cases v with
 |cg cs=>exact absurd rfl (hv cs)
 |_=>rfl
theorem qS(F:Nat→V→V): ∀(cs:List V) (n j:Nat),(lL F n cs)[j]?=(cs[j]?).map (F (n+j))
 | [],n,j=>by simp[lL]
 |c::cs,n,j=>by
  cases j with
  |zero=>simp[lL]
  |succ j=>simp only[lL,List.getElem?_cons_succ];rw[qS F cs (n+1) j,show n+1+j=n+(j+1) by omega]
theorem Cz(F:Nat→V→V)(cs:List V)(n:Nat):(lL F n cs).length=cs.length:=by
 induction cs generalizing n with
 |nil=>rfl
 |cons c cs ih=>simp[lL,ih]
theorem uU(F G:Nat→V→V): ∀(cs:List V) (n:Nat),lL G n (lL F n cs)=lL (fun j c=>G j (F j c)) n cs
 | [],n=>rfl
 |c::cs,n=>by simp only[lL];rw[uU F G cs (n+1)]
theorem Ac{F G:Nat→V→V}(hF: ∀c,(∀cs,c≠ .agg cs)→ ∀cs,F 0 c≠ .agg cs)(v:V):oz G (oz F v)=oz (fun j c=>G j (F j c)) v:=by
 by_cases h: ∃cs,v= .agg cs
 ·obtain⟨cs,rfl⟩:=h;simp only[mu,uU]
 ·have h': ∀cs,v≠ .agg cs:=fun cs e=>h ⟨cs,e⟩;rw[k9 F h',k9 G (hF v h'),k9 _ h']
theorem Iq{F G:Nat→Nat→V→V}(hF: ∀i c,(∀cs,c≠ .agg cs)→ ∀cs,F i 0 c≠ .agg cs)(hT: ∀c,(∀cs,c≠ .cg cs)→ ∀cs,F 0 0 c≠ .cg cs)(v:V):pV G (pV F v)=pV (fun i j c=>G i j (F i j c)) v:=by
 by_cases h: ∃cs,v= .cg cs
 ·obtain⟨cs,rfl⟩:=h;simp only[py,uU];congr 2;funext i c;exact Ac (hF i) c
 ·have h': ∀cs,v≠ .cg cs:=fun cs e=>h ⟨cs,e⟩;have hm: ∀cs,oz (F 0) v≠ .cg cs:=by
   intro cs e;by_cases ha: ∃cs,v= .agg cs
   ·obtain⟨lH,rfl⟩:=ha;rw[mu]at e;cases e
   ·have Ci: ∀cs,v≠ .agg cs:=fun cs e=>ha ⟨cs,e⟩;rw[k9 _ Ci]at e;exact hT v h' cs e
  rw[nN F h',nN G hm,nN _ h',Ac (hF 0)]
section
variable {w w':World} {I I' J:Nat→Prop} {σ σ' σs σc:dK} {h h' hs hc:aG} {n n' k0 k' x:Nat}
theorem Lv{F:Nat→V→V}{cs:List V}{us:List Value}(hr:bS w I σ cs us)(hF: ∀j c u,cs[j]?=some c→us[j]?=some u→u.oneCell'=true→aV w I σ c u→aV w J σ' (F j c) u):bS w J σ' (lL F 0 cs) us:=by
 rw[bH]at hr⊢;refine⟨by rw[Cz];exact hr.1,fun j c u hc hu=> ?_⟩;rw[qS,Nat.zero_add]at hc;cases kY:cs[j]? with
 |none=>simp[kY]at hc
 |some c0=>
  rw[kY]at hc;simp only[Option.map_some,aa]at hc;subst hc;have:=hr.2 j c0 u kY hu;exact⟨this.1,hF j c0 u kY hu this.1 this.2⟩
theorem CA{F:Nat→V→V}{v:V}{u:Value}(hr:aV w I σ v u)(hF: ∀j c x,v.cells.getD j .bad=c→aV w I σ c x→aV w J σ' (F j c) x):aV w J σ' (oz F v) u:=by
 by_cases h: ∃cs,v= .agg cs
 ·obtain⟨cs,rfl⟩:=h;rw[mu];simp only[aV]at hr⊢;obtain⟨us,rfl,hc⟩:=hr;refine⟨us,rfl,Lv hc fun j c x kY _ _ hx=>hF j c x ?_ hx⟩;simp[V.cells,List.getD_eq_getElem?_getD,kY]
 ·have h': ∀cs,v≠ .agg cs:=fun cs e=>h ⟨cs,e⟩;rw[k9 F h'];refine hF 0 v u ?_ hr;rw[hX h'];rfl
theorem Lw{F:Nat→Nat→V→V}{v:V}{u:Value}(hr:aV w I σ v u)(hF: ∀i j c x,v.cellAt i j=c→aV w I σ c x→aV w J σ' (F i j c) x):aV w J σ' (pV F v) u:=by
 by_cases h: ∃cs,v= .cg cs
 ·obtain⟨cs,rfl⟩:=h;rw[py];simp only[aV]at hr⊢;obtain⟨us,rfl,hc⟩:=hr;refine⟨us,rfl,?_⟩;rw[ig]at hc⊢;refine⟨by rw[Cz];exact hc.1,fun i c u Ew hu=> ?_⟩;rw[qS,Nat.zero_add]at Ew;cases kY:cs[i]? with
  |none=>simp[kY]at Ew
  |some c0=>
   rw[kY]at Ew;simp only[Option.map_some,aa]at Ew;subst Ew;refine CA (hc.2 i c0 u kY hu) fun j c x hx hrx=>hF i j c x ?_ hrx;simp only[V.cellAt,List.getD_eq_getElem?_getD,kY,Option.getD_some];simpa[List.getD_eq_getElem?_getD] using hx
 ·have h': ∀cs,v≠ .cg cs:=fun cs e=>h ⟨cs,e⟩;rw[nN F h'];refine CA hr fun j c x hx hrx=>hF 0 j c x ?_ hrx;rw[←hx];cases v with
  |cg cs=>exact absurd rfl (h' cs)
  |_=>rfl
theorem Step.call {hK h1:aG} {I1:Nat→Prop} {m:Nat} (R:Rel w I σ h) (F:gO σ h n) (oQ: ∀id ob,hK id=some ob→h id=some ob) (s1:Step w I σ hK n w I1 σ h1 n) (GK: ∀id ob,h1 id=some ob→hK id=some ob)
  (s:oR m w I1 σs hs w' I' σc hc)
  (jJ: ∀b,dF σs hs b→dF σ h b∧ ¬dF σ hK b)
  (X5: ∀b,I' b→J b) (WV: ∀b,J b→I' b∨dF σc hc b)
  (hσ: ∀id,id<n→σ' id=σ id) (hh: ∀id,id<n→id≠x→h' id=h1 id)
  (hx: ∀ob,x<n→h' x=some ob→h x≠none∧(∀b o k,σ x=some (b,o,k)→ ¬dF σ hK b)∧Ce w' J σ' x ob)
  (hn:n≤n') (mJ: ∀id,n'≤id→σ' id=none∧h' id=none)
  (sG: ∀id ob,n≤id→h' id=some ob→Ce w' J σ' id ob∧ ∀b o k,σ' id=some (b,o,k)→(w.heap.size≤b∨dF σs hs b)∧(x<n→ ∀o' k',σ x≠some (b,o',k')))
  (P5: ∀id iI ob ja b o k o' k',n≤id→n≤iI→h' id=some ob→h' iI=some ja→σ' id=some (b,o,k)→σ' iI=some (b,o',k')→id=iI):
  Step w I σ h n w' J σ' h' n':=by
 have E:Ext w I σ w' J σ':=⟨fun b hb=>s.Cd b (s1.ext.imp b hb),s.grow,fun b hb=>X5 b (s.imp b (s1.ext.imp b hb)),fun id y hy=>by
  by_cases bV:id<n
  ·rw[hσ id bV];exact hy
  ·rw[(F id (by omega)).2]at hy;cases hy⟩
 have Lx: ∀b,dF σ hK b→dF σ h b:=fun b ⟨i,ob,o,k,g1,g2⟩=>⟨i,ob,o,k,oQ i ob g1,g2⟩;have Uf: ∀i X6 b o k,h1 i=some X6→σ i=some (b,o,k)→w'.heap[b]?=w.heap[b]?∧ ¬J b:=by
  intro i X6 b o k hi eN;have X7:dF σ hK b:=⟨i,X6,o,k,GK i X6 hi,eN⟩;have xH:dF σ h1 b:=⟨i,X6,o,k,hi,eN⟩;have jw:=R.gm (Lx b X7);have KH: ¬dF σs hs b:=fun hb=>(jJ b hb).2 X7;refine⟨s.frame b jw KH,fun hj=> ?_⟩;rcases WV b hj with hb|hb
  ·rcases s.pn b hb with hy|hy|hy
   ·exact(s1.rel.owned xH).1 hy
   ·omega
   ·exact KH hy
  ·rcases s.own b hb with hy|hy
   ·omega
   ·exact KH hy
 have hold: ∀id ob,id<n→h' id=some ob→ ∃zf,h id=some zf:=by
  intro id ob bV ho;by_cases e:id=x
  ·subst e;cases hz:h id with
   |none=>exact absurd hz (hx ob bV ho).1
   |some y=>exact⟨y,rfl⟩
  ·rw[hh id bV e]at ho;exact⟨ob,oQ _ _ (GK _ _ ho)⟩
 have hon: ∀id ob iI ja b o k o' k',id<n→n≤iI→h' id=some ob→h' iI=some ja→σ id=some (b,o,k)→σ' iI=some (b,o',k')→False:=by
  intro id ob iI ja b o k o' k' bV p8 ho sF eN wA;obtain⟨y,hy⟩:=hold id ob bV ho;have h2:=(sG iI ja p8 sF).2 _ _ _ wA;by_cases e:id=x
  ·subst e;exact h2.2 bV o k eN
  ·rw[hh id bV e]at ho;have X7:dF σ hK b:=⟨id,ob,o,k,GK _ _ ho,eN⟩;rcases h2.1 with hz|hz
   ·have:=R.gm (Lx b X7);omega
   ·exact(jJ b hz).2 X7
 refine⟨E,⟨fun b hb=> ?_,fun id ob ho=> ?_,fun id iI ob ja b o k o' k1 ho sF eN wA=> ?_,R.sE.ext E⟩,s.os,s.tape,s.output,s.size,fun b hb Cc=>s.frame b hb fun hy=>Cc (jJ b hy).1,fun b hb=> ?_,fun b hb=> ?_,hn,fun id bV=> ?_,fun id bV hz=> ?_⟩
 ·rcases WV b hb with hb|hb
  ·exact s.rel.cT b hb
  ·exact s.rel.gm hb
 ·by_cases bV:id<n
  ·by_cases e:id=x
   ·subst e;exact(hx ob bV ho).2.2
   ·rw[hh id bV e]at ho;rcases s1.rel.obj id ob ho with⟨he,xe⟩|⟨b,o,c,el,eN,dQ,hb,hle,hr⟩
    ·exact .inl ⟨he,by rw[hσ id bV];exact xe⟩
    ·obtain⟨g1,g2⟩:=Uf id ob b o ob.k ho eN;have E1:Ext w I1 σ w' J σ':=⟨s.Cd,s.grow,fun b hb=>X5 b (s.imp b hb),E.sig⟩;exact .inr ⟨b,o,c,el,by rw[hσ id bV];exact eN,g2,hb.same g1,hle,hr.jc (E1.kW _) g1⟩
  ·exact(sG id ob (by omega) ho).1
 ·by_cases bV:id<n<;>by_cases p8:iI<n
  ·obtain⟨y,hy⟩:=hold id ob bV ho;obtain⟨y',hy'⟩:=hold iI ja p8 sF;rw[hσ _ bV]at eN;rw[hσ _ p8]at wA;exact R.apart id iI y y' b o k o' k1 hy hy' eN wA
  ·rw[hσ _ bV]at eN;exact(hon id ob iI ja b o k o' k1 bV (by omega) ho sF eN wA).elim
  ·rw[hσ _ p8]at wA;exact(hon iI ja id ob b o' k1 o k p8 (by omega) sF ho wA eN).elim
  ·exact P5 id iI ob ja b o k o' k1 (by omega) (by omega) ho sF eN wA
 ·obtain⟨id,ob,o,k,ho,eN⟩:=hb;by_cases bV:id<n
  ·obtain⟨y,hy⟩:=hold id ob bV ho;rw[hσ _ bV]at eN;exact .inr ⟨id,y,o,k,hy,eN⟩
  ·rcases((sG id ob (by omega) ho).2 _ _ _ eN).1 with hz|hz
   ·exact .inl hz
   ·exact .inr (jJ b hz).1
 ·rcases WV b hb with hb|hb
  ·rcases s.pn b hb with hy|hy|hy
   ·rcases s1.pn b hy with hz|hz|hz
    ·exact .inl hz
    ·exact .inr (.inl hz)
    ·exact .inr (.inr (Lx b hz))
   ·exact .inr (.inl hy)
   ·exact .inr (.inr (jJ b hy).1)
  ·rcases s.own b hb with hy|hy
   ·exact .inr (.inl hy)
   ·exact .inr (.inr (jJ b hy).1)
 ·rcases bV with bV|bV
  ·exact hσ id bV
  ·rw[(mJ id bV).1,(F id (by omega)).2]
 ·rcases bV with bV|bV
  ·by_cases e:id=x
   ·subst e;cases hz':h' id with
    |none=>rfl
    |some y=>exact absurd hz (hx y bV hz').1
   ·rw[hh id bV e];cases hy:h1 id with
    |none=>rfl
    |some y=>rw[oQ _ _ (GK _ _ hy)]at hz;cases hz
  ·exact(mJ id bV).2
def Ly(σ:dK)(v:V)(m:Mask)(q:Nat):Option (Nat×Nat×Nat):=
 match m[q]? with
 |some p=>match v.cellAt p.1 p.2.1 with
  | .bJ id s _=>match σ id with
   |some (b,o,k)=>some (b,o+s*k,k)
   |none=>none
  |_=>none
 |none=>none
theorem oD: ∀{m:Mask} {n i j q:Nat} {t:TypeId},iz n m i j=some (q,t)→n≤q∧m[q-n]?=some (i,j,t)
 | [],n,i,j,q,t,h=>by simp[iz]at h
 |(a,b,c)::m,n,i,j,q,t,h=>by
  simp only[iz]at h;split at h
  ·rename_i lK;simp only[aa,ax]at h;obtain⟨rfl,rfl⟩:=h;obtain⟨rfl,rfl⟩:=lK;simp
  ·obtain⟨h1,h2⟩:=oD h;refine⟨by omega,?_⟩;rw[show q-n=q-(n+1)+1 by omega];simpa using h2
theorem p9: ∀(m:Mask) (n i j:Nat),iz n m i j=(iz 0 m i j).map fun p=>(p.1+n,p.2)
 | [],n,i,j=>rfl
 |(a,b,c)::m,n,i,j=>by
  simp only[iz];split
  ·simp
  ·rw[p9 m (n+1),p9 m (0+1)];cases iz 0 m i j with
   |none=>rfl
   |some p=>simp;omega
theorem jK(X:Env)(kp:TypeId→Bool)(R:V): ∀(m:Mask) (n:Nat) (h:aG) (id:Nat),qC X kp R n m h id=if n≤id∧id<n+m.length then(m[id-n]?).bind (tS X kp R) else h id
 | [],n,h,id=>by
  have: ¬(n≤id∧id<n+([]:Mask).length):=by simp
  rw[if_neg this];rfl
 |q::m,n,h,id=>by
  simp only[qC,aS,List.length_cons];by_cases e:id=n
  ·subst e;simp
  ·rw[jK X kp R m (n+1) h id];simp only[e,if_false];by_cases h1:n+1≤id∧id<n+1+m.length
   ·have h2:n≤id∧id<n+(m.length+1):=by omega
    simp only[h1,h2,and_self,if_true];rw[show id-n=id-(n+1)+1 by omega];simp
   ·have h2: ¬(n≤id∧id<n+(m.length+1)):=by omega
    simp only[h1,h2,if_false]
theorem rV: ∀{l:List (Option Nat)},oN l=true→ ∀{i j:Nat} {x:Nat},l[i]?=some (some x)→l[j]?=some (some x)→i=j
 | [],_,i,j,x,h1,_=>by simp at h1
 |a::l,h,i,j,x,h1,h2=>by
  simp only[oN,Bool.and_eq_true]at h;have ha:=List.all_eq_true.1 h.1;cases i with
  |zero=>
   cases j with
   |zero=>rfl
   |succ j=>
    simp at h1 h2;subst h1;have:=ha _ (List.mem_of_getElem? h2);simp[differ]at this
  |succ i=>
   cases j with
   |zero=>
    simp at h1 h2;subst h2;have:=ha _ (List.mem_of_getElem? h1);simp[differ]at this
   |succ j=>
    simp at h1 h2;rw[rV h.2 h1 h2]
theorem fO: ∀{l:List (Option Nat)} {h:aG} {id:Nat} {ob:Ob},cP h l id=some ob→h id=some ob∧some id∉l
 | [],h,id,ob,hk=>⟨hk,by simp⟩
 |none::l,h,id,ob,hk=>by
  simp only[cP]at hk;have:=fO hk;exact⟨this.1,by simpa using this.2⟩
 |some i::l,h,id,ob,hk=>by
  simp only[cP,aS]at hk;split at hk
  ·cases hk
  ·rename_i e;have:=fO hk;exact⟨this.1,by simp[this.2,e]⟩
theorem CB{v:V}(hc:v= .sl true []){q:Nat}{u:Value}(hr:aV w I σ v u):aV w J σ' (.bJ q 0 0) u:=by
 subst hc;simp only[aV]at hr⊢;obtain⟨a,cap,rfl,h1,h2,h3,_⟩:=hr;exact⟨a,cap,rfl,h1,h2,.inl (by simpa using h3)⟩
theorem xJ {X:Env} (R:Rel w' I' σc hc) {rW:aG} {v R':V} {u:Value} (hr:aV w' I' σc v u) {m:Mask} (Sg: ∀id ob,rW id=some ob→hc id=some ob∧some id∉dd v m) (he:tR X hc rW v m=some R') {n:Nat} {σ0:dK}
  (X5: ∀b,I' b→J b) (WV: ∀b,dF σc rW b→J b) (hJ3: ∀b,J b→I' b∨dF σc rW b) (hσ: ∀q,q<m.length→σ0 (n+q)=Ly σc v m q):
  aV w' J σ0 (oO n m R') u∧
  (∀(kp:TypeId→Bool) (q:Nat) (p:Nat×Nat×TypeId) (ob:Ob),m[q]?=some p→tS X kp R' p=some ob→Ce w' J σ0 (n+q) ob∧ ∀b o k,σ0 (n+q)=some (b,o,k)→ ∃id,some id∈dd v m∧ ∃ja o' k',hc id=some ja∧σc id=some (b,o',k'))∧
  (∀(q q' b o k o' k':Nat),q<m.length→q'<m.length→σ0 (n+q)=some (b,o,k)→σ0 (n+q')=some (b,o',k')→(∃kp ob,(m[q]?).bind (tS X kp R')=some ob)→(∃kp ob,(m[q']?).bind (tS X kp R')=some ob)→q=q'):=by
 unfold tR at he;split at he
 case isFalse=>cases he
 rename_i Lz;simp only[Bool.and_eq_true]at Lz;have P5:=Lz.1;simp only[aa]at he;subst he;have GL:Rel w' I' σc rW:=R.sub fun id ob h=>(Sg id ob h).1;have X8: ∀c c' x,aX rW depth c=some c'→aV w' I' σc c x→aV w' J cC c' x:=fun c c' x ht hx=>oB GL X5 WV depth c c' x ht hx;have Ug: ∀i c,(∀cs,c≠ .agg cs)→ ∀cs,gh X hc rW m i 0 c≠ .agg cs:=by
  intro i c uV cs e;unfold gh at e;split at e
  ·split at e<;>cases e
  ·split at e
   ·rename_i c' wv;exact Lt (rU wv uV) cs e
   ·cases e
 have hF2: ∀c,(∀cs,c≠ .cg cs)→ ∀cs,gh X hc rW m 0 0 c≠ .cg cs:=by
  intro c uV cs e;unfold gh at e;split at e
  ·split at e<;>cases e
  ·split at e
   ·rename_i c' wv;exact Lu (Eu wv uV) cs e
   ·cases e
 have xE: ∀i j,(pV (gh X hc rW m) v).cellAt i j=gh X hc rW m i j (v.cellAt i j)∨(∀es c,(pV (gh X hc rW m) v).cellAt i j≠ .sl c es):=by
  intro i j;have one: ∀(F:Nat→V→V) (x:V),(∀c,(∀cs,c≠ .agg cs)→ ∀cs,F 0 c≠ .agg cs)→(oz F x).cells.getD j .bad=F j (x.cells.getD j .bad)∨(oz F x).cells.getD j .bad= .bad:=by
   intro F x hF;by_cases hx: ∃cs,x= .agg cs
   ·obtain⟨cs,rfl⟩:=hx;rw[mu];simp only[V.cells,List.getD_eq_getElem?_getD,qS,Nat.zero_add];cases cs[j]? with
    |none=>right;rfl
    |some c=>left;rfl
   ·have Cf: ∀cs,x≠ .agg cs:=fun cs e=>hx ⟨cs,e⟩;rw[k9 F Cf,hX (hF x Cf),hX Cf];cases j with
    |zero=>left;rfl
    |succ j=>right;rfl
  by_cases hv: ∃cs,v= .cg cs
  ·obtain⟨vs,rfl⟩:=hv;rw[py];simp only[V.cellAt,List.getD_eq_getElem?_getD,qS,Nat.zero_add];cases vs[i]? with
   |none=>right;intro es c e;simp only[Option.map_none,Option.getD_none,V.cells]at e;cases j<;>simp at e
   |some x=>
    simp only[Option.map_some,Option.getD_some];rcases one (gh X hc rW m i) x (Ug i) with h|h
    ·left;simpa[List.getD_eq_getElem?_getD] using h
    ·right;intro es c e;simp only[List.getD_eq_getElem?_getD]at h;rw[h]at e;cases e
  ·have Ad: ∀cs,v≠ .cg cs:=fun cs e=>hv ⟨cs,e⟩;rw[nN _ Ad];have hm: ∀cs,oz (gh X hc rW m 0) v≠ .cg cs:=by
    intro cs e;by_cases ha: ∃cs,v= .agg cs
    ·obtain⟨lH,rfl⟩:=ha;rw[mu]at e;cases e
    ·have Ci: ∀cs,v≠ .agg cs:=fun cs e=>ha ⟨cs,e⟩;rw[k9 _ Ci]at e;exact hF2 v Ad cs e
   have cA: ∀y:V,(∀cs,y≠ .cg cs)→y.cellAt i j=if i=0 then y.cells.getD j .bad else .bad:=by
    intro y hy;cases y with
    |cg cs=>exact absurd rfl (hy cs)
    |_=>rfl
   rw[cA _ hm,cA _ Ad];by_cases hi:i=0
   ·subst hi;simp only[if_true];rcases one (gh X hc rW m 0) v (Ug 0) with h|h
    ·left;exact h
    ·right;intro es c e;rw[h]at e;cases e
   ·right;intro es c e;simp only[hi,if_false]at e;cases e
 have di: ∀(t:TypeId) (c:V) (es:List V),rowAt X hc rW t c=some es→(c= .sl true []∧es=[])∨ ∃id s l ob Sh,c= .bJ id s l∧hc id=some ob∧ob.k=(X.ti t).size∧s+l≤ob.es.length∧es.length=l∧aY (((ob.es.drop s).take l).map (aX rW depth))=some Sh∧es=cG Sh:=by
  intro t c es zA;unfold rowAt at zA;split at zA
  ·simp only[aa]at zA;exact .inl ⟨rfl,zA.symm⟩
  ·rename_i id s l;right;split at zA
   case h_2=>cases zA
   rename_i ob cy;split at zA
   case isFalse=>cases zA
   rename_i WW;split at zA
   case h_2=>cases zA
   rename_i Sh zg;simp only[aa]at zA;subst zA;refine⟨id,s,l,ob,Sh,rfl,cy,WW.1,WW.2,?_,zg,rfl⟩;have:=(gA _ zg).1;have hd: ∀l:List V,(cG l).length=l.length:=by
    intro l;induction l with
    |nil=>rfl
    |cons c l ih=>simp[cG,ih]
   rw[hd,←this];simp;omega
  ·cases zA
 have Si: ∀(q:Nat) (p:Nat×Nat×TypeId) (c:Bool) (es:List V),m[q]?=some p→(pV (gh X hc rW m) v).cellAt p.1 p.2.1= .sl c es→ ∀q' t,iz 0 m p.1 p.2.1=some (q',t)→rowAt X hc rW t (v.cellAt p.1 p.2.1)=some es:=by
  intro q p c es hq rX q' t hm;rcases xE p.1 p.2.1 with h|h
  ·rw[h]at rX;unfold gh at rX;rw[hm]at rX;simp only at rX;split at rX
   ·rename_i tX zg;simp only[V.sl.injEq]at rX;rw[←rX.2];exact zg
   ·cases rX
  ·exact absurd rX (h es c)
 have X9: ∀(q:Nat) (p:Nat×Nat×TypeId),m[q]?=some p→ ∃q' t,iz 0 m p.1 p.2.1=some (q',t):=by
  intro q p hq;have: ∀(m:Mask) (n q:Nat),m[q]?=some p→ ∃q' t,iz n m p.1 p.2.1=some (q',t):=by
   intro m;induction m with
   |nil=>intro n q hq;simp at hq
   |cons y m ih=>
    intro n q hq;obtain⟨a,b,t⟩:=y;simp only[iz];by_cases lK:a=p.1∧b=p.2.1
    ·simp only[lK,and_self,if_true];exact⟨_,_,rfl⟩
    ·simp only[lK,if_false];cases q with
     |zero=>
      simp at hq;subst hq;simp at lK
     |succ q=>exact ih (n+1) q (by simpa using hq)
  exact this m 0 q hq
 have CC: ∀(q:Nat) (p:Nat×Nat×TypeId),m[q]?=some p→q<m.length:=fun q p h=>(List.getElem?_eq_some_iff.1 h).1;have Ya: ∀(q:Nat) (p:Nat×Nat×TypeId),m[q]?=some p→ ∀b o k,σ0 (n+q)=some (b,o,k)→ ∃id s l o',v.cellAt p.1 p.2.1= .bJ id s l∧σc id=some (b,o',k)∧o=o'+s*k:=by
  intro q p hq b o k eN;rw[hσ q (CC q p hq)]at eN;unfold Ly at eN;rw[hq]at eN;simp only at eN;split at eN
  case h_2=>cases eN
  rename_i id s l rX;split at eN
  case h_2=>cases eN
  rename_i b' o' k' jV;simp only[aa,ax]at eN;obtain⟨rfl,rfl,rfl⟩:=eN;exact⟨id,s,l,o',rX,jV,rfl⟩
 have GM: ∀(q:Nat) (p:Nat×Nat×TypeId) (id s l:Nat),m[q]?=some p→v.cellAt p.1 p.2.1= .bJ id s l→(dd v m)[q]?=some (some id):=by
  intro q p id s l hq rX;unfold dd;rw[List.getElem?_map,hq];simp[rX,V.src]
 refine⟨?_,?_,?_⟩
 ·unfold oO;rw[Iq Ug hF2];refine Lw hr fun i j c x rX hx=> ?_;rw[p9 m n];cases hm:iz 0 m i j with
  |none=>
   simp only[Option.map_none,gh,hm];split
   ·rename_i c' wv;exact((X8 c c' x wv hx).ext Ext.free).fo
   ·simp[aV]
  |some y=>
   obtain⟨q,t⟩:=y;simp only[Option.map_some,gh,hm];obtain⟨hq0,hq⟩:=oD hm;simp only[Nat.sub_zero]at hq;cases zA:rowAt X hc rW t c with
   |none=>simp[aV]
   |some es=>
    simp only;rcases di t c es zA with⟨rfl,rfl⟩|⟨id,s,l,ob,Sh,rfl,cy,hk,nH,uI,zg,hd⟩
    ·exact CB rfl hx
    ·simp only[aV]at hx⊢;obtain⟨a,cap,rfl,h1,h2,h3⟩:=hx;refine⟨a,cap,by rw[uI],by rw[uI];exact h1,h2,?_⟩;rcases h3 with h3|⟨b,o,k,c',el,fz,eN,ha,hb,hle⟩
     ·exact .inl h3
     ·refine .inr ⟨b,o+s*k,k,c',el,fz,?_,by rw[ha];simp,hb,by
       have:(s+cap)*k=s*k+cap*k:=Nat.add_mul ..;rw[Nat.zero_add];omega⟩
      rw[Nat.add_comm q n,hσ q (CC q _ hq)];unfold Ly;rw[hq];simp only[rX,eN]
 ·intro kp q p ob hq hO;unfold tS at hO;split at hO
  case h_2=>cases hO
  rename_i cc es rX;simp only[aa]at hO;subst hO;obtain⟨q',t,hm⟩:=X9 q p hq;have zA:=Si q p cc es hq rX q' t hm;have ako: ∃t',rowAt X hc rW t' (v.cellAt p.1 p.2.1)=some es:=⟨t,zA⟩;refine⟨?_,fun b o k eN=> ?_⟩
  ·rcases di t _ es zA with⟨uV,rfl⟩|⟨id,s,l,ob,Sh,uV,cy,hk,nH,uI,zg,hd⟩
   ·left;refine⟨rfl,?_⟩;rw[hσ q (CC q p hq)];unfold Ly;rw[hq];simp only[uV]
   ·rcases R.obj id ob cy with⟨he,xe⟩|⟨b,o,c,el,eN,hi,hb,hle,Pt⟩
    ·left;refine⟨?_,?_⟩
     ·have:l=0:=by rw[he]at nH;simp at nH;omega
      rw[this]at uI;exact List.eq_nil_of_length_eq_zero uI
     ·rw[hσ q (CC q p hq)];unfold Ly;rw[hq];simp only[uV,xe]
    ·right;have xK:=GM q p id s l hq uV;obtain⟨_,B3⟩:=oD hm;simp only[Nat.sub_zero]at B3;have hqq:q=q':=rV P5 xK (GM q' _ id s l B3 uV);subst hqq;rw[hq]at B3;simp only[aa]at B3;have ht:p.2.2=t:=by rw[B3]
     have tT:(X.ti p.2.2).size=ob.k:=by rw[ht];exact hk.symm
     have adu:σ0 (n+q)=some (b,o+s*ob.k,ob.k):=by
      rw[hσ q (CC q p hq)];unfold Ly;rw[hq];simp only[uV,eN]
     refine⟨b,o+s*ob.k,c,el,by rw[tT];exact adu,fun hj=> ?_,hb,?_,?_⟩
     ·rcases hJ3 b hj with hx|⟨i2,ob2,o2,k2,h1,h2⟩
      ·exact hi hx
      ·have h3:=Sg _ _ h1;have:i2=id:=R.apart i2 id ob2 ob b o2 k2 o ob.k h3.1 cy h2 eN;subst this;exact h3.2 (List.mem_of_getElem? xK)
     ·rw[tT,uI];have e1:(s+l)*ob.k≤ob.es.length*ob.k:=Nat.mul_le_mul_right _ nH;have e2:(s+l)*ob.k=s*ob.k+l*ob.k:=Nat.add_mul ..;show o+s*ob.k+l*ob.k≤c.size;omega
     ·rw[tT];have R9:=((Pt.jc (Ext.xd ob.bZ) rfl).Gx s l);have hr2:=(P4 GL X5 WV zg R9).2;rw[hd];exact(bw.iQ _ _ _ _ hr2).jc Ext.free rfl
  ·obtain⟨id,s,l,o',xM,jV,rfl⟩:=Ya q p hq b o k eN;rcases di t _ es zA with⟨uV,_⟩|⟨iI,s',l',ob,Sh,uV,cy,_⟩
   ·rw[uV]at xM;cases xM
   ·rw[uV]at xM;simp only[V.bJ.injEq]at xM;obtain⟨rfl,rfl,rfl⟩:=xM;exact⟨iI,List.mem_of_getElem? (GM q p iI s' l' hq uV),ob,o',k,cy,jV⟩
 ·intro q q' b o k o' k' hq B3 eN wA e1 e2;have hp:m[q]?=some m[q]:=List.getElem?_eq_getElem hq;have hp':m[q']?=some m[q']:=List.getElem?_eq_getElem B3;have get: ∀(q:Nat) (p:Nat×Nat×TypeId) (b o k:Nat),m[q]?=some p→σ0 (n+q)=some (b,o,k)→(∃kp ob,(m[q]?).bind (tS X kp (pV (gh X hc rW m) v))=some ob)→ ∃id ob o',(dd v m)[q]?=some (some id)∧hc id=some ob∧σc id=some (b,o',k):=by
   intro q p b o k hq eN hO;obtain⟨kp,ob,hO⟩:=hO;rw[hq]at hO;simp only[Option.bind_some]at hO;unfold tS at hO;split at hO
   case h_2=>cases hO
   rename_i cc es rX;obtain⟨q',t,hm⟩:=X9 q p hq;have zA:=Si q p cc es hq rX q' t hm;obtain⟨id,s,l,o',xM,jV,rfl⟩:=Ya q p hq b o k eN;rcases di t _ es zA with⟨uV,_⟩|⟨iI,s',l',ob,Sh,uV,cy,_⟩
   ·rw[uV]at xM;cases xM
   ·rw[uV]at xM;simp only[V.bJ.injEq]at xM;obtain⟨rfl,rfl,rfl⟩:=xM;exact⟨iI,ob,o',GM q p iI s' l' hq uV,cy,jV⟩
  obtain⟨id,ob,o1,g1,g2,g3⟩:=get q _ b o k hp eN e1;obtain⟨iI,ja,o1',Sj,g2',g3'⟩:=get q' _ b o' k' hp' wA e2;have:id=iI:=R.apart id iI ob ja b o1 k o1' k' g2 g2' g3 g3';subst this;exact rV P5 g1 Sj
end
theorem uW{w:World}{σ:dK}: ∀{vs uX:List V} {I:Nat→Prop} {h h':aG} {us:List Value},Rel w I σ h→cI w I σ vs us→kq h vs=some (uX,h')→ ∀n:Nat,
  ∃I',Step w I σ h n w I' σ h' n∧cI w I' cC uX us∧(∀id ob,h' id=some ob→h id=some ob)
 | [],uX,I,h,h',us,R,hr,hg,n=>by
  simp only[kq,aa,ax]at hg;obtain⟨rfl,rfl⟩:=hg;exact⟨I,Step.refl R n,by simpa[cI] using hr,fun _ _ hh=>hh⟩
 |c::ps,uX,I,h,h',us,R,hr,hg,n=>by
  simp only[cI]at hr;obtain⟨u,r,rfl,h2,h3⟩:=hr;simp only[kq]at hg;cases hc:kE h c with
  |none=>simp[hc]at hg
  |some x=>
   obtain⟨c',rQ⟩:=x;simp only[hc]at hg;cases hl:kq rQ ps with
   |none=>simp[hl]at hg
   |some y=>
    obtain⟨cs1,BZ⟩:=y;simp only[hl,aa,ax]at hg;obtain⟨rfl,rfl⟩:=hg;obtain⟨I1,s1,r1,zm⟩:=xk R h2 hc n;have XN:cI w I1 σ ps r:=cI.ext' _ r s1.ext h3;obtain⟨I2,s2,r2,K7⟩:=uW s1.rel XN hl n;refine⟨I2,s1.trans s2,?_,fun id ob hh=>zm _ _ (K7 _ _ hh)⟩;simp only[cI];exact⟨u,r,rfl,r1.ext s2.ext.AY,r2⟩
def nO(n:Nat)(σ σc:dK)(v:V)(m:Mask):dK:=fun id=>if id<n then σ id else Ly σc v m (id-n)
theorem xN{n:Nat}{σ σc:dK}{v:V}{m:Mask}(q:Nat):nO n σ σc v m (n+q)=Ly σc v m q:=by
 unfold nO;rw[if_neg (by omega),Nat.add_sub_cancel_left]
theorem LA {X:Env} {C:dH} (hC:k8 X C) {aP:FuncId} {dst:Option Nat} {g:FuncId} {args:List V} {S S1:St} (he:iA X C aP dst g args S=some S1)
  {w:World} {I:Nat→Prop} {σ:dK} (R:Rel w I σ S.h) (F:gO σ S.h S.n) (us:Array Value) (hr:cI w I σ args us.toList):
  Calls X.P g us w fun e w'=> ∃u v I' σ',e= .returned u∧Step w I σ S.h S.n w' I' σ' S1.h S1.n∧S1.f=(S.set dst v).f∧aV w' I' σ' v u:=by
 unfold iA at he;generalize dst.elim [] (X.mask aP)=m at he;split at he
 case h_2=>cases he
 rename_i auj h1 hg;split at he
 case h_2=>cases he
 rename_i v hc k' mX;split at he
 case h_2=>cases he
 rename_i r hR;simp only[aa]at he;subst he;obtain⟨I1,s1,r1,zm⟩:=uW R hr hg S.n;have F1:gO σ h1 S.n:=s1.fresh F;refine Calls.mono (hC g auj fu 0 v hc k' mX w I1 cC us (Rel.fu s1.rel.cT s1.rel.sE) (fun _ _=>⟨rfl,rfl⟩) r1) fun e w' hh=> ?_;obtain⟨u,I',σc,rfl,_,s,_,ik⟩:=hh;have oQ: ∀b,dF σc (cP hc (dd v m)) b→dF σc hc b:=fun b ⟨i,ob,o,k,g1,g2⟩=>⟨i,ob,o,k,(fO g1).1,g2⟩;obtain⟨q1,q2,q3⟩:=xJ s.rel ik (rW:=cP hc (dd v m)) (fun id ob h=>fO h) hR (n:=S.n) (σ0:=nO S.n σ σc v m) (J:=fun b=>I' b∨dF σc (cP hc (dd v m)) b) (fun b hb=> .inl hb) (fun b hb=> .inr hb) (fun b hb=>hb) (fun q _=>xN q);have Ey: ∀id ob,S.n≤id→qC X (X.dX aP) r S.n m h1 id=some ob→ ∃q p,id=S.n+q∧m[q]?=some p∧tS X (X.dX aP) r p=some ob:=by
  intro id ob bV ho;rw[jK]at ho;split at ho
  ·rename_i hi;cases hq:m[id-S.n]? with
   |none=>rw[hq]at ho;cases ho
   |some p=>
    rw[hq]at ho;exact⟨id-S.n,p,by omega,hq,ho⟩
  ·rw[(F1 id bV).1]at ho;cases ho
 have st:Step w I σ S.h S.n w' (fun b=>I' b∨dF σc (cP hc (dd v m)) b) (nO S.n σ σc v m) (qC X (X.dX aP) r S.n m h1) (S.n+m.length):=by
  refine Step.call (x:=S.n) R F (fun _ _ h=>h) s1 zm s (fun b hb=>absurd hb kI) (fun b hb=> .inl hb) (fun b hb=> ?_) (fun id bV=> ?_) (fun id bV _=> ?_) (fun ob jw=>by omega) (by omega) (fun id bV=>⟨?_,?_⟩) (fun id ob bV ho=> ?_) (fun id iI ob ja b o k o' k1 bV p8 ho sF eN wA=> ?_)
  ·rcases hb with hb|hb
   ·exact .inl hb
   ·exact .inr (oQ b hb)
  ·simp[nO,bV]
  ·rw[jK,if_neg (by omega)]
  ·unfold nO;rw[if_neg (by omega)];unfold Ly;rw[List.getElem?_eq_none (by omega)]
  ·rw[jK,if_neg (by omega)];exact(F1 id (by omega)).1
  ·obtain⟨q,p,rfl,hq,hO⟩:=Ey id ob bV ho;obtain⟨g1,g2⟩:=q2 _ q p ob hq hO;refine⟨g1,fun b o k eN=>⟨?_,fun jw=>by omega⟩⟩;obtain⟨i,_,ja,o',k',h3,h4⟩:=g2 b o k eN;rcases s.own b ⟨i,ja,o',k',h3,h4⟩ with hx|hx
   ·exact .inl hx
   ·exact absurd hx kI
  ·obtain⟨q,p,rfl,hq,hO⟩:=Ey id ob bV ho;obtain⟨q',p',rfl,B3,Uh⟩:=Ey iI ja p8 sF;have:=q3 q q' b o k o' k1 (List.getElem?_eq_some_iff.1 hq).1 (List.getElem?_eq_some_iff.1 B3).1 eN wA ⟨_,ob,by rw[hq];exact hO⟩ ⟨_,ja,by rw[B3];exact Uh⟩;omega
 refine⟨u,_,_,_,rfl,?_,lQ _ _ _ _ rfl,q1⟩;rw[ck,cZ];exact st
theorem Ez{w:World}{I:Nat→Prop}{σ:dK}: ∀(cs:List V) (b o:Nat),uH w I σ cs b o→ ∃us:List Value,bS w I σ cs us∧ ∀(j:Nat) x,us[j]?=some x→w.cell? ⟨b,o+j,none⟩=some x:=by
 intro cs b;induction cs with
 |nil=>intro o _;exact⟨[],by simp[bS],by simp⟩
 |cons c cs ih=>
  intro o uL;obtain⟨u,g1,g2,g3⟩:=uL 0 c (by simp);obtain⟨us,g4,g5⟩:=ih (o+1) fun j c' hj=>by
   have:=uL (j+1) c' (by simpa using hj);rwa[show o+(j+1)=o+1+j by omega]at this
  refine⟨u::us,by simp only[bS];exact⟨u,us,rfl,g2,g3,g4⟩,fun j x hj=> ?_⟩;cases j with
  |zero=>simp at hj;subst hj;exact g1
  |succ j=>
   have:=g5 j x (by simpa using hj);rwa[show o+1+j=o+(j+1) by omega]at this
theorem CD{w:World}{I:Nat→Prop}{σ:dK}{e:V}{b o:Nat}(h:uH w I σ e.cells b o): ∃ue:Value,aV w I σ e ue∧
  ∀{J:Nat→Prop} {σ':dK} {e':V},aV w J σ' e' ue→((∃cs,e= .agg cs)→ ∃cs,e'= .agg cs)→e'.cells.length=e.cells.length∧uH w J σ' e'.cells b o:=by
 obtain⟨uc,Sd,xK⟩:=Ez e.cells b o h;have KD:e.cells.length=uc.length:=((bH _ _).1 Sd).1;have fin: ∀{J:Nat→Prop} {σ':dK} {e':V},bS w J σ' e'.cells uc→e'.cells.length=e.cells.length∧uH w J σ' e'.cells b o:=by
  intro J σ' e' hsh;have XQ:e'.cells.length=uc.length:=((bH _ _).1 hsh).1;refine⟨by rw[XQ,KD],fun j c' hj=> ?_⟩;have hju:j<uc.length:=by rw[←XQ];exact(List.getElem?_eq_some_iff.1 hj).1
  have hg2:=((bH _ _).1 hsh).2 j c' uc[j] hj (by simp);exact⟨uc[j],xK j _ (by simp),hg2.1,hg2.2⟩
 by_cases hx: ∃cs,e= .agg cs
 ·obtain⟨cs,rfl⟩:=hx;refine⟨.agg uc.toArray,?_,fun{J σ' e'} hr ha=> ?_⟩
  ·simp only[aV];exact⟨_,rfl,by rw[List.toList_toArray];exact Sd⟩
  ·obtain⟨lH,rfl⟩:=ha ⟨cs,rfl⟩;refine fin ?_;simp only[aV]at hr;obtain⟨uJ,hz,hy⟩:=hr;simp only[Value.agg.injEq]at hz;subst hz;simpa[V.cells] using hy
 ·have Cf: ∀cs,e≠ .agg cs:=fun cs e=>hx ⟨cs,e⟩;rw[hX Cf]at Sd;simp only[bS]at Sd;obtain⟨ue,rr,rfl,g1,g2,rfl⟩:=Sd;refine⟨ue,g2,fun{J σ' e'} hr _=> ?_⟩;refine fin ?_;have P2: ∀cs,e'≠ .agg cs:=by
   intro cs Pp;subst Pp;simp only[aV]at hr;obtain⟨uJ,rfl,_⟩:=hr;simp[Value.oneCell']at g1
  rw[hX P2];simp only[bS];exact⟨ue,[],rfl,g1,hr,rfl⟩
theorem xO(F:Nat→Nat→V→V){v:V}(h: ∃cs,v= .agg cs): ∃cs,pV F v= .agg cs:=by
 obtain⟨cs,rfl⟩:=h;exact⟨_,rfl⟩
theorem Ui {X:Env} {C:dH} (hC:k8 X C) {aP:FuncId} {dst:Option Nat} {g:FuncId} {args:List V} {S S1:St} (pW:X.dP g=true) (he:oP X C aP dst g args S=some S1)
  {w:World} {I:Nat→Prop} {σ:dK} (R:Rel w I σ S.h) (F:gO σ S.h S.n) (us:Array Value) (hr:cI w I σ args us.toList):
  Calls X.P g us w fun e w'=> ∃u v I' σ',e= .returned u∧Step w I σ S.h S.n w' I' σ' S1.h S1.n∧S1.f=(S.set dst v).f∧aV w' I' σ' v u:=by
 unfold oP at he;generalize hM:lS X aP dst g=M at he;split at he
 case h_2=>cases he
 rename_i id rest;split at he
 case h_2=>cases he
 rename_i ob cy;split at he
 case h_2=>cases he
 rename_i e EA;split at he
 case isFalse=>cases he
 rename_i LB;split at he
 case h_2=>cases he
 rename_i Ro WX;split at he
 case h_2=>cases he
 rename_i auj h1 hg;split at he
 case h_2=>cases he
 rename_i v hc k' mX;split at he
 case h_2=>cases he
 rename_i kk r rs sL;simp only[aa]at he;subst he;simp only[cI]at hr;obtain⟨u0,r0,WY,LC,Yb⟩:=hr;have Uj:id<S.n:=by
  rcases Nat.lt_or_ge id S.n with hh|hh
  ·exact hh
  ·rw[(F id hh).1]at cy;cases cy
 obtain⟨b,o,c,el,eN,hbi,hhb,hle,di⟩: ∃b o c el,σ id=some (b,o,ob.k)∧ ¬I b∧fq w b c el∧o+ob.es.length*ob.k≤c.size∧bw w I (gE ob.bZ σ) ob.es ob.k b o:=by
  rcases R.obj id ob cy with⟨hx,_⟩|hx
  ·rw[EA]at hx;cases hx
  ·exact hx
 have LD:bw w I σ [e] ob.k b o:=by
  rw[←EA];exact di.jc (Ext.xd ob.bZ) rfl
 have Yc:e.cells.length=ob.k∧uH w I σ e.cells b o:=by
  rw[fp]at LD;exact⟨LD.1,LD.2.1⟩
 have jw:b<w.heap.size:=R.gm ⟨id,ob,o,ob.k,cy,eN⟩;generalize hom:X.dI g=om at*;have P6: ∀{l:List (Option Nat)} {h:aG} {i:Nat},some i∈l→cP h l i=none:=fun{l h i} hm=>by
  cases hz:cP h l i with
  |none=>rfl
  |some y=>exact absurd hm (fO hz).2
 have Il: ∀i y,aS S.h id none i=some y→i≠id∧S.h i=some y:=by
  intro i y hy;by_cases ei:i=id
  ·subst ei;simp[aS]at hy
  ·exact⟨ei,by simpa[aS,ei] using hy⟩
 have P7: ∀i y,cP (aS S.h id none) (dd e om) i=some y→S.h i=some y:=fun i y hy=>(Il i y (fO hy).1).2;have Uk:cP (aS S.h id none) (dd e om) id=none:=by
  cases hz:cP (aS S.h id none) (dd e om) id with
  |none=>rfl
  |some y=>exact absurd rfl (Il id y (fO hz).1).1
 obtain⟨I1,s1,r1,zm⟩:=uW (R.sub P7) Yb hg S.n;have hnK: ∀i y b o k,S.h i=some y→σ i=some (b,o,k)→cP (aS S.h id none) (dd e om) i=none→ ¬dF σ (cP (aS S.h id none) (dd e om)) b:=by
  rintro i y b o k h2 h3 h4 ⟨i2,y2,o2,k2,g1,g2⟩;have:i2=i:=R.apart i2 i y2 y b o2 k2 o k (P7 _ _ g1) h2 g2 h3;subst this;rw[h4]at g1;cases g1
 have xP: ∀i y b o k,S.h i=some y→σ i=some (b,o,k)→cP (aS S.h id none) (dd e om) i=none→ ¬I1 b:=by
  intro i y b o k h2 h3 h4 hx;rcases s1.pn b hx with hy|hy|hy
  ·exact(R.owned ⟨i,y,o,k,h2,h3⟩).1 hy
  ·have:=R.gm ⟨i,y,o,k,h2,h3⟩;omega
  ·exact hnK i y b o k h2 h3 h4 hy
 have ady: ¬I1 b:=xP id ob b o ob.k cy eN Uk;obtain⟨ue,P1,Yd⟩:=CD Yc.2;obtain⟨p1,p2,p3⟩:=xJ (R.kill id) P1 (rW:=fun _=>none) (fun _ _ h=>by cases h) WX (n:=1) (σ0:=nO 1 (fun _=>σ id) σ e om) (J:=I) (fun b hb=>hb) (fun b hb=>by
  obtain⟨_,_,_,_,h,_⟩:=hb;cases h) (fun b hb=> .inl hb) (fun q _=>xN q)
 have EI: ∀τ:dK,Ext w I τ w I1 τ:=fun τ=>⟨fun _ _=>rfl,fun _ c _ fz hh=>⟨c,fz,hh,rfl⟩,s1.ext.imp,fun _ _ hh=>hh⟩;have Ul: ∀(q:Nat) (p:Nat×Nat×TypeId) (y:Ob),om[q]?=some p→tS X (X.dX g) Ro p=some y→ ∀b' o' k1,nO 1 (fun _=>σ id) σ e om (1+q)=some (b',o',k1)→ ∃i y',i≠id∧S.h i=some y'∧cP (aS S.h id none) (dd e om) i=none∧ ∃o2 k2,σ i=some (b',o2,k2):=by
  intro q p y hq hO b' o' k1 jV;obtain⟨i,xK,y',o2,k2,g1,g2⟩:=(p2 _ q p y hq hO).2 b' o' k1 jV;exact⟨i,y',(Il i y' g1).1,(Il i y' g1).2,P6 xK,o2,k2,g2⟩
 have Ae: ∀i y,jB X g ob.k Ro i=some y→(i=0∧y=⟨ob.k,[oO 1 om Ro],true⟩)∨ ∃q p,i=1+q∧om[q]?=some p∧tS X (X.dX g) Ro p=some y:=by
  intro i y hy;unfold jB at hy;rw[hom]at hy;rw[jK]at hy;split at hy
  ·rename_i hi;right;cases hq:om[i-1]? with
   |none=>rw[hq]at hy;cases hy
   |some p=>
    rw[hq]at hy;exact⟨i-1,p,by omega,hq,hy⟩
  ·left;simp only[aS]at hy;split at hy
   ·rename_i e0;simp only[aa]at hy;exact⟨e0,hy.symm⟩
   ·cases hy
 have CF:nO 1 (fun _=>σ id) σ e om 0=some (b,o,ob.k):=by simp[nO,eN]
 have Sk:(oO 1 om Ro).cells.length=ob.k∧uH w I1 (nO 1 (fun _=>σ id) σ e om) (oO 1 om Ro).cells b o:=by
  have Lo:(∃cs,e= .agg cs)→ ∃cs,oO 1 om Ro= .agg cs:=fun h=>by
   unfold tR at WX;split at WX
   case isFalse=>cases WX
   simp only[aa]at WX;rw[←WX];exact xO _ (xO _ h)
  obtain⟨g1,g2⟩:=Yd (p1.ext (EI _)) Lo;exact⟨by rw[g1];exact Yc.1,g2⟩
 have PY:o+ [e].length*ob.k≤c.size:=by rw[EA]at hle;simpa using hle
 have Rs:Rel w I1 (nO 1 (fun _=>σ id) σ e om) (jB X g ob.k Ro):=by
  refine⟨s1.rel.cT,fun i y hy=> ?_,fun i i' y y' b1 o1 k1 o2 k2 g1 g2 g3 g4=> ?_,s1.rel.sE⟩
  ·rcases Ae i y hy with⟨rfl,rfl⟩|⟨q,p,rfl,hq,hO⟩
   ·refine .inr ⟨b,o,c,el,CF,ady,hhb,by simpa using PY,?_⟩;simp only[gE,if_true];rw[fp];exact⟨Sk.1,Sk.2,by simp[bw]⟩
   ·rcases(p2 _ q p y hq hO).1 with hx|⟨b',o',c',Eh,g1,g2,g3,g4,g5⟩
    ·exact .inl hx
    ·obtain⟨i,y',_,k1,k2,o2,k3,k4⟩:=Ul q p y hq hO b' o' y.k g1;exact .inr ⟨b',o',c',Eh,g1,xP i y' b' o2 k3 k1 k4 k2,g3,g4,g5.jc ((EI _).kW _) rfl⟩
  ·have Sl: ∀q p y b1 o1 k1 o2 k2,om[q]?=some p→tS X (X.dX g) Ro p=some y→nO 1 (fun _=>σ id) σ e om (1+q)=some (b1,o1,k1)→nO 1 (fun _=>σ id) σ e om 0=some (b1,o2,k2)→False:=by
    intro q p y b1 o1 k1 o2 k2 hq hO h3 h4;obtain⟨i,y',eZ,m1,m2,o3,k3,m4⟩:=Ul q p y hq hO b1 o1 k1 h3;rw[CF]at h4;simp only[aa,ax]at h4;obtain⟨rfl,_,_⟩:=h4;exact eZ (R.apart i id y' ob b o3 k3 o ob.k m1 cy m4 eN)
   rcases Ae i y g1 with⟨rfl,rfl⟩|⟨q,p,rfl,hq,hO⟩
   ·rcases Ae i' y' g2 with⟨rfl,rfl⟩|⟨q',p',rfl,B3,Uh⟩
    ·rfl
    ·exact(Sl q' p' y' b1 o2 k2 o1 k1 B3 Uh g4 g3).elim
   ·rcases Ae i' y' g2 with⟨rfl,rfl⟩|⟨q',p',rfl,B3,Uh⟩
    ·exact(Sl q p y b1 o1 k1 o2 k2 hq hO g3 g4).elim
    ·have:=p3 q q' b1 o1 k1 o2 k2 (List.getElem?_eq_some_iff.1 hq).1 (List.getElem?_eq_some_iff.1 B3).1 g3 g4 ⟨_,y,by rw[hq];exact hO⟩ ⟨_,y',by rw[B3];exact Uh⟩;omega
 have Fs:gO (nO 1 (fun _=>σ id) σ e om) (jB X g ob.k Ro) (1+om.length):=fun i hi=>by
  refine⟨?_,?_⟩
  ·cases hz:jB X g ob.k Ro i with
   |none=>rfl
   |some y=>
    rcases Ae i y hz with⟨rfl,rfl⟩|⟨q,p,rfl,hq,hO⟩
    ·omega
    ·have:=(List.getElem?_eq_some_iff.1 hq).1;omega
  ·unfold nO;rw[if_neg (by omega)];unfold Ly;rw[List.getElem?_eq_none (by omega)]
 have ee:cI w I1 (nO 1 (fun _=>σ id) σ e om) (.ptr 0 0 0::auj) us.toList:=by
  rw[WY];simp only[cI];refine⟨u0,r0,rfl,?_,cI.ext' _ _ Ext.free r1⟩;simp only[aV]at LC⊢;obtain⟨b',o',k1,g1,g2⟩:=LC;rw[eN]at g1;simp only[aa,ax]at g1;obtain⟨rfl,rfl,rfl⟩:=g1;exact⟨b,o,ob.k,CF,by rw[g2]⟩
 refine Calls.mono (hC g (.ptr 0 0 0::auj) (jB X g ob.k Ro) (1+om.length) v hc k' mX w I1 _ us Rs Fs ee) fun ex w' hh=> ?_;obtain⟨u,I',σc,rfl,_,s0,_,ik⟩:=hh;have s:oR 1 w I1 (nO 1 (fun _=>σ id) σ e om) (jB X g ob.k Ro) w' I' σc hc:=s0.less (by unfold B2;rw[if_pos pW];split<;>omega);have hσc:σc 0=some (b,o,ob.k):=by rw[s.sigs 0 (by omega)];exact CF
 unfold wX at sL;split at sL
 case h_2=>cases sL
 rename_i ja Ir;split at sL
 case h_2=>cases sL
 rename_i e' Um;split at sL
 case isFalse=>cases sL
 rename_i hkp;split at sL
 case h_2=>cases sL
 rename_i r' Pu hR;simp only[aa,ax]at sL;obtain⟨rfl,rfl,rfl⟩:=sL;obtain⟨c',Eh,ad0,ad1,wm,qy⟩: ∃c' Eh,¬I' b∧fq w' b c' Eh∧o+ [e'].length*ja.k≤c'.size∧bw w' I' σc [e'] ja.k b o:=by
  rcases s.rel.obj 0 ja Ir with⟨hx,_⟩|⟨b2,o2,c2,el2,g1,g2,g3,g4,g5⟩
  ·rw[Um]at hx;cases hx
  ·rw[hσc]at g1;simp only[aa,ax]at g1;obtain⟨rfl,rfl,_⟩:=g1;rw[Um]at g4 g5;exact⟨c2,el2,g2,g3,g4,g5.jc (Ext.xd ja.bZ) rfl⟩
 have mI:ja.k=ob.k:=by
  rcases s.rel.obj 0 ja Ir with⟨hx,_⟩|⟨b2,o2,c2,el2,g1,_⟩
  ·rw[Um]at hx;cases hx
  ·rw[hσc]at g1;simp only[aa,ax]at g1;exact g1.2.2.symm
 have Sm:e'.cells.length=ja.k∧uH w' I' σc e'.cells b o:=by
  rw[fp]at qy;exact⟨qy.1,qy.2.1⟩
 obtain⟨Ye,Yf,Un⟩:=CD Sm.2;have pz: ∃uu,aV w' I' σc (kU e' v) uu∧ ∀(J:Nat→Prop) (σ':dK) (x:V) (T:List V),aV w' J σ' (.cg (x::T)) uu→aV w' J σ' x Ye∧aV w' J σ' (su v T) u:=by
  by_cases hv: ∃vs,v= .cg vs
  ·obtain⟨vs,rfl⟩:=hv;simp only[aV]at ik;obtain⟨uJ,rfl,hl⟩:=ik;refine⟨.tuple (Ye::uJ.toList).toArray,?_,fun J σ' x T h=> ?_⟩
   ·simp only[kU,aV,cI];exact⟨_,rfl,Ye,uJ.toList,by simp,Yf,hl⟩
   ·simp only[aV,cI]at h;obtain⟨PX,h1,u2,r2,h2,h3,h4⟩:=h;simp only[Value.tuple.injEq]at h1;subst h1;simp only[List.cons.injEq]at h2;obtain⟨rfl,rfl⟩:=h2;refine⟨h3,?_⟩;simp only[su,aV];exact⟨uJ,rfl,h4⟩
  ·have Ad: ∀vs,v≠ .cg vs:=fun vs h=>hv ⟨vs,h⟩;have e1:kU e' v= .cg [e',v]:=by cases v<;>first|rfl|exact absurd rfl (Ad _)
   have e2: ∀T,su v T=T.headD .bad:=by intro T;cases v<;>first|rfl|exact absurd rfl (Ad _)
   refine⟨.tuple #[Ye,u],?_,fun J σ' x T h=> ?_⟩
   ·rw[e1];simp only[aV,cI];exact⟨_,rfl,Ye,[u],rfl,Yf,u,[],rfl,ik,rfl⟩
   ·simp only[aV,cI]at h;obtain⟨PX,h1,u2,r2,h2,h3,h4⟩:=h;simp only[Value.tuple.injEq]at h1;subst h1;simp only[List.cons.injEq]at h2;obtain⟨rfl,rfl⟩:=h2;refine⟨h3,?_⟩;rw[e2];cases T with
    |nil=>simp[aV]
    |cons y T=>
     simp only[cI]at h4;obtain⟨u3,r3,h5,h6,_⟩:=h4;simp only[List.cons.injEq]at h5;obtain⟨rfl,_⟩:=h5;exact h6
 obtain⟨uu,huu,Lm⟩:=pz;have Uo:tR X (aS hc 0 none) (cP (aS hc 0 none) (dd (kU e' v) M)) (kU e' v) M=some (.cg (r'::Pu)):=hR;obtain⟨q1,q2,q3⟩:=xJ (s.rel.kill 0) huu (rW:=cP (aS hc 0 none) (dd (kU e' v) M)) (fun _ _ h=>fO h) Uo (n:=S.n) (σ0:=nO S.n σ σc (kU e' v) M) (J:=fun b=>I' b∨dF σc (cP (aS hc 0 none) (dd (kU e' v) M)) b) (fun b hb=> .inl hb) (fun b hb=> .inr hb) (fun b hb=>hb) (fun q _=>xN q);have hT:oO S.n M (.cg (r'::Pu))= .cg (wY (oO S.n M (.cg (r'::Pu)))::Gv (oO S.n M (.cg (r'::Pu)))):=rfl;rw[hT]at q1;obtain⟨Yg,Yh⟩:=Lm _ _ _ _ q1;have Lo:(∃cs,e'= .agg cs)→ ∃cs,wY (oO S.n M (.cg (r'::Pu)))= .agg cs:=by
  rintro⟨cs,rfl⟩;have h1: ∃rest,kU (.agg cs) v= .cg (.agg cs::rest):=by cases v<;>exact⟨_,rfl⟩
  obtain⟨rest,h1⟩:=h1;unfold tR at Uo;split at Uo
  case isFalse=>cases Uo
  rw[h1]at Uo;simp only[py,lL,mu,aa,V.cg.injEq,List.cons.injEq]at Uo;rw[←Uo.1];exact⟨_,rfl⟩
 obtain⟨kf,uL⟩:=Un Yg Lo;have Sn: ∀b',dF σc (cP (aS hc 0 none) (dd (kU e' v) M)) b'→dF σc (aS hc 0 none) b':=fun b' ⟨i,y,o1,k1,g1,g2⟩=>⟨i,y,o1,k1,(fO g1).1,g2⟩;have hJb: ¬(I' b∨dF σc (cP (aS hc 0 none) (dd (kU e' v) M)) b):=by
  rintro(hx|hx)
  ·exact ad0 hx
  ·exact s.rel.A4 Ir hσc (Sn b hx)
 have Yi: ∀i,S.n≤i→h1 i=none:=fun i hi=>by
  cases hz:h1 i with
  |none=>rfl
  |some y=>
   have:=P7 i y (zm i y hz);rw[(F i hi).1]at this;cases this
 have Ey: ∀i y,S.n≤i→qC X (X.dX aP) (.cg (r'::Pu)) S.n M (aS h1 id (some ⟨ja.k,[wY (oO S.n M (.cg (r'::Pu)))],true⟩)) i=some y→ ∃q p,i=S.n+q∧M[q]?=some p∧tS X (X.dX aP) (.cg (r'::Pu)) p=some y:=by
  intro i y bV ho;rw[jK]at ho;split at ho
  ·rename_i hi;cases hq:M[i-S.n]? with
   |none=>rw[hq]at ho;cases ho
   |some p=>
    rw[hq]at ho;exact⟨i-S.n,p,by omega,hq,ho⟩
  ·have:i≠id:=by omega
   simp only[aS,this,if_false]at ho;rw[Yi i bV]at ho;cases ho
 have st:Step w I σ S.h S.n w' (fun b=>I' b∨dF σc (cP (aS hc 0 none) (dd (kU e' v) M)) b) (nO S.n σ σc (kU e' v) M) (qC X (X.dX aP) (.cg (r'::Pu)) S.n M (aS h1 id (some ⟨ja.k,[wY (oO S.n M (.cg (r'::Pu)))],true⟩))) (S.n+M.length):=by
  refine Step.call (x:=id) R F P7 s1 zm s (fun b' qH=> ?_) (fun b hb=> .inl hb) (fun b' qH=> ?_) (fun i bV=> ?_) (fun i bV eZ=> ?_) (fun y Up hy=>⟨?_,fun b2 o2 k2 h2=> ?_,?_⟩) (by omega) (fun i bV=>⟨?_,?_⟩) (fun i y bV ho=> ?_) (fun i i' y y' b1 o1 k1 o2 k2 bV p8 ho sF lJ hs2=> ?_)
  ·obtain⟨i,y,o1,k1,g1,g2⟩:=qH;rcases Ae i y g1 with⟨rfl,rfl⟩|⟨q,p,rfl,hq,hO⟩
   ·rw[CF]at g2;simp only[aa,ax]at g2;obtain⟨rfl,_,_⟩:=g2;exact⟨⟨id,ob,o,ob.k,cy,eN⟩,hnK id ob b o ob.k cy eN Uk⟩
   ·obtain⟨i2,y2,_,m1,m2,o3,k3,m4⟩:=Ul q p y hq hO b' o1 k1 g2;exact⟨⟨i2,y2,o3,k3,m1,m4⟩,hnK i2 y2 b' o3 k3 m1 m4 m2⟩
  ·rcases qH with hx|hx
   ·exact .inl hx
   ·exact .inr (Sn b' hx).Ek
  ·simp[nO,bV]
  ·rw[jK,if_neg (by omega)];simp[aS,eZ]
  ·rw[cy];simp
  ·rw[eN]at h2;simp only[aa,ax]at h2;obtain⟨rfl,_,_⟩:=h2;exact hnK id ob b o ob.k cy eN Uk
  ·rw[jK,if_neg (by omega)]at hy;simp[aS]at hy;subst hy;refine .inr ⟨b,o,c',Eh,?_,hJb,ad1,by simpa using wm,?_⟩
   ·unfold nO;rw[if_pos Uj,eN,mI]
   ·simp only[gE,if_true];rw[fp];exact⟨by rw[kf];exact Sm.1,uL,by simp[bw]⟩
  ·unfold nO;rw[if_neg (by omega)];unfold Ly;rw[List.getElem?_eq_none (by omega)]
  ·rw[jK,if_neg (by omega)];have eZ:i≠id:=by omega
   simp only[aS,eZ,if_false];exact Yi i (by omega)
  ·obtain⟨q,p,rfl,hq,hO⟩:=Ey i y bV ho;refine⟨(q2 _ q p y hq hO).1,fun b2 o2 k2 jV=> ?_⟩;obtain⟨i2,_,y2,o3,k3,h3,h4⟩:=(q2 _ q p y hq hO).2 b2 o2 k2 jV;have hi0:i2≠0:=fun ei=>by subst ei;simp[aS]at h3
   have h3':hc i2=some y2:=by simpa[aS,hi0] using h3
   refine⟨s.own b2 ⟨i2,y2,o3,k3,h3',h4⟩,fun _ o4 k4 h5=> ?_⟩;rw[eN]at h5;simp only[aa,ax]at h5;obtain⟨rfl,_,_⟩:=h5;exact hi0 (s.rel.apart i2 0 y2 ja b o3 k3 o ob.k h3' Ir h4 hσc)
  ·obtain⟨q,p,rfl,hq,hO⟩:=Ey i y bV ho;obtain⟨q',p',rfl,B3,Uh⟩:=Ey i' y' p8 sF;have:=q3 q q' b1 o1 k1 o2 k2 (List.getElem?_eq_some_iff.1 hq).1 (List.getElem?_eq_some_iff.1 B3).1 lJ hs2 ⟨_,y,by rw[hq];exact hO⟩ ⟨_,y',by rw[B3];exact Uh⟩;omega
 refine⟨u,_,_,_,rfl,?_,lQ _ _ _ _ rfl,Yh⟩;rw[ck,cZ];exact st
theorem LF {X:Env} {C:dH} (hC:k8 X C) (hK:oC X) {aP:FuncId} {dst:Option Nat} {g:FuncId} {args:List V} {S S1:St} (he:cX X C aP dst g args S=some S1)
  {w:World} {I:Nat→Prop} {σ:dK} (R:Rel w I σ S.h) (F:gO σ S.h S.n) (us:Array Value) (hr:cI w I σ args us.toList):
  Calls X.P g us w fun e w'=> ∃u v I' σ',e= .returned u∧Step w I σ S.h S.n w' I' σ' S1.h S1.n∧S1.f=(S.set dst v).f∧aV w' I' σ' v u:=by
 unfold cX at he;split at he
 ·rename_i t kf;split at he
  case h_2=>cases he
  rename_i s;split at he
  case h_2=>cases he
  rename_i es kx uI;split at he
  ·cases he
  rename_i gZ;simp only[Bool.or_eq_true,Bool.and_eq_true,Bool.not_eq_true',not_or,not_and,Bool.not_eq_false,decide_eq_true_eq,Bool.not_eq_true]at gZ;obtain⟨⟨⟨zx,hk⟩,hl⟩,hb⟩:=gZ;simp only[aa]at he;subst he;simp only[cI]at hr;obtain⟨u,r,WY,hu,rfl⟩:=hr;have:us= #[u]:=by rw[←Array.toList_inj];exact WY
  subst this;refine Calls.mono (hK.2 g t kf w I σ S.h S.n s u es kx _ R (F S.n (Nat.le_refl _)).1 (F S.n (Nat.le_refl _)).2 hu uI zx hk (wO hl) hb.1 hb.2) fun e w' hh=> ?_;obtain⟨r,σ',rfl,hs,ik⟩:=hh;exact⟨r,_,I,σ',rfl,by rw[ck,cZ];exact hs,lQ _ _ _ _ rfl,ik⟩
 ·split at he
  ·rename_i Yj;have ud:X.low g=false:=by
    simp only[Bool.and_eq_true,Bool.not_eq_true']at Yj;exact Yj.2
   split at he
   case h_2=>cases he
   rename_i v h n hc;simp only[aa]at he;subst he;refine Calls.mono (hC g args S.h S.n v h n hc w I σ us R F hr) fun e w' hh=> ?_;obtain⟨u,I',σ',rfl,hle,GI,mJ,ik⟩:=hh;rw[qR ud]at hle GI;have hs:=GI.step F mJ hle;exact⟨u,v,I',σ',rfl,by rw[ck,cZ];exact hs,lQ _ _ _ _ rfl,ik⟩
  split at he
  ·rename_i pW;exact Ui hC pW he R F us hr
  split at he
  ·exact LA hC he R F us hr
  ·split at he
   case h_2=>cases he
   rename_i auj has;split at he
   ·rename_i mw;have ud:X.low g=false:=by
     simp only[Bool.and_eq_true,Bool.not_eq_true']at mw;exact mw.2
    split at he
    case h_2=>cases he
    rename_i v h n hc;split at he
    ·cases he
    rename_i gZ;simp only[aa]at he;subst he;by_cases jJ:args.any V.qB=true
    ·have hpu:v.pu=true:=by
      simpa[jJ] using gZ
     have LG:cI w (fun b=>I b∨dF σ S.h b) cC auj us.toList:=ub has hr fun v v' u _ ht tJ=>oB R (fun b hb=> .inl hb) (fun b hb=> .inr hb) depth v v' u ht tJ;have R0:Rel w (fun b=>I b∨dF σ S.h b) cC fu:=Rel.fu (fun b hb=>by
      rcases hb with hb|hb
      ·exact R.cT b hb
      ·exact R.gm hb) (R.sE.sub fun _ hb=> .inl hb)
     refine Calls.mono (hC g (cG auj) fu S.n v h n hc w _ cC us R0 (fun _ _=>⟨rfl,rfl⟩) (cI.iQ _ _ LG)) fun e w' hh=> ?_;obtain⟨u,I',σ',rfl,hle,GI,mJ,ik⟩:=hh;rw[qR ud]at hle GI;have hs:=GI.step (fun _ _=>⟨rfl,rfl⟩) mJ hle;obtain⟨s1,s2⟩:=Step.P3 R F hs;refine⟨u,v,_,_,rfl,?_,lQ _ _ _ _ rfl,(Ud hpu ik).ext s2⟩;rw[ck,cZ];simp only[jJ,if_true];exact s1
    ·have LG:cI w I cC auj us.toList:=ub has hr fun v v' u hv ht tJ=>Lr (by
      simp only[List.any_eq_true,not_exists,not_and,Bool.not_eq_true]at jJ;exact jJ v hv) ht tJ
     refine Calls.mono (hC g (cG auj) fu S.n v h n hc w I cC us (Rel.fu R.cT R.sE) (fun _ _=>⟨rfl,rfl⟩) (cI.iQ _ _ LG)) fun e w' hh=> ?_;obtain⟨u,I',σ',rfl,hle,GI,mJ,ik⟩:=hh;rw[qR ud]at hle GI;have hs:=GI.step (fun _ _=>⟨rfl,rfl⟩) mJ hle;obtain⟨s1,s2⟩:=Step.nf R F hs;refine⟨u,v,I',_,rfl,?_,lQ _ _ _ _ rfl,ik.ext s2⟩;rw[ck,cZ];simp only[jJ,if_false,Bool.false_eq_true];exact s1
   ·split at he
    case h_2=>cases he
    rename_i v h n hc;split at he
    case h_2=>cases he
    rename_i v' Ad;split at he
    ·cases he
    rename_i gZ;simp only[aa]at he;subst he;by_cases jJ:args.any V.qB=true
    ·have hsc:v'.scalar=true:=by
      simpa[jJ] using gZ
     have LG:cI w (fun b=>I b∨dF σ S.h b) cC auj us.toList:=ub has hr fun v v' u _ ht tJ=>oB R (fun b hb=> .inl hb) (fun b hb=> .inr hb) depth v v' u ht tJ;have R0:Rel w (fun b=>I b∨dF σ S.h b) cC fu:=Rel.fu (fun b hb=>by
      rcases hb with hb|hb
      ·exact R.cT b hb
      ·exact R.gm hb) (R.sE.sub fun _ hb=> .inl hb)
     refine Calls.mono (Calls.ki hC hK.1 hc R0 (cI.iQ _ _ LG)) fun e w' hh=> ?_;obtain⟨u,I',σ',rfl,hs,ik⟩:=hh;have hrv:=oB (J:=fun b=>I' b∨dF σ' h b) hs.rel (fun b hb=> .inl hb) (fun b hb=> .inr hb) depth v v' u Ad ik;refine⟨u,v'.fo,I,σ,rfl,?_,rfl,(Et hsc hrv).fo⟩;rw[ck,cZ];exact Step.inner R hs (fun b hb=> .inl hb) (fun b hb=>hb) (fun b hb=> .inl hb) S.n
    ·have LG:cI w I cC auj us.toList:=ub has hr fun v v' u hv ht tJ=>Lr (by
      simp only[List.any_eq_true,not_exists,not_and,Bool.not_eq_true]at jJ;exact jJ v hv) ht tJ
     refine Calls.mono (Calls.ki hC hK.1 hc (Rel.fu R.cT R.sE) (cI.iQ _ _ LG)) fun e w' hh=> ?_;obtain⟨u,I',σ',rfl,hs,ik⟩:=hh;have hrv:=oB (J:=fun b=>I' b∨dF σ' h b) hs.rel (fun b hb=> .inl hb) (fun b hb=> .inr hb) depth v v' u Ad ik;refine⟨u,v'.fo,_,σ,rfl,?_,rfl,(hrv.ext Ext.free).fo⟩;rw[ck,cZ];refine Step.inner R hs (fun b hb=>hb) (fun b hb=> .inl (hs.ext.imp b hb)) (fun b hb=> ?_) S.n;rcases hb with hb|hb
     ·rcases hs.pn b hb with hx|hx|hx
      ·exact .inl hx
      ·exact .inr ⟨hx,hs.rel.cT b hb⟩
      ·exact absurd hx kI
     ·rcases hs.own b hb with hx|hx
      ·exact .inr ⟨hx,hs.rel.gm hb⟩
      ·exact absurd hx kI
end Go.Abs
