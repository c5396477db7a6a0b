/- Part of a proof: engine A20. -/
import Derived.Test.YtejohpnpnaljdaaGreatM05
set_option linter.all false
set_option maxRecDepth 20000
set_option maxHeartbeats 20000000
namespace Go.Abs
open Go
def jY(σ:gH)(h:aY)(n:Nat):Prop:= ∀id,n<=id->h id=none/\σ id=none
def ky:aY:=fun _=>none
structure rV (m:Nat) (w:World) (I:Nat->Prop) (σ:gH) (h:aY) (w':World) (I':Nat->Prop) (σ':gH) (h':aY):Prop where
 Jy: ∀b,I b->w'.heap[b]?=w.heap[b]?
 grow: ∀(b:Nat) c el fz,w.heap[b]?=some (Obj.cells c el fz)-> ∃c' fz',w'.heap[b]?=some (Obj.cells c' el fz')/\c'.size=c.size
 imp: ∀b,I b->I' b
 rel:Rel w' I' σ' h'
 os:w'.os=w.os
 tape:w'.tape=w.tape
 output:w'.output=w.output
 size:w.heap.size<=w'.heap.size
 frame: ∀b,b<w.heap.size-> ¬gm σ h b->w'.heap[b]?=w.heap[b]?
 own: ∀b,gm σ' h' b->w.heap.size<=b\/gm σ h b
 sq: ∀b,I' b->I b\/w.heap.size<=b\/gm σ h b
 sigs: ∀id,id<m->σ' id=σ id
 news: ∀id,id<m->h id=none->h' id=none
section
variable {w w1 w2 w':World} {I I1 I2 I':Nat->Prop} {σ σ1 σ2 σ':gH} {h h1 h2 h':aY} {n n' m:Nat}
theorem Step.ajx(s:Step w I σ h n w' I' σ' h' n')(hm:m<=n):rV m w I σ h w' I' σ' h':=
 ⟨s.ext.Jy,s.ext.grow,s.ext.imp,s.rel,s.os,s.tape,s.output,s.size,s.frame,s.own,s.sq,fun id dg=>s.sigs id (.inl (by omega)),fun id dg=>s.news id (.inl (by omega))⟩
theorem rV.refl(R:Rel w I σ h)(m:Nat):rV m w I σ h w I σ h:=(Step.refl R m).ajx (Nat.le_refl _)
theorem rV.trans(s:rV m w I σ h w1 I1 σ1 h1)(s':rV m w1 I1 σ1 h1 w2 I2 σ2 h2):rV m w I σ h w2 I2 σ2 h2 where
 Jy:=fun b hb=>(s'.Jy b (s.imp b hb)).trans (s.Jy b hb)
 grow:=fun b c el fz hb=>by
  obtain⟨c1,fz1,h1,e1⟩:=s.grow b c el fz hb;obtain⟨c2,fz2,h2,e2⟩:=s'.grow b c1 el fz1 h1;exact⟨c2,fz2,h2,e2.trans e1⟩
 imp:=fun b hb=>s'.imp b (s.imp b hb)
 rel:=s'.rel
 os:=s'.os.trans s.os
 tape:=s'.tape.trans s.tape
 output:=s'.output.trans s.output
 size:=Nat.le_trans s.size s'.size
 frame:=fun b hb ho=>(s'.frame b (Nat.lt_of_lt_of_le hb s.size) (fun hx=>by
  rcases s.own b hx with hx|hx
  ·omega
  ·exact ho hx)).trans (s.frame b hb ho)
 own:=fun b hb=>by
  rcases s'.own b hb with hx|hx
  ·exact .inl (Nat.le_trans s.size hx)
  ·exact s.own b hx
 sq:=fun b hb=>by
  rcases s'.sq b hb with hx|hx|hx
  ·exact s.sq b hx
  ·exact .inr (.inl (Nat.le_trans s.size hx))
  ·exact .inr (s.own b hx)
 sigs:=fun id dg=>(s'.sigs id dg).trans (s.sigs id dg)
 news:=fun id dg hz=>s'.news id dg (s.news id dg hz)
theorem rV.step(s:rV n w I σ h w' I' σ' h')(F:jY σ h n)(F':jY σ' h' n')(hn:n<=n'):Step w I σ h n w' I' σ' h' n' where
 ext:=⟨s.Jy,s.grow,s.imp,fun id x hx=>by
  by_cases dg:id<n
  ·rw[s.sigs id dg];exact hx
  ·rw[(F id (by omega)).2]at hx;cases hx⟩
 rel:=s.rel
 os:=s.os
 tape:=s.tape
 output:=s.output
 size:=s.size
 frame:=s.frame
 own:=s.own
 sq:=s.sq
 le:=hn
 sigs:=fun id dg=>by
  rcases dg with dg|dg
  ·exact s.sigs id dg
  ·rw[(F id (by omega)).2,(F' id dg).2]
 news:=fun id dg hz=>by
  rcases dg with dg|dg
  ·exact s.news id dg hz
  ·exact(F' id dg).1
end
theorem rV.less{w w':World}{I I':Nat->Prop}{σ σ':gH}{h h':aY}{m m':Nat}(s:rV m w I σ h w' I' σ' h')(hm:m'<=m):rV m' w I σ h w' I' σ' h':=
 {s with sigs:=fun id dg=>s.sigs id (by omega),news:=fun id dg=>s.news id (by omega)}
def Gt(X:Env)(g:FuncId)(k:Nat):Nat:=if X.low g=true then min (if X.eJ g=true then 1 else 0) k else k
theorem BG(X:Env)(g:FuncId):Gt X g 0=0:=by unfold Gt;split<;>simp
theorem Rw(X:Env)(g:FuncId)(k:Nat):Gt X g k<=k:=by unfold Gt;split<;>omega
theorem uC{X:Env}{g:FuncId}(h:X.low g=false)(k:Nat):Gt X g k=k:=by unfold Gt;simp[h]
def qj(X:Env)(C:iz):Prop:= ∀g args h k v h' k',C g args h k=some (v,h',k')-> ∀w I σ (us:Array Value),Rel w I σ h->jY σ h k->dU w I σ args us.toList->
 Calls X.P g us w fun e w'=> ∃u I' σ',e= .returned u/\Gt X g k<=k'/\rV (Gt X g k) w I σ h w' I' σ' h'/\jY σ' h' k'/\cC w' I' σ' v u
def rE(X:Env):Prop:= ∀g t,X.clone g=some t-> ∀w I σ h n s u es kx kp,Rel w I σ h->h n=none->σ n=none->cC w I σ s u->elems h s=some (es,kx)->s.isStr=false->(kx=true->kp=true)->
 (∀v∈es,v.cells.length=(X.ti (X.ti t).elem).size)->es.length*(X.ti (X.ti t).elem).bytes<=2^47->es.length<=2^62->
 Calls X.P g #[u] w fun e w'=> ∃r σ',e= .returned r/\Step w I σ h n w' I σ' (aO h n (some ⟨(X.ti (X.ti t).elem).size,es,kp⟩)) (n+1)/\cC w' I σ' (.bU n 0 es.length) r
section
variable {w w':World} {I I' Ic Ic' J:Nat->Prop} {σ σ' σc:gH} {h hc:aY} {n k k':Nat}
theorem Step.fresh{h':aY}{n':Nat}(s:Step w I σ h n w' I' σ' h' n')(F:jY σ h n):jY σ' h' n':=fun id dg=>by
 have:=s.le;have f:=F id (by omega);exact⟨s.news id (.inr dg) f.1,by rw[s.sigs id (.inr dg)];exact f.2⟩
theorem Rel.ky(hI: ∀b,I b->b<w.heap.size):Rel w I eA ky:=
 ⟨hI,(fun _ _ h=>by cases h),(fun _ _ _ _ _ _ _ _ _ h=>by cases h)⟩
theorem np{b:Nat}: ¬gm eA ky b:=fun⟨_,_,_,_,h,_⟩=>by cases h
theorem Rel.jJ(R:Rel w I σ h){b:Nat}(hb:gm σ h b):b<w.heap.size:=by
 obtain⟨_,c,el,hh⟩:=R.owned hb;exact(Array.getElem?_eq_some_iff.1 hh).1
theorem Step.inner(R:Rel w I σ h)(s:Step w Ic eA ky k w' Ic' σc hc k')(h1: ∀b,I b->Ic b)(h2: ∀b,I b->I' b)(h3: ∀b,I' b->I b\/(w.heap.size<=b/\b<w'.heap.size))(n:Nat):Step w I σ h n w' I' σ h n:=by
 have E:Ext w I σ w' I' σ:=⟨fun b hb=>s.ext.Jy b (h1 b hb),s.ext.grow,h2,fun _ _ hh=>hh⟩;refine⟨E,R.dG E (fun b hb=> ?_) (fun b hb=>⟨s.frame b (R.jJ hb) np,fun hi=> ?_⟩) (fun _ _=>rfl),s.os,s.tape,s.output,s.size,fun b hb _=>s.frame b hb np,fun b hb=> .inr hb,fun b hb=> ?_,Nat.le_refl _,fun _ _=>rfl,fun _ _ hn=>hn⟩
 ·rcases h3 b hb with hb|hb
  ·exact Nat.lt_of_lt_of_le (R.dy b hb) s.size
  ·exact hb.2
 ·rcases h3 b hi with hi|hi
  ·exact(R.owned hb).1 hi
  ·have:=R.jJ hb;omega
 ·rcases h3 b hb with hb|hb
  ·exact .inl hb
  ·exact .inr (.inl hb.1)
theorem G4{w1 w2:World}{I1 I2:Nat->Prop}{σ1 σ2:gH}{v:V}{u:Value}(hv:v.leaf=true)(hr:cC w1 I1 σ1 v u):cC w2 I2 σ2 v u:=by
 cases v<;>simp_all [V.leaf,cC]
theorem D5{w1 w2:World}{I1 I2:Nat->Prop}{σ1 σ2:gH}{v:V}{u:Value}(hv:v.uo=true)(hr:cC w1 I1 σ1 v u):cC w2 I2 σ2 v u:=by
 cases v with
 |agg cs=>
  simp only[cC]at hr⊢;obtain⟨us,rfl,hc⟩:=hr;refine⟨us,rfl,?_⟩;rw[dh]at hc⊢;refine⟨hc.1,fun j c u' nn hu=>⟨(hc.2 j c u' nn hu).1,G4 ?_ (hc.2 j c u' nn hu).2⟩⟩;exact List.all_eq_true.1 hv c (List.mem_of_getElem? nn)
 |_=>exact G4 hv hr
theorem J8{w1 w2:World}{I1 I2:Nat->Prop}{σ1 σ2:gH}{v:V}{u:Value}(hv:v.scalar=true)(hr:cC w1 I1 σ1 v u):cC w2 I2 σ2 v u:=by
 cases v with
 |de cs=>
  simp only[cC]at hr⊢;obtain⟨us,rfl,hc⟩:=hr;refine⟨us,rfl,?_⟩;rw[kG]at hc⊢;refine⟨hc.1,fun j c u' nn hu=>D5 ?_ (hc.2 j c u' nn hu)⟩;exact List.all_eq_true.1 hv c (List.mem_of_getElem? nn)
 |_=>exact D5 hv hr
theorem Rx{d:Nat}{v v':V}{u:Value}(ho:v.GB=false)(ht:bT h d v=some v')(Xo: ∀cs,v≠ .agg cs)(BH: ∀cs,v≠ .de cs)(hr:cC w I σ v u):cC w I eA v' u:=by
 have hv:v.oR=true/\v'=v:=by
  cases v with
  |agg cs=>exact absurd rfl (Xo cs)
  |de cs=>exact absurd rfl (BH cs)
  |bU _ _ _=>simp[V.GB]at ho
  |fn g a b=>cases a<;>cases b<;>cases d<;>simp_all [bT,V.oR]
  |_=>cases d<;>simp_all [bT,V.oR]
 rw[hv.2];exact sv hv.1 hr
theorem Ry{d:Nat}{v v':V}{u:Value}(ho:v.tY=false)(ht:bT h d v=some v')(hr:cC w I σ v u):cC w I eA v' u:=by
 cases v with
 |de cs=>simp[V.tY]at ho
 |agg cs=>
  cases d with
  |zero=>simp[bT]at ht
  |succ d=>
   obtain⟨l,rfl,hl⟩:=pe ht;obtain⟨h1,h2⟩:=jS _ hl;simp only[cC]at hr⊢;obtain⟨us,rfl,hc⟩:=hr;refine⟨us,rfl,?_⟩;rw[dh]at hc⊢;refine⟨by rw[<-h1];exact hc.1,fun j c' u' wm Gs=> ?_⟩;have hj:j<cs.length:=by rw[h1];exact(List.getElem?_eq_some_iff.1 wm).1
   have nn:cs[j]?=some cs[j]:=List.getElem?_eq_getElem hj;have hjj:=hc.2 j _ u' nn Gs;have hoj:cs[j].GB=false:=by
    simp only[V.tY,List.any_eq_false]at ho;simpa using ho cs[j] (List.getElem_mem hj)
   refine⟨hjj.1,Rx hoj (h2 j _ _ nn wm) (fun qC e=> ?_) (fun qC e=> ?_) hjj.2⟩
   ·have:=hjj.2;rw[e]at this;simp only[cC]at this;obtain⟨yR,rfl,_⟩:=this;simp[Value.oneCell']at hjj
   ·have:=hjj.2;rw[e]at this;simp only[cC]at this;obtain⟨yR,rfl,_⟩:=this;simp[Value.oneCell']at hjj
 |bU _ _ _=>simp[V.tY,V.GB]at ho
 |_=>exact Rx (by simpa[V.tY] using ho) ht (by intro cs e;cases e) (by intro cs e;cases e) hr
theorem xT {d:Nat} {args bez:List V} {us:List Value} (ht:cn (args.map (bT h d))=some bez) (hr:dU w I σ args us)
  (hf: ∀v v' u,v∈args->bT h d v=some v'->cC w I σ v u->cC w J eA v' u):dU w J eA bez us:=by
 obtain⟨h1,h2⟩:=jS _ ht;rw[kG]at hr⊢;refine⟨by rw[<-h1];exact hr.1,fun j c' u' wm Gs=> ?_⟩;have hj:j<args.length:=by rw[h1];exact(List.getElem?_eq_some_iff.1 wm).1
 have nn:args[j]?=some args[j]:=List.getElem?_eq_getElem hj;exact hf _ _ _ (List.getElem_mem hj) (h2 j _ _ nn wm) (hr.2 j _ u' nn Gs)
theorem Step.mX(R:Rel w I σ h)(F:jY σ h n)(s:Step w I eA ky n w' I' σc hc k'):
  Step w I σ h n w' I' (fun id=>if id<n then σ id else σc id) (fun id=>if id<n then h id else hc id) k'/\Ext w' I' σc w' I' (fun id=>if id<n then σ id else σc id):=by
 have xU: ∀id,id<n->σc id=none/\hc id=none:=fun id dg=>⟨by rw[s.sigs id (.inl dg)];rfl,s.news id (.inl dg) rfl⟩;have E2:Ext w' I' σc w' I' (fun id=>if id<n then σ id else σc id):=by
  refine⟨fun _ _=>rfl,fun _ c _ fz hh=>⟨c,fz,hh,rfl⟩,fun _ hh=>hh,fun id x hx=> ?_⟩;by_cases dg:id<n
  ·rw[(xU id dg).1]at hx;cases hx
  ·simp only[dg,if_false];exact hx
 have E:Ext w I σ w' I' (fun id=>if id<n then σ id else σc id):=by
  refine⟨s.ext.Jy,s.ext.grow,s.ext.imp,fun id x hx=> ?_⟩;by_cases dg:id<n
  ·simp only[dg,if_true];exact hx
  ·rw[(F id (by omega)).2]at hx;cases hx
 have BI: ∀b,gm σc hc b->w.heap.size<=b:=fun b hb=>by
  rcases s.own b hb with hh|hh
  ·exact hh
  ·exact absurd hh np
 refine⟨⟨E,⟨s.rel.dy,fun id ob ho=> ?_,fun id nj ob lU b o k o' k' ho ud hs ln=> ?_⟩,s.os,s.tape,s.output,s.size,fun b hb _=>s.frame b hb np,fun b hb=> ?_,fun b hb=> ?_,s.le,fun id dg=> ?_,fun id dg hn=> ?_⟩,E2⟩
 ·by_cases dg:id<n
  ·simp only[dg,if_true]at ho;rcases R.obj id ob ho with⟨he,A2⟩|⟨b,o,c,el,iT,hi,hh,hle,hr⟩
   ·exact .inl ⟨he,by simp only[dg,if_true];exact A2⟩
   ·have lW:gm σ h b:=⟨id,ob,o,ob.k,ho,iT⟩;have qn:=s.frame b (R.jJ lW) np;refine .inr ⟨b,o,c,el,by simp only[dg,if_true];exact iT,fun nf=> ?_,by rw[qn];exact hh,hle,hr.lJ (E.o9 _) qn⟩;rcases s.sq b nf with hx|hx|hx
    ·exact hi hx
    ·have:=R.jJ lW;omega
    ·exact np hx
  ·simp only[dg,if_false]at ho;rcases s.rel.obj id ob ho with⟨he,A2⟩|⟨b,o,c,el,iT,hi,hh,hle,hr⟩
   ·exact .inl ⟨he,by simp only[dg,if_false];exact A2⟩
   ·exact .inr ⟨b,o,c,el,by simp only[dg,if_false];exact iT,hi,hh,hle,hr.lJ (E2.o9 _) rfl⟩
 ·by_cases dg:id<n<;>by_cases xV:nj<n<;>simp only[dg,xV,if_true,if_false]at ho ud hs ln
  ·exact R.apart id nj ob lU b o k o' k' ho ud hs ln
  ·have h1:=R.jJ ⟨id,ob,o,k,ho,hs⟩;have h2:=BI b ⟨nj,lU,o',k',ud,ln⟩;omega
  ·have h1:=R.jJ ⟨nj,lU,o',k',ud,ln⟩;have h2:=BI b ⟨id,ob,o,k,ho,hs⟩;omega
  ·exact s.rel.apart id nj ob lU b o k o' k' ho ud hs ln
 ·obtain⟨id,ob,o,k,ho,hs⟩:=hb;by_cases dg:id<n<;>simp only[dg,if_true,if_false]at ho hs
  ·exact .inr ⟨id,ob,o,k,ho,hs⟩
  ·exact .inl (BI b ⟨id,ob,o,k,ho,hs⟩)
 ·rcases s.sq b hb with hx|hx|hx
  ·exact .inl hx
  ·exact .inr (.inl hx)
  ·exact absurd hx np
 ·have:=s.le;rcases dg with dg|dg
  ·simp only[dg,if_true]
  ·have hn: ¬id<n:=by omega
   simp only[hn,if_false];rw[s.sigs id (.inr dg),(F id (by omega)).2];rfl
 ·have:=s.le;rcases dg with dg|dg
  ·simp only[dg,if_true];exact hn
  ·have JW: ¬id<n:=by omega
   simp only[JW,if_false];exact s.news id (.inr dg) rfl
theorem Fj{w:World}{I1 I2:Nat->Prop}{σ:gH}{v:V}{u:Value}(hv:v.Mn=true)(hr:cC w I1 σ v u):cC w I2 σ v u:=by
 cases v with
 |sl c es=>
  simp only[V.Mn,List.isEmpty_iff]at hv;subst hv;simp only[cC]at hr⊢;obtain⟨a,cap,h1,h2,h3,h4,_⟩:=hr;exact⟨a,cap,h1,h2,h3,h4,.inl trivial⟩
 |fn g a b=>
  cases a with
  |cons x y=>simp[V.Mn]at hv
  |nil=>
   cases b with
   |cons x y=>simp[V.Mn]at hv
   |nil=>simp_all only[cC,dU]
 |agg cs=>simp[V.Mn]at hv
 |de cs=>simp[V.Mn]at hv
 |ref cs=>simp[V.Mn]at hv
 |bad=>simp[cC]
 |_=>simp only[cC]at hr⊢;exact hr
theorem MD{w:World}{I1 I2:Nat->Prop}{σ:gH}{v:V}{u:Value}(hv:v.Jw=true)(hr:cC w I1 σ v u):cC w I2 σ v u:=by
 cases v with
 |agg cs=>
  simp only[cC]at hr⊢;obtain⟨us,rfl,hc⟩:=hr;refine⟨us,rfl,?_⟩;rw[dh]at hc⊢;refine⟨hc.1,fun j c u' nn hu=>⟨(hc.2 j c u' nn hu).1,Fj ?_ (hc.2 j c u' nn hu).2⟩⟩;exact List.all_eq_true.1 hv c (List.mem_of_getElem? nn)
 |_=>exact Fj hv hr
theorem ad2{w:World}{I1 I2:Nat->Prop}{σ:gH}{v:V}{u:Value}(hv:v.pu=true)(hr:cC w I1 σ v u):cC w I2 σ v u:=by
 cases v with
 |de cs=>
  simp only[cC]at hr⊢;obtain⟨us,rfl,hc⟩:=hr;refine⟨us,rfl,?_⟩;rw[kG]at hc⊢;refine⟨hc.1,fun j c u' nn hu=>MD ?_ (hc.2 j c u' nn hu)⟩;exact List.all_eq_true.1 hv c (List.mem_of_getElem? nn)
 |_=>exact MD hv hr
theorem ad3{w:World}{I1 I2:Nat->Prop}{σ:gH}{es:List V}{k b o:Nat}(hv:es.all V.Jw=true)(hr:cQ w I1 σ es k b o):cQ w I2 σ es k b o:=by
 rw[kO]at hr⊢;intro i e hi;obtain⟨h1,h2⟩:=hr i e hi;refine⟨h1,fun j c hj=> ?_⟩;obtain⟨u,g1,g2,g3⟩:=h2 j c hj;refine⟨u,g1,g2,Fj ?_ g3⟩;have he:e.Jw=true:=List.all_eq_true.1 hv e (List.mem_of_getElem? hi);cases e with
 |agg cs=>exact List.all_eq_true.1 he c (List.mem_of_getElem? hj)
 |_=>
  cases j with
  |zero=>simp[V.cells]at hj;subst hj;exact he
  |succ j=>simp[V.cells]at hj
theorem zW{o:Option Ob}{ob:Ob}(hp:jz o=some ob):o=some ob/\ob.es.all V.Jw=true:=by
 cases o with
 |none=>cases hp
 |some x=>
  unfold jz at hp;simp only at hp;split at hp
  ·rename_i hx;cases hp;exact⟨rfl,hx⟩
  ·cases hp
theorem Step.Xp(R:Rel w I σ h)(F:jY σ h n)(s:Step w (fun b=>I b\/gm σ h b) eA ky n w' I' σc hc k'):
  Step w I σ h n w' (fun b=>I b\/(w.heap.size<=b/\I' b)) (fun id=>if id<n then σ id else σc id) (fun id=>if id<n then h id else jz (hc id)) k'/\
  Ext w' (fun b=>I b\/(w.heap.size<=b/\I' b)) σc w' (fun b=>I b\/(w.heap.size<=b/\I' b)) (fun id=>if id<n then σ id else σc id):=by
 have xU: ∀id,id<n->σc id=none/\hc id=none:=fun id dg=>⟨by rw[s.sigs id (.inl dg)];rfl,s.news id (.inl dg) rfl⟩;have E2: ∀K:Nat->Prop,Ext w' K σc w' K (fun id=>if id<n then σ id else σc id):=by
  intro K;refine⟨fun _ _=>rfl,fun _ c _ fz hh=>⟨c,fz,hh,rfl⟩,fun _ hh=>hh,fun id x hx=> ?_⟩;by_cases dg:id<n
  ·rw[(xU id dg).1]at hx;cases hx
  ·simp only[dg,if_false];exact hx
 have E:Ext w I σ w' (fun b=>I b\/(w.heap.size<=b/\I' b)) (fun id=>if id<n then σ id else σc id):=by
  refine⟨fun b hb=>s.ext.Jy b (.inl hb),s.ext.grow,fun b hb=> .inl hb,fun id x hx=> ?_⟩;by_cases dg:id<n
  ·simp only[dg,if_true];exact hx
  ·rw[(F id (by omega)).2]at hx;cases hx
 have BI: ∀b,gm σc hc b->w.heap.size<=b:=fun b hb=>by
  rcases s.own b hb with hh|hh
  ·exact hh
  ·exact absurd hh np
 have G5: ∀id ob,jz (hc id)=some ob->hc id=some ob:=fun id ob hp=>(zW hp).1;refine⟨⟨E,⟨fun b hb=> ?_,fun id ob ho=> ?_,fun id nj ob lU b o k o' k' ho ud hs ln=> ?_⟩,s.os,s.tape,s.output,s.size,fun b hb _=>s.frame b hb np,fun b hb=> ?_,fun b hb=> ?_,s.le,fun id dg=> ?_,fun id dg hn=> ?_⟩,E2 _⟩
 ·rcases hb with hb|hb
  ·exact Nat.lt_of_lt_of_le (R.dy b hb) s.size
  ·exact s.rel.dy b hb.2
 ·by_cases dg:id<n
  ·simp only[dg,if_true]at ho;rcases R.obj id ob ho with⟨he,A2⟩|⟨b,o,c,el,iT,hi,hh,hle,hr⟩
   ·exact .inl ⟨he,by simp only[dg,if_true];exact A2⟩
   ·have lW:gm σ h b:=⟨id,ob,o,ob.k,ho,iT⟩;have qn:=s.frame b (R.jJ lW) np;refine .inr ⟨b,o,c,el,by simp only[dg,if_true];exact iT,fun nf=> ?_,by rw[qn];exact hh,hle,hr.lJ (E.o9 _) qn⟩;rcases nf with hx|hx
    ·exact hi hx
    ·have:=R.jJ lW;omega
  ·simp only[dg,if_false]at ho;obtain⟨ud,Ff⟩:=zW ho;rcases s.rel.obj id ob ud with⟨he,A2⟩|⟨b,o,c,el,iT,hi,hh,hle,hr⟩
   ·exact .inl ⟨he,by simp only[dg,if_false];exact A2⟩
   ·refine .inr ⟨b,o,c,el,by simp only[dg,if_false];exact iT,fun nf=> ?_,hh,hle,(ad3 Ff hr).lJ ((E2 _).o9 _) rfl⟩;rcases nf with hx|hx
    ·exact hi (s.ext.imp b (.inl hx))
    ·exact hi hx.2
 ·by_cases dg:id<n<;>by_cases xV:nj<n<;>simp only[dg,xV,if_true,if_false]at ho ud hs ln
  ·exact R.apart id nj ob lU b o k o' k' ho ud hs ln
  ·have h1:=R.jJ ⟨id,ob,o,k,ho,hs⟩;have h2:=BI b ⟨nj,lU,o',k',G5 _ _ ud,ln⟩;omega
  ·have h1:=R.jJ ⟨nj,lU,o',k',ud,ln⟩;have h2:=BI b ⟨id,ob,o,k,G5 _ _ ho,hs⟩;omega
  ·exact s.rel.apart id nj ob lU b o k o' k' (G5 _ _ ho) (G5 _ _ ud) hs ln
 ·obtain⟨id,ob,o,k,ho,hs⟩:=hb;by_cases dg:id<n<;>simp only[dg,if_true,if_false]at ho hs
  ·exact .inr ⟨id,ob,o,k,ho,hs⟩
  ·exact .inl (BI b ⟨id,ob,o,k,G5 _ _ ho,hs⟩)
 ·rcases hb with hb|hb
  ·exact .inl hb
  ·exact .inr (.inl hb.1)
 ·have:=s.le;rcases dg with dg|dg
  ·simp only[dg,if_true]
  ·have hn: ¬id<n:=by omega
   simp only[hn,if_false];rw[s.sigs id (.inr dg),(F id (by omega)).2];rfl
 ·have:=s.le;rcases dg with dg|dg
  ·simp only[dg,if_true];exact hn
  ·have JW: ¬id<n:=by omega
   simp only[JW,if_false];rw[s.news id (.inr dg) rfl];rfl
end
section
variable {w w':World} {I I' J:Nat->Prop} {σ:gH} {h:aY} {n:Nat}
theorem Rz(R:Rel w I σ h)(NN: ∀b,I b->J b)(hJ: ∀b,gm σ h b->J b){d:Nat}{e e':V}(Wl:bT h d e=some e'){k b o:Nat}(mM:e.cells.length=k)(yZ:yQ w I σ e.cells b o):
  e'.cells.length=k/\yQ w J eA e'.cells b o:=by
 by_cases QC: ∃cs,e= .agg cs
 ·obtain⟨cs,rfl⟩:=QC;cases d with
  |zero=>simp[bT]at Wl
  |succ d=>
   obtain⟨qC,rfl,xz⟩:=pe Wl;obtain⟨g1,g2⟩:=jS _ xz;refine⟨by simpa[V.cells,<-g1] using mM,fun j c' y9=> ?_⟩;have sx:j<cs.length:=by rw[g1];exact(List.getElem?_eq_some_iff.1 y9).1
   have hjc:cs[j]?=some cs[j]:=by simp
   obtain⟨u,NR,NS,Rk⟩:=yZ j _ hjc;exact⟨u,NR,NS,rD R NN hJ d _ _ u (g2 j _ _ hjc y9) Rk⟩
 ·have iK: ∀cs,e≠ .agg cs:=fun cs hh=>QC ⟨cs,hh⟩;have ad1:=vx Wl iK;rw[kB iK]at mM yZ;rw[kB ad1];refine⟨mM,fun j c' y9=> ?_⟩;cases j with
  |zero=>
   simp at y9;subst y9;obtain⟨u,NR,NS,Rk⟩:=yZ 0 e (by simp);exact⟨u,NR,NS,rD R NN hJ d _ _ u Wl Rk⟩
  |succ j=>simp at y9
theorem Xq(R:Rel w I σ h)(NN: ∀b,I b->J b)(hJ: ∀b,gm σ h b->J b){d:Nat}{es wM:List V}(ht:cn (es.map (bT h d))=some wM){k b o:Nat}(hr:cQ w I σ es k b o):
  wM.length=es.length/\cQ w J eA wM k b o:=by
 obtain⟨h1,h2⟩:=jS _ ht;refine⟨h1.symm,?_⟩;rw[kO]at hr⊢;intro i e' he';have hi:i<es.length:=by rw[h1];exact(List.getElem?_eq_some_iff.1 he').1
 have hie:es[i]?=some es[i]:=by simp
 exact Rz R NN hJ (h2 i _ _ hie he') (hr i _ hie).1 (hr i _ hie).2
end
theorem Ka{h:aY}{d:Nat}{v v':V}(ht:bT h d v=some v')(hv: ∀cs,v≠ .de cs): ∀cs,v'≠ .de cs:=by
 intro cs e;subst e;cases v with
 |de qC=>exact hv qC rfl
 |agg qC=>
  cases d with
  |zero=>simp[bT]at ht
  |succ d=>obtain⟨l,h1,_⟩:=pe ht;cases h1
 |bU id s l=>
  cases d with
  |zero=>simp[bT]at ht
  |succ d=>
   rw[bT]at ht;repeat' split at ht
   all_goals cases ht
 |fn g a b=>cases a<;>cases b<;>cases d<;>simp[bT]at ht
 |_=>cases d<;>simp[bT]at ht
theorem RA{v:V}(hv: ∀cs,v≠ .agg cs): ∀cs,v.jm≠ .agg cs:=by
 intro cs e;cases v<;>simp[V.jm]at e;exact hv _ rfl
theorem RB{v:V}(hv: ∀cs,v≠ .de cs): ∀cs,v.jm≠ .de cs:=by
 intro cs e;cases v<;>simp[V.jm]at e;exact hv _ rfl
theorem pK(F:Nat->V->V)(cs:List V):ry F (.agg cs)= .agg (oS F 0 cs):=rfl
theorem ot(F:Nat->V->V){v:V}(hv: ∀cs,v≠ .agg cs):ry F v=F 0 v:=by
 cases v with
 |agg cs=>exact absurd rfl (hv cs)
 |_=>rfl
theorem sy(F:Nat->Nat->V->V)(vs:List V):rR F (.de vs)= .de (oS (fun i v=>ry (F i) v) 0 vs):=rfl
theorem qM(F:Nat->Nat->V->V){v:V}(hv: ∀cs,v≠ .de cs):rR F v=ry (F 0) v:=by
 cases v with
 |de cs=>exact absurd rfl (hv cs)
 |_=>rfl
theorem uD(F:Nat->V->V): ∀(cs:List V) (n j:Nat),(oS F n cs)[j]?=(cs[j]?).map (F (n+j))
 | [],n,j=>by simp[oS]
 |c::cs,n,j=>by
  cases j with
  |zero=>simp[oS]
  |succ j=>simp only[oS,List.getElem?_cons_succ];rw[uD F cs (n+1) j,show n+1+j=n+(j+1) by omega]
theorem G6(F:Nat->V->V)(cs:List V)(n:Nat):(oS F n cs).length=cs.length:=by
 induction cs generalizing n with
 |nil=>rfl
 |cons c cs ih=>simp[oS,ih]
theorem ze(F G:Nat->V->V): ∀(cs:List V) (n:Nat),oS G n (oS F n cs)=oS (fun j c=>G j (F j c)) n cs
 | [],n=>rfl
 |c::cs,n=>by simp only[oS];rw[ze F G cs (n+1)]
theorem D6{F G:Nat->V->V}(hF: ∀c,(∀cs,c≠ .agg cs)-> ∀cs,F 0 c≠ .agg cs)(v:V):ry G (ry F v)=ry (fun j c=>G j (F j c)) v:=by
 by_cases h: ∃cs,v= .agg cs
 ·obtain⟨cs,rfl⟩:=h;simp only[pK,ze]
 ·have h': ∀cs,v≠ .agg cs:=fun cs e=>h ⟨cs,e⟩;rw[ot F h',ot G (hF v h'),ot _ h']
theorem NZ{F G:Nat->Nat->V->V}(hF: ∀i c,(∀cs,c≠ .agg cs)-> ∀cs,F i 0 c≠ .agg cs)(hT: ∀c,(∀cs,c≠ .de cs)-> ∀cs,F 0 0 c≠ .de cs)(v:V):rR G (rR F v)=rR (fun i j c=>G i j (F i j c)) v:=by
 by_cases h: ∃cs,v= .de cs
 ·obtain⟨cs,rfl⟩:=h;simp only[sy,ze];congr 2;funext i c;exact D6 (hF i) c
 ·have h': ∀cs,v≠ .de cs:=fun cs e=>h ⟨cs,e⟩;have hm: ∀cs,ry (F 0) v≠ .de cs:=by
   intro cs e;by_cases ha: ∃cs,v= .agg cs
   ·obtain⟨qC,rfl⟩:=ha;rw[pK]at e;cases e
   ·have GQ: ∀cs,v≠ .agg cs:=fun cs e=>ha ⟨cs,e⟩;rw[ot _ GQ]at e;exact hT v h' cs e
  rw[qM F h',qM G hm,qM _ h',D6 (hF 0)]
section
variable {w w':World} {I I' J:Nat->Prop} {σ σ' σs σc:gH} {h h' hs hc:aY} {n n' k0 k' x:Nat}
theorem RC{F:Nat->V->V}{cs:List V}{us:List Value}(hr:dn w I σ cs us)(hF: ∀j c u,cs[j]?=some c->us[j]?=some u->u.oneCell'=true->cC w I σ c u->cC w J σ' (F j c) u):dn w J σ' (oS F 0 cs) us:=by
 rw[dh]at hr⊢;refine⟨by rw[G6];exact hr.1,fun j c u hc hu=> ?_⟩;rw[uD,Nat.zero_add]at hc;cases nn:cs[j]? with
 |none=>simp[nn]at hc
 |some c0=>
  rw[nn]at hc;simp only[Option.map_some,au]at hc;subst hc;have:=hr.2 j c0 u nn hu;exact⟨this.1,hF j c0 u nn hu this.1 this.2⟩
theorem G7{F:Nat->V->V}{v:V}{u:Value}(hr:cC w I σ v u)(hF: ∀j c x,v.cells.getD j .bad=c->cC w I σ c x->cC w J σ' (F j c) x):cC w J σ' (ry F v) u:=by
 by_cases h: ∃cs,v= .agg cs
 ·obtain⟨cs,rfl⟩:=h;rw[pK];simp only[cC]at hr⊢;obtain⟨us,rfl,hc⟩:=hr;refine⟨us,rfl,RC hc fun j c x nn _ _ hx=>hF j c x ?_ hx⟩;simp[V.cells,List.getD_eq_getElem?_getD,nn]
 ·have h': ∀cs,v≠ .agg cs:=fun cs e=>h ⟨cs,e⟩;rw[ot F h'];refine hF 0 v u ?_ hr;rw[kB h'];rfl
theorem RD{F:Nat->Nat->V->V}{v:V}{u:Value}(hr:cC w I σ v u)(hF: ∀i j c x,v.cellAt i j=c->cC w I σ c x->cC w J σ' (F i j c) x):cC w J σ' (rR F v) u:=by
 by_cases h: ∃cs,v= .de cs
 ·obtain⟨cs,rfl⟩:=h;rw[sy];simp only[cC]at hr⊢;obtain⟨us,rfl,hc⟩:=hr;refine⟨us,rfl,?_⟩;rw[kG]at hc⊢;refine⟨by rw[G6];exact hc.1,fun i c u hci hu=> ?_⟩;rw[uD,Nat.zero_add]at hci;cases nn:cs[i]? with
  |none=>simp[nn]at hci
  |some c0=>
   rw[nn]at hci;simp only[Option.map_some,au]at hci;subst hci;refine G7 (hc.2 i c0 u nn hu) fun j c x hx hrx=>hF i j c x ?_ hrx;simp only[V.cellAt,List.getD_eq_getElem?_getD,nn,Option.getD_some];simpa[List.getD_eq_getElem?_getD] using hx
 ·have h': ∀cs,v≠ .de cs:=fun cs e=>h ⟨cs,e⟩;rw[qM F h'];refine G7 hr fun j c x hx hrx=>hF 0 j c x ?_ hrx;rw[<-hx];cases v with
  |de cs=>exact absurd rfl (h' cs)
  |_=>rfl
theorem Step.call {hK h1:aY} {I1:Nat->Prop} {m:Nat} (R:Rel w I σ h) (F:jY σ h n) (s7: ∀id ob,hK id=some ob->h id=some ob) (s1:Step w I σ hK n w I1 σ h1 n) (ME: ∀id ob,h1 id=some ob->hK id=some ob)
  (s:rV m w I1 σs hs w' I' σc hc)
  (lW: ∀b,gm σs hs b->gm σ h b/\ ¬gm σ hK b)
  (hJ1: ∀b,I' b->J b) (hJ2: ∀b,J b->I' b\/gm σc hc b)
  (hσ: ∀id,id<n->σ' id=σ id) (hh: ∀id,id<n->id≠x->h' id=h1 id)
  (hx: ∀ob,x<n->h' x=some ob->h x≠none/\(∀b o k,σ x=some (b,o,k)-> ¬gm σ hK b)/\GN w' J σ' x ob)
  (hn:n<=n') (lK: ∀id,n'<=id->σ' id=none/\h' id=none)
  (AM: ∀id ob,n<=id->h' id=some ob->GN w' J σ' id ob/\ ∀b o k,σ' id=some (b,o,k)->(w.heap.size<=b\/gm σs hs b)/\(x<n-> ∀o' k',σ x≠some (b,o',k')))
  (QK: ∀id nj ob lU b o k o' k',n<=id->n<=nj->h' id=some ob->h' nj=some lU->σ' id=some (b,o,k)->σ' nj=some (b,o',k')->id=nj):
  Step w I σ h n w' J σ' h' n':=by
 have E:Ext w I σ w' J σ':=⟨fun b hb=>s.Jy b (s1.ext.imp b hb),s.grow,fun b hb=>hJ1 b (s.imp b (s1.ext.imp b hb)),fun id y hy=>by
  by_cases dg:id<n
  ·rw[hσ id dg];exact hy
  ·rw[(F id (by omega)).2]at hy;cases hy⟩
 have RE: ∀b,gm σ hK b->gm σ h b:=fun b ⟨i,ob,o,k,g1,g2⟩=>⟨i,ob,o,k,s7 i ob g1,g2⟩;have ad4: ∀i obi b o k,h1 i=some obi->σ i=some (b,o,k)->w'.heap[b]?=w.heap[b]?/\ ¬J b:=by
  intro i obi b o k hi iT;have hwK:gm σ hK b:=⟨i,obi,o,k,ME i obi hi,iT⟩;have tQ:gm σ h1 b:=⟨i,obi,o,k,hi,iT⟩;have eX:=R.jJ (RE b hwK);have oV: ¬gm σs hs b:=fun hb=>(lW b hb).2 hwK;refine⟨s.frame b eX oV,fun hj=> ?_⟩;rcases hJ2 b hj with hb|hb
  ·rcases s.sq b hb with hy|hy|hy
   ·exact(s1.rel.owned tQ).1 hy
   ·omega
   ·exact oV hy
  ·rcases s.own b hb with hy|hy
   ·omega
   ·exact oV hy
 have hold: ∀id ob,id<n->h' id=some ob-> ∃C5,h id=some C5:=by
  intro id ob dg ho;by_cases e:id=x
  ·subst e;cases hz:h id with
   |none=>exact absurd hz (hx ob dg ho).1
   |some y=>exact⟨y,rfl⟩
  ·rw[hh id dg e]at ho;exact⟨ob,s7 _ _ (ME _ _ ho)⟩
 have hon: ∀id ob nj lU b o k o' k',id<n->n<=nj->h' id=some ob->h' nj=some lU->σ id=some (b,o,k)->σ' nj=some (b,o',k')->False:=by
  intro id ob nj lU b o k o' k' dg xV ho ud iT AQ;obtain⟨y,hy⟩:=hold id ob dg ho;have h2:=(AM nj lU xV ud).2 _ _ _ AQ;by_cases e:id=x
  ·subst e;exact h2.2 dg o k iT
  ·rw[hh id dg e]at ho;have hwK:gm σ hK b:=⟨id,ob,o,k,ME _ _ ho,iT⟩;rcases h2.1 with hz|hz
   ·have:=R.jJ (RE b hwK);omega
   ·exact(lW b hz).2 hwK
 refine⟨E,⟨fun b hb=> ?_,fun id ob ho=> ?_,fun id nj ob lU b o k o' k1 ho ud iT AQ=> ?_⟩,s.os,s.tape,s.output,s.size,fun b hb Jx=>s.frame b hb fun hy=>Jx (lW b hy).1,fun b hb=> ?_,fun b hb=> ?_,hn,fun id dg=> ?_,fun id dg hz=> ?_⟩
 ·rcases hJ2 b hb with hb|hb
  ·exact s.rel.dy b hb
  ·exact s.rel.jJ hb
 ·by_cases dg:id<n
  ·by_cases e:id=x
   ·subst e;exact(hx ob dg ho).2.2
   ·rw[hh id dg e]at ho;rcases s1.rel.obj id ob ho with⟨he,A2⟩|⟨b,o,c,el,iT,kY,hb,hle,hr⟩
    ·exact .inl ⟨he,by rw[hσ id dg];exact A2⟩
    ·obtain⟨g1,g2⟩:=ad4 id ob b o ob.k ho iT;have E1:Ext w I1 σ w' J σ':=⟨s.Jy,s.grow,fun b hb=>hJ1 b (s.imp b hb),E.sig⟩;exact .inr ⟨b,o,c,el,by rw[hσ id dg];exact iT,g2,by rw[g1];exact hb,hle,hr.lJ (E1.o9 _) g1⟩
  ·exact(AM id ob (by omega) ho).1
 ·by_cases dg:id<n<;>by_cases xV:nj<n
  ·obtain⟨y,hy⟩:=hold id ob dg ho;obtain⟨y',hy'⟩:=hold nj lU xV ud;rw[hσ _ dg]at iT;rw[hσ _ xV]at AQ;exact R.apart id nj y y' b o k o' k1 hy hy' iT AQ
  ·rw[hσ _ dg]at iT;exact(hon id ob nj lU b o k o' k1 dg (by omega) ho ud iT AQ).elim
  ·rw[hσ _ xV]at AQ;exact(hon nj lU id ob b o' k1 o k xV (by omega) ud ho AQ iT).elim
  ·exact QK id nj ob lU b o k o' k1 (by omega) (by omega) ho ud iT AQ
 ·obtain⟨id,ob,o,k,ho,iT⟩:=hb;by_cases dg:id<n
  ·obtain⟨y,hy⟩:=hold id ob dg ho;rw[hσ _ dg]at iT;exact .inr ⟨id,y,o,k,hy,iT⟩
  ·rcases((AM id ob (by omega) ho).2 _ _ _ iT).1 with hz|hz
   ·exact .inl hz
   ·exact .inr (lW b hz).1
 ·rcases hJ2 b hb with hb|hb
  ·rcases s.sq b hb with hy|hy|hy
   ·rcases s1.sq b hy with hz|hz|hz
    ·exact .inl hz
    ·exact .inr (.inl hz)
    ·exact .inr (.inr (RE b hz))
   ·exact .inr (.inl hy)
   ·exact .inr (.inr (lW b hy).1)
  ·rcases s.own b hb with hy|hy
   ·exact .inr (.inl hy)
   ·exact .inr (.inr (lW b hy).1)
 ·rcases dg with dg|dg
  ·exact hσ id dg
  ·rw[(lK id dg).1,(F id (by omega)).2]
 ·rcases dg with dg|dg
  ·by_cases e:id=x
   ·subst e;cases hz':h' id with
    |none=>rfl
    |some y=>exact absurd hz (hx y dg hz').1
   ·rw[hh id dg e];cases hy:h1 id with
    |none=>rfl
    |some y=>rw[s7 _ _ (ME _ _ hy)]at hz;cases hz
  ·exact(lK id dg).2
def RF(σ:gH)(v:V)(m:Mask)(q:Nat):Option (Nat×Nat×Nat):=
 match m[q]? with
 |some p=>match v.cellAt p.1 p.2.1 with
  | .bU id s _=>match σ id with
   |some (b,o,k)=>some (b,o+s*k,k)
   |none=>none
  |_=>none
 |none=>none
theorem rF: ∀{m:Mask} {n i j q:Nat} {t:TypeId},kM n m i j=some (q,t)->n<=q/\m[q-n]?=some (i,j,t)
 | [],n,i,j,q,t,h=>by simp[kM]at h
 |(a,b,c)::m,n,i,j,q,t,h=>by
  simp only[kM]at h;split at h
  ·rename_i hab;simp only[au,aF]at h;obtain⟨rfl,rfl⟩:=h;obtain⟨rfl,rfl⟩:=hab;simp
  ·obtain⟨h1,h2⟩:=rF h;refine⟨by omega,?_⟩;rw[show q-n=q-(n+1)+1 by omega];simpa using h2
theorem tc: ∀(m:Mask) (n i j:Nat),kM n m i j=(kM 0 m i j).map fun p=>(p.1+n,p.2)
 | [],n,i,j=>rfl
 |(a,b,c)::m,n,i,j=>by
  simp only[kM];split
  ·simp
  ·rw[tc m (n+1),tc m (0+1)];cases kM 0 m i j with
   |none=>rfl
   |some p=>simp;omega
theorem mq(X:Env)(kp:TypeId->Bool)(R:V): ∀(m:Mask) (n:Nat) (h:aY) (id:Nat),tZ X kp R n m h id=if n<=id/\id<n+m.length then(m[id-n]?).bind (xH X kp R) else h id
 | [],n,h,id=>by
  have: ¬(n<=id/\id<n+([]:Mask).length):=by simp
  rw[if_neg this];rfl
 |q::m,n,h,id=>by
  simp only[tZ,aO,List.length_cons];by_cases e:id=n
  ·subst e;simp
  ·rw[mq X kp R m (n+1) h id];simp only[e,if_false];by_cases h1:n+1<=id/\id<n+1+m.length
   ·have h2:n<=id/\id<n+(m.length+1):=by omega
    simp only[h1,h2,and_self,if_true];rw[show id-n=id-(n+1)+1 by omega];simp
   ·have h2: ¬(n<=id/\id<n+(m.length+1)):=by omega
    simp only[h1,h2,if_false]
theorem vy: ∀{l:List (Option Nat)},rS l=true-> ∀{i j:Nat} {x:Nat},l[i]?=some (some x)->l[j]?=some (some x)->i=j
 | [],_,i,j,x,h1,_=>by simp at h1
 |a::l,h,i,j,x,h1,h2=>by
  simp only[rS,Bool.and_eq_true]at h;have ha:=List.all_eq_true.1 h.1;cases i with
  |zero=>
   cases j with
   |zero=>rfl
   |succ j=>
    simp at h1 h2;subst h1;have:=ha _ (List.mem_of_getElem? h2);simp[differ]at this
  |succ i=>
   cases j with
   |zero=>
    simp at h1 h2;subst h2;have:=ha _ (List.mem_of_getElem? h1);simp[differ]at this
   |succ j=>
    simp at h1 h2;rw[vy h.2 h1 h2]
theorem jv: ∀{l:List (Option Nat)} {h:aY} {id:Nat} {ob:Ob},ep h l id=some ob->h id=some ob/\some id∉l
 | [],h,id,ob,hk=>⟨hk,by simp⟩
 |none::l,h,id,ob,hk=>by
  simp only[ep]at hk;have:=jv hk;exact⟨this.1,by simpa using this.2⟩
 |some i::l,h,id,ob,hk=>by
  simp only[ep,aO]at hk;split at hk
  ·cases hk
  ·rename_i e;have:=jv hk;exact⟨this.1,by simp[this.2,e]⟩
theorem G8{v:V}(hc:v= .sl true []){q:Nat}{u:Value}(hr:cC w I σ v u):cC w J σ' (.bU q 0 0) u:=by
 subst hc;simp only[cC]at hr⊢;obtain⟨a,cap,rfl,h1,h2,h3,_⟩:=hr;exact⟨a,cap,rfl,h1,h2,.inl (by simpa using h3)⟩
theorem BJ {X:Env} (R:Rel w' I' σc hc) {vz:aY} {v R':V} {u:Value} (hr:cC w' I' σc v u) {m:Mask} (aai: ∀id ob,vz id=some ob->hc id=some ob/\some id∉eZ v m) (he:xG X hc vz v m=some R') {n:Nat} {σ0:gH}
  (hJ1: ∀b,I' b->J b) (hJ2: ∀b,gm σc vz b->J b) (hJ3: ∀b,J b->I' b\/gm σc vz b) (hσ: ∀q,q<m.length->σ0 (n+q)=RF σc v m q):
  cC w' J σ0 (rT n m R') u/\
  (∀(kp:TypeId->Bool) (q:Nat) (p:Nat×Nat×TypeId) (ob:Ob),m[q]?=some p->xH X kp R' p=some ob->GN w' J σ0 (n+q) ob/\ ∀b o k,σ0 (n+q)=some (b,o,k)-> ∃id,some id∈eZ v m/\ ∃lU o' k',hc id=some lU/\σc id=some (b,o',k'))/\
  (∀(q q' b o k o' k':Nat),q<m.length->q'<m.length->σ0 (n+q)=some (b,o,k)->σ0 (n+q')=some (b,o',k')->(∃kp ob,(m[q]?).bind (xH X kp R')=some ob)->(∃kp ob,(m[q']?).bind (xH X kp R')=some ob)->q=q'):=by
 unfold xG at he;split at he
 case isFalse=>cases he
 rename_i RG;simp only[Bool.and_eq_true]at RG;have QK:=RG.1;simp only[au]at he;subst he;have MF:Rel w' I' σc vz:=R.sub fun id ob h=>(aai id ob h).1;have him: ∀c c' x,bT vz depth c=some c'->cC w' I' σc c x->cC w' J eA c' x:=fun c c' x ht hx=>rD MF hJ1 hJ2 depth c c' x ht hx;have hF1: ∀i c,(∀cs,c≠ .agg cs)-> ∀cs,jH X hc vz m i 0 c≠ .agg cs:=by
  intro i c wO cs e;unfold jH at e;split at e
  ·split at e<;>cases e
  ·split at e
   ·rename_i c' wm;exact RA (vx wm wO) cs e
   ·cases e
 have hF2: ∀c,(∀cs,c≠ .de cs)-> ∀cs,jH X hc vz m 0 0 c≠ .de cs:=by
  intro c wO cs e;unfold jH at e;split at e
  ·split at e<;>cases e
  ·split at e
   ·rename_i c' wm;exact RB (Ka wm wO) cs e
   ·cases e
 have G9: ∀i j,(rR (jH X hc vz m) v).cellAt i j=jH X hc vz m i j (v.cellAt i j)\/(∀es c,(rR (jH X hc vz m) v).cellAt i j≠ .sl c es):=by
  intro i j;have one: ∀(F:Nat->V->V) (x:V),(∀c,(∀cs,c≠ .agg cs)-> ∀cs,F 0 c≠ .agg cs)->(ry F x).cells.getD j .bad=F j (x.cells.getD j .bad)\/(ry F x).cells.getD j .bad= .bad:=by
   intro F x hF;by_cases hx: ∃cs,x= .agg cs
   ·obtain⟨cs,rfl⟩:=hx;rw[pK];simp only[V.cells,List.getD_eq_getElem?_getD,uD,Nat.zero_add];cases cs[j]? with
    |none=>right;rfl
    |some c=>left;rfl
   ·have AL: ∀cs,x≠ .agg cs:=fun cs e=>hx ⟨cs,e⟩;rw[ot F AL,kB (hF x AL),kB AL];cases j with
    |zero=>left;rfl
    |succ j=>right;rfl
  by_cases hv: ∃cs,v= .de cs
  ·obtain⟨vs,rfl⟩:=hv;rw[sy];simp only[V.cellAt,List.getD_eq_getElem?_getD,uD,Nat.zero_add];cases vs[i]? with
   |none=>right;intro es c e;simp only[Option.map_none,Option.getD_none,V.cells]at e;cases j<;>simp at e
   |some x=>
    simp only[Option.map_some,Option.getD_some];rcases one (jH X hc vz m i) x (hF1 i) with h|h
    ·left;simpa[List.getD_eq_getElem?_getD] using h
    ·right;intro es c e;simp only[List.getD_eq_getElem?_getD]at h;rw[h]at e;cases e
  ·have C9: ∀cs,v≠ .de cs:=fun cs e=>hv ⟨cs,e⟩;rw[qM _ C9];have hm: ∀cs,ry (jH X hc vz m 0) v≠ .de cs:=by
    intro cs e;by_cases ha: ∃cs,v= .agg cs
    ·obtain⟨qC,rfl⟩:=ha;rw[pK]at e;cases e
    ·have GQ: ∀cs,v≠ .agg cs:=fun cs e=>ha ⟨cs,e⟩;rw[ot _ GQ]at e;exact hF2 v C9 cs e
   have cA: ∀y:V,(∀cs,y≠ .de cs)->y.cellAt i j=if i=0 then y.cells.getD j .bad else .bad:=by
    intro y hy;cases y with
    |de cs=>exact absurd rfl (hy cs)
    |_=>rfl
   rw[cA _ hm,cA _ C9];by_cases hi:i=0
   ·subst hi;simp only[if_true];rcases one (jH X hc vz m 0) v (hF1 0) with h|h
    ·left;exact h
    ·right;intro es c e;rw[h]at e;cases e
   ·right;intro es c e;simp only[hi,if_false]at e;cases e
 have dV: ∀(t:TypeId) (c:V) (es:List V),rowAt X hc vz t c=some es->(c= .sl true []/\es=[])\/ ∃id s l ob Xr,c= .bU id s l/\hc id=some ob/\ob.k=(X.ti t).size/\s+l<=ob.es.length/\es.length=l/\cn (((ob.es.drop s).take l).map (bT vz depth))=some Xr/\es=df Xr:=by
  intro t c es Dq;unfold rowAt at Dq;split at Dq
  ·simp only[au]at Dq;exact .inl ⟨rfl,Dq.symm⟩
  ·rename_i id s l;right;split at Dq
   case h_2=>cases Dq
   rename_i ob ea;split at Dq
   case isFalse=>cases Dq
   rename_i hkl;split at Dq
   case h_2=>cases Dq
   rename_i Xr D4;simp only[au]at Dq;subst Dq;refine⟨id,s,l,ob,Xr,rfl,ea,hkl.1,hkl.2,?_,D4,rfl⟩;have:=(jS _ D4).1;have hd: ∀l:List V,(df l).length=l.length:=by
    intro l;induction l with
    |nil=>rfl
    |cons c l ih=>simp[df,ih]
   rw[hd,<-this];simp;omega
  ·cases Dq
 have aaj: ∀(q:Nat) (p:Nat×Nat×TypeId) (c:Bool) (es:List V),m[q]?=some p->(rR (jH X hc vz m) v).cellAt p.1 p.2.1= .sl c es-> ∀q' t,kM 0 m p.1 p.2.1=some (q',t)->rowAt X hc vz t (v.cellAt p.1 p.2.1)=some es:=by
  intro q p c es hq qp q' t hm;rcases G9 p.1 p.2.1 with h|h
  ·rw[h]at qp;unfold jH at qp;rw[hm]at qp;simp only at qp;split at qp
   ·rename_i wM D4;simp only[V.sl.injEq]at qp;rw[<-qp.2];exact D4
   ·cases qp
  ·exact absurd qp (h es c)
 have aj4: ∀(q:Nat) (p:Nat×Nat×TypeId),m[q]?=some p-> ∃q' t,kM 0 m p.1 p.2.1=some (q',t):=by
  intro q p hq;have: ∀(m:Mask) (n q:Nat),m[q]?=some p-> ∃q' t,kM n m p.1 p.2.1=some (q',t):=by
   intro m;induction m with
   |nil=>intro n q hq;simp at hq
   |cons y m ih=>
    intro n q hq;obtain⟨a,b,t⟩:=y;simp only[kM];by_cases hab:a=p.1/\b=p.2.1
    ·simp only[hab,and_self,if_true];exact⟨_,_,rfl⟩
    ·simp only[hab,if_false];cases q with
     |zero=>
      simp at hq;subst hq;simp at hab
     |succ q=>exact ih (n+1) q (by simpa using hq)
  exact this m 0 q hq
 have Ha: ∀(q:Nat) (p:Nat×Nat×TypeId),m[q]?=some p->q<m.length:=fun q p h=>(List.getElem?_eq_some_iff.1 h).1;have aj5: ∀(q:Nat) (p:Nat×Nat×TypeId),m[q]?=some p-> ∀b o k,σ0 (n+q)=some (b,o,k)-> ∃id s l o',v.cellAt p.1 p.2.1= .bU id s l/\σc id=some (b,o',k)/\o=o'+s*k:=by
  intro q p hq b o k iT;rw[hσ q (Ha q p hq)]at iT;unfold RF at iT;rw[hq]at iT;simp only at iT;split at iT
  case h_2=>cases iT
  rename_i id s l qp;split at iT
  case h_2=>cases iT
  rename_i b' o' k' ln;simp only[au,aF]at iT;obtain⟨rfl,rfl,rfl⟩:=iT;exact⟨id,s,l,o',qp,ln,rfl⟩
 have MH: ∀(q:Nat) (p:Nat×Nat×TypeId) (id s l:Nat),m[q]?=some p->v.cellAt p.1 p.2.1= .bU id s l->(eZ v m)[q]?=some (some id):=by
  intro q p id s l hq qp;unfold eZ;rw[List.getElem?_map,hq];simp[qp,V.src]
 refine⟨?_,?_,?_⟩
 ·unfold rT;rw[NZ hF1 hF2];refine RD hr fun i j c x qp hx=> ?_;rw[tc m n];cases hm:kM 0 m i j with
  |none=>
   simp only[Option.map_none,jH,hm];split
   ·rename_i c' wm;exact((him c c' x wm hx).ext Ext.free).jm
   ·simp[cC]
  |some y=>
   obtain⟨q,t⟩:=y;simp only[Option.map_some,jH,hm];obtain⟨hq0,hq⟩:=rF hm;simp only[Nat.sub_zero]at hq;cases Dq:rowAt X hc vz t c with
   |none=>simp[cC]
   |some es=>
    simp only;rcases dV t c es Dq with⟨rfl,rfl⟩|⟨id,s,l,ob,Xr,rfl,ea,hk,pW,su,D4,hd⟩
    ·exact G8 rfl hx
    ·simp only[cC]at hx⊢;obtain⟨a,cap,rfl,h1,h2,h3⟩:=hx;refine⟨a,cap,by rw[su],by rw[su];exact h1,h2,?_⟩;rcases h3 with h3|⟨b,o,k,c',el,fz,iT,ha,hb,hle⟩
     ·exact .inl h3
     ·refine .inr ⟨b,o+s*k,k,c',el,fz,?_,by rw[ha];simp,hb,by
       have:(s+cap)*k=s*k+cap*k:=Nat.add_mul ..;rw[Nat.zero_add];omega⟩
      rw[Nat.add_comm q n,hσ q (Ha q _ hq)];unfold RF;rw[hq];simp only[qp,iT]
 ·intro kp q p ob hq hO;unfold xH at hO;split at hO
  case h_2=>cases hO
  rename_i cc es qp;simp only[au]at hO;subst hO;obtain⟨q',t,hm⟩:=aj4 q p hq;have Dq:=aaj q p cc es hq qp q' t hm;have a1n: ∃t',rowAt X hc vz t' (v.cellAt p.1 p.2.1)=some es:=⟨t,Dq⟩;refine⟨?_,fun b o k iT=> ?_⟩
  ·rcases dV t _ es Dq with⟨wO,rfl⟩|⟨id,s,l,ob,Xr,wO,ea,hk,pW,su,D4,hd⟩
   ·left;refine⟨rfl,?_⟩;rw[hσ q (Ha q p hq)];unfold RF;rw[hq];simp only[wO]
   ·rcases R.obj id ob ea with⟨he,A2⟩|⟨b,o,c,el,iT,hi,hb,hle,Wm⟩
    ·left;refine⟨?_,?_⟩
     ·have:l=0:=by rw[he]at pW;simp at pW;omega
      rw[this]at su;exact List.eq_nil_of_length_eq_zero su
     ·rw[hσ q (Ha q p hq)];unfold RF;rw[hq];simp only[wO,A2]
    ·right;have BK:=MH q p id s l hq wO;obtain⟨_,Gu⟩:=rF hm;simp only[Nat.sub_zero]at Gu;have hqq:q=q':=vy QK BK (MH q' _ id s l Gu wO);subst hqq;rw[hq]at Gu;simp only[au]at Gu;have ht:p.2.2=t:=by rw[Gu]
     have vr:(X.ti p.2.2).size=ob.k:=by rw[ht];exact hk.symm
     have ar7:σ0 (n+q)=some (b,o+s*ob.k,ob.k):=by
      rw[hσ q (Ha q p hq)];unfold RF;rw[hq];simp only[wO,iT]
     refine⟨b,o+s*ob.k,c,el,by rw[vr];exact ar7,fun hj=> ?_,hb,?_,?_⟩
     ·rcases hJ3 b hj with hx|⟨i2,ob2,o2,k2,h1,h2⟩
      ·exact hi hx
      ·have h3:=aai _ _ h1;have:i2=id:=R.apart i2 id ob2 ob b o2 k2 o ob.k h3.1 ea h2 iT;subst this;exact h3.2 (List.mem_of_getElem? BK)
     ·rw[vr,su];have e1:(s+l)*ob.k<=ob.es.length*ob.k:=Nat.mul_le_mul_right _ pW;have e2:(s+l)*ob.k=s*ob.k+l*ob.k:=Nat.add_mul ..;show o+s*ob.k+l*ob.k<=c.size;omega
     ·rw[vr];have hr1:=((Wm.lJ (Ext.Bq ob.dG) rfl).Mr s l);have Mw:=(Xq MF hJ1 hJ2 D4 hr1).2;rw[hd];exact(cQ.lA _ _ _ _ Mw).lJ Ext.free rfl
  ·obtain⟨id,s,l,o',BL,ln,rfl⟩:=aj5 q p hq b o k iT;rcases dV t _ es Dq with⟨wO,_⟩|⟨nj,s',l',ob,Xr,wO,ea,_⟩
   ·rw[wO]at BL;cases BL
   ·rw[wO]at BL;simp only[V.bU.injEq]at BL;obtain⟨rfl,rfl,rfl⟩:=BL;exact⟨nj,List.mem_of_getElem? (MH q p nj s' l' hq wO),ob,o',k,ea,ln⟩
 ·intro q q' b o k o' k' hq Gu iT AQ e1 e2;have hp:m[q]?=some m[q]:=List.getElem?_eq_getElem hq;have hp':m[q']?=some m[q']:=List.getElem?_eq_getElem Gu;have get: ∀(q:Nat) (p:Nat×Nat×TypeId) (b o k:Nat),m[q]?=some p->σ0 (n+q)=some (b,o,k)->(∃kp ob,(m[q]?).bind (xH X kp (rR (jH X hc vz m) v))=some ob)-> ∃id ob o',(eZ v m)[q]?=some (some id)/\hc id=some ob/\σc id=some (b,o',k):=by
   intro q p b o k hq iT hO;obtain⟨kp,ob,hO⟩:=hO;rw[hq]at hO;simp only[Option.bind_some]at hO;unfold xH at hO;split at hO
   case h_2=>cases hO
   rename_i cc es qp;obtain⟨q',t,hm⟩:=aj4 q p hq;have Dq:=aaj q p cc es hq qp q' t hm;obtain⟨id,s,l,o',BL,ln,rfl⟩:=aj5 q p hq b o k iT;rcases dV t _ es Dq with⟨wO,_⟩|⟨nj,s',l',ob,Xr,wO,ea,_⟩
   ·rw[wO]at BL;cases BL
   ·rw[wO]at BL;simp only[V.bU.injEq]at BL;obtain⟨rfl,rfl,rfl⟩:=BL;exact⟨nj,ob,o',MH q p nj s' l' hq wO,ea,ln⟩
  obtain⟨id,ob,o1,g1,g2,g3⟩:=get q _ b o k hp iT e1;obtain⟨nj,lU,o1',g1',g2',g3'⟩:=get q' _ b o' k' hp' AQ e2;have:id=nj:=R.apart id nj ob lU b o1 k o1' k' g2 g2' g3 g3';subst this;exact vy QK g1 g1'
end
theorem zf{w:World}{σ:gH}: ∀{vs zg:List V} {I:Nat->Prop} {h h':aY} {us:List Value},Rel w I σ h->dU w I σ vs us->mY h vs=some (zg,h')-> ∀n:Nat,
  ∃I',Step w I σ h n w I' σ h' n/\dU w I' eA zg us/\(∀id ob,h' id=some ob->h id=some ob)
 | [],zg,I,h,h',us,R,hr,hg,n=>by
  simp only[mY,au,aF]at hg;obtain⟨rfl,rfl⟩:=hg;exact⟨I,Step.refl R n,by simpa[dU] using hr,fun _ _ hh=>hh⟩
 |c::ps,zg,I,h,h',us,R,hr,hg,n=>by
  simp only[dU]at hr;obtain⟨u,r,rfl,h2,h3⟩:=hr;simp only[mY]at hg;cases hc:qu h c with
  |none=>simp[hc]at hg
  |some x=>
   obtain⟨c',sV⟩:=x;simp only[hc]at hg;cases hl:mY sV ps with
   |none=>simp[hl]at hg
   |some y=>
    obtain⟨cs1,E4⟩:=y;simp only[hl,au,aF]at hg;obtain⟨rfl,rfl⟩:=hg;obtain⟨I1,s1,r1,Df⟩:=Bw R h2 hc n;have hr3:dU w I1 σ ps r:=dU.ext' _ r s1.ext h3;obtain⟨I2,s2,r2,Re⟩:=zf s1.rel hr3 hl n;refine⟨I2,s1.trans s2,?_,fun id ob hh=>Df _ _ (Re _ _ hh)⟩;simp only[dU];exact⟨u,r,rfl,r1.ext s2.ext.GM,r2⟩
def qN(n:Nat)(σ σc:gH)(v:V)(m:Mask):gH:=fun id=>if id<n then σ id else RF σc v m (id-n)
theorem BM{n:Nat}{σ σc:gH}{v:V}{m:Mask}(q:Nat):qN n σ σc v m (n+q)=RF σc v m q:=by
 unfold qN;rw[if_neg (by omega),Nat.add_sub_cancel_left]
theorem RH {X:Env} {C:iz} (hC:qj X C) {bO:FuncId} {dst:Option Nat} {g:FuncId} {args:List V} {S S1:St} (he:kN X C bO dst g args S=some S1)
  {w:World} {I:Nat->Prop} {σ:gH} (R:Rel w I σ S.h) (F:jY σ S.h S.n) (us:Array Value) (hr:dU w I σ args us.toList):
  Calls X.P g us w fun e w'=> ∃u v I' σ',e= .returned u/\Step w I σ S.h S.n w' I' σ' S1.h S1.n/\S1.f=(S.set dst v).f/\cC w' I' σ' v u:=by
 unfold kN at he;generalize dst.elim [] (X.mask bO)=m at he;split at he
 case h_2=>cases he
 rename_i bez h1 hg;split at he
 case h_2=>cases he
 rename_i v hc k' oW;split at he
 case h_2=>cases he
 rename_i r hR;simp only[au]at he;subst he;obtain⟨I1,s1,r1,Df⟩:=zf R hr hg S.n;have F1:jY σ h1 S.n:=s1.fresh F;refine Calls.mono (hC g bez ky 0 v hc k' oW w I1 eA us (Rel.ky s1.rel.dy) (fun _ _=>⟨rfl,rfl⟩) r1) fun e w' hh=> ?_;obtain⟨u,I',σc,rfl,_,s,_,lX⟩:=hh;have s7: ∀b,gm σc (ep hc (eZ v m)) b->gm σc hc b:=fun b ⟨i,ob,o,k,g1,g2⟩=>⟨i,ob,o,k,(jv g1).1,g2⟩;obtain⟨q1,q2,q3⟩:=BJ s.rel lX (vz:=ep hc (eZ v m)) (fun id ob h=>jv h) hR (n:=S.n) (σ0:=qN S.n σ σc v m) (J:=fun b=>I' b\/gm σc (ep hc (eZ v m)) b) (fun b hb=> .inl hb) (fun b hb=> .inr hb) (fun b hb=>hb) (fun q _=>BM q);have Kb: ∀id ob,S.n<=id->tZ X (X.eh bO) r S.n m h1 id=some ob-> ∃q p,id=S.n+q/\m[q]?=some p/\xH X (X.eh bO) r p=some ob:=by
  intro id ob dg ho;rw[mq]at ho;split at ho
  ·rename_i hi;cases hq:m[id-S.n]? with
   |none=>rw[hq]at ho;cases ho
   |some p=>
    rw[hq]at ho;exact⟨id-S.n,p,by omega,hq,ho⟩
  ·rw[(F1 id dg).1]at ho;cases ho
 have st:Step w I σ S.h S.n w' (fun b=>I' b\/gm σc (ep hc (eZ v m)) b) (qN S.n σ σc v m) (tZ X (X.eh bO) r S.n m h1) (S.n+m.length):=by
  refine Step.call (x:=S.n) R F (fun _ _ h=>h) s1 Df s (fun b hb=>absurd hb np) (fun b hb=> .inl hb) (fun b hb=> ?_) (fun id dg=> ?_) (fun id dg _=> ?_) (fun ob eX=>by omega) (by omega) (fun id dg=>⟨?_,?_⟩) (fun id ob dg ho=> ?_) (fun id nj ob lU b o k o' k1 dg xV ho ud iT AQ=> ?_)
  ·rcases hb with hb|hb
   ·exact .inl hb
   ·exact .inr (s7 b hb)
  ·simp[qN,dg]
  ·rw[mq,if_neg (by omega)]
  ·unfold qN;rw[if_neg (by omega)];unfold RF;rw[List.getElem?_eq_none (by omega)]
  ·rw[mq,if_neg (by omega)];exact(F1 id (by omega)).1
  ·obtain⟨q,p,rfl,hq,hO⟩:=Kb id ob dg ho;obtain⟨g1,g2⟩:=q2 _ q p ob hq hO;refine⟨g1,fun b o k iT=>⟨?_,fun eX=>by omega⟩⟩;obtain⟨i,_,lU,o',k',h3,h4⟩:=g2 b o k iT;rcases s.own b ⟨i,lU,o',k',h3,h4⟩ with hx|hx
   ·exact .inl hx
   ·exact absurd hx np
  ·obtain⟨q,p,rfl,hq,hO⟩:=Kb id ob dg ho;obtain⟨q',p',rfl,Gu,hO'⟩:=Kb nj lU xV ud;have:=q3 q q' b o k o' k1 (List.getElem?_eq_some_iff.1 hq).1 (List.getElem?_eq_some_iff.1 Gu).1 iT AQ ⟨_,ob,by rw[hq];exact hO⟩ ⟨_,lU,by rw[Gu];exact hO'⟩;omega
 refine⟨u,_,_,_,rfl,?_,qo _ _ _ _ rfl,q1⟩;rw[dJ,fa];exact st
theorem Kc{w:World}{I:Nat->Prop}{σ:gH}: ∀(cs:List V) (b o:Nat),yQ w I σ cs b o-> ∃us:List Value,dn w I σ cs us/\ ∀(j:Nat) x,us[j]?=some x->w.cell? ⟨b,o+j,none⟩=some x:=by
 intro cs b;induction cs with
 |nil=>intro o _;exact⟨[],by simp[dn],by simp⟩
 |cons c cs ih=>
  intro o yZ;obtain⟨u,g1,g2,g3⟩:=yZ 0 c (by simp);obtain⟨us,g4,g5⟩:=ih (o+1) fun j c' hj=>by
   have:=yZ (j+1) c' (by simpa using hj);rwa[show o+(j+1)=o+1+j by omega]at this
  refine⟨u::us,by simp only[dn];exact⟨u,us,rfl,g2,g3,g4⟩,fun j x hj=> ?_⟩;cases j with
  |zero=>simp at hj;subst hj;exact g1
  |succ j=>
   have:=g5 j x (by simpa using hj);rwa[show o+1+j=o+(j+1) by omega]at this
theorem Hd{w:World}{I:Nat->Prop}{σ:gH}{e:V}{b o:Nat}(h:yQ w I σ e.cells b o): ∃ue:Value,cC w I σ e ue/\
  ∀{J:Nat->Prop} {σ':gH} {e':V},cC w J σ' e' ue->((∃cs,e= .agg cs)-> ∃cs,e'= .agg cs)->e'.cells.length=e.cells.length/\yQ w J σ' e'.cells b o:=by
 obtain⟨uc,huc,BK⟩:=Kc e.cells b o h;have wL:e.cells.length=uc.length:=((dh _ _).1 huc).1;have fin: ∀{J:Nat->Prop} {σ':gH} {e':V},dn w J σ' e'.cells uc->e'.cells.length=e.cells.length/\yQ w J σ' e'.cells b o:=by
  intro J σ' e' hsh;have hl1:e'.cells.length=uc.length:=((dh _ _).1 hsh).1;refine⟨by rw[hl1,wL],fun j c' hj=> ?_⟩;have hju:j<uc.length:=by rw[<-hl1];exact(List.getElem?_eq_some_iff.1 hj).1
  have A8:=((dh _ _).1 hsh).2 j c' uc[j] hj (by simp);exact⟨uc[j],BK j _ (by simp),A8.1,A8.2⟩
 by_cases hx: ∃cs,e= .agg cs
 ·obtain⟨cs,rfl⟩:=hx;refine⟨.agg uc.toArray,?_,fun{J σ' e'} hr ha=> ?_⟩
  ·simp only[cC];exact⟨_,rfl,by rw[List.toList_toArray];exact huc⟩
  ·obtain⟨qC,rfl⟩:=ha ⟨cs,rfl⟩;refine fin ?_;simp only[cC]at hr;obtain⟨yR,hz,hy⟩:=hr;simp only[Value.agg.injEq]at hz;subst hz;simpa[V.cells] using hy
 ·have AL: ∀cs,e≠ .agg cs:=fun cs e=>hx ⟨cs,e⟩;rw[kB AL]at huc;simp only[dn]at huc;obtain⟨ue,rr,rfl,g1,g2,rfl⟩:=huc;refine⟨ue,g2,fun{J σ' e'} hr _=> ?_⟩;refine fin ?_;have Xo: ∀cs,e'≠ .agg cs:=by
   intro cs Fh;subst Fh;simp only[cC]at hr;obtain⟨yR,rfl,_⟩:=hr;simp[Value.oneCell']at g1
  rw[kB Xo];simp only[dn];exact⟨ue,[],rfl,g1,hr,rfl⟩
theorem BN(F:Nat->Nat->V->V){v:V}(h: ∃cs,v= .agg cs): ∃cs,rR F v= .agg cs:=by
 obtain⟨cs,rfl⟩:=h;exact⟨_,rfl⟩
theorem ad6 {X:Env} {C:iz} (hC:qj X C) {bO:FuncId} {dst:Option Nat} {g:FuncId} {args:List V} {S S1:St} (rC:X.eJ g=true) (he:rU X C bO dst g args S=some S1)
  {w:World} {I:Nat->Prop} {σ:gH} (R:Rel w I σ S.h) (F:jY σ S.h S.n) (us:Array Value) (hr:dU w I σ args us.toList):
  Calls X.P g us w fun e w'=> ∃u v I' σ',e= .returned u/\Step w I σ S.h S.n w' I' σ' S1.h S1.n/\S1.f=(S.set dst v).f/\cC w' I' σ' v u:=by
 unfold rU at he;generalize hM:o7 X bO dst g=M at he;split at he
 case h_2=>cases he
 rename_i id rest;split at he
 case h_2=>cases he
 rename_i ob ea;split at he
 case h_2=>cases he
 rename_i e Kd;split at he
 case isFalse=>cases he
 rename_i RI;split at he
 case h_2=>cases he
 rename_i Ro hRo;split at he
 case h_2=>cases he
 rename_i bez h1 hg;split at he
 case h_2=>cases he
 rename_i v hc k' oW;split at he
 case h_2=>cases he
 rename_i kk r rs wP;simp only[au]at he;subst he;simp only[dU]at hr;obtain⟨u0,r0,hus,RK,aj6⟩:=hr;have asb:id<S.n:=by
  rcases Nat.lt_or_ge id S.n with hh|hh
  ·exact hh
  ·rw[(F id hh).1]at ea;cases ea
 obtain⟨b,o,c,el,iT,hbi,hhb,hle,dV⟩: ∃b o c el,σ id=some (b,o,ob.k)/\ ¬I b/\w.heap[b]?=some (Obj.cells c el (0,0))/\o+ob.es.length*ob.k<=c.size/\cQ w I (kH ob.dG σ) ob.es ob.k b o:=by
  rcases R.obj id ob ea with⟨hx,_⟩|hx
  ·rw[Kd]at hx;cases hx
  ·exact hx
 have RL:cQ w I σ [e] ob.k b o:=by
  rw[<-Kd];exact dV.lJ (Ext.Bq ob.dG) rfl
 have aj8:e.cells.length=ob.k/\yQ w I σ e.cells b o:=by
  rw[jR]at RL;exact⟨RL.1,RL.2.1⟩
 have eX:b<w.heap.size:=R.jJ ⟨id,ob,o,ob.k,ea,iT⟩;generalize hom:X.dM g=om at*;have hkn: ∀{l:List (Option Nat)} {h:aY} {i:Nat},some i∈l->ep h l i=none:=fun{l h i} hm=>by
  cases hz:ep h l i with
  |none=>rfl
  |some y=>exact absurd hm (jv hz).2
 have NV: ∀i y,aO S.h id none i=some y->i≠id/\S.h i=some y:=by
  intro i y hy;by_cases ei:i=id
  ·subst ei;simp[aO]at hy
  ·exact⟨ei,by simpa[aO,ei] using hy⟩
 have Xs: ∀i y,ep (aO S.h id none) (eZ e om) i=some y->S.h i=some y:=fun i y hy=>(NV i y (jv hy).1).2;have ad7:ep (aO S.h id none) (eZ e om) id=none:=by
  cases hz:ep (aO S.h id none) (eZ e om) id with
  |none=>rfl
  |some y=>exact absurd rfl (NV id y (jv hz).1).1
 obtain⟨I1,s1,r1,Df⟩:=zf (R.sub Xs) aj6 hg S.n;have hnK: ∀i y b o k,S.h i=some y->σ i=some (b,o,k)->ep (aO S.h id none) (eZ e om) i=none-> ¬gm σ (ep (aO S.h id none) (eZ e om)) b:=by
  rintro i y b o k h2 h3 h4 ⟨i2,y2,o2,k2,g1,g2⟩;have:i2=i:=R.apart i2 i y2 y b o2 k2 o k (Xs _ _ g1) h2 g2 h3;subst this;rw[h4]at g1;cases g1
 have mW: ∀i y b o k,S.h i=some y->σ i=some (b,o,k)->ep (aO S.h id none) (eZ e om) i=none-> ¬I1 b:=by
  intro i y b o k h2 h3 h4 hx;rcases s1.sq b hx with hy|hy|hy
  ·exact(R.owned ⟨i,y,o,k,h2,h3⟩).1 hy
  ·have:=R.jJ ⟨i,y,o,k,h2,h3⟩;omega
  ·exact hnK i y b o k h2 h3 h4 hy
 have asc: ¬I1 b:=mW id ob b o ob.k ea iT ad7;obtain⟨ue,hue,aj9⟩:=Hd aj8.2;obtain⟨p1,p2,p3⟩:=BJ (R.kill id) hue (vz:=fun _=>none) (fun _ _ h=>by cases h) hRo (n:=1) (σ0:=qN 1 (fun _=>σ id) σ e om) (J:=I) (fun b hb=>hb) (fun b hb=>by
  obtain⟨_,_,_,_,h,_⟩:=hb;cases h) (fun b hb=> .inl hb) (fun q _=>BM q)
 have EI: ∀τ:gH,Ext w I τ w I1 τ:=fun τ=>⟨fun _ _=>rfl,fun _ c _ fz hh=>⟨c,fz,hh,rfl⟩,s1.ext.imp,fun _ _ hh=>hh⟩;have ad8: ∀(q:Nat) (p:Nat×Nat×TypeId) (y:Ob),om[q]?=some p->xH X (X.eh g) Ro p=some y-> ∀b' o' k1,qN 1 (fun _=>σ id) σ e om (1+q)=some (b',o',k1)-> ∃i y',i≠id/\S.h i=some y'/\ep (aO S.h id none) (eZ e om) i=none/\ ∃o2 k2,σ i=some (b',o2,k2):=by
  intro q p y hq hO b' o' k1 ln;obtain⟨i,BK,y',o2,k2,g1,g2⟩:=(p2 _ q p y hq hO).2 b' o' k1 ln;exact⟨i,y',(NV i y' g1).1,(NV i y' g1).2,hkn BK,o2,k2,g2⟩
 have D7: ∀i y,kg X g ob.k Ro i=some y->(i=0/\y=⟨ob.k,[rT 1 om Ro],true⟩)\/ ∃q p,i=1+q/\om[q]?=some p/\xH X (X.eh g) Ro p=some y:=by
  intro i y hy;unfold kg at hy;rw[hom]at hy;rw[mq]at hy;split at hy
  ·rename_i hi;right;cases hq:om[i-1]? with
   |none=>rw[hq]at hy;cases hy
   |some p=>
    rw[hq]at hy;exact⟨i-1,p,by omega,hq,hy⟩
  ·left;simp only[aO]at hy;split at hy
   ·rename_i e0;simp only[au]at hy;exact⟨e0,hy.symm⟩
   ·cases hy
 have He:qN 1 (fun _=>σ id) σ e om 0=some (b,o,ob.k):=by simp[qN,iT]
 have aak:(rT 1 om Ro).cells.length=ob.k/\yQ w I1 (qN 1 (fun _=>σ id) σ e om) (rT 1 om Ro).cells b o:=by
  have Rv:(∃cs,e= .agg cs)-> ∃cs,rT 1 om Ro= .agg cs:=fun h=>by
   unfold xG at hRo;split at hRo
   case isFalse=>cases hRo
   simp only[au]at hRo;rw[<-hRo];exact BN _ (BN _ h)
  obtain⟨g1,g2⟩:=aj9 (p1.ext (EI _)) Rv;exact⟨by rw[g1];exact aj8.1,g2⟩
 have Xi:o+ [e].length*ob.k<=c.size:=by rw[Kd]at hle;simpa using hle
 have Rs:Rel w I1 (qN 1 (fun _=>σ id) σ e om) (kg X g ob.k Ro):=by
  refine⟨s1.rel.dy,fun i y hy=> ?_,fun i i' y y' b1 o1 k1 o2 k2 g1 g2 g3 g4=> ?_⟩
  ·rcases D7 i y hy with⟨rfl,rfl⟩|⟨q,p,rfl,hq,hO⟩
   ·refine .inr ⟨b,o,c,el,He,asc,hhb,by simpa using Xi,?_⟩;simp only[kH,if_true];rw[jR];exact⟨aak.1,aak.2,by simp[cQ]⟩
   ·rcases(p2 _ q p y hq hO).1 with hx|⟨b',o',c',Mp,g1,g2,g3,g4,g5⟩
    ·exact .inl hx
    ·obtain⟨i,y',_,k1,k2,o2,k3,k4⟩:=ad8 q p y hq hO b' o' y.k g1;exact .inr ⟨b',o',c',Mp,g1,mW i y' b' o2 k3 k1 k4 k2,g3,g4,g5.lJ ((EI _).o9 _) rfl⟩
  ·have aal: ∀q p y b1 o1 k1 o2 k2,om[q]?=some p->xH X (X.eh g) Ro p=some y->qN 1 (fun _=>σ id) σ e om (1+q)=some (b1,o1,k1)->qN 1 (fun _=>σ id) σ e om 0=some (b1,o2,k2)->False:=by
    intro q p y b1 o1 k1 o2 k2 hq hO h3 h4;obtain⟨i,y',iK,m1,m2,o3,k3,m4⟩:=ad8 q p y hq hO b1 o1 k1 h3;rw[He]at h4;simp only[au,aF]at h4;obtain⟨rfl,_,_⟩:=h4;exact iK (R.apart i id y' ob b o3 k3 o ob.k m1 ea m4 iT)
   rcases D7 i y g1 with⟨rfl,rfl⟩|⟨q,p,rfl,hq,hO⟩
   ·rcases D7 i' y' g2 with⟨rfl,rfl⟩|⟨q',p',rfl,Gu,hO'⟩
    ·rfl
    ·exact(aal q' p' y' b1 o2 k2 o1 k1 Gu hO' g4 g3).elim
   ·rcases D7 i' y' g2 with⟨rfl,rfl⟩|⟨q',p',rfl,Gu,hO'⟩
    ·exact(aal q p y b1 o1 k1 o2 k2 hq hO g3 g4).elim
    ·have:=p3 q q' b1 o1 k1 o2 k2 (List.getElem?_eq_some_iff.1 hq).1 (List.getElem?_eq_some_iff.1 Gu).1 g3 g4 ⟨_,y,by rw[hq];exact hO⟩ ⟨_,y',by rw[Gu];exact hO'⟩;omega
 have Fs:jY (qN 1 (fun _=>σ id) σ e om) (kg X g ob.k Ro) (1+om.length):=fun i hi=>by
  refine⟨?_,?_⟩
  ·cases hz:kg X g ob.k Ro i with
   |none=>rfl
   |some y=>
    rcases D7 i y hz with⟨rfl,rfl⟩|⟨q,p,rfl,hq,hO⟩
    ·omega
    ·have:=(List.getElem?_eq_some_iff.1 hq).1;omega
  ·unfold qN;rw[if_neg (by omega)];unfold RF;rw[List.getElem?_eq_none (by omega)]
 have fJ:dU w I1 (qN 1 (fun _=>σ id) σ e om) (.ptr 0 0 0::bez) us.toList:=by
  rw[hus];simp only[dU];refine⟨u0,r0,rfl,?_,dU.ext' _ _ Ext.free r1⟩;simp only[cC]at RK⊢;obtain⟨b',o',k1,g1,g2⟩:=RK;rw[iT]at g1;simp only[au,aF]at g1;obtain⟨rfl,rfl,rfl⟩:=g1;exact⟨b,o,ob.k,He,by rw[g2]⟩
 refine Calls.mono (hC g (.ptr 0 0 0::bez) (kg X g ob.k Ro) (1+om.length) v hc k' oW w I1 _ us Rs Fs fJ) fun ex w' hh=> ?_;obtain⟨u,I',σc,rfl,_,s0,_,lX⟩:=hh;have s:rV 1 w I1 (qN 1 (fun _=>σ id) σ e om) (kg X g ob.k Ro) w' I' σc hc:=s0.less (by unfold Gt;rw[if_pos rC];split<;>omega);have hσc:σc 0=some (b,o,ob.k):=by rw[s.sigs 0 (by omega)];exact He
 unfold xJ at wP;split at wP
 case h_2=>cases wP
 rename_i lU N0;split at wP
 case h_2=>cases wP
 rename_i e' ad9;split at wP
 case isFalse=>cases wP
 rename_i hkp;split at wP
 case h_2=>cases wP
 rename_i r' N1 hR;simp only[au,aF]at wP;obtain⟨rfl,rfl,rfl⟩:=wP;obtain⟨c',Mp,ase,asf,AJ,tM⟩: ∃c' Mp,¬I' b/\w'.heap[b]?=some (Obj.cells c' Mp (0,0))/\o+ [e'].length*lU.k<=c'.size/\cQ w' I' σc [e'] lU.k b o:=by
  rcases s.rel.obj 0 lU N0 with⟨hx,_⟩|⟨b2,o2,c2,el2,g1,g2,g3,g4,g5⟩
  ·rw[ad9]at hx;cases hx
  ·rw[hσc]at g1;simp only[au,aF]at g1;obtain⟨rfl,rfl,_⟩:=g1;rw[ad9]at g4 g5;exact⟨c2,el2,g2,g3,g4,g5.lJ (Ext.Bq lU.dG) rfl⟩
 have tP:lU.k=ob.k:=by
  rcases s.rel.obj 0 lU N0 with⟨hx,_⟩|⟨b2,o2,c2,el2,g1,_⟩
  ·rw[ad9]at hx;cases hx
  ·rw[hσc]at g1;simp only[au,aF]at g1;exact g1.2.2.symm
 have aam:e'.cells.length=lU.k/\yQ w' I' σc e'.cells b o:=by
  rw[jR]at tM;exact⟨tM.1,tM.2.1⟩
 obtain⟨ue',akb,aea⟩:=Hd aam.2;have akc: ∃uu,cC w' I' σc (nF e' v) uu/\ ∀(J:Nat->Prop) (σ':gH) (x:V) (T:List V),cC w' J σ' (.de (x::T)) uu->cC w' J σ' x ue'/\cC w' J σ' (uq v T) u:=by
  by_cases hv: ∃vs,v= .de vs
  ·obtain⟨vs,rfl⟩:=hv;simp only[cC]at lX;obtain⟨yR,rfl,hl⟩:=lX;refine⟨.tuple (ue'::yR.toList).toArray,?_,fun J σ' x T h=> ?_⟩
   ·simp only[nF,cC,dU];exact⟨_,rfl,ue',yR.toList,by simp,akb,hl⟩
   ·simp only[cC,dU]at h;obtain⟨Xh,h1,u2,r2,h2,h3,h4⟩:=h;simp only[Value.tuple.injEq]at h1;subst h1;simp only[List.cons.injEq]at h2;obtain⟨rfl,rfl⟩:=h2;refine⟨h3,?_⟩;simp only[uq,cC];exact⟨yR,rfl,h4⟩
  ·have C9: ∀vs,v≠ .de vs:=fun vs h=>hv ⟨vs,h⟩;have e1:nF e' v= .de [e',v]:=by cases v<;>first|rfl|exact absurd rfl (C9 _)
   have e2: ∀T,uq v T=T.headD .bad:=by intro T;cases v<;>first|rfl|exact absurd rfl (C9 _)
   refine⟨.tuple #[ue',u],?_,fun J σ' x T h=> ?_⟩
   ·rw[e1];simp only[cC,dU];exact⟨_,rfl,ue',[u],rfl,akb,u,[],rfl,lX,rfl⟩
   ·simp only[cC,dU]at h;obtain⟨Xh,h1,u2,r2,h2,h3,h4⟩:=h;simp only[Value.tuple.injEq]at h1;subst h1;simp only[List.cons.injEq]at h2;obtain⟨rfl,rfl⟩:=h2;refine⟨h3,?_⟩;rw[e2];cases T with
    |nil=>simp[cC]
    |cons y T=>
     simp only[dU]at h4;obtain⟨u3,r3,h5,h6,_⟩:=h4;simp only[List.cons.injEq]at h5;obtain⟨rfl,_⟩:=h5;exact h6
 obtain⟨uu,huu,Rt⟩:=akc;have hRX:xG X (aO hc 0 none) (ep (aO hc 0 none) (eZ (nF e' v) M)) (nF e' v) M=some (.de (r'::N1)):=hR;obtain⟨q1,q2,q3⟩:=BJ (s.rel.kill 0) huu (vz:=ep (aO hc 0 none) (eZ (nF e' v) M)) (fun _ _ h=>jv h) hRX (n:=S.n) (σ0:=qN S.n σ σc (nF e' v) M) (J:=fun b=>I' b\/gm σc (ep (aO hc 0 none) (eZ (nF e' v) M)) b) (fun b hb=> .inl hb) (fun b hb=> .inr hb) (fun b hb=>hb) (fun q _=>BM q);have hT:rT S.n M (.de (r'::N1))= .de (Bn (rT S.n M (.de (r'::N1)))::Mo (rT S.n M (.de (r'::N1)))):=rfl;rw[hT]at q1;obtain⟨akd,ake⟩:=Rt _ _ _ _ q1;have Rv:(∃cs,e'= .agg cs)-> ∃cs,Bn (rT S.n M (.de (r'::N1)))= .agg cs:=by
  rintro⟨cs,rfl⟩;have h1: ∃rest,nF (.agg cs) v= .de (.agg cs::rest):=by cases v<;>exact⟨_,rfl⟩
  obtain⟨rest,h1⟩:=h1;unfold xG at hRX;split at hRX
  case isFalse=>cases hRX
  rw[h1]at hRX;simp only[sy,oS,pK,au,V.de.injEq,List.cons.injEq]at hRX;rw[<-hRX.1];exact⟨_,rfl⟩
 obtain⟨mM,yZ⟩:=aea akd Rv;have aan: ∀b',gm σc (ep (aO hc 0 none) (eZ (nF e' v) M)) b'->gm σc (aO hc 0 none) b':=fun b' ⟨i,y,o1,k1,g1,g2⟩=>⟨i,y,o1,k1,(jv g1).1,g2⟩;have hJb: ¬(I' b\/gm σc (ep (aO hc 0 none) (eZ (nF e' v) M)) b):=by
  rintro(hx|hx)
  ·exact ase hx
  ·exact s.rel.JS N0 hσc (aan b hx)
 have akf: ∀i,S.n<=i->h1 i=none:=fun i hi=>by
  cases hz:h1 i with
  |none=>rfl
  |some y=>
   have:=Xs i y (Df i y hz);rw[(F i hi).1]at this;cases this
 have Kb: ∀i y,S.n<=i->tZ X (X.eh bO) (.de (r'::N1)) S.n M (aO h1 id (some ⟨lU.k,[Bn (rT S.n M (.de (r'::N1)))],true⟩)) i=some y-> ∃q p,i=S.n+q/\M[q]?=some p/\xH X (X.eh bO) (.de (r'::N1)) p=some y:=by
  intro i y dg ho;rw[mq]at ho;split at ho
  ·rename_i hi;cases hq:M[i-S.n]? with
   |none=>rw[hq]at ho;cases ho
   |some p=>
    rw[hq]at ho;exact⟨i-S.n,p,by omega,hq,ho⟩
  ·have:i≠id:=by omega
   simp only[aO,this,if_false]at ho;rw[akf i dg]at ho;cases ho
 have st:Step w I σ S.h S.n w' (fun b=>I' b\/gm σc (ep (aO hc 0 none) (eZ (nF e' v) M)) b) (qN S.n σ σc (nF e' v) M) (tZ X (X.eh bO) (.de (r'::N1)) S.n M (aO h1 id (some ⟨lU.k,[Bn (rT S.n M (.de (r'::N1)))],true⟩))) (S.n+M.length):=by
  refine Step.call (x:=id) R F Xs s1 Df s (fun b' vp=> ?_) (fun b hb=> .inl hb) (fun b' vp=> ?_) (fun i dg=> ?_) (fun i dg iK=> ?_) (fun y Xu hy=>⟨?_,fun b2 o2 k2 h2=> ?_,?_⟩) (by omega) (fun i dg=>⟨?_,?_⟩) (fun i y dg ho=> ?_) (fun i i' y y' b1 o1 k1 o2 k2 dg xV ho ud pa Xv=> ?_)
  ·obtain⟨i,y,o1,k1,g1,g2⟩:=vp;rcases D7 i y g1 with⟨rfl,rfl⟩|⟨q,p,rfl,hq,hO⟩
   ·rw[He]at g2;simp only[au,aF]at g2;obtain⟨rfl,_,_⟩:=g2;exact⟨⟨id,ob,o,ob.k,ea,iT⟩,hnK id ob b o ob.k ea iT ad7⟩
   ·obtain⟨i2,y2,_,m1,m2,o3,k3,m4⟩:=ad8 q p y hq hO b' o1 k1 g2;exact⟨⟨i2,y2,o3,k3,m1,m4⟩,hnK i2 y2 b' o3 k3 m1 m4 m2⟩
  ·rcases vp with hx|hx
   ·exact .inl hx
   ·exact .inr (aan b' hx).JQ
  ·simp[qN,dg]
  ·rw[mq,if_neg (by omega)];simp[aO,iK]
  ·rw[ea];simp
  ·rw[iT]at h2;simp only[au,aF]at h2;obtain⟨rfl,_,_⟩:=h2;exact hnK id ob b o ob.k ea iT ad7
  ·rw[mq,if_neg (by omega)]at hy;simp[aO]at hy;subst hy;refine .inr ⟨b,o,c',Mp,?_,hJb,asf,by simpa using AJ,?_⟩
   ·unfold qN;rw[if_pos asb,iT,tP]
   ·simp only[kH,if_true];rw[jR];exact⟨by rw[mM];exact aam.1,yZ,by simp[cQ]⟩
  ·unfold qN;rw[if_neg (by omega)];unfold RF;rw[List.getElem?_eq_none (by omega)]
  ·rw[mq,if_neg (by omega)];have iK:i≠id:=by omega
   simp only[aO,iK,if_false];exact akf i (by omega)
  ·obtain⟨q,p,rfl,hq,hO⟩:=Kb i y dg ho;refine⟨(q2 _ q p y hq hO).1,fun b2 o2 k2 ln=> ?_⟩;obtain⟨i2,_,y2,o3,k3,h3,h4⟩:=(q2 _ q p y hq hO).2 b2 o2 k2 ln;have hi0:i2≠0:=fun ei=>by subst ei;simp[aO]at h3
   have h3':hc i2=some y2:=by simpa[aO,hi0] using h3
   refine⟨s.own b2 ⟨i2,y2,o3,k3,h3',h4⟩,fun _ o4 k4 h5=> ?_⟩;rw[iT]at h5;simp only[au,aF]at h5;obtain⟨rfl,_,_⟩:=h5;exact hi0 (s.rel.apart i2 0 y2 lU b o3 k3 o ob.k h3' N0 h4 hσc)
  ·obtain⟨q,p,rfl,hq,hO⟩:=Kb i y dg ho;obtain⟨q',p',rfl,Gu,hO'⟩:=Kb i' y' xV ud;have:=q3 q q' b1 o1 k1 o2 k2 (List.getElem?_eq_some_iff.1 hq).1 (List.getElem?_eq_some_iff.1 Gu).1 pa Xv ⟨_,y,by rw[hq];exact hO⟩ ⟨_,y',by rw[Gu];exact hO'⟩;omega
 refine⟨u,_,_,_,rfl,?_,qo _ _ _ _ rfl,ake⟩;rw[dJ,fa];exact st
theorem RM {X:Env} {C:iz} (hC:qj X C) (hK:rE X) {bO:FuncId} {dst:Option Nat} {g:FuncId} {args:List V} {S S1:St} (he:eK X C bO dst g args S=some S1)
  {w:World} {I:Nat->Prop} {σ:gH} (R:Rel w I σ S.h) (F:jY σ S.h S.n) (us:Array Value) (hr:dU w I σ args us.toList):
  Calls X.P g us w fun e w'=> ∃u v I' σ',e= .returned u/\Step w I σ S.h S.n w' I' σ' S1.h S1.n/\S1.f=(S.set dst v).f/\cC w' I' σ' v u:=by
 unfold eK at he;split at he
 ·rename_i t mM;split at he
  case h_2=>cases he
  rename_i s;split at he
  case h_2=>cases he
  rename_i es kx su;split at he
  ·cases he
  rename_i ku;simp only[Bool.or_eq_true,Bool.and_eq_true,Bool.not_eq_true',not_or,not_and,Bool.not_eq_false,decide_eq_true_eq,Bool.not_eq_true]at ku;obtain⟨⟨⟨NY,hk⟩,hl⟩,hb⟩:=ku;simp only[au]at he;subst he;simp only[dU]at hr;obtain⟨u,r,hus,hu,rfl⟩:=hr;have:us= #[u]:=by rw[<-Array.toList_inj];exact hus
  subst this;refine Calls.mono (hK g t mM w I σ S.h S.n s u es kx _ R (F S.n (Nat.le_refl _)).1 (F S.n (Nat.le_refl _)).2 hu su NY hk (A7 hl) hb.1 hb.2) fun e w' hh=> ?_;obtain⟨r,σ',rfl,hs,lX⟩:=hh;exact⟨r,_,I,σ',rfl,by rw[dJ,fa];exact hs,qo _ _ _ _ rfl,lX⟩
 ·split at he
  ·rename_i hby
   have xU:X.low g=false:=by
    simp only[Bool.and_eq_true,Bool.not_eq_true']at hby;exact hby.2
   split at he
   case h_2=>cases he
   rename_i v h n hc;simp only[au]at he;subst he;refine Calls.mono (hC g args S.h S.n v h n hc w I σ us R F hr) fun e w' hh=> ?_;obtain⟨u,I',σ',rfl,hle,Hf,lK,lX⟩:=hh;rw[uC xU]at hle Hf;have hs:=Hf.step F lK hle;exact⟨u,v,I',σ',rfl,by rw[dJ,fa];exact hs,qo _ _ _ _ rfl,lX⟩
  split at he
  ·rename_i rC;exact ad6 hC rC he R F us hr
  split at he
  ·exact RH hC he R F us hr
  ·split at he
   case h_2=>cases he
   rename_i bez has;split at he
   ·rename_i qO;have xU:X.low g=false:=by
     simp only[Bool.and_eq_true,Bool.not_eq_true']at qO;exact qO.2
    split at he
    case h_2=>cases he
    rename_i v h n hc;split at he
    ·cases he
    rename_i ku;simp only[au]at he;subst he;by_cases lW:args.any V.tY=true
    ·have hpu:v.pu=true:=by
      simpa[lW] using ku
     have Fk:dU w (fun b=>I b\/gm σ S.h b) eA bez us.toList:=xT has hr fun v v' u _ ht A3=>rD R (fun b hb=> .inl hb) (fun b hb=> .inr hb) depth v v' u ht A3;have R0:Rel w (fun b=>I b\/gm σ S.h b) eA ky:=Rel.ky fun b hb=>by
      rcases hb with hb|hb
      ·exact R.dy b hb
      ·exact R.jJ hb
     refine Calls.mono (hC g (df bez) ky S.n v h n hc w _ eA us R0 (fun _ _=>⟨rfl,rfl⟩) (dU.lA _ _ Fk)) fun e w' hh=> ?_;obtain⟨u,I',σ',rfl,hle,Hf,lK,lX⟩:=hh;rw[uC xU]at hle Hf;have hs:=Hf.step (fun _ _=>⟨rfl,rfl⟩) lK hle;obtain⟨s1,s2⟩:=Step.Xp R F hs;refine⟨u,v,_,_,rfl,?_,qo _ _ _ _ rfl,(ad2 hpu lX).ext s2⟩;rw[dJ,fa];simp only[lW,if_true];exact s1
    ·have Fk:dU w I eA bez us.toList:=xT has hr fun v v' u hv ht A3=>Ry (by
      simp only[List.any_eq_true,not_exists,not_and,Bool.not_eq_true]at lW;exact lW v hv) ht A3
     refine Calls.mono (hC g (df bez) ky S.n v h n hc w I eA us (Rel.ky R.dy) (fun _ _=>⟨rfl,rfl⟩) (dU.lA _ _ Fk)) fun e w' hh=> ?_;obtain⟨u,I',σ',rfl,hle,Hf,lK,lX⟩:=hh;rw[uC xU]at hle Hf;have hs:=Hf.step (fun _ _=>⟨rfl,rfl⟩) lK hle;obtain⟨s1,s2⟩:=Step.mX R F hs;refine⟨u,v,I',_,rfl,?_,qo _ _ _ _ rfl,lX.ext s2⟩;rw[dJ,fa];simp only[lW,if_false,Bool.false_eq_true];exact s1
   ·split at he
    case h_2=>cases he
    rename_i v h n hc;split at he
    case h_2=>cases he
    rename_i v' C9;split at he
    ·cases he
    rename_i ku;simp only[au]at he;subst he;by_cases lW:args.any V.tY=true
    ·have JA:v'.scalar=true:=by
      simpa[lW] using ku
     have Fk:dU w (fun b=>I b\/gm σ S.h b) eA bez us.toList:=xT has hr fun v v' u _ ht A3=>rD R (fun b hb=> .inl hb) (fun b hb=> .inr hb) depth v v' u ht A3;have R0:Rel w (fun b=>I b\/gm σ S.h b) eA ky:=Rel.ky fun b hb=>by
      rcases hb with hb|hb
      ·exact R.dy b hb
      ·exact R.jJ hb
     refine Calls.mono (hC g (df bez) ky 0 v h n hc w _ eA us R0 (fun _ _=>⟨rfl,rfl⟩) (dU.lA _ _ Fk)) fun e w' hh=> ?_;obtain⟨u,I',σ',rfl,hle,Hf,lK,lX⟩:=hh;rw[BG]at hle Hf;have hs:=Hf.step (fun _ _=>⟨rfl,rfl⟩) lK hle;have hrv:=rD (J:=fun b=>I' b\/gm σ' h b) hs.rel (fun b hb=> .inl hb) (fun b hb=> .inr hb) depth v v' u C9 lX;refine⟨u,v'.jm,I,σ,rfl,?_,rfl,(J8 JA hrv).jm⟩;rw[dJ,fa];exact Step.inner R hs (fun b hb=> .inl hb) (fun b hb=>hb) (fun b hb=> .inl hb) S.n
    ·have Fk:dU w I eA bez us.toList:=xT has hr fun v v' u hv ht A3=>Ry (by
      simp only[List.any_eq_true,not_exists,not_and,Bool.not_eq_true]at lW;exact lW v hv) ht A3
     refine Calls.mono (hC g (df bez) ky 0 v h n hc w I eA us (Rel.ky R.dy) (fun _ _=>⟨rfl,rfl⟩) (dU.lA _ _ Fk)) fun e w' hh=> ?_;obtain⟨u,I',σ',rfl,hle,Hf,lK,lX⟩:=hh;rw[BG]at hle Hf;have hs:=Hf.step (fun _ _=>⟨rfl,rfl⟩) lK hle;have hrv:=rD (J:=fun b=>I' b\/gm σ' h b) hs.rel (fun b hb=> .inl hb) (fun b hb=> .inr hb) depth v v' u C9 lX;refine⟨u,v'.jm,_,σ,rfl,?_,rfl,(hrv.ext Ext.free).jm⟩;rw[dJ,fa];refine Step.inner R hs (fun b hb=>hb) (fun b hb=> .inl (hs.ext.imp b hb)) (fun b hb=> ?_) S.n;rcases hb with hb|hb
     ·rcases hs.sq b hb with hx|hx|hx
      ·exact .inl hx
      ·exact .inr ⟨hx,hs.rel.dy b hb⟩
      ·exact absurd hx np
     ·rcases hs.own b hb with hx|hx
      ·exact .inr ⟨hx,hs.rel.jJ hb⟩
      ·exact absurd hx np
end Go.Abs
