/- part -/
import Derived.Test.YtdngefmliibcgaaGreatV25
set_option linter.all false
set_option maxRecDepth 20000
set_option maxHeartbeats 20000000
namespace Go.Abs
open Go
variable  {X:Env}{g bZ:FuncId}{C:jm}{bx7 args es Aj cs:List V}{v v' e e' R':V}{us:List Value}{u:Value}{S S1:St}
def lV(σ:ju)(h:bh)(n:Nat):Prop:= ∀id,n<=id->h id=none/\σ id=none
def kS:bh:=fun _=>none
structure vn (m:Nat) (w:World) (I:Nat->Prop) (σ:ju) (h:bh) (w':World) (I':Nat->Prop) (σ':ju) (h':bh):Prop where
 Mo: ∀b,I b->w'.heap[b]?=w.heap[b]?
 grow: ∀(b:Nat) c el fz,w.heap[b]?=some (Obj.cells c el fz)-> ∃c' fz',w'.heap[b]?=some (Obj.cells c' el fz')/\c'.size=c.size
 imp: ∀b,I b->I' b
 rel:Rel w' I' σ' h'
 os:w'.os=w.os
 tape:w'.tape=w.tape
 output:w'.output=w.output
 size:w.heap.size<=w'.heap.size
 frame: ∀b,b<w.heap.size-> ¬jk σ h b->w'.heap[b]?=w.heap[b]?
 own: ∀b,jk σ' h' b->w.heap.size<=b\/jk σ h b
 vY: ∀b,I' b->I b\/w.heap.size<=b\/jk σ h b
 sigs: ∀id,id<m->σ' id=σ id
 news: ∀id,id<m->h id=none->h' id=none
section
variable {w w1 w2 w':World} {I I1 I2 I':Nat->Prop} {σ σ1 σ2 σ':ju} {h h1 h2 h':bh} {n n' m:Nat}
theorem Step.aym(s:Step w I σ h n w' I' σ' h' n')(hm:m<=n):vn m w I σ h w' I' σ' h':=
 ⟨s.ext.Mo,s.ext.grow,s.ext.imp,s.rel,s.os,s.tape,s.output,s.size,s.frame,s.own,s.vY,fun id fa=>s.sigs id (.inl (by omega)),fun id fa=>s.news id (.inl (by omega))⟩
theorem vn.refl(R:Rel w I σ h)(m:Nat):vn m w I σ h w I σ h:=(Step.refl R m).aym (aaI _)
theorem vn.trans(s:vn m w I σ h w1 I1 σ1 h1)(s':vn m w1 I1 σ1 h1 w2 I2 σ2 h2):vn m w I σ h w2 I2 σ2 h2 where
 Mo:=fun b hb=>(s'.Mo b (s.imp b hb)).trans (s.Mo b hb)
 grow:=fun b c el fz hb=>by
  obtain⟨c1,fz1,h1,e1⟩:=s.grow b c el fz hb;obtain⟨c2,fz2,h2,e2⟩:=s'.grow b c1 el fz1 h1
  grind
 imp:=fun b hb=>s'.imp b (s.imp b hb)
 rel:=s'.rel
 os:=s'.os.trans s.os
 tape:=s'.tape.trans s.tape
 output:=s'.output.trans s.output
 size:=abK s.size s'.size
 frame:=fun b hb ho=>(s'.frame b (abY hb s.size) (fun hx=>by
  rcases s.own b hx with hx|hx
  ·omega
  grind)).trans (s.frame b hb ho)
 own:=fun b hb=>by
  rcases s'.own b hb with hx|hx
  ·exact .inl (abK s.size hx)
  ·exact s.own b hx
 vY:=fun b hb=>by
  rcases s'.vY b hb with hx|hx|hx
  ·exact s.vY b hx
  ·exact .inr (.inl (abK s.size hx))
  ·exact .inr (s.own b hx)
 sigs:=fun id fa=>(s'.sigs id fa).trans (s.sigs id fa)
 news:=fun id fa hz=>s'.news id fa (s.news id fa hz)
theorem vn.step(s:vn n w I σ h w' I' σ' h')(F:lV σ h n)(F':lV σ' h' n')(hn:n<=n'):Step w I σ h n w' I' σ' h' n' where
 ext:=⟨s.Mo,s.grow,s.imp,fun id x hx=>by
  by_cases fa:id<n
  ·rw[s.sigs id fa];omega
  ·rw[(F id (by omega)).2]at hx;grind⟩
 rel:=s.rel
 os:=s.os
 tape:=s.tape
 output:=s.output
 size:=s.size
 frame:=s.frame
 own:=s.own
 vY:=s.vY
 le:=hn
 sigs:=fun id fa=>by
  rcases fa with fa|fa
  ·exact s.sigs id fa
  ·rw[(F id (by omega)).2,(F' id fa).2]
 news:=fun id fa hz=>by
  rcases fa with fa|fa
  ·exact s.news id fa hz
  ·exact(F' id fa).1
end
def vn.less{w w':World}{I I':Nat->Prop}{σ σ':ju}{h h':bh}{m m':Nat}(s:vn m w I σ h w' I' σ' h')(hm:m'<=m):vn m' w I σ h w' I' σ' h':=
 {s with sigs:=fun id fa=>s.sigs id (by omega),news:=fun id fa=>s.news id (by omega)}
def L2(X:Env)(g:FuncId)(k:Nat):Nat:=if X.low g=true then min (if X.gq g=true then 1 else 0) k else k
def YX(X:Env)(g:FuncId):L2 X g 0=0:=by unfold L2;grind
def YY(X:Env)(g:FuncId)(k:Nat):L2 X g k<=k:=by unfold L2;grind
def yp(h:X.low g=false)(k:Nat):L2 X g k=k:=by unfold L2;grind
def qY(X:Env)(C:jm):Prop:= ∀g args h k v h' k',C g args h k=some (v,h',k')-> ∀w I σ (us:Array Value),Rel w I σ h->lV σ h k->iO w I σ args us.toList->
 Calls X.P g us w fun e w'=> ∃u I' σ',e= .returned u/\L2 X g k<=k'/\vn (L2 X g k) w I σ h w' I' σ' h'/\lV σ' h' k'/\dD w' I' σ' v u
def FE(X:Env):Prop:= ∀g pr,X.oS g=some pr-> ∀C,qY X C-> ∀args v,pr.run C args=some v-> ∀w I (us:Array Value),Rel w I fv kS->iO w I fv args us.toList->
 Calls X.P g us w fun e w'=> ∃u I',e= .returned u/\Step w I fv kS 0 w' I' fv kS 0/\dD w' I' fv v u
def Calls.oS(hC:qY X C)(hP:FE X){h:bh}{n:Nat}(hc:rM X C g bx7=some (v,h,n)){w:World}{I:Nat->Prop}{us:Array Value}(R:Rel w I fv kS)(hr:iO w I fv bx7 us.toList):
  Calls X.P g us w fun e w'=> ∃u I' σ',e= .returned u/\Step w I fv kS 0 w' I' σ' h n/\dD w' I' σ' v u:=by
 unfold rM at hc;split at hc
 ·rename_i pr hp;split at hc
  case h_2=>grind
  rename_i v' hv;simp only[aA,bM]at hc;obtain⟨rfl,rfl,rfl⟩:=hc;refine(hP g pr hp C hC bx7 v' hv w I us R hr).mono fun e w' hh=> ?_;obtain⟨u,I',rfl,st,mK⟩:=hh;exact⟨u,I',fv,rfl,st,mK⟩
 ·refine(hC g bx7 kS 0 v h n hc w I fv us R (fun _ _=>⟨rfl,rfl⟩) hr).mono fun e w' hh=> ?_;obtain⟨u,I',σ',rfl,hle,MK,nU,mK⟩:=hh;rw[YX]at hle MK;exact⟨u,I',σ',rfl,MK.step (fun _ _=>⟨rfl,rfl⟩) nU hle,mK⟩
def uK(X:Env):Prop:=FE X/\ ∀g t,X.clone g=some t-> ∀w I σ h n s u es kx kp,Rel w I σ h->h n=none->σ n=none->dD w I σ s u->elems h s=some (es,kx)->s.isStr=false->(kx=true->kp=true)->
 (∀v∈es,v.cells.length=(X.ti (X.ti t).elem).size)->es.length*(X.ti (X.ti t).elem).bytes<=2^47->es.length<=2^62->
 Calls X.P g #[u] w fun e w'=> ∃r σ',e= .returned r/\Step w I σ h n w' I σ' (aR h n (some ⟨(X.ti (X.ti t).elem).size,es,kp⟩)) (n+1)/\dD w' I σ' (.cx n 0 es.length) r
section
variable {w w':World} {I I' Ic Ic' J:Nat->Prop} {σ σ' σc:ju} {h hc:bh} {n k k':Nat}
theorem Step.fresh{h':bh}{n':Nat}(s:Step w I σ h n w' I' σ' h' n')(F:lV σ h n):lV σ' h' n':=fun id fa=>by
 have:=s.le;have f:=F id (by omega);exact⟨s.news id (.inr fa) f.1,by rw[s.sigs id (.inr fa)];grind⟩
theorem Rel.kS(hI: ∀b,I b->b<w.heap.size)(G:KA w I):Rel w I fv kS:=
 ⟨hI,(fun _ _ h=>by cases h),(fun _ _ _ _ _ _ _ _ _ h=>by cases h),G⟩
theorem qZ{b:Nat}: ¬jk fv kS b:=fun⟨_,_,_,_,h,_⟩=>by cases h
theorem Rel.me(R:Rel w I σ h){b:Nat}(hb:jk σ h b):b<w.heap.size:=by
 obtain⟨_,c,el,hh⟩:=R.owned hb;exact hh.lt
theorem Step.inner(R:Rel w I σ h)(s:Step w Ic fv kS k w' Ic' σc hc k')(h1: ∀b,I b->Ic b)(h2: ∀b,I b->I' b)(h3: ∀b,I' b->I b\/(w.heap.size<=b/\b<w'.heap.size))(n:Nat):Step w I σ h n w' I' σ h n:=by
 have E:Ext w I σ w' I' σ:=⟨fun b hb=>s.ext.Mo b (h1 b hb),s.ext.grow,h2,fun _ _ hh=>hh⟩;refine⟨E,R.eU E (fun b hb=> ?_) (fun b hb=>⟨s.frame b (R.me hb) qZ,fun hi=> ?_⟩) (fun _ _=>rfl),s.os,s.tape,s.output,s.size,fun b hb _=>s.frame b hb qZ,fun b hb=> .inr hb,fun b hb=> ?_,aaI _,fun _ _=>rfl,fun _ _ hn=>hn⟩
 ·rcases h3 b hb with hb|hb
  ·exact abY (R.eu b hb) s.size
  omega
 ·rcases h3 b hi with hi|hi
  ·exact(R.owned hb).1 hi
  ·have:=R.me hb;omega
 grind
theorem ML{w1 w2:World}{I1 I2:Nat->Prop}{σ1 σ2:ju}(hv:v.leaf=true)(hr:dD w1 I1 σ1 v u):dD w2 I2 σ2 v u:=by
 cases v<;>simp_all [V.leaf,dD]
theorem Jo{w1 w2:World}{I1 I2:Nat->Prop}{σ1 σ2:ju}(hv:v.ye=true)(hr:dD w1 I1 σ1 v u):dD w2 I2 σ2 v u:=by
 cases v with
 |agg cs=>
  obtain⟨us,rfl,hc⟩:=hr;refine⟨us,rfl,?_⟩;rw[dO]at hc⊢;refine⟨hc.1,fun j c u' xX hu=>⟨(hc.2 j c u' xX hu).1,ML ?_ (hc.2 j c u' xX hu).2⟩⟩;exact List.all_eq_true.1 hv c (aaT xX)
 |_=>exact ML hv hr
theorem P5{w1 w2:World}{I1 I2:Nat->Prop}{σ1 σ2:ju}(hv:v.scalar=true)(hr:dD w1 I1 σ1 v u):dD w2 I2 σ2 v u:=by
 cases v with
 |dP cs=>
  obtain⟨us,rfl,hc⟩:=hr;refine⟨us,rfl,?_⟩;rw[mJ]at hc⊢;refine⟨hc.1,fun j c u' xX hu=>Jo ?_ (hc.2 j c u' xX hu)⟩;exact List.all_eq_true.1 hv c (aaT xX)
 |_=>exact Jo hv hr
theorem YZ{d:Nat}(ho:v.Mf=false)(ht:cy h d v=some v')(hna: ∀cs,v≠ .agg cs)(Cz: ∀cs,v≠ .dP cs)(hr:dD w I σ v u):dD w I fv v' u:=by
 have hv:v.oU=true/\v'=v:=by
  cases v with
  |agg cs=>grind
  |dP cs=>grind
  |cx _ _ _=>simp[V.Mf]at ho
  |fn g a b=>cases a<;>cases b<;>cases d<;>simp_all [cy,V.oU]
  |_=>cases d<;>simp_all [cy,V.oU]
 rw[hv.2];exact tU hv.1 hr
theorem Y0{d:Nat}(ho:v.xU=false)(ht:cy h d v=some v')(hr:dD w I σ v u):dD w I fv v' u:=by
 cases v with
 |dP cs=>simp[V.xU]at ho
 |agg cs=>
  cases d with
  |zero=>simp[cy]at ht
  |succ d=>
   obtain⟨l,rfl,hl⟩:=rY ht;obtain⟨h1,h2⟩:=lJ _ hl;obtain⟨us,rfl,hc⟩:=hr;refine⟨us,rfl,?_⟩;rw[dO]at hc⊢;refine⟨by omega,fun j c' u' Cv hu'=> ?_⟩;have hj:j<cs.length:=by rw[h1];exact(List.getElem?_eq_some_iff.1 Cv).1
   have xX:cs[j]?=some cs[j]:=aaJ hj;have hjj:=hc.2 j _ u' xX hu';have hoj:cs[j].Mf=false:=by
    simp only[V.xU,List.any_eq_false]at ho;simpa using ho cs[j] (aaL hj)
   refine⟨hjj.1,YZ hoj (h2 j _ _ xX Cv) (fun rS e=> ?_) (fun rS e=> ?_) hjj.2⟩
   ·have:=hjj.2;rw[e]at this;obtain⟨Co,rfl,_⟩:=this;simp[Value.oneCell']at hjj
   ·have:=hjj.2;rw[e]at this;obtain⟨Co,rfl,_⟩:=this;simp[Value.oneCell']at hjj
 |cx _ _ _=>simp[V.xU,V.Mf]at ho
 |_=>exact YZ (by simpa[V.xU] using ho) ht (by grind) (by grind) hr
theorem BC {d:Nat}   (ht:cF (args.map (cy h d))=some bx7) (hr:iO w I σ args us)
  (hf: ∀v v' u,v∈args->cy h d v=some v'->dD w I σ v u->dD w J fv v' u):iO w J fv bx7 us:=by
 obtain⟨h1,h2⟩:=lJ _ ht;rw[mJ]at hr⊢;refine⟨by omega,fun j c' u' Cv hu'=> ?_⟩;have hj:j<args.length:=by rw[h1];exact(List.getElem?_eq_some_iff.1 Cv).1
 have xX:args[j]?=some args[j]:=aaJ hj
 grind
theorem Step.oR(R:Rel w I σ h)(F:lV σ h n)(s:Step w I fv kS n w' I' σc hc k'):
  Step w I σ h n w' I' (fun id=>if id<n then σ id else σc id) (fun id=>if id<n then h id else hc id) k'/\Ext w' I' σc w' I' (fun id=>if id<n then σ id else σc id):=by
 have Eo: ∀id,id<n->σc id=none/\hc id=none:=fun id fa=>⟨by rw[s.sigs id (.inl fa)];rfl,s.news id (.inl fa) rfl⟩;have E2:Ext w' I' σc w' I' (fun id=>if id<n then σ id else σc id):=by
  refine⟨fun _ _=>rfl,fun _ c _ fz hh=>⟨c,fz,hh,rfl⟩,fun _ hh=>hh,fun id x hx=> ?_⟩;by_cases fa:id<n
  ·grind
  ·grind
 have E:Ext w I σ w' I' (fun id=>if id<n then σ id else σc id):=by
  refine⟨s.ext.Mo,s.ext.grow,s.ext.imp,fun id x hx=> ?_⟩;by_cases fa:id<n
  ·grind
  ·rw[(F id (by omega)).2]at hx;grind
 have FF: ∀b,jk σc hc b->w.heap.size<=b:=fun b hb=>by
  rcases s.own b hb with hh|hh
  ·omega
  ·exact absurd hh qZ
 refine⟨⟨E,⟨s.rel.eu,fun id ob ho=> ?_,fun id nA ob oE b o k o' k' ho zy hs oG=> ?_,s.rel.AA⟩,s.os,s.tape,s.output,s.size,fun b hb _=>s.frame b hb qZ,fun b hb=> ?_,fun b hb=> ?_,s.le,fun id fa=> ?_,fun id fa hn=> ?_⟩,E2⟩
 ·by_cases fa:id<n
  ·simp only[fa,if_true]at ho;rcases R.obj id ob ho with⟨he,Mq⟩|⟨b,o,c,el,mQ,hi,hh,hle,hr⟩
   ·exact .inl ⟨he,by grind⟩
   ·have rV:jk σ h b:=⟨id,ob,o,ob.k,ho,mQ⟩;have s8:=s.frame b (R.me rV) qZ;refine .inr ⟨b,o,c,el,by grind,fun oy=> ?_,hh.same s8,hle,hr.nO (E.qX _) s8⟩;rcases s.vY b oy with hx|hx|hx
    ·grind
    ·have:=R.me rV;omega
    ·exact qZ hx
  ·simp only[fa,if_false]at ho;rcases s.rel.obj id ob ho with⟨he,Mq⟩|⟨b,o,c,el,mQ,hi,hh,hle,hr⟩
   ·exact .inl ⟨he,by grind⟩
   ·exact .inr ⟨b,o,c,el,by grind,hi,hh,hle,hr.nO (E2.qX _) rfl⟩
 ·by_cases fa:id<n<;>by_cases z9:nA<n<;>simp only[fa,z9,if_true,if_false]at ho zy hs oG
  ·exact R.apart id nA ob oE b o k o' k' ho zy hs oG
  ·have h1:=R.me ⟨id,ob,o,k,ho,hs⟩;have h2:=FF b ⟨nA,oE,o',k',zy,oG⟩;omega
  ·have h1:=R.me ⟨nA,oE,o',k',zy,oG⟩;have h2:=FF b ⟨id,ob,o,k,ho,hs⟩;omega
  ·exact s.rel.apart id nA ob oE b o k o' k' ho zy hs oG
 ·obtain⟨id,ob,o,k,ho,hs⟩:=hb;by_cases fa:id<n<;>simp only[fa,if_true,if_false]at ho hs
  ·exact .inr ⟨id,ob,o,k,ho,hs⟩
  ·exact .inl (FF b ⟨id,ob,o,k,ho,hs⟩)
 ·rcases s.vY b hb with hx|hx|hx
  ·grind
  ·omega
  ·exact absurd hx qZ
 ·have:=s.le;rcases fa with fa|fa
  ·grind
  ·have hn: ¬id<n:=by omega
   simp only[hn,if_false];rw[s.sigs id (.inr fa),(F id (by omega)).2];rfl
 ·have:=s.le;rcases fa with fa|fa
  ·grind
  ·have Ps: ¬id<n:=by omega
   simp only[Ps,if_false];exact s.news id (.inr fa) rfl
theorem KN{w:World}{I1 I2:Nat->Prop}{σ:ju}(hv:v.Tc=true)(hr:dD w I1 σ v u):dD w I2 σ v u:=by
 cases v with
 |sl c es=>
  simp only[V.Tc,List.isEmpty_iff]at hv;subst hv;simp only[dD]at hr⊢
  grind
 |fn g a b=>
  cases a with
  |cons x y=>simp[V.Tc]at hv
  |nil=>
   cases b with
   |cons x y=>simp[V.Tc]at hv
   |nil=>simp_all only[dD,iO]
 |agg cs=>simp[V.Tc]at hv
 |dP cs=>simp[V.Tc]at hv
 |ref cs=>simp[V.Tc]at hv
 |bad=>simp[dD]
 |_=>exact hr
theorem To{w:World}{I1 I2:Nat->Prop}{σ:ju}(hv:v.Mh=true)(hr:dD w I1 σ v u):dD w I2 σ v u:=by
 cases v with
 |agg cs=>
  obtain⟨us,rfl,hc⟩:=hr;refine⟨us,rfl,?_⟩;rw[dO]at hc⊢;refine⟨hc.1,fun j c u' xX hu=>⟨(hc.2 j c u' xX hu).1,KN ?_ (hc.2 j c u' xX hu).2⟩⟩;exact List.all_eq_true.1 hv c (aaT xX)
 |_=>exact KN hv hr
theorem ary{w:World}{I1 I2:Nat->Prop}{σ:ju}(hv:v.pu=true)(hr:dD w I1 σ v u):dD w I2 σ v u:=by
 cases v with
 |dP cs=>
  obtain⟨us,rfl,hc⟩:=hr;refine⟨us,rfl,?_⟩;rw[mJ]at hc⊢;refine⟨hc.1,fun j c u' xX hu=>To ?_ (hc.2 j c u' xX hu)⟩;exact List.all_eq_true.1 hv c (aaT xX)
 |_=>exact To hv hr
theorem arz{w:World}{I1 I2:Nat->Prop}{σ:ju}{k b o:Nat}(hv:es.all V.Mh=true)(hr:dN w I1 σ es k b o):dN w I2 σ es k b o:=by
 rw[lQ]at hr⊢;intro i e hi;obtain⟨h1,h2⟩:=hr i e hi;refine⟨h1,fun j c hj=> ?_⟩;obtain⟨u,g1,g2,g3⟩:=h2 j c hj;refine⟨u,g1,g2,KN ?_ g3⟩;have he:e.Mh=true:=List.all_eq_true.1 hv e (aaT hi);cases e with
 |agg cs=>exact List.all_eq_true.1 he c (aaT hj)
 |_=>
  cases j with
  |zero=>simp[V.cells]at hj;subst hj;exact he
  |succ j=>simp[V.cells]at hj
theorem DC{o:Option Ob}{ob:Ob}(hp:kO o=some ob):o=some ob/\ob.es.all V.Mh=true:=by
 cases o with
 |none=>cases hp
 |some x=>
  unfold kO at hp
  grind
theorem Step.aiw(R:Rel w I σ h)(F:lV σ h n)(s:Step w (fun b=>I b\/jk σ h b) fv kS n w' I' σc hc k'):
  Step w I σ h n w' (fun b=>I b\/(w.heap.size<=b/\I' b)) (fun id=>if id<n then σ id else σc id) (fun id=>if id<n then h id else kO (hc id)) k'/\
  Ext w' (fun b=>I b\/(w.heap.size<=b/\I' b)) σc w' (fun b=>I b\/(w.heap.size<=b/\I' b)) (fun id=>if id<n then σ id else σc id):=by
 have Eo: ∀id,id<n->σc id=none/\hc id=none:=fun id fa=>⟨by rw[s.sigs id (.inl fa)];rfl,s.news id (.inl fa) rfl⟩;have E2: ∀K:Nat->Prop,Ext w' K σc w' K (fun id=>if id<n then σ id else σc id):=by
  intro K;refine⟨fun _ _=>rfl,fun _ c _ fz hh=>⟨c,fz,hh,rfl⟩,fun _ hh=>hh,fun id x hx=> ?_⟩;by_cases fa:id<n
  ·grind
  ·grind
 have E:Ext w I σ w' (fun b=>I b\/(w.heap.size<=b/\I' b)) (fun id=>if id<n then σ id else σc id):=by
  refine⟨fun b hb=>s.ext.Mo b (.inl hb),s.ext.grow,fun b hb=> .inl hb,fun id x hx=> ?_⟩;by_cases fa:id<n
  ·grind
  ·rw[(F id (by omega)).2]at hx;grind
 have FF: ∀b,jk σc hc b->w.heap.size<=b:=fun b hb=>by
  rcases s.own b hb with hh|hh
  ·omega
  ·exact absurd hh qZ
 have MM: ∀id ob,kO (hc id)=some ob->hc id=some ob:=fun id ob hp=>(DC hp).1;refine⟨⟨E,⟨fun b hb=> ?_,fun id ob ho=> ?_,fun id nA ob oE b o k o' k' ho zy hs oG=> ?_,R.AA.ext E⟩,s.os,s.tape,s.output,s.size,fun b hb _=>s.frame b hb qZ,fun b hb=> ?_,fun b hb=> ?_,s.le,fun id fa=> ?_,fun id fa hn=> ?_⟩,E2 _⟩
 ·rcases hb with hb|hb
  ·exact abY (R.eu b hb) s.size
  ·exact s.rel.eu b hb.2
 ·by_cases fa:id<n
  ·simp only[fa,if_true]at ho;rcases R.obj id ob ho with⟨he,Mq⟩|⟨b,o,c,el,mQ,hi,hh,hle,hr⟩
   ·exact .inl ⟨he,by grind⟩
   ·have rV:jk σ h b:=⟨id,ob,o,ob.k,ho,mQ⟩;have s8:=s.frame b (R.me rV) qZ;refine .inr ⟨b,o,c,el,by grind,fun oy=> ?_,hh.same s8,hle,hr.nO (E.qX _) s8⟩;rcases oy with hx|hx
    ·grind
    ·have:=R.me rV;omega
  ·simp only[fa,if_false]at ho;obtain⟨zy,Bx⟩:=DC ho;rcases s.rel.obj id ob zy with⟨he,Mq⟩|⟨b,o,c,el,mQ,hi,hh,hle,hr⟩
   ·exact .inl ⟨he,by grind⟩
   ·refine .inr ⟨b,o,c,el,by grind,fun oy=> ?_,hh,hle,(arz Bx hr).nO ((E2 _).qX _) rfl⟩;rcases oy with hx|hx
    ·exact hi (s.ext.imp b (.inl hx))
    grind
 ·by_cases fa:id<n<;>by_cases z9:nA<n<;>simp only[fa,z9,if_true,if_false]at ho zy hs oG
  ·exact R.apart id nA ob oE b o k o' k' ho zy hs oG
  ·have h1:=R.me ⟨id,ob,o,k,ho,hs⟩;have h2:=FF b ⟨nA,oE,o',k',MM _ _ zy,oG⟩;omega
  ·have h1:=R.me ⟨nA,oE,o',k',zy,oG⟩;have h2:=FF b ⟨id,ob,o,k,MM _ _ ho,hs⟩;omega
  ·exact s.rel.apart id nA ob oE b o k o' k' (MM _ _ ho) (MM _ _ zy) hs oG
 ·obtain⟨id,ob,o,k,ho,hs⟩:=hb;by_cases fa:id<n<;>simp only[fa,if_true,if_false]at ho hs
  ·exact .inr ⟨id,ob,o,k,ho,hs⟩
  ·exact .inl (FF b ⟨id,ob,o,k,MM _ _ ho,hs⟩)
 ·grind
 ·have:=s.le;rcases fa with fa|fa
  ·grind
  ·have hn: ¬id<n:=by omega
   simp only[hn,if_false];rw[s.sigs id (.inr fa),(F id (by omega)).2];rfl
 ·have:=s.le;rcases fa with fa|fa
  ·grind
  ·have Ps: ¬id<n:=by omega
   simp only[Ps,if_false];rw[s.news id (.inr fa) rfl];rfl
end
section
variable {w w':World} {I I' J:Nat->Prop} {σ:ju} {h:bh} {n:Nat}
theorem Y1(R:Rel w I σ h)(UT: ∀b,I b->J b)(hJ: ∀b,jk σ h b->J b){d:Nat}(hte:cy h d e=some e'){k b o:Nat}(pS:e.cells.length=k)(yo:Cm w I σ e.cells b o):
  e'.cells.length=k/\Cm w J fv e'.cells b o:=by
 by_cases hag: ∃cs,e= .agg cs
 ·obtain⟨cs,rfl⟩:=hag;cases d with
  |zero=>simp[cy]at hte
  |succ d=>
   obtain⟨rS,rfl,Ah⟩:=rY hte;obtain⟨g1,g2⟩:=lJ _ Ah;refine⟨by simpa[V.cells,<-g1] using pS,fun j c' BB=> ?_⟩;have tI:j<cs.length:=by rw[g1];exact(List.getElem?_eq_some_iff.1 BB).1
   have hjc:cs[j]?=some cs[j]:=by simp
   obtain⟨u,XX,XY,YL⟩:=yo j _ hjc;exact⟨u,XX,XY,uJ R UT hJ d _ _ u (g2 j _ _ hjc BB) YL⟩
 ·have kz: ∀cs,e≠ .agg cs:=fun cs hh=>hag ⟨cs,hh⟩;have arw:=zD hte kz;rw[mC kz]at pS yo;rw[mC arw];refine⟨pS,fun j c' BB=> ?_⟩;cases j with
  |zero=>
   simp at BB;subst BB;obtain⟨u,XX,XY,YL⟩:=yo 0 e (by simp);exact⟨u,XX,XY,uJ R UT hJ d _ _ u hte YL⟩
  |succ j=>grind
theorem aix(R:Rel w I σ h)(UT: ∀b,I b->J b)(hJ: ∀b,jk σ h b->J b){d:Nat}(ht:cF (es.map (cy h d))=some Aj){k b o:Nat}(hr:dN w I σ es k b o):
  Aj.length=es.length/\dN w J fv Aj k b o:=by
 obtain⟨h1,h2⟩:=lJ _ ht;refine⟨h1.symm,?_⟩;rw[lQ]at hr⊢;intro i e' he';have hi:i<es.length:=by rw[h1];exact(List.getElem?_eq_some_iff.1 he').1
 have hie:es[i]?=some es[i]:=by simp
 exact Y1 R UT hJ (h2 i _ _ hie he') (hr i _ hie).1 (hr i _ hie).2
end
def P6{h:bh}{d:Nat}(ht:cy h d v=some v')(hv: ∀cs,v≠ .dP cs): ∀cs,v'≠ .dP cs:=by
 intro cs e;subst e;cases v with
 |dP rS=>grind
 |agg rS=>
  cases d with
  |zero=>simp[cy]at ht
  |succ d=>obtain⟨l,h1,_⟩:=rY ht;grind
 |cx id s l=>
  cases d with
  |zero=>simp[cy]at ht
  |succ d=>
   rw[cy]at ht
   grind
 |fn g a b=>cases a<;>cases b<;>cases d<;>simp[cy]at ht
 |_=>cases d<;>simp[cy]at ht
def Y2(hv: ∀cs,v≠ .agg cs): ∀cs,v.lP≠ .agg cs:=by
 intro cs e;cases v<;>simp[V.lP]at e
 grind
def Y3(hv: ∀cs,v≠ .dP cs): ∀cs,v.lP≠ .dP cs:=by
 intro cs e;cases v<;>simp[V.lP]at e
 grind
def yq(F:Nat->V->V)(cs:List V):uE F (.agg cs)= .agg (rJ F 0 cs):=rfl
def re(F:Nat->V->V)(hv: ∀cs,v≠ .agg cs):uE F v=F 0 v:=by
 cases v with
 |agg cs=>grind
 |_=>rfl
def yu(F:Nat->Nat->V->V)(vs:List V):vf F (.dP vs)= .dP (rJ (fun i v=>uE (F i) v) 0 vs):=rfl
def tY(F:Nat->Nat->V->V)(hv: ∀cs,v≠ .dP cs):vf F v=uE (F 0) v:=by
 cases v with
 |dP cs=>grind
 |_=>rfl
def yw(F:Nat->V->V): ∀(cs:List V) (n j:Nat),(rJ F n cs)[j]?=(cs[j]?).map (F (n+j))
 | [],n,j=>by simp[rJ]
 |c::cs,n,j=>by
  cases j with
  |zero=>simp[rJ]
  |succ j=>simp only[rJ,List.getElem?_cons_succ];rw[yw F cs (n+1) j,show n+1+j=n+(j+1) by omega]
def MN(F:Nat->V->V)(cs:List V)(n:Nat):(rJ F n cs).length=cs.length:=by
 induction cs generalizing n with
 |nil=>rfl
 |cons c cs ih=>simp[rJ,ih]
def CA(F G:Nat->V->V): ∀(cs:List V) (n:Nat),rJ G n (rJ F n cs)=rJ (fun j c=>G j (F j c)) n cs
 | [],n=>rfl
 |c::cs,n=>by simp only[rJ];rw[CA F G cs (n+1)]
def Jp{F G:Nat->V->V}(hF: ∀c,(∀cs,c≠ .agg cs)-> ∀cs,F 0 c≠ .agg cs)(v:V):uE G (uE F v)=uE (fun j c=>G j (F j c)) v:=by
 by_cases h: ∃cs,v= .agg cs
 ·obtain⟨cs,rfl⟩:=h;simp only[yq,CA]
 ·have h': ∀cs,v≠ .agg cs:=fun cs e=>h ⟨cs,e⟩;rw[re F h',re G (hF v h'),re _ h']
def U8{F G:Nat->Nat->V->V}(hF: ∀i c,(∀cs,c≠ .agg cs)-> ∀cs,F i 0 c≠ .agg cs)(hT: ∀c,(∀cs,c≠ .dP cs)-> ∀cs,F 0 0 c≠ .dP cs)(v:V):vf G (vf F v)=vf (fun i j c=>G i j (F i j c)) v:=by
 by_cases h: ∃cs,v= .dP cs
 ·obtain⟨cs,rfl⟩:=h;simp only[yu,CA];congr 2;funext i c;exact Jp (hF i) c
 ·have h': ∀cs,v≠ .dP cs:=fun cs e=>h ⟨cs,e⟩;have hm: ∀cs,uE (F 0) v≠ .dP cs:=by
   intro cs e;by_cases ha: ∃cs,v= .agg cs
   ·obtain⟨rS,rfl⟩:=ha;cases e
   ·have XU: ∀cs,v≠ .agg cs:=fun cs e=>ha ⟨cs,e⟩;rw[re _ XU]at e
    grind
  rw[tY F h',tY G hm,tY _ h',Jp (hF 0)]
section
variable {w w':World} {I I' J:Nat->Prop} {σ σ' σs σc:ju} {h h' hs hc:bh} {n n' k0 k' x:Nat}
theorem Y4{F:Nat->V->V}(hr:fR w I σ cs us)(hF: ∀j c u,cs[j]?=some c->us[j]?=some u->u.oneCell'=true->dD w I σ c u->dD w J σ' (F j c) u):fR w J σ' (rJ F 0 cs) us:=by
 rw[dO]at hr⊢;refine⟨by rw[MN];omega,fun j c u hc hu=> ?_⟩;rw[yw,acL]at hc
 grind
theorem MO{F:Nat->V->V}(hr:dD w I σ v u)(hF: ∀j c x,v.cells.getD j .bad=c->dD w I σ c x->dD w J σ' (F j c) x):dD w J σ' (uE F v) u:=by
 by_cases h: ∃cs,v= .agg cs
 ·obtain⟨cs,rfl⟩:=h;obtain⟨us,rfl,hc⟩:=hr;refine⟨us,rfl,Y4 hc fun j c x xX _ _ hx=>hF j c x ?_ hx⟩;simp[V.cells,aaQ,xX]
 ·have h': ∀cs,v≠ .agg cs:=fun cs e=>h ⟨cs,e⟩;rw[re F h'];refine hF 0 v u ?_ hr;rw[mC h'];rfl
theorem Y5{F:Nat->Nat->V->V}(hr:dD w I σ v u)(hF: ∀i j c x,v.cellAt i j=c->dD w I σ c x->dD w J σ' (F i j c) x):dD w J σ' (vf F v) u:=by
 by_cases h: ∃cs,v= .dP cs
 ·obtain⟨cs,rfl⟩:=h;obtain⟨us,rfl,hc⟩:=hr;refine⟨us,rfl,?_⟩;rw[mJ]at hc⊢;refine⟨by rw[MN];omega,fun i c u hci hu=> ?_⟩;rw[yw,acL]at hci;cases xX:cs[i]? with
  |none=>grind
  |some c0=>
   rw[xX]at hci;simp only[acq,aA]at hci;subst hci;refine MO (hc.2 i c0 u xX hu) fun j c x hx hrx=>hF i j c x ?_ hrx;simp only[V.cellAt,aaQ,xX,abV]
   grind
 ·have h': ∀cs,v≠ .dP cs:=fun cs e=>h ⟨cs,e⟩;rw[tY F h'];refine MO hr fun j c x hx hrx=>hF 0 j c x ?_ hrx;rw[<-hx];cases v with
  |dP cs=>grind
  |_=>rfl
theorem Step.call {hK h1:bh} {I1:Nat->Prop} {m:Nat} (R:Rel w I σ h) (F:lV σ h n) (AB: ∀id ob,hK id=some ob->h id=some ob) (s1:Step w I σ hK n w I1 σ h1 n) (Y6: ∀id ob,h1 id=some ob->hK id=some ob)
  (s:vn m w I1 σs hs w' I' σc hc)
  (rV: ∀b,jk σs hs b->jk σ h b/\ ¬jk σ hK b)
  (hJ1: ∀b,I' b->J b) (hJ2: ∀b,J b->I' b\/jk σc hc b)
  (hσ: ∀id,id<n->σ' id=σ id) (hh: ∀id,id<n->id≠x->h' id=h1 id)
  (hx: ∀ob,x<n->h' x=some ob->h x≠none/\(∀b o k,σ x=some (b,o,k)-> ¬jk σ hK b)/\Mp w' J σ' x ob)
  (hn:n<=n') (nU: ∀id,n'<=id->σ' id=none/\h' id=none)
  (Fi: ∀id ob,n<=id->h' id=some ob->Mp w' J σ' id ob/\ ∀b o k,σ' id=some (b,o,k)->(w.heap.size<=b\/jk σs hs b)/\(x<n-> ∀o' k',σ x≠some (b,o',k')))
  (Y7: ∀id nA ob oE b o k o' k',n<=id->n<=nA->h' id=some ob->h' nA=some oE->σ' id=some (b,o,k)->σ' nA=some (b,o',k')->id=nA):
  Step w I σ h n w' J σ' h' n':=by
 have E:Ext w I σ w' J σ':=⟨fun b hb=>s.Mo b (s1.ext.imp b hb),s.grow,fun b hb=>hJ1 b (s.imp b (s1.ext.imp b hb)),fun id y hy=>by
  by_cases fa:id<n
  ·grind
  ·rw[(F id (by omega)).2]at hy;grind⟩
 have an4: ∀b,jk σ hK b->jk σ h b:=fun b ⟨i,ob,o,k,g1,g2⟩=>⟨i,ob,o,k,AB i ob g1,g2⟩;have ar0: ∀i obi b o k,h1 i=some obi->σ i=some (b,o,k)->w'.heap[b]?=w.heap[b]?/\ ¬J b:=by
  intro i obi b o k hi mQ;have hwK:jk σ hK b:=⟨i,obi,o,k,Y6 i obi hi,mQ⟩;have sU:jk σ h1 b:=⟨i,obi,o,k,hi,mQ⟩;have gZ:=R.me (an4 b hwK);have sw: ¬jk σs hs b:=fun hb=>(rV b hb).2 hwK;refine⟨s.frame b gZ sw,fun hj=> ?_⟩;rcases hJ2 b hj with hb|hb
  ·rcases s.vY b hb with hy|hy|hy
   ·exact(s1.rel.owned sU).1 hy
   ·omega
   grind
  ·rcases s.own b hb with hy|hy
   ·omega
   grind
 have hold: ∀id ob,id<n->h' id=some ob-> ∃H5,h id=some H5:=by
  intro id ob fa ho;by_cases e:id=x
  ·subst e;cases hz:h id with
   |none=>grind
   |some y=>grind
  ·grind
 have hon: ∀id ob nA oE b o k o' k',id<n->n<=nA->h' id=some ob->h' nA=some oE->σ id=some (b,o,k)->σ' nA=some (b,o',k')->False:=by
  intro id ob nA oE b o k o' k' fa z9 ho zy mQ MP;obtain⟨y,hy⟩:=hold id ob fa ho;have h2:=(Fi nA oE z9 zy).2 _ _ _ MP;by_cases e:id=x
  ·grind
  ·rw[hh id fa e]at ho;have hwK:jk σ hK b:=⟨id,ob,o,k,Y6 _ _ ho,mQ⟩;rcases h2.1 with hz|hz
   ·have:=R.me (an4 b hwK);omega
   grind
 refine⟨E,⟨fun b hb=> ?_,fun id ob ho=> ?_,fun id nA ob oE b o k o' k1 ho zy mQ MP=> ?_,R.AA.ext E⟩,s.os,s.tape,s.output,s.size,fun b hb Po=>s.frame b hb fun hy=>Po (rV b hy).1,fun b hb=> ?_,fun b hb=> ?_,hn,fun id fa=> ?_,fun id fa hz=> ?_⟩
 ·rcases hJ2 b hb with hb|hb
  ·exact s.rel.eu b hb
  ·exact s.rel.me hb
 ·by_cases fa:id<n
  ·by_cases e:id=x
   ·grind
   ·rw[hh id fa e]at ho;rcases s1.rel.obj id ob ho with⟨he,Mq⟩|⟨b,o,c,el,mQ,oY,hb,hle,hr⟩
    ·exact .inl ⟨he,by grind⟩
    ·obtain⟨g1,g2⟩:=ar0 id ob b o ob.k ho mQ;have E1:Ext w I1 σ w' J σ':=⟨s.Mo,s.grow,fun b hb=>hJ1 b (s.imp b hb),E.sig⟩;exact .inr ⟨b,o,c,el,by grind,g2,hb.same g1,hle,hr.nO (E1.qX _) g1⟩
  grind
 ·by_cases fa:id<n<;>by_cases z9:nA<n
  ·obtain⟨y,hy⟩:=hold id ob fa ho;obtain⟨y',hy'⟩:=hold nA oE z9 zy;rw[hσ _ fa]at mQ;rw[hσ _ z9]at MP;exact R.apart id nA y y' b o k o' k1 hy hy' mQ MP
  ·grind
  ·grind
  grind
 ·obtain⟨id,ob,o,k,ho,mQ⟩:=hb;by_cases fa:id<n
  ·obtain⟨y,hy⟩:=hold id ob fa ho;rw[hσ _ fa]at mQ;exact .inr ⟨id,y,o,k,hy,mQ⟩
  grind
 ·rcases hJ2 b hb with hb|hb
  ·rcases s.vY b hb with hy|hy|hy
   ·rcases s1.vY b hy with hz|hz|hz
    ·grind
    ·omega
    grind
   ·omega
   grind
  ·rcases s.own b hb with hy|hy
   ·omega
   grind
 ·rcases fa with fa|fa
  ·grind
  ·rw[(nU id fa).1,(F id (by omega)).2]
 ·rcases fa with fa|fa
  ·by_cases e:id=x
   ·subst e;cases hz':h' id with
    |none=>rfl
    |some y=>exact absurd hz (hx y fa hz').1
   ·rw[hh id fa e];cases hy:h1 id with
    |none=>rfl
    |some y=>rw[AB _ _ (Y6 _ _ hy)]at hz;cases hz
  ·exact(nU id fa).2
def Y8(σ:ju)(v:V)(m:Mask)(q:Nat):Option (Nat×Nat×Nat):=
 match m[q]? with
 |some p=>match v.cellAt p.1 p.2.1 with
  | .cx id s _=>match σ id with
   |some (b,o,k)=>some (b,o+s*k,k)
   |none=>none
  |_=>none
 |none=>none
theorem uL: ∀{m:Mask} {n i j q:Nat} {t:TypeId},mS n m i j=some (q,t)->n<=q/\m[q-n]?=some (i,j,t)
 | [],n,i,j,q,t,h=>by simp[mS]at h
 |(a,b,c)::m,n,i,j,q,t,h=>by
  simp only[mS]at h;split at h
  ·grind
  ·obtain⟨h1,h2⟩:=uL h
   grind
theorem wZ: ∀(m:Mask) (n i j:Nat),mS n m i j=(mS 0 m i j).map fun p=>(p.1+n,p.2)
 | [],n,i,j=>rfl
 |(a,b,c)::m,n,i,j=>by
  simp only[mS];split
  ·simp
  ·rw[wZ m (n+1),wZ m (0+1)];cases mS 0 m i j with
   |none=>rfl
   |some p=>grind
theorem oZ(X:Env)(kp:TypeId->Bool)(R:V): ∀(m:Mask) (n:Nat) (h:bh) (id:Nat),xV X kp R n m h id=if n<=id/\id<n+m.length then(m[id-n]?).bind (Bt X kp R) else h id
 | [],n,h,id=>by
  have: ¬(n<=id/\id<n+([]:Mask).length):=by simp
  rw[if_neg this];rfl
 |q::m,n,h,id=>by
  simp only[xV,aR,abP];by_cases e:id=n
  ·grind
  ·rw[oZ X kp R m (n+1) h id]
   grind
theorem zE: ∀{l:List (Option Nat)},vg l=true-> ∀{i j:Nat} {x:Nat},l[i]?=some (some x)->l[j]?=some (some x)->i=j
 | [],_,i,j,x,h1,_=>by grind
 |a::l,h,i,j,x,h1,h2=>by
  simp only[vg,aaF]at h;have ha:=List.all_eq_true.1 h.1;cases i with
  |zero=>
   cases j with
   |zero=>rfl
   |succ j=>
    simp at h1 h2;subst h1;have:=ha _ (aaT h2);simp[differ]at this
  |succ i=>
   cases j with
   |zero=>
    simp at h1 h2;subst h2;have:=ha _ (aaT h1);simp[differ]at this
   |succ j=>
    rw[zE h.2 h1 h2]
theorem k8: ∀{l:List (Option Nat)} {h:bh} {id:Nat} {ob:Ob},gr h l id=some ob->h id=some ob/\some id∉l
 | [],h,id,ob,hk=>⟨hk,by simp⟩
 |none::l,h,id,ob,hk=>by
  simp only[gr]at hk;have:=k8 hk;exact⟨this.1,by simpa using this.2⟩
 |some i::l,h,id,ob,hk=>by
  simp only[gr,aR]at hk;split at hk
  ·cases hk
  ·rename_i e;have:=k8 hk;exact⟨this.1,by simp[this.2,e]⟩
theorem MQ(hc:v= .sl true []){q:Nat}(hr:dD w I σ v u):dD w J σ' (.cx q 0 0) u:=by
 subst hc;obtain⟨a,cap,rfl,h1,h2,h3,_⟩:=hr;exact⟨a,cap,rfl,h1,h2,.inl (by grind)⟩
theorem FG  (R:Rel w' I' σc hc) {AG:bh}   (hr:dD w' I' σc v u) {m:Mask} (an5: ∀id ob,AG id=some ob->hc id=some ob/\some id∉iF v m) (he:Bs X hc AG v m=some R') {n:Nat} {σ0:ju}
  (hJ1: ∀b,I' b->J b) (hJ2: ∀b,jk σc AG b->J b) (hJ3: ∀b,J b->I' b\/jk σc AG b) (hσ: ∀q,q<m.length->σ0 (n+q)=Y8 σc v m q):
  dD w' J σ0 (vh n m R') u/\
  (∀(kp:TypeId->Bool) (q:Nat) (p:Nat×Nat×TypeId) (ob:Ob),m[q]?=some p->Bt X kp R' p=some ob->Mp w' J σ0 (n+q) ob/\ ∀b o k,σ0 (n+q)=some (b,o,k)-> ∃id,some id∈iF v m/\ ∃oE o' k',hc id=some oE/\σc id=some (b,o',k'))/\
  (∀(q q' b o k o' k':Nat),q<m.length->q'<m.length->σ0 (n+q)=some (b,o,k)->σ0 (n+q')=some (b,o',k')->(∃kp ob,(m[q]?).bind (Bt X kp R')=some ob)->(∃kp ob,(m[q']?).bind (Bt X kp R')=some ob)->q=q'):=by
 unfold Bs at he;split at he
 case isFalse=>grind
 rename_i Y9;simp only[aaF]at Y9;have Y7:=Y9.1;simp only[aA]at he;subst he;have Tp:Rel w' I' σc AG:=R.sub fun id ob h=>(an5 id ob h).1;have him: ∀c c' x,cy AG depth c=some c'->dD w' I' σc c x->dD w' J fv c' x:=fun c c' x ht hx=>uJ Tp hJ1 hJ2 depth c c' x ht hx;have hF1: ∀i c,(∀cs,c≠ .agg cs)-> ∀cs,mI X hc AG m i 0 c≠ .agg cs:=by
  intro i c BD cs e;unfold mI at e;split at e
  ·grind
  ·split at e
   ·rename_i c' Cv;exact Y2 (zD Cv BD) cs e
   grind
 have hF2: ∀c,(∀cs,c≠ .dP cs)-> ∀cs,mI X hc AG m 0 0 c≠ .dP cs:=by
  intro c BD cs e;unfold mI at e;split at e
  ·grind
  ·split at e
   ·rename_i c' Cv;exact Y3 (P6 Cv BD) cs e
   grind
 have FD: ∀i j,(vf (mI X hc AG m) v).cellAt i j=mI X hc AG m i j (v.cellAt i j)\/(∀es c,(vf (mI X hc AG m) v).cellAt i j≠ .sl c es):=by
  intro i j;have one: ∀(F:Nat->V->V) (x:V),(∀c,(∀cs,c≠ .agg cs)-> ∀cs,F 0 c≠ .agg cs)->(uE F x).cells.getD j .bad=F j (x.cells.getD j .bad)\/(uE F x).cells.getD j .bad= .bad:=by
   intro F x hF;by_cases hx: ∃cs,x= .agg cs
   ·obtain⟨cs,rfl⟩:=hx;rw[yq];simp only[V.cells,aaQ,yw,acL]
    grind
   ·have Ig: ∀cs,x≠ .agg cs:=fun cs e=>hx ⟨cs,e⟩;rw[re F Ig,mC (hF x Ig),mC Ig]
    grind
  by_cases hv: ∃cs,v= .dP cs
  ·obtain⟨vs,rfl⟩:=hv;rw[yu];simp only[V.cellAt,aaQ,yw,acL];cases vs[i]? with
   |none=>right;intro es c e;simp only[Option.map_none,adE,V.cells]at e;grind
   |some x=>
    grind
  ·have KO: ∀cs,v≠ .dP cs:=fun cs e=>hv ⟨cs,e⟩;rw[tY _ KO];have hm: ∀cs,uE (mI X hc AG m 0) v≠ .dP cs:=by
    intro cs e;by_cases ha: ∃cs,v= .agg cs
    ·obtain⟨rS,rfl⟩:=ha;cases e
    ·have XU: ∀cs,v≠ .agg cs:=fun cs e=>ha ⟨cs,e⟩;rw[re _ XU]at e
     grind
   have cA: ∀y:V,(∀cs,y≠ .dP cs)->y.cellAt i j=if i=0 then y.cells.getD j .bad else .bad:=by
    intro y hy;cases y with
    |dP cs=>grind
    |_=>rfl
   grind
 have fX: ∀(t:TypeId) (c:V) (es:List V),rowAt X hc AG t c=some es->(c= .sl true []/\es=[])\/ ∃id s l ob es0,c= .cx id s l/\hc id=some ob/\ob.k=(X.ti t).size/\s+l<=ob.es.length/\es.length=l/\cF (((ob.es.drop s).take l).map (cy AG depth))=some es0/\es=eV es0:=by
  intro t c es P7;unfold rowAt at P7;split at P7
  ·grind
  ·rename_i id s l;right;split at P7
   case h_2=>grind
   rename_i ob gG;split at P7
   case isFalse=>grind
   rename_i hkl;split at P7
   case h_2=>grind
   rename_i es0 Jm;simp only[aA]at P7;subst P7;refine⟨id,s,l,ob,es0,rfl,gG,hkl.1,hkl.2,?_,Jm,rfl⟩;have:=(lJ _ Jm).1;have hd: ∀l:List V,(eV l).length=l.length:=by
    intro l;induction l with
    |nil=>rfl
    |cons c l ih=>simp[eV,ih]
   grind
  ·grind
 have an6: ∀(q:Nat) (p:Nat×Nat×TypeId) (c:Bool) (es:List V),m[q]?=some p->(vf (mI X hc AG m) v).cellAt p.1 p.2.1= .sl c es-> ∀q' t,mS 0 m p.1 p.2.1=some (q',t)->rowAt X hc AG t (v.cellAt p.1 p.2.1)=some es:=by
  intro q p c es hq rH q' t hm;rcases FD p.1 p.2.1 with h|h
  ·rw[h]at rH;unfold mI at rH
   grind
  ·grind
 have ayr: ∀(q:Nat) (p:Nat×Nat×TypeId),m[q]?=some p-> ∃q' t,mS 0 m p.1 p.2.1=some (q',t):=by
  intro q p hq;have: ∀(m:Mask) (n q:Nat),m[q]?=some p-> ∃q' t,mS n m p.1 p.2.1=some (q',t):=by
   intro m;induction m with
   |nil=>grind
   |cons y m ih=>
    intro n q hq;obtain⟨a,b,t⟩:=y;simp only[mS];by_cases sx:a=p.1/\b=p.2.1
    ·grind
    ·simp only[sx,if_false];cases q with
     |zero=>
      grind
     |succ q=>exact ih (n+1) q (by grind)
  exact this m 0 q hq
 have MR: ∀(q:Nat) (p:Nat×Nat×TypeId),m[q]?=some p->q<m.length:=fun q p h=>(List.getElem?_eq_some_iff.1 h).1;have ays: ∀(q:Nat) (p:Nat×Nat×TypeId),m[q]?=some p-> ∀b o k,σ0 (n+q)=some (b,o,k)-> ∃id s l o',v.cellAt p.1 p.2.1= .cx id s l/\σc id=some (b,o',k)/\o=o'+s*k:=by
  intro q p hq b o k mQ;rw[hσ q (MR q p hq)]at mQ;unfold Y8 at mQ;rw[hq]at mQ;simp only at mQ;split at mQ
  case h_2=>grind
  rename_i id s l rH;split at mQ
  case h_2=>grind
  rename_i b' o' k' oG;simp only[aA,bM]at mQ;obtain⟨rfl,rfl,rfl⟩:=mQ;exact⟨id,s,l,o',rH,oG,rfl⟩
 have Tq: ∀(q:Nat) (p:Nat×Nat×TypeId) (id s l:Nat),m[q]?=some p->v.cellAt p.1 p.2.1= .cx id s l->(iF v m)[q]?=some (some id):=by
  intro q p id s l hq rH;unfold iF;rw[abG,hq];simp[rH,V.src]
 refine⟨?_,?_,?_⟩
 ·unfold vh;rw[U8 hF1 hF2];refine Y5 hr fun i j c x rH hx=> ?_;rw[wZ m n];cases hm:mS 0 m i j with
  |none=>
   simp only[Option.map_none,mI,hm];split
   ·rename_i c' Cv;exact((him c c' x Cv hx).ext Ext.free).lP
   ·simp[dD]
  |some y=>
   obtain⟨q,t⟩:=y;simp only[acq,mI,hm];obtain⟨hq0,hq⟩:=uL hm;simp only[Nat.sub_zero]at hq;cases P7:rowAt X hc AG t c with
   |none=>grind
   |some es=>
    rcases fX t c es P7 with⟨rfl,rfl⟩|⟨id,s,l,ob,es0,rfl,gG,hk,rK,tw,Jm,hd⟩
    ·exact MQ rfl hx
    ·simp only[dD]at hx⊢;obtain⟨a,cap,rfl,h1,h2,h3⟩:=hx;refine⟨a,cap,by rw[tw],by rw[tw];exact h1,h2,?_⟩;rcases h3 with h3|⟨b,o,k,c',el,fz,mQ,ha,hb,hle⟩
     ·exact .inl h3
     ·refine .inr ⟨b,o+s*k,k,c',el,fz,?_,by rw[ha];simp,hb,by
       have:(s+cap)*k=s*k+cap*k:=acE ..;rw[acL];omega⟩
      rw[Nat.add_comm q n,hσ q (MR q _ hq)];unfold Y8;rw[hq];simp only[rH,mQ]
 ·intro kp q p ob hq hO;unfold Bt at hO;split at hO
  case h_2=>cases hO
  rename_i cc es rH;simp only[aA]at hO;subst hO;obtain⟨q',t,hm⟩:=ayr q p hq;have P7:=an6 q p cc es hq rH q' t hm;have biv: ∃t',rowAt X hc AG t' (v.cellAt p.1 p.2.1)=some es:=⟨t,P7⟩;refine⟨?_,fun b o k mQ=> ?_⟩
  ·rcases fX t _ es P7 with⟨BD,rfl⟩|⟨id,s,l,ob,es0,BD,gG,hk,rK,tw,Jm,hd⟩
   ·left;refine⟨rfl,?_⟩;rw[hσ q (MR q p hq)];unfold Y8;rw[hq];simp only[BD]
   ·rcases R.obj id ob gG with⟨he,Mq⟩|⟨b,o,c,el,mQ,hi,hb,hle,FH⟩
    ·left;refine⟨?_,?_⟩
     ·have:l=0:=by rw[he]at rK;simp at rK;omega
      rw[this]at tw;exact abT tw
     ·rw[hσ q (MR q p hq)];unfold Y8;rw[hq];simp only[BD,Mq]
    ·right;have MS:=Tq q p id s l hq BD;obtain⟨_,L3⟩:=uL hm;simp only[Nat.sub_zero]at L3;have hqq:q=q':=zE Y7 MS (Tq q' _ id s l L3 BD);subst hqq;rw[hq]at L3;simp only[aA]at L3;have ht:p.2.2=t:=by rw[L3]
     have v7:(X.ti p.2.2).size=ob.k:=by rw[ht];exact hk.symm
     have a8f:σ0 (n+q)=some (b,o+s*ob.k,ob.k):=by
      rw[hσ q (MR q p hq)];unfold Y8;rw[hq];simp only[BD,mQ]
     refine⟨b,o+s*ob.k,c,el,by rw[v7];exact a8f,fun hj=> ?_,hb,?_,?_⟩
     ·rcases hJ3 b hj with hx|⟨i2,ob2,o2,k2,h1,h2⟩
      ·exact hi hx
      ·have h3:=an5 _ _ h1;have:i2=id:=R.apart i2 id ob2 ob b o2 k2 o ob.k h3.1 gG h2 mQ;subst this;exact h3.2 (aaT MS)
     ·rw[v7,tw];have e1:(s+l)*ob.k<=ob.es.length*ob.k:=abQ _ rK;have e2:(s+l)*ob.k=s*ob.k+l*ob.k:=acE ..;show o+s*ob.k+l*ob.k<=c.size;omega
     ·rw[v7];have hr1:=((FH.nO (Ext.Fc ob.eU) rfl).Tg s l);have Pq:=(aix Tp hJ1 hJ2 Jm hr1).2;rw[hd];exact(dN.nz _ _ _ _ Pq).nO Ext.free rfl
  ·obtain⟨id,s,l,o',FI,oG,rfl⟩:=ays q p hq b o k mQ;rcases fX t _ es P7 with⟨BD,_⟩|⟨nA,s',l',ob,es0,BD,gG,_⟩
   ·rw[BD]at FI;cases FI
   ·rw[BD]at FI;simp only[V.cx.injEq]at FI;obtain⟨rfl,rfl,rfl⟩:=FI;exact⟨nA,aaT (Tq q p nA s' l' hq BD),ob,o',k,gG,oG⟩
 ·intro q q' b o k o' k' hq L3 mQ MP e1 e2;have hp:m[q]?=some m[q]:=aaJ hq;have hp':m[q']?=some m[q']:=aaJ L3;have get: ∀(q:Nat) (p:Nat×Nat×TypeId) (b o k:Nat),m[q]?=some p->σ0 (n+q)=some (b,o,k)->(∃kp ob,(m[q]?).bind (Bt X kp (vf (mI X hc AG m) v))=some ob)-> ∃id ob o',(iF v m)[q]?=some (some id)/\hc id=some ob/\σc id=some (b,o',k):=by
   intro q p b o k hq mQ hO;obtain⟨kp,ob,hO⟩:=hO;rw[hq]at hO;simp only[aeo]at hO;unfold Bt at hO;split at hO
   case h_2=>cases hO
   rename_i cc es rH;obtain⟨q',t,hm⟩:=ayr q p hq;have P7:=an6 q p cc es hq rH q' t hm;obtain⟨id,s,l,o',FI,oG,rfl⟩:=ays q p hq b o k mQ;rcases fX t _ es P7 with⟨BD,_⟩|⟨nA,s',l',ob,es0,BD,gG,_⟩
   ·rw[BD]at FI;cases FI
   ·rw[BD]at FI;simp only[V.cx.injEq]at FI;obtain⟨rfl,rfl,rfl⟩:=FI;exact⟨nA,ob,o',Tq q p nA s' l' hq BD,gG,oG⟩
  obtain⟨id,ob,o1,g1,g2,g3⟩:=get q _ b o k hp mQ e1;obtain⟨nA,oE,o1',g1',g2',g3'⟩:=get q' _ b o' k' hp' MP e2;have:id=nA:=R.apart id nA ob oE b o1 k o1' k' g2 g2' g3 g3';subst this;exact zE Y7 g1 g1'
end
def CB{w:World}{σ:ju}: ∀{vs CC:List V} {I:Nat->Prop} {h h':bh} {us:List Value},Rel w I σ h->iO w I σ vs us->rL h vs=some (CC,h')-> ∀n:Nat,
  ∃I',Step w I σ h n w I' σ h' n/\iO w I' fv CC us/\(∀id ob,h' id=some ob->h id=some ob)
 | [],CC,I,h,h',us,R,hr,hg,n=>by
  obtain⟨rfl,rfl⟩:=hg;exact⟨I,Step.refl R n,by simpa[iO] using hr,fun _ _ hh=>hh⟩
 |c::ps,CC,I,h,h',us,R,hr,hg,n=>by
  obtain⟨u,r,rfl,h2,h3⟩:=hr;simp only[rL]at hg;cases hc:qs h c with
  |none=>grind
  |some x=>
   obtain⟨c',uF⟩:=x;simp only[hc]at hg;cases hl:rL uF ps with
   |none=>grind
   |some y=>
    simp only[hl,aA,bM]at hg;obtain⟨rfl,rfl⟩:=hg;obtain⟨I1,s1,r1,Ih⟩:=Fl R h2 hc n;have YG:iO w I1 σ ps r:=iO.ext' _ r s1.ext h3;obtain⟨I2,s2,r2,YH⟩:=CB s1.rel YG hl n;refine⟨I2,s1.trans s2,?_,fun id ob hh=>Ih _ _ (YH _ _ hh)⟩;exact⟨u,r,rfl,r1.ext s2.ext.Kz,r2⟩
def tA(n:Nat)(σ σc:ju)(v:V)(m:Mask):ju:=fun id=>if id<n then σ id else Y8 σc v m (id-n)
def FJ{n:Nat}{σ σc:ju}{m:Mask}(q:Nat):tA n σ σc v m (n+q)=Y8 σc v m q:=by
 unfold tA
 grind
def Za   (hC:qY X C)  {dst:Option Nat}    (he:mT X C bZ dst g args S=some S1)
  {w:World} {I:Nat->Prop} {σ:ju} (R:Rel w I σ S.h) (F:lV σ S.h S.n) (us:Array Value) (hr:iO w I σ args us.toList):
  Calls X.P g us w fun e w'=> ∃u v I' σ',e= .returned u/\Step w I σ S.h S.n w' I' σ' S1.h S1.n/\S1.f=(S.set dst v).f/\dD w' I' σ' v u:=by
 unfold mT at he;generalize dst.elim [] (X.mask bZ)=m at he;split at he
 case h_2=>grind
 rename_i bx7 h1 hg;split at he
 case h_2=>grind
 rename_i v hc k' rO;split at he
 case h_2=>grind
 rename_i r hR;simp only[aA]at he;subst he;obtain⟨I1,s1,r1,Ih⟩:=CB R hr hg S.n;have F1:lV σ h1 S.n:=s1.fresh F;refine Calls.mono (hC g bx7 kS 0 v hc k' rO w I1 fv us (Rel.kS s1.rel.eu s1.rel.AA) (fun _ _=>⟨rfl,rfl⟩) r1) fun e w' hh=> ?_;obtain⟨u,I',σc,rfl,_,s,_,mK⟩:=hh;have AB: ∀b,jk σc (gr hc (iF v m)) b->jk σc hc b:=fun b ⟨i,ob,o,k,g1,g2⟩=>⟨i,ob,o,k,(k8 g1).1,g2⟩;obtain⟨q1,q2,q3⟩:=FG s.rel mK (AG:=gr hc (iF v m)) (fun id ob h=>k8 h) hR (n:=S.n) (σ0:=tA S.n σ σc v m) (J:=fun b=>I' b\/jk σc (gr hc (iF v m)) b) (fun b hb=> .inl hb) (fun b hb=> .inr hb) (fun b hb=>hb) (fun q _=>FJ q);have P8: ∀id ob,S.n<=id->xV X (X.fZ bZ) r S.n m h1 id=some ob-> ∃q p,id=S.n+q/\m[q]?=some p/\Bt X (X.fZ bZ) r p=some ob:=by
  intro id ob fa ho;rw[oZ]at ho;split at ho
  ·grind
  ·rw[(F1 id fa).1]at ho;grind
 have st:Step w I σ S.h S.n w' (fun b=>I' b\/jk σc (gr hc (iF v m)) b) (tA S.n σ σc v m) (xV X (X.fZ bZ) r S.n m h1) (S.n+m.length):=by
  refine Step.call (x:=S.n) R F (fun _ _ h=>h) s1 Ih s (fun b hb=>absurd hb qZ) (fun b hb=> .inl hb) (fun b hb=> ?_) (fun id fa=> ?_) (fun id fa _=> ?_) (fun ob gZ=>by omega) (by omega) (fun id fa=>⟨?_,?_⟩) (fun id ob fa ho=> ?_) (fun id nA ob oE b o k o' k1 fa z9 ho zy mQ MP=> ?_)
  ·grind
  ·simp[tA,fa]
  ·rw[oZ,if_neg (by omega)]
  ·unfold tA;rw[if_neg (by omega)];unfold Y8
   grind
  ·rw[oZ,if_neg (by omega)];exact(F1 id (by omega)).1
  ·obtain⟨q,p,rfl,hq,hO⟩:=P8 id ob fa ho;obtain⟨g1,g2⟩:=q2 _ q p ob hq hO;refine⟨g1,fun b o k mQ=>⟨?_,fun gZ=>by omega⟩⟩;obtain⟨i,_,oE,o',k',h3,h4⟩:=g2 b o k mQ;rcases s.own b ⟨i,oE,o',k',h3,h4⟩ with hx|hx
   ·omega
   grind
  ·obtain⟨q,p,rfl,hq,hO⟩:=P8 id ob fa ho;obtain⟨q',p',rfl,L3,hO'⟩:=P8 nA oE z9 zy;have:=q3 q q' b o k o' k1 (List.getElem?_eq_some_iff.1 hq).1 (List.getElem?_eq_some_iff.1 L3).1 mQ MP ⟨_,ob,by rw[hq];exact hO⟩ ⟨_,oE,by rw[L3];exact hO'⟩;omega
 refine⟨u,_,_,_,rfl,?_,rN _ _ _ _ rfl,q1⟩;rw[fm,hX];omega
def P9{w:World}{I:Nat->Prop}{σ:ju}: ∀(cs:List V) (b o:Nat),Cm w I σ cs b o-> ∃us:List Value,fR w I σ cs us/\ ∀(j:Nat) x,us[j]?=some x->w.cell? ⟨b,o+j,none⟩=some x:=by
 intro cs b;induction cs with
 |nil=>intro o _;exact⟨[],by simp[fR],by simp⟩
 |cons c cs ih=>
  intro o yo;obtain⟨u,g1,g2,g3⟩:=yo 0 c (by simp);obtain⟨us,g4,g5⟩:=ih (o+1) fun j c' hj=>by
   have:=yo (j+1) c' (by grind)
   grind
  refine⟨u::us,by exact⟨u,us,rfl,g2,g3,g4⟩,fun j x hj=> ?_⟩
  grind
def MT{w:World}{I:Nat->Prop}{σ:ju}{b o:Nat}(h:Cm w I σ e.cells b o): ∃ue:Value,dD w I σ e ue/\
  ∀{J:Nat->Prop} {σ':ju} {e':V},dD w J σ' e' ue->((∃cs,e= .agg cs)-> ∃cs,e'= .agg cs)->e'.cells.length=e.cells.length/\Cm w J σ' e'.cells b o:=by
 obtain⟨uc,huc,MS⟩:=P9 e.cells b o h;have ya:e.cells.length=uc.length:=((dO _ _).1 huc).1;have fin: ∀{J:Nat->Prop} {σ':ju} {e':V},fR w J σ' e'.cells uc->e'.cells.length=e.cells.length/\Cm w J σ' e'.cells b o:=by
  intro J σ' e' hsh;have hl1:e'.cells.length=uc.length:=((dO _ _).1 hsh).1;refine⟨by omega,fun j c' hj=> ?_⟩;have hju:j<uc.length:=by rw[<-hl1];exact(List.getElem?_eq_some_iff.1 hj).1
  have EL:=((dO _ _).1 hsh).2 j c' uc[j] hj (by simp);exact⟨uc[j],MS j _ (by simp),EL.1,EL.2⟩
 by_cases hx: ∃cs,e= .agg cs
 ·obtain⟨cs,rfl⟩:=hx;refine⟨.agg uc.toArray,?_,fun{J σ' e'} hr ha=> ?_⟩
  ·exact⟨_,rfl,by exact huc⟩
  ·obtain⟨rS,rfl⟩:=ha ⟨cs,rfl⟩;refine fin ?_;obtain⟨Co,hz,hy⟩:=hr;simp only[Value.agg.injEq]at hz;subst hz;simpa[V.cells] using hy
 ·have Ig: ∀cs,e≠ .agg cs:=fun cs e=>hx ⟨cs,e⟩;rw[mC Ig]at huc;obtain⟨ue,rr,rfl,g1,g2,rfl⟩:=huc;refine⟨ue,g2,fun{J σ' e'} hr _=> ?_⟩;refine fin ?_;have hna: ∀cs,e'≠ .agg cs:=by
   intro cs Jl;subst Jl;simp only[dD]at hr;obtain⟨Co,rfl,_⟩:=hr;simp[Value.oneCell']at g1
  rw[mC hna];exact⟨ue,[],rfl,g1,hr,rfl⟩
def FK(F:Nat->Nat->V->V)(h: ∃cs,v= .agg cs): ∃cs,vf F v= .agg cs:=by
 obtain⟨cs,rfl⟩:=h;exact⟨_,rfl⟩
def ar3   (hC:qY X C)  {dst:Option Nat}    (Bm:X.gq g=true) (he:vj X C bZ dst g args S=some S1)
  {w:World} {I:Nat->Prop} {σ:ju} (R:Rel w I σ S.h) (F:lV σ S.h S.n) (us:Array Value) (hr:iO w I σ args us.toList):
  Calls X.P g us w fun e w'=> ∃u v I' σ',e= .returned u/\Step w I σ S.h S.n w' I' σ' S1.h S1.n/\S1.f=(S.set dst v).f/\dD w' I' σ' v u:=by
 unfold vj at he;generalize hM:rT X bZ dst g=M at he;split at he
 case h_2=>grind
 rename_i id rest;split at he
 case h_2=>grind
 rename_i ob gG;split at he
 case h_2=>grind
 rename_i e Zb;split at he
 case isFalse=>grind
 split at he
 case h_2=>grind
 rename_i Ro hRo;split at he
 case h_2=>grind
 rename_i bx7 h1 hg;split at he
 case h_2=>grind
 rename_i v hc k' rO;split at he
 case h_2=>grind
 rename_i kk r rs CD;simp only[aA]at he;subst he;obtain⟨u0,r0,hus,hu0,ayv⟩:=hr;have ar5:id<S.n:=by
  rcases aaR id S.n with hh|hh
  ·omega
  ·rw[(F id hh).1]at gG;grind
 obtain⟨b,o,c,el,mQ,hbi,hhb,hle,fX⟩: ∃b o c el,σ id=some (b,o,ob.k)/\ ¬I b/\kQ w b c el/\o+ob.es.length*ob.k<=c.size/\dN w I (mu ob.eU σ) ob.es ob.k b o:=by
  rcases R.obj id ob gG with⟨hx,_⟩|hx
  ·grind
  omega
 have Zc:dN w I σ [e] ob.k b o:=by
  rw[<-Zb];exact fX.nO (Ext.Fc ob.eU) rfl
 have a8i:e.cells.length=ob.k/\Cm w I σ e.cells b o:=by
  rw[kP]at Zc;exact⟨Zc.1,Zc.2.1⟩
 generalize hom:X.fl g=om at*;have hkn: ∀{l:List (Option Nat)} {h:bh} {i:Nat},some i∈l->gr h l i=none:=fun{l h i} hm=>by
  cases hz:gr h l i with
  |none=>rfl
  |some y=>exact absurd hm (k8 hz).2
 have U4: ∀i y,aR S.h id none i=some y->i≠id/\S.h i=some y:=by
  intro i y hy;by_cases ei:i=id
  ·grind [aR]
  ·grind [aR]
 have aiz: ∀i y,gr (aR S.h id none) (iF e om) i=some y->S.h i=some y:=fun i y hy=>(U4 i y (k8 hy).1).2;have ar6:gr (aR S.h id none) (iF e om) id=none:=by
  cases hz:gr (aR S.h id none) (iF e om) id with
  |none=>rfl
  |some y=>exact absurd rfl (U4 id y (k8 hz).1).1
 obtain⟨I1,s1,r1,Ih⟩:=CB (R.sub aiz) ayv hg S.n;have hnK: ∀i y b o k,S.h i=some y->σ i=some (b,o,k)->gr (aR S.h id none) (iF e om) i=none-> ¬jk σ (gr (aR S.h id none) (iF e om)) b:=by
  rintro i y b o k h2 h3 h4 ⟨i2,y2,o2,k2,g1,g2⟩;have:i2=i:=R.apart i2 i y2 y b o2 k2 o k (aiz _ _ g1) h2 g2 h3;subst this;rw[h4]at g1;cases g1
 have lB: ∀i y b o k,S.h i=some y->σ i=some (b,o,k)->gr (aR S.h id none) (iF e om) i=none-> ¬I1 b:=by
  intro i y b o k h2 h3 h4 hx;rcases s1.vY b hx with hy|hy|hy
  ·exact(R.owned ⟨i,y,o,k,h2,h3⟩).1 hy
  ·have:=R.me ⟨i,y,o,k,h2,h3⟩;omega
  ·grind
 have a8k: ¬I1 b:=lB id ob b o ob.k gG mQ ar6;obtain⟨ue,hue,MU⟩:=MT a8i.2;obtain⟨p1,p2,p3⟩:=FG (R.kill id) hue (AG:=fun _=>none) (fun _ _ h=>by cases h) hRo (n:=1) (σ0:=tA 1 (fun _=>σ id) σ e om) (J:=I) (fun b hb=>hb) (fun b hb=>by
  obtain⟨_,_,_,_,h,_⟩:=hb;cases h) (fun b hb=> .inl hb) (fun q _=>FJ q)
 have EI: ∀τ:ju,Ext w I τ w I1 τ:=fun τ=>⟨fun _ _=>rfl,fun _ c _ fz hh=>⟨c,fz,hh,rfl⟩,s1.ext.imp,fun _ _ hh=>hh⟩;have ar7: ∀(q:Nat) (p:Nat×Nat×TypeId) (y:Ob),om[q]?=some p->Bt X (X.fZ g) Ro p=some y-> ∀b' o' k1,tA 1 (fun _=>σ id) σ e om (1+q)=some (b',o',k1)-> ∃i y',i≠id/\S.h i=some y'/\gr (aR S.h id none) (iF e om) i=none/\ ∃o2 k2,σ i=some (b',o2,k2):=by
  intro q p y hq hO b' o' k1 oG;obtain⟨i,MS,y',o2,k2,g1,g2⟩:=(p2 _ q p y hq hO).2 b' o' k1 oG;exact⟨i,y',(U4 i y' g1).1,(U4 i y' g1).2,hkn MS,o2,k2,g2⟩
 have Jq: ∀i y,l9 X g ob.k Ro i=some y->(i=0/\y=⟨ob.k,[vh 1 om Ro],true⟩)\/ ∃q p,i=1+q/\om[q]?=some p/\Bt X (X.fZ g) Ro p=some y:=by
  intro i y hy;unfold l9 at hy;rw[hom]at hy;rw[oZ]at hy;split at hy
  ·grind
  ·grind [aR]
 have MV:tA 1 (fun _=>σ id) σ e om 0=some (b,o,ob.k):=by simp[tA,mQ]
 have an8:(vh 1 om Ro).cells.length=ob.k/\Cm w I1 (tA 1 (fun _=>σ id) σ e om) (vh 1 om Ro).cells b o:=by
  have YW:(∃cs,e= .agg cs)-> ∃cs,vh 1 om Ro= .agg cs:=fun h=>by
   unfold Bs at hRo;split at hRo
   case isFalse=>grind
   simp only[aA]at hRo;rw[<-hRo];exact FK _ (FK _ h)
  obtain⟨g1,g2⟩:=MU (p1.ext (EI _)) YW;exact⟨by omega,g2⟩
 have arq:o+ [e].length*ob.k<=c.size:=by rw[Zb]at hle;simpa using hle
 have Rs:Rel w I1 (tA 1 (fun _=>σ id) σ e om) (l9 X g ob.k Ro):=by
  refine⟨s1.rel.eu,fun i y hy=> ?_,fun i i' y y' b1 o1 k1 o2 k2 g1 g2 g3 g4=> ?_,s1.rel.AA⟩
  ·rcases Jq i y hy with⟨rfl,rfl⟩|⟨q,p,rfl,hq,hO⟩
   ·refine .inr ⟨b,o,c,el,MV,a8k,hhb,by omega,?_⟩;rw[kP];exact⟨an8.1,an8.2,by simp[dN]⟩
   ·rcases(p2 _ q p y hq hO).1 with hx|⟨b',o',c',PR,g1,g2,g3,g4,g5⟩
    ·exact .inl hx
    ·obtain⟨i,y',_,k1,k2,o2,k3,k4⟩:=ar7 q p y hq hO b' o' y.k g1;exact .inr ⟨b',o',c',PR,g1,lB i y' b' o2 k3 k1 k4 k2,g3,g4,g5.nO ((EI _).qX _) rfl⟩
  ·have an9: ∀q p y b1 o1 k1 o2 k2,om[q]?=some p->Bt X (X.fZ g) Ro p=some y->tA 1 (fun _=>σ id) σ e om (1+q)=some (b1,o1,k1)->tA 1 (fun _=>σ id) σ e om 0=some (b1,o2,k2)->False:=by
    intro q p y b1 o1 k1 o2 k2 hq hO h3 h4;obtain⟨i,y',kz,m1,m2,o3,k3,m4⟩:=ar7 q p y hq hO b1 o1 k1 h3;rw[MV]at h4;simp only[aA,bM]at h4;obtain⟨rfl,_,_⟩:=h4;exact kz (R.apart i id y' ob b o3 k3 o ob.k m1 gG m4 mQ)
   rcases Jq i y g1 with⟨rfl,rfl⟩|⟨q,p,rfl,hq,hO⟩
   ·rcases Jq i' y' g2 with⟨rfl,rfl⟩|⟨q',p',rfl,L3,hO'⟩
    ·rfl
    ·exact(an9 q' p' y' b1 o2 k2 o1 k1 L3 hO' g4 g3).elim
   ·rcases Jq i' y' g2 with⟨rfl,rfl⟩|⟨q',p',rfl,L3,hO'⟩
    ·exact(an9 q p y b1 o1 k1 o2 k2 hq hO g3 g4).elim
    ·have:=p3 q q' b1 o1 k1 o2 k2 (List.getElem?_eq_some_iff.1 hq).1 (List.getElem?_eq_some_iff.1 L3).1 g3 g4 ⟨_,y,by rw[hq];exact hO⟩ ⟨_,y',by rw[L3];exact hO'⟩;omega
 have Fs:lV (tA 1 (fun _=>σ id) σ e om) (l9 X g ob.k Ro) (1+om.length):=fun i hi=>by
  refine⟨?_,?_⟩
  ·cases hz:l9 X g ob.k Ro i with
   |none=>rfl
   |some y=>
    rcases Jq i y hz with⟨rfl,rfl⟩|⟨q,p,rfl,hq,hO⟩
    ·omega
    ·have:=(List.getElem?_eq_some_iff.1 hq).1;omega
  ·unfold tA;rw[if_neg (by omega)];unfold Y8;rw[abI (by omega)]
 have jL:iO w I1 (tA 1 (fun _=>σ id) σ e om) (.ptr 0 0 0::bx7) us.toList:=by
  rw[hus];simp only[iO];refine⟨u0,r0,rfl,?_,iO.ext' _ _ Ext.free r1⟩;simp only[dD]at hu0⊢;obtain⟨b',o',k1,g1,g2⟩:=hu0;rw[mQ]at g1;simp only[aA,bM]at g1;obtain⟨rfl,rfl,rfl⟩:=g1;exact⟨b,o,ob.k,MV,by rw[g2]⟩
 refine Calls.mono (hC g (.ptr 0 0 0::bx7) (l9 X g ob.k Ro) (1+om.length) v hc k' rO w I1 _ us Rs Fs jL) fun ex w' hh=> ?_;obtain⟨u,I',σc,rfl,_,s0,_,mK⟩:=hh;have s:vn 1 w I1 (tA 1 (fun _=>σ id) σ e om) (l9 X g ob.k Ro) w' I' σc hc:=s0.less (by unfold L2;rw[if_pos Bm];split<;>omega);have hσc:σc 0=some (b,o,ob.k):=by rw[s.sigs 0 (by omega)];exact MV
 unfold yg at CD;split at CD
 case h_2=>cases CD
 rename_i oE U9;split at CD
 case h_2=>cases CD
 rename_i e' ar8;split at CD
 case isFalse=>cases CD
 rename_i hkp;split at CD
 case h_2=>cases CD
 rename_i r' Va hR;simp only[aA,bM]at CD;obtain⟨rfl,rfl,rfl⟩:=CD;obtain⟨c',PR,a8m,a8n,Ei,yi⟩: ∃c' PR,¬I' b/\kQ w' b c' PR/\o+ [e'].length*oE.k<=c'.size/\dN w' I' σc [e'] oE.k b o:=by
  rcases s.rel.obj 0 oE U9 with⟨hx,_⟩|⟨b2,o2,c2,el2,g1,g2,g3,g4,g5⟩
  ·rw[ar8]at hx;cases hx
  ·rw[hσc]at g1;simp only[aA,bM]at g1;obtain⟨rfl,rfl,_⟩:=g1;rw[ar8]at g4 g5;exact⟨c2,el2,g2,g3,g4,g5.nO (Ext.Fc oE.eU) rfl⟩
 have qT:oE.k=ob.k:=by
  rcases s.rel.obj 0 oE U9 with⟨hx,_⟩|⟨b2,o2,c2,el2,g1,_⟩
  ·rw[ar8]at hx;cases hx
  ·rw[hσc]at g1;simp only[aA,bM]at g1;exact g1.2.2.symm
 have aoa:e'.cells.length=oE.k/\Cm w' I' σc e'.cells b o:=by
  rw[kP]at yi;exact⟨yi.1,yi.2.1⟩
 obtain⟨ue',ayy,ar9⟩:=MT aoa.2;have v9: ∃uu,dD w' I' σc (qE e' v) uu/\ ∀(J:Nat->Prop) (σ':ju) (x:V) (T:List V),dD w' J σ' (.dP (x::T)) uu->dD w' J σ' x ue'/\dD w' J σ' (yf v T) u:=by
  by_cases hv: ∃vs,v= .dP vs
  ·obtain⟨vs,rfl⟩:=hv;simp only[dD]at mK;obtain⟨Co,rfl,hl⟩:=mK;refine⟨.tuple (ue'::Co.toList).toArray,?_,fun J σ' x T h=> ?_⟩
   ·simp only[qE,dD,iO];exact⟨_,rfl,ue',Co.toList,by simp,ayy,hl⟩
   ·simp only[dD,iO]at h;obtain⟨us2,h1,u2,r2,h2,h3,h4⟩:=h;simp only[Value.tuple.injEq]at h1;subst h1;simp only[acA]at h2;obtain⟨rfl,rfl⟩:=h2;refine⟨h3,?_⟩;simp only[yf,dD];exact⟨Co,rfl,h4⟩
  ·have KO: ∀vs,v≠ .dP vs:=fun vs h=>hv ⟨vs,h⟩;have e1:qE e' v= .dP [e',v]:=by cases v<;>first|rfl|exact absurd rfl (KO _)
   have e2: ∀T,yf v T=T.headD .bad:=by intro T;cases v<;>first|rfl|exact absurd rfl (KO _)
   refine⟨.tuple #[ue',u],?_,fun J σ' x T h=> ?_⟩
   ·rw[e1];simp only[dD,iO];exact⟨_,rfl,ue',[u],rfl,ayy,u,[],rfl,mK,rfl⟩
   ·simp only[dD,iO]at h;obtain⟨us2,h1,u2,r2,h2,h3,h4⟩:=h;simp only[Value.tuple.injEq]at h1;subst h1;simp only[acA]at h2;obtain⟨rfl,rfl⟩:=h2;refine⟨h3,?_⟩;rw[e2];cases T with
    |nil=>simp[dD]
    |cons y T=>
     simp only[iO]at h4;obtain⟨u3,r3,h5,h6,_⟩:=h4;simp only[acA]at h5;obtain⟨rfl,_⟩:=h5;exact h6
 obtain⟨uu,huu,YU⟩:=v9;have hRX:Bs X (aR hc 0 none) (gr (aR hc 0 none) (iF (qE e' v) M)) (qE e' v) M=some (.dP (r'::Va)):=hR;obtain⟨q1,q2,q3⟩:=FG (s.rel.kill 0) huu (AG:=gr (aR hc 0 none) (iF (qE e' v) M)) (fun _ _ h=>k8 h) hRX (n:=S.n) (σ0:=tA S.n σ σc (qE e' v) M) (J:=fun b=>I' b\/jk σc (gr (aR hc 0 none) (iF (qE e' v) M)) b) (fun b hb=> .inl hb) (fun b hb=> .inr hb) (fun b hb=>hb) (fun q _=>FJ q);have hT:vh S.n M (.dP (r'::Va))= .dP (E8 (vh S.n M (.dP (r'::Va)))::Td (vh S.n M (.dP (r'::Va)))):=rfl;rw[hT]at q1;obtain⟨ayz,ay0⟩:=YU _ _ _ _ q1;have YW:(∃cs,e'= .agg cs)-> ∃cs,E8 (vh S.n M (.dP (r'::Va)))= .agg cs:=by
  rintro⟨cs,rfl⟩;have h1: ∃rest,qE (.agg cs) v= .dP (.agg cs::rest):=by cases v<;>exact⟨_,rfl⟩
  obtain⟨rest,h1⟩:=h1;unfold Bs at hRX;split at hRX
  case isFalse=>cases hRX
  rw[h1]at hRX;simp only[yu,rJ,yq,aA,V.dP.injEq,acA]at hRX;rw[<-hRX.1];exact⟨_,rfl⟩
 obtain⟨pS,yo⟩:=ar9 ayz YW;have aob: ∀b',jk σc (gr (aR hc 0 none) (iF (qE e' v) M)) b'->jk σc (aR hc 0 none) b':=fun b' ⟨i,y,o1,k1,g1,g2⟩=>⟨i,y,o1,k1,(k8 g1).1,g2⟩;have hJb: ¬(I' b\/jk σc (gr (aR hc 0 none) (iF (qE e' v) M)) b):=by
  rintro(hx|hx)
  ·exact a8m hx
  ·exact s.rel.KG U9 hσc (aob b hx)
 have ay1: ∀i,S.n<=i->h1 i=none:=fun i hi=>by
  cases hz:h1 i with
  |none=>rfl
  |some y=>
   have:=aiz i y (Ih i y hz);rw[(F i hi).1]at this;cases this
 have P8: ∀i y,S.n<=i->xV X (X.fZ bZ) (.dP (r'::Va)) S.n M (aR h1 id (some ⟨oE.k,[E8 (vh S.n M (.dP (r'::Va)))],true⟩)) i=some y-> ∃q p,i=S.n+q/\M[q]?=some p/\Bt X (X.fZ bZ) (.dP (r'::Va)) p=some y:=by
  intro i y fa ho;rw[oZ]at ho;split at ho
  ·rename_i hi;cases hq:M[i-S.n]? with
   |none=>rw[hq]at ho;cases ho
   |some p=>
    rw[hq]at ho;exact⟨i-S.n,p,by omega,hq,ho⟩
  ·have:i≠id:=by omega
   simp only[aR,this,if_false]at ho;rw[ay1 i fa]at ho;cases ho
 have st:Step w I σ S.h S.n w' (fun b=>I' b\/jk σc (gr (aR hc 0 none) (iF (qE e' v) M)) b) (tA S.n σ σc (qE e' v) M) (xV X (X.fZ bZ) (.dP (r'::Va)) S.n M (aR h1 id (some ⟨oE.k,[E8 (vh S.n M (.dP (r'::Va)))],true⟩))) (S.n+M.length):=by
  refine Step.call (x:=id) R F aiz s1 Ih s (fun b' wT=> ?_) (fun b hb=> .inl hb) (fun b' wT=> ?_) (fun i fa=> ?_) (fun i fa kz=> ?_) (fun y ai0 hy=>⟨?_,fun b2 o2 k2 h2=> ?_,?_⟩) (by omega) (fun i fa=>⟨?_,?_⟩) (fun i y fa ho=> ?_) (fun i i' y y' b1 o1 k1 o2 k2 fa z9 ho zy qQ hs2=> ?_)
  ·obtain⟨i,y,o1,k1,g1,g2⟩:=wT;rcases Jq i y g1 with⟨rfl,rfl⟩|⟨q,p,rfl,hq,hO⟩
   ·rw[MV]at g2;simp only[aA,bM]at g2;obtain⟨rfl,_,_⟩:=g2;exact⟨⟨id,ob,o,ob.k,gG,mQ⟩,hnK id ob b o ob.k gG mQ ar6⟩
   ·obtain⟨i2,y2,_,m1,m2,o3,k3,m4⟩:=ar7 q p y hq hO b' o1 k1 g2;exact⟨⟨i2,y2,o3,k3,m1,m4⟩,hnK i2 y2 b' o3 k3 m1 m4 m2⟩
  ·rcases wT with hx|hx
   ·exact .inl hx
   ·exact .inr (aob b' hx).PU
  ·simp[tA,fa]
  ·rw[oZ,if_neg (by omega)];simp[aR,kz]
  ·rw[gG];simp
  ·rw[mQ]at h2;simp only[aA,bM]at h2;obtain⟨rfl,_,_⟩:=h2;exact hnK id ob b o ob.k gG mQ ar6
  ·rw[oZ,if_neg (by omega)]at hy;simp[aR]at hy;subst hy;refine .inr ⟨b,o,c',PR,?_,hJb,a8n,by simpa using Ei,?_⟩
   ·unfold tA;rw[if_pos ar5,mQ,qT]
   ·simp only[mu,if_true];rw[kP];exact⟨by rw[pS];exact aoa.1,yo,by simp[dN]⟩
  ·unfold tA;rw[if_neg (by omega)];unfold Y8;rw[abI (by omega)]
  ·rw[oZ,if_neg (by omega)];have kz:i≠id:=by omega
   simp only[aR,kz,if_false];exact ay1 i (by omega)
  ·obtain⟨q,p,rfl,hq,hO⟩:=P8 i y fa ho;refine⟨(q2 _ q p y hq hO).1,fun b2 o2 k2 oG=> ?_⟩;obtain⟨i2,_,y2,o3,k3,h3,h4⟩:=(q2 _ q p y hq hO).2 b2 o2 k2 oG;have hi0:i2≠0:=fun ei=>by subst ei;simp[aR]at h3
   have h3':hc i2=some y2:=by simpa[aR,hi0] using h3
   refine⟨s.own b2 ⟨i2,y2,o3,k3,h3',h4⟩,fun _ o4 k4 h5=> ?_⟩;rw[mQ]at h5;simp only[aA,bM]at h5;obtain⟨rfl,_,_⟩:=h5;exact hi0 (s.rel.apart i2 0 y2 oE b o3 k3 o ob.k h3' U9 h4 hσc)
  ·obtain⟨q,p,rfl,hq,hO⟩:=P8 i y fa ho;obtain⟨q',p',rfl,L3,hO'⟩:=P8 i' y' z9 zy;have:=q3 q q' b1 o1 k1 o2 k2 (List.getElem?_eq_some_iff.1 hq).1 (List.getElem?_eq_some_iff.1 L3).1 qQ hs2 ⟨_,y,by rw[hq];exact hO⟩ ⟨_,y',by rw[L3];exact hO'⟩;omega
 refine⟨u,_,_,_,rfl,?_,rN _ _ _ _ rfl,ay0⟩;rw[fm,hX];exact st
def Zd   (hC:qY X C) (hK:uK X)  {dst:Option Nat}    (he:gV X C bZ dst g args S=some S1)
  {w:World} {I:Nat->Prop} {σ:ju} (R:Rel w I σ S.h) (F:lV σ S.h S.n) (us:Array Value) (hr:iO w I σ args us.toList):
  Calls X.P g us w fun e w'=> ∃u v I' σ',e= .returned u/\Step w I σ S.h S.n w' I' σ' S1.h S1.n/\S1.f=(S.set dst v).f/\dD w' I' σ' v u:=by
 unfold gV at he;split at he
 ·rename_i t pS;split at he
  case h_2=>grind
  rename_i s;split at he
  case h_2=>grind
  rename_i es kx tw;split at he
  ·grind
  rename_i nc;simp only[acm,aaF,aaZ,not_or,not_and,acQ,decide_eq_true_eq,aeU]at nc;obtain⟨⟨⟨Iu,hk⟩,hl⟩,hb⟩:=nc;simp only[aA]at he;subst he;obtain⟨u,r,hus,hu,rfl⟩:=hr;have:us= #[u]:=by rw[<-Array.toList_inj];exact hus
  subst this;refine Calls.mono (hK.2 g t pS w I σ S.h S.n s u es kx _ R (F S.n (aaI _)).1 (F S.n (aaI _)).2 hu tw Iu hk (EH hl) hb.1 hb.2) fun e w' hh=> ?_;obtain⟨r,σ',rfl,hs,mK⟩:=hh;exact⟨r,_,I,σ',rfl,by rw[fm,hX];exact hs,rN _ _ _ _ rfl,mK⟩
 ·split at he
  ·rename_i hby
   have Eo:X.low g=false:=by
    simp only[aaF,aaZ]at hby;exact hby.2
   split at he
   case h_2=>grind
   rename_i v h n hc;simp only[aA]at he;subst he;refine Calls.mono (hC g args S.h S.n v h n hc w I σ us R F hr) fun e w' hh=> ?_;obtain⟨u,I',σ',rfl,hle,MK,nU,mK⟩:=hh;rw[yp Eo]at hle MK;have hs:=MK.step F nU hle;exact⟨u,v,I',σ',rfl,by rw[fm,hX];omega,rN _ _ _ _ rfl,mK⟩
  split at he
  ·rename_i Bm;exact ar3 hC Bm he R F us hr
  split at he
  ·exact Za hC he R F us hr
  ·split at he
   case h_2=>grind
   rename_i bx7 has;split at he
   ·rename_i oT;have Eo:X.low g=false:=by
     simp only[aaF,aaZ]at oT;exact oT.2
    split at he
    case h_2=>grind
    rename_i v h n hc;split at he
    ·grind
    rename_i nc;simp only[aA]at he;subst he;by_cases rV:args.any V.xU=true
    ·have hpu:v.pu=true:=by
      simpa[rV] using nc
     have FL:iO w (fun b=>I b\/jk σ S.h b) fv bx7 us.toList:=BC has hr fun v v' u _ ht Dw=>uJ R (fun b hb=> .inl hb) (fun b hb=> .inr hb) depth v v' u ht Dw;have R0:Rel w (fun b=>I b\/jk σ S.h b) fv kS:=Rel.kS (fun b hb=>by
      rcases hb with hb|hb
      ·exact R.eu b hb
      ·exact R.me hb) (R.AA.sub fun _ hb=> .inl hb)
     refine Calls.mono (hC g (eV bx7) kS S.n v h n hc w _ fv us R0 (fun _ _=>⟨rfl,rfl⟩) (iO.nz _ _ FL)) fun e w' hh=> ?_;obtain⟨u,I',σ',rfl,hle,MK,nU,mK⟩:=hh;rw[yp Eo]at hle MK;have hs:=MK.step (fun _ _=>⟨rfl,rfl⟩) nU hle;obtain⟨s1,s2⟩:=Step.aiw R F hs;refine⟨u,v,_,_,rfl,?_,rN _ _ _ _ rfl,(ary hpu mK).ext s2⟩;rw[fm,hX]
     grind
    ·have FL:iO w I fv bx7 us.toList:=BC has hr fun v v' u hv ht Dw=>Y0 (by grind) ht Dw;refine Calls.mono (hC g (eV bx7) kS S.n v h n hc w I fv us (Rel.kS R.eu R.AA) (fun _ _=>⟨rfl,rfl⟩) (iO.nz _ _ FL)) fun e w' hh=> ?_;obtain⟨u,I',σ',rfl,hle,MK,nU,mK⟩:=hh;rw[yp Eo]at hle MK;have hs:=MK.step (fun _ _=>⟨rfl,rfl⟩) nU hle;obtain⟨s1,s2⟩:=Step.oR R F hs;refine⟨u,v,I',_,rfl,?_,rN _ _ _ _ rfl,mK.ext s2⟩;rw[fm,hX]
     grind
   ·split at he
    case h_2=>grind
    rename_i v h n hc;split at he
    case h_2=>grind
    rename_i v' KO;split at he
    ·grind
    rename_i nc;simp only[aA]at he;subst he;by_cases rV:args.any V.xU=true
    ·have Pv:v'.scalar=true:=by
      simpa[rV] using nc
     have FL:iO w (fun b=>I b\/jk σ S.h b) fv bx7 us.toList:=BC has hr fun v v' u _ ht Dw=>uJ R (fun b hb=> .inl hb) (fun b hb=> .inr hb) depth v v' u ht Dw;have R0:Rel w (fun b=>I b\/jk σ S.h b) fv kS:=Rel.kS (fun b hb=>by
      rcases hb with hb|hb
      ·exact R.eu b hb
      ·exact R.me hb) (R.AA.sub fun _ hb=> .inl hb)
     refine Calls.mono (Calls.oS hC hK.1 hc R0 (iO.nz _ _ FL)) fun e w' hh=> ?_;obtain⟨u,I',σ',rfl,hs,mK⟩:=hh;have hrv:=uJ (J:=fun b=>I' b\/jk σ' h b) hs.rel (fun b hb=> .inl hb) (fun b hb=> .inr hb) depth v v' u KO mK;refine⟨u,v'.lP,I,σ,rfl,?_,rfl,(P5 Pv hrv).lP⟩;rw[fm,hX];exact Step.inner R hs (fun b hb=> .inl hb) (fun b hb=>hb) (fun b hb=> .inl hb) S.n
    ·have FL:iO w I fv bx7 us.toList:=BC has hr fun v v' u hv ht Dw=>Y0 (by grind) ht Dw;refine Calls.mono (Calls.oS hC hK.1 hc (Rel.kS R.eu R.AA) (iO.nz _ _ FL)) fun e w' hh=> ?_;obtain⟨u,I',σ',rfl,hs,mK⟩:=hh;have hrv:=uJ (J:=fun b=>I' b\/jk σ' h b) hs.rel (fun b hb=> .inl hb) (fun b hb=> .inr hb) depth v v' u KO mK;refine⟨u,v'.lP,_,σ,rfl,?_,rfl,(hrv.ext Ext.free).lP⟩;rw[fm,hX];refine Step.inner R hs (fun b hb=>hb) (fun b hb=> .inl (hs.ext.imp b hb)) (fun b hb=> ?_) S.n;rcases hb with hb|hb
     ·rcases hs.vY b hb with hx|hx|hx
      ·grind
      ·exact .inr ⟨hx,hs.rel.eu b hb⟩
      ·exact absurd hx qZ
     ·rcases hs.own b hb with hx|hx
      ·exact .inr ⟨hx,hs.rel.me hb⟩
      ·exact absurd hx qZ
end Go.Abs
