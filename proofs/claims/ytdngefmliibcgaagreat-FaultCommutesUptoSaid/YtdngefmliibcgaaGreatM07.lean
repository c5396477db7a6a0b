/- Part of a proof: engine A20. -/
import Derived.Test.YtdngefmliibcgaaGreatM06
set_option linter.all false
set_option maxRecDepth 20000
set_option maxHeartbeats 20000000
namespace Go.Abs
open Go
variable  {X:Env}{g bY:FuncId}{C:jm}{bwf args es Ae cs:List V}{v v' e e' R':V}{us:List Value}{u:Value}{S S1:St}
def lQ(σ:jt)(h:bh)(n:Nat):Prop:= ∀id,n<=id->h id=none/\σ id=none
def kO:bh:=fun _=>none
structure vf (m:Nat) (w:World) (I:Nat->Prop) (σ:jt) (h:bh) (w':World) (I':Nat->Prop) (σ':jt) (h':bh):Prop where
 LV: ∀b,I b->w'.heap[b]?=w.heap[b]?
 grow: ∀(b:Nat) c el fz,w.heap[b]?=some (Obj.cells c el fz)-> ∃c' fz',w'.heap[b]?=some (Obj.cells c' el fz')/\c'.size=c.size
 imp: ∀b,I b->I' b
 rel:Rel w' I' σ' h'
 os:w'.os=w.os
 tape:w'.tape=w.tape
 output:w'.output=w.output
 size:w.heap.size<=w'.heap.size
 frame: ∀b,b<w.heap.size-> ¬jk σ h b->w'.heap[b]?=w.heap[b]?
 own: ∀b,jk σ' h' b->w.heap.size<=b\/jk σ h b
 vS: ∀b,I' b->I b\/w.heap.size<=b\/jk σ h b
 sigs: ∀id,id<m->σ' id=σ id
 news: ∀id,id<m->h id=none->h' id=none
section
variable {w w1 w2 w':World} {I I1 I2 I':Nat->Prop} {σ σ1 σ2 σ':jt} {h h1 h2 h':bh} {n n' m:Nat}
theorem Step.aw6(s:Step w I σ h n w' I' σ' h' n')(hm:m<=n):vf m w I σ h w' I' σ' h':=
 ⟨s.ext.LV,s.ext.grow,s.ext.imp,s.rel,s.os,s.tape,s.output,s.size,s.frame,s.own,s.vS,fun id fg=>s.sigs id (.inl (by omega)),fun id fg=>s.news id (.inl (by omega))⟩
theorem vf.refl(R:Rel w I σ h)(m:Nat):vf m w I σ h w I σ h:=(Step.refl R m).aw6 (aaI _)
theorem vf.trans(s:vf m w I σ h w1 I1 σ1 h1)(s':vf m w1 I1 σ1 h1 w2 I2 σ2 h2):vf m w I σ h w2 I2 σ2 h2 where
 LV:=fun b hb=>(s'.LV b (s.imp b hb)).trans (s.LV b hb)
 grow:=fun b c el fz hb=>by
  obtain⟨c1,fz1,h1,e1⟩:=s.grow b c el fz hb;obtain⟨c2,fz2,h2,e2⟩:=s'.grow b c1 el fz1 h1
  grind
 imp:=fun b hb=>s'.imp b (s.imp b hb)
 rel:=s'.rel
 os:=s'.os.trans s.os
 tape:=s'.tape.trans s.tape
 output:=s'.output.trans s.output
 size:=abG s.size s'.size
 frame:=fun b hb ho=>(s'.frame b (abS hb s.size) (fun hx=>by
  rcases s.own b hx with hx|hx
  ·omega
  grind)).trans (s.frame b hb ho)
 own:=fun b hb=>by
  rcases s'.own b hb with hx|hx
  ·exact .inl (abG s.size hx)
  ·exact s.own b hx
 vS:=fun b hb=>by
  rcases s'.vS b hb with hx|hx|hx
  ·exact s.vS b hx
  ·exact .inr (.inl (abG s.size hx))
  ·exact .inr (s.own b hx)
 sigs:=fun id fg=>(s'.sigs id fg).trans (s.sigs id fg)
 news:=fun id fg hz=>s'.news id fg (s.news id fg hz)
theorem vf.step(s:vf n w I σ h w' I' σ' h')(F:lQ σ h n)(F':lQ σ' h' n')(hn:n<=n'):Step w I σ h n w' I' σ' h' n' where
 ext:=⟨s.LV,s.grow,s.imp,fun id x hx=>by
  by_cases fg:id<n
  ·rw[s.sigs id fg];omega
  ·rw[(F id (by omega)).2]at hx;grind⟩
 rel:=s.rel
 os:=s.os
 tape:=s.tape
 output:=s.output
 size:=s.size
 frame:=s.frame
 own:=s.own
 vS:=s.vS
 le:=hn
 sigs:=fun id fg=>by
  rcases fg with fg|fg
  ·exact s.sigs id fg
  ·rw[(F id (by omega)).2,(F' id fg).2]
 news:=fun id fg hz=>by
  rcases fg with fg|fg
  ·exact s.news id fg hz
  ·exact(F' id fg).1
end
def vf.less{w w':World}{I I':Nat->Prop}{σ σ':jt}{h h':bh}{m m':Nat}(s:vf m w I σ h w' I' σ' h')(hm:m'<=m):vf m' w I σ h w' I' σ' h':=
 {s with sigs:=fun id fg=>s.sigs id (by omega),news:=fun id fg=>s.news id (by omega)}
def Ly(X:Env)(g:FuncId)(k:Nat):Nat:=if X.low g=true then min (if X.gm g=true then 1 else 0) k else k
def Yp(X:Env)(g:FuncId):Ly X g 0=0:=by unfold Ly;grind
def Yq(X:Env)(g:FuncId)(k:Nat):Ly X g k<=k:=by unfold Ly;grind
def yg(h:X.low g=false)(k:Nat):Ly X g k=k:=by unfold Ly;grind
def qY(X:Env)(C:jm):Prop:= ∀g args h k v h' k',C g args h k=some (v,h',k')-> ∀w I σ (us:Array Value),Rel w I σ h->lQ σ h k->iN w I σ args us.toList->
 Calls X.P g us w fun e w'=> ∃u I' σ',e= .returned u/\Ly X g k<=k'/\vf (Ly X g k) w I σ h w' I' σ' h'/\lQ σ' h' k'/\dB w' I' σ' v u
def Fk(X:Env):Prop:= ∀g pr,X.oW g=some pr-> ∀C,qY X C-> ∀args v,pr.run C args=some v-> ∀w I (us:Array Value),Rel w I fy kO->iN w I fy args us.toList->
 Calls X.P g us w fun e w'=> ∃u I',e= .returned u/\Step w I fy kO 0 w' I' fy kO 0/\dB w' I' fy v u
def Calls.oW(hC:qY X C)(hP:Fk X){h:bh}{n:Nat}(hc:rM X C g bwf=some (v,h,n)){w:World}{I:Nat->Prop}{us:Array Value}(R:Rel w I fy kO)(hr:iN w I fy bwf us.toList):
  Calls X.P g us w fun e w'=> ∃u I' σ',e= .returned u/\Step w I fy kO 0 w' I' σ' h n/\dB w' I' σ' v u:=by
 unfold rM at hc;split at hc
 ·rename_i pr hp;split at hc
  case h_2=>grind
  rename_i v' hv;simp only[aA,bM]at hc;obtain⟨rfl,rfl,rfl⟩:=hc;refine(hP g pr hp C hC bwf v' hv w I us R hr).mono fun e w' hh=> ?_;obtain⟨u,I',rfl,st,mQ⟩:=hh;exact⟨u,I',fy,rfl,st,mQ⟩
 ·refine(hC g bwf kO 0 v h n hc w I fy us R (fun _ _=>⟨rfl,rfl⟩) hr).mono fun e w' hh=> ?_;obtain⟨u,I',σ',rfl,hle,Mf,ot,mQ⟩:=hh;rw[Yp]at hle Mf;exact⟨u,I',σ',rfl,Mf.step (fun _ _=>⟨rfl,rfl⟩) ot hle,mQ⟩
def uI(X:Env):Prop:=Fk X/\ ∀g t,X.clone g=some t-> ∀w I σ h n s u es kx kp,Rel w I σ h->h n=none->σ n=none->dB w I σ s u->elems h s=some (es,kx)->s.isStr=false->(kx=true->kp=true)->
 (∀v∈es,v.cells.length=(X.ti (X.ti t).elem).size)->es.length*(X.ti (X.ti t).elem).bytes<=2^47->es.length<=2^62->
 Calls X.P g #[u] w fun e w'=> ∃r σ',e= .returned r/\Step w I σ h n w' I σ' (aR h n (some ⟨(X.ti (X.ti t).elem).size,es,kp⟩)) (n+1)/\dB w' I σ' (.cu n 0 es.length) r
section
variable {w w':World} {I I' Ic Ic' J:Nat->Prop} {σ σ' σc:jt} {h hc:bh} {n k k':Nat}
theorem Step.fresh{h':bh}{n':Nat}(s:Step w I σ h n w' I' σ' h' n')(F:lQ σ h n):lQ σ' h' n':=fun id fg=>by
 have:=s.le;have f:=F id (by omega);exact⟨s.news id (.inr fg) f.1,by rw[s.sigs id (.inr fg)];grind⟩
theorem Rel.kO(hI: ∀b,I b->b<w.heap.size)(G:Kf w I):Rel w I fy kO:=
 ⟨hI,(fun _ _ h=>by cases h),(fun _ _ _ _ _ _ _ _ _ h=>by cases h),G⟩
theorem qZ{b:Nat}: ¬jk fy kO b:=fun⟨_,_,_,_,h,_⟩=>by cases h
theorem Rel.mh(R:Rel w I σ h){b:Nat}(hb:jk σ h b):b<w.heap.size:=by
 obtain⟨_,c,el,hh⟩:=R.owned hb;exact hh.lt
theorem Step.inner(R:Rel w I σ h)(s:Step w Ic fy kO k w' Ic' σc hc k')(h1: ∀b,I b->Ic b)(h2: ∀b,I b->I' b)(h3: ∀b,I' b->I b\/(w.heap.size<=b/\b<w'.heap.size))(n:Nat):Step w I σ h n w' I' σ h n:=by
 have E:Ext w I σ w' I' σ:=⟨fun b hb=>s.ext.LV b (h1 b hb),s.ext.grow,h2,fun _ _ hh=>hh⟩;refine⟨E,R.eU E (fun b hb=> ?_) (fun b hb=>⟨s.frame b (R.mh hb) qZ,fun hi=> ?_⟩) (fun _ _=>rfl),s.os,s.tape,s.output,s.size,fun b hb _=>s.frame b hb qZ,fun b hb=> .inr hb,fun b hb=> ?_,aaI _,fun _ _=>rfl,fun _ _ hn=>hn⟩
 ·rcases h3 b hb with hb|hb
  ·exact abS (R.ed b hb) s.size
  omega
 ·rcases h3 b hi with hi|hi
  ·exact(R.owned hb).1 hi
  ·have:=R.mh hb;omega
 grind
theorem Mg{w1 w2:World}{I1 I2:Nat->Prop}{σ1 σ2:jt}(hv:v.leaf=true)(hr:dB w1 I1 σ1 v u):dB w2 I2 σ2 v u:=by
 cases v<;>simp_all [V.leaf,dB]
theorem I4{w1 w2:World}{I1 I2:Nat->Prop}{σ1 σ2:jt}(hv:v.xZ=true)(hr:dB w1 I1 σ1 v u):dB w2 I2 σ2 v u:=by
 cases v with
 |agg cs=>
  obtain⟨us,rfl,hc⟩:=hr;refine⟨us,rfl,?_⟩;rw[dL]at hc⊢;refine⟨hc.1,fun j c u' xQ hu=>⟨(hc.2 j c u' xQ hu).1,Mg ?_ (hc.2 j c u' xQ hu).2⟩⟩;exact List.all_eq_true.1 hv c (aaT xQ)
 |_=>exact Mg hv hr
theorem PA{w1 w2:World}{I1 I2:Nat->Prop}{σ1 σ2:jt}(hv:v.scalar=true)(hr:dB w1 I1 σ1 v u):dB w2 I2 σ2 v u:=by
 cases v with
 |dM cs=>
  obtain⟨us,rfl,hc⟩:=hr;refine⟨us,rfl,?_⟩;rw[mP]at hc⊢;refine⟨hc.1,fun j c u' xQ hu=>I4 ?_ (hc.2 j c u' xQ hu)⟩;exact List.all_eq_true.1 hv c (aaT xQ)
 |_=>exact I4 hv hr
theorem Yr{d:Nat}(ho:v.LL=false)(ht:cx h d v=some v')(hna: ∀cs,v≠ .agg cs)(Cr: ∀cs,v≠ .dM cs)(hr:dB w I σ v u):dB w I fy v' u:=by
 have hv:v.oX=true/\v'=v:=by
  cases v with
  |agg cs=>grind
  |dM cs=>grind
  |cu _ _ _=>simp[V.LL]at ho
  |fn g a b=>cases a<;>cases b<;>cases d<;>simp_all [cx,V.oX]
  |_=>cases d<;>simp_all [cx,V.oX]
 rw[hv.2];exact tU hv.1 hr
theorem Ys{d:Nat}(ho:v.xN=false)(ht:cx h d v=some v')(hr:dB w I σ v u):dB w I fy v' u:=by
 cases v with
 |dM cs=>simp[V.xN]at ho
 |agg cs=>
  cases d with
  |zero=>simp[cx]at ht
  |succ d=>
   obtain⟨l,rfl,hl⟩:=rY ht;obtain⟨h1,h2⟩:=lG _ hl;obtain⟨us,rfl,hc⟩:=hr;refine⟨us,rfl,?_⟩;rw[dL]at hc⊢;refine⟨by omega,fun j c' u' Bq hu'=> ?_⟩;have hj:j<cs.length:=by rw[h1];exact(List.getElem?_eq_some_iff.1 Bq).1
   have xQ:cs[j]?=some cs[j]:=aaJ hj;have hjj:=hc.2 j _ u' xQ hu';have hoj:cs[j].LL=false:=by
    simp only[V.xN,List.any_eq_false]at ho;simpa using ho cs[j] (aaL hj)
   refine⟨hjj.1,Yr hoj (h2 j _ _ xQ Bq) (fun rS e=> ?_) (fun rS e=> ?_) hjj.2⟩
   ·have:=hjj.2;rw[e]at this;obtain⟨Ch,rfl,_⟩:=this;simp[Value.oneCell']at hjj
   ·have:=hjj.2;rw[e]at this;obtain⟨Ch,rfl,_⟩:=this;simp[Value.oneCell']at hjj
 |cu _ _ _=>simp[V.xN,V.LL]at ho
 |_=>exact Yr (by simpa[V.xN] using ho) ht (by grind) (by grind) hr
theorem Bw {d:Nat}   (ht:cF (args.map (cx h d))=some bwf) (hr:iN w I σ args us)
  (hf: ∀v v' u,v∈args->cx h d v=some v'->dB w I σ v u->dB w J fy v' u):iN w J fy bwf us:=by
 obtain⟨h1,h2⟩:=lG _ ht;rw[mP]at hr⊢;refine⟨by omega,fun j c' u' Bq hu'=> ?_⟩;have hj:j<args.length:=by rw[h1];exact(List.getElem?_eq_some_iff.1 Bq).1
 have xQ:args[j]?=some args[j]:=aaJ hj
 grind
theorem Step.oV(R:Rel w I σ h)(F:lQ σ h n)(s:Step w I fy kO n w' I' σc hc k'):
  Step w I σ h n w' I' (fun id=>if id<n then σ id else σc id) (fun id=>if id<n then h id else hc id) k'/\Ext w' I' σc w' I' (fun id=>if id<n then σ id else σc id):=by
 have D8: ∀id,id<n->σc id=none/\hc id=none:=fun id fg=>⟨by rw[s.sigs id (.inl fg)];rfl,s.news id (.inl fg) rfl⟩;have E2:Ext w' I' σc w' I' (fun id=>if id<n then σ id else σc id):=by
  refine⟨fun _ _=>rfl,fun _ c _ fz hh=>⟨c,fz,hh,rfl⟩,fun _ hh=>hh,fun id x hx=> ?_⟩;by_cases fg:id<n
  ·grind
  ·grind
 have E:Ext w I σ w' I' (fun id=>if id<n then σ id else σc id):=by
  refine⟨s.ext.LV,s.ext.grow,s.ext.imp,fun id x hx=> ?_⟩;by_cases fg:id<n
  ·grind
  ·rw[(F id (by omega)).2]at hx;grind
 have Fl: ∀b,jk σc hc b->w.heap.size<=b:=fun b hb=>by
  rcases s.own b hb with hh|hh
  ·omega
  ·exact absurd hh qZ
 refine⟨⟨E,⟨s.rel.ed,fun id ob ho=> ?_,fun id nN ob oK b o k o' k' ho zp hs oM=> ?_,s.rel.Av⟩,s.os,s.tape,s.output,s.size,fun b hb _=>s.frame b hb qZ,fun b hb=> ?_,fun b hb=> ?_,s.le,fun id fg=> ?_,fun id fg hn=> ?_⟩,E2⟩
 ·by_cases fg:id<n
  ·simp only[fg,if_true]at ho;rcases R.obj id ob ho with⟨he,LX⟩|⟨b,o,c,el,mX,hi,hh,hle,hr⟩
   ·exact .inl ⟨he,by grind⟩
   ·have rV:jk σ h b:=⟨id,ob,o,ob.k,ho,mX⟩;have sZ:=s.frame b (R.mh rV) qZ;refine .inr ⟨b,o,c,el,by grind,fun oE=> ?_,hh.same sZ,hle,hr.nZ (E.qX _) sZ⟩;rcases s.vS b oE with hx|hx|hx
    ·grind
    ·have:=R.mh rV;omega
    ·exact qZ hx
  ·simp only[fg,if_false]at ho;rcases s.rel.obj id ob ho with⟨he,LX⟩|⟨b,o,c,el,mX,hi,hh,hle,hr⟩
   ·exact .inl ⟨he,by grind⟩
   ·exact .inr ⟨b,o,c,el,by grind,hi,hh,hle,hr.nZ (E2.qX _) rfl⟩
 ·by_cases fg:id<n<;>by_cases zT:nN<n<;>simp only[fg,zT,if_true,if_false]at ho zp hs oM
  ·exact R.apart id nN ob oK b o k o' k' ho zp hs oM
  ·have h1:=R.mh ⟨id,ob,o,k,ho,hs⟩;have h2:=Fl b ⟨nN,oK,o',k',zp,oM⟩;omega
  ·have h1:=R.mh ⟨nN,oK,o',k',zp,oM⟩;have h2:=Fl b ⟨id,ob,o,k,ho,hs⟩;omega
  ·exact s.rel.apart id nN ob oK b o k o' k' ho zp hs oM
 ·obtain⟨id,ob,o,k,ho,hs⟩:=hb;by_cases fg:id<n<;>simp only[fg,if_true,if_false]at ho hs
  ·exact .inr ⟨id,ob,o,k,ho,hs⟩
  ·exact .inl (Fl b ⟨id,ob,o,k,ho,hs⟩)
 ·rcases s.vS b hb with hx|hx|hx
  ·grind
  ·omega
  ·exact absurd hx qZ
 ·have:=s.le;rcases fg with fg|fg
  ·grind
  ·have hn: ¬id<n:=by omega
   simp only[hn,if_false];rw[s.sigs id (.inr fg),(F id (by omega)).2];rfl
 ·have:=s.le;rcases fg with fg|fg
  ·grind
  ·have OW: ¬id<n:=by omega
   simp only[OW,if_false];exact s.news id (.inr fg) rfl
theorem Ks{w:World}{I1 I2:Nat->Prop}{σ:jt}(hv:v.SB=true)(hr:dB w I1 σ v u):dB w I2 σ v u:=by
 cases v with
 |sl c es=>
  simp only[V.SB,List.isEmpty_iff]at hv;subst hv;simp only[dB]at hr⊢
  grind
 |fn g a b=>
  cases a with
  |cons x y=>simp[V.SB]at hv
  |nil=>
   cases b with
   |cons x y=>simp[V.SB]at hv
   |nil=>simp_all only[dB,iN]
 |agg cs=>simp[V.SB]at hv
 |dM cs=>simp[V.SB]at hv
 |ref cs=>simp[V.SB]at hv
 |bad=>simp[dB]
 |_=>exact hr
theorem SO{w:World}{I1 I2:Nat->Prop}{σ:jt}(hv:v.LN=true)(hr:dB w I1 σ v u):dB w I2 σ v u:=by
 cases v with
 |agg cs=>
  obtain⟨us,rfl,hc⟩:=hr;refine⟨us,rfl,?_⟩;rw[dL]at hc⊢;refine⟨hc.1,fun j c u' xQ hu=>⟨(hc.2 j c u' xQ hu).1,Ks ?_ (hc.2 j c u' xQ hu).2⟩⟩;exact List.all_eq_true.1 hv c (aaT xQ)
 |_=>exact Ks hv hr
theorem aqu{w:World}{I1 I2:Nat->Prop}{σ:jt}(hv:v.pu=true)(hr:dB w I1 σ v u):dB w I2 σ v u:=by
 cases v with
 |dM cs=>
  obtain⟨us,rfl,hc⟩:=hr;refine⟨us,rfl,?_⟩;rw[mP]at hc⊢;refine⟨hc.1,fun j c u' xQ hu=>SO ?_ (hc.2 j c u' xQ hu)⟩;exact List.all_eq_true.1 hv c (aaT xQ)
 |_=>exact SO hv hr
theorem aqv{w:World}{I1 I2:Nat->Prop}{σ:jt}{k b o:Nat}(hv:es.all V.LN=true)(hr:dK w I1 σ es k b o):dK w I2 σ es k b o:=by
 rw[lN]at hr⊢;intro i e hi;obtain⟨h1,h2⟩:=hr i e hi;refine⟨h1,fun j c hj=> ?_⟩;obtain⟨u,g1,g2,g3⟩:=h2 j c hj;refine⟨u,g1,g2,Ks ?_ g3⟩;have he:e.LN=true:=List.all_eq_true.1 hv e (aaT hi);cases e with
 |agg cs=>exact List.all_eq_true.1 he c (aaT hj)
 |_=>
  cases j with
  |zero=>simp[V.cells]at hj;subst hj;exact he
  |succ j=>simp[V.cells]at hj
theorem Dl{o:Option Ob}{ob:Ob}(hp:kL o=some ob):o=some ob/\ob.es.all V.LN=true:=by
 cases o with
 |none=>cases hp
 |some x=>
  unfold kL at hp
  grind
theorem Step.ahy(R:Rel w I σ h)(F:lQ σ h n)(s:Step w (fun b=>I b\/jk σ h b) fy kO n w' I' σc hc k'):
  Step w I σ h n w' (fun b=>I b\/(w.heap.size<=b/\I' b)) (fun id=>if id<n then σ id else σc id) (fun id=>if id<n then h id else kL (hc id)) k'/\
  Ext w' (fun b=>I b\/(w.heap.size<=b/\I' b)) σc w' (fun b=>I b\/(w.heap.size<=b/\I' b)) (fun id=>if id<n then σ id else σc id):=by
 have D8: ∀id,id<n->σc id=none/\hc id=none:=fun id fg=>⟨by rw[s.sigs id (.inl fg)];rfl,s.news id (.inl fg) rfl⟩;have E2: ∀K:Nat->Prop,Ext w' K σc w' K (fun id=>if id<n then σ id else σc id):=by
  intro K;refine⟨fun _ _=>rfl,fun _ c _ fz hh=>⟨c,fz,hh,rfl⟩,fun _ hh=>hh,fun id x hx=> ?_⟩;by_cases fg:id<n
  ·grind
  ·grind
 have E:Ext w I σ w' (fun b=>I b\/(w.heap.size<=b/\I' b)) (fun id=>if id<n then σ id else σc id):=by
  refine⟨fun b hb=>s.ext.LV b (.inl hb),s.ext.grow,fun b hb=> .inl hb,fun id x hx=> ?_⟩;by_cases fg:id<n
  ·grind
  ·rw[(F id (by omega)).2]at hx;grind
 have Fl: ∀b,jk σc hc b->w.heap.size<=b:=fun b hb=>by
  rcases s.own b hb with hh|hh
  ·omega
  ·exact absurd hh qZ
 have Mh: ∀id ob,kL (hc id)=some ob->hc id=some ob:=fun id ob hp=>(Dl hp).1;refine⟨⟨E,⟨fun b hb=> ?_,fun id ob ho=> ?_,fun id nN ob oK b o k o' k' ho zp hs oM=> ?_,R.Av.ext E⟩,s.os,s.tape,s.output,s.size,fun b hb _=>s.frame b hb qZ,fun b hb=> ?_,fun b hb=> ?_,s.le,fun id fg=> ?_,fun id fg hn=> ?_⟩,E2 _⟩
 ·rcases hb with hb|hb
  ·exact abS (R.ed b hb) s.size
  ·exact s.rel.ed b hb.2
 ·by_cases fg:id<n
  ·simp only[fg,if_true]at ho;rcases R.obj id ob ho with⟨he,LX⟩|⟨b,o,c,el,mX,hi,hh,hle,hr⟩
   ·exact .inl ⟨he,by grind⟩
   ·have rV:jk σ h b:=⟨id,ob,o,ob.k,ho,mX⟩;have sZ:=s.frame b (R.mh rV) qZ;refine .inr ⟨b,o,c,el,by grind,fun oE=> ?_,hh.same sZ,hle,hr.nZ (E.qX _) sZ⟩;rcases oE with hx|hx
    ·grind
    ·have:=R.mh rV;omega
  ·simp only[fg,if_false]at ho;obtain⟨zp,Br⟩:=Dl ho;rcases s.rel.obj id ob zp with⟨he,LX⟩|⟨b,o,c,el,mX,hi,hh,hle,hr⟩
   ·exact .inl ⟨he,by grind⟩
   ·refine .inr ⟨b,o,c,el,by grind,fun oE=> ?_,hh,hle,(aqv Br hr).nZ ((E2 _).qX _) rfl⟩;rcases oE with hx|hx
    ·exact hi (s.ext.imp b (.inl hx))
    grind
 ·by_cases fg:id<n<;>by_cases zT:nN<n<;>simp only[fg,zT,if_true,if_false]at ho zp hs oM
  ·exact R.apart id nN ob oK b o k o' k' ho zp hs oM
  ·have h1:=R.mh ⟨id,ob,o,k,ho,hs⟩;have h2:=Fl b ⟨nN,oK,o',k',Mh _ _ zp,oM⟩;omega
  ·have h1:=R.mh ⟨nN,oK,o',k',zp,oM⟩;have h2:=Fl b ⟨id,ob,o,k,Mh _ _ ho,hs⟩;omega
  ·exact s.rel.apart id nN ob oK b o k o' k' (Mh _ _ ho) (Mh _ _ zp) hs oM
 ·obtain⟨id,ob,o,k,ho,hs⟩:=hb;by_cases fg:id<n<;>simp only[fg,if_true,if_false]at ho hs
  ·exact .inr ⟨id,ob,o,k,ho,hs⟩
  ·exact .inl (Fl b ⟨id,ob,o,k,Mh _ _ ho,hs⟩)
 ·grind
 ·have:=s.le;rcases fg with fg|fg
  ·grind
  ·have hn: ¬id<n:=by omega
   simp only[hn,if_false];rw[s.sigs id (.inr fg),(F id (by omega)).2];rfl
 ·have:=s.le;rcases fg with fg|fg
  ·grind
  ·have OW: ¬id<n:=by omega
   simp only[OW,if_false];rw[s.news id (.inr fg) rfl];rfl
end
section
variable {w w':World} {I I' J:Nat->Prop} {σ:jt} {h:bh} {n:Nat}
theorem Yt(R:Rel w I σ h)(Ut: ∀b,I b->J b)(hJ: ∀b,jk σ h b->J b){d:Nat}(hte:cx h d e=some e'){k b o:Nat}(pW:e.cells.length=k)(yf:Cg w I σ e.cells b o):
  e'.cells.length=k/\Cg w J fy e'.cells b o:=by
 by_cases hag: ∃cs,e= .agg cs
 ·obtain⟨cs,rfl⟩:=hag;cases d with
  |zero=>simp[cx]at hte
  |succ d=>
   obtain⟨rS,rfl,Ac⟩:=rY hte;obtain⟨g1,g2⟩:=lG _ Ac;refine⟨by simpa[V.cells,<-g1] using pW,fun j c' Bv=> ?_⟩;have tH:j<cs.length:=by rw[g1];exact(List.getElem?_eq_some_iff.1 Bv).1
   have hjc:cs[j]?=some cs[j]:=by simp
   obtain⟨u,Xp,Xq,Yd⟩:=yf j _ hjc;exact⟨u,Xp,Xq,uH R Ut hJ d _ _ u (g2 j _ _ hjc Bv) Yd⟩
 ·have kC: ∀cs,e≠ .agg cs:=fun cs hh=>hag ⟨cs,hh⟩;have aqs:=zu hte kC;rw[mH kC]at pW yf;rw[mH aqs];refine⟨pW,fun j c' Bv=> ?_⟩;cases j with
  |zero=>
   simp at Bv;subst Bv;obtain⟨u,Xp,Xq,Yd⟩:=yf 0 e (by simp);exact⟨u,Xp,Xq,uH R Ut hJ d _ _ u hte Yd⟩
  |succ j=>grind
theorem ahz(R:Rel w I σ h)(Ut: ∀b,I b->J b)(hJ: ∀b,jk σ h b->J b){d:Nat}(ht:cF (es.map (cx h d))=some Ae){k b o:Nat}(hr:dK w I σ es k b o):
  Ae.length=es.length/\dK w J fy Ae k b o:=by
 obtain⟨h1,h2⟩:=lG _ ht;refine⟨h1.symm,?_⟩;rw[lN]at hr⊢;intro i e' he';have hi:i<es.length:=by rw[h1];exact(List.getElem?_eq_some_iff.1 he').1
 have hie:es[i]?=some es[i]:=by simp
 exact Yt R Ut hJ (h2 i _ _ hie he') (hr i _ hie).1 (hr i _ hie).2
end
def PB{h:bh}{d:Nat}(ht:cx h d v=some v')(hv: ∀cs,v≠ .dM cs): ∀cs,v'≠ .dM cs:=by
 intro cs e;subst e;cases v with
 |dM rS=>grind
 |agg rS=>
  cases d with
  |zero=>simp[cx]at ht
  |succ d=>obtain⟨l,h1,_⟩:=rY ht;grind
 |cu id s l=>
  cases d with
  |zero=>simp[cx]at ht
  |succ d=>
   rw[cx]at ht
   grind
 |fn g a b=>cases a<;>cases b<;>cases d<;>simp[cx]at ht
 |_=>cases d<;>simp[cx]at ht
def Yu(hv: ∀cs,v≠ .agg cs): ∀cs,v.lM≠ .agg cs:=by
 intro cs e;cases v<;>simp[V.lM]at e
 grind
def Yv(hv: ∀cs,v≠ .dM cs): ∀cs,v.lM≠ .dM cs:=by
 intro cs e;cases v<;>simp[V.lM]at e
 grind
def yh(F:Nat->V->V)(cs:List V):uD F (.agg cs)= .agg (rJ F 0 cs):=rfl
def re(F:Nat->V->V)(hv: ∀cs,v≠ .agg cs):uD F v=F 0 v:=by
 cases v with
 |agg cs=>grind
 |_=>rfl
def yi(F:Nat->Nat->V->V)(vs:List V):u9 F (.dM vs)= .dM (rJ (fun i v=>uD (F i) v) 0 vs):=rfl
def tY(F:Nat->Nat->V->V)(hv: ∀cs,v≠ .dM cs):u9 F v=uD (F 0) v:=by
 cases v with
 |dM cs=>grind
 |_=>rfl
def yj(F:Nat->V->V): ∀(cs:List V) (n j:Nat),(rJ F n cs)[j]?=(cs[j]?).map (F (n+j))
 | [],n,j=>by simp[rJ]
 |c::cs,n,j=>by
  cases j with
  |zero=>simp[rJ]
  |succ j=>simp only[rJ,List.getElem?_cons_succ];rw[yj F cs (n+1) j,show n+1+j=n+(j+1) by omega]
def Mi(F:Nat->V->V)(cs:List V)(n:Nat):(rJ F n cs).length=cs.length:=by
 induction cs generalizing n with
 |nil=>rfl
 |cons c cs ih=>simp[rJ,ih]
def Cs(F G:Nat->V->V): ∀(cs:List V) (n:Nat),rJ G n (rJ F n cs)=rJ (fun j c=>G j (F j c)) n cs
 | [],n=>rfl
 |c::cs,n=>by simp only[rJ];rw[Cs F G cs (n+1)]
def I5{F G:Nat->V->V}(hF: ∀c,(∀cs,c≠ .agg cs)-> ∀cs,F 0 c≠ .agg cs)(v:V):uD G (uD F v)=uD (fun j c=>G j (F j c)) v:=by
 by_cases h: ∃cs,v= .agg cs
 ·obtain⟨cs,rfl⟩:=h;simp only[yh,Cs]
 ·have h': ∀cs,v≠ .agg cs:=fun cs e=>h ⟨cs,e⟩;rw[re F h',re G (hF v h'),re _ h']
def UG{F G:Nat->Nat->V->V}(hF: ∀i c,(∀cs,c≠ .agg cs)-> ∀cs,F i 0 c≠ .agg cs)(hT: ∀c,(∀cs,c≠ .dM cs)-> ∀cs,F 0 0 c≠ .dM cs)(v:V):u9 G (u9 F v)=u9 (fun i j c=>G i j (F i j c)) v:=by
 by_cases h: ∃cs,v= .dM cs
 ·obtain⟨cs,rfl⟩:=h;simp only[yi,Cs];congr 2;funext i c;exact I5 (hF i) c
 ·have h': ∀cs,v≠ .dM cs:=fun cs e=>h ⟨cs,e⟩;have hm: ∀cs,uD (F 0) v≠ .dM cs:=by
   intro cs e;by_cases ha: ∃cs,v= .agg cs
   ·obtain⟨rS,rfl⟩:=ha;cases e
   ·have Xi: ∀cs,v≠ .agg cs:=fun cs e=>ha ⟨cs,e⟩;rw[re _ Xi]at e
    grind
  rw[tY F h',tY G hm,tY _ h',I5 (hF 0)]
section
variable {w w':World} {I I' J:Nat->Prop} {σ σ' σs σc:jt} {h h' hs hc:bh} {n n' k0 k' x:Nat}
theorem Yw{F:Nat->V->V}(hr:fP w I σ cs us)(hF: ∀j c u,cs[j]?=some c->us[j]?=some u->u.oneCell'=true->dB w I σ c u->dB w J σ' (F j c) u):fP w J σ' (rJ F 0 cs) us:=by
 rw[dL]at hr⊢;refine⟨by rw[Mi];omega,fun j c u hc hu=> ?_⟩;rw[yj,acN]at hc
 grind
theorem Mj{F:Nat->V->V}(hr:dB w I σ v u)(hF: ∀j c x,v.cells.getD j .bad=c->dB w I σ c x->dB w J σ' (F j c) x):dB w J σ' (uD F v) u:=by
 by_cases h: ∃cs,v= .agg cs
 ·obtain⟨cs,rfl⟩:=h;obtain⟨us,rfl,hc⟩:=hr;refine⟨us,rfl,Yw hc fun j c x xQ _ _ hx=>hF j c x ?_ hx⟩;simp[V.cells,aaQ,xQ]
 ·have h': ∀cs,v≠ .agg cs:=fun cs e=>h ⟨cs,e⟩;rw[re F h'];refine hF 0 v u ?_ hr;rw[mH h'];rfl
theorem Yx{F:Nat->Nat->V->V}(hr:dB w I σ v u)(hF: ∀i j c x,v.cellAt i j=c->dB w I σ c x->dB w J σ' (F i j c) x):dB w J σ' (u9 F v) u:=by
 by_cases h: ∃cs,v= .dM cs
 ·obtain⟨cs,rfl⟩:=h;obtain⟨us,rfl,hc⟩:=hr;refine⟨us,rfl,?_⟩;rw[mP]at hc⊢;refine⟨by rw[Mi];omega,fun i c u hci hu=> ?_⟩;rw[yj,acN]at hci;cases xQ:cs[i]? with
  |none=>grind
  |some c0=>
   rw[xQ]at hci;simp only[abZ,aA]at hci;subst hci;refine Mj (hc.2 i c0 u xQ hu) fun j c x hx hrx=>hF i j c x ?_ hrx;simp only[V.cellAt,aaQ,xQ,abR]
   grind
 ·have h': ∀cs,v≠ .dM cs:=fun cs e=>h ⟨cs,e⟩;rw[tY F h'];refine Mj hr fun j c x hx hrx=>hF 0 j c x ?_ hrx;rw[<-hx];cases v with
  |dM cs=>grind
  |_=>rfl
theorem Step.call {hK h1:bh} {I1:Nat->Prop} {m:Nat} (R:Rel w I σ h) (F:lQ σ h n) (Aw: ∀id ob,hK id=some ob->h id=some ob) (s1:Step w I σ hK n w I1 σ h1 n) (Yy: ∀id ob,h1 id=some ob->hK id=some ob)
  (s:vf m w I1 σs hs w' I' σc hc)
  (rV: ∀b,jk σs hs b->jk σ h b/\ ¬jk σ hK b)
  (hJ1: ∀b,I' b->J b) (hJ2: ∀b,J b->I' b\/jk σc hc b)
  (hσ: ∀id,id<n->σ' id=σ id) (hh: ∀id,id<n->id≠x->h' id=h1 id)
  (hx: ∀ob,x<n->h' x=some ob->h x≠none/\(∀b o k,σ x=some (b,o,k)-> ¬jk σ hK b)/\LW w' J σ' x ob)
  (hn:n<=n') (ot: ∀id,n'<=id->σ' id=none/\h' id=none)
  (EX: ∀id ob,n<=id->h' id=some ob->LW w' J σ' id ob/\ ∀b o k,σ' id=some (b,o,k)->(w.heap.size<=b\/jk σs hs b)/\(x<n-> ∀o' k',σ x≠some (b,o',k')))
  (Yz: ∀id nN ob oK b o k o' k',n<=id->n<=nN->h' id=some ob->h' nN=some oK->σ' id=some (b,o,k)->σ' nN=some (b,o',k')->id=nN):
  Step w I σ h n w' J σ' h' n':=by
 have E:Ext w I σ w' J σ':=⟨fun b hb=>s.LV b (s1.ext.imp b hb),s.grow,fun b hb=>hJ1 b (s.imp b (s1.ext.imp b hb)),fun id y hy=>by
  by_cases fg:id<n
  ·grind
  ·rw[(F id (by omega)).2]at hy;grind⟩
 have amy: ∀b,jk σ hK b->jk σ h b:=fun b ⟨i,ob,o,k,g1,g2⟩=>⟨i,ob,o,k,Aw i ob g1,g2⟩;have aqw: ∀i obi b o k,h1 i=some obi->σ i=some (b,o,k)->w'.heap[b]?=w.heap[b]?/\ ¬J b:=by
  intro i obi b o k hi mX;have hwK:jk σ hK b:=⟨i,obi,o,k,Yy i obi hi,mX⟩;have tz:jk σ h1 b:=⟨i,obi,o,k,hi,mX⟩;have gY:=R.mh (amy b hwK);have sv: ¬jk σs hs b:=fun hb=>(rV b hb).2 hwK;refine⟨s.frame b gY sv,fun hj=> ?_⟩;rcases hJ2 b hj with hb|hb
  ·rcases s.vS b hb with hy|hy|hy
   ·exact(s1.rel.owned tz).1 hy
   ·omega
   grind
  ·rcases s.own b hb with hy|hy
   ·omega
   grind
 have hold: ∀id ob,id<n->h' id=some ob-> ∃Hq,h id=some Hq:=by
  intro id ob fg ho;by_cases e:id=x
  ·subst e;cases hz:h id with
   |none=>grind
   |some y=>grind
  ·grind
 have hon: ∀id ob nN oK b o k o' k',id<n->n<=nN->h' id=some ob->h' nN=some oK->σ id=some (b,o,k)->σ' nN=some (b,o',k')->False:=by
  intro id ob nN oK b o k o' k' fg zT ho zp mX Mk;obtain⟨y,hy⟩:=hold id ob fg ho;have h2:=(EX nN oK zT zp).2 _ _ _ Mk;by_cases e:id=x
  ·grind
  ·rw[hh id fg e]at ho;have hwK:jk σ hK b:=⟨id,ob,o,k,Yy _ _ ho,mX⟩;rcases h2.1 with hz|hz
   ·have:=R.mh (amy b hwK);omega
   grind
 refine⟨E,⟨fun b hb=> ?_,fun id ob ho=> ?_,fun id nN ob oK b o k o' k1 ho zp mX Mk=> ?_,R.Av.ext E⟩,s.os,s.tape,s.output,s.size,fun b hb OS=>s.frame b hb fun hy=>OS (rV b hy).1,fun b hb=> ?_,fun b hb=> ?_,hn,fun id fg=> ?_,fun id fg hz=> ?_⟩
 ·rcases hJ2 b hb with hb|hb
  ·exact s.rel.ed b hb
  ·exact s.rel.mh hb
 ·by_cases fg:id<n
  ·by_cases e:id=x
   ·grind
   ·rw[hh id fg e]at ho;rcases s1.rel.obj id ob ho with⟨he,LX⟩|⟨b,o,c,el,mX,pq,hb,hle,hr⟩
    ·exact .inl ⟨he,by grind⟩
    ·obtain⟨g1,g2⟩:=aqw id ob b o ob.k ho mX;have E1:Ext w I1 σ w' J σ':=⟨s.LV,s.grow,fun b hb=>hJ1 b (s.imp b hb),E.sig⟩;exact .inr ⟨b,o,c,el,by grind,g2,hb.same g1,hle,hr.nZ (E1.qX _) g1⟩
  grind
 ·by_cases fg:id<n<;>by_cases zT:nN<n
  ·obtain⟨y,hy⟩:=hold id ob fg ho;obtain⟨y',hy'⟩:=hold nN oK zT zp;rw[hσ _ fg]at mX;rw[hσ _ zT]at Mk;exact R.apart id nN y y' b o k o' k1 hy hy' mX Mk
  ·grind
  ·grind
  grind
 ·obtain⟨id,ob,o,k,ho,mX⟩:=hb;by_cases fg:id<n
  ·obtain⟨y,hy⟩:=hold id ob fg ho;rw[hσ _ fg]at mX;exact .inr ⟨id,y,o,k,hy,mX⟩
  grind
 ·rcases hJ2 b hb with hb|hb
  ·rcases s.vS b hb with hy|hy|hy
   ·rcases s1.vS b hy with hz|hz|hz
    ·grind
    ·omega
    grind
   ·omega
   grind
  ·rcases s.own b hb with hy|hy
   ·omega
   grind
 ·rcases fg with fg|fg
  ·grind
  ·rw[(ot id fg).1,(F id (by omega)).2]
 ·rcases fg with fg|fg
  ·by_cases e:id=x
   ·subst e;cases hz':h' id with
    |none=>rfl
    |some y=>exact absurd hz (hx y fg hz').1
   ·rw[hh id fg e];cases hy:h1 id with
    |none=>rfl
    |some y=>rw[Aw _ _ (Yy _ _ hy)]at hz;cases hz
  ·exact(ot id fg).2
def YA(σ:jt)(v:V)(m:Mask)(q:Nat):Option (Nat×Nat×Nat):=
 match m[q]? with
 |some p=>match v.cellAt p.1 p.2.1 with
  | .cu id s _=>match σ id with
   |some (b,o,k)=>some (b,o+s*k,k)
   |none=>none
  |_=>none
 |none=>none
theorem uJ: ∀{m:Mask} {n i j q:Nat} {t:TypeId},mY n m i j=some (q,t)->n<=q/\m[q-n]?=some (i,j,t)
 | [],n,i,j,q,t,h=>by simp[mY]at h
 |(a,b,c)::m,n,i,j,q,t,h=>by
  simp only[mY]at h;split at h
  ·grind
  ·obtain⟨h1,h2⟩:=uJ h
   grind
theorem wR: ∀(m:Mask) (n i j:Nat),mY n m i j=(mY 0 m i j).map fun p=>(p.1+n,p.2)
 | [],n,i,j=>rfl
 |(a,b,c)::m,n,i,j=>by
  simp only[mY];split
  ·simp
  ·rw[wR m (n+1),wR m (0+1)];cases mY 0 m i j with
   |none=>rfl
   |some p=>grind
theorem o7(X:Env)(kp:TypeId->Bool)(R:V): ∀(m:Mask) (n:Nat) (h:bh) (id:Nat),xO X kp R n m h id=if n<=id/\id<n+m.length then(m[id-n]?).bind (Bm X kp R) else h id
 | [],n,h,id=>by
  have: ¬(n<=id/\id<n+([]:Mask).length):=by simp
  rw[if_neg this];rfl
 |q::m,n,h,id=>by
  simp only[xO,aR,abJ];by_cases e:id=n
  ·grind
  ·rw[o7 X kp R m (n+1) h id]
   grind
theorem zv: ∀{l:List (Option Nat)},vb l=true-> ∀{i j:Nat} {x:Nat},l[i]?=some (some x)->l[j]?=some (some x)->i=j
 | [],_,i,j,x,h1,_=>by grind
 |a::l,h,i,j,x,h1,h2=>by
  simp only[vb,aaF]at h;have ha:=List.all_eq_true.1 h.1;cases i with
  |zero=>
   cases j with
   |zero=>rfl
   |succ j=>
    simp at h1 h2;subst h1;have:=ha _ (aaT h2);simp[differ]at this
  |succ i=>
   cases j with
   |zero=>
    simp at h1 h2;subst h2;have:=ha _ (aaT h1);simp[differ]at this
   |succ j=>
    rw[zv h.2 h1 h2]
theorem kZ: ∀{l:List (Option Nat)} {h:bh} {id:Nat} {ob:Ob},gq h l id=some ob->h id=some ob/\some id∉l
 | [],h,id,ob,hk=>⟨hk,by simp⟩
 |none::l,h,id,ob,hk=>by
  simp only[gq]at hk;have:=kZ hk;exact⟨this.1,by simpa using this.2⟩
 |some i::l,h,id,ob,hk=>by
  simp only[gq,aR]at hk;split at hk
  ·cases hk
  ·rename_i e;have:=kZ hk;exact⟨this.1,by simp[this.2,e]⟩
theorem Ml(hc:v= .sl true []){q:Nat}(hr:dB w I σ v u):dB w J σ' (.cu q 0 0) u:=by
 subst hc;obtain⟨a,cap,rfl,h1,h2,h3,_⟩:=hr;exact⟨a,cap,rfl,h1,h2,.inl (by grind)⟩
theorem Fm  (R:Rel w' I' σc hc) {AA:bh}   (hr:dB w' I' σc v u) {m:Mask} (amz: ∀id ob,AA id=some ob->hc id=some ob/\some id∉iD v m) (he:Bl X hc AA v m=some R') {n:Nat} {σ0:jt}
  (hJ1: ∀b,I' b->J b) (hJ2: ∀b,jk σc AA b->J b) (hJ3: ∀b,J b->I' b\/jk σc AA b) (hσ: ∀q,q<m.length->σ0 (n+q)=YA σc v m q):
  dB w' J σ0 (vc n m R') u/\
  (∀(kp:TypeId->Bool) (q:Nat) (p:Nat×Nat×TypeId) (ob:Ob),m[q]?=some p->Bm X kp R' p=some ob->LW w' J σ0 (n+q) ob/\ ∀b o k,σ0 (n+q)=some (b,o,k)-> ∃id,some id∈iD v m/\ ∃oK o' k',hc id=some oK/\σc id=some (b,o',k'))/\
  (∀(q q' b o k o' k':Nat),q<m.length->q'<m.length->σ0 (n+q)=some (b,o,k)->σ0 (n+q')=some (b,o',k')->(∃kp ob,(m[q]?).bind (Bm X kp R')=some ob)->(∃kp ob,(m[q']?).bind (Bm X kp R')=some ob)->q=q'):=by
 unfold Bl at he;split at he
 case isFalse=>grind
 rename_i YB;simp only[aaF]at YB;have Yz:=YB.1;simp only[aA]at he;subst he;have SP:Rel w' I' σc AA:=R.sub fun id ob h=>(amz id ob h).1;have him: ∀c c' x,cx AA depth c=some c'->dB w' I' σc c x->dB w' J fy c' x:=fun c c' x ht hx=>uH SP hJ1 hJ2 depth c c' x ht hx;have hF1: ∀i c,(∀cs,c≠ .agg cs)-> ∀cs,mO X hc AA m i 0 c≠ .agg cs:=by
  intro i c Bx cs e;unfold mO at e;split at e
  ·grind
  ·split at e
   ·rename_i c' Bq;exact Yu (zu Bq Bx) cs e
   grind
 have hF2: ∀c,(∀cs,c≠ .dM cs)-> ∀cs,mO X hc AA m 0 0 c≠ .dM cs:=by
  intro c Bx cs e;unfold mO at e;split at e
  ·grind
  ·split at e
   ·rename_i c' Bq;exact Yv (PB Bq Bx) cs e
   grind
 have Fj: ∀i j,(u9 (mO X hc AA m) v).cellAt i j=mO X hc AA m i j (v.cellAt i j)\/(∀es c,(u9 (mO X hc AA m) v).cellAt i j≠ .sl c es):=by
  intro i j;have one: ∀(F:Nat->V->V) (x:V),(∀c,(∀cs,c≠ .agg cs)-> ∀cs,F 0 c≠ .agg cs)->(uD F x).cells.getD j .bad=F j (x.cells.getD j .bad)\/(uD F x).cells.getD j .bad= .bad:=by
   intro F x hF;by_cases hx: ∃cs,x= .agg cs
   ·obtain⟨cs,rfl⟩:=hx;rw[yh];simp only[V.cells,aaQ,yj,acN]
    grind
   ·have Hy: ∀cs,x≠ .agg cs:=fun cs e=>hx ⟨cs,e⟩;rw[re F Hy,mH (hF x Hy),mH Hy]
    grind
  by_cases hv: ∃cs,v= .dM cs
  ·obtain⟨vs,rfl⟩:=hv;rw[yi];simp only[V.cellAt,aaQ,yj,acN];cases vs[i]? with
   |none=>right;intro es c e;simp only[Option.map_none,adA,V.cells]at e;grind
   |some x=>
    grind
  ·have Kt: ∀cs,v≠ .dM cs:=fun cs e=>hv ⟨cs,e⟩;rw[tY _ Kt];have hm: ∀cs,uD (mO X hc AA m 0) v≠ .dM cs:=by
    intro cs e;by_cases ha: ∃cs,v= .agg cs
    ·obtain⟨rS,rfl⟩:=ha;cases e
    ·have Xi: ∀cs,v≠ .agg cs:=fun cs e=>ha ⟨cs,e⟩;rw[re _ Xi]at e
     grind
   have cA: ∀y:V,(∀cs,y≠ .dM cs)->y.cellAt i j=if i=0 then y.cells.getD j .bad else .bad:=by
    intro y hy;cases y with
    |dM cs=>grind
    |_=>rfl
   grind
 have fV: ∀(t:TypeId) (c:V) (es:List V),rowAt X hc AA t c=some es->(c= .sl true []/\es=[])\/ ∃id s l ob es0,c= .cu id s l/\hc id=some ob/\ob.k=(X.ti t).size/\s+l<=ob.es.length/\es.length=l/\cF (((ob.es.drop s).take l).map (cx AA depth))=some es0/\es=eV es0:=by
  intro t c es PC;unfold rowAt at PC;split at PC
  ·grind
  ·rename_i id s l;right;split at PC
   case h_2=>grind
   rename_i ob gG;split at PC
   case isFalse=>grind
   rename_i hkl;split at PC
   case h_2=>grind
   rename_i es0 IZ;simp only[aA]at PC;subst PC;refine⟨id,s,l,ob,es0,rfl,gG,hkl.1,hkl.2,?_,IZ,rfl⟩;have:=(lG _ IZ).1;have hd: ∀l:List V,(eV l).length=l.length:=by
    intro l;induction l with
    |nil=>rfl
    |cons c l ih=>simp[eV,ih]
   grind
  ·grind
 have am0: ∀(q:Nat) (p:Nat×Nat×TypeId) (c:Bool) (es:List V),m[q]?=some p->(u9 (mO X hc AA m) v).cellAt p.1 p.2.1= .sl c es-> ∀q' t,mY 0 m p.1 p.2.1=some (q',t)->rowAt X hc AA t (v.cellAt p.1 p.2.1)=some es:=by
  intro q p c es hq sw q' t hm;rcases Fj p.1 p.2.1 with h|h
  ·rw[h]at sw;unfold mO at sw
   grind
  ·grind
 have axb: ∀(q:Nat) (p:Nat×Nat×TypeId),m[q]?=some p-> ∃q' t,mY 0 m p.1 p.2.1=some (q',t):=by
  intro q p hq;have: ∀(m:Mask) (n q:Nat),m[q]?=some p-> ∃q' t,mY n m p.1 p.2.1=some (q',t):=by
   intro m;induction m with
   |nil=>grind
   |cons y m ih=>
    intro n q hq;obtain⟨a,b,t⟩:=y;simp only[mY];by_cases sx:a=p.1/\b=p.2.1
    ·grind
    ·simp only[sx,if_false];cases q with
     |zero=>
      grind
     |succ q=>exact ih (n+1) q (by grind)
  exact this m 0 q hq
 have Mm: ∀(q:Nat) (p:Nat×Nat×TypeId),m[q]?=some p->q<m.length:=fun q p h=>(List.getElem?_eq_some_iff.1 h).1;have axc: ∀(q:Nat) (p:Nat×Nat×TypeId),m[q]?=some p-> ∀b o k,σ0 (n+q)=some (b,o,k)-> ∃id s l o',v.cellAt p.1 p.2.1= .cu id s l/\σc id=some (b,o',k)/\o=o'+s*k:=by
  intro q p hq b o k mX;rw[hσ q (Mm q p hq)]at mX;unfold YA at mX;rw[hq]at mX;simp only at mX;split at mX
  case h_2=>grind
  rename_i id s l sw;split at mX
  case h_2=>grind
  rename_i b' o' k' oM;simp only[aA,bM]at mX;obtain⟨rfl,rfl,rfl⟩:=mX;exact⟨id,s,l,o',sw,oM,rfl⟩
 have SQ: ∀(q:Nat) (p:Nat×Nat×TypeId) (id s l:Nat),m[q]?=some p->v.cellAt p.1 p.2.1= .cu id s l->(iD v m)[q]?=some (some id):=by
  intro q p id s l hq sw;unfold iD;rw[abm,hq];simp[sw,V.src]
 refine⟨?_,?_,?_⟩
 ·unfold vc;rw[UG hF1 hF2];refine Yx hr fun i j c x sw hx=> ?_;rw[wR m n];cases hm:mY 0 m i j with
  |none=>
   simp only[Option.map_none,mO,hm];split
   ·rename_i c' Bq;exact((him c c' x Bq hx).ext Ext.free).lM
   ·simp[dB]
  |some y=>
   obtain⟨q,t⟩:=y;simp only[abZ,mO,hm];obtain⟨hq0,hq⟩:=uJ hm;simp only[Nat.sub_zero]at hq;cases PC:rowAt X hc AA t c with
   |none=>grind
   |some es=>
    rcases fV t c es PC with⟨rfl,rfl⟩|⟨id,s,l,ob,es0,rfl,gG,hk,rK,tq,IZ,hd⟩
    ·exact Ml rfl hx
    ·simp only[dB]at hx⊢;obtain⟨a,cap,rfl,h1,h2,h3⟩:=hx;refine⟨a,cap,by rw[tq],by rw[tq];exact h1,h2,?_⟩;rcases h3 with h3|⟨b,o,k,c',el,fz,mX,ha,hb,hle⟩
     ·exact .inl h3
     ·refine .inr ⟨b,o+s*k,k,c',el,fz,?_,by rw[ha];simp,hb,by
       have:(s+cap)*k=s*k+cap*k:=acA ..;rw[acN];omega⟩
      rw[Nat.add_comm q n,hσ q (Mm q _ hq)];unfold YA;rw[hq];simp only[sw,mX]
 ·intro kp q p ob hq hO;unfold Bm at hO;split at hO
  case h_2=>cases hO
  rename_i cc es sw;simp only[aA]at hO;subst hO;obtain⟨q',t,hm⟩:=axb q p hq;have PC:=am0 q p cc es hq sw q' t hm;have bg0: ∃t',rowAt X hc AA t' (v.cellAt p.1 p.2.1)=some es:=⟨t,PC⟩;refine⟨?_,fun b o k mX=> ?_⟩
  ·rcases fV t _ es PC with⟨Bx,rfl⟩|⟨id,s,l,ob,es0,Bx,gG,hk,rK,tq,IZ,hd⟩
   ·left;refine⟨rfl,?_⟩;rw[hσ q (Mm q p hq)];unfold YA;rw[hq];simp only[Bx]
   ·rcases R.obj id ob gG with⟨he,LX⟩|⟨b,o,c,el,mX,hi,hb,hle,Fo⟩
    ·left;refine⟨?_,?_⟩
     ·have:l=0:=by rw[he]at rK;simp at rK;omega
      rw[this]at tq;exact abP tq
     ·rw[hσ q (Mm q p hq)];unfold YA;rw[hq];simp only[Bx,LX]
    ·right;have Mn:=SQ q p id s l hq Bx;obtain⟨_,Lz⟩:=uJ hm;simp only[Nat.sub_zero]at Lz;have hqq:q=q':=zv Yz Mn (SQ q' _ id s l Lz Bx);subst hqq;rw[hq]at Lz;simp only[aA]at Lz;have ht:p.2.2=t:=by rw[Lz]
     have xz:(X.ti p.2.2).size=ob.k:=by rw[ht];exact hk.symm
     have a6t:σ0 (n+q)=some (b,o+s*ob.k,ob.k):=by
      rw[hσ q (Mm q p hq)];unfold YA;rw[hq];simp only[Bx,mX]
     refine⟨b,o+s*ob.k,c,el,by rw[xz];exact a6t,fun hj=> ?_,hb,?_,?_⟩
     ·rcases hJ3 b hj with hx|⟨i2,ob2,o2,k2,h1,h2⟩
      ·exact hi hx
      ·have h3:=amz _ _ h1;have:i2=id:=R.apart i2 id ob2 ob b o2 k2 o ob.k h3.1 gG h2 mX;subst this;exact h3.2 (aaT Mn)
     ·rw[xz,tq];have e1:(s+l)*ob.k<=ob.es.length*ob.k:=abM _ rK;have e2:(s+l)*ob.k=s*ob.k+l*ob.k:=acA ..;show o+s*ob.k+l*ob.k<=c.size;omega
     ·rw[xz];have hr1:=((Fo.nZ (Ext.ES ob.eU) rfl).SF s l);have OU:=(ahz SP hJ1 hJ2 IZ hr1).2;rw[hd];exact(dK.nM _ _ _ _ OU).nZ Ext.free rfl
  ·obtain⟨id,s,l,o',Fp,oM,rfl⟩:=axc q p hq b o k mX;rcases fV t _ es PC with⟨Bx,_⟩|⟨nN,s',l',ob,es0,Bx,gG,_⟩
   ·rw[Bx]at Fp;cases Fp
   ·rw[Bx]at Fp;simp only[V.cu.injEq]at Fp;obtain⟨rfl,rfl,rfl⟩:=Fp;exact⟨nN,aaT (SQ q p nN s' l' hq Bx),ob,o',k,gG,oM⟩
 ·intro q q' b o k o' k' hq Lz mX Mk e1 e2;have hp:m[q]?=some m[q]:=aaJ hq;have hp':m[q']?=some m[q']:=aaJ Lz;have get: ∀(q:Nat) (p:Nat×Nat×TypeId) (b o k:Nat),m[q]?=some p->σ0 (n+q)=some (b,o,k)->(∃kp ob,(m[q]?).bind (Bm X kp (u9 (mO X hc AA m) v))=some ob)-> ∃id ob o',(iD v m)[q]?=some (some id)/\hc id=some ob/\σc id=some (b,o',k):=by
   intro q p b o k hq mX hO;obtain⟨kp,ob,hO⟩:=hO;rw[hq]at hO;simp only[adT]at hO;unfold Bm at hO;split at hO
   case h_2=>cases hO
   rename_i cc es sw;obtain⟨q',t,hm⟩:=axb q p hq;have PC:=am0 q p cc es hq sw q' t hm;obtain⟨id,s,l,o',Fp,oM,rfl⟩:=axc q p hq b o k mX;rcases fV t _ es PC with⟨Bx,_⟩|⟨nN,s',l',ob,es0,Bx,gG,_⟩
   ·rw[Bx]at Fp;cases Fp
   ·rw[Bx]at Fp;simp only[V.cu.injEq]at Fp;obtain⟨rfl,rfl,rfl⟩:=Fp;exact⟨nN,ob,o',SQ q p nN s' l' hq Bx,gG,oM⟩
  obtain⟨id,ob,o1,g1,g2,g3⟩:=get q _ b o k hp mX e1;obtain⟨nN,oK,o1',g1',g2',g3'⟩:=get q' _ b o' k' hp' Mk e2;have:id=nN:=R.apart id nN ob oK b o1 k o1' k' g2 g2' g3 g3';subst this;exact zv Yz g1 g1'
end
def Ct{w:World}{σ:jt}: ∀{vs Cu:List V} {I:Nat->Prop} {h h':bh} {us:List Value},Rel w I σ h->iN w I σ vs us->rL h vs=some (Cu,h')-> ∀n:Nat,
  ∃I',Step w I σ h n w I' σ h' n/\iN w I' fy Cu us/\(∀id ob,h' id=some ob->h id=some ob)
 | [],Cu,I,h,h',us,R,hr,hg,n=>by
  obtain⟨rfl,rfl⟩:=hg;exact⟨I,Step.refl R n,by simpa[iN] using hr,fun _ _ hh=>hh⟩
 |c::ps,Cu,I,h,h',us,R,hr,hg,n=>by
  obtain⟨u,r,rfl,h2,h3⟩:=hr;simp only[rL]at hg;cases hc:qu h c with
  |none=>grind
  |some x=>
   obtain⟨c',uE⟩:=x;simp only[hc]at hg;cases hl:rL uE ps with
   |none=>grind
   |some y=>
    simp only[hl,aA,bM]at hg;obtain⟨rfl,rfl⟩:=hg;obtain⟨I1,s1,r1,Hz⟩:=E3 R h2 hc n;have X8:iN w I1 σ ps r:=iN.ext' _ r s1.ext h3;obtain⟨I2,s2,r2,X9⟩:=Ct s1.rel X8 hl n;refine⟨I2,s1.trans s2,?_,fun id ob hh=>Hz _ _ (X9 _ _ hh)⟩;exact⟨u,r,rfl,r1.ext s2.ext.Ke,r2⟩
def tA(n:Nat)(σ σc:jt)(v:V)(m:Mask):jt:=fun id=>if id<n then σ id else YA σc v m (id-n)
def Fq{n:Nat}{σ σc:jt}{m:Mask}(q:Nat):tA n σ σc v m (n+q)=YA σc v m q:=by
 unfold tA
 grind
def YC   (hC:qY X C)  {dst:Option Nat}    (he:mZ X C bY dst g args S=some S1)
  {w:World} {I:Nat->Prop} {σ:jt} (R:Rel w I σ S.h) (F:lQ σ S.h S.n) (us:Array Value) (hr:iN w I σ args us.toList):
  Calls X.P g us w fun e w'=> ∃u v I' σ',e= .returned u/\Step w I σ S.h S.n w' I' σ' S1.h S1.n/\S1.f=(S.set dst v).f/\dB w' I' σ' v u:=by
 unfold mZ at he;generalize dst.elim [] (X.mask bY)=m at he;split at he
 case h_2=>grind
 rename_i bwf h1 hg;split at he
 case h_2=>grind
 rename_i v hc k' rO;split at he
 case h_2=>grind
 rename_i r hR;simp only[aA]at he;subst he;obtain⟨I1,s1,r1,Hz⟩:=Ct R hr hg S.n;have F1:lQ σ h1 S.n:=s1.fresh F;refine Calls.mono (hC g bwf kO 0 v hc k' rO w I1 fy us (Rel.kO s1.rel.ed s1.rel.Av) (fun _ _=>⟨rfl,rfl⟩) r1) fun e w' hh=> ?_;obtain⟨u,I',σc,rfl,_,s,_,mQ⟩:=hh;have Aw: ∀b,jk σc (gq hc (iD v m)) b->jk σc hc b:=fun b ⟨i,ob,o,k,g1,g2⟩=>⟨i,ob,o,k,(kZ g1).1,g2⟩;obtain⟨q1,q2,q3⟩:=Fm s.rel mQ (AA:=gq hc (iD v m)) (fun id ob h=>kZ h) hR (n:=S.n) (σ0:=tA S.n σ σc v m) (J:=fun b=>I' b\/jk σc (gq hc (iD v m)) b) (fun b hb=> .inl hb) (fun b hb=> .inr hb) (fun b hb=>hb) (fun q _=>Fq q);have PD: ∀id ob,S.n<=id->xO X (X.fX bY) r S.n m h1 id=some ob-> ∃q p,id=S.n+q/\m[q]?=some p/\Bm X (X.fX bY) r p=some ob:=by
  intro id ob fg ho;rw[o7]at ho;split at ho
  ·grind
  ·rw[(F1 id fg).1]at ho;grind
 have st:Step w I σ S.h S.n w' (fun b=>I' b\/jk σc (gq hc (iD v m)) b) (tA S.n σ σc v m) (xO X (X.fX bY) r S.n m h1) (S.n+m.length):=by
  refine Step.call (x:=S.n) R F (fun _ _ h=>h) s1 Hz s (fun b hb=>absurd hb qZ) (fun b hb=> .inl hb) (fun b hb=> ?_) (fun id fg=> ?_) (fun id fg _=> ?_) (fun ob gY=>by omega) (by omega) (fun id fg=>⟨?_,?_⟩) (fun id ob fg ho=> ?_) (fun id nN ob oK b o k o' k1 fg zT ho zp mX Mk=> ?_)
  ·grind
  ·simp[tA,fg]
  ·rw[o7,if_neg (by omega)]
  ·unfold tA;rw[if_neg (by omega)];unfold YA
   grind
  ·rw[o7,if_neg (by omega)];exact(F1 id (by omega)).1
  ·obtain⟨q,p,rfl,hq,hO⟩:=PD id ob fg ho;obtain⟨g1,g2⟩:=q2 _ q p ob hq hO;refine⟨g1,fun b o k mX=>⟨?_,fun gY=>by omega⟩⟩;obtain⟨i,_,oK,o',k',h3,h4⟩:=g2 b o k mX;rcases s.own b ⟨i,oK,o',k',h3,h4⟩ with hx|hx
   ·omega
   grind
  ·obtain⟨q,p,rfl,hq,hO⟩:=PD id ob fg ho;obtain⟨q',p',rfl,Lz,hO'⟩:=PD nN oK zT zp;have:=q3 q q' b o k o' k1 (List.getElem?_eq_some_iff.1 hq).1 (List.getElem?_eq_some_iff.1 Lz).1 mX Mk ⟨_,ob,by rw[hq];exact hO⟩ ⟨_,oK,by rw[Lz];exact hO'⟩;omega
 refine⟨u,_,_,_,rfl,?_,rN _ _ _ _ rfl,q1⟩;rw[fm,gZ];omega
def PE{w:World}{I:Nat->Prop}{σ:jt}: ∀(cs:List V) (b o:Nat),Cg w I σ cs b o-> ∃us:List Value,fP w I σ cs us/\ ∀(j:Nat) x,us[j]?=some x->w.cell? ⟨b,o+j,none⟩=some x:=by
 intro cs b;induction cs with
 |nil=>intro o _;exact⟨[],by simp[fP],by simp⟩
 |cons c cs ih=>
  intro o yf;obtain⟨u,g1,g2,g3⟩:=yf 0 c (by simp);obtain⟨us,g4,g5⟩:=ih (o+1) fun j c' hj=>by
   have:=yf (j+1) c' (by grind)
   grind
  refine⟨u::us,by exact⟨u,us,rfl,g2,g3,g4⟩,fun j x hj=> ?_⟩
  grind
def Mo{w:World}{I:Nat->Prop}{σ:jt}{b o:Nat}(h:Cg w I σ e.cells b o): ∃ue:Value,dB w I σ e ue/\
  ∀{J:Nat->Prop} {σ':jt} {e':V},dB w J σ' e' ue->((∃cs,e= .agg cs)-> ∃cs,e'= .agg cs)->e'.cells.length=e.cells.length/\Cg w J σ' e'.cells b o:=by
 obtain⟨uc,huc,Mn⟩:=PE e.cells b o h;have zR:e.cells.length=uc.length:=((dL _ _).1 huc).1;have fin: ∀{J:Nat->Prop} {σ':jt} {e':V},fP w J σ' e'.cells uc->e'.cells.length=e.cells.length/\Cg w J σ' e'.cells b o:=by
  intro J σ' e' hsh;have hl1:e'.cells.length=uc.length:=((dL _ _).1 hsh).1;refine⟨by omega,fun j c' hj=> ?_⟩;have hju:j<uc.length:=by rw[<-hl1];exact(List.getElem?_eq_some_iff.1 hj).1
  have Es:=((dL _ _).1 hsh).2 j c' uc[j] hj (by simp);exact⟨uc[j],Mn j _ (by simp),Es.1,Es.2⟩
 by_cases hx: ∃cs,e= .agg cs
 ·obtain⟨cs,rfl⟩:=hx;refine⟨.agg uc.toArray,?_,fun{J σ' e'} hr ha=> ?_⟩
  ·exact⟨_,rfl,by exact huc⟩
  ·obtain⟨rS,rfl⟩:=ha ⟨cs,rfl⟩;refine fin ?_;obtain⟨Ch,hz,hy⟩:=hr;simp only[Value.agg.injEq]at hz;subst hz;simpa[V.cells] using hy
 ·have Hy: ∀cs,e≠ .agg cs:=fun cs e=>hx ⟨cs,e⟩;rw[mH Hy]at huc;obtain⟨ue,rr,rfl,g1,g2,rfl⟩:=huc;refine⟨ue,g2,fun{J σ' e'} hr _=> ?_⟩;refine fin ?_;have hna: ∀cs,e'≠ .agg cs:=by
   intro cs IY;subst IY;simp only[dB]at hr;obtain⟨Ch,rfl,_⟩:=hr;simp[Value.oneCell']at g1
  rw[mH hna];exact⟨ue,[],rfl,g1,hr,rfl⟩
def Ft(F:Nat->Nat->V->V)(h: ∃cs,v= .agg cs): ∃cs,u9 F v= .agg cs:=by
 obtain⟨cs,rfl⟩:=h;exact⟨_,rfl⟩
def aqz   (hC:qY X C)  {dst:Option Nat}    (Bg:X.gm g=true) (he:vd X C bY dst g args S=some S1)
  {w:World} {I:Nat->Prop} {σ:jt} (R:Rel w I σ S.h) (F:lQ σ S.h S.n) (us:Array Value) (hr:iN w I σ args us.toList):
  Calls X.P g us w fun e w'=> ∃u v I' σ',e= .returned u/\Step w I σ S.h S.n w' I' σ' S1.h S1.n/\S1.f=(S.set dst v).f/\dB w' I' σ' v u:=by
 unfold vd at he;generalize hM:rT X bY dst g=M at he;split at he
 case h_2=>grind
 rename_i id rest;split at he
 case h_2=>grind
 rename_i ob gG;split at he
 case h_2=>grind
 rename_i e YD;split at he
 case isFalse=>grind
 split at he
 case h_2=>grind
 rename_i Ro hRo;split at he
 case h_2=>grind
 rename_i bwf h1 hg;split at he
 case h_2=>grind
 rename_i v hc k' rO;split at he
 case h_2=>grind
 rename_i kk r rs Cv;simp only[aA]at he;subst he;obtain⟨u0,r0,hus,hu0,axf⟩:=hr;have aq1:id<S.n:=by
  rcases aaR id S.n with hh|hh
  ·omega
  ·rw[(F id hh).1]at gG;grind
 obtain⟨b,o,c,el,mX,hbi,hhb,hle,fV⟩: ∃b o c el,σ id=some (b,o,ob.k)/\ ¬I b/\kN w b c el/\o+ob.es.length*ob.k<=c.size/\dK w I (my ob.eU σ) ob.es ob.k b o:=by
  rcases R.obj id ob gG with⟨hx,_⟩|hx
  ·grind
  omega
 have YE:dK w I σ [e] ob.k b o:=by
  rw[<-YD];exact fV.nZ (Ext.ES ob.eU) rfl
 have a6w:e.cells.length=ob.k/\Cg w I σ e.cells b o:=by
  rw[kM]at YE;exact⟨YE.1,YE.2.1⟩
 generalize hom:X.fl g=om at*;have hkn: ∀{l:List (Option Nat)} {h:bh} {i:Nat},some i∈l->gq h l i=none:=fun{l h i} hm=>by
  cases hz:gq h l i with
  |none=>rfl
  |some y=>exact absurd hm (kZ hz).2
 have UC: ∀i y,aR S.h id none i=some y->i≠id/\S.h i=some y:=by
  intro i y hy;by_cases ei:i=id
  ·grind [aR]
  ·grind [aR]
 have ah1: ∀i y,gq (aR S.h id none) (iD e om) i=some y->S.h i=some y:=fun i y hy=>(UC i y (kZ hy).1).2;have aq2:gq (aR S.h id none) (iD e om) id=none:=by
  cases hz:gq (aR S.h id none) (iD e om) id with
  |none=>rfl
  |some y=>exact absurd rfl (UC id y (kZ hz).1).1
 obtain⟨I1,s1,r1,Hz⟩:=Ct (R.sub ah1) axf hg S.n;have hnK: ∀i y b o k,S.h i=some y->σ i=some (b,o,k)->gq (aR S.h id none) (iD e om) i=none-> ¬jk σ (gq (aR S.h id none) (iD e om)) b:=by
  rintro i y b o k h2 h3 h4 ⟨i2,y2,o2,k2,g1,g2⟩;have:i2=i:=R.apart i2 i y2 y b o2 k2 o k (ah1 _ _ g1) h2 g2 h3;subst this;rw[h4]at g1;cases g1
 have mA: ∀i y b o k,S.h i=some y->σ i=some (b,o,k)->gq (aR S.h id none) (iD e om) i=none-> ¬I1 b:=by
  intro i y b o k h2 h3 h4 hx;rcases s1.vS b hx with hy|hy|hy
  ·exact(R.owned ⟨i,y,o,k,h2,h3⟩).1 hy
  ·have:=R.mh ⟨i,y,o,k,h2,h3⟩;omega
  ·grind
 have a6y: ¬I1 b:=mA id ob b o ob.k gG mX aq2;obtain⟨ue,hue,axh⟩:=Mo a6w.2;obtain⟨p1,p2,p3⟩:=Fm (R.kill id) hue (AA:=fun _=>none) (fun _ _ h=>by cases h) hRo (n:=1) (σ0:=tA 1 (fun _=>σ id) σ e om) (J:=I) (fun b hb=>hb) (fun b hb=>by
  obtain⟨_,_,_,_,h,_⟩:=hb;cases h) (fun b hb=> .inl hb) (fun q _=>Fq q)
 have EI: ∀τ:jt,Ext w I τ w I1 τ:=fun τ=>⟨fun _ _=>rfl,fun _ c _ fz hh=>⟨c,fz,hh,rfl⟩,s1.ext.imp,fun _ _ hh=>hh⟩;have aq3: ∀(q:Nat) (p:Nat×Nat×TypeId) (y:Ob),om[q]?=some p->Bm X (X.fX g) Ro p=some y-> ∀b' o' k1,tA 1 (fun _=>σ id) σ e om (1+q)=some (b',o',k1)-> ∃i y',i≠id/\S.h i=some y'/\gq (aR S.h id none) (iD e om) i=none/\ ∃o2 k2,σ i=some (b',o2,k2):=by
  intro q p y hq hO b' o' k1 oM;obtain⟨i,Mn,y',o2,k2,g1,g2⟩:=(p2 _ q p y hq hO).2 b' o' k1 oM;exact⟨i,y',(UC i y' g1).1,(UC i y' g1).2,hkn Mn,o2,k2,g2⟩
 have I6: ∀i y,ma X g ob.k Ro i=some y->(i=0/\y=⟨ob.k,[vc 1 om Ro],true⟩)\/ ∃q p,i=1+q/\om[q]?=some p/\Bm X (X.fX g) Ro p=some y:=by
  intro i y hy;unfold ma at hy;rw[hom]at hy;rw[o7]at hy;split at hy
  ·grind
  ·grind [aR]
 have Mp:tA 1 (fun _=>σ id) σ e om 0=some (b,o,ob.k):=by simp[tA,mX]
 have am2:(vc 1 om Ro).cells.length=ob.k/\Cg w I1 (tA 1 (fun _=>σ id) σ e om) (vc 1 om Ro).cells b o:=by
  have Yo:(∃cs,e= .agg cs)-> ∃cs,vc 1 om Ro= .agg cs:=fun h=>by
   unfold Bl at hRo;split at hRo
   case isFalse=>grind
   simp only[aA]at hRo;rw[<-hRo];exact Ft _ (Ft _ h)
  obtain⟨g1,g2⟩:=axh (p1.ext (EI _)) Yo;exact⟨by omega,g2⟩
 have aqn:o+ [e].length*ob.k<=c.size:=by rw[YD]at hle;simpa using hle
 have Rs:Rel w I1 (tA 1 (fun _=>σ id) σ e om) (ma X g ob.k Ro):=by
  refine⟨s1.rel.ed,fun i y hy=> ?_,fun i i' y y' b1 o1 k1 o2 k2 g1 g2 g3 g4=> ?_,s1.rel.Av⟩
  ·rcases I6 i y hy with⟨rfl,rfl⟩|⟨q,p,rfl,hq,hO⟩
   ·refine .inr ⟨b,o,c,el,Mp,a6y,hhb,by omega,?_⟩;rw[kM];exact⟨am2.1,am2.2,by simp[dK]⟩
   ·rcases(p2 _ q p y hq hO).1 with hx|⟨b',o',c',Pm,g1,g2,g3,g4,g5⟩
    ·exact .inl hx
    ·obtain⟨i,y',_,k1,k2,o2,k3,k4⟩:=aq3 q p y hq hO b' o' y.k g1;exact .inr ⟨b',o',c',Pm,g1,mA i y' b' o2 k3 k1 k4 k2,g3,g4,g5.nZ ((EI _).qX _) rfl⟩
  ·have am3: ∀q p y b1 o1 k1 o2 k2,om[q]?=some p->Bm X (X.fX g) Ro p=some y->tA 1 (fun _=>σ id) σ e om (1+q)=some (b1,o1,k1)->tA 1 (fun _=>σ id) σ e om 0=some (b1,o2,k2)->False:=by
    intro q p y b1 o1 k1 o2 k2 hq hO h3 h4;obtain⟨i,y',kC,m1,m2,o3,k3,m4⟩:=aq3 q p y hq hO b1 o1 k1 h3;rw[Mp]at h4;simp only[aA,bM]at h4;obtain⟨rfl,_,_⟩:=h4;exact kC (R.apart i id y' ob b o3 k3 o ob.k m1 gG m4 mX)
   rcases I6 i y g1 with⟨rfl,rfl⟩|⟨q,p,rfl,hq,hO⟩
   ·rcases I6 i' y' g2 with⟨rfl,rfl⟩|⟨q',p',rfl,Lz,hO'⟩
    ·rfl
    ·exact(am3 q' p' y' b1 o2 k2 o1 k1 Lz hO' g4 g3).elim
   ·rcases I6 i' y' g2 with⟨rfl,rfl⟩|⟨q',p',rfl,Lz,hO'⟩
    ·exact(am3 q p y b1 o1 k1 o2 k2 hq hO g3 g4).elim
    ·have:=p3 q q' b1 o1 k1 o2 k2 (List.getElem?_eq_some_iff.1 hq).1 (List.getElem?_eq_some_iff.1 Lz).1 g3 g4 ⟨_,y,by rw[hq];exact hO⟩ ⟨_,y',by rw[Lz];exact hO'⟩;omega
 have Fs:lQ (tA 1 (fun _=>σ id) σ e om) (ma X g ob.k Ro) (1+om.length):=fun i hi=>by
  refine⟨?_,?_⟩
  ·cases hz:ma X g ob.k Ro i with
   |none=>rfl
   |some y=>
    rcases I6 i y hz with⟨rfl,rfl⟩|⟨q,p,rfl,hq,hO⟩
    ·omega
    ·have:=(List.getElem?_eq_some_iff.1 hq).1;omega
  ·unfold tA;rw[if_neg (by omega)];unfold YA;rw[abC (by omega)]
 have jK:iN w I1 (tA 1 (fun _=>σ id) σ e om) (.ptr 0 0 0::bwf) us.toList:=by
  rw[hus];simp only[iN];refine⟨u0,r0,rfl,?_,iN.ext' _ _ Ext.free r1⟩;simp only[dB]at hu0⊢;obtain⟨b',o',k1,g1,g2⟩:=hu0;rw[mX]at g1;simp only[aA,bM]at g1;obtain⟨rfl,rfl,rfl⟩:=g1;exact⟨b,o,ob.k,Mp,by rw[g2]⟩
 refine Calls.mono (hC g (.ptr 0 0 0::bwf) (ma X g ob.k Ro) (1+om.length) v hc k' rO w I1 _ us Rs Fs jK) fun ex w' hh=> ?_;obtain⟨u,I',σc,rfl,_,s0,_,mQ⟩:=hh;have s:vf 1 w I1 (tA 1 (fun _=>σ id) σ e om) (ma X g ob.k Ro) w' I' σc hc:=s0.less (by unfold Ly;rw[if_pos Bg];split<;>omega);have hσc:σc 0=some (b,o,ob.k):=by rw[s.sigs 0 (by omega)];exact Mp
 unfold x8 at Cv;split at Cv
 case h_2=>cases Cv
 rename_i oK UH;split at Cv
 case h_2=>cases Cv
 rename_i e' aq4;split at Cv
 case isFalse=>cases Cv
 rename_i hkp;split at Cv
 case h_2=>cases Cv
 rename_i r' UI hR;simp only[aA,bM]at Cv;obtain⟨rfl,rfl,rfl⟩:=Cv;obtain⟨c',Pm,a60,a61,D0,ya⟩: ∃c' Pm,¬I' b/\kN w' b c' Pm/\o+ [e'].length*oK.k<=c'.size/\dK w' I' σc [e'] oK.k b o:=by
  rcases s.rel.obj 0 oK UH with⟨hx,_⟩|⟨b2,o2,c2,el2,g1,g2,g3,g4,g5⟩
  ·rw[aq4]at hx;cases hx
  ·rw[hσc]at g1;simp only[aA,bM]at g1;obtain⟨rfl,rfl,_⟩:=g1;rw[aq4]at g4 g5;exact⟨c2,el2,g2,g3,g4,g5.nZ (Ext.ES oK.eU) rfl⟩
 have qT:oK.k=ob.k:=by
  rcases s.rel.obj 0 oK UH with⟨hx,_⟩|⟨b2,o2,c2,el2,g1,_⟩
  ·rw[aq4]at hx;cases hx
  ·rw[hσc]at g1;simp only[aA,bM]at g1;exact g1.2.2.symm
 have am4:e'.cells.length=oK.k/\Cg w' I' σc e'.cells b o:=by
  rw[kM]at ya;exact⟨ya.1,ya.2.1⟩
 obtain⟨ue',axj,aq5⟩:=Mo am4.2;have vY: ∃uu,dB w' I' σc (qG e' v) uu/\ ∀(J:Nat->Prop) (σ':jt) (x:V) (T:List V),dB w' J σ' (.dM (x::T)) uu->dB w' J σ' x ue'/\dB w' J σ' (z9 v T) u:=by
  by_cases hv: ∃vs,v= .dM vs
  ·obtain⟨vs,rfl⟩:=hv;simp only[dB]at mQ;obtain⟨Ch,rfl,hl⟩:=mQ;refine⟨.tuple (ue'::Ch.toList).toArray,?_,fun J σ' x T h=> ?_⟩
   ·simp only[qG,dB,iN];exact⟨_,rfl,ue',Ch.toList,by simp,axj,hl⟩
   ·simp only[dB,iN]at h;obtain⟨us2,h1,u2,r2,h2,h3,h4⟩:=h;simp only[Value.tuple.injEq]at h1;subst h1;simp only[acg]at h2;obtain⟨rfl,rfl⟩:=h2;refine⟨h3,?_⟩;simp only[z9,dB];exact⟨Ch,rfl,h4⟩
  ·have Kt: ∀vs,v≠ .dM vs:=fun vs h=>hv ⟨vs,h⟩;have e1:qG e' v= .dM [e',v]:=by cases v<;>first|rfl|exact absurd rfl (Kt _)
   have e2: ∀T,z9 v T=T.headD .bad:=by intro T;cases v<;>first|rfl|exact absurd rfl (Kt _)
   refine⟨.tuple #[ue',u],?_,fun J σ' x T h=> ?_⟩
   ·rw[e1];simp only[dB,iN];exact⟨_,rfl,ue',[u],rfl,axj,u,[],rfl,mQ,rfl⟩
   ·simp only[dB,iN]at h;obtain⟨us2,h1,u2,r2,h2,h3,h4⟩:=h;simp only[Value.tuple.injEq]at h1;subst h1;simp only[acg]at h2;obtain⟨rfl,rfl⟩:=h2;refine⟨h3,?_⟩;rw[e2];cases T with
    |nil=>simp[dB]
    |cons y T=>
     simp only[iN]at h4;obtain⟨u3,r3,h5,h6,_⟩:=h4;simp only[acg]at h5;obtain⟨rfl,_⟩:=h5;exact h6
 obtain⟨uu,huu,Ym⟩:=vY;have hRX:Bl X (aR hc 0 none) (gq (aR hc 0 none) (iD (qG e' v) M)) (qG e' v) M=some (.dM (r'::UI)):=hR;obtain⟨q1,q2,q3⟩:=Fm (s.rel.kill 0) huu (AA:=gq (aR hc 0 none) (iD (qG e' v) M)) (fun _ _ h=>kZ h) hRX (n:=S.n) (σ0:=tA S.n σ σc (qG e' v) M) (J:=fun b=>I' b\/jk σc (gq (aR hc 0 none) (iD (qG e' v) M)) b) (fun b hb=> .inl hb) (fun b hb=> .inr hb) (fun b hb=>hb) (fun q _=>Fq q);have hT:vc S.n M (.dM (r'::UI))= .dM (EN (vc S.n M (.dM (r'::UI)))::SC (vc S.n M (.dM (r'::UI)))):=rfl;rw[hT]at q1;obtain⟨axk,axl⟩:=Ym _ _ _ _ q1;have Yo:(∃cs,e'= .agg cs)-> ∃cs,EN (vc S.n M (.dM (r'::UI)))= .agg cs:=by
  rintro⟨cs,rfl⟩;have h1: ∃rest,qG (.agg cs) v= .dM (.agg cs::rest):=by cases v<;>exact⟨_,rfl⟩
  obtain⟨rest,h1⟩:=h1;unfold Bl at hRX;split at hRX
  case isFalse=>cases hRX
  rw[h1]at hRX;simp only[yi,rJ,yh,aA,V.dM.injEq,acg]at hRX;rw[<-hRX.1];exact⟨_,rfl⟩
 obtain⟨pW,yf⟩:=aq5 axk Yo;have am5: ∀b',jk σc (gq (aR hc 0 none) (iD (qG e' v) M)) b'->jk σc (aR hc 0 none) b':=fun b' ⟨i,y,o1,k1,g1,g2⟩=>⟨i,y,o1,k1,(kZ g1).1,g2⟩;have hJb: ¬(I' b\/jk σc (gq (aR hc 0 none) (iD (qG e' v) M)) b):=by
  rintro(hx|hx)
  ·exact a60 hx
  ·exact s.rel.Kl UH hσc (am5 b hx)
 have axm: ∀i,S.n<=i->h1 i=none:=fun i hi=>by
  cases hz:h1 i with
  |none=>rfl
  |some y=>
   have:=ah1 i y (Hz i y hz);rw[(F i hi).1]at this;cases this
 have PD: ∀i y,S.n<=i->xO X (X.fX bY) (.dM (r'::UI)) S.n M (aR h1 id (some ⟨oK.k,[EN (vc S.n M (.dM (r'::UI)))],true⟩)) i=some y-> ∃q p,i=S.n+q/\M[q]?=some p/\Bm X (X.fX bY) (.dM (r'::UI)) p=some y:=by
  intro i y fg ho;rw[o7]at ho;split at ho
  ·rename_i hi;cases hq:M[i-S.n]? with
   |none=>rw[hq]at ho;cases ho
   |some p=>
    rw[hq]at ho;exact⟨i-S.n,p,by omega,hq,ho⟩
  ·have:i≠id:=by omega
   simp only[aR,this,if_false]at ho;rw[axm i fg]at ho;cases ho
 have st:Step w I σ S.h S.n w' (fun b=>I' b\/jk σc (gq (aR hc 0 none) (iD (qG e' v) M)) b) (tA S.n σ σc (qG e' v) M) (xO X (X.fX bY) (.dM (r'::UI)) S.n M (aR h1 id (some ⟨oK.k,[EN (vc S.n M (.dM (r'::UI)))],true⟩))) (S.n+M.length):=by
  refine Step.call (x:=id) R F ah1 s1 Hz s (fun b' wL=> ?_) (fun b hb=> .inl hb) (fun b' wL=> ?_) (fun i fg=> ?_) (fun i fg kC=> ?_) (fun y ah2 hy=>⟨?_,fun b2 o2 k2 h2=> ?_,?_⟩) (by omega) (fun i fg=>⟨?_,?_⟩) (fun i y fg ho=> ?_) (fun i i' y y' b1 o1 k1 o2 k2 fg zT ho zp qR hs2=> ?_)
  ·obtain⟨i,y,o1,k1,g1,g2⟩:=wL;rcases I6 i y g1 with⟨rfl,rfl⟩|⟨q,p,rfl,hq,hO⟩
   ·rw[Mp]at g2;simp only[aA,bM]at g2;obtain⟨rfl,_,_⟩:=g2;exact⟨⟨id,ob,o,ob.k,gG,mX⟩,hnK id ob b o ob.k gG mX aq2⟩
   ·obtain⟨i2,y2,_,m1,m2,o3,k3,m4⟩:=aq3 q p y hq hO b' o1 k1 g2;exact⟨⟨i2,y2,o3,k3,m1,m4⟩,hnK i2 y2 b' o3 k3 m1 m4 m2⟩
  ·rcases wL with hx|hx
   ·exact .inl hx
   ·exact .inr (am5 b' hx).Pp
  ·simp[tA,fg]
  ·rw[o7,if_neg (by omega)];simp[aR,kC]
  ·rw[gG];simp
  ·rw[mX]at h2;simp only[aA,bM]at h2;obtain⟨rfl,_,_⟩:=h2;exact hnK id ob b o ob.k gG mX aq2
  ·rw[o7,if_neg (by omega)]at hy;simp[aR]at hy;subst hy;refine .inr ⟨b,o,c',Pm,?_,hJb,a61,by simpa using D0,?_⟩
   ·unfold tA;rw[if_pos aq1,mX,qT]
   ·simp only[my,if_true];rw[kM];exact⟨by rw[pW];exact am4.1,yf,by simp[dK]⟩
  ·unfold tA;rw[if_neg (by omega)];unfold YA;rw[abC (by omega)]
  ·rw[o7,if_neg (by omega)];have kC:i≠id:=by omega
   simp only[aR,kC,if_false];exact axm i (by omega)
  ·obtain⟨q,p,rfl,hq,hO⟩:=PD i y fg ho;refine⟨(q2 _ q p y hq hO).1,fun b2 o2 k2 oM=> ?_⟩;obtain⟨i2,_,y2,o3,k3,h3,h4⟩:=(q2 _ q p y hq hO).2 b2 o2 k2 oM;have hi0:i2≠0:=fun ei=>by subst ei;simp[aR]at h3
   have h3':hc i2=some y2:=by simpa[aR,hi0] using h3
   refine⟨s.own b2 ⟨i2,y2,o3,k3,h3',h4⟩,fun _ o4 k4 h5=> ?_⟩;rw[mX]at h5;simp only[aA,bM]at h5;obtain⟨rfl,_,_⟩:=h5;exact hi0 (s.rel.apart i2 0 y2 oK b o3 k3 o ob.k h3' UH h4 hσc)
  ·obtain⟨q,p,rfl,hq,hO⟩:=PD i y fg ho;obtain⟨q',p',rfl,Lz,hO'⟩:=PD i' y' zT zp;have:=q3 q q' b1 o1 k1 o2 k2 (List.getElem?_eq_some_iff.1 hq).1 (List.getElem?_eq_some_iff.1 Lz).1 qR hs2 ⟨_,y,by rw[hq];exact hO⟩ ⟨_,y',by rw[Lz];exact hO'⟩;omega
 refine⟨u,_,_,_,rfl,?_,rN _ _ _ _ rfl,axl⟩;rw[fm,gZ];exact st
def YF   (hC:qY X C) (hK:uI X)  {dst:Option Nat}    (he:gU X C bY dst g args S=some S1)
  {w:World} {I:Nat->Prop} {σ:jt} (R:Rel w I σ S.h) (F:lQ σ S.h S.n) (us:Array Value) (hr:iN w I σ args us.toList):
  Calls X.P g us w fun e w'=> ∃u v I' σ',e= .returned u/\Step w I σ S.h S.n w' I' σ' S1.h S1.n/\S1.f=(S.set dst v).f/\dB w' I' σ' v u:=by
 unfold gU at he;split at he
 ·rename_i t pW;split at he
  case h_2=>grind
  rename_i s;split at he
  case h_2=>grind
  rename_i es kx tq;split at he
  ·grind
  rename_i nn;simp only[abX,aaF,aaZ,not_or,not_and,acO,decide_eq_true_eq,aeK]at nn;obtain⟨⟨⟨H5,hk⟩,hl⟩,hb⟩:=nn;simp only[aA]at he;subst he;obtain⟨u,r,hus,hu,rfl⟩:=hr;have:us= #[u]:=by rw[<-Array.toList_inj];exact hus
  subst this;refine Calls.mono (hK.2 g t pW w I σ S.h S.n s u es kx _ R (F S.n (aaI _)).1 (F S.n (aaI _)).2 hu tq H5 hk (Ep hl) hb.1 hb.2) fun e w' hh=> ?_;obtain⟨r,σ',rfl,hs,mQ⟩:=hh;exact⟨r,_,I,σ',rfl,by rw[fm,gZ];exact hs,rN _ _ _ _ rfl,mQ⟩
 ·split at he
  ·rename_i hby
   have D8:X.low g=false:=by
    simp only[aaF,aaZ]at hby;exact hby.2
   split at he
   case h_2=>grind
   rename_i v h n hc;simp only[aA]at he;subst he;refine Calls.mono (hC g args S.h S.n v h n hc w I σ us R F hr) fun e w' hh=> ?_;obtain⟨u,I',σ',rfl,hle,Mf,ot,mQ⟩:=hh;rw[yg D8]at hle Mf;have hs:=Mf.step F ot hle;exact⟨u,v,I',σ',rfl,by rw[fm,gZ];omega,rN _ _ _ _ rfl,mQ⟩
  split at he
  ·rename_i Bg;exact aqz hC Bg he R F us hr
  split at he
  ·exact YC hC he R F us hr
  ·split at he
   case h_2=>grind
   rename_i bwf has;split at he
   ·rename_i pn;have D8:X.low g=false:=by
     simp only[aaF,aaZ]at pn;exact pn.2
    split at he
    case h_2=>grind
    rename_i v h n hc;split at he
    ·grind
    rename_i nn;simp only[aA]at he;subst he;by_cases rV:args.any V.xN=true
    ·have hpu:v.pu=true:=by
      simpa[rV] using nn
     have Fu:iN w (fun b=>I b\/jk σ S.h b) fy bwf us.toList:=Bw has hr fun v v' u _ ht Df=>uH R (fun b hb=> .inl hb) (fun b hb=> .inr hb) depth v v' u ht Df;have R0:Rel w (fun b=>I b\/jk σ S.h b) fy kO:=Rel.kO (fun b hb=>by
      rcases hb with hb|hb
      ·exact R.ed b hb
      ·exact R.mh hb) (R.Av.sub fun _ hb=> .inl hb)
     refine Calls.mono (hC g (eV bwf) kO S.n v h n hc w _ fy us R0 (fun _ _=>⟨rfl,rfl⟩) (iN.nM _ _ Fu)) fun e w' hh=> ?_;obtain⟨u,I',σ',rfl,hle,Mf,ot,mQ⟩:=hh;rw[yg D8]at hle Mf;have hs:=Mf.step (fun _ _=>⟨rfl,rfl⟩) ot hle;obtain⟨s1,s2⟩:=Step.ahy R F hs;refine⟨u,v,_,_,rfl,?_,rN _ _ _ _ rfl,(aqu hpu mQ).ext s2⟩;rw[fm,gZ]
     grind
    ·have Fu:iN w I fy bwf us.toList:=Bw has hr fun v v' u hv ht Df=>Ys (by grind) ht Df;refine Calls.mono (hC g (eV bwf) kO S.n v h n hc w I fy us (Rel.kO R.ed R.Av) (fun _ _=>⟨rfl,rfl⟩) (iN.nM _ _ Fu)) fun e w' hh=> ?_;obtain⟨u,I',σ',rfl,hle,Mf,ot,mQ⟩:=hh;rw[yg D8]at hle Mf;have hs:=Mf.step (fun _ _=>⟨rfl,rfl⟩) ot hle;obtain⟨s1,s2⟩:=Step.oV R F hs;refine⟨u,v,I',_,rfl,?_,rN _ _ _ _ rfl,mQ.ext s2⟩;rw[fm,gZ]
     grind
   ·split at he
    case h_2=>grind
    rename_i v h n hc;split at he
    case h_2=>grind
    rename_i v' Kt;split at he
    ·grind
    rename_i nn;simp only[aA]at he;subst he;by_cases rV:args.any V.xN=true
    ·have OY:v'.scalar=true:=by
      simpa[rV] using nn
     have Fu:iN w (fun b=>I b\/jk σ S.h b) fy bwf us.toList:=Bw has hr fun v v' u _ ht Df=>uH R (fun b hb=> .inl hb) (fun b hb=> .inr hb) depth v v' u ht Df;have R0:Rel w (fun b=>I b\/jk σ S.h b) fy kO:=Rel.kO (fun b hb=>by
      rcases hb with hb|hb
      ·exact R.ed b hb
      ·exact R.mh hb) (R.Av.sub fun _ hb=> .inl hb)
     refine Calls.mono (Calls.oW hC hK.1 hc R0 (iN.nM _ _ Fu)) fun e w' hh=> ?_;obtain⟨u,I',σ',rfl,hs,mQ⟩:=hh;have hrv:=uH (J:=fun b=>I' b\/jk σ' h b) hs.rel (fun b hb=> .inl hb) (fun b hb=> .inr hb) depth v v' u Kt mQ;refine⟨u,v'.lM,I,σ,rfl,?_,rfl,(PA OY hrv).lM⟩;rw[fm,gZ];exact Step.inner R hs (fun b hb=> .inl hb) (fun b hb=>hb) (fun b hb=> .inl hb) S.n
    ·have Fu:iN w I fy bwf us.toList:=Bw has hr fun v v' u hv ht Df=>Ys (by grind) ht Df;refine Calls.mono (Calls.oW hC hK.1 hc (Rel.kO R.ed R.Av) (iN.nM _ _ Fu)) fun e w' hh=> ?_;obtain⟨u,I',σ',rfl,hs,mQ⟩:=hh;have hrv:=uH (J:=fun b=>I' b\/jk σ' h b) hs.rel (fun b hb=> .inl hb) (fun b hb=> .inr hb) depth v v' u Kt mQ;refine⟨u,v'.lM,_,σ,rfl,?_,rfl,(hrv.ext Ext.free).lM⟩;rw[fm,gZ];refine Step.inner R hs (fun b hb=>hb) (fun b hb=> .inl (hs.ext.imp b hb)) (fun b hb=> ?_) S.n;rcases hb with hb|hb
     ·rcases hs.vS b hb with hx|hx|hx
      ·grind
      ·exact .inr ⟨hx,hs.rel.ed b hb⟩
      ·exact absurd hx qZ
     ·rcases hs.own b hb with hx|hx
      ·exact .inr ⟨hx,hs.rel.mh hb⟩
      ·exact absurd hx qZ
end Go.Abs
