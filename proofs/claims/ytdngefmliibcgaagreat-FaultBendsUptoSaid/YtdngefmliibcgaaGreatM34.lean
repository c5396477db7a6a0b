/- Part of a proof: engine L2. -/
import Derived.Test.YtdngefmliibcgaaGreatM33
import Derived.OpenShut
set_option linter.all false
set_option maxRecDepth 20000
set_option maxHeartbeats 20000000
namespace Go.Abs
open Go Go.ChangeShapes Go.RowKit
def vb:List (Bool×List CS)→List V→Prop
 | [],auj=>auj=[]
 |s::ss,auj=> ∃xs r,auj=lk s.1 xs::r∧vP s.2 xs∧vb ss r
def vc(P:Program):List TypeId→Option (List (Bool×List CS))
 | []=>some []
 |t::ts=>match wF P 80 t,vc P ts with
  |some s,some r=>some (s::r)
  |_,_=>none
def Dj(P:Program)(t:TypeId):Bool:=P.readableRec t&&decide (t<P.types.size)
section
variable {H:Type} {enc:TypeId×Value→H} {P:Program} {w:World}
theorem Dk{n:Nat}{t:TypeId}{l:List CS}(h:wF P n t=some (false,l)){base:Nat}{v:Value}(hv:Value.okWide P w .any base t v):v.cells.toList=[v]∧l.length=1:=by
 cases n with
 |zero=>simp[wF]at h
 |succ n=>
  unfold wF at h;unfold Value.okWide at hv;split at h
  ·rename_i hu;simp only[hu]at hv;simp only[aa,ax,true_and]at h;subst h;cases v<;>first|exact⟨rfl,rfl⟩|simp[Cell.okWide,Cell.ok,hu]at hv
  ·rename_i k hu;simp only[hu]at hv;simp only[aa,ax,true_and]at h;subst h;cases v<;>first|exact⟨rfl,rfl⟩|simp[Cell.okWide,Cell.ok,hu]at hv
  ·rename_i hu;simp only[hu]at hv;simp only[aa,ax,true_and]at h;subst h;cases v<;>first|exact⟨rfl,rfl⟩|simp[Cell.okWide,Cell.ok,hu]at hv
  ·rename_i e hu;simp only[hu]at hv;split at h
   case h_2=>cases h
   split at h
   case isFalse=>cases h
   simp only[aa,ax,true_and]at h;subst h;cases v<;>first|exact⟨rfl,rfl⟩|simp[Cell.okWide,Cell.ok,hu]at hv
  ·split at h
   case h_2=>cases h
   split at h
   case isFalse=>cases h
   simp at h
  ·cases h
theorem NP{n:Nat}{t:TypeId}{l:List CS}(h:wF P n t=some (true,l)){base:Nat}{v:Value}(hv:Value.okWide P w .any base t v): ∃us,v= .agg us:=by
 cases n with
 |zero=>simp[wF]at h
 |succ n=>
  unfold wF at h;unfold Value.okWide at hv;split at h
  ·simp at h
  ·simp at h
  ·simp at h
  ·split at h
   case h_2=>cases h
   split at h
   case isFalse=>cases h
   simp at h
  ·rename_i fs hu;simp only[hu]at hv;obtain⟨cs,rfl,_⟩:=hv;exact⟨cs,rfl⟩
  ·cases h
theorem Dl{qf:DataW H→Nat}(hB:NN qf){held:Bool}: ∀(ts:List TypeId) (vs:List Value) (ds:List (DataW H)) (ps:List MemPlace) (ss:List (Bool×List CS)) (base:Nat),vc P ts=some ss→
  (∀(j:Nat) t v,ts[j]?=some t→vs[j]?=some v→Value.okWide P w .any base t v)→DataW.TrodAll enc P w 0 (fun _=>true) held ts vs ds ps→
  ∃auj,cI w (JA w) cC auj vs∧vb ss auj∧kj auj≤(ds.map qf).sum
 | [],vs,ds,ps,ss,base,h,_,hA=>by
  obtain⟨rfl,rfl,_⟩:=trodAll_nil hA;simp only[vc,aa]at h;subst h;exact⟨[],by simp[cI],rfl,by simp[kj]⟩
 |t::ts,vs,ds,ps,ss,base,h,hv,hA=>by
  obtain⟨v,uX,d,ds',p,q,rfl,rfl,rfl,h0,hr⟩:=trodAll_cons hA;simp only[vc]at h;split at h
  case h_2=>cases h
  rename_i s r hs KE;simp only[aa]at h;subst h;obtain⟨auj,ha,W4,hsa⟩:=Dl hB ts uX ds' q r base KE (fun j t' v' h1 h2=>hv (j+1) t' v' (by simpa using h1) (by simpa using h2)) hr;obtain⟨fuel,hf⟩:=h0;have jF:=hv 0 t v rfl rfl;obtain⟨ag,l⟩:=s;obtain⟨xs,h1,h2,h3⟩:=Bv hB 80 fuel t _ _ ag l hs hf;have hz:NM (lk ag xs)=kj xs:=vS h2 fun e=>by subst e;exact(Dk hs jF).2
  refine⟨lk ag xs::auj,?_,by simp only[vb];exact⟨xs,auj,rfl,h2,W4⟩,by simp only[kj,List.map_cons,List.sum_cons,hz];simp only at h3;omega⟩;simp only[cI];refine⟨v,uX,rfl,?_,ha⟩;cases ag with
  |true=>
   obtain⟨us,rfl⟩:=NP hs jF;simp only[lk,if_true,aV];exact⟨us,rfl,h1⟩
  |false=>
   obtain⟨hc,hl⟩:=Dk hs jF;rw[hc]at h1;have hx:=lX h2;rw[hl]at hx;match xs,hx with
   | [x],_=>
    simp only[bS]at h1;obtain⟨u,r',he,_,tJ,_⟩:=h1;simp only[List.cons.injEq]at he;obtain⟨rfl,_⟩:=he;exact tJ
theorem trod_stays(hl:laidOutB P=true){W W':World}(hb:Below W.heap.size W W'){sp:Nat→Bool}: ∀(ts:List TypeId) (vs:List Value) (ds:List (DataW H)) (ps:List MemPlace),ts.all (Dj P)=true→
  DataW.TrodAll enc P W 0 (fun _=>true) true ts vs ds ps→(∀p∈ps,p.block<W.heap.size)→(∀p∈ps,sp p.block=true)→DataW.TrodAll enc P W' 0 sp true ts vs ds ps
 | [],vs,ds,ps,_,hA,_,_=>by
  obtain⟨rfl,rfl,rfl⟩:=trodAll_nil hA;exact rfl
 |t::ts,vs,ds,ps,hB,hA,jw,Ze=>by
  obtain⟨v,uX,d,ds',p,q,rfl,rfl,rfl,h0,hr⟩:=trodAll_cons hA;simp only[List.all_cons,Dj,Bool.and_eq_true,decide_eq_true_eq]at hB;refine⟨p,q,WideElems.Trod_stays hl hB.1.1 hB.1.2 h0 (fun x hx=>hb.same (jw x (by simp[hx]))) (fun x hx=>Ze x (by simp[hx])),trod_stays hl hb ts uX ds' q (by simpa[Dj] using hB.2) hr (fun x hx=>jw x (by simp[hx])) (fun x hx=>Ze x (by simp[hx])),rfl⟩
end
structure Tl (P:Program) (f:Func) (ss:List (Bool×List CS)) (tb:TypeId):Prop where
 laid:laidOutB P=true
 read:f.params.toList.all (Dj P)=true
 JC:vc P f.params.toList=some ss
 res:f.resultTypes= #[tb]
 bool:P.underlying tb=some .bool
theorem NQ {X:Env} (hC:k8 X (bt X)) {g:FuncId} {f:Func} {ss:List (Bool×List CS)} {tb:TypeId} (L:Tl X.P f ss tb) {s:ChangeSpec} (hv:s.vars=[])
  (hs: ∀(H:Type) (ds:List (DataW H)),ds.length=f.params.size→s.fn H ds={results:=[.lit (.bool true)],args:=ds})
  (H:Type) (qf:DataW H→Nat) (hB:NN qf) (enc:TypeId×Value→H) (W:World) (base:Nat) (args:Array Value) (ds gs:List (DataW H)) (before:List MemPlace)
  (CL: ∀(j:Nat) t v,f.params[j]?=some t→args[j]?=some v→Value.okWide X.P W .any base t v)
  (hW:DataW.Whole enc X.P f.params.toList s.vars false W args.toList ds gs before) (hG:AZ W (JA W))
  (afi: ∀auj,vb ss auj→kj auj≤(ds.map qf).sum→ ∃h k,bt X g auj fu 0=some (.bool true,h,k)):
  Calls X.P g args W fun e W'=> ∃v,e= .returned v∧s.post enc X.P f false true false false W args v W':=by
 have jw:=hW.lt;have hW':=hW;obtain⟨p,q,hA,hV,rfl,hfz,hnd⟩:=hW;rw[hv]at hV;have hq:gs=[]∧q=[]:=by
  cases gs with
  |nil=>exact⟨rfl,hV⟩
  |cons _ _=>simp[DataW.TrodVars]at hV
 obtain⟨rfl,rfl⟩:=hq;obtain⟨auj,ik,jF,nq⟩:=Dl hB f.params.toList args.toList ds p ss base L.JC (fun j t v h1 h2=>CL j t v (by simpa using h1) (by simpa using h2)) hA;obtain⟨h',k',mX⟩:=afi auj jF nq;refine(hC g auj fu 0 (.bool true) h' k' mX W (JA W) cC args (Rel.fu (fun b hb=>hb) hG) (fun _ _=>⟨rfl,rfl⟩) ik).mono fun e W' hh=> ?_;obtain⟨u,I',σ',rfl,Zg,st0,afj,hr⟩:=hh;rw[Cw]at Zg st0;have st:=st0.step (fun _ _=>⟨rfl,rfl⟩) afj Zg;simp only[aV]at hr;subst hr;have NR:Below W.heap.size W W':=⟨st.os,st.tape,st.output,st.size,fun b hb=>st.frame b hb kI⟩;have XX: ∀(ts:List TypeId) (vs:List Value) (ds:List (DataW H)) (ps:List MemPlace),DataW.TrodAll enc X.P W 0 (fun _=>true) true ts vs ds ps→ds.length=ts.length:=by
  intro ts;induction ts with
  |nil=>
   intro vs ds ps h;obtain⟨_,rfl,_⟩:=trodAll_nil h;rfl
  |cons t ts ih=>
   intro vs ds ps h;obtain⟨v,uX,d,ds',p,q,rfl,rfl,rfl,_,hr⟩:=trodAll_cons h;simp[ih _ _ _ hr]
 have hlen:ds.length=f.params.size:=by rw[XX _ _ _ _ hA];simp
 have hfn:=hs H (ds++ []) (by simpa using hlen);have hold: ∀p'∈p++ [],(fun b=>decide (b<W.heap.size)) p'.block=true:=fun p' hp=>by simpa using jw p' hp
 refine⟨_,rfl,ds,[],p++ [],[],p,[],hW',?_,?_,?_,World.keptBut_mono (fun p' hp=>⟨hp,.inr (.inl (by simpa using hp))⟩) (NR.frame (· ∈p++ [])),fun h=>by cases h⟩
 ·rw[hfn,L.res];exact trodAll_cons_mk (shut_bool L.bool _) trodAll_mk0
 ·rw[hfn];simp only[List.append_nil]at jw hold⊢;exact trod_stays L.laid NR _ _ _ _ L.read hA jw hold
 ·rw[hfn,hv];rfl
end Go.Abs
