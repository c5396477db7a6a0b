/- Part of a proof: engine L2. -/
import Derived.Test.YtejohpnpnaljdaaGreatM11
import Derived.OpenShut
set_option linter.all false
set_option maxRecDepth 20000
set_option maxHeartbeats 20000000
namespace Go.Abs
open Go Go.ChangeShapes Go.RowKit
def zp:List (Bool×List CS)->List V->Prop
 | [],bez=>bez=[]
 |s::ss,bez=> ∃xs r,bez=oz s.1 xs::r/\Aa s.2 xs/\zp ss r
def zq(P:Program):List TypeId->Option (List (Bool×List CS))
 | []=>some []
 |t::ts=>match AS P 80 t,zq P ts with
  |some s,some r=>some (s::r)
  |_,_=>none
def Ih(P:Program)(t:TypeId):Bool:=P.readableRec t&&decide (t<P.types.size)
section
variable {H:Type} {enc:TypeId×Value->H} {P:Program} {w:World}
theorem Ii{n:Nat}{t:TypeId}{l:List CS}(h:AS P n t=some (false,l)){base:Nat}{v:Value}(hv:Value.okWide P w .any base t v):v.cells.toList=[v]/\l.length=1:=by
 cases n with
 |zero=>simp[AS]at h
 |succ n=>
  unfold AS at h;unfold Value.okWide at hv;split at h
  ·rename_i hu;simp only[hu]at hv;simp only[au,aF,true_and]at h;subst h;cases v<;>first|exact⟨rfl,rfl⟩|simp[Cell.okWide,Cell.ok,hu]at hv
  ·rename_i k hu;simp only[hu]at hv;simp only[au,aF,true_and]at h;subst h;cases v<;>first|exact⟨rfl,rfl⟩|simp[Cell.okWide,Cell.ok,hu]at hv
  ·rename_i hu;simp only[hu]at hv;simp only[au,aF,true_and]at h;subst h;cases v<;>first|exact⟨rfl,rfl⟩|simp[Cell.okWide,Cell.ok,hu]at hv
  ·rename_i e hu;simp only[hu]at hv;split at h
   case h_2=>cases h
   split at h
   case isFalse=>cases h
   simp only[au,aF,true_and]at h;subst h;cases v<;>first|exact⟨rfl,rfl⟩|simp[Cell.okWide,Cell.ok,hu]at hv
  ·split at h
   case h_2=>cases h
   split at h
   case isFalse=>cases h
   simp at h
  ·cases h
theorem Ut{n:Nat}{t:TypeId}{l:List CS}(h:AS P n t=some (true,l)){base:Nat}{v:Value}(hv:Value.okWide P w .any base t v): ∃us,v= .agg us:=by
 cases n with
 |zero=>simp[AS]at h
 |succ n=>
  unfold AS at h;unfold Value.okWide at hv;split at h
  ·simp at h
  ·simp at h
  ·simp at h
  ·split at h
   case h_2=>cases h
   split at h
   case isFalse=>cases h
   simp at h
  ·rename_i fs hu;simp only[hu]at hv;obtain⟨cs,rfl,_⟩:=hv;exact⟨cs,rfl⟩
  ·cases h
theorem Ij{tw:DataW H->Nat}(hB:Uq tw){held:Bool}: ∀(ts:List TypeId) (vs:List Value) (ds:List (DataW H)) (ps:List MemPlace) (ss:List (Bool×List CS)) (base:Nat),zq P ts=some ss->
  (∀(j:Nat) t v,ts[j]?=some t->vs[j]?=some v->Value.okWide P w .any base t v)->DataW.TrodAll enc P w 0 (fun _=>true) held ts vs ds ps->
  ∃bez,dU w (Us w) eA bez vs/\zp ss bez/\mT bez<=(ds.map tw).sum
 | [],vs,ds,ps,ss,base,h,_,hA=>by
  obtain⟨rfl,rfl,_⟩:=trodAll_nil hA;simp only[zq,au]at h;subst h;exact⟨[],by simp[dU],rfl,by simp[mT]⟩
 |t::ts,vs,ds,ps,ss,base,h,hv,hA=>by
  obtain⟨v,zg,d,ds',p,q,rfl,rfl,rfl,h0,hr⟩:=trodAll_cons hA;simp only[zq]at h;split at h
  case h_2=>cases h
  rename_i s r hs Ff;simp only[au]at h;subst h;obtain⟨bez,ha,hoa,hsa⟩:=Ij hB ts zg ds' q r base Ff (fun j t' v' h1 h2=>hv (j+1) t' v' (by simpa using h1) (by simpa using h2)) hr;obtain⟨fuel,hf⟩:=h0;have ju:=hv 0 t v rfl rfl;obtain⟨ag,l⟩:=s;obtain⟨xs,h1,h2,h3⟩:=FG hB 80 fuel t _ _ ag l hs hf;have hz:Up (oz ag xs)=mT xs:=Ac h2 fun e=>by subst e;exact(Ii hs ju).2
  refine⟨oz ag xs::bez,?_,by simp only[zp];exact⟨xs,bez,rfl,h2,hoa⟩,by simp only[mT,List.map_cons,List.sum_cons,hz];simp only at h3;omega⟩;simp only[dU];refine⟨v,zg,rfl,?_,ha⟩;cases ag with
  |true=>
   obtain⟨us,rfl⟩:=Ut hs ju;simp only[oz,if_true,cC];exact⟨us,rfl,h1⟩
  |false=>
   obtain⟨hc,hl⟩:=Ii hs ju;rw[hc]at h1;have hx:=pf h2;rw[hl]at hx;match xs,hx with
   | [x],_=>
    simp only[dn]at h1;obtain⟨u,r',he,_,A3,_⟩:=h1;simp only[List.cons.injEq]at he;obtain⟨rfl,_⟩:=he;exact A3
theorem trod_stays(hl:laidOutB P=true){W W':World}(hb:Below W.heap.size W W'){sp:Nat->Bool}: ∀(ts:List TypeId) (vs:List Value) (ds:List (DataW H)) (ps:List MemPlace),ts.all (Ih P)=true->
  DataW.TrodAll enc P W 0 (fun _=>true) true ts vs ds ps->(∀p∈ps,p.block<W.heap.size)->(∀p∈ps,sp p.block=true)->DataW.TrodAll enc P W' 0 sp true ts vs ds ps
 | [],vs,ds,ps,_,hA,_,_=>by
  obtain⟨rfl,rfl,rfl⟩:=trodAll_nil hA;exact rfl
 |t::ts,vs,ds,ps,hB,hA,eX,ya=>by
  obtain⟨v,zg,d,ds',p,q,rfl,rfl,rfl,h0,hr⟩:=trodAll_cons hA;simp only[List.all_cons,Ih,Bool.and_eq_true,decide_eq_true_eq]at hB;refine⟨p,q,WideElems.Trod_stays hl hB.1.1 hB.1.2 h0 (fun x hx=>hb.same (eX x (by simp[hx]))) (fun x hx=>ya x (by simp[hx])),trod_stays hl hb ts zg ds' q (by simpa[Ih] using hB.2) hr (fun x hx=>eX x (by simp[hx])) (fun x hx=>ya x (by simp[hx])),rfl⟩
end
structure abv (P:Program) (f:Func) (ss:List (Bool×List CS)) (tb:TypeId):Prop where
 laid:laidOutB P=true
 read:f.params.toList.all (Ih P)=true
 Pe:zq P f.params.toList=some ss
 res:f.resultTypes= #[tb]
 bool:P.underlying tb=some .bool
theorem Uu {X:Env} (hC:qj X (cy X)) {g:FuncId} {f:Func} {ss:List (Bool×List CS)} {tb:TypeId} (L:abv X.P f ss tb) {s:ChangeSpec} (hv:s.vars=[])
  (hs: ∀(H:Type) (ds:List (DataW H)),ds.length=f.params.size->s.fn H ds={results:=[.lit (.bool true)],args:=ds})
  {B:Nat} (ats: ∀bez,zp ss bez->mT bez<=B-> ∃h k,cy X g bez ky 0=some (.bool true,h,k))
  (H:Type) (tw:DataW H->Nat) (hB:Uq tw) (enc:TypeId×Value->H) (W:World) (base:Nat) (args:Array Value) (ds gs:List (DataW H)) (before:List MemPlace)
  (Hl: ∀(j:Nat) t v,f.params[j]?=some t->args[j]?=some v->Value.okWide X.P W .any base t v)
  (hW:DataW.Whole enc X.P f.params.toList s.vars false W args.toList ds gs before) (hk:(ds.map tw).sum<=B):
  Calls X.P g args W fun e W'=> ∃v,e= .returned v/\s.post enc X.P f false true false false W args v W':=by
 have eX:=hW.lt;have hW':=hW;obtain⟨p,q,hA,hV,rfl,hfz,hnd⟩:=hW;rw[hv]at hV;have hq:gs=[]/\q=[]:=by
  cases gs with
  |nil=>exact⟨rfl,hV⟩
  |cons _ _=>simp[DataW.TrodVars]at hV
 obtain⟨rfl,rfl⟩:=hq;obtain⟨bez,lX,ju,qE⟩:=Ij hB f.params.toList args.toList ds p ss base L.Pe (fun j t v h1 h2=>Hl j t v (by simpa using h1) (by simpa using h2)) hA;obtain⟨h',k',oW⟩:=ats bez ju (Nat.le_trans qE hk);refine(hC g bez ky 0 (.bool true) h' k' oW W (Us W) eA args (Rel.ky fun b hb=>hb) (fun _ _=>⟨rfl,rfl⟩) lX).mono fun e W' hh=> ?_;obtain⟨u,I',σ',rfl,alz,st0,att,hr⟩:=hh;rw[BG]at alz st0;have st:=st0.step (fun _ _=>⟨rfl,rfl⟩) att alz;simp only[cC]at hr;subst hr;have Uv:Below W.heap.size W W':=⟨st.os,st.tape,st.output,st.size,fun b hb=>st.frame b hb np⟩;have J5: ∀(ts:List TypeId) (vs:List Value) (ds:List (DataW H)) (ps:List MemPlace),DataW.TrodAll enc X.P W 0 (fun _=>true) true ts vs ds ps->ds.length=ts.length:=by
  intro ts;induction ts with
  |nil=>
   intro vs ds ps h;obtain⟨_,rfl,_⟩:=trodAll_nil h;rfl
  |cons t ts ih=>
   intro vs ds ps h;obtain⟨v,zg,d,ds',p,q,rfl,rfl,rfl,_,hr⟩:=trodAll_cons h;simp[ih _ _ _ hr]
 have hlen:ds.length=f.params.size:=by rw[J5 _ _ _ _ hA];simp
 have hfn:=hs H (ds++ []) (by simpa using hlen);have hold: ∀p'∈p++ [],(fun b=>decide (b<W.heap.size)) p'.block=true:=fun p' hp=>by simpa using eX p' hp
 refine⟨_,rfl,ds,[],p++ [],[],p,[],hW',?_,?_,?_,World.keptBut_mono (fun p' hp=>⟨hp,.inr (.inl (by simpa using hp))⟩) (Uv.frame (· ∈p++ [])),fun h=>by cases h⟩
 ·rw[hfn,L.res];exact trodAll_cons_mk (shut_bool L.bool _) trodAll_mk0
 ·rw[hfn];simp only[List.append_nil]at eX hold⊢;exact trod_stays L.laid Uv _ _ _ _ L.read hA eX hold
 ·rw[hfn,hv];rfl
end Go.Abs
