/- Part of a proof: engine L1. -/
import Derived.Test.YtejohpnpnaljdaaGreatM09
import Derived.Carry
import Derived.ChangeSame
import Derived.ProofKit
set_option linter.all false
set_option maxRecDepth 20000
set_option maxHeartbeats 20000000
namespace Go.Abs
open Go Go.ChangeShapes Go.RowKit
inductive CS where
 |int (k:IntKind)
 |bool
 |str
 |sl (ag:Bool) (cs:List CS)
 deriving Inhabited
mutual
def cX7:CS->V->Prop
 | .int k,v=> ∃n,v= .int k n/\k.min<=n/\n<=k.max
 | .bool,v=> ∃b,v= .bool b
 | .str,v=> ∃s,v= .str s/\s.length<=maxLen
 | .sl ag cs,v=> ∃es,v= .sl false es/\es.length<=maxLen/\ ∀e∈es,∃xs,e=(if ag then .agg xs else xs.headD .bad)/\Aa cs xs
def Aa:List CS->List V->Prop
 | [],vs=>vs=[]
 |c::cs,vs=> ∃v r,vs=v::r/\cX7 c v/\Aa cs r
end
mutual
def AS(P:Program):Nat->TypeId->Option (Bool×List CS)
 |0,_=>none
 |d+1,t=>match P.underlying t with
  |some .bool=>some (false,[.bool])
  |some (.int k)=>some (false,[.int k])
  |some .string=>some (false,[.str])
  |some (.slice e)=>match AS P d e with
   |some (ag,l)=>if P.cellsOf e=l.length/\0<l.length/\(ag=false->l.length=1) then some (false,[.sl ag l]) else none
   |none=>none
  |some (.struct fs)=>match Pc P d 0 fs.toList with
   |some l=>if P.cellsOf t=l.length then some (true,l) else none
   |none=>none
  |_=>none
def Pc (P:Program):Nat->Nat->List Field->Option (List CS)
 |0,_,_=>none
 |_+1,_,[]=>some []
 |d+1,o,f::fs=>match AS P d f.type,Pc P d (o+P.cellsOf f.type) fs with
  |some (_,l),some r=>if f.offset=o/\P.cellsOf f.type=l.length then some (l++r) else none
  |_,_=>none
end
def oz(ag:Bool)(xs:List V):V:=if ag then .agg xs else xs.headD .bad
theorem pf: ∀{cs:List CS} {vs:List V},Aa cs vs->vs.length=cs.length
 | [],vs,h=>by simp only[Aa]at h;subst h;rfl
 |c::cs,vs,h=>by
  simp only[Aa]at h;obtain⟨v,r,rfl,_,h2⟩:=h;simp[pf h2]
theorem B6: ∀{cs qC:List CS} {vs zg:List V},Aa cs vs->Aa qC zg->Aa (cs++qC) (vs++zg)
 | [],qC,vs,zg,h,h'=>by simp only[Aa]at h;subst h;simpa using h'
 |c::cs,qC,vs,zg,h,h'=>by
  simp only[Aa]at h;obtain⟨v,r,rfl,h1,h2⟩:=h;simp only[List.cons_append,Aa];exact⟨v,r++zg,rfl,h1,B6 h2 h'⟩
mutual
def Up:V->Nat
 | .sl _ es=>mT es+1
 | .agg cs=>mT cs
 | .str s=>s.length+1
 |_=>1
def mT:List V->Nat
 | []=>0
 |c::cs=>Up c+mT cs
end
theorem Ab: ∀a b:List V,mT (a++b)=mT a+mT b
 | [],b=>by simp[mT]
 |c::a,b=>by simp only[List.cons_append,mT,Ab a b];omega
theorem MT: ∀(vs:List V) (ys:List Nat),vs.length=ys.length->(∀(i:Nat) v y,vs[i]?=some v->ys[i]?=some y->Up v<=y)->mT vs<=ys.sum
 | [],_,_,_=>by simp[mT]
 |v::vs,[],h,_=>by simp at h
 |v::vs,y::ys,h,hi=>by
  have h0:=hi 0 v y rfl rfl;have:=MT vs ys (by simpa using h) fun i v' y' h1 h2=>hi (i+1) v' y' (by simpa using h1) (by simpa using h2);simp only[mT,List.sum_cons];omega
structure Uq {H:Type} (tw:DataW H->Nat):Prop where
 one: ∀d,1<=tw d
 slice: ∀Ur sp,(Ur.map tw).sum+1<=tw (.slice Ur sp)
 agg: ∀ps,(ps.map tw).sum<=tw (.agg ps)
 str: ∀b,b.length+1<=tw (.lit (.string b))
theorem Ac{ag:Bool}{cs:List CS}{xs:List V}(h:Aa cs xs)(h1:ag=false->cs.length=1):Up (oz ag xs)=mT xs:=by
 cases ag with
 |true=>rfl
 |false=>
  have hl:=pf h;rw[h1 rfl]at hl;match xs,hl with
  | [x],_=>simp[oz,mT]
section
variable {H:Type} {enc:TypeId×Value->H} {P:Program} {w:World} {spare:Nat->Bool} {held:Bool} {tw:DataW H->Nat}
def Us(w:World):Nat->Prop:=fun b=>b<w.heap.size
theorem uM{I:Nat->Prop}{v:V}{u:Value}(h1:u.oneCell'=true)(h:cC w I eA v u):dn w I eA [v] [u]:=by
 simp only[dn];exact⟨u,[],rfl,h1,h,rfl⟩
theorem Ig{I:Nat->Prop}: ∀{vs zg:List V} {us yR:List Value},dn w I eA vs us->dn w I eA zg yR->dn w I eA (vs++zg) (us++yR)
 | [],zg,us,yR,h,h'=>by simp only[dn]at h;subst h;simpa using h'
 |v::vs,zg,us,yR,h,h'=>by
  simp only[dn]at h;obtain⟨u,r,rfl,h1,h2,h3⟩:=h;simp only[List.cons_append,dn];exact⟨u,_,rfl,h1,h2,Ig h3 h'⟩
theorem Dy{ag:Bool}{cs:List CS}{xs:List V}(h:Aa cs xs)(h1:ag=false->cs.length=1)(iK:ag=false-> ∀x∈xs,∀l,x≠ .agg l):(oz ag xs).cells=xs:=by
 cases ag with
 |true=>rfl
 |false=>
  have hl:=pf h;rw[h1 rfl]at hl;match xs,hl,iK with
  | [x],_,iK=>
   have:=iK rfl x (by simp);cases x<;>first|rfl|exact absurd rfl (this _)
theorem Pd{c:CS}{v:V}(h:cX7 c v): ∀l,v≠ .agg l:=by
 intro l e;subst e;cases c<;>simp[cX7]at h
theorem Ej: ∀{cs:List CS} {vs:List V},Aa cs vs-> ∀x∈vs,∀l,x≠ .agg l
 | [],vs,h,x,hx=>by simp only[Aa]at h;subst h;cases hx
 |c::cs,vs,h,x,hx=>by
  simp only[Aa]at h;obtain⟨v,r,rfl,h1,h2⟩:=h;rcases List.mem_cons.1 hx with rfl|hx
  ·exact Pd h1
  ·exact Ej h2 x hx
mutual
theorem FG(hB:Uq tw): ∀(n fuel:Nat) (t:TypeId) (cs:List Value) (x:DataW H×List MemPlace) (ag:Bool) (l:List CS),AS P n t=some (ag,l)->DataW.trod enc P w 0 spare held fuel t cs=some x->
  ∃vs,dn w (Us w) eA vs cs/\Aa l vs/\mT vs<=tw x.1
 |0,_,_,_,_,_,_,h,_=>by simp[AS]at h
 |n+1,fuel,t,cs,x,ag,l,h,hx=>by
  unfold AS at h;split at h
  ·rename_i hu;simp only[au,aF]at h;obtain⟨rfl,rfl⟩:=h;obtain⟨b,rfl,rfl⟩:=DataW.trod_bool hu hx;exact⟨[.bool b],uM rfl (by simp[cC]),by simp[Aa,cX7],by simpa[mT,Up] using hB.one _⟩
  ·rename_i k hu;simp only[au,aF]at h;obtain⟨rfl,rfl⟩:=h;obtain⟨m,rfl,rfl,hw⟩:=DataW.trod_int hu hx;simp only[Lit.wf,Bool.and_eq_true,decide_eq_true_eq]at hw;exact⟨[.int k m],uM rfl (by simp[cC]),by simp[Aa,cX7,hw],by simpa[mT,Up] using hB.one _⟩
  ·rename_i hu;simp only[au,aF]at h;obtain⟨rfl,rfl⟩:=h;obtain⟨s,rfl,rfl,hw⟩:=DataW.trod_string hu hx;exact⟨[.str s.data.toList],uM rfl (by simp[cC]),by simp only[Aa,cX7];exact⟨_,_,rfl,⟨_,rfl,by simpa using hw⟩,rfl⟩,by simpa[mT,Up] using hB.str s.data.toList⟩
  ·rename_i e hu;split at h
   case h_2=>cases h
   rename_i age le qp;split at h
   case isFalse=>cases h
   rename_i hle;simp only[au,aF]at h;obtain⟨rfl,rfl⟩:=h;rcases DataW.trod_slice hu hx with⟨rfl,rfl⟩|⟨a,len,cap,Ur,rest,m,_,rfl,rfl,hb,hl,hm,hlen,su,_,_⟩
   ·refine⟨[.sl false []],uM rfl ?_,?_,by simpa[mT,Up] using hB.one _⟩
    ·simp only[cC];exact⟨none,0,rfl,by simp,by simp[maxLen],(fun hh=>by cases hh),.inl trivial⟩
    ·simp only[Aa,cX7];exact⟨_,_,rfl,⟨[],rfl,by simp,by simp⟩,rfl⟩
   ·have key: ∀i,i<len-> ∃vs us,w.cells? 0 (a.add (i*P.cellsOf e)) (P.cellsOf e)=some us/\dn w (Us w) eA vs us/\Aa le vs/\ ∀y,Ur[i]?=some y->mT vs<=tw y.1:=by
     intro i hi;have:=su i hi;have hs: ∃y,Ur[i]?=some y:=⟨Ur[i],by simp⟩;obtain⟨y,hy⟩:=hs;rw[hy]at this;cases hc:w.cells? 0 (a.add (i*P.cellsOf e)) (P.cellsOf e) with
     |none=>simp[hc]at this
     |some us=>
      simp only[hc,Option.bind_some]at this;obtain⟨vs,h1,h2,h3⟩:=FG hB n m e us y age le qp this;exact⟨vs,us,rfl,h1,h2,fun y' hy'=>by rw[hy]at hy';cases hy';exact h3⟩
    let f:Nat->V:=fun i=>if hi:i<len then oz age (Classical.choose (key i hi)) else .bad
    have hf: ∀i (hi:i<len),f i=oz age (Classical.choose (key i hi)):=fun i hi=>by simp[f,hi]
    have hgl:((List.range len).map f).length=len:=by simp
    refine⟨[.sl false ((List.range len).map f)],uM rfl ?_,?_,?_⟩
    ·simp only[cC];refine⟨some a,cap,by rw[hgl],by rw[hgl];exact hl,hm,(fun hh=>by cases hh),?_⟩;by_cases h0:len=0
     ·subst h0;exact .inl (by simp)
     ·have c0: ∃u,w.cell? a=some u:=by
       obtain⟨vs,us,hc,h1,h2,_⟩:=key 0 (by omega);obtain⟨_,NH,G9⟩:=World.cells?_some hc;have:=G9 0 (by omega);simp only[Nat.zero_mul]at this;rw[show(a.add 0).add 0=a by simp[Addr.add]]at this;have De:0<us.length:=by omega
       exact⟨us[0],by rw[this];simp[De]⟩
      obtain⟨u0,RK⟩:=c0;have ya:a.spot=none:=by
       unfold World.cell? at RK;split at RK
       ·split at RK
        ·cases RK
        ·rename_i hs;simpa using hs
       ·cases RK
      have aly:a.block<w.heap.size:=by
       unfold World.cell? at RK;split at RK
       ·rename_i hh;exact(Array.getElem?_eq_some_iff.1 hh).1
       ·cases RK
      obtain⟨ab,ao,asp⟩:=a;simp only at ya aly;subst ya;refine .inr ⟨ab,ao,le.length,rfl,aly,?_⟩;rw[kO];intro i v hv;have hi:i<len:=by
       have:=(List.getElem?_eq_some_iff.1 hv).1;simpa using this
      have C9:v=f i:=by
       simp only[List.getElem?_map,List.getElem?_range hi,Option.map_some,au]at hv;exact hv.symm
      obtain⟨us,hc,h1,h2,_⟩:=Classical.choose_spec (key i hi);have v7:v.cells=Classical.choose (key i hi):=by
       rw[C9,hf i hi];exact Dy h2 hle.2.2 (fun _=>Ej h2)
      rw[v7];refine⟨pf h2,?_⟩;intro j c hj;rw[dh]at h1;obtain⟨_,NH,G9⟩:=World.cells?_some hc;have sx:j<us.length:=by
       have:=(List.getElem?_eq_some_iff.1 hj).1;omega
      have nn:=G9 j (by omega);have hus:us[j]?=some us[j]:=by simp
      refine⟨us[j],?_,h1.2 j c _ hj hus⟩;rw[<-hus,<-nn,n9,n9,hle.1]
    ·simp only[Aa,cX7];refine⟨_,_,rfl,⟨_,rfl,by rw[hgl];omega,?_⟩,rfl⟩;intro v hv;obtain⟨i,hi,rfl⟩:=List.mem_map.1 hv;have nf:i<len:=by simpa using hi
     obtain⟨us,hc,h1,h2,_⟩:=Classical.choose_spec (key i nf);exact⟨_,hf i nf,h2⟩
    ·have a6r:mT ((List.range len).map f)<=((Ur.map (·.1)).map tw).sum:=by
      refine MT _ _ (by simp[hlen]) fun i v y hv hy=> ?_;have hi:i<len:=by
       have:=(List.getElem?_eq_some_iff.1 hv).1;simpa using this
      have C9:v=f i:=by
       simp only[List.getElem?_map,List.getElem?_range hi,Option.map_some,au]at hv;exact hv.symm
      obtain⟨us,hc,h1,h2,h3⟩:=Classical.choose_spec (key i hi);rw[C9,hf i hi,Ac h2 hle.2.2];have he:Ur[i]?=some (Ur[i]'(by omega)):=by simp[hlen,hi]
      rw[List.getElem?_map,List.getElem?_map,he]at hy;simp only[Option.map_some,au]at hy;subst hy;exact h3 _ he
     have:=hB.slice (Ur.map (·.1)) (rest.map (·.1));simp only[mT,Up];omega
  ·rename_i fs hu;split at h
   case h_2=>cases h
   rename_i lf hlf;split at h
   case isFalse=>cases h
   rename_i mM;simp only[au,aF]at h;obtain⟨rfl,rfl⟩:=h;obtain⟨xs,m,_,rfl,hlen,_,hfs⟩:=DataW.trod_struct hu hx;obtain⟨vs,h1,h2,h3⟩:=MU hB n m cs xs 0 0 fs.toList lf hlf (by
    intro i f hf;have:=hfs i f (by simpa using hf);simpa using this) (by
    intro i hi;have NL:fs[i]?=some fs[i]:=by simp at hi;simp[hi]
    have:i<xs.length:=by simp at hi;omega
    simp[this])
   have iU:=pf h2;rw[List.drop_zero,<-iU]at h1;rw[show vs.length=cs.length by omega,List.take_length]at h1;refine⟨vs,h1,h2,Nat.le_trans h3 (Nat.le_trans ?_ (hB.agg _))⟩;simp[List.map_map,Function.comp_def]
  ·cases h
theorem MU (hB:Uq tw): ∀(n m:Nat) (cs:List Value) (xs:List (DataW H×List MemPlace)) (o k:Nat) (fs:List Field) (l:List CS),Pc P n o fs=some l->
  (∀(i:Nat) (f:Field),fs[i]?=some f->DataW.trod enc P w 0 spare held m f.type ((cs.drop f.offset).take (P.cellsOf f.type))=xs[k+i]?)->(∀i,i<fs.length->(xs[k+i]?).isSome=true)->
  ∃vs,dn w (Us w) eA vs ((cs.drop o).take l.length)/\Aa l vs/\mT vs<=((xs.drop k).map fun y=>tw y.1).sum
 |0,_,_,_,_,_,_,_,h,_,_=>by simp[Pc]at h
 |n+1,m,cs,xs,o,k,[],l,h,_,_=>by
  simp only[Pc,au]at h;subst h;exact⟨[],by simp[dn],rfl,by simp[mT]⟩
 |n+1,m,cs,xs,o,k,f::fs,l,h,hf,hs=>by
  simp only[Pc]at h;split at h
  case h_2=>cases h
  rename_i ag l1 r hc hr;split at h
  case isFalse=>cases h
  rename_i ku;simp only[au]at h;subst h;have h0:=hf 0 f (by simp);have Hf:=hs 0 (by simp);rw[Nat.add_zero]at h0 Hf;obtain⟨y,hy⟩:=Option.isSome_iff_exists.1 Hf;rw[hy]at h0;obtain⟨vs,h1,h2,h5⟩:=FG hB n m f.type _ y ag l1 hc h0;obtain⟨zg,h3,h4,h6⟩:=MU hB n m cs xs (o+P.cellsOf f.type) (k+1) fs r hr (by
   intro i g hg;have:=hf (i+1) g (by simpa using hg);rw[this];congr 1;omega) (by
   intro i hi;have:=hs (i+1) (by simpa using hi);rw[show k+1+i=k+(i+1) by omega];exact this)
  have hd:xs.drop k=y::xs.drop (k+1):=by
   obtain⟨hk,rfl⟩:=List.getElem?_eq_some_iff.1 hy;exact List.drop_eq_getElem_cons hk
  refine⟨vs++zg,?_,B6 h2 h4,by rw[Ab,hd,List.map_cons,List.sum_cons];omega⟩;rw[ku.1,ku.2]at h1;rw[ku.2]at h3;have:(cs.drop o).take (l1++r).length=(cs.drop o).take l1.length++(cs.drop (o+l1.length)).take r.length:=by
   rw[List.length_append,List.take_add,List.drop_drop]
  rw[this];exact Ig h1 h3
end
end
end Go.Abs
