/- Part of a proof: engine L1. -/
import Derived.Test.YtdngefmliibcgaaGreatM31
import Derived.Carry
import Derived.ChangeSame
import Derived.ProofKit
set_option linter.all false
set_option maxRecDepth 20000
set_option maxHeartbeats 20000000
namespace Go.Abs
open Go Go.ChangeShapes Go.RowKit
inductive CS where
 |int (k:IntKind)
 |bool
 |str
 |sl (ag:Bool) (cs:List CS)
 deriving Inhabited
mutual
def QH:CS→V→Prop
 | .int k,v=> ∃n,v= .int k n∧k.min≤n∧n≤k.max
 | .bool,v=> ∃b,v= .bool b
 | .str,v=> ∃s,v= .str s∧s.length≤maxLen
 | .sl ag cs,v=> ∃es,v= .sl false es∧es.length≤maxLen∧ ∀e∈es,∃xs,e=(if ag then .agg xs else xs.headD .bad)∧vP cs xs
def vP:List CS→List V→Prop
 | [],vs=>vs=[]
 |c::cs,vs=> ∃v r,vs=v::r∧QH c v∧vP cs r
end
mutual
def wF(P:Program):Nat→TypeId→Option (Bool×List CS)
 |0,_=>none
 |d+1,t=>match P.underlying t with
  |some .bool=>some (false,[.bool])
  |some (.int k)=>some (false,[.int k])
  |some .string=>some (false,[.str])
  |some (.slice e)=>match wF P d e with
   |some (ag,l)=>if P.cellsOf e=l.length∧0<l.length∧(ag=false→l.length=1) then some (false,[.sl ag l]) else none
   |none=>none
  |some (.struct fs)=>match Jz P d 0 fs.toList with
   |some l=>if P.cellsOf t=l.length then some (true,l) else none
   |none=>none
  |_=>none
def Jz (P:Program):Nat→Nat→List Field→Option (List CS)
 |0,_,_=>none
 |_+1,_,[]=>some []
 |d+1,o,f::fs=>match wF P d f.type,Jz P d (o+P.cellsOf f.type) fs with
  |some (_,l),some r=>if f.offset=o∧P.cellsOf f.type=l.length then some (l++r) else none
  |_,_=>none
end
def lk(ag:Bool)(xs:List V):V:=if ag then .agg xs else xs.headD .bad
theorem lX: ∀{cs:List CS} {vs:List V},vP cs vs→vs.length=cs.length
 | [],vs,h=>by simp only[vP]at h;subst h;rfl
 |c::cs,vs,h=>by
  simp only[vP]at h;obtain⟨v,r,rfl,_,h2⟩:=h;simp[lX h2]
theorem yg: ∀{cs lH:List CS} {vs uX:List V},vP cs vs→vP lH uX→vP (cs++lH) (vs++uX)
 | [],lH,vs,uX,h,h'=>by simp only[vP]at h;subst h;simpa using h'
 |c::cs,lH,vs,uX,h,h'=>by
  simp only[vP]at h;obtain⟨v,r,rfl,h1,h2⟩:=h;simp only[List.cons_append,vP];exact⟨v,r++uX,rfl,h1,yg h2 h'⟩
mutual
def NM:V→Nat
 | .sl _ es=>kj es+1
 | .agg cs=>kj cs
 | .str s=>s.length+1
 |_=>1
def kj:List V→Nat
 | []=>0
 |c::cs=>NM c+kj cs
end
theorem vQ: ∀a b:List V,kj (a++b)=kj a+kj b
 | [],b=>by simp[kj]
 |c::a,b=>by simp only[List.cons_append,kj,vQ a b];omega
theorem GX: ∀(vs:List V) (ys:List Nat),vs.length=ys.length→(∀(i:Nat) v y,vs[i]?=some v→ys[i]?=some y→NM v≤y)→kj vs≤ys.sum
 | [],_,_,_=>by simp[kj]
 |v::vs,[],h,_=>by simp at h
 |v::vs,y::ys,h,hi=>by
  have h0:=hi 0 v y rfl rfl;have:=GX vs ys (by simpa using h) fun i v' y' h1 h2=>hi (i+1) v' y' (by simpa using h1) (by simpa using h2);simp only[kj,List.sum_cons];omega
structure NN {H:Type} (qf:DataW H→Nat):Prop where
 one: ∀d,1≤qf d
 slice: ∀NO sp,(NO.map qf).sum+1≤qf (.slice NO sp)
 agg: ∀ps,(ps.map qf).sum≤qf (.agg ps)
 str: ∀b,b.length+1≤qf (.lit (.string b))
theorem vS{ag:Bool}{cs:List CS}{xs:List V}(h:vP cs xs)(h1:ag=false→cs.length=1):NM (lk ag xs)=kj xs:=by
 cases ag with
 |true=>rfl
 |false=>
  have hl:=lX h;rw[h1 rfl]at hl;match xs,hl with
  | [x],_=>simp[lk,kj]
section
variable {H:Type} {enc:TypeId×Value→H} {P:Program} {w:World} {spare:Nat→Bool} {held:Bool} {qf:DataW H→Nat}
def JA(w:World):Nat→Prop:=fun b=>b<w.heap.size
theorem re{I:Nat→Prop}{v:V}{u:Value}(h1:u.oneCell'=true)(h:aV w I cC v u):bS w I cC [v] [u]:=by
 simp only[bS];exact⟨u,[],rfl,h1,h,rfl⟩
theorem Di{I:Nat→Prop}: ∀{vs uX:List V} {us uJ:List Value},bS w I cC vs us→bS w I cC uX uJ→bS w I cC (vs++uX) (us++uJ)
 | [],uX,us,uJ,h,h'=>by simp only[bS]at h;subst h;simpa using h'
 |v::vs,uX,us,uJ,h,h'=>by
  simp only[bS]at h;obtain⟨u,r,rfl,h1,h2,h3⟩:=h;simp only[List.cons_append,bS];exact⟨u,_,rfl,h1,h2,Di h3 h'⟩
theorem zJ{ag:Bool}{cs:List CS}{xs:List V}(h:vP cs xs)(h1:ag=false→cs.length=1)(eZ:ag=false→ ∀x∈xs,∀l,x≠ .agg l):(lk ag xs).cells=xs:=by
 cases ag with
 |true=>rfl
 |false=>
  have hl:=lX h;rw[h1 rfl]at hl;match xs,hl,eZ with
  | [x],_,eZ=>
   have:=eZ rfl x (by simp);cases x<;>first|rfl|exact absurd rfl (this _)
theorem JB{c:CS}{v:V}(h:QH c v): ∀l,v≠ .agg l:=by
 intro l e;subst e;cases c<;>simp[QH]at h
theorem Ar: ∀{cs:List CS} {vs:List V},vP cs vs→ ∀x∈vs,∀l,x≠ .agg l
 | [],vs,h,x,hx=>by simp only[vP]at h;subst h;cases hx
 |c::cs,vs,h,x,hx=>by
  simp only[vP]at h;obtain⟨v,r,rfl,h1,h2⟩:=h;rcases List.mem_cons.1 hx with rfl|hx
  ·exact JB h1
  ·exact Ar h2 x hx
mutual
theorem Bv(hB:NN qf): ∀(n fuel:Nat) (t:TypeId) (cs:List Value) (x:DataW H×List MemPlace) (ag:Bool) (l:List CS),wF P n t=some (ag,l)→DataW.trod enc P w 0 spare held fuel t cs=some x→
  ∃vs,bS w (JA w) cC vs cs∧vP l vs∧kj vs≤qf x.1
 |0,_,_,_,_,_,_,h,_=>by simp[wF]at h
 |n+1,fuel,t,cs,x,ag,l,h,hx=>by
  unfold wF at h;split at h
  ·rename_i hu;simp only[aa,ax]at h;obtain⟨rfl,rfl⟩:=h;obtain⟨b,rfl,rfl⟩:=DataW.trod_bool hu hx;exact⟨[.bool b],re rfl (by simp[aV]),by simp[vP,QH],by simpa[kj,NM] using hB.one _⟩
  ·rename_i k hu;simp only[aa,ax]at h;obtain⟨rfl,rfl⟩:=h;obtain⟨m,rfl,rfl,hw⟩:=DataW.trod_int hu hx;simp only[Lit.wf,Bool.and_eq_true,decide_eq_true_eq]at hw;exact⟨[.int k m],re rfl (by simp[aV]),by simp[vP,QH,hw],by simpa[kj,NM] using hB.one _⟩
  ·rename_i hu;simp only[aa,ax]at h;obtain⟨rfl,rfl⟩:=h;obtain⟨s,rfl,rfl,hw⟩:=DataW.trod_string hu hx;exact⟨[.str s.data.toList],re rfl (by simp[aV]),by simp only[vP,QH];exact⟨_,_,rfl,⟨_,rfl,by simpa using hw⟩,rfl⟩,by simpa[kj,NM] using hB.str s.data.toList⟩
  ·rename_i e hu;split at h
   case h_2=>cases h
   rename_i age le rX;split at h
   case isFalse=>cases h
   rename_i hle;simp only[aa,ax]at h;obtain⟨rfl,rfl⟩:=h;rcases DataW.trod_slice hu hx with⟨rfl,rfl⟩|⟨a,len,cap,NO,rest,m,_,rfl,rfl,hb,hl,hm,hlen,uI,_,_⟩
   ·refine⟨[.sl false []],re rfl ?_,?_,by simpa[kj,NM] using hB.one _⟩
    ·simp only[aV];exact⟨none,0,rfl,by simp,by simp[maxLen],(fun hh=>by cases hh),.inl trivial⟩
    ·simp only[vP,QH];exact⟨_,_,rfl,⟨[],rfl,by simp,by simp⟩,rfl⟩
   ·have key: ∀i,i<len→ ∃vs us,w.cells? 0 (a.add (i*P.cellsOf e)) (P.cellsOf e)=some us∧bS w (JA w) cC vs us∧vP le vs∧ ∀y,NO[i]?=some y→kj vs≤qf y.1:=by
     intro i hi;have:=uI i hi;have hs: ∃y,NO[i]?=some y:=⟨NO[i],by simp⟩;obtain⟨y,hy⟩:=hs;rw[hy]at this;cases hc:w.cells? 0 (a.add (i*P.cellsOf e)) (P.cellsOf e) with
     |none=>simp[hc]at this
     |some us=>
      simp only[hc,Option.bind_some]at this;obtain⟨vs,h1,h2,h3⟩:=Bv hB n m e us y age le rX this;exact⟨vs,us,rfl,h1,h2,fun y' hy'=>by rw[hy]at hy';cases hy';exact h3⟩
    let f:Nat→V:=fun i=>if hi:i<len then lk age (Classical.choose (key i hi)) else .bad
    have hf: ∀i (hi:i<len),f i=lk age (Classical.choose (key i hi)):=fun i hi=>by simp[f,hi]
    have hgl:((List.range len).map f).length=len:=by simp
    refine⟨[.sl false ((List.range len).map f)],re rfl ?_,?_,?_⟩
    ·simp only[aV];refine⟨some a,cap,by rw[hgl],by rw[hgl];exact hl,hm,(fun hh=>by cases hh),?_⟩;by_cases h0:len=0
     ·subst h0;exact .inl (by simp)
     ·have c0: ∃u,w.cell? a=some u:=by
       obtain⟨vs,us,hc,h1,h2,_⟩:=key 0 (by omega);obtain⟨_,Kx,xE⟩:=World.cells?_some hc;have:=xE 0 (by omega);simp only[Nat.zero_mul]at this;rw[show(a.add 0).add 0=a by simp[Addr.add]]at this;have zk:0<us.length:=by omega
       exact⟨us[0],by rw[this];simp[zk]⟩
      obtain⟨u0,LC⟩:=c0;have Ze:a.spot=none:=by
       unfold World.cell? at LC;split at LC
       ·split at LC
        ·cases LC
        ·rename_i hs;simpa using hs
       ·cases LC
      have Zf:a.block<w.heap.size:=by
       unfold World.cell? at LC;split at LC
       ·rename_i hh;exact(Array.getElem?_eq_some_iff.1 hh).1
       ·cases LC
      obtain⟨ab,ao,asp⟩:=a;simp only at Ze Zf;subst Ze;refine .inr ⟨ab,ao,le.length,rfl,Zf,?_⟩;rw[gM];intro i v hv;have hi:i<len:=by
       have:=(List.getElem?_eq_some_iff.1 hv).1;simpa using this
      have Ad:v=f i:=by
       simp only[List.getElem?_map,List.getElem?_range hi,Option.map_some,aa]at hv;exact hv.symm
      obtain⟨us,hc,h1,h2,_⟩:=Classical.choose_spec (key i hi);have p0:v.cells=Classical.choose (key i hi):=by
       rw[Ad,hf i hi];exact zJ h2 hle.2.2 (fun _=>Ar h2)
      rw[p0];refine⟨lX h2,?_⟩;intro j c hj;rw[bH]at h1;obtain⟨_,Kx,xE⟩:=World.cells?_some hc;have vE:j<us.length:=by
       have:=(List.getElem?_eq_some_iff.1 hj).1;omega
      have kY:=xE j (by omega);have WY:us[j]?=some us[j]:=by simp
      refine⟨us[j],?_,h1.2 j c _ hj WY⟩;rw[←WY,←kY,kG,kG,hle.1]
    ·simp only[vP,QH];refine⟨_,_,rfl,⟨_,rfl,by rw[hgl];omega,?_⟩,rfl⟩;intro v hv;obtain⟨i,hi,rfl⟩:=List.mem_map.1 hv;have nh:i<len:=by simpa using hi
     obtain⟨us,hc,h1,h2,_⟩:=Classical.choose_spec (key i nh);exact⟨_,hf i nh,h2⟩
    ·have ao6:kj ((List.range len).map f)≤((NO.map (·.1)).map qf).sum:=by
      refine GX _ _ (by simp[hlen]) fun i v y hv hy=> ?_;have hi:i<len:=by
       have:=(List.getElem?_eq_some_iff.1 hv).1;simpa using this
      have Ad:v=f i:=by
       simp only[List.getElem?_map,List.getElem?_range hi,Option.map_some,aa]at hv;exact hv.symm
      obtain⟨us,hc,h1,h2,h3⟩:=Classical.choose_spec (key i hi);rw[Ad,hf i hi,vS h2 hle.2.2];have he:NO[i]?=some (NO[i]'(by omega)):=by simp[hlen,hi]
      rw[List.getElem?_map,List.getElem?_map,he]at hy;simp only[Option.map_some,aa]at hy;subst hy;exact h3 _ he
     have:=hB.slice (NO.map (·.1)) (rest.map (·.1));simp only[kj,NM];omega
  ·rename_i fs hu;split at h
   case h_2=>cases h
   rename_i lf hlf;split at h
   case isFalse=>cases h
   rename_i kf;simp only[aa,ax]at h;obtain⟨rfl,rfl⟩:=h;obtain⟨xs,m,_,rfl,hlen,_,hfs⟩:=DataW.trod_struct hu hx;obtain⟨vs,h1,h2,h3⟩:=GY hB n m cs xs 0 0 fs.toList lf hlf (by
    intro i f hf;have:=hfs i f (by simpa using hf);simpa using this) (by
    intro i hi;have XL:fs[i]?=some fs[i]:=by simp at hi;simp[hi]
    have:i<xs.length:=by simp at hi;omega
    simp[this])
   have lM:=lX h2;rw[List.drop_zero,←lM]at h1;rw[show vs.length=cs.length by omega,List.take_length]at h1;refine⟨vs,h1,h2,Nat.le_trans h3 (Nat.le_trans ?_ (hB.agg _))⟩;simp[List.map_map,Function.comp_def]
  ·cases h
theorem GY (hB:NN qf): ∀(n m:Nat) (cs:List Value) (xs:List (DataW H×List MemPlace)) (o k:Nat) (fs:List Field) (l:List CS),Jz P n o fs=some l→
  (∀(i:Nat) (f:Field),fs[i]?=some f→DataW.trod enc P w 0 spare held m f.type ((cs.drop f.offset).take (P.cellsOf f.type))=xs[k+i]?)→(∀i,i<fs.length→(xs[k+i]?).isSome=true)→
  ∃vs,bS w (JA w) cC vs ((cs.drop o).take l.length)∧vP l vs∧kj vs≤((xs.drop k).map fun y=>qf y.1).sum
 |0,_,_,_,_,_,_,_,h,_,_=>by simp[Jz]at h
 |n+1,m,cs,xs,o,k,[],l,h,_,_=>by
  simp only[Jz,aa]at h;subst h;exact⟨[],by simp[bS],rfl,by simp[kj]⟩
 |n+1,m,cs,xs,o,k,f::fs,l,h,hf,hs=>by
  simp only[Jz]at h;split at h
  case h_2=>cases h
  rename_i ag l1 r hc hr;split at h
  case isFalse=>cases h
  rename_i gZ;simp only[aa]at h;subst h;have h0:=hf 0 f (by simp);have GI:=hs 0 (by simp);rw[Nat.add_zero]at h0 GI;obtain⟨y,hy⟩:=Option.isSome_iff_exists.1 GI;rw[hy]at h0;obtain⟨vs,h1,h2,h5⟩:=Bv hB n m f.type _ y ag l1 hc h0;obtain⟨uX,h3,h4,h6⟩:=GY hB n m cs xs (o+P.cellsOf f.type) (k+1) fs r hr (by
   intro i g hg;have:=hf (i+1) g (by simpa using hg);rw[this];congr 1;omega) (by
   intro i hi;have:=hs (i+1) (by simpa using hi);rw[show k+1+i=k+(i+1) by omega];exact this)
  have hd:xs.drop k=y::xs.drop (k+1):=by
   obtain⟨hk,rfl⟩:=List.getElem?_eq_some_iff.1 hy;exact List.drop_eq_getElem_cons hk
  refine⟨vs++uX,?_,yg h2 h4,by rw[vQ,hd,List.map_cons,List.sum_cons];omega⟩;rw[gZ.1,gZ.2]at h1;rw[gZ.2]at h3;have:(cs.drop o).take (l1++r).length=(cs.drop o).take l1.length++(cs.drop (o+l1.length)).take r.length:=by
   rw[List.length_append,List.take_add,List.drop_drop]
  rw[this];exact Di h1 h3
end
end
end Go.Abs
