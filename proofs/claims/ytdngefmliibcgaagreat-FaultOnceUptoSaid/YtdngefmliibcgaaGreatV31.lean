/- part -/
import Derived.Test.YtdngefmliibcgaaGreatV29
import Derived.Carry
import Derived.ChangeSame
import Derived.OpenShut
import Derived.ProofKit
set_option linter.all false
set_option maxRecDepth 20000
set_option maxHeartbeats 20000000
namespace Go.Abs
open Go Go.ChangeShapes Go.RowKit
variable  {xs:List V}{v:V}{n base:Nat}{t tb:TypeId}
inductive CS where
 |int (k:IntKind)
 |bool
 |str
 |sl (ag:Bool) (cs:List CS)
 deriving Inhabited
mutual
def okC:CS->V->Prop
 | .int k,v=> ∃n,v= .int k n/\k.min<=n/\n<=k.max
 | .bool,v=> ∃b,v= .bool b
 | .str,v=> ∃s,v= .str s/\s.length<=maxLen
 | .sl ag cs,v=> ∃es,v= .sl false es/\es.length<=maxLen/\ ∀e∈es,∃xs,e=(if ag then .agg xs else xs.headD .bad)/\Px cs xs
def Px:List CS->List V->Prop
 | [],vs=>vs=[]
 |c::cs,vs=> ∃v r,vs=v::r/\okC c v/\Px cs r
end
mutual
def Er(P:Program):Nat->TypeId->Option (Bool×List CS)
 |0,_=>none
 |d+1,t=>match P.underlying t with
  |some .bool=>some (false,[.bool])
  |some (.int k)=>some (false,[.int k])
  |some .string=>some (false,[.str])
  |some (.slice e)=>match Er P d e with
   |some (ag,l)=>if P.cellsOf e=l.length/\0<l.length/\(ag=false->l.length=1) then some (false,[.sl ag l]) else none
   |none=>none
  |some (.struct fs)=>match Wd P d 0 fs.toList with
   |some l=>if P.cellsOf t=l.length then some (true,l) else none
   |none=>none
  |_=>none
def Wd (P:Program):Nat->Nat->List Field->Option (List CS)
 |0,_,_=>none
 |_+1,_,[]=>some []
 |d+1,o,f::fs=>match Er P d f.type,Wd P d (o+P.cellsOf f.type) fs with
  |some (_,l),some r=>if f.offset=o/\P.cellsOf f.type=l.length then some (l++r) else none
  |_,_=>none
end
def tC(ag:Bool)(xs:List V):V:=if ag then .agg xs else xs.headD .bad
def rZ: ∀{cs:List CS} {vs:List V},Px cs vs->vs.length=cs.length
 | [],vs,h=>by subst h;rfl
 |c::cs,vs,h=>by
  obtain⟨v,r,rfl,_,h2⟩:=h;simp[rZ h2]
def Ga: ∀{cs rS:List CS} {vs CC:List V},Px cs vs->Px rS CC->Px (cs++rS) (vs++CC)
 | [],rS,vs,CC,h,h'=>by subst h;grind
 |c::cs,rS,vs,CC,h,h'=>by
  obtain⟨v,r,rfl,h1,h2⟩:=h;exact⟨v,r++CC,rfl,h1,Ga h2 h'⟩
mutual
def vsz:V->Nat
 | .sl _ es=>pM es+1
 | .agg cs=>pM cs
 | .str s=>s.length+1
 |_=>1
def pM:List V->Nat
 | []=>0
 |c::cs=>vsz c+pM cs
end
def DI: ∀a b:List V,pM (a++b)=pM a+pM b
 | [],b=>by simp[pM]
 |c::a,b=>by simp only[aeT,pM,DI a b];omega
def TD: ∀(vs:List V) (ys:List Nat),vs.length=ys.length->(∀(i:Nat) v y,vs[i]?=some v->ys[i]?=some y->vsz v<=y)->pM vs<=ys.sum
 | [],_,_,_=>by simp[pM]
 |v::vs,[],h,_=>by grind
 |v::vs,y::ys,h,hi=>by
  have h0:=hi 0 v y rfl rfl;have:=TD vs ys (by grind) fun i v' y' h1 h2=>hi (i+1) v' y' (by grind) (by grind);simp only[pM,afC];omega
structure acp {H:Type} (xf:DataW H->Nat):Prop where
 one: ∀d,1<=xf d
 slice: ∀els sp,(els.map xf).sum+1<=xf (.slice els sp)
 agg: ∀ps,(ps.map xf).sum<=xf (.agg ps)
 str: ∀b,b.length+1<=xf (.lit (.string b))
def DJ{ag:Bool}{cs:List CS}(h:Px cs xs)(h1:ag=false->cs.length=1):vsz (tC ag xs)=pM xs:=by
 cases ag with
 |true=>rfl
 |false=>
  have hl:=rZ h;rw[h1 rfl]at hl;match xs,hl with
  | [x],_=>simp[tC,pM]
section
variable {H:Type} {enc:TypeId×Value->H} {P:Program} {w:World} {spare:Nat->Bool} {held:Bool} {xf:DataW H->Nat}
def We(w:World):Nat->Prop:=fun b=>b<w.heap.size
theorem yD{I:Nat->Prop}{u:Value}(h1:u.oneCell'=true)(h:dD w I fv v u):fR w I fv [v] [u]:=by
 exact⟨u,[],rfl,h1,h,rfl⟩
theorem NB{I:Nat->Prop}: ∀{vs CC:List V} {us Co:List Value},fR w I fv vs us->fR w I fv CC Co->fR w I fv (vs++CC) (us++Co)
 | [],CC,us,Co,h,h'=>by subst h;grind
 |v::vs,CC,us,Co,h,h'=>by
  obtain⟨u,r,rfl,h1,h2,h3⟩:=h;exact⟨u,_,rfl,h1,h2,NB h3 h'⟩
theorem IB{ag:Bool}{cs:List CS}(h:Px cs xs)(h1:ag=false->cs.length=1)(kz:ag=false-> ∀x∈xs,∀l,x≠ .agg l):(tC ag xs).cells=xs:=by
 cases ag with
 |true=>rfl
 |false=>
  have hl:=rZ h;rw[h1 rfl]at hl;match xs,hl,kz with
  | [x],_,kz=>
   have:=kz rfl x (by simp);cases x<;>first|rfl|grind
theorem Wf{c:CS}(h:okC c v): ∀l,v≠ .agg l:=by
 intro l e;subst e;cases c<;>simp[okC]at h
theorem JC: ∀{cs:List CS} {vs:List V},Px cs vs-> ∀x∈vs,∀l,x≠ .agg l
 | [],vs,h,x,hx=>by subst h;grind
 |c::cs,vs,h,x,hx=>by
  obtain⟨v,r,rfl,h1,h2⟩:=h;rcases List.mem_cons.1 hx with rfl|hx
  ·exact Wf h1
  ·exact JC h2 x hx
mutual
theorem K8(hB:acp xf): ∀(n fuel:Nat) (t:TypeId) (cs:List Value) (x:DataW H×List MemPlace) (ag:Bool) (l:List CS),Er P n t=some (ag,l)->DataW.trod enc P w 0 spare held fuel t cs=some x->
  ∃vs,fR w (We w) fv vs cs/\Px l vs/\pM vs<=xf x.1
 |0,_,_,_,_,_,_,h,_=>by simp[Er]at h
 |n+1,fuel,t,cs,x,ag,l,h,hx=>by
  unfold Er at h;split at h
  ·rename_i hu;obtain⟨rfl,rfl⟩:=h;obtain⟨b,rfl,rfl⟩:=DataW.trod_bool hu hx;exact⟨[.bool b],yD rfl (by simp[dD]),by simp[Px,okC],by simpa[pM,vsz] using hB.one _⟩
  ·rename_i k hu;obtain⟨rfl,rfl⟩:=h;obtain⟨m,rfl,rfl,hw⟩:=DataW.trod_int hu hx;simp only[Lit.wf,aaF,decide_eq_true_eq]at hw;exact⟨[.int k m],yD rfl (by simp[dD]),by simp[Px,okC,hw],by simpa[pM,vsz] using hB.one _⟩
  ·rename_i hu;obtain⟨rfl,rfl⟩:=h;obtain⟨s,rfl,rfl,hw⟩:=DataW.trod_string hu hx;exact⟨[.str s.data.toList],yD rfl (by simp[dD]),by exact⟨_,_,rfl,⟨_,rfl,by simp_all⟩,rfl⟩,by simpa[pM,vsz] using hB.str s.data.toList⟩
  ·rename_i e hu;split at h
   case h_2=>cases h
   rename_i age le rH;split at h
   case isFalse=>cases h
   rename_i hle;obtain⟨rfl,rfl⟩:=h;rcases DataW.trod_slice hu hx with⟨rfl,rfl⟩|⟨a,len,cap,els,rest,m,_,rfl,rfl,hb,hl,hm,hlen,tw,_,_⟩
   ·refine⟨[.sl false []],yD rfl ?_,?_,by simpa[pM,vsz] using hB.one _⟩
    ·simp only[dD]
     grind
    ·exact⟨_,_,rfl,⟨[],rfl,by simp,by simp⟩,rfl⟩
   ·have key: ∀i,i<len-> ∃vs us,w.cells? 0 (a.add (i*P.cellsOf e)) (P.cellsOf e)=some us/\fR w (We w) fv vs us/\Px le vs/\ ∀y,els[i]?=some y->pM vs<=xf y.1:=by
     intro i hi;have:=tw i hi;have hs: ∃y,els[i]?=some y:=⟨els[i],by simp⟩;obtain⟨y,hy⟩:=hs;rw[hy]at this;cases hc:w.cells? 0 (a.add (i*P.cellsOf e)) (P.cellsOf e) with
     |none=>grind
     |some us=>
      simp only[hc,aeo]at this;obtain⟨vs,h1,h2,h3⟩:=K8 hB n m e us y age le rH this
      grind
    let f:Nat->V:=fun i=>if hi:i<len then tC age (Classical.choose (key i hi)) else .bad
    have hf: ∀i (hi:i<len),f i=tC age (Classical.choose (key i hi)):=fun i hi=>by grind
    have hgl:((List.range len).map f).length=len:=by simp
    refine⟨[.sl false ((List.range len).map f)],yD rfl ?_,?_,?_⟩
    ·refine⟨some a,cap,by grind,by omega,hm,(fun hh=>by grind),?_⟩;by_cases h0:len=0
     ·grind
     ·have c0: ∃u,w.cell? a=some u:=by
       obtain⟨vs,us,hc,h1,h2,_⟩:=key 0 (by omega);obtain⟨_,Th,FD⟩:=World.cells?_some hc;have:=FD 0 (by omega);simp only[aeK]at this;rw[show(a.add 0).add 0=a by simp[Addr.add]]at this;have Mu:0<us.length:=by omega
       exact⟨us[0],by grind⟩
      obtain⟨u0,hu0⟩:=c0;have zH:a.spot=none:=by
       unfold World.cell? at hu0;split at hu0
       ·simp_all
       ·grind
      have a90:a.block<w.heap.size:=by
       unfold World.cell? at hu0;split at hu0
       ·grind
       ·grind
      obtain⟨ab,ao,asp⟩:=a;subst zH;refine .inr ⟨ab,ao,le.length,rfl,a90,?_⟩;rw[lQ];intro i v hv;have hi:i<len:=by
       have:=(List.getElem?_eq_some_iff.1 hv).1;simpa using this
      have KO:v=f i:=by
       simp only[abG,List.getElem?_range hi,acq,aA]at hv;exact hv.symm
      obtain⟨us,hc,h1,h2,_⟩:=adW (key i hi);have AF:v.cells=Classical.choose (key i hi):=by
       rw[KO,hf i hi];exact IB h2 hle.2.2 (fun _=>JC h2)
      rw[AF];refine⟨rZ h2,?_⟩;intro j c hj;rw[dO]at h1;obtain⟨_,Th,FD⟩:=World.cells?_some hc;have tI:j<us.length:=by
       have:=(List.getElem?_eq_some_iff.1 hj).1;omega
      have xX:=FD j (by omega);have hus:us[j]?=some us[j]:=by simp
      refine⟨us[j],?_,h1.2 j c _ hj hus⟩;rw[<-hus,<-xX,qu,qu,hle.1]
    ·refine⟨_,_,rfl,⟨_,rfl,by omega,?_⟩,rfl⟩;intro v hv;obtain⟨i,hi,rfl⟩:=List.mem_map.1 hv;have oy:i<len:=by simpa using hi
     obtain⟨us,hc,h1,h2,_⟩:=adW (key i oy);exact⟨_,hf i oy,h2⟩
    ·have NC:pM ((List.range len).map f)<=((els.map (·.1)).map xf).sum:=by
      refine TD _ _ (by simp[hlen]) fun i v y hv hy=> ?_;have hi:i<len:=by
       have:=(List.getElem?_eq_some_iff.1 hv).1;simpa using this
      have KO:v=f i:=by
       simp only[abG,List.getElem?_range hi,acq,aA]at hv;exact hv.symm
      obtain⟨us,hc,h1,h2,h3⟩:=adW (key i hi);rw[KO,hf i hi,DJ h2 hle.2.2];have he:els[i]?=some (els[i]'(by omega)):=by simp[hlen,hi]
      rw[abG,abG,he]at hy;simp only[acq,aA]at hy;subst hy;exact h3 _ he
     have:=hB.slice (els.map (·.1)) (rest.map (·.1));simp only[pM,vsz];omega
  ·rename_i fs hu;split at h
   case h_2=>cases h
   rename_i lf hlf;split at h
   case isFalse=>cases h
   rename_i pS;simp only[aA,bM]at h;obtain⟨rfl,rfl⟩:=h;obtain⟨xs,m,_,rfl,hlen,_,hfs⟩:=DataW.trod_struct hu hx;obtain⟨vs,h1,h2,h3⟩:=TE hB n m cs xs 0 0 fs.toList lf hlf (by
    intro i f hf;have:=hfs i f (by simpa using hf);simpa using this) (by
    intro i hi;have KF:fs[i]?=some fs[i]:=by simp at hi;simp[hi]
    have:i<xs.length:=by simp at hi;omega
    simp[this])
   have jX:=rZ h2;rw[aeN,<-jX]at h1;rw[show vs.length=cs.length by omega,abC]at h1;refine⟨vs,h1,h2,abK h3 (abK ?_ (hB.agg _))⟩;simp[adB,Function.comp_def]
  ·cases h
theorem TE (hB:acp xf): ∀(n m:Nat) (cs:List Value) (xs:List (DataW H×List MemPlace)) (o k:Nat) (fs:List Field) (l:List CS),Wd P n o fs=some l->
  (∀(i:Nat) (f:Field),fs[i]?=some f->DataW.trod enc P w 0 spare held m f.type ((cs.drop f.offset).take (P.cellsOf f.type))=xs[k+i]?)->(∀i,i<fs.length->(xs[k+i]?).isSome=true)->
  ∃vs,fR w (We w) fv vs ((cs.drop o).take l.length)/\Px l vs/\pM vs<=((xs.drop k).map fun y=>xf y.1).sum
 |0,_,_,_,_,_,_,_,h,_,_=>by simp[Wd]at h
 |n+1,m,cs,xs,o,k,[],l,h,_,_=>by
  simp only[Wd,aA]at h;subst h;exact⟨[],by simp[fR],rfl,by simp[pM]⟩
 |n+1,m,cs,xs,o,k,f::fs,l,h,hf,hs=>by
  simp only[Wd]at h;split at h
  case h_2=>cases h
  rename_i ag l1 r hc hr;split at h
  case isFalse=>cases h
  rename_i nc;simp only[aA]at h;subst h;have h0:=hf 0 f (by simp);have MK:=hs 0 (by simp);obtain⟨y,hy⟩:=Option.isSome_iff_exists.1 MK;rw[hy]at h0;obtain⟨vs,h1,h2,h5⟩:=K8 hB n m f.type _ y ag l1 hc h0;obtain⟨CC,h3,h4,h6⟩:=TE hB n m cs xs (o+P.cellsOf f.type) (k+1) fs r hr (by
   intro i g hg;have:=hf (i+1) g (by grind)
   grind) (by
   intro i hi;have:=hs (i+1) (by grind)
   grind)
  have hd:xs.drop k=y::xs.drop (k+1):=by
   obtain⟨hk,rfl⟩:=List.getElem?_eq_some_iff.1 hy;exact acH hk
  refine⟨vs++CC,?_,Ga h2 h4,by rw[DI,hd,aaV,afC];omega⟩;rw[nc.1,nc.2]at h1;rw[nc.2]at h3;have:(cs.drop o).take (l1++r).length=(cs.drop o).take l1.length++(cs.drop (o+l1.length)).take r.length:=by
   rw[aaY,List.take_add,afu]
  rw[this];exact NB h1 h3
end
end
def Gb:List (Bool×List CS)->List V->Prop
 | [],bx7=>bx7=[]
 |s::ss,bx7=> ∃xs r,bx7=tC s.1 xs::r/\Px s.2 xs/\Gb ss r
def CM(P:Program):List TypeId->Option (List (Bool×List CS))
 | []=>some []
 |t::ts=>match Er P 80 t,CM P ts with
  |some s,some r=>some (s::r)
  |_,_=>none
def TF(P:Program)(t:TypeId):Bool:=P.readableRec t&&decide (t<P.types.size)
section
variable {H:Type} {enc:TypeId×Value->H} {P:Program} {w:World}
theorem ND{l:List CS}(h:Er P n t=some (false,l)){v:Value}(hv:Value.okWide P w .any base t v):v.cells.toList=[v]/\l.length=1:=by
 cases n with
 |zero=>simp[Er]at h
 |succ n=>
  unfold Er at h;unfold Value.okWide at hv;split at h
  ·rename_i hu;simp only[aA,bM,true_and]at h;subst h;cases v<;>first|exact⟨rfl,rfl⟩|simp[Cell.okWide,Cell.ok,hu]at hv
  ·rename_i k hu;simp only[aA,bM,true_and]at h;subst h;cases v<;>first|exact⟨rfl,rfl⟩|simp[Cell.okWide,Cell.ok,hu]at hv
  ·rename_i hu;simp only[aA,bM,true_and]at h;subst h;cases v<;>first|exact⟨rfl,rfl⟩|simp[Cell.okWide,Cell.ok,hu]at hv
  ·rename_i e hu;split at h
   case h_2=>cases h
   split at h
   case isFalse=>cases h
   simp only[aA,bM,true_and]at h;subst h;cases v<;>first|exact⟨rfl,rfl⟩|simp[Cell.okWide,Cell.ok,hu]at hv
  ·grind
  grind
theorem acr{l:List CS}(h:Er P n t=some (true,l)){v:Value}(hv:Value.okWide P w .any base t v): ∃us,v= .agg us:=by
 cases n with
 |zero=>simp[Er]at h
 |succ n=>
  unfold Er at h;unfold Value.okWide at hv
  grind
theorem NF{xf:DataW H->Nat}(hB:acp xf){held:Bool}: ∀(ts:List TypeId) (vs:List Value) (ds:List (DataW H)) (ps:List MemPlace) (ss:List (Bool×List CS)) (base:Nat),CM P ts=some ss->
  (∀(j:Nat) t v,ts[j]?=some t->vs[j]?=some v->Value.okWide P w .any base t v)->DataW.TrodAll enc P w 0 (fun _=>true) held ts vs ds ps->
  ∃bx7,iO w (We w) fv bx7 vs/\Gb ss bx7/\pM bx7<=(ds.map xf).sum
 | [],vs,ds,ps,ss,base,h,_,hA=>by
  obtain⟨rfl,rfl,_⟩:=trodAll_nil hA;simp only[CM,aA]at h;subst h;exact⟨[],by simp[iO],rfl,by simp[pM]⟩
 |t::ts,vs,ds,ps,ss,base,h,hv,hA=>by
  obtain⟨v,CC,d,ds',p,q,rfl,rfl,rfl,h0,hr⟩:=trodAll_cons hA;simp only[CM]at h;split at h
  case h_2=>cases h
  rename_i s r hs Bx;simp only[aA]at h;subst h;obtain⟨bx7,ha,hoa,hsa⟩:=NF hB ts CC ds' q r base Bx (fun j t' v' h1 h2=>hv (j+1) t' v' (by grind) (by grind)) hr;obtain⟨fuel,hf⟩:=h0;have ln:=hv 0 t v rfl rfl;obtain⟨ag,l⟩:=s;obtain⟨xs,h1,h2,h3⟩:=K8 hB 80 fuel t _ _ ag l hs hf;have hz:vsz (tC ag xs)=pM xs:=DJ h2 fun e=>by subst e;exact(ND hs ln).2
  refine⟨tC ag xs::bx7,?_,by exact⟨xs,bx7,rfl,h2,hoa⟩,by simp only[pM,aaV,afC,hz];grind⟩;refine⟨v,CC,rfl,?_,ha⟩;cases ag with
  |true=>
   obtain⟨us,rfl⟩:=acr hs ln;exact⟨us,rfl,h1⟩
  |false=>
   obtain⟨hc,hl⟩:=ND hs ln;rw[hc]at h1;have hx:=rZ h2;match xs,hx with
   | [x],_=>
    obtain⟨u,r',he,_,Dw,_⟩:=h1;obtain⟨rfl,_⟩:=he;exact Dw
theorem trod_stays(hl:laidOutB P=true){W W':World}(hb:Below W.heap.size W W'){sp:Nat->Bool}: ∀(ts:List TypeId) (vs:List Value) (ds:List (DataW H)) (ps:List MemPlace),ts.all (TF P)=true->
  DataW.TrodAll enc P W 0 (fun _=>true) true ts vs ds ps->(∀p∈ps,p.block<W.heap.size)->(∀p∈ps,sp p.block=true)->DataW.TrodAll enc P W' 0 sp true ts vs ds ps
 | [],vs,ds,ps,_,hA,_,_=>by
  obtain⟨rfl,rfl,rfl⟩:=trodAll_nil hA;exact rfl
 |t::ts,vs,ds,ps,hB,hA,gZ,zH=>by
  obtain⟨v,CC,d,ds',p,q,rfl,rfl,rfl,h0,hr⟩:=trodAll_cons hA;simp only[aeA,TF,aaF,decide_eq_true_eq]at hB;refine⟨p,q,WideElems.Trod_stays hl hB.1.1 hB.1.2 h0 (fun x hx=>hb.same (gZ x (by grind))) (fun x hx=>zH x (by grind)),trod_stays hl hb ts CC ds' q (by grind) hr (fun x hx=>gZ x (by grind)) (fun x hx=>zH x (by grind)),rfl⟩
end
structure apm (P:Program) (f:Func) (ss:List (Bool×List CS)) (tb:TypeId):Prop where
 laid:laidOutB P=true
 read:f.params.toList.all (TF P)=true
 Wg:CM P f.params.toList=some ss
 res:f.resultTypes= #[tb]
 bool:P.underlying tb=some .bool
def acs {X:Env} (hC:qY X (cL X)) {g:FuncId} {f:Func} {ss:List (Bool×List CS)}  (L:apm X.P f ss tb) {s:ChangeSpec} (hv:s.vars=[])
  (hs: ∀(H:Type) (ds:List (DataW H)),ds.length=f.params.size->s.fn H ds={results:=[.lit (.bool true)],args:=ds})
  (H:Type) (xf:DataW H->Nat) (hB:acp xf) (enc:TypeId×Value->H) (W:World) (base:Nat) (args:Array Value) (ds gs:List (DataW H)) (before:List MemPlace)
  (Qe: ∀(j:Nat) t v,f.params[j]?=some t->args[j]?=some v->Value.okWide X.P W .any base t v)
  (hW:DataW.Whole enc X.P f.params.toList s.vars false W args.toList ds gs before) (hG:KA W (We W))
  (a92: ∀bx7,Gb ss bx7->pM bx7<=(ds.map xf).sum-> ∃h k,cL X g bx7 kS 0=some (.bool true,h,k)):
  Calls X.P g args W fun e W'=> ∃v,e= .returned v/\s.post enc X.P f false true false false W args v W':=by
 have gZ:=hW.lt;have hW':=hW;obtain⟨p,q,hA,hV,rfl,hfz,hnd⟩:=hW;rw[hv]at hV;have hq:gs=[]/\q=[]:=by
  cases gs with
  |nil=>exact⟨rfl,hV⟩
  |cons _ _=>simp[DataW.TrodVars]at hV
 obtain⟨rfl,rfl⟩:=hq;obtain⟨bx7,mK,ln,s7⟩:=NF hB f.params.toList args.toList ds p ss base L.Wg (fun j t v h1 h2=>Qe j t v (by grind) (by grind)) hA;obtain⟨h',k',rO⟩:=a92 bx7 ln s7;refine(hC g bx7 kS 0 (.bool true) h' k' rO W (We W) fv args (Rel.kS (fun b hb=>hb) hG) (fun _ _=>⟨rfl,rfl⟩) mK).mono fun e W' hh=> ?_;obtain⟨u,I',σ',rfl,a94,st0,a95,hr⟩:=hh;have st:=st0.step (fun _ _=>⟨rfl,rfl⟩) a95 a94;subst hr;have acu:Below W.heap.size W W':=⟨st.os,st.tape,st.output,st.size,fun b hb=>st.frame b hb qZ⟩;have P3: ∀(ts:List TypeId) (vs:List Value) (ds:List (DataW H)) (ps:List MemPlace),DataW.TrodAll enc X.P W 0 (fun _=>true) true ts vs ds ps->ds.length=ts.length:=by
  intro ts;induction ts with
  |nil=>
   intro vs ds ps h;obtain⟨_,rfl,_⟩:=trodAll_nil h;rfl
  |cons t ts ih=>
   intro vs ds ps h;obtain⟨v,CC,d,ds',p,q,rfl,rfl,rfl,_,hr⟩:=trodAll_cons h
   grind
 have hlen:ds.length=f.params.size:=by rw[P3 _ _ _ _ hA];simp
 have hfn:=hs H (ds++ []) (by grind);have hold: ∀p'∈p++ [],(fun b=>decide (b<W.heap.size)) p'.block=true:=fun p' hp=>by grind
 refine⟨_,rfl,ds,[],p++ [],[],p,[],hW',?_,?_,?_,World.keptBut_mono (fun p' hp=>⟨hp,.inr (.inl (by grind))⟩) (acu.frame (· ∈p++ [])),fun h=>by cases h⟩
 ·rw[hfn,L.res];exact trodAll_cons_mk (shut_bool L.bool _) trodAll_mk0
 ·rw[hfn];simp only[acX]at gZ hold⊢;exact trod_stays L.laid acu _ _ _ _ L.read hA gZ hold
 ·rw[hfn,hv];rfl
end Go.Abs
