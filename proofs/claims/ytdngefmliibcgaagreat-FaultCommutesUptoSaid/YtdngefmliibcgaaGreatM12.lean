/- Part of a proof: engine L1. -/
import Derived.Test.YtdngefmliibcgaaGreatM10
import Derived.Carry
import Derived.ChangeSame
import Derived.OpenShut
import Derived.ProofKit
set_option linter.all false
set_option maxRecDepth 20000
set_option maxHeartbeats 20000000
namespace Go.Abs
open Go Go.ChangeShapes Go.RowKit
variable  {xs:List V}{v:V}{n base:Nat}{t tb:TypeId}
inductive CS where
 |int (k:IntKind)
 |bool
 |str
 |sl (ag:Bool) (cs:List CS)
 deriving Inhabited
mutual
def okC:CS->V->Prop
 | .int k,v=> ∃n,v= .int k n/\k.min<=n/\n<=k.max
 | .bool,v=> ∃b,v= .bool b
 | .str,v=> ∃s,v= .str s/\s.length<=maxLen
 | .sl ag cs,v=> ∃es,v= .sl false es/\es.length<=maxLen/\ ∀e∈es,∃xs,e=(if ag then .agg xs else xs.headD .bad)/\O0 cs xs
def O0:List CS->List V->Prop
 | [],vs=>vs=[]
 |c::cs,vs=> ∃v r,vs=v::r/\okC c v/\O0 cs r
end
mutual
def Ea(P:Program):Nat->TypeId->Option (Bool×List CS)
 |0,_=>none
 |d+1,t=>match P.underlying t with
  |some .bool=>some (false,[.bool])
  |some (.int k)=>some (false,[.int k])
  |some .string=>some (false,[.str])
  |some (.slice e)=>match Ea P d e with
   |some (ag,l)=>if P.cellsOf e=l.length/\0<l.length/\(ag=false->l.length=1) then some (false,[.sl ag l]) else none
   |none=>none
  |some (.struct fs)=>match VM P d 0 fs.toList with
   |some l=>if P.cellsOf t=l.length then some (true,l) else none
   |none=>none
  |_=>none
def VM (P:Program):Nat->Nat->List Field->Option (List CS)
 |0,_,_=>none
 |_+1,_,[]=>some []
 |d+1,o,f::fs=>match Ea P d f.type,VM P d (o+P.cellsOf f.type) fs with
  |some (_,l),some r=>if f.offset=o/\P.cellsOf f.type=l.length then some (l++r) else none
  |_,_=>none
end
def tC(ag:Bool)(xs:List V):V:=if ag then .agg xs else xs.headD .bad
def rZ: ∀{cs:List CS} {vs:List V},O0 cs vs->vs.length=cs.length
 | [],vs,h=>by subst h;rfl
 |c::cs,vs,h=>by
  obtain⟨v,r,rfl,_,h2⟩:=h;simp[rZ h2]
def FQ: ∀{cs rS:List CS} {vs Cu:List V},O0 cs vs->O0 rS Cu->O0 (cs++rS) (vs++Cu)
 | [],rS,vs,Cu,h,h'=>by subst h;grind
 |c::cs,rS,vs,Cu,h,h'=>by
  obtain⟨v,r,rfl,h1,h2⟩:=h;exact⟨v,r++Cu,rfl,h1,FQ h2 h'⟩
mutual
def vsz:V->Nat
 | .sl _ es=>pQ es+1
 | .agg cs=>pQ cs
 | .str s=>s.length+1
 |_=>1
def pQ:List V->Nat
 | []=>0
 |c::cs=>vsz c+pQ cs
end
def Dt: ∀a b:List V,pQ (a++b)=pQ a+pQ b
 | [],b=>by simp[pQ]
 |c::a,b=>by simp only[aeM,pQ,Dt a b];omega
def S8: ∀(vs:List V) (ys:List Nat),vs.length=ys.length->(∀(i:Nat) v y,vs[i]?=some v->ys[i]?=some y->vsz v<=y)->pQ vs<=ys.sum
 | [],_,_,_=>by simp[pQ]
 |v::vs,[],h,_=>by grind
 |v::vs,y::ys,h,hi=>by
  have h0:=hi 0 v y rfl rfl;have:=S8 vs ys (by grind) fun i v' y' h1 h2=>hi (i+1) v' y' (by grind) (by grind);simp only[pQ,aeZ];omega
structure abl {H:Type} (wW:DataW H->Nat):Prop where
 one: ∀d,1<=wW d
 slice: ∀els sp,(els.map wW).sum+1<=wW (.slice els sp)
 agg: ∀ps,(ps.map wW).sum<=wW (.agg ps)
 str: ∀b,b.length+1<=wW (.lit (.string b))
def Du{ag:Bool}{cs:List CS}(h:O0 cs xs)(h1:ag=false->cs.length=1):vsz (tC ag xs)=pQ xs:=by
 cases ag with
 |true=>rfl
 |false=>
  have hl:=rZ h;rw[h1 rfl]at hl;match xs,hl with
  | [x],_=>simp[tC,pQ]
section
variable {H:Type} {enc:TypeId×Value->H} {P:Program} {w:World} {spare:Nat->Bool} {held:Bool} {wW:DataW H->Nat}
def VN(w:World):Nat->Prop:=fun b=>b<w.heap.size
theorem yu{I:Nat->Prop}{u:Value}(h1:u.oneCell'=true)(h:dB w I fy v u):fP w I fy [v] [u]:=by
 exact⟨u,[],rfl,h1,h,rfl⟩
theorem M7{I:Nat->Prop}: ∀{vs Cu:List V} {us Ch:List Value},fP w I fy vs us->fP w I fy Cu Ch->fP w I fy (vs++Cu) (us++Ch)
 | [],Cu,us,Ch,h,h'=>by subst h;grind
 |v::vs,Cu,us,Ch,h,h'=>by
  obtain⟨u,r,rfl,h1,h2,h3⟩:=h;exact⟨u,_,rfl,h1,h2,M7 h3 h'⟩
theorem Ig{ag:Bool}{cs:List CS}(h:O0 cs xs)(h1:ag=false->cs.length=1)(kC:ag=false-> ∀x∈xs,∀l,x≠ .agg l):(tC ag xs).cells=xs:=by
 cases ag with
 |true=>rfl
 |false=>
  have hl:=rZ h;rw[h1 rfl]at hl;match xs,hl,kC with
  | [x],_,kC=>
   have:=kC rfl x (by simp);cases x<;>first|rfl|grind
theorem VO{c:CS}(h:okC c v): ∀l,v≠ .agg l:=by
 intro l e;subst e;cases c<;>simp[okC]at h
theorem Ji: ∀{cs:List CS} {vs:List V},O0 cs vs-> ∀x∈vs,∀l,x≠ .agg l
 | [],vs,h,x,hx=>by subst h;grind
 |c::cs,vs,h,x,hx=>by
  obtain⟨v,r,rfl,h1,h2⟩:=h;rcases List.mem_cons.1 hx with rfl|hx
  ·exact VO h1
  ·exact Ji h2 x hx
mutual
theorem KN(hB:abl wW): ∀(n fuel:Nat) (t:TypeId) (cs:List Value) (x:DataW H×List MemPlace) (ag:Bool) (l:List CS),Ea P n t=some (ag,l)->DataW.trod enc P w 0 spare held fuel t cs=some x->
  ∃vs,fP w (VN w) fy vs cs/\O0 l vs/\pQ vs<=wW x.1
 |0,_,_,_,_,_,_,h,_=>by simp[Ea]at h
 |n+1,fuel,t,cs,x,ag,l,h,hx=>by
  unfold Ea at h;split at h
  ·rename_i hu;obtain⟨rfl,rfl⟩:=h;obtain⟨b,rfl,rfl⟩:=DataW.trod_bool hu hx;exact⟨[.bool b],yu rfl (by simp[dB]),by simp[O0,okC],by simpa[pQ,vsz] using hB.one _⟩
  ·rename_i k hu;obtain⟨rfl,rfl⟩:=h;obtain⟨m,rfl,rfl,hw⟩:=DataW.trod_int hu hx;simp only[Lit.wf,aaF,decide_eq_true_eq]at hw;exact⟨[.int k m],yu rfl (by simp[dB]),by simp[O0,okC,hw],by simpa[pQ,vsz] using hB.one _⟩
  ·rename_i hu;obtain⟨rfl,rfl⟩:=h;obtain⟨s,rfl,rfl,hw⟩:=DataW.trod_string hu hx;exact⟨[.str s.data.toList],yu rfl (by simp[dB]),by exact⟨_,_,rfl,⟨_,rfl,by simp_all⟩,rfl⟩,by simpa[pQ,vsz] using hB.str s.data.toList⟩
  ·rename_i e hu;split at h
   case h_2=>cases h
   rename_i age le sw;split at h
   case isFalse=>cases h
   rename_i hle;obtain⟨rfl,rfl⟩:=h;rcases DataW.trod_slice hu hx with⟨rfl,rfl⟩|⟨a,len,cap,els,rest,m,_,rfl,rfl,hb,hl,hm,hlen,tq,_,_⟩
   ·refine⟨[.sl false []],yu rfl ?_,?_,by simpa[pQ,vsz] using hB.one _⟩
    ·simp only[dB]
     grind
    ·exact⟨_,_,rfl,⟨[],rfl,by simp,by simp⟩,rfl⟩
   ·have key: ∀i,i<len-> ∃vs us,w.cells? 0 (a.add (i*P.cellsOf e)) (P.cellsOf e)=some us/\fP w (VN w) fy vs us/\O0 le vs/\ ∀y,els[i]?=some y->pQ vs<=wW y.1:=by
     intro i hi;have:=tq i hi;have hs: ∃y,els[i]?=some y:=⟨els[i],by simp⟩;obtain⟨y,hy⟩:=hs;rw[hy]at this;cases hc:w.cells? 0 (a.add (i*P.cellsOf e)) (P.cellsOf e) with
     |none=>grind
     |some us=>
      simp only[hc,adT]at this;obtain⟨vs,h1,h2,h3⟩:=KN hB n m e us y age le sw this
      grind
    let f:Nat->V:=fun i=>if hi:i<len then tC age (Classical.choose (key i hi)) else .bad
    have hf: ∀i (hi:i<len),f i=tC age (Classical.choose (key i hi)):=fun i hi=>by grind
    have hgl:((List.range len).map f).length=len:=by simp
    refine⟨[.sl false ((List.range len).map f)],yu rfl ?_,?_,?_⟩
    ·refine⟨some a,cap,by grind,by omega,hm,(fun hh=>by grind),?_⟩;by_cases h0:len=0
     ·grind
     ·have c0: ∃u,w.cell? a=some u:=by
       obtain⟨vs,us,hc,h1,h2,_⟩:=key 0 (by omega);obtain⟨_,SH,Fj⟩:=World.cells?_some hc;have:=Fj 0 (by omega);simp only[aeE]at this;rw[show(a.add 0).add 0=a by simp[Addr.add]]at this;have L2:0<us.length:=by omega
       exact⟨us[0],by grind⟩
      obtain⟨u0,hu0⟩:=c0;have zy:a.spot=none:=by
       unfold World.cell? at hu0;split at hu0
       ·simp_all
       ·grind
      have a8e:a.block<w.heap.size:=by
       unfold World.cell? at hu0;split at hu0
       ·grind
       ·grind
      obtain⟨ab,ao,asp⟩:=a;subst zy;refine .inr ⟨ab,ao,le.length,rfl,a8e,?_⟩;rw[lN];intro i v hv;have hi:i<len:=by
       have:=(List.getElem?_eq_some_iff.1 hv).1;simpa using this
      have Kt:v=f i:=by
       simp only[abm,List.getElem?_range hi,abZ,aA]at hv;exact hv.symm
      obtain⟨us,hc,h1,h2,_⟩:=adR (key i hi);have Az:v.cells=Classical.choose (key i hi):=by
       rw[Kt,hf i hi];exact Ig h2 hle.2.2 (fun _=>Ji h2)
      rw[Az];refine⟨rZ h2,?_⟩;intro j c hj;rw[dL]at h1;obtain⟨_,SH,Fj⟩:=World.cells?_some hc;have tH:j<us.length:=by
       have:=(List.getElem?_eq_some_iff.1 hj).1;omega
      have xQ:=Fj j (by omega);have hus:us[j]?=some us[j]:=by simp
      refine⟨us[j],?_,h1.2 j c _ hj hus⟩;rw[<-hus,<-xQ,qv,qv,hle.1]
    ·refine⟨_,_,rfl,⟨_,rfl,by omega,?_⟩,rfl⟩;intro v hv;obtain⟨i,hi,rfl⟩:=List.mem_map.1 hv;have oE:i<len:=by simpa using hi
     obtain⟨us,hc,h1,h2,_⟩:=adR (key i oE);exact⟨_,hf i oE,h2⟩
    ·have bnt:pQ ((List.range len).map f)<=((els.map (·.1)).map wW).sum:=by
      refine S8 _ _ (by simp[hlen]) fun i v y hv hy=> ?_;have hi:i<len:=by
       have:=(List.getElem?_eq_some_iff.1 hv).1;simpa using this
      have Kt:v=f i:=by
       simp only[abm,List.getElem?_range hi,abZ,aA]at hv;exact hv.symm
      obtain⟨us,hc,h1,h2,h3⟩:=adR (key i hi);rw[Kt,hf i hi,Du h2 hle.2.2];have he:els[i]?=some (els[i]'(by omega)):=by simp[hlen,hi]
      rw[abm,abm,he]at hy;simp only[abZ,aA]at hy;subst hy;exact h3 _ he
     have:=hB.slice (els.map (·.1)) (rest.map (·.1));simp only[pQ,vsz];omega
  ·rename_i fs hu;split at h
   case h_2=>cases h
   rename_i lf hlf;split at h
   case isFalse=>cases h
   rename_i pW;simp only[aA,bM]at h;obtain⟨rfl,rfl⟩:=h;obtain⟨xs,m,_,rfl,hlen,_,hfs⟩:=DataW.trod_struct hu hx;obtain⟨vs,h1,h2,h3⟩:=S9 hB n m cs xs 0 0 fs.toList lf hlf (by
    intro i f hf;have:=hfs i f (by simpa using hf);simpa using this) (by
    intro i hi;have Kk:fs[i]?=some fs[i]:=by simp at hi;simp[hi]
    have:i<xs.length:=by simp at hi;omega
    simp[this])
   have jV:=rZ h2;rw[aeI,<-jV]at h1;rw[show vs.length=cs.length by omega,abi]at h1;refine⟨vs,h1,h2,abG h3 (abG ?_ (hB.agg _))⟩;simp[adz,Function.comp_def]
  ·cases h
theorem S9 (hB:abl wW): ∀(n m:Nat) (cs:List Value) (xs:List (DataW H×List MemPlace)) (o k:Nat) (fs:List Field) (l:List CS),VM P n o fs=some l->
  (∀(i:Nat) (f:Field),fs[i]?=some f->DataW.trod enc P w 0 spare held m f.type ((cs.drop f.offset).take (P.cellsOf f.type))=xs[k+i]?)->(∀i,i<fs.length->(xs[k+i]?).isSome=true)->
  ∃vs,fP w (VN w) fy vs ((cs.drop o).take l.length)/\O0 l vs/\pQ vs<=((xs.drop k).map fun y=>wW y.1).sum
 |0,_,_,_,_,_,_,_,h,_,_=>by simp[VM]at h
 |n+1,m,cs,xs,o,k,[],l,h,_,_=>by
  simp only[VM,aA]at h;subst h;exact⟨[],by simp[fP],rfl,by simp[pQ]⟩
 |n+1,m,cs,xs,o,k,f::fs,l,h,hf,hs=>by
  simp only[VM]at h;split at h
  case h_2=>cases h
  rename_i ag l1 r hc hr;split at h
  case isFalse=>cases h
  rename_i nn;simp only[aA]at h;subst h;have h0:=hf 0 f (by simp);have Mf:=hs 0 (by simp);obtain⟨y,hy⟩:=Option.isSome_iff_exists.1 Mf;rw[hy]at h0;obtain⟨vs,h1,h2,h5⟩:=KN hB n m f.type _ y ag l1 hc h0;obtain⟨Cu,h3,h4,h6⟩:=S9 hB n m cs xs (o+P.cellsOf f.type) (k+1) fs r hr (by
   intro i g hg;have:=hf (i+1) g (by grind)
   grind) (by
   intro i hi;have:=hs (i+1) (by grind)
   grind)
  have hd:xs.drop k=y::xs.drop (k+1):=by
   obtain⟨hk,rfl⟩:=List.getElem?_eq_some_iff.1 hy;exact acE hk
  refine⟨vs++Cu,?_,FQ h2 h4,by rw[Dt,hd,aaU,aeZ];omega⟩;rw[nn.1,nn.2]at h1;rw[nn.2]at h3;have:(cs.drop o).take (l1++r).length=(cs.drop o).take l1.length++(cs.drop (o+l1.length)).take r.length:=by
   rw[aaY,List.take_add,aeV]
  rw[this];exact M7 h1 h3
end
end
def FR:List (Bool×List CS)->List V->Prop
 | [],bwf=>bwf=[]
 |s::ss,bwf=> ∃xs r,bwf=tC s.1 xs::r/\O0 s.2 xs/\FR ss r
def CC(P:Program):List TypeId->Option (List (Bool×List CS))
 | []=>some []
 |t::ts=>match Ea P 80 t,CC P ts with
  |some s,some r=>some (s::r)
  |_,_=>none
def Ta(P:Program)(t:TypeId):Bool:=P.readableRec t&&decide (t<P.types.size)
section
variable {H:Type} {enc:TypeId×Value->H} {P:Program} {w:World}
theorem M8{l:List CS}(h:Ea P n t=some (false,l)){v:Value}(hv:Value.okWide P w .any base t v):v.cells.toList=[v]/\l.length=1:=by
 cases n with
 |zero=>simp[Ea]at h
 |succ n=>
  unfold Ea at h;unfold Value.okWide at hv;split at h
  ·rename_i hu;simp only[aA,bM,true_and]at h;subst h;cases v<;>first|exact⟨rfl,rfl⟩|simp[Cell.okWide,Cell.ok,hu]at hv
  ·rename_i k hu;simp only[aA,bM,true_and]at h;subst h;cases v<;>first|exact⟨rfl,rfl⟩|simp[Cell.okWide,Cell.ok,hu]at hv
  ·rename_i hu;simp only[aA,bM,true_and]at h;subst h;cases v<;>first|exact⟨rfl,rfl⟩|simp[Cell.okWide,Cell.ok,hu]at hv
  ·rename_i e hu;split at h
   case h_2=>cases h
   split at h
   case isFalse=>cases h
   simp only[aA,bM,true_and]at h;subst h;cases v<;>first|exact⟨rfl,rfl⟩|simp[Cell.okWide,Cell.ok,hu]at hv
  ·grind
  grind
theorem abn{l:List CS}(h:Ea P n t=some (true,l)){v:Value}(hv:Value.okWide P w .any base t v): ∃us,v= .agg us:=by
 cases n with
 |zero=>simp[Ea]at h
 |succ n=>
  unfold Ea at h;unfold Value.okWide at hv
  grind
theorem M9{wW:DataW H->Nat}(hB:abl wW){held:Bool}: ∀(ts:List TypeId) (vs:List Value) (ds:List (DataW H)) (ps:List MemPlace) (ss:List (Bool×List CS)) (base:Nat),CC P ts=some ss->
  (∀(j:Nat) t v,ts[j]?=some t->vs[j]?=some v->Value.okWide P w .any base t v)->DataW.TrodAll enc P w 0 (fun _=>true) held ts vs ds ps->
  ∃bwf,iN w (VN w) fy bwf vs/\FR ss bwf/\pQ bwf<=(ds.map wW).sum
 | [],vs,ds,ps,ss,base,h,_,hA=>by
  obtain⟨rfl,rfl,_⟩:=trodAll_nil hA;simp only[CC,aA]at h;subst h;exact⟨[],by simp[iN],rfl,by simp[pQ]⟩
 |t::ts,vs,ds,ps,ss,base,h,hv,hA=>by
  obtain⟨v,Cu,d,ds',p,q,rfl,rfl,rfl,h0,hr⟩:=trodAll_cons hA;simp only[CC]at h;split at h
  case h_2=>cases h
  rename_i s r hs Br;simp only[aA]at h;subst h;obtain⟨bwf,ha,hoa,hsa⟩:=M9 hB ts Cu ds' q r base Br (fun j t' v' h1 h2=>hv (j+1) t' v' (by grind) (by grind)) hr;obtain⟨fuel,hf⟩:=h0;have lj:=hv 0 t v rfl rfl;obtain⟨ag,l⟩:=s;obtain⟨xs,h1,h2,h3⟩:=KN hB 80 fuel t _ _ ag l hs hf;have hz:vsz (tC ag xs)=pQ xs:=Du h2 fun e=>by subst e;exact(M8 hs lj).2
  refine⟨tC ag xs::bwf,?_,by exact⟨xs,bwf,rfl,h2,hoa⟩,by simp only[pQ,aaU,aeZ,hz];grind⟩;refine⟨v,Cu,rfl,?_,ha⟩;cases ag with
  |true=>
   obtain⟨us,rfl⟩:=abn hs lj;exact⟨us,rfl,h1⟩
  |false=>
   obtain⟨hc,hl⟩:=M8 hs lj;rw[hc]at h1;have hx:=rZ h2;match xs,hx with
   | [x],_=>
    obtain⟨u,r',he,_,Df,_⟩:=h1;obtain⟨rfl,_⟩:=he;exact Df
theorem trod_stays(hl:laidOutB P=true){W W':World}(hb:Below W.heap.size W W'){sp:Nat->Bool}: ∀(ts:List TypeId) (vs:List Value) (ds:List (DataW H)) (ps:List MemPlace),ts.all (Ta P)=true->
  DataW.TrodAll enc P W 0 (fun _=>true) true ts vs ds ps->(∀p∈ps,p.block<W.heap.size)->(∀p∈ps,sp p.block=true)->DataW.TrodAll enc P W' 0 sp true ts vs ds ps
 | [],vs,ds,ps,_,hA,_,_=>by
  obtain⟨rfl,rfl,rfl⟩:=trodAll_nil hA;exact rfl
 |t::ts,vs,ds,ps,hB,hA,gY,zy=>by
  obtain⟨v,Cu,d,ds',p,q,rfl,rfl,rfl,h0,hr⟩:=trodAll_cons hA;simp only[adZ,Ta,aaF,decide_eq_true_eq]at hB;refine⟨p,q,WideElems.Trod_stays hl hB.1.1 hB.1.2 h0 (fun x hx=>hb.same (gY x (by grind))) (fun x hx=>zy x (by grind)),trod_stays hl hb ts Cu ds' q (by grind) hr (fun x hx=>gY x (by grind)) (fun x hx=>zy x (by grind)),rfl⟩
end
structure aol (P:Program) (f:Func) (ss:List (Bool×List CS)) (tb:TypeId):Prop where
 laid:laidOutB P=true
 read:f.params.toList.all (Ta P)=true
 VP:CC P f.params.toList=some ss
 res:f.resultTypes= #[tb]
 bool:P.underlying tb=some .bool
def abo {X:Env} (hC:qY X (cL X)) {g:FuncId} {f:Func} {ss:List (Bool×List CS)}  (L:aol X.P f ss tb) {s:ChangeSpec} (hv:s.vars=[])
  (hs: ∀(H:Type) (ds:List (DataW H)),ds.length=f.params.size->s.fn H ds={results:=[.lit (.bool true)],args:=ds})
  (H:Type) (wW:DataW H->Nat) (hB:abl wW) (enc:TypeId×Value->H) (W:World) (base:Nat) (args:Array Value) (ds gs:List (DataW H)) (before:List MemPlace)
  (PJ: ∀(j:Nat) t v,f.params[j]?=some t->args[j]?=some v->Value.okWide X.P W .any base t v)
  (hW:DataW.Whole enc X.P f.params.toList s.vars false W args.toList ds gs before) (hG:Kf W (VN W))
  (a8g: ∀bwf,FR ss bwf->pQ bwf<=(ds.map wW).sum-> ∃h k,cL X g bwf kO 0=some (.bool true,h,k)):
  Calls X.P g args W fun e W'=> ∃v,e= .returned v/\s.post enc X.P f false true false false W args v W':=by
 have gY:=hW.lt;have hW':=hW;obtain⟨p,q,hA,hV,rfl,hfz,hnd⟩:=hW;rw[hv]at hV;have hq:gs=[]/\q=[]:=by
  cases gs with
  |nil=>exact⟨rfl,hV⟩
  |cons _ _=>simp[DataW.TrodVars]at hV
 obtain⟨rfl,rfl⟩:=hq;obtain⟨bwf,mQ,lj,sY⟩:=M9 hB f.params.toList args.toList ds p ss base L.VP (fun j t v h1 h2=>PJ j t v (by grind) (by grind)) hA;obtain⟨h',k',rO⟩:=a8g bwf lj sY;refine(hC g bwf kO 0 (.bool true) h' k' rO W (VN W) fy args (Rel.kO (fun b hb=>hb) hG) (fun _ _=>⟨rfl,rfl⟩) mQ).mono fun e W' hh=> ?_;obtain⟨u,I',σ',rfl,a8i,st0,a8j,hr⟩:=hh;have st:=st0.step (fun _ _=>⟨rfl,rfl⟩) a8j a8i;subst hr;have abp:Below W.heap.size W W':=⟨st.os,st.tape,st.output,st.size,fun b hb=>st.frame b hb qZ⟩;have Py: ∀(ts:List TypeId) (vs:List Value) (ds:List (DataW H)) (ps:List MemPlace),DataW.TrodAll enc X.P W 0 (fun _=>true) true ts vs ds ps->ds.length=ts.length:=by
  intro ts;induction ts with
  |nil=>
   intro vs ds ps h;obtain⟨_,rfl,_⟩:=trodAll_nil h;rfl
  |cons t ts ih=>
   intro vs ds ps h;obtain⟨v,Cu,d,ds',p,q,rfl,rfl,rfl,_,hr⟩:=trodAll_cons h
   grind
 have hlen:ds.length=f.params.size:=by rw[Py _ _ _ _ hA];simp
 have hfn:=hs H (ds++ []) (by grind);have hold: ∀p'∈p++ [],(fun b=>decide (b<W.heap.size)) p'.block=true:=fun p' hp=>by grind
 refine⟨_,rfl,ds,[],p++ [],[],p,[],hW',?_,?_,?_,World.keptBut_mono (fun p' hp=>⟨hp,.inr (.inl (by grind))⟩) (abp.frame (· ∈p++ [])),fun h=>by cases h⟩
 ·rw[hfn,L.res];exact trodAll_cons_mk (shut_bool L.bool _) trodAll_mk0
 ·rw[hfn];simp only[acU]at gY hold⊢;exact trod_stays L.laid abp _ _ _ _ L.read hA gY hold
 ·rw[hfn,hv];rfl
end Go.Abs
