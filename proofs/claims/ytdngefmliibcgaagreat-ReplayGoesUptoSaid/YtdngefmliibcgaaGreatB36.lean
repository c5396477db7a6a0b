import Derived.Test.YtdngefmliibcgaaGreatB34
import Derived.Carry
import Derived.ChangeSame
import Derived.OpenShut
import Derived.ProofKit
set_option linter.all false
set_option maxRecDepth 20000
set_option maxHeartbeats 0
namespace Go.Abs
open Go Go.ChangeShapes Go.RowKit
variable  {xs:List V}{v:V}{n base:Nat}{t tb:TypeId}
inductive CS where
 |int (k:IntKind)
 |bool
 |str
 |sl (ag:Bool) (cs:List CS)
 deriving Inhabited
mutual
def uY:CS->V->Prop
 | .int k,v=> ∃n,v= .int k n/\k.min<=n/\n<=k.max
 | .bool,v=> ∃b,v= .bool b
 | .str,v=> ∃s,v= .str s/\s.length<=maxLen
 | .sl ag cs,v=> ∃es,v= .sl false es/\es.length<=maxLen/\ ∀e∈es,∃x,e=(if ag then .agg x else x.headD .bad)/\L1 cs x
def L1:List CS->List V->Prop
 | [],vs=>vs=[]
 |c::cs,vs=> ∃v r,vs=v::r/\uY c v/\L1 cs r
end
mutual
def FD(P:Program):Nat->TypeId->Option (Bool×List CS)
 |0,_=>none
 |d+1,t=>match P.underlying t with
  |some .bool=>some (false,[.bool])
  |some (.int k)=>some (false,[.int k])
  |some .string=>some (false,[.str])
  |some (.slice e)=>match FD P d e with
   |some (ag,l)=>if P.cellsOf e=l.length/\0<l.length/\(ag=false->l.length=1) then some (false,[.sl ag l]) else none
   |none=>none
  |some (.struct f)=>match W8 P d 0 f.toList with
   |some l=>if P.cellsOf t=l.length then some (true,l) else none
   |none=>none
  |_=>none
def W8 (P:Program):Nat->Nat->List Field->Option (List CS)
 |0,_,_=>none
 |_+1,_,[]=>some []
 |d+1,o,f::s=>match FD P d f.type,W8 P d (o+P.cellsOf f.type) s with
  |some (_,l),some r=>if f.offset=o/\P.cellsOf f.type=l.length then some (l++r) else none
  |_,_=>none
end
def oO(ag:Bool)(xs:List V):V:=if ag then .agg xs else xs.headD .bad
def tz: ∀{cs:List CS} {vs:List V},L1 cs vs->vs.length=cs.length
 | [],vs,h=>dH
 |c::cs,vs,h=>by
  obtain⟨v,r,rfl,_,K⟩:=h;simp[tz K]
def Hu: ∀{cs s:List CS} {vs D:List V},L1 cs vs->L1 s D->L1 (cs++s) (vs++D)
 | [],s,vs,D,h,h'=>by subst h;grind
 |c::cs,s,vs,D,h,h'=>by
  obtain⟨v,r,rfl,h1,K⟩:=h;exact⟨v,r++D,rfl,h1,Hu K h'⟩
mutual
def Ur:V->Nat
 | .sl _ es=>nK es+1
 | .agg cs=>nK cs
 | .str s=>s.length+1
 |_=>1
def nK:List V->Nat
 | []=>0
 |c::cs=>Ur c+nK cs
end
def EH: ∀a b:List V,nK (a++b)=nK a+nK b
 | [],b=>by simp[nK]
 |c::a,b=>by simp only[zP,nK,EH a b];omega
def Us: ∀(vs:List V) (s:List Nat),vs.length=s.length->(∀(i:Nat) v y,vs[i]?=some v->s[i]?=some y->Ur v<=y)->nK vs<=s.sum
 | [],_,_,_=>by simp[nK]
 |v::vs,[],h,_=>aj
 |v::vs,y::s,h,j=>by
  have h0:=j 0 v y rfl rfl;have:=Us vs s aj fun i U p h1 K=>j (i+1) U p aj aj;simp only[nK,B9];omega
structure yn {H:Type} (yu:DataW H->Nat):Prop where
 one: ∀d,1<=yu d
 slice: ∀els sp,(els.map yu).sum+1<=yu (.slice els sp)
 agg: ∀ps,(ps.map yu).sum<=yu (.agg ps)
 str: ∀b,b.length+1<=yu (.lit (.string b))
def EK{ag:Bool}{cs:List CS}(h:L1 cs xs)(h1:ag=false->cs.length=1):Ur (oO ag xs)=nK xs:=by
 cases ag with
 |true=>rfl
 |false=>
  have l:=tz h;rw[h1 rfl]at l;match xs,l with
  | [x],_=>simp[oO,nK]
section
variable {H:Type} {enc:TypeId×Value->H} {P:Program} {w:World} {spare:Nat->Bool} {held:Bool} {yu:DataW H->Nat}
def W9(w:World):Nat->Prop:=fun b=>b<w.heap.size
theorem zT{I:Nat->Prop}{u:Value}(h1:u.oneCell'=true)(h:dX w I fJ v u):fW w I fJ [v] [u]:=by
 exact⟨u,[],rfl,h1,h,rfl⟩
theorem OL{I:Nat->Prop}: ∀{vs D:List V} {us E:List Value},fW w I fJ vs us->fW w I fJ D E->fW w I fJ (vs++D) (us++E)
 | [],D,us,E,h,h'=>by subst h;grind
 |v::vs,D,us,E,h,h'=>by
  obtain⟨u,r,rfl,h1,K,S⟩:=h;exact⟨u,_,rfl,h1,K,OL S h'⟩
theorem JJ{ag:Bool}{cs:List CS}(h:L1 cs xs)(h1:ag=false->cs.length=1)(k:ag=false-> ∀x∈xs,∀l,x≠ .agg l):(oO ag xs).cells=xs:=by
 cases ag with
 |true=>rfl
 |false=>
  have G:=tz h;rw[h1 rfl]at G;match xs,G,k with
  | [x],_,k=>
   have:=k rfl x ai;cases x<;>first|rfl|grind
theorem Xb{c:CS}(h:uY c v): ∀l,v≠ .agg l:=by
 intro l e;subst e;cases c<;>simp[uY]at h
theorem KE: ∀{cs:List CS} {vs:List V},L1 cs vs-> ∀x∈vs,∀l,x≠ .agg l
 | [],vs,h,x,hx=>by subst h;grind
 |c::cs,vs,h,x,hx=>by
  obtain⟨v,r,rfl,h1,K⟩:=h;rcases List.mem_cons.1 hx with rfl|hx
  .exact Xb h1
  .exact KE K x hx
mutual
theorem L2(B:yn yu): ∀(n Z:Nat) (t:TypeId) (cs:List Value) (x:DataW H×List MemPlace) (ag:Bool) (l:List CS),FD P n t=some (ag,l)->DataW.trod enc P w 0 spare held Z t cs=some x->
  ∃vs,fW w (W9 w) fJ vs cs/\L1 l vs/\nK vs<=yu x.1
 |0,_,_,_,_,_,_,h,_=>by simp[FD]at h
 |n+1,Z,t,cs,x,ag,l,h,hx=>by
  unfold FD at h;split at h
  .rename_i d;obtain⟨rfl,rfl⟩:=h;obtain⟨b,rfl,rfl⟩:=DataW.trod_bool d hx;exact⟨[.bool b],zT rfl a_,by simp[L1,uY],dU⟩
  .rename_i k d;obtain⟨rfl,rfl⟩:=h;obtain⟨m,rfl,rfl,E⟩:=DataW.trod_int d hx;simp only[Lit.wf,X8,decide_eq_true_eq]at E;exact⟨[.int k m],zT rfl a_,by simp[L1,uY,E],dU⟩
  .rename_i d;obtain⟨rfl,rfl⟩:=h;obtain⟨s,rfl,rfl,E⟩:=DataW.trod_string d hx;exact⟨[.str s.data.toList],zT rfl a_,by exact⟨_,_,rfl,⟨_,rfl,bu⟩,rfl⟩,by simpa[nK,Ur] using B.str s.data.toList⟩
  .rename_i e d;split at h
   case h_2=>cases h
   rename_i C le aq;split at h
   case isFalse=>cases h
   rename_i g;obtain⟨rfl,rfl⟩:=h;rcases DataW.trod_slice d hx with⟨rfl,rfl⟩|⟨a,len,cap,els,D,m,_,rfl,rfl,hb,hl,aw,p,au,_,_⟩
   .refine⟨[.sl false []],zT rfl ?_,?_,dU⟩
    .simp only[dX]
     grind
    .exact⟨_,_,rfl,⟨[],rfl,ai,ai⟩,rfl⟩
   .have key: ∀i,i<len-> ∃vs z,w.cells? 0 (a.add (i*P.cellsOf e)) (P.cellsOf e)=some z/\fW w (W9 w) fJ vs z/\L1 le vs/\ ∀y,els[i]?=some y->nK vs<=yu y.1:=by
     intro i o;have:=au i o;have hs: ∃y,els[i]?=some y:=⟨els[i],ai⟩;obtain⟨y,G⟩:=hs;rw[G]at this;cases A:w.cells? 0 (a.add (i*P.cellsOf e)) (P.cellsOf e) with
     |none=>grind
     |some z=>
      simp only[A,zG]at this;obtain⟨vs,h1,K,S⟩:=L2 B n m e z y C le aq this
      grind
    let f:Nat->V:=fun i=>if o:i<len then oO C (Classical.choose (key i o)) else .bad
    have L: ∀i (o:i<len),f i=oO C (Classical.choose (key i o)):=fun i o=>aj
    have an:((List.range len).map f).length=len:=ai
    refine⟨[.sl false ((List.range len).map f)],zT rfl ?_,?_,?_⟩
    .refine⟨some a,cap,aj,ab,aw,(fun hh=>aj),?_⟩;by_cases h0:len=0
     .grind
     .have ho: ∃u,w.cell? a=some u:=by
       obtain⟨vs,z,A,h1,K,_⟩:=key 0 ab;obtain⟨_,mm,O⟩:=World.cells?_some A;have:=O 0 ab;simp only[yo]at this;rw[show(a.add 0).add 0=a by simp[Addr.add]]at this;have ae:0<z.length:=ab
       exact⟨z[0],aj⟩
      obtain⟨cQ,r⟩:=ho;have Y:a.spot=none:=by
       unfold World.cell? at r;split at r
       .simp_all
       .grind
      have M:a.block<w.heap.size:=by
       unfold World.cell? at r;split at r
       .grind
       .grind
      obtain⟨aa,ht,hk⟩:=a;subst Y;refine .inr ⟨aa,ht,le.length,rfl,M,?_⟩;rw[l7];intro i v q;have o:i<len:=by
       have:=(List.getElem?_eq_some_iff.1 q).1;exact ns
      have N:v=f i:=by
       exact pV
      obtain⟨z,A,h1,K,_⟩:=DU (key i o);have hp:v.cells=Classical.choose (key i o):=by
       rw[N,L i o];exact JJ K g.2.2 (fun _=>KE K)
      rw[hp];refine⟨tz K,?_⟩;intro j c R;rw[ez]at h1;obtain⟨_,mm,O⟩:=World.cells?_some A;have ak:j<z.length:=by
       have:=(List.getElem?_eq_some_iff.1 R).1;omega
      have X:=O j ab;have W:z[j]?=some z[j]:=ai
      refine⟨z[j],?_,h1.2 j c _ R W⟩;rw[<-W,<-X,rf,rf,g.1]
    .refine⟨_,_,rfl,⟨_,rfl,ab,?_⟩,rfl⟩;intro v q;obtain⟨i,o,rfl⟩:=List.mem_map.1 q;have Q:i<len:=by simpa using o
     obtain⟨z,A,h1,K,_⟩:=DU (key i Q);exact⟨_,L i Q,K⟩
    .have hn:nK ((List.range len).map f)<=((els.map (·.1)).map yu).sum:=by
      refine Us _ _ (by simp[p]) fun i v y q G=> ?_;have o:i<len:=by
       have:=(List.getElem?_eq_some_iff.1 q).1;exact ns
      have N:v=f i:=by
       exact pV
      obtain⟨z,A,h1,K,S⟩:=DU (key i o);rw[N,L i o,EK K g.2.2];have U:els[i]?=some (els[i]' ab):=by simp[p,o]
      rw[tm,tm,U]at G;simp only[ue,aS]at G;subst G;exact S _ U
     have:=B.slice (els.map (·.1)) (D.map (·.1));simp only[nK,Ur];omega
  .rename_i J d;split at h
   case h_2=>cases h
   rename_i hr F;split at h
   case isFalse=>cases h
   rename_i hg;simp only[aS,cy]at h;obtain⟨rfl,rfl⟩:=h;obtain⟨T,m,_,rfl,p,_,I⟩:=DataW.trod_struct d hx;obtain⟨vs,h1,K,S⟩:=Ut B n m cs T 0 0 J.toList hr F (by
    intro i f L;have:=I i f (by simpa using L);simpa using this) (by
    intro i o;have e1:J[i]?=some J[i]:=by simp at o;simp[o]
    have:i<T.length:=by simp at o;omega
    simp[this])
   have kz:=tz K;rw[zy,<-kz]at h1;rw[show vs.length=cs.length from ab,un]at h1;refine⟨vs,h1,K,r4 S (r4 ?_ (B.agg _))⟩;simp[w3,Function.comp_def]
  .cases h
theorem Ut (B:yn yu): ∀(n m:Nat) (cs:List Value) (xs:List (DataW H×List MemPlace)) (o k:Nat) (s:List Field) (l:List CS),W8 P n o s=some l->
  (∀(i:Nat) (f:Field),s[i]?=some f->DataW.trod enc P w 0 spare held m f.type ((cs.drop f.offset).take (P.cellsOf f.type))=xs[k+i]?)->(∀i,i<s.length->(xs[k+i]?).isSome=true)->
  ∃vs,fW w (W9 w) fJ vs ((cs.drop o).take l.length)/\L1 l vs/\nK vs<=((xs.drop k).map fun y=>yu y.1).sum
 |0,_,_,_,_,_,_,_,h,_,_=>by simp[W8]at h
 |n+1,m,cs,xs,o,k,[],l,h,_,_=>by
  simp only[W8,aS]at h;subst h;exact⟨[],f_,rfl,by simp[nK]⟩
 |n+1,m,cs,xs,o,k,f::s,l,h,L,K=>by
  simp only[W8]at h;split at h
  case h_2=>cases h
  rename_i ag e r c C;split at h
  case isFalse=>cases h
  rename_i U;simp only[aS]at h;subst h;have h0:=L 0 f ai;have j:=K 0 ai;obtain⟨y,G⟩:=Option.isSome_iff_exists.1 j;rw[G]at h0;obtain⟨vs,h1,M,t⟩:=L2 B n m f.type _ y ag e c h0;obtain⟨D,S,a,q⟩:=Ut B n m cs xs (o+P.cellsOf f.type) (k+1) s r C (by
   intro i g T;have:=L (i+1) g aj
   grind) (by
   intro i p;have:=K (i+1) aj
   grind)
  have d:xs.drop k=y::xs.drop (k+1):=by
   obtain⟨z,rfl⟩:=List.getElem?_eq_some_iff.1 G;exact w6 z
  refine⟨vs++D,?_,Hu M a,by rw[EH,d,r2,B9];omega⟩;rw[U.1,U.2]at h1;rw[U.2]at S;have:(cs.drop o).take (e++r).length=(cs.drop o).take e.length++(cs.drop (o+e.length)).take r.length:=by
   rw[ta,List.take_add,BA]
  rw[this];exact OL h1 S
end
end
def vn:List (Bool×List CS)->List V->Prop
 | [],bxb=>bxb=[]
 |s::ss,bxb=> ∃x r,bxb=oO s.1 x::r/\L1 s.2 x/\vn ss r
def yv(P:Program):List TypeId->Option (List (Bool×List CS))
 | []=>some []
 |t::q=>match FD P 80 t,yv P q with
  |some s,some r=>some (s::r)
  |_,_=>none
def Hv(P:Program)(t:TypeId):Bool:=P.readableRec t&&decide (t<P.types.size)
section
variable {H:Type} {enc:TypeId×Value->H} {P:Program} {w:World}
theorem OM{l:List CS}(h:FD P n t=some (false,l)){v:Value}(i:Value.okWide P w .any base t v):v.cells.toList=[v]/\l.length=1:=by
 cases n with
 |zero=>simp[FD]at h
 |succ n=>
  unfold FD at h;unfold Value.okWide at i;split at h
  .rename_i u;exact j0
  .rename_i k u;exact j0
  .rename_i u;exact j0
  .rename_i e u;split at h
   case h_2=>cases h
   split at h
   case isFalse=>cases h
   exact j0
  .grind
  grind
theorem aei{l:List CS}(h:FD P n t=some (true,l)){v:Value}(i:Value.okWide P w .any base t v): ∃us,v= .agg us:=by
 cases n with
 |zero=>simp[FD]at h
 |succ n=>
  unfold FD at h;unfold Value.okWide at i
  grind
theorem ON{yu:DataW H->Nat}(B:yn yu){y:Bool}: ∀(ts:List TypeId) (vs:List Value) (i:List (DataW H)) (ps:List MemPlace) (ss:List (Bool×List CS)) (base:Nat),yv P ts=some ss->
  (∀(j:Nat) t v,ts[j]?=some t->vs[j]?=some v->Value.okWide P w .any base t v)->DataW.TrodAll enc P w 0 (fun _=>true) y ts vs i ps->
  ∃bxb,iT w (W9 w) fJ bxb vs/\vn ss bxb/\nK bxb<=(i.map yu).sum
 | [],vs,i,ps,ss,base,h,_,A=>by
  obtain⟨rfl,rfl,_⟩:=trodAll_nil A;simp only[yv,aS]at h;subst h;exact⟨[],fL,rfl,by simp[nK]⟩
 |t::ts,vs,i,ps,ss,base,h,k,A=>by
  obtain⟨v,D,d,V,p,q,rfl,rfl,rfl,h0,E⟩:=trodAll_cons A;simp only[yv]at h;split at h
  case h_2=>cases h
  rename_i s r K m;simp only[aS]at h;subst h;obtain⟨bxb,W,o,a⟩:=ON B ts D V q r base m (fun j G U h1 L=>k (j+1) G U aj aj) E;obtain⟨f,M⟩:=h0;have C:=k 0 t v rfl rfl;obtain⟨ag,l⟩:=s;obtain⟨S,h1,L,T⟩:=L2 B 80 f t _ _ ag l K M;have O:Ur (oO ag S)=nK S:=EK L fun e=>by subst e;exact(OM K C).2
  refine⟨oO ag S::bxb,?_,by exact⟨S,bxb,rfl,L,o⟩,by simp only[nK,r2,B9,O];grind⟩;refine⟨v,D,rfl,?_,W⟩;cases ag with
  |true=>
   obtain⟨z,rfl⟩:=aei K C;exact⟨z,rfl,h1⟩
  |false=>
   obtain⟨c,I⟩:=OM K C;rw[c]at h1;have hx:=tz L;match S,hx with
   | [x],_=>
    obtain⟨u,r',F,_,X,_⟩:=h1;obtain⟨rfl,_⟩:=F;exact X
theorem trod_stays(l:laidOutB P=true){W L:World}(b:Below W.heap.size W L){sp:Nat->Bool}: ∀(ts:List TypeId) (vs:List Value) (s:List (DataW H)) (ps:List MemPlace),ts.all (Hv P)=true->
  DataW.TrodAll enc P W 0 (fun _=>true) true ts vs s ps->(∀p∈ps,p.block<W.heap.size)->(∀p∈ps,sp p.block=true)->DataW.TrodAll enc P L 0 sp true ts vs s ps
 | [],vs,s,ps,_,A,_,_=>by
  obtain⟨rfl,rfl,rfl⟩:=trodAll_nil A;exact rfl
 |t::ts,vs,s,ps,h,A,i,Y=>by
  obtain⟨v,D,d,V,p,q,rfl,rfl,rfl,h0,r⟩:=trodAll_cons A;simp only[vA,Hv,X8,decide_eq_true_eq]at h;refine⟨p,q,WideElems.Trod_stays l h.1.1 h.1.2 h0 (fun x hx=>b.same (i x aj)) (fun x hx=>Y x aj),trod_stays l b ts D V q aj r (fun x hx=>i x aj) (fun x hx=>Y x aj),rfl⟩
end
structure OO (P:Program) (f:Func) (ss:List (Bool×List CS)) (tb:TypeId):Prop where
 laid:laidOutB P=true
 read:f.params.toList.all (Hv P)=true
 wN:yv P f.params.toList=some ss
 res:f.resultTypes= #[tb]
 bool:P.underlying tb=some .bool
def CZ {X:Env} (T:sb X (df X)) {g:FuncId} {f:Func} {ss:List (Bool×List CS)}  (L:OO X.P f ss tb) {s:ChangeSpec} (z:s.vars=[])
  (N: ∀(H:Type) (i:List (DataW H)),i.length=f.params.size->s.fn H i={results:=[.lit (.bool true)],args:=i})
  (H:Type) (yu:DataW H->Nat) (U:yn yu) (enc:TypeId×Value->H) (W:World) (base:Nat) (args:Array Value) (i D:List (DataW H)) (o:List MemPlace)
  (he: ∀(j:Nat) t v,f.params[j]?=some t->args[j]?=some v->Value.okWide X.P W .any base t v)
  (y:DataW.Whole enc X.P f.params.toList s.vars false W args.toList i D o) (R:Lt W (W9 W))
  (J: ∀bxb,vn ss bxb->nK bxb<=(i.map yu).sum-> ∃h k,df X g bxb kC 0=some (.bool true,h,k)):
  Calls X.P g args W fun e M=> ∃v,e= .returned v/\s.post enc X.P f false true false false W args v M:=by
 have S:=y.lt;have x:=y;obtain⟨p,q,A,V,rfl,hc,P⟩:=y;rw[z]at V;have O:D=[]/\q=[]:=by
  cases D with
  |nil=>exact⟨rfl,V⟩
  |cons _ _=>simp[DataW.TrodVars]at V
 obtain⟨rfl,rfl⟩:=O;obtain⟨bxb,G,K,Y⟩:=ON U f.params.toList args.toList i p ss base L.wN (fun j t v h1 h2=>he j t v aj aj) A;obtain⟨h',k',F⟩:=J bxb K Y;refine(T g bxb kC 0 (.bool true) h' k' F W (W9 W) fJ args (Rel.kC (fun b w=>w) R) (fun _ _=>⟨rfl,rfl⟩) G).mono fun e M c=> ?_;obtain⟨u,I',σ',rfl,Q,I,Z,C⟩:=c;have st:=I.step (fun _ _=>⟨rfl,rfl⟩) Z Q;subst C;have a:Below W.heap.size W M:=⟨st.os,st.tape,st.output,st.size,fun b w=>st.frame b w sc⟩;have hi: ∀(r:List TypeId) (vs:List Value) (i:List (DataW H)) (ps:List MemPlace),DataW.TrodAll enc X.P W 0 (fun _=>true) true r vs i ps->i.length=r.length:=by
  intro r;induction r with
  |nil=>
   intro vs i ps h;obtain⟨_,rfl,_⟩:=trodAll_nil h;rfl
  |cons t r ih=>
   intro vs i ps h;obtain⟨v,aq,d,hx,p,q,rfl,rfl,rfl,_,C⟩:=trodAll_cons h
   grind
 have E:i.length=f.params.size:=by rw[hi _ _ _ _ A];simp
 have n:=N H (i++ []) aj;have l: ∀m∈p++ [],(fun b=>decide (b<W.heap.size)) m.block=true:=fun m B=>aj
 refine⟨_,rfl,i,[],p++ [],[],p,[],x,?_,?_,?_,World.keptBut_mono (fun m B=>⟨B,.inr (.inl aj)⟩) (a.frame (· ∈p++ [])),fun h=>bF⟩
 .rw[n,L.res];exact trodAll_cons_mk (shut_bool L.bool _) trodAll_mk0
 .rw[n];simp only[u_]at S l⊢;exact trod_stays L.laid a _ _ _ _ L.read A S l
 .rw[n,z];rfl
end Go.Abs
