/- Part of a proof: engine B5. -/
import Derived.Test.YtejohpnpnaljdaaGreatM07
import Derived.Orders
set_option linter.all false
set_option maxRecDepth 20000
set_option maxHeartbeats 20000000
namespace Go.Abs
open Go
def Sc(L:List Oper):List (List Nat):=
 L.foldl (fun acc o=>acc++ [((o.after.toList.filter (Region.binds .any)).flatMap fun e=>e.on::acc.getD e.on []).eraseDups]) []
def wr(cl:List Nat)(p:Nat):Bool:=cl.getD p 0==3
def aat(cl:List Nat)(B:List (List Nat))(j p:Nat):Bool:=
 (List.range cl.length).all fun w=> !wr cl w||((!(B.getD j []).contains w||decide (w<p))&& (!(B.getD w []).contains j||decide (p<=w)))
def ak1(cl:List Nat)(B:List (List Nat))(j p:Nat):Bool:=
 decide (p<=j)&& (List.range cl.length).all fun w=>(!wr cl w||(decide (w<j)==decide (w<p)))&& (!(cl.getD w 0==2&&decide (p<=w)&&decide (w<j))||(B.getD j []).contains w)
def jD(X:Env)(bO:FuncId)(id:Nat)(ops:Array Oper):Bool:=
 let L:=ops.toList;let B:=Sc L;let cl:=L.map (cls X bO);let ds:=L.map (·.dst)
 X.P.follows .mixedOrders&&
 (List.range L.length).all fun j=>
  match L[j]? with
  |none=>true
  |some o=>
   let bj:=B.getD j []
   (o.after.toList.all fun e=> !Region.binds .any e||decide (e.on<j))&&
   (bj.all fun i=>decide (i<j)&&o.after.toList.any fun e=>Region.binds .any e&& (e.on==i||(B.getD e.on []).contains i))&&
   ((List.range j).all fun i=>(ds.getD i none==none||ds.getD i none !=o.dst)&&
    (!(wr cl j&&decide (2<=cl.getD i 0))||bj.contains i))&&
   ((o.looksAt ops).all fun t=>(List.range L.length).all fun k=>ds.getD k none !=some t||bj.contains k||((B.getD k []).contains j&& !(X.rq bO id).any fun q=>q.1==j))&&
   (!(cl.getD j 0==1)||(List.range (L.length+1)).all fun p=> !(p==0||wr cl (p-1))|| !aat cl B j p||ak1 cl B j p||(X.rq bO id).contains (j,p))
structure aau (X:Env) (bO:FuncId) (id:Nat) (ops:Array Oper) (B:Nat->List Nat):Prop where
 mixed:X.P.follows .mixedOrders=true
 asu: ∀j o e,ops.toList[j]?=some o->e∈o.after->Region.binds .any e=true->e.on<j
 lt: ∀j i,j<ops.size->i∈B j->i<j
 bef: ∀j o i,ops.toList[j]?=some o->i∈B j-> ∃e∈o.after,Region.binds .any e=true/\(e.on=i\/i∈B e.on)
 dst: ∀(i j:Nat) oi oj t,i<j->ops.toList[i]?=some oi->ops.toList[j]?=some oj->oi.dst=some t->oj.dst≠some t
 looks: ∀(j k:Nat) o ok t,ops.toList[j]?=some o->ops.toList[k]?=some ok->ok.dst=some t->t∈o.looksAt ops->k∈B j\/(j∈B k/\ ∀p,(j,p)∉X.rq bO id)
 ww: ∀(i j:Nat) oi oj,i<j->ops.toList[i]?=some oi->ops.toList[j]?=some oj->cls X bO oj=3->2<=cls X bO oi->i∈B j
 reads: ∀(j p:Nat) o,ops.toList[j]?=some o->cls X bO o=1->p<=ops.size->(p=0\/ ∃ow,ops.toList[p-1]?=some ow/\cls X bO ow=3)->
  (∀(w:Nat) ow,ops.toList[w]?=some ow->cls X bO ow=3->(w∈B j->w<p)/\(j∈B w->p<=w))->
  (p<=j/\ ∀(w:Nat) ow,ops.toList[w]?=some ow->(cls X bO ow=3->(w<j↔w<p))/\(cls X bO ow=2->p<=w->w<j->w∈B j))\/(j,p)∈X.rq bO id
theorem zn{X:Env}{bO:FuncId}{L:List Oper}{j:Nat}{o:Oper}(h:L[j]?=some o):(L.map (cls X bO)).getD j 0=cls X bO o:=by
 simp[List.getD_eq_getElem?_getD,h]
theorem Sd{L:List Oper}{j:Nat}{o:Oper}(h:L[j]?=some o):(L.map (·.dst)).getD j none=o.dst:=by
 simp[List.getD_eq_getElem?_getD,h]
theorem Kq{X:Env}{bO:FuncId}{id:Nat}{ops:Array Oper}(h:jD X bO id ops=true):aau X bO id ops (fun j=>(Sc ops.toList).getD j []):=by
 unfold jD at h;simp only[Bool.and_eq_true]at h;obtain⟨hm,h⟩:=h;generalize Sc ops.toList=B at*;have hj: ∀(j:Nat) o,ops.toList[j]?=some o->_:=fun j o ho=>by
  have eX:j<ops.toList.length:=(List.getElem?_eq_some_iff.1 ho).1;have:=List.all_eq_true.1 h j (List.mem_range.2 eX);simp only[ho,Bool.and_eq_true]at this;exact this
 have hlen:ops.toList.length=ops.size:=Array.length_toList;refine⟨hm,fun j o e ho he hb=> ?_,fun j i Fq hi=> ?_,fun j o i ho hi=> ?_,fun i j oi oj t jk hoi hoj MP hdj=> ?_,fun j k o ok t ho ju hd hl=> ?_,fun i j oi oj jk hoi hoj h3 h2=> ?_,fun j p o ho hc hp hw hf=> ?_⟩
 ·have:=List.all_eq_true.1 (hj j o ho).1.1.1.1 e (by simpa using he);simpa[hb] using this
 ·have ho:ops.toList[j]?=some ops.toList[j]:=List.getElem?_eq_getElem (by omega);have:=List.all_eq_true.1 (hj j _ ho).1.1.1.2 i hi;simp only[Bool.and_eq_true,decide_eq_true_eq]at this;exact this.1
 ·have:=List.all_eq_true.1 (hj j o ho).1.1.1.2 i hi;simp only[Bool.and_eq_true,decide_eq_true_eq,List.any_eq_true,Bool.or_eq_true,beq_iff_eq,List.contains_iff_mem]at this;obtain⟨_,e,he,hb,Rn⟩:=this;exact⟨e,by simpa using he,hb,Rn⟩
 ·have:=List.all_eq_true.1 (hj j oj hoj).1.1.2 i (List.mem_range.2 jk);simp only[Bool.and_eq_true,Sd hoi]at this;have h1:=this.1;rw[MP,hdj]at h1;simp at h1
 ·have hk:k<ops.toList.length:=(List.getElem?_eq_some_iff.1 ju).1;have:=List.all_eq_true.1 (List.all_eq_true.1 (hj j o ho).1.2 t hl) k (List.mem_range.2 hk);rw[Sd ju,hd]at this;simp only[bne_self_eq_false,Bool.false_or,Bool.or_eq_true,Bool.and_eq_true,Bool.not_eq_true',List.contains_iff_mem,List.any_eq_false,beq_iff_eq]at this;rcases this with h1|⟨h1,h2⟩
  ·exact .inl h1
  ·exact .inr ⟨h1,fun p hp=>h2 (j,p) hp rfl⟩
 ·have:=List.all_eq_true.1 (hj j oj hoj).1.1.2 i (List.mem_range.2 jk);simp only[Bool.and_eq_true,wr,zn hoi,zn hoj,h3]at this;have h1:=this.2;simpa[h2] using h1
 ·have:=(hj j o ho).2;simp only[zn ho,hc,beq_self_eq_true,Bool.not_true,Bool.false_or]at this;have:=List.all_eq_true.1 this p (List.mem_range.2 (by omega));simp only[Bool.or_eq_true,Bool.not_eq_true',List.contains_iff_mem]at this;rcases this with((h1|h1)|h1)|h1
  ·exfalso;rw[Bool.or_eq_false_iff]at h1;rcases hw with rfl|⟨ow,xD,h3⟩
   ·simp at h1
   ·have:=h1.2;unfold wr at this;rw[zn xD,h3]at this;cases this
  ·exfalso;rw[<-Bool.not_eq_true]at h1;apply h1;unfold aat;rw[List.all_eq_true];intro w QL;rw[List.mem_range,List.length_map]at QL;have xD:ops.toList[w]?=some ops.toList[w]:=List.getElem?_eq_getElem QL;have hfw:=hf w _ xD;simp only[wr,zn xD,Bool.or_eq_true,Bool.not_eq_true',beq_eq_false_iff_ne,Bool.and_eq_true,decide_eq_true_eq];by_cases Kn:cls X bO ops.toList[w]=3
   ·right;obtain⟨g1,g2⟩:=hfw Kn;refine⟨?_,?_⟩
    ·by_cases MK:w∈B.getD j []
     ·exact .inr (g1 MK)
     ·left;simpa[List.contains_iff_mem] using MK
    ·by_cases MK:j∈B.getD w []
     ·exact .inr (g2 MK)
     ·left;simpa[List.contains_iff_mem] using MK
   ·left;exact Kn
  ·left;unfold ak1 at h1;simp only[Bool.and_eq_true,decide_eq_true_eq]at h1;refine⟨h1.1,fun w ow xD=> ?_⟩;have hwl:w<ops.toList.length:=(List.getElem?_eq_some_iff.1 xD).1;have:=List.all_eq_true.1 h1.2 w (List.mem_range.2 (by simpa using hwl));simp only[Bool.and_eq_true,wr,zn xD,Bool.or_eq_true,Bool.not_eq_true']at this;refine⟨fun h3=> ?_,fun h2 Dt A9=> ?_⟩
   ·have:=this.1;simp only[h3,beq_self_eq_true,Bool.true_eq_false,false_or,beq_iff_eq,decide_eq_decide]at this;exact this
   ·have:=this.2;simpa[h2,Dt,A9] using this
  ·exact .inr h1
structure Tr (X:Env) (C:iz) (bO:FuncId) (id:Nat) (ops:Array Oper) (S F:St) (T:Nat->St) (B:Nat->List Nat):Prop where
 draw:aau X bO id ops B
 news:ox X C
 pZ:mu X C
 t0:T 0={S with n:=S.n+ops.size}
 tN:T ops.size=F
 step: ∀(k:Nat) o,ops.toList[k]?=some o->stepG X C bO (ops.toList.map (·.dst)) S.n k o (T k)=some (T (k+1))
 pre: ∀p,p<=ops.size->eu X C bO (ops.toList.map (·.dst)) S.n 0 (ops.toList.take p) {S with n:=S.n+ops.size}=some (T p)
 asw:jA X C bO ops.toList S.n {S with n:=S.n+ops.size} F (X.rq bO id)
 fresh: ∀i,S.n<=i->S.h i=none
section
variable {X:Env} {C:iz} {bO:FuncId} {id:Nat} {ops:Array Oper} {S F:St} {T:Nat->St} {B:Nat->List Nat}
theorem Ee{k:Nat}(hk:k<ops.size):ops.toList[k]?=some ops.toList[k]:=List.getElem?_eq_getElem (by simpa using hk)
theorem B0{k:Nat}{o:Oper}(h:ops.toList[k]?=some o):k<ops.size:=by
 have:=(List.getElem?_eq_some_iff.1 h).1;simpa using this
theorem Tr.XC(t:Tr X C bO id ops S F T B): ∀k,k<=ops.size->S.n+ops.size<=(T k).n
 |0,_=>by rw[t.t0];exact Nat.le_refl _
 |k+1,hk=>by
  have h1:=t.XC k (by omega);have:=(aas t.news (t.step k _ (Ee (by omega)))).1;omega
theorem Tr.wX(t:Tr X C bO id ops S F T B): ∀m q,m<=q->q<ops.size->(T m).h (S.n+q)=none
 |0,q,_,hq=>by rw[t.t0];exact t.fresh _ (by omega)
 |m+1,q,hm,hq=>by
  have h1:=t.wX m q (by omega) hq;have h2:=t.XC m (by omega);exact(aas t.news (t.step m _ (Ee (by omega)))).2 _ (by omega) (by omega) h1
theorem Se{S:St}{d:Option Nat}{v:V}{t:Nat}(h:d≠some t):(S.set d v).f t=S.f t:=by
 cases d with
 |none=>rfl
 |some x=>
  have:t≠x:=fun e=>h (by rw[e]);simp[St.set,aO,this]
theorem Kr{S:St}{d:Option Nat}{v:V}{t:Nat}(h:d=some t):(S.set d v).f t=v:=by
 subst h;simp[St.set,aO]
theorem Tr.aef(t:Tr X C bO id ops S F T B){k:Nat}{o:Oper}(ho:ops.toList[k]?=some o){x:Nat}(hd:o.dst≠some x):(T (k+1)).f x=(T k).f x:=by
 obtain⟨v,h1,_⟩:=Kk (t.step k o ho);rw[h1,Se hd]
theorem Tr.Ba(t:Tr X C bO id ops S F T B){x:Nat}{i:Nat}: ∀m,i<=m->m<=ops.size->(∀k o,i<=k->k<m->ops.toList[k]?=some o->o.dst≠some x)->(T m).f x=(T i).f x
 |0,hi,_,_=>by rw[show i=0 by omega]
 |m+1,hi,hm,hk=>by
  by_cases he:i=m+1
  ·rw[he]
  ·rw[t.aef (Ee (by omega)) (hk m _ (by omega) (by omega) (Ee (by omega)))];exact t.Ba m (by omega) (by omega) fun k o h1 h2 h3=>hk k o h1 (by omega) h3
theorem Tr.MQ(t:Tr X C bO id ops S F T B){k:Nat}{o:Oper}(ho:ops.toList[k]?=some o){x:Nat}(hd:o.dst=some x): ∀m,k<m->m<=ops.size->(T m).f x=F.f x:=by
 intro m hm hms;have hk:=B0 ho;have key: ∀m,k<m->m<=ops.size->(T m).f x=(T (k+1)).f x:=fun m hm hms=>t.Ba m (by omega) hms fun i oi h1 h2 h3=>t.draw.dst k i o oi x (by omega) ho h3 hd;rw[<-t.tN,key m hm hms,key ops.size hk (Nat.le_refl _)]
theorem Tr.Ks(t:Tr X C bO id ops S F T B){x:Nat}(hx: ∀(k:Nat) o,ops.toList[k]?=some o->o.dst≠some x): ∀m,m<=ops.size->(T m).f x=S.f x:=by
 intro m hm;rw[t.Ba (i:=0) m (by omega) hm fun k o _ _ h=>hx k o h,t.t0]
theorem Tr.quiet(t:Tr X C bO id ops S F T B){p:Nat}: ∀m,p<=m->m<=ops.size->(∀k o,p<=k->k<m->ops.toList[k]?=some o->cls X bO o≠3)->
  (T m).n=(T p).n/\(∀i,(∀(k:Nat) o,p<=k->k<m->ops.toList[k]?=some o->cls X bO o=2->i≠S.n+k)->(T m).h i=(T p).h i)/\
   (∀(k:Nat) o,p<=k->k<m->ops.toList[k]?=some o->cls X bO o=2->(T m).h (S.n+k)=(T (k+1)).h (S.n+k))
 |0,hp,_,_=>by
  rw[show p=0 by omega];exact⟨rfl,fun _ _=>rfl,fun k o h1 h2=>by omega⟩
 |m+1,hp,hm,hw=>by
  by_cases he:p=m+1
  ·rw[<-he];exact⟨rfl,fun _ _=>rfl,fun k o h1 h2=>by omega⟩
  ·obtain⟨h1,h2,h3⟩:=t.quiet m (by omega) (by omega) fun k o g1 g2 g3=>hw k o g1 (by omega) g3;have ho:=Ee (ops:=ops) (k:=m) (by omega);have iZ:=t.step m _ ho;generalize ops.toList[m]=o at*;have Kn:=hw m o (by omega) (by omega) ho;have mM:cls X bO o=0\/cls X bO o=1\/cls X bO o=2:=by
    have:cls X bO o<=3:=by
     unfold cls;repeat' split
     all_goals omega
    omega
   have same:(cls X bO o=0\/cls X bO o=1)->(T (m+1)).h=(T m).h/\(T (m+1)).n=(T m).n:=by
    rintro(hc|hc)
    ·obtain⟨v,e,_⟩:=R6 hc iZ;rw[e,dJ,fa];exact⟨rfl,rfl⟩
    ·obtain⟨v,e,_⟩:=R7 hc iZ;rw[e,dJ,fa];exact⟨rfl,rfl⟩
   by_cases yV:cls X bO o=2
   ·obtain⟨v,ob,e,_⟩:=R8 yV iZ;have hn:(T (m+1)).n=(T m).n:=by rw[e,fa]
    have hh: ∀i,i≠S.n+m->(T (m+1)).h i=(T m).h i:=by
     intro i hi;rw[e,dJ];cases ob with
     |none=>rfl
     |some ob=>simp[x8,aO,hi]
    refine⟨by rw[hn,h1],fun i hi=> ?_,fun k ok g1 g2 g3 g4=> ?_⟩
    ·rw[hh i (hi m o (by omega) (by omega) ho yV)];exact h2 i fun k ok g1 g2 g3 g4=>hi k ok g1 (by omega) g3 g4
    ·by_cases hkm:k=m
     ·rw[hkm]
     ·rw[hh _ (by omega)];exact h3 k ok g1 (by omega) g3 g4
   ·obtain⟨e1,e2⟩:=same (by omega);refine⟨by rw[e2,h1],fun i hi=> ?_,fun k ok g1 g2 g3 g4=> ?_⟩
    ·rw[e1];exact h2 i fun k ok g1 g2 g3 g4=>hi k ok g1 (by omega) g3 g4
    ·by_cases hkm:k=m
     ·exfalso;apply yV;rw[hkm]at g3;have e3:some o=some ok:=ho.symm.trans g3;simp only[au]at e3;rw[e3];exact g4
     ·rw[e1];exact h3 k ok g1 (by omega) g3 g4
end
open Classical in
noncomputable def SE(X:Env)(bO:FuncId)(ops:Array Oper)(S F:St)(T:Nat->St)(E:Nat->Prop)(p:Nat):St:=
 {f:=fun x=>if∃k o,E k/\ops.toList[k]?=some o/\o.dst=some x then F.f x else S.f x
  h:=fun i=>if∃k o,i=S.n+k/\ops.toList[k]?=some o/\cls X bO o=2/\E k/\p<=k then(T (i-S.n+1)).h i else(T p).h i
  n:=(T p).n}
structure Wn (X:Env) (bO:FuncId) (ops:Array Oper) (B:Nat->List Nat) (E:Nat->Prop) (p:Nat):Prop where
 lt: ∀k,E k->k<ops.size
 closed: ∀k,E k-> ∀i∈B k,E i
 le:p<=ops.size
 last:p=0\/ ∃o,ops.toList[p-1]?=some o/\cls X bO o=3
 iff: ∀(w:Nat) o,ops.toList[w]?=some o->cls X bO o=3->(E w↔w<p)
section
variable {X:Env} {C:iz} {bO:FuncId} {id:Nat} {ops:Array Oper} {S F:St} {T:Nat->St} {B:Nat->List Nat} {E:Nat->Prop} {p j:Nat} {o:Oper}
theorem Bb(t:Tr X C bO id ops S F T B)(g:Wn X bO ops B E p)(ho:ops.toList[j]?=some o)(hb: ∀i∈B j,E i)(hnj: ¬E j){x:Nat}(hx:x∈o.looksAt ops):
  (SE X bO ops S F T E p).f x=(T j).f x/\((∃p,(j,p)∈X.rq bO id)->F.f x=(T j).f x):=by
 have hj:=B0 ho;by_cases hk: ∃(k:Nat) (ok:Oper),ops.toList[k]?=some ok/\ok.dst=some x
 ·obtain⟨k,ok,ju,hd⟩:=hk;rcases t.draw.looks j k o ok x ho ju hd hx with hkb|⟨hjb,iK⟩
  ·have Wo:=t.draw.lt j k hj hkb;have hf:=t.MQ ju hd j Wo (by omega);refine⟨?_,fun _=>hf.symm⟩;simp only[SE];rw[if_pos ⟨k,ok,hb k hkb,ju,hd⟩,hf]
  ·have hjk:=t.draw.lt k j (B0 ju) hjb;have only: ∀(i:Nat) oi,ops.toList[i]?=some oi->oi.dst=some x->i=k:=by
    intro i oi hi MP;rcases Nat.lt_trichotomy i k with h|h|h
    ·exact absurd hd (t.draw.dst i k oi ok x h hi ju MP)
    ·exact h
    ·exact absurd MP (t.draw.dst k i ok oi x h ju hi hd)
   refine⟨?_,fun⟨p,hp⟩=>absurd hp (iK p)⟩;have h1:(T j).f x=S.f x:=by
    rw[t.Ba (i:=0) j (by omega) (by omega) fun i oi _ h2 h3 h4=>by have:=only i oi h3 h4;omega,t.t0]
   simp only[SE];rw[if_neg,h1];rintro⟨i,oi,hE,hi,MP⟩;rw[only i oi hi MP]at hE;exact hnj (g.closed k hE j hjb)
 ·have hn: ∀(k:Nat) ok,ops.toList[k]?=some ok->ok.dst≠some x:=fun k ok h1 h2=>hk ⟨k,ok,h1,h2⟩;have h1:=t.Ks hn j (by omega);have h2:=t.Ks hn ops.size (Nat.le_refl _);rw[t.tN]at h2;refine⟨?_,fun _=>by rw[h1,h2]⟩;simp only[SE];rw[if_neg (fun⟨k,ok,_,h2,h3⟩=>hk ⟨k,ok,h2,h3⟩),h1]
theorem Ef{y:Operand}{x:Nat}(hy:y∈o.op.operands.toList)(e:y= .tmp x):x∈o.looksAt ops:=by
 subst e;exact List.mem_append_left _ (List.mem_filterMap.2 ⟨.tmp x,hy,rfl⟩)
theorem z9{i d:Nat}{want:Bool}(hg:o.guard=some (i,want))(hd:(ops.toList.map (·.dst))[i]?=some (some d)):d∈o.looksAt ops:=by
 refine List.mem_append_right _ ?_;rw[List.getElem?_map,Array.getElem?_toList]at hd;cases ho:ops[i]? with
 |none=>simp[ho]at hd
 |some x=>
  simp[ho]at hd;simp[hg,ho,hd]
theorem XD(t:Tr X C bO id ops S F T B)(g:Wn X bO ops B E p)(ho:ops.toList[j]?=some o)(hb: ∀i∈B j,E i)(hnj: ¬E j):Ds (ops.toList.map (·.dst)) o (T j) (SE X bO ops S F T E p):=by
 refine⟨fun y hy=> ?_,fun i want d hg hd=>(Bb t g ho hb hnj (z9 hg hd)).1⟩;cases y with
 |tmp x=>exact(Bb t g ho hb hnj (Ef hy rfl)).1
 |_=>rfl
theorem Ht(t:Tr X C bO id ops S F T B)(ho:ops.toList[j]?=some o){A Y:St}{v:V}(hA:A.f=(SE X bO ops S F T E p).f)(hv: ∀d,o.dst=some d->F.f d=v)(q:Nat):
  (A.set o.dst v).f=(SE X bO ops S F T (fun k=>E k\/k=j) q).f:=by
 funext x;by_cases hd:o.dst=some x
 ·rw[Kr hd];simp only[SE];rw[if_pos ⟨j,o,.inr rfl,ho,hd⟩,hv x hd]
 ·rw[Se hd,hA];simp only[SE];have this:(∃(k:Nat) (o:Oper),E k/\ops.toList[k]?=some o/\o.dst=some x)↔(∃(k:Nat) (o:Oper),(E k\/k=j)/\ops.toList[k]?=some o/\o.dst=some x):=by
   constructor
   ·rintro⟨k,ok,h1,h2,h3⟩;exact⟨k,ok,.inl h1,h2,h3⟩
   ·rintro⟨k,ok,h1|h1,h2,h3⟩
    ·exact⟨k,ok,h1,h2,h3⟩
    ·exfalso;subst h1;have e3:some o=some ok:=ho.symm.trans h2;simp only[au]at e3;exact hd (by rw[e3];exact h3)
  by_cases hc: ∃(k:Nat) (o:Oper),E k/\ops.toList[k]?=some o/\o.dst=some x
  ·rw[if_pos hc,if_pos (this.1 hc)]
  ·rw[if_neg hc,if_neg (fun h=>hc (this.2 h))]
theorem tu(t:Tr X C bO id ops S F T B)(ho:ops.toList[j]?=some o){Y:St}{v:V}(he:T (j+1)=Y.set o.dst v): ∀d,o.dst=some d->F.f d=v:=by
 intro d hd;have hj:=B0 ho;rw[<-t.MQ ho hd (j+1) (by omega) (by omega),he,Kr hd]
theorem wY{A Y:St}(h1:A.f=Y.f)(h2:A.h=Y.h)(h3:A.n=Y.n):A=Y:=by
 cases A;cases Y;simp_all
theorem adv(t:Tr X C bO id ops S F T B)(g:Wn X bO ops B E p)(ho:ops.toList[j]?=some o)(hj: ¬E j)(hb: ∀i∈B j,E i):
  ∃p',Wn X bO ops B (fun k=>E k\/k=j) p'/\stepG X C bO (ops.toList.map (·.dst)) S.n j o (SE X bO ops S F T E p)=some (SE X bO ops S F T (fun k=>E k\/k=j) p'):=by
 have eX:=B0 ho;have qn:=XD t g ho hb hj;have iZ:=t.step j o ho;have uniq: ∀{ok:Oper},ops.toList[j]?=some ok->ok=o:=fun h=>by
  have e3:=ho.symm.trans h;simp only[au]at e3;exact e3.symm
 have Xu: ∀k,(E k\/k=j)->k<ops.size:=fun k hk=>by
  rcases hk with hk|rfl
  ·exact g.lt k hk
  ·exact eX
 have ak4: ∀k,(E k\/k=j)-> ∀i∈B k,E i\/i=j:=fun k hk i hi=>by
  rcases hk with hk|rfl
  ·exact .inl (g.closed k hk i hi)
  ·exact .inl (hb i hi)
 have Sf: ∀k,E k->j∉B k:=fun k hk hjb=>hj (g.closed k hk j hjb);by_cases Kn:cls X bO o=3
 ·
  have hW: ∀(w:Nat) ow,ops.toList[w]?=some ow->cls X bO ow=3->(E w↔w<j):=by
   intro w ow xD h3;constructor
   ·intro hw;rcases Nat.lt_trichotomy w j with h|h|h
    ·exact h
    ·subst h;exact absurd hw hj
    ·exact absurd (t.draw.ww j w o ow h ho xD h3 (by omega)) (Sf w hw)
   ·intro h;exact hb w (t.draw.ww w j ow o h xD ho Kn (by omega))
  have hpj:p<=j:=by
   rcases g.last with h|⟨ow,xD,h3⟩
   ·omega
   ·by_cases h0:p=0
    ·omega
    ·have:=(g.iff (p-1) ow xD h3).2 (by omega);have:=(hW (p-1) ow xD h3).1 this;omega
  obtain⟨q1,q2,q3⟩:=t.quiet j hpj (by omega) fun k ok h1 h2 ju h3=>by
   have:=(hW k ok ju h3).2 h2;have:=(g.iff k ok ju h3).1 this;omega
  have hnj: ∀k,j<=k->k<ops.size->(T j).h (S.n+k)=none:=fun k h1 h2=>t.wX j k h1 h2
  classical
  have hG: ∃G:aY,(∀i,G i=if∃k o,i=S.n+k/\ops.toList[k]?=some o/\cls X bO o=2/\E k/\j+1<=k then(T (i-S.n+1)).h i else none):=by
   exact⟨fun i=>if∃k o,i=S.n+k/\ops.toList[k]?=some o/\cls X bO o=2/\E k/\j+1<=k then(T (i-S.n+1)).h i else none,fun _=>rfl⟩
  obtain⟨G,hG⟩:=hG;have hGn: ∀i,G i≠none-> ∃k,i=S.n+k/\j+1<=k/\k<ops.size/\ ∃o,ops.toList[k]?=some o/\cls X bO o=2/\E k:=by
   intro i hi;rw[hG]at hi;split at hi
   ·rename_i hx;obtain⟨k,ok,h1,h2,h3,h4,h5⟩:=hx;exact⟨k,h1,h5,g.lt k h4,ok,h2,h3,h4⟩
   ·exact absurd rfl hi
  have hh:(SE X bO ops S F T E p).h=mr (T j).h G:=by
   funext i;simp only[SE,mr];split
   ·rename_i hx;obtain⟨k,ok,rfl,ju,h2,hE,hpk⟩:=hx;have Wo:k≠j:=fun e=>by subst e;exact hj hE
    rcases Nat.lt_or_ge k j with h|h
    ·have hg0:G (S.n+k)=none:=by
      cases hz:G (S.n+k) with
      |none=>rfl
      |some y=>
       obtain⟨k2,e1,e2,_⟩:=hGn (S.n+k) (by rw[hz];simp);omega
     rw[hg0,show S.n+k-S.n+1=k+1 by omega,q3 k ok hpk h ju h2]
    ·rw[hG,if_pos ⟨k,ok,rfl,ju,h2,hE,by omega⟩];cases hz:(T (S.n+k-S.n+1)).h (S.n+k) with
     |some y=>rfl
     |none=>
      simp only;rw[hnj k (by omega) (g.lt k hE)]
   ·rename_i hx;have hg0:G i=none:=by
     cases hz:G i with
     |none=>rfl
     |some y=>
      obtain⟨k2,e1,e2,e3,o2,e4,e5,e6⟩:=hGn i (by rw[hz];simp);exact absurd ⟨k2,o2,e1,e4,e5,e6,by omega⟩ hx
    rw[hg0];simp only;rw[q2 i fun k ok h1 h2 ju h3 e=>hx ⟨k,ok,e,ju,h3,hb k (t.draw.ww k j ok o h2 ju ho Kn (by omega)),h1⟩]
  obtain⟨v,e1,e2⟩:=Kk iZ;have asy:Wn X bO ops B (fun k=>E k\/k=j) (j+1):=⟨Xu,ak4,by omega,.inr ⟨o,by simpa using ho,Kn⟩,fun w ow xD h3=>by
   have:=hW w ow xD h3;constructor
   ·rintro(h|h)
    ·have:=this.1 h;omega
    ·omega
   ·intro h;by_cases e:w=j
    ·exact .inr e
    ·exact .inl (this.2 (by omega))⟩
  have hh':(SE X bO ops S F T (fun k=>E k\/k=j) (j+1)).h=mr (T (j+1)).h G:=by
   funext i;simp only[SE,mr];by_cases hx: ∃k o,i=S.n+k/\ops.toList[k]?=some o/\cls X bO o=2/\E k/\j+1<=k
   ·obtain⟨k,ok,rfl,ju,h2,hE,hk⟩:=hx;rw[if_pos ⟨k,ok,rfl,ju,h2,.inl hE,hk⟩,hG,if_pos ⟨k,ok,rfl,ju,h2,hE,hk⟩];cases hz:(T (S.n+k-S.n+1)).h (S.n+k) with
    |some y=>rfl
    |none=>
     simp only;rw[t.wX (j+1) k hk (g.lt k hE)]
   ·rw[if_neg (fun⟨k,ok,h1,ju,h2,hE,hk⟩=>hx ⟨k,ok,h1,ju,h2,by
     rcases hE with hE|hE
     ·exact hE
     ·omega,hk⟩),hG,if_neg hx]
  have JW:(SE X bO ops S F T (fun k=>E k\/k=j) (j+1)).n=(T (j+1)).n:=rfl;refine⟨j+1,asy,?_⟩;have hf:=Ht (A:={SE X bO ops S F T E p with h:=(T (j+1)).h,n:=(T (j+1)).n}) (p:=p) (E:=E) (Y:=S) t ho rfl (tu t ho e1) (j+1);by_cases as0: ∀i,G i=none
  ·have eG: ∀h:aY,mr h G=h:=fun h=>by funext i;exact Fp (as0 i)
   rw[eG]at hh hh';rw[e2 _ qn hh q1.symm];exact congrArg some (wY hf (by rw[dJ,hh']) (by rw[fa,JW]))
  ·
   have hN:rz (T j).h G (T j).n:=fun i hi=>by
    obtain⟨k,h1,h2,h3,_⟩:=hGn i hi;have:=t.XC j (by omega);subst h1;exact⟨hnj k (by omega) h3,by omega⟩
   have hGj:G (S.n+j)=none:=by
    cases hz:G (S.n+j) with
    |none=>rfl
    |some y=>
     obtain⟨k2,e1,e2,_⟩:=hGn (S.n+j) (by rw[hz];simp);omega
   have C4:=Ko t.pZ hN hGj iZ;obtain⟨v2,e3,e4⟩:=Kk C4;have aei:Ds (ops.toList.map (·.dst)) o {T j with h:=mr (T j).h G} (SE X bO ops S F T E p):=qn;rw[e4 _ aei hh q1.symm];have hv2: ∀d,o.dst=some d->v2=v:=by
    intro d hd;have h1:=congrArg (fun Z:St=>Z.f d) e3;have h2:=congrArg (fun Z:St=>Z.f d) e1;simp only[Kr hd]at h1 h2;rw[<-h1,<-h2]
   have Xx: ∀d,o.dst=some d->F.f d=v2:=fun d hd=>by rw[hv2 d hd];exact tu t ho e1 d hd
   have hf2:=Ht (A:={SE X bO ops S F T E p with h:=mr (T (j+1)).h G,n:=(T (j+1)).n}) (p:=p) (E:=E) (Y:=S) t ho rfl Xx (j+1);exact congrArg some (wY hf2 (by rw[dJ,hh']) (by rw[fa,JW]))
 ·
  have wQ:Wn X bO ops B (fun k=>E k\/k=j) p:=⟨Xu,ak4,g.le,g.last,fun w ow xD h3=>by
   constructor
   ·rintro(h|h)
    ·exact(g.iff w ow xD h3).1 h
    ·subst h;rw[uniq xD]at h3;exact absurd h3 Kn
   ·intro h;exact .inl ((g.iff w ow xD h3).2 h)⟩
  refine⟨p,wQ,?_⟩;have JW:(SE X bO ops S F T (fun k=>E k\/k=j) p).n=(SE X bO ops S F T E p).n:=rfl;have RI:cls X bO o≠2->(SE X bO ops S F T E p).h=(SE X bO ops S F T (fun k=>E k\/k=j) p).h:=by
   intro yV;funext i;simp only[SE];by_cases hc: ∃(k:Nat) (ok:Oper),i=S.n+k/\ops.toList[k]?=some ok/\cls X bO ok=2/\E k/\p<=k
   ·obtain⟨k,ok,h1,h2,h3,h4,h5⟩:=hc;rw[if_pos ⟨k,ok,h1,h2,h3,h4,h5⟩,if_pos ⟨k,ok,h1,h2,h3,.inl h4,h5⟩]
   ·rw[if_neg hc,if_neg];rintro⟨k,ok,h1,h2,h3,h4|h4,h5⟩
    ·exact hc ⟨k,ok,h1,h2,h3,h4,h5⟩
    ·subst h4;rw[uniq h2]at h3;exact yV h3
  have mM:cls X bO o=0\/cls X bO o=1\/cls X bO o=2:=by
   have:cls X bO o<=3:=by
    unfold cls;repeat' split
    all_goals omega
   omega
  rcases mM with hc|hc|hc
  ·obtain⟨v,e1,e2⟩:=R6 hc iZ;rw[e2 _ qn];exact congrArg some (wY (Ht (Y:=S) t ho rfl (tu t ho e1) p) (by rw[dJ,RI (by omega)]) (by rw[fa,JW]))
  ·have fin: ∀v,(∀d,o.dst=some d->F.f d=v)->some ((SE X bO ops S F T E p).set o.dst v)=some (SE X bO ops S F T (fun k=>E k\/k=j) p):=fun v hv=>
    congrArg some (wY (Ht (Y:=S) t ho rfl hv p) (by rw[dJ,RI (by omega)]) (by rw[fa,JW]))
   have hWp: ∀(w:Nat) ow,ops.toList[w]?=some ow->cls X bO ow=3->(w∈B j->w<p)/\(j∈B w->p<=w):=fun w ow xD h3=>
    ⟨fun hm=>(g.iff w ow xD h3).1 (hb w hm),fun hm=>by
     rcases Nat.lt_or_ge w p with h|h
     ·exact absurd hm (Sf w ((g.iff w ow xD h3).2 h))
     ·exact h⟩
   rcases t.draw.reads j p o ho hc g.le g.last hWp with⟨hpj,ak5⟩|aej
   ·obtain⟨q1,q2,q3⟩:=t.quiet j hpj (by omega) fun k ok h1 h2 ju h3=>by
     have:=((ak5 k ok ju).1 h3).1 h2;omega
    obtain⟨v,e1,e2⟩:=R7 hc iZ;rw[e2 _ qn ?_]
    ·exact fin v (tu t ho e1)
    ·intro i ob hi;simp only[SE];split
     ·rename_i hx;obtain⟨k,ok,rfl,ju,h2,hE,hpk⟩:=hx;rcases Nat.lt_or_ge k j with h|h
      ·rw[show S.n+k-S.n+1=k+1 by omega,<-q3 k ok hpk h ju h2];exact hi
      ·rw[t.wX j k h (g.lt k hE)]at hi;cases hi
     ·rename_i hx;rw[<-q2 i fun k ok h1 h2 ju h3 e=>hx ⟨k,ok,e,ju,h3,hb k ((ak5 k ok ju).2 h3 h1 h2),h1⟩];exact hi
   ·rcases t.asw (j,p) aej with⟨o',h1,Kt⟩|⟨o',T',v',h1,h2,h3,h4⟩
    ·have eo:=uniq h1;subst eo;unfold DV at Kt;cases hg:o'.guard with
     |none=>rw[hg]at Kt;exact absurd Kt (fun h=>h)
     |some gw=>
      obtain⟨jg,want⟩:=gw;rw[hg]at Kt;simp only at Kt;cases hd:(ops.toList.map (·.dst))[jg]? with
      |none=>rw[hd]at Kt;exact absurd Kt (fun h=>h)
      |some od=>
       cases od with
       |none=>rw[hd]at Kt;exact absurd Kt (fun h=>h)
       |some d=>
        rw[hd]at Kt;simp only at Kt;have hl:=Bb t g ho hb hj (z9 hg hd);rw[hl.2 ⟨p,aej⟩]at Kt;have e1:=BU (X:=X) (C:=C) (bO:=bO) (n0:=S.n) (k:=j) hg hd Kt;rw[iZ]at e1;simp only[au]at e1;rw[<-hl.1]at Kt;rw[BU hg hd Kt];exact fin _ (tu t ho e1)
    have eo:=uniq h1;subst eo;have eT:T'=T p:=by
     have:=t.pre p g.le;simp only at h2;rw[h2]at this;simpa using this
    subst eT;rcases nH iZ with⟨g1,g2⟩|⟨g1,g2⟩
    ·rw[g2 _ qn];have iK: ∀x args jP,o'.op≠ .call ⟨.value x,args,jP⟩:=by
      intro x args jP e;simp[cm,e]at h3
     obtain⟨_,k2⟩:=RR hc iK h3;have hcg: ∀y∈o'.op.operands.toList,(SE X bO ops S F T E p).ev y=F.ev y:=by
      intro y hy;cases y with
      |tmp x=>
       have:=Bb t g ho hb hj (Ef hy rfl);show(SE X bO ops S F T E p).f x=F.f x;rw[this.1,this.2 ⟨p,aej⟩]
      |_=>rfl
     rw[mG iK,ov hcg,k2 (SE X bO ops S F T E p).h (S.n+j) ?_]
     ·exact fin v' h4
     ·intro i ob hi;simp only[SE];split
      ·rename_i hx;obtain⟨k,ok,rfl,ju,h2,hE,hpk⟩:=hx;rw[t.wX p k hpk (g.lt k hE)]at hi;cases hi
      ·exact hi
    ·rw[g2 _ qn];exact fin _ (tu t ho g1)
  ·obtain⟨v,ob,e1,e2⟩:=R8 hc iZ;rw[e2 _ qn];have hpj:p<=j:=by
    rcases g.last with h|⟨ow,xD,h3⟩
    ·omega
    ·by_cases h0:p=0
     ·omega
     ·have hE:=(g.iff (p-1) ow xD h3).2 (by omega);rcases Nat.lt_trichotomy (p-1) j with h|h|h
      ·omega
      ·rw[h]at hE;exact absurd hE hj
      ·exact absurd (t.draw.ww j (p-1) o ow h ho xD h3 (by omega)) (Sf _ hE)
   refine congrArg some (wY (Ht (A:={SE X bO ops S F T E p with h:=x8 (SE X bO ops S F T E p).h (S.n+j) ob}) (E:=E) (p:=p) (Y:=S) t ho rfl (tu t ho e1) p) ?_ (by rw[fa,JW]));rw[dJ];funext i;by_cases hi:i=S.n+j
   ·subst hi;have hR:(SE X bO ops S F T (fun k=>E k\/k=j) p).h (S.n+j)=(T (j+1)).h (S.n+j):=by
     simp only[SE];rw[if_pos ⟨j,o,rfl,ho,hc,.inr rfl,hpj⟩,show S.n+j-S.n+1=j+1 by omega]
    have hL:(SE X bO ops S F T E p).h (S.n+j)=none:=by
     simp only[SE];rw[if_neg,t.wX p j hpj eX];rintro⟨k,ok,h1,_,_,h4,_⟩;have:k=j:=by omega
     subst this;exact hj h4
    rw[hR,e1,dJ];cases ob with
    |none=>simp only[x8];rw[hL,t.wX j j (Nat.le_refl _) eX]
    |some ob=>simp[x8,aO]
   ·have:x8 (SE X bO ops S F T E p).h (S.n+j) ob i=(SE X bO ops S F T E p).h i:=by
     cases ob with
     |none=>rfl
     |some ob=>simp[x8,aO,hi]
    show x8 (SE X bO ops S F T E p).h (S.n+j) ob i=_;rw[this];simp only[SE];by_cases tf: ∃(k:Nat) (ok:Oper),i=S.n+k/\ops.toList[k]?=some ok/\cls X bO ok=2/\E k/\p<=k
    ·obtain⟨k,ok,h1,h2,h3,h4,h5⟩:=tf;rw[if_pos ⟨k,ok,h1,h2,h3,h4,h5⟩,if_pos ⟨k,ok,h1,h2,h3,.inl h4,h5⟩]
    ·rw[if_neg tf,if_neg];rintro⟨k,ok,h1,h2,h3,h4|h4,h5⟩
     ·exact tf ⟨k,ok,h1,h2,h3,h4,h5⟩
     ·subst h4;exact hi h1
end
section
variable {X:Env} {C:iz} {bO:FuncId} {id nt:Nat} {ops:Array Oper} {S F:St} {T:Nat->St} {B:Nat->List Nat}
theorem Sg(t:Tr X C bO id ops S F T B){E:Nat->Prop}{p:Nat}(g:Wn X bO ops B E p)(kn: ∀k,k<ops.size->E k):SE X bO ops S F T E p=F:=by
 obtain⟨q1,q2,q3⟩:=t.quiet ops.size g.le (Nat.le_refl _) fun k ok h1 h2 ju h3=>by
  have:=(g.iff k ok ju h3).1 (kn k h2);omega
 rw[t.tN]at q1 q2 q3;refine wY ?_ ?_ ?_
 ·funext x;simp only[SE];split
  ·rfl
  ·rename_i hx;have:=t.Ks (x:=x) (fun k o h1 h2=>hx ⟨k,o,kn k (B0 h1),h1,h2⟩) ops.size (Nat.le_refl _);rw[t.tN]at this;exact this.symm
 ·funext i;simp only[SE];split
  ·rename_i hx;obtain⟨k,ok,rfl,ju,h2,hE,hpk⟩:=hx;rw[show S.n+k-S.n+1=k+1 by omega,<-q3 k ok hpk (B0 ju) ju h2]
  ·rename_i hx;rw[q2 i fun k ok h1 h2 ju h3 e=>hx ⟨k,ok,e,ju,h3,kn k h2,h1⟩]
 ·exact q1.symm
theorem XE (hC:qj X C) (hK:rE X) (hG: ∀bO dst g args S S1,eK X C bO dst g args S=some S1->uE X g) (hB: ∀o∈ops.toList,NJ X nt o=true) (t:Tr X C bO id ops S F T B)
  {Q:Exit->Act->World->Prop} {w:World} {I:Nat->Prop} {σ:gH} (hQ: ∀a' w',Ki nt S.n w I σ S.h F a' w'->Q .normal a' w'):
  ∀(fuel:Nat) (jK:Array Bool) (E:Nat->Prop) (p:Nat) (U:List Nat) (a':Act) (w':World) (I':Nat->Prop) (σ':gH),jK.size=ops.size->(∀k,E k↔jK.getD k false=true)->Wn X bO ops B E p->
   U.Nodup->U.length=fuel->(∀k,k<ops.size->(¬E k↔k∈U))->
   Step w I σ S.h S.n w' I' σ' (SE X bO ops S F T E p).h (SE X bO ops S F T E p).n->ir w' I' σ' (SE X bO ops S F T E p).f a'->jY σ' (SE X bO ops S F T E p).h (SE X bO ops S F T E p).n->nt<=a'.tmps.size->a'.defers=[]->
   (∀q,q<ops.size-> ¬E q->(SE X bO ops S F T E p).h (S.n+q)=none/\σ' (S.n+q)=none)->
   wpAny X.P .any ops Q fuel jK a' w':=by
 have aek: ∀{jK:Array Bool} {E:Nat->Prop},jK.size=ops.size->(∀k,E k↔jK.getD k false=true)->Region.ready .any ops jK=[]-> ∀k,k<ops.size->E k:=by
  intro jK E hs hE hr k;induction k using Nat.strongRecOn with
  |_ k ih=>
   intro hk;by_cases hEk:E k
   ·exact hEk
   ·exfalso;have ho:=Ee (ops:=ops) hk;have BK:k∈Region.ready .any ops jK:=by
     rw[mem_ready];have hl:jK.getD k false=false:=by
      have:=mt (hE k).2 hEk;simpa using this
     refine⟨?_,ops.toList[k],by rw[<-Array.getElem?_toList];exact ho,fun e he hb=> ?_⟩
     ·rw[Array.getD_eq_getD_getElem?]at hl⊢;have:jK[k]?=some (jK[k]'(by omega)):=by simp[hs,hk]
      rw[this]at hl⊢;exact hl
     ·have eX:=t.draw.asu k _ e ho he hb;exact(hE e.on).1 (ih e.on eX (by omega))
    rw[hr]at BK;cases BK
 have fin: ∀{E:Nat->Prop} {p:Nat} {a':Act} {w':World} {I':Nat->Prop} {σ':gH},Wn X bO ops B E p->(∀k,k<ops.size->E k)->Step w I σ S.h S.n w' I' σ' (SE X bO ops S F T E p).h (SE X bO ops S F T E p).n->ir w' I' σ' (SE X bO ops S F T E p).f a'->
   jY σ' (SE X bO ops S F T E p).h (SE X bO ops S F T E p).n->nt<=a'.tmps.size->a'.defers=[]->Q .normal a' w':=by
  intro E p a' w' I' σ' g kn iZ hF lK hs hd;rw[Sg t g kn]at iZ hF lK;exact hQ a' w' ⟨I',σ',iZ.le,iZ,hF,lK,hs,hd⟩
 intro fuel;induction fuel with
 |zero=>
  intro jK E p U a' w' I' σ' Wq hE g hnd hU hUE iZ hF lK hs hd hq;have kn: ∀k,k<ops.size->E k:=fun k hk=>by
   have:U=[]:=List.eq_nil_of_length_eq_zero hU;by_cases h:E k
   ·exact h
   ·have:=(hUE k hk).1 h
    simp_all
  refine⟨?_,fin g kn iZ hF lK hs hd⟩;cases hr:Region.ready .any ops jK with
  |nil=>rfl
  |cons k r=>
   exfalso;have hm:k∈Region.ready .any ops jK:=by rw[hr];simp
   rw[mem_ready]at hm;obtain⟨h1,o,h2,_⟩:=hm;have hk:k<ops.size:=(Array.getElem?_eq_some_iff.1 h2).1;have:=(hE k).1 (kn k hk);rw[Array.getD_eq_getD_getElem?]at h1 this;have h3:jK[k]?=some (jK[k]'(by omega)):=by simp[Wq,hk]
   rw[h3]at h1 this;simp at h1 this;rw[h1]at this;cases this
 |succ fuel ih=>
  intro jK E p U a' w' I' σ' Wq hE g hnd hU hUE iZ hF lK hs hd hq;refine⟨fun hr=>fin g (aek Wq hE hr) iZ hF lK hs hd,fun j hj=> ?_⟩;rw[mem_ready]at hj;obtain⟨h1,o,hoa,ael⟩:=hj;have sx:j<ops.size:=(Array.getElem?_eq_some_iff.1 hoa).1;have ho:ops.toList[j]?=some o:=by rw[Array.getElem?_toList];exact hoa
  have JB:jK[j]?=some (jK[j]'(by omega)):=by simp[Wq,sx]
  have hEj: ¬E j:=fun h=>by
   have:=(hE j).1 h;rw[Array.getD_eq_getD_getElem?]at h1 this;rw[JB]at h1 this;simp at h1 this;rw[h1]at this;cases this
  have hb: ∀i∈B j,E i:=fun i hi=>by
   obtain⟨e,he,hbn,Rn⟩:=t.draw.bef j o i ho hi;have hEe:=(hE e.on).2 (ael e he hbn);rcases Rn with rfl|Rn
   ·exact hEe
   ·exact g.closed _ hEe i Rn
  obtain⟨p',g',uJ⟩:=adv t g ho hEj hb;have hoB:NJ X nt o=true:=hB o (by
   have:=Array.mem_of_getElem? hoa;simpa using this)
  have RO: ∀x,o.dst=some x->x<a'.tmps.size:=fun x hx=>Nat.lt_of_lt_of_le (ML hoB x hx) hs;have hE': ∀k,(E k\/k=j)↔(jK.setIfInBounds j true).getD k false=true:=by
   intro k;rw[Array.getD_eq_getD_getElem?];by_cases Wo:k=j
   ·subst Wo;simp[Wq,sx]
   ·have:=hE k;rw[Array.getD_eq_getD_getElem?]at this;rw[Array.getElem?_setIfInBounds_ne (Ne.symm Wo),<-this];simp[Wo]
  have hjU:j∈U:=(hUE j sx).1 hEj;have as2: ∀k,k<ops.size->(¬(E k\/k=j)↔k∈U.erase j):=by
   intro k hk;rw[hnd.mem_erase_iff,<-hUE k hk];constructor
   ·intro h;exact⟨fun e=>h (.inr e),fun e=>h (.inl e)⟩
   ·rintro⟨h1,h2⟩ (h|h)
    ·exact h2 h
    ·exact h1 h
  have A2:S.n+ops.size<=(SE X bO ops S F T E p).n:=t.XC p g.le;have next: ∀(a2:Act) (w2:World) (I2:Nat->Prop) (σ2:gH),Step w I σ S.h S.n w2 I2 σ2 (SE X bO ops S F T (fun k=>E k\/k=j) p').h (SE X bO ops S F T (fun k=>E k\/k=j) p').n->ir w2 I2 σ2 (SE X bO ops S F T (fun k=>E k\/k=j) p').f a2->
    jY σ2 (SE X bO ops S F T (fun k=>E k\/k=j) p').h (SE X bO ops S F T (fun k=>E k\/k=j) p').n->nt<=a2.tmps.size->a2.defers=[]->
    (∀q,q<ops.size-> ¬(E q\/q=j)->(SE X bO ops S F T (fun k=>E k\/k=j) p').h (S.n+q)=none/\σ2 (S.n+q)=none)->wpAny X.P .any ops Q fuel (jK.setIfInBounds j true) a2 w2:=
   fun a2 w2 I2 σ2 k1 k2 k3 k4 k5 k6=>ih _ _ p' (U.erase j) a2 w2 I2 σ2 (by simp[Wq]) hE' g' (hnd.erase j) (by rw[List.length_erase_of_mem hjU,hU];rfl) as2 k1 k2 k3 k4 k5 k6
  generalize SE X bO ops S F T (fun k=>E k\/k=j) p'=Z at*;generalize SE X bO ops S F T E p=A at*;unfold wpOp;simp only[hoa];have run:dH X C bO S.n j o A=some Z->o.wp X.P a' w' (wpAny X.P .any ops Q fuel (jK.setIfInBounds j true)) Q:=by
   intro pa;refine Oper.wp_mono (fun a2 w2 hh=> ?_) (Hg hC hK hG hoB pa iZ.rel hF lK (hq j sx hEj).1 (hq j sx hEj).2 (by omega) Q);obtain⟨u,v,I2,σ2,rfl,lX,hf,Oe,hle,as3,Ke⟩:=hh;exact next _ _ I2 σ2 (iZ.join Oe (Nat.le_refl _) hle) ((hF.ext Oe.ext).Xy lX o.dst RO hf) as3 (by rw[xW];exact hs) (by rw[put_defers];exact hd)
    fun q hq1 hq2=>Ke q (fun e=>hq2 (.inr e)) (by omega) (hq q hq1 fun e=>hq2 (.inl e)).1 (hq q hq1 fun e=>hq2 (.inl e)).2
  have skip:A.set o.dst (.de [])=Z->wpAny X.P .any ops Q fuel (jK.setIfInBounds j true) (a'.put o.dst undef) w':=by
   intro pa;subst pa;refine next _ _ I' σ' (by rw[dJ,fa];exact iZ) (hF.Xy D8 o.dst RO rfl) (by rw[dJ,fa];exact lK) (by rw[xW];exact hs) (by rw[put_defers];exact hd) fun q hq1 hq2=> ?_;rw[dJ];exact hq q hq1 fun e=>hq2 (.inl e)
  unfold stepG at uJ;split at uJ
  ·rename_i hg;have hw:Region.wanted o (yielded ops a'.tmps)=true:=by simp[Region.wanted,hg]
   simp only[hw,if_true];exact .inl (run uJ)
  ·rename_i i want hg;split at uJ
   case h_2=>cases uJ
   rename_i d Gv;have QL:=BO hF hg Gv;split at uJ
   ·rename_i b JC;have hw:=QL.1 b JC;split at uJ
    ·rename_i Hh;subst Hh;rw[beq_self_eq_true]at hw;simp only[hw,if_true];exact .inl (run uJ)
    ·rename_i Hh;have:(b==want)=false:=by simpa using Hh
     rw[this]at hw;simp only[hw,Bool.false_eq_true,if_false];exact skip (by simpa using uJ)
   ·rename_i JC;have hw:=QL.2 JC;simp only[hw,Bool.false_eq_true,if_false];exact skip (by simpa using uJ)
   ·cases uJ
theorem aen(X:Env):Kj X (jD X):=by
 intro C hC hN hV hK hG bO id nt ops S F hB bU xA ak6 a w I σ R hF lK hs hd Q hQ;obtain⟨T,h0,hn,as4,iZ⟩:=trace xA;have hlen:ops.toList.length=ops.size:=Array.length_toList;have t:Tr X C bO id ops S F T (fun j=>(Sc ops.toList).getD j []):=
  ⟨Kq bU,hN,hV,h0,by rw[<-hlen];exact hn,iZ,fun p hp=>as4 p (by omega),ak6,fun i hi=>(lK i hi).1⟩
 refine wp_region_any t.draw.mixed ?_;have g:Wn X bO ops (fun j=>(Sc ops.toList).getD j []) (fun _=>False) 0:=⟨fun _ h=>h.elim,fun _ h=>h.elim,by omega,.inl rfl,fun w o _ _=>⟨fun h=>h.elim,fun h=>by omega⟩⟩;have hSE:SE X bO ops S F T (fun _=>False) 0={S with n:=S.n+ops.size}:=by
  refine wY ?_ ?_ ?_
  ·funext x;simp only[SE];rw[if_neg (fun⟨_,_,h,_⟩=>h)]
  ·funext i;simp only[SE];rw[if_neg (fun⟨_,_,_,_,_,h,_⟩=>h),h0]
  ·simp only[SE];rw[h0]
 have aax:=Step.drew R S.n;refine XE hC hK hG hB t (w:=w) (I:=I) (σ:=σ) hQ ops.size _ (fun _=>False) 0 (List.range ops.size) a w.drew I σ (by simp) (fun k=> ?_) g List.nodup_range (by simp) (fun k hk=>by simp[hk]) ?_ ?_ ?_ hs hd ?_
 ·constructor
  ·intro h;exact h.elim
  ·intro h;rw[Array.getD_eq_getD_getElem?,Array.getElem?_replicate]at h;split at h<;>simp at h
 ·rw[hSE];exact aax.MJ (Nat.le_refl _) (by simp)
 ·rw[hSE];exact hF.ext aax.ext
 ·rw[hSE];exact fun i hi=>lK i (by simp only at hi;omega)
 ·intro q _ _;rw[hSE];exact lK _ (by omega)
end
end Go.Abs
