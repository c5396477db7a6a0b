/- Part of a proof: engine B5. -/
import Derived.Test.YtdngefmliibcgaaGreatM29
import Derived.Orders
set_option linter.all false
set_option maxRecDepth 20000
set_option maxHeartbeats 20000000
namespace Go.Abs
open Go
def L1(L:List Oper):List (List Nat):=
 L.foldl (fun acc o=>acc++ [((o.after.toList.filter (Region.binds .any)).flatMap fun e=>e.on::acc.getD e.on []).eraseDups]) []
def wr(cl:List Nat)(p:Nat):Bool:=cl.getD p 0==3
def Sw(cl:List Nat)(B:List (List Nat))(j p:Nat):Bool:=
 (List.range cl.length).all fun w=> !wr cl w||((!(B.getD j []).contains w||decide (w<p))&& (!(B.getD w []).contains j||decide (p≤w)))
def YE(cl:List Nat)(B:List (List Nat))(j p:Nat):Bool:=
 decide (p≤j)&& (List.range cl.length).all fun w=>(!wr cl w||(decide (w<j)==decide (w<p)))&& (!(cl.getD w 0==2&&decide (p≤w)&&decide (w<j))||(B.getD j []).contains w)
def fZ(X:Env)(aP:FuncId)(id:Nat)(ops:Array Oper):Bool:=
 let L:=ops.toList;let B:=L1 L;let cl:=L.map (cls X aP);let ds:=L.map (·.dst)
 X.P.follows .mixedOrders&&
 (List.range L.length).all fun j=>
  match L[j]? with
  |none=>true
  |some o=>
   let bj:=B.getD j []
   (o.after.toList.all fun e=> !Region.binds .any e||decide (e.on<j))&&
   (bj.all fun i=>decide (i<j)&&o.after.toList.any fun e=>Region.binds .any e&& (e.on==i||(B.getD e.on []).contains i))&&
   ((List.range j).all fun i=>(ds.getD i none==none||ds.getD i none !=o.dst)&&
    (!(wr cl j&&decide (2≤cl.getD i 0))||bj.contains i))&&
   ((o.looksAt ops).all fun t=>(List.range L.length).all fun k=>ds.getD k none !=some t||bj.contains k||((B.getD k []).contains j&& !(X.uG aP id).any fun q=>q.1==j))&&
   (!(cl.getD j 0==1)||(List.range (L.length+1)).all fun p=> !(p==0||wr cl (p-1))|| !Sw cl B j p||YE cl B j p||(X.uG aP id).contains (j,p))
structure Sx (X:Env) (aP:FuncId) (id:Nat) (ops:Array Oper) (B:Nat→List Nat):Prop where
 mixed:X.P.follows .mixedOrders=true
 aee: ∀j o e,ops.toList[j]?=some o→e∈o.after→Region.binds .any e=true→e.on<j
 lt: ∀j i,j<ops.size→i∈B j→i<j
 bef: ∀j o i,ops.toList[j]?=some o→i∈B j→ ∃e∈o.after,Region.binds .any e=true∧(e.on=i∨i∈B e.on)
 dst: ∀(i j:Nat) oi oj t,i<j→ops.toList[i]?=some oi→ops.toList[j]?=some oj→oi.dst=some t→oj.dst≠some t
 looks: ∀(j k:Nat) o ok t,ops.toList[j]?=some o→ops.toList[k]?=some ok→ok.dst=some t→t∈o.looksAt ops→k∈B j∨(j∈B k∧ ∀p,(j,p)∉X.uG aP id)
 ww: ∀(i j:Nat) oi oj,i<j→ops.toList[i]?=some oi→ops.toList[j]?=some oj→cls X aP oj=3→2≤cls X aP oi→i∈B j
 reads: ∀(j p:Nat) o,ops.toList[j]?=some o→cls X aP o=1→p≤ops.size→(p=0∨ ∃ow,ops.toList[p-1]?=some ow∧cls X aP ow=3)→
  (∀(w:Nat) ow,ops.toList[w]?=some ow→cls X aP ow=3→(w∈B j→w<p)∧(j∈B w→p≤w))→
  (p≤j∧ ∀(w:Nat) ow,ops.toList[w]?=some ow→(cls X aP ow=3→(w<j↔w<p))∧(cls X aP ow=2→p≤w→w<j→w∈B j))∨(j,p)∈X.uG aP id
theorem u9{X:Env}{aP:FuncId}{L:List Oper}{j:Nat}{o:Oper}(h:L[j]?=some o):(L.map (cls X aP)).getD j 0=cls X aP o:=by
 simp[List.getD_eq_getElem?_getD,h]
theorem L2{L:List Oper}{j:Nat}{o:Oper}(h:L[j]?=some o):(L.map (·.dst)).getD j none=o.dst:=by
 simp[List.getD_eq_getElem?_getD,h]
theorem EP{X:Env}{aP:FuncId}{id:Nat}{ops:Array Oper}(h:fZ X aP id ops=true):Sx X aP id ops (fun j=>(L1 ops.toList).getD j []):=by
 unfold fZ at h;simp only[Bool.and_eq_true]at h;obtain⟨hm,h⟩:=h;generalize L1 ops.toList=B at*;have hj: ∀(j:Nat) o,ops.toList[j]?=some o→_:=fun j o ho=>by
  have jw:j<ops.toList.length:=(List.getElem?_eq_some_iff.1 ho).1;have:=List.all_eq_true.1 h j (List.mem_range.2 jw);simp only[ho,Bool.and_eq_true]at this;exact this
 have hlen:ops.toList.length=ops.size:=Array.length_toList;refine⟨hm,fun j o e ho he hb=> ?_,fun j i YF hi=> ?_,fun j o i ho hi=> ?_,fun i j oi oj t mN hoi WU Am hdj=> ?_,fun j k o ok t ho jF hd hl=> ?_,fun i j oi oj mN hoi WU h3 h2=> ?_,fun j p o ho hc hp hw hf=> ?_⟩
 ·have:=List.all_eq_true.1 (hj j o ho).1.1.1.1 e (by simpa using he);simpa[hb] using this
 ·have ho:ops.toList[j]?=some ops.toList[j]:=List.getElem?_eq_getElem (by omega);have:=List.all_eq_true.1 (hj j _ ho).1.1.1.2 i hi;simp only[Bool.and_eq_true,decide_eq_true_eq]at this;exact this.1
 ·have:=List.all_eq_true.1 (hj j o ho).1.1.1.2 i hi;simp only[Bool.and_eq_true,decide_eq_true_eq,List.any_eq_true,Bool.or_eq_true,beq_iff_eq,List.contains_iff_mem]at this;obtain⟨_,e,he,hb,Lh⟩:=this;exact⟨e,by simpa using he,hb,Lh⟩
 ·have:=List.all_eq_true.1 (hj j oj WU).1.1.2 i (List.mem_range.2 mN);simp only[Bool.and_eq_true,L2 hoi]at this;have h1:=this.1;rw[Am,hdj]at h1;simp at h1
 ·have hk:k<ops.toList.length:=(List.getElem?_eq_some_iff.1 jF).1;have:=List.all_eq_true.1 (List.all_eq_true.1 (hj j o ho).1.2 t hl) k (List.mem_range.2 hk);rw[L2 jF,hd]at this;simp only[bne_self_eq_false,Bool.false_or,Bool.or_eq_true,Bool.and_eq_true,Bool.not_eq_true',List.contains_iff_mem,List.any_eq_false,beq_iff_eq]at this;rcases this with h1|⟨h1,h2⟩
  ·exact .inl h1
  ·exact .inr ⟨h1,fun p hp=>h2 (j,p) hp rfl⟩
 ·have:=List.all_eq_true.1 (hj j oj WU).1.1.2 i (List.mem_range.2 mN);simp only[Bool.and_eq_true,wr,u9 hoi,u9 WU,h3]at this;have h1:=this.2;simpa[h2] using h1
 ·have:=(hj j o ho).2;simp only[u9 ho,hc,beq_self_eq_true,Bool.not_true,Bool.false_or]at this;have:=List.all_eq_true.1 this p (List.mem_range.2 (by omega));simp only[Bool.or_eq_true,Bool.not_eq_true',List.contains_iff_mem]at this;rcases this with((h1|h1)|h1)|h1
  ·exfalso;rw[Bool.or_eq_false_iff]at h1;rcases hw with rfl|⟨ow,wD,h3⟩
   ·simp at h1
   ·have:=h1.2;unfold wr at this;rw[u9 wD,h3]at this;cases this
  ·exfalso;rw[←Bool.not_eq_true]at h1;apply h1;unfold Sw;rw[List.all_eq_true];intro w LK;rw[List.mem_range,List.length_map]at LK;have wD:ops.toList[w]?=some ops.toList[w]:=List.getElem?_eq_getElem LK;have hfw:=hf w _ wD;simp only[wr,u9 wD,Bool.or_eq_true,Bool.not_eq_true',beq_eq_false_iff_ne,Bool.and_eq_true,decide_eq_true_eq];by_cases EM:cls X aP ops.toList[w]=3
   ·right;obtain⟨g1,g2⟩:=hfw EM;refine⟨?_,?_⟩
    ·by_cases So:w∈B.getD j []
     ·exact .inr (g1 So)
     ·left;simpa[List.contains_iff_mem] using So
    ·by_cases So:j∈B.getD w []
     ·exact .inr (g2 So)
     ·left;simpa[List.contains_iff_mem] using So
   ·left;exact EM
  ·left;unfold YE at h1;simp only[Bool.and_eq_true,decide_eq_true_eq]at h1;refine⟨h1.1,fun w ow wD=> ?_⟩;have hwl:w<ops.toList.length:=(List.getElem?_eq_some_iff.1 wD).1;have:=List.all_eq_true.1 h1.2 w (List.mem_range.2 (by simpa using hwl));simp only[Bool.and_eq_true,wr,u9 wD,Bool.or_eq_true,Bool.not_eq_true']at this;refine⟨fun h3=> ?_,fun h2 Sy KJ=> ?_⟩
   ·have:=this.1;simp only[h3,beq_self_eq_true,Bool.true_eq_false,false_or,beq_iff_eq,decide_eq_decide]at this;exact this
   ·have:=this.2;simpa[h2,Sy,KJ] using this
  ·exact .inr h1
structure Tr (X:Env) (C:dH) (aP:FuncId) (id:Nat) (ops:Array Oper) (S F:St) (T:Nat→St) (B:Nat→List Nat):Prop where
 draw:Sx X aP id ops B
 news:lh X C
 kX:jM X C
 t0:T 0={S with n:=S.n+ops.size}
 tN:T ops.size=F
 step: ∀(k:Nat) o,ops.toList[k]?=some o→stepG X C aP (ops.toList.map (·.dst)) S.n k o (T k)=some (T (k+1))
 pre: ∀p,p≤ops.size→cQ X C aP (ops.toList.map (·.dst)) S.n 0 (ops.toList.take p) {S with n:=S.n+ops.size}=some (T p)
 aeg:fW X C aP ops.toList S.n {S with n:=S.n+ops.size} F (X.uG aP id)
 fresh: ∀i,S.n≤i→S.h i=none
section
variable {X:Env} {C:dH} {aP:FuncId} {id:Nat} {ops:Array Oper} {S F:St} {T:Nat→St} {B:Nat→List Nat}
theorem An{k:Nat}(hk:k<ops.size):ops.toList[k]?=some ops.toList[k]:=List.getElem?_eq_getElem (by simpa using hk)
theorem ya{k:Nat}{o:Oper}(h:ops.toList[k]?=some o):k<ops.size:=by
 have:=(List.getElem?_eq_some_iff.1 h).1;simpa using this
theorem Tr.Qf(t:Tr X C aP id ops S F T B): ∀k,k≤ops.size→S.n+ops.size≤(T k).n
 |0,_=>by rw[t.t0];exact Nat.le_refl _
 |k+1,hk=>by
  have h1:=t.Qf k (by omega);have:=(Sv t.news (t.step k _ (An (by omega)))).1;omega
theorem Tr.sU(t:Tr X C aP id ops S F T B): ∀m q,m≤q→q<ops.size→(T m).h (S.n+q)=none
 |0,q,_,hq=>by rw[t.t0];exact t.fresh _ (by omega)
 |m+1,q,hm,hq=>by
  have h1:=t.sU m q (by omega) hq;have h2:=t.Qf m (by omega);exact(Sv t.news (t.step m _ (An (by omega)))).2 _ (by omega) (by omega) h1
theorem L3{S:St}{d:Option Nat}{v:V}{t:Nat}(h:d≠some t):(S.set d v).f t=S.f t:=by
 cases d with
 |none=>rfl
 |some x=>
  have:t≠x:=fun e=>h (by rw[e]);simp[St.set,aS,this]
theorem ER{S:St}{d:Option Nat}{v:V}{t:Nat}(h:d=some t):(S.set d v).f t=v:=by
 subst h;simp[St.set,aS]
theorem Tr.Uu(t:Tr X C aP id ops S F T B){k:Nat}{o:Oper}(ho:ops.toList[k]?=some o){x:Nat}(hd:o.dst≠some x):(T (k+1)).f x=(T k).f x:=by
 obtain⟨v,h1,_⟩:=EH (t.step k o ho);rw[h1,L3 hd]
theorem Tr.wP(t:Tr X C aP id ops S F T B){x:Nat}{i:Nat}: ∀m,i≤m→m≤ops.size→(∀k o,i≤k→k<m→ops.toList[k]?=some o→o.dst≠some x)→(T m).f x=(T i).f x
 |0,hi,_,_=>by rw[show i=0 by omega]
 |m+1,hi,hm,hk=>by
  by_cases he:i=m+1
  ·rw[he]
  ·rw[t.Uu (An (by omega)) (hk m _ (by omega) (by omega) (An (by omega)))];exact t.wP m (by omega) (by omega) fun k o h1 h2 h3=>hk k o h1 (by omega) h3
theorem Tr.GS(t:Tr X C aP id ops S F T B){k:Nat}{o:Oper}(ho:ops.toList[k]?=some o){x:Nat}(hd:o.dst=some x): ∀m,k<m→m≤ops.size→(T m).f x=F.f x:=by
 intro m hm Sz;have hk:=ya ho;have key: ∀m,k<m→m≤ops.size→(T m).f x=(T (k+1)).f x:=fun m hm Sz=>t.wP m (by omega) Sz fun i oi h1 h2 h3=>t.draw.dst k i o oi x (by omega) ho h3 hd;rw[←t.tN,key m hm Sz,key ops.size hk (Nat.le_refl _)]
theorem Tr.ES(t:Tr X C aP id ops S F T B){x:Nat}(hx: ∀(k:Nat) o,ops.toList[k]?=some o→o.dst≠some x): ∀m,m≤ops.size→(T m).f x=S.f x:=by
 intro m hm;rw[t.wP (i:=0) m (by omega) hm fun k o _ _ h=>hx k o h,t.t0]
theorem Tr.quiet(t:Tr X C aP id ops S F T B){p:Nat}: ∀m,p≤m→m≤ops.size→(∀k o,p≤k→k<m→ops.toList[k]?=some o→cls X aP o≠3)→
  (T m).n=(T p).n∧(∀i,(∀(k:Nat) o,p≤k→k<m→ops.toList[k]?=some o→cls X aP o=2→i≠S.n+k)→(T m).h i=(T p).h i)∧
   (∀(k:Nat) o,p≤k→k<m→ops.toList[k]?=some o→cls X aP o=2→(T m).h (S.n+k)=(T (k+1)).h (S.n+k))
 |0,hp,_,_=>by
  rw[show p=0 by omega];exact⟨rfl,fun _ _=>rfl,fun k o h1 h2=>by omega⟩
 |m+1,hp,hm,hw=>by
  by_cases he:p=m+1
  ·rw[←he];exact⟨rfl,fun _ _=>rfl,fun k o h1 h2=>by omega⟩
  ·obtain⟨h1,h2,h3⟩:=t.quiet m (by omega) (by omega) fun k o g1 g2 g3=>hw k o g1 (by omega) g3;have ho:=An (ops:=ops) (k:=m) (by omega);have gr:=t.step m _ ho;generalize ops.toList[m]=o at*;have EM:=hw m o (by omega) (by omega) ho;have kf:cls X aP o=0∨cls X aP o=1∨cls X aP o=2:=by
    have:cls X aP o≤3:=by
     unfold cls;repeat' split
     all_goals omega
    omega
   have same:(cls X aP o=0∨cls X aP o=1)→(T (m+1)).h=(T m).h∧(T (m+1)).n=(T m).n:=by
    rintro(hc|hc)
    ·obtain⟨v,e,_⟩:=LW hc gr;rw[e,ck,cZ];exact⟨rfl,rfl⟩
    ·obtain⟨v,e,_⟩:=LX hc gr;rw[e,ck,cZ];exact⟨rfl,rfl⟩
   by_cases A9:cls X aP o=2
   ·obtain⟨v,ob,e,_⟩:=LY A9 gr;have hn:(T (m+1)).n=(T m).n:=by rw[e,cZ]
    have hh: ∀i,i≠S.n+m→(T (m+1)).h i=(T m).h i:=by
     intro i hi;rw[e,ck];cases ob with
     |none=>rfl
     |some ob=>simp[uj,aS,hi]
    refine⟨by rw[hn,h1],fun i hi=> ?_,fun k ok g1 g2 g3 g4=> ?_⟩
    ·rw[hh i (hi m o (by omega) (by omega) ho A9)];exact h2 i fun k ok g1 g2 g3 g4=>hi k ok g1 (by omega) g3 g4
    ·by_cases hkm:k=m
     ·rw[hkm]
     ·rw[hh _ (by omega)];exact h3 k ok g1 (by omega) g3 g4
   ·obtain⟨e1,e2⟩:=same (by omega);refine⟨by rw[e2,h1],fun i hi=> ?_,fun k ok g1 g2 g3 g4=> ?_⟩
    ·rw[e1];exact h2 i fun k ok g1 g2 g3 g4=>hi k ok g1 (by omega) g3 g4
    ·by_cases hkm:k=m
     ·exfalso;apply A9;rw[hkm]at g3;have e3:some o=some ok:=ho.symm.trans g3;simp only[aa]at e3;rw[e3];exact g4
     ·rw[e1];exact h3 k ok g1 (by omega) g3 g4
end
open Classical in
noncomputable def SE(X:Env)(aP:FuncId)(ops:Array Oper)(S F:St)(T:Nat→St)(E:Nat→Prop)(p:Nat):St:=
 {f:=fun x=>if∃k o,E k∧ops.toList[k]?=some o∧o.dst=some x then F.f x else S.f x
  h:=fun i=>if∃k o,i=S.n+k∧ops.toList[k]?=some o∧cls X aP o=2∧E k∧p≤k then(T (i-S.n+1)).h i else(T p).h i
  n:=(T p).n}
structure Pv (X:Env) (aP:FuncId) (ops:Array Oper) (B:Nat→List Nat) (E:Nat→Prop) (p:Nat):Prop where
 lt: ∀k,E k→k<ops.size
 closed: ∀k,E k→ ∀i∈B k,E i
 le:p≤ops.size
 last:p=0∨ ∃o,ops.toList[p-1]?=some o∧cls X aP o=3
 iff: ∀(w:Nat) o,ops.toList[w]?=some o→cls X aP o=3→(E w↔w<p)
section
variable {X:Env} {C:dH} {aP:FuncId} {id:Nat} {ops:Array Oper} {S F:St} {T:Nat→St} {B:Nat→List Nat} {E:Nat→Prop} {p j:Nat} {o:Oper}
theorem wQ(t:Tr X C aP id ops S F T B)(g:Pv X aP ops B E p)(ho:ops.toList[j]?=some o)(hb: ∀i∈B j,E i)(Uv: ¬E j){x:Nat}(hx:x∈o.looksAt ops):
  (SE X aP ops S F T E p).f x=(T j).f x∧((∃p,(j,p)∈X.uG aP id)→F.f x=(T j).f x):=by
 have hj:=ya ho;by_cases hk: ∃(k:Nat) (ok:Oper),ops.toList[k]?=some ok∧ok.dst=some x
 ·obtain⟨k,ok,jF,hd⟩:=hk;rcases t.draw.looks j k o ok x ho jF hd hx with Pq|⟨hjb,eZ⟩
  ·have W1:=t.draw.lt j k hj Pq;have hf:=t.GS jF hd j W1 (by omega);refine⟨?_,fun _=>hf.symm⟩;simp only[SE];rw[if_pos ⟨k,ok,hb k Pq,jF,hd⟩,hf]
  ·have hjk:=t.draw.lt k j (ya jF) hjb;have only: ∀(i:Nat) oi,ops.toList[i]?=some oi→oi.dst=some x→i=k:=by
    intro i oi hi Am;rcases Nat.lt_trichotomy i k with h|h|h
    ·exact absurd hd (t.draw.dst i k oi ok x h hi jF Am)
    ·exact h
    ·exact absurd Am (t.draw.dst k i ok oi x h jF hi hd)
   refine⟨?_,fun⟨p,hp⟩=>absurd hp (eZ p)⟩;have h1:(T j).f x=S.f x:=by
    rw[t.wP (i:=0) j (by omega) (by omega) fun i oi _ h2 h3 h4=>by have:=only i oi h3 h4;omega,t.t0]
   simp only[SE];rw[if_neg,h1];rintro⟨i,oi,hE,hi,Am⟩;rw[only i oi hi Am]at hE;exact Uv (g.closed k hE j hjb)
 ·have hn: ∀(k:Nat) ok,ops.toList[k]?=some ok→ok.dst≠some x:=fun k ok h1 h2=>hk ⟨k,ok,h1,h2⟩;have h1:=t.ES hn j (by omega);have h2:=t.ES hn ops.size (Nat.le_refl _);rw[t.tN]at h2;refine⟨?_,fun _=>by rw[h1,h2]⟩;simp only[SE];rw[if_neg (fun⟨k,ok,_,h2,h3⟩=>hk ⟨k,ok,h2,h3⟩),h1]
theorem Ao{y:Operand}{x:Nat}(hy:y∈o.op.operands.toList)(e:y= .tmp x):x∈o.looksAt ops:=by
 subst e;exact List.mem_append_left _ (List.mem_filterMap.2 ⟨.tmp x,hy,rfl⟩)
theorem vO{i d:Nat}{want:Bool}(hg:o.guard=some (i,want))(hd:(ops.toList.map (·.dst))[i]?=some (some d)):d∈o.looksAt ops:=by
 refine List.mem_append_right _ ?_;rw[List.getElem?_map,Array.getElem?_toList]at hd;cases ho:ops[i]? with
 |none=>simp[ho]at hd
 |some x=>
  simp[ho]at hd;simp[hg,ho,hd]
theorem Qg(t:Tr X C aP id ops S F T B)(g:Pv X aP ops B E p)(ho:ops.toList[j]?=some o)(hb: ∀i∈B j,E i)(Uv: ¬E j):zD (ops.toList.map (·.dst)) o (T j) (SE X aP ops S F T E p):=by
 refine⟨fun y hy=> ?_,fun i want d hg hd=>(wQ t g ho hb Uv (vO hg hd)).1⟩;cases y with
 |tmp x=>exact(wQ t g ho hb Uv (Ao hy rfl)).1
 |_=>rfl
theorem CU(t:Tr X C aP id ops S F T B)(ho:ops.toList[j]?=some o){A Y:St}{v:V}(hA:A.f=(SE X aP ops S F T E p).f)(hv: ∀d,o.dst=some d→F.f d=v)(q:Nat):
  (A.set o.dst v).f=(SE X aP ops S F T (fun k=>E k∨k=j) q).f:=by
 funext x;by_cases hd:o.dst=some x
 ·rw[ER hd];simp only[SE];rw[if_pos ⟨j,o,.inr rfl,ho,hd⟩,hv x hd]
 ·rw[L3 hd,hA];simp only[SE];have this:(∃(k:Nat) (o:Oper),E k∧ops.toList[k]?=some o∧o.dst=some x)↔(∃(k:Nat) (o:Oper),(E k∨k=j)∧ops.toList[k]?=some o∧o.dst=some x):=by
   constructor
   ·rintro⟨k,ok,h1,h2,h3⟩;exact⟨k,ok,.inl h1,h2,h3⟩
   ·rintro⟨k,ok,h1|h1,h2,h3⟩
    ·exact⟨k,ok,h1,h2,h3⟩
    ·exfalso;subst h1;have e3:some o=some ok:=ho.symm.trans h2;simp only[aa]at e3;exact hd (by rw[e3];exact h3)
  by_cases hc: ∃(k:Nat) (o:Oper),E k∧ops.toList[k]?=some o∧o.dst=some x
  ·rw[if_pos hc,if_pos (this.1 hc)]
  ·rw[if_neg hc,if_neg (fun h=>hc (this.2 h))]
theorem qe(t:Tr X C aP id ops S F T B)(ho:ops.toList[j]?=some o){Y:St}{v:V}(he:T (j+1)=Y.set o.dst v): ∀d,o.dst=some d→F.f d=v:=by
 intro d hd;have hj:=ya ho;rw[←t.GS ho hd (j+1) (by omega) (by omega),he,ER hd]
theorem sV{A Y:St}(h1:A.f=Y.f)(h2:A.h=Y.h)(h3:A.n=Y.n):A=Y:=by
 cases A;cases Y;simp_all
theorem adv(t:Tr X C aP id ops S F T B)(g:Pv X aP ops B E p)(ho:ops.toList[j]?=some o)(hj: ¬E j)(hb: ∀i∈B j,E i):
  ∃p',Pv X aP ops B (fun k=>E k∨k=j) p'∧stepG X C aP (ops.toList.map (·.dst)) S.n j o (SE X aP ops S F T E p)=some (SE X aP ops S F T (fun k=>E k∨k=j) p'):=by
 have jw:=ya ho;have mW:=Qg t g ho hb hj;have gr:=t.step j o ho;have uniq: ∀{ok:Oper},ops.toList[j]?=some ok→ok=o:=fun h=>by
  have e3:=ho.symm.trans h;simp only[aa]at e3;exact e3.symm
 have Up: ∀k,(E k∨k=j)→k<ops.size:=fun k hk=>by
  rcases hk with hk|rfl
  ·exact g.lt k hk
  ·exact jw
 have YG: ∀k,(E k∨k=j)→ ∀i∈B k,E i∨i=j:=fun k hk i hi=>by
  rcases hk with hk|rfl
  ·exact .inl (g.closed k hk i hi)
  ·exact .inl (hb i hi)
 have L4: ∀k,E k→j∉B k:=fun k hk hjb=>hj (g.closed k hk j hjb);by_cases EM:cls X aP o=3
 ·
  have hW: ∀(w:Nat) ow,ops.toList[w]?=some ow→cls X aP ow=3→(E w↔w<j):=by
   intro w ow wD h3;constructor
   ·intro hw;rcases Nat.lt_trichotomy w j with h|h|h
    ·exact h
    ·subst h;exact absurd hw hj
    ·exact absurd (t.draw.ww j w o ow h ho wD h3 (by omega)) (L4 w hw)
   ·intro h;exact hb w (t.draw.ww w j ow o h wD ho EM (by omega))
  have W2:p≤j:=by
   rcases g.last with h|⟨ow,wD,h3⟩
   ·omega
   ·by_cases h0:p=0
    ·omega
    ·have:=(g.iff (p-1) ow wD h3).2 (by omega);have:=(hW (p-1) ow wD h3).1 this;omega
  obtain⟨q1,q2,q3⟩:=t.quiet j W2 (by omega) fun k ok h1 h2 jF h3=>by
   have:=(hW k ok jF h3).2 h2;have:=(g.iff k ok jF h3).1 this;omega
  have Uv: ∀k,j≤k→k<ops.size→(T j).h (S.n+k)=none:=fun k h1 h2=>t.sU j k h1 h2
  classical
  have hG: ∃G:aG,(∀i,G i=if∃k o,i=S.n+k∧ops.toList[k]?=some o∧cls X aP o=2∧E k∧j+1≤k then(T (i-S.n+1)).h i else none):=by
   exact⟨fun i=>if∃k o,i=S.n+k∧ops.toList[k]?=some o∧cls X aP o=2∧E k∧j+1≤k then(T (i-S.n+1)).h i else none,fun _=>rfl⟩
  obtain⟨G,hG⟩:=hG;have hGn: ∀i,G i≠none→ ∃k,i=S.n+k∧j+1≤k∧k<ops.size∧ ∃o,ops.toList[k]?=some o∧cls X aP o=2∧E k:=by
   intro i hi;rw[hG]at hi;split at hi
   ·rename_i hx;obtain⟨k,ok,h1,h2,h3,h4,h5⟩:=hx;exact⟨k,h1,h5,g.lt k h4,ok,h2,h3,h4⟩
   ·exact absurd rfl hi
  have hh:(SE X aP ops S F T E p).h=jL (T j).h G:=by
   funext i;simp only[SE,jL];split
   ·rename_i hx;obtain⟨k,ok,rfl,jF,h2,hE,Uw⟩:=hx;have W1:k≠j:=fun e=>by subst e;exact hj hE
    rcases Nat.lt_or_ge k j with h|h
    ·have WZ:G (S.n+k)=none:=by
      cases hz:G (S.n+k) with
      |none=>rfl
      |some y=>
       obtain⟨k2,e1,e2,_⟩:=hGn (S.n+k) (by rw[hz];simp);omega
     rw[WZ,show S.n+k-S.n+1=k+1 by omega,q3 k ok Uw h jF h2]
    ·rw[hG,if_pos ⟨k,ok,rfl,jF,h2,hE,by omega⟩];cases hz:(T (S.n+k-S.n+1)).h (S.n+k) with
     |some y=>rfl
     |none=>
      simp only;rw[Uv k (by omega) (g.lt k hE)]
   ·rename_i hx;have WZ:G i=none:=by
     cases hz:G i with
     |none=>rfl
     |some y=>
      obtain⟨k2,e1,e2,e3,o2,e4,e5,e6⟩:=hGn i (by rw[hz];simp);exact absurd ⟨k2,o2,e1,e4,e5,e6,by omega⟩ hx
    rw[WZ];simp only;rw[q2 i fun k ok h1 h2 jF h3 e=>hx ⟨k,ok,e,jF,h3,hb k (t.draw.ww k j ok o h2 jF ho EM (by omega)),h1⟩]
  obtain⟨v,e1,e2⟩:=EH gr;have aei:Pv X aP ops B (fun k=>E k∨k=j) (j+1):=⟨Up,YG,by omega,.inr ⟨o,by simpa using ho,EM⟩,fun w ow wD h3=>by
   have:=hW w ow wD h3;constructor
   ·rintro(h|h)
    ·have:=this.1 h;omega
    ·omega
   ·intro h;by_cases e:w=j
    ·exact .inr e
    ·exact .inl (this.2 (by omega))⟩
  have hh':(SE X aP ops S F T (fun k=>E k∨k=j) (j+1)).h=jL (T (j+1)).h G:=by
   funext i;simp only[SE,jL];by_cases hx: ∃k o,i=S.n+k∧ops.toList[k]?=some o∧cls X aP o=2∧E k∧j+1≤k
   ·obtain⟨k,ok,rfl,jF,h2,hE,hk⟩:=hx;rw[if_pos ⟨k,ok,rfl,jF,h2,.inl hE,hk⟩,hG,if_pos ⟨k,ok,rfl,jF,h2,hE,hk⟩];cases hz:(T (S.n+k-S.n+1)).h (S.n+k) with
    |some y=>rfl
    |none=>
     simp only;rw[t.sU (j+1) k hk (g.lt k hE)]
   ·rw[if_neg (fun⟨k,ok,h1,jF,h2,hE,hk⟩=>hx ⟨k,ok,h1,jF,h2,by
     rcases hE with hE|hE
     ·exact hE
     ·omega,hk⟩),hG,if_neg hx]
  have D4:(SE X aP ops S F T (fun k=>E k∨k=j) (j+1)).n=(T (j+1)).n:=rfl;refine⟨j+1,aei,?_⟩;have hf:=CU (A:={SE X aP ops S F T E p with h:=(T (j+1)).h,n:=(T (j+1)).n}) (p:=p) (E:=E) (Y:=S) t ho rfl (qe t ho e1) (j+1);by_cases aek: ∀i,G i=none
  ·have eG: ∀h:aG,jL h G=h:=fun h=>by funext i;exact Bh (aek i)
   rw[eG]at hh hh';rw[e2 _ mW hh q1.symm];exact congrArg some (sV hf (by rw[ck,hh']) (by rw[cZ,D4]))
  ·
   have hN:oA (T j).h G (T j).n:=fun i hi=>by
    obtain⟨k,h1,h2,h3,_⟩:=hGn i hi;have:=t.Qf j (by omega);subst h1;exact⟨Uv k (by omega) h3,by omega⟩
   have hGj:G (S.n+j)=none:=by
    cases hz:G (S.n+j) with
    |none=>rfl
    |some y=>
     obtain⟨k2,e1,e2,_⟩:=hGn (S.n+j) (by rw[hz];simp);omega
   have WI:=EN t.kX hN hGj gr;obtain⟨v2,e3,e4⟩:=EH WI;have Ux:zD (ops.toList.map (·.dst)) o {T j with h:=jL (T j).h G} (SE X aP ops S F T E p):=mW;rw[e4 _ Ux hh q1.symm];have Uy: ∀d,o.dst=some d→v2=v:=by
    intro d hd;have h1:=congrArg (fun Z:St=>Z.f d) e3;have h2:=congrArg (fun Z:St=>Z.f d) e1;simp only[ER hd]at h1 h2;rw[←h1,←h2]
   have P9: ∀d,o.dst=some d→F.f d=v2:=fun d hd=>by rw[Uy d hd];exact qe t ho e1 d hd
   have hf2:=CU (A:={SE X aP ops S F T E p with h:=jL (T (j+1)).h G,n:=(T (j+1)).n}) (p:=p) (E:=E) (Y:=S) t ho rfl P9 (j+1);exact congrArg some (sV hf2 (by rw[ck,hh']) (by rw[cZ,D4]))
 ·
  have zB:Pv X aP ops B (fun k=>E k∨k=j) p:=⟨Up,YG,g.le,g.last,fun w ow wD h3=>by
   constructor
   ·rintro(h|h)
    ·exact(g.iff w ow wD h3).1 h
    ·subst h;rw[uniq wD]at h3;exact absurd h3 EM
   ·intro h;exact .inl ((g.iff w ow wD h3).2 h)⟩
  refine⟨p,zB,?_⟩;have D4:(SE X aP ops S F T (fun k=>E k∨k=j) p).n=(SE X aP ops S F T E p).n:=rfl;have LB:cls X aP o≠2→(SE X aP ops S F T E p).h=(SE X aP ops S F T (fun k=>E k∨k=j) p).h:=by
   intro A9;funext i;simp only[SE];by_cases hc: ∃(k:Nat) (ok:Oper),i=S.n+k∧ops.toList[k]?=some ok∧cls X aP ok=2∧E k∧p≤k
   ·obtain⟨k,ok,h1,h2,h3,h4,h5⟩:=hc;rw[if_pos ⟨k,ok,h1,h2,h3,h4,h5⟩,if_pos ⟨k,ok,h1,h2,h3,.inl h4,h5⟩]
   ·rw[if_neg hc,if_neg];rintro⟨k,ok,h1,h2,h3,h4|h4,h5⟩
    ·exact hc ⟨k,ok,h1,h2,h3,h4,h5⟩
    ·subst h4;rw[uniq h2]at h3;exact A9 h3
  have kf:cls X aP o=0∨cls X aP o=1∨cls X aP o=2:=by
   have:cls X aP o≤3:=by
    unfold cls;repeat' split
    all_goals omega
   omega
  rcases kf with hc|hc|hc
  ·obtain⟨v,e1,e2⟩:=LW hc gr;rw[e2 _ mW];exact congrArg some (sV (CU (Y:=S) t ho rfl (qe t ho e1) p) (by rw[ck,LB (by omega)]) (by rw[cZ,D4]))
  ·have fin: ∀v,(∀d,o.dst=some d→F.f d=v)→some ((SE X aP ops S F T E p).set o.dst v)=some (SE X aP ops S F T (fun k=>E k∨k=j) p):=fun v hv=>
    congrArg some (sV (CU (Y:=S) t ho rfl hv p) (by rw[ck,LB (by omega)]) (by rw[cZ,D4]))
   have hWp: ∀(w:Nat) ow,ops.toList[w]?=some ow→cls X aP ow=3→(w∈B j→w<p)∧(j∈B w→p≤w):=fun w ow wD h3=>
    ⟨fun hm=>(g.iff w ow wD h3).1 (hb w hm),fun hm=>by
     rcases Nat.lt_or_ge w p with h|h
     ·exact absurd hm (L4 w ((g.iff w ow wD h3).2 h))
     ·exact h⟩
   rcases t.draw.reads j p o ho hc g.le g.last hWp with⟨W2,YH⟩|Uz
   ·obtain⟨q1,q2,q3⟩:=t.quiet j W2 (by omega) fun k ok h1 h2 jF h3=>by
     have:=((YH k ok jF).1 h3).1 h2;omega
    obtain⟨v,e1,e2⟩:=LX hc gr;rw[e2 _ mW ?_]
    ·exact fin v (qe t ho e1)
    ·intro i ob hi;simp only[SE];split
     ·rename_i hx;obtain⟨k,ok,rfl,jF,h2,hE,Uw⟩:=hx;rcases Nat.lt_or_ge k j with h|h
      ·rw[show S.n+k-S.n+1=k+1 by omega,←q3 k ok Uw h jF h2];exact hi
      ·rw[t.sU j k h (g.lt k hE)]at hi;cases hi
     ·rename_i hx;rw[←q2 i fun k ok h1 h2 jF h3 e=>hx ⟨k,ok,e,jF,h3,hb k ((YH k ok jF).2 h3 h1 h2),h1⟩];exact hi
   ·rcases t.aeg (j,p) Uz with⟨o',h1,ET⟩|⟨o',T',v',h1,h2,h3,h4⟩
    ·have eo:=uniq h1;subst eo;unfold zU at ET;cases hg:o'.guard with
     |none=>rw[hg]at ET;exact absurd ET (fun h=>h)
     |some gw=>
      obtain⟨jg,want⟩:=gw;rw[hg]at ET;simp only at ET;cases hd:(ops.toList.map (·.dst))[jg]? with
      |none=>rw[hd]at ET;exact absurd ET (fun h=>h)
      |some od=>
       cases od with
       |none=>rw[hd]at ET;exact absurd ET (fun h=>h)
       |some d=>
        rw[hd]at ET;simp only at ET;have hl:=wQ t g ho hb hj (vO hg hd);rw[hl.2 ⟨p,Uz⟩]at ET;have e1:=xX (X:=X) (C:=C) (aP:=aP) (n0:=S.n) (k:=j) hg hd ET;rw[gr]at e1;simp only[aa]at e1;rw[←hl.1]at ET;rw[xX hg hd ET];exact fin _ (qe t ho e1)
    have eo:=uniq h1;subst eo;have eT:T'=T p:=by
     have:=t.pre p g.le;simp only at h2;rw[h2]at this;simpa using this
    subst eT;rcases kQ gr with⟨g1,g2⟩|⟨g1,g2⟩
    ·rw[g2 _ mW];have eZ: ∀x args gq,o'.op≠ .call ⟨.value x,args,gq⟩:=by
      intro x args gq e;simp[aR,e]at h3
     obtain⟨_,k2⟩:=LM hc eZ h3;have hcg: ∀y∈o'.op.operands.toList,(SE X aP ops S F T E p).ev y=F.ev y:=by
      intro y hy;cases y with
      |tmp x=>
       have:=wQ t g ho hb hj (Ao hy rfl);show(SE X aP ops S F T E p).f x=F.f x;rw[this.1,this.2 ⟨p,Uz⟩]
      |_=>rfl
     rw[jY eZ,lb hcg,k2 (SE X aP ops S F T E p).h (S.n+j) ?_]
     ·exact fin v' h4
     ·intro i ob hi;simp only[SE];split
      ·rename_i hx;obtain⟨k,ok,rfl,jF,h2,hE,Uw⟩:=hx;rw[t.sU p k Uw (g.lt k hE)]at hi;cases hi
      ·exact hi
    ·rw[g2 _ mW];exact fin _ (qe t ho g1)
  ·obtain⟨v,ob,e1,e2⟩:=LY hc gr;rw[e2 _ mW];have W2:p≤j:=by
    rcases g.last with h|⟨ow,wD,h3⟩
    ·omega
    ·by_cases h0:p=0
     ·omega
     ·have hE:=(g.iff (p-1) ow wD h3).2 (by omega);rcases Nat.lt_trichotomy (p-1) j with h|h|h
      ·omega
      ·rw[h]at hE;exact absurd hE hj
      ·exact absurd (t.draw.ww j (p-1) o ow h ho wD h3 (by omega)) (L4 _ hE)
   refine congrArg some (sV (CU (A:={SE X aP ops S F T E p with h:=uj (SE X aP ops S F T E p).h (S.n+j) ob}) (E:=E) (p:=p) (Y:=S) t ho rfl (qe t ho e1) p) ?_ (by rw[cZ,D4]));rw[ck];funext i;by_cases hi:i=S.n+j
   ·subst hi;have hR:(SE X aP ops S F T (fun k=>E k∨k=j) p).h (S.n+j)=(T (j+1)).h (S.n+j):=by
     simp only[SE];rw[if_pos ⟨j,o,rfl,ho,hc,.inr rfl,W2⟩,show S.n+j-S.n+1=j+1 by omega]
    have hL:(SE X aP ops S F T E p).h (S.n+j)=none:=by
     simp only[SE];rw[if_neg,t.sU p j W2 jw];rintro⟨k,ok,h1,_,_,h4,_⟩;have:k=j:=by omega
     subst this;exact hj h4
    rw[hR,e1,ck];cases ob with
    |none=>simp only[uj];rw[hL,t.sU j j (Nat.le_refl _) jw]
    |some ob=>simp[uj,aS]
   ·have:uj (SE X aP ops S F T E p).h (S.n+j) ob i=(SE X aP ops S F T E p).h i:=by
     cases ob with
     |none=>rfl
     |some ob=>simp[uj,aS,hi]
    show uj (SE X aP ops S F T E p).h (S.n+j) ob i=_;rw[this];simp only[SE];by_cases sM: ∃(k:Nat) (ok:Oper),i=S.n+k∧ops.toList[k]?=some ok∧cls X aP ok=2∧E k∧p≤k
    ·obtain⟨k,ok,h1,h2,h3,h4,h5⟩:=sM;rw[if_pos ⟨k,ok,h1,h2,h3,h4,h5⟩,if_pos ⟨k,ok,h1,h2,h3,.inl h4,h5⟩]
    ·rw[if_neg sM,if_neg];rintro⟨k,ok,h1,h2,h3,h4|h4,h5⟩
     ·exact sM ⟨k,ok,h1,h2,h3,h4,h5⟩
     ·subst h4;exact hi h1
end
section
variable {X:Env} {C:dH} {aP:FuncId} {id nt:Nat} {ops:Array Oper} {S F:St} {T:Nat→St} {B:Nat→List Nat}
theorem L5(t:Tr X C aP id ops S F T B){E:Nat→Prop}{p:Nat}(g:Pv X aP ops B E p)(iG: ∀k,k<ops.size→E k):SE X aP ops S F T E p=F:=by
 obtain⟨q1,q2,q3⟩:=t.quiet ops.size g.le (Nat.le_refl _) fun k ok h1 h2 jF h3=>by
  have:=(g.iff k ok jF h3).1 (iG k h2);omega
 rw[t.tN]at q1 q2 q3;refine sV ?_ ?_ ?_
 ·funext x;simp only[SE];split
  ·rfl
  ·rename_i hx;have:=t.ES (x:=x) (fun k o h1 h2=>hx ⟨k,o,iG k (ya h1),h1,h2⟩) ops.size (Nat.le_refl _);rw[t.tN]at this;exact this.symm
 ·funext i;simp only[SE];split
  ·rename_i hx;obtain⟨k,ok,rfl,jF,h2,hE,Uw⟩:=hx;rw[show S.n+k-S.n+1=k+1 by omega,←q3 k ok Uw (ya jF) jF h2]
  ·rename_i hx;rw[q2 i fun k ok h1 h2 jF h3 e=>hx ⟨k,ok,e,jF,h3,iG k h2,h1⟩]
 ·exact q1.symm
theorem Qh (hC:k8 X C) (hK:oC X) (hG: ∀aP dst g args S S1,cX X C aP dst g args S=some S1→pA X g) (hB: ∀o∈ops.toList,H5 X nt o=true) (t:Tr X C aP id ops S F T B)
  {Q:Exit→Act→World→Prop} {w:World} {I:Nat→Prop} {σ:dK} (hQ: ∀a' w',EF nt S.n w I σ S.h F a' w'→Q .normal a' w'):
  ∀(fuel:Nat) (gn:Array Bool) (E:Nat→Prop) (p:Nat) (U:List Nat) (a':Act) (w':World) (I':Nat→Prop) (σ':dK),gn.size=ops.size→(∀k,E k↔gn.getD k false=true)→Pv X aP ops B E p→
   U.Nodup→U.length=fuel→(∀k,k<ops.size→(¬E k↔k∈U))→
   Step w I σ S.h S.n w' I' σ' (SE X aP ops S F T E p).h (SE X aP ops S F T E p).n→dM w' I' σ' (SE X aP ops S F T E p).f a'→gO σ' (SE X aP ops S F T E p).h (SE X aP ops S F T E p).n→nt≤a'.tmps.size→a'.defers=[]→
   (∀q,q<ops.size→ ¬E q→(SE X aP ops S F T E p).h (S.n+q)=none∧σ' (S.n+q)=none)→
   wpAny X.P .any ops Q fuel gn a' w':=by
 have UA: ∀{gn:Array Bool} {E:Nat→Prop},gn.size=ops.size→(∀k,E k↔gn.getD k false=true)→Region.ready .any ops gn=[]→ ∀k,k<ops.size→E k:=by
  intro gn E hs hE hr k;induction k using Nat.strongRecOn with
  |_ k ih=>
   intro hk;by_cases hEk:E k
   ·exact hEk
   ·exfalso;have ho:=An (ops:=ops) hk;have xK:k∈Region.ready .any ops gn:=by
     rw[mem_ready];have hl:gn.getD k false=false:=by
      have:=mt (hE k).2 hEk;simpa using this
     refine⟨?_,ops.toList[k],by rw[←Array.getElem?_toList];exact ho,fun e he hb=> ?_⟩
     ·rw[Array.getD_eq_getD_getElem?]at hl⊢;have:gn[k]?=some (gn[k]'(by omega)):=by simp[hs,hk]
      rw[this]at hl⊢;exact hl
     ·have jw:=t.draw.aee k _ e ho he hb;exact(hE e.on).1 (ih e.on jw (by omega))
    rw[hr]at xK;cases xK
 have fin: ∀{E:Nat→Prop} {p:Nat} {a':Act} {w':World} {I':Nat→Prop} {σ':dK},Pv X aP ops B E p→(∀k,k<ops.size→E k)→Step w I σ S.h S.n w' I' σ' (SE X aP ops S F T E p).h (SE X aP ops S F T E p).n→dM w' I' σ' (SE X aP ops S F T E p).f a'→
   gO σ' (SE X aP ops S F T E p).h (SE X aP ops S F T E p).n→nt≤a'.tmps.size→a'.defers=[]→Q .normal a' w':=by
  intro E p a' w' I' σ' g iG gr hF mJ hs hd;rw[L5 t g iG]at gr hF mJ;exact hQ a' w' ⟨I',σ',gr.le,gr,hF,mJ,hs,hd⟩
 intro fuel;induction fuel with
 |zero=>
  intro gn E p U a' w' I' σ' W3 hE g hnd hU hUE gr hF mJ hs hd hq;have iG: ∀k,k<ops.size→E k:=fun k hk=>by
   have:U=[]:=List.eq_nil_of_length_eq_zero hU;by_cases h:E k
   ·exact h
   ·have:=(hUE k hk).1 h
    simp_all
  refine⟨?_,fin g iG gr hF mJ hs hd⟩;cases hr:Region.ready .any ops gn with
  |nil=>rfl
  |cons k r=>
   exfalso;have hm:k∈Region.ready .any ops gn:=by rw[hr];simp
   rw[mem_ready]at hm;obtain⟨h1,o,h2,_⟩:=hm;have hk:k<ops.size:=(Array.getElem?_eq_some_iff.1 h2).1;have:=(hE k).1 (iG k hk);rw[Array.getD_eq_getD_getElem?]at h1 this;have h3:gn[k]?=some (gn[k]'(by omega)):=by simp[W3,hk]
   rw[h3]at h1 this;simp at h1 this;rw[h1]at this;cases this
 |succ fuel ih=>
  intro gn E p U a' w' I' σ' W3 hE g hnd hU hUE gr hF mJ hs hd hq;refine⟨fun hr=>fin g (UA W3 hE hr) gr hF mJ hs hd,fun j hj=> ?_⟩;rw[mem_ready]at hj;obtain⟨h1,o,W4,UB⟩:=hj;have vE:j<ops.size:=(Array.getElem?_eq_some_iff.1 W4).1;have ho:ops.toList[j]?=some o:=by rw[Array.getElem?_toList];exact W4
  have hlj:gn[j]?=some (gn[j]'(by omega)):=by simp[W3,vE]
  have hEj: ¬E j:=fun h=>by
   have:=(hE j).1 h;rw[Array.getD_eq_getD_getElem?]at h1 this;rw[hlj]at h1 this;simp at h1 this;rw[h1]at this;cases this
  have hb: ∀i∈B j,E i:=fun i hi=>by
   obtain⟨e,he,UC,Lh⟩:=t.draw.bef j o i ho hi;have hEe:=(hE e.on).2 (UB e he UC);rcases Lh with rfl|Lh
   ·exact hEe
   ·exact g.closed _ hEe i Lh
  obtain⟨p',g',qX⟩:=adv t g ho hEj hb;have Ym:H5 X nt o=true:=hB o (by
   have:=Array.mem_of_getElem? W4;simpa using this)
  have LI: ∀x,o.dst=some x→x<a'.tmps.size:=fun x hx=>Nat.lt_of_lt_of_le (GO Ym x hx) hs;have hE': ∀k,(E k∨k=j)↔(gn.setIfInBounds j true).getD k false=true:=by
   intro k;rw[Array.getD_eq_getD_getElem?];by_cases W1:k=j
   ·subst W1;simp[W3,vE]
   ·have:=hE k;rw[Array.getD_eq_getD_getElem?]at this;rw[Array.getElem?_setIfInBounds_ne (Ne.symm W1),←this];simp[W1]
  have hjU:j∈U:=(hUE j vE).1 hEj;have ael: ∀k,k<ops.size→(¬(E k∨k=j)↔k∈U.erase j):=by
   intro k hk;rw[hnd.mem_erase_iff,←hUE k hk];constructor
   ·intro h;exact⟨fun e=>h (.inr e),fun e=>h (.inl e)⟩
   ·rintro⟨h1,h2⟩ (h|h)
    ·exact h2 h
    ·exact h1 h
  have xe:S.n+ops.size≤(SE X aP ops S F T E p).n:=t.Qf p g.le;have next: ∀(a2:Act) (w2:World) (I2:Nat→Prop) (σ2:dK),Step w I σ S.h S.n w2 I2 σ2 (SE X aP ops S F T (fun k=>E k∨k=j) p').h (SE X aP ops S F T (fun k=>E k∨k=j) p').n→dM w2 I2 σ2 (SE X aP ops S F T (fun k=>E k∨k=j) p').f a2→
    gO σ2 (SE X aP ops S F T (fun k=>E k∨k=j) p').h (SE X aP ops S F T (fun k=>E k∨k=j) p').n→nt≤a2.tmps.size→a2.defers=[]→
    (∀q,q<ops.size→ ¬(E q∨q=j)→(SE X aP ops S F T (fun k=>E k∨k=j) p').h (S.n+q)=none∧σ2 (S.n+q)=none)→wpAny X.P .any ops Q fuel (gn.setIfInBounds j true) a2 w2:=
   fun a2 w2 I2 σ2 k1 k2 k3 k4 k5 k6=>ih _ _ p' (U.erase j) a2 w2 I2 σ2 (by simp[W3]) hE' g' (hnd.erase j) (by rw[List.length_erase_of_mem hjU,hU];rfl) ael k1 k2 k3 k4 k5 k6
  generalize SE X aP ops S F T (fun k=>E k∨k=j) p'=Z at*;generalize SE X aP ops S F T E p=A at*;unfold wpOp;simp only[W4];have run:cw X C aP S.n j o A=some Z→o.wp X.P a' w' (wpAny X.P .any ops Q fuel (gn.setIfInBounds j true)) Q:=by
   intro lJ;refine Oper.wp_mono (fun a2 w2 hh=> ?_) (CG hC hK hG Ym lJ gr.rel hF mJ (hq j vE hEj).1 (hq j vE hEj).2 (by omega) Q);obtain⟨u,v,I2,σ2,rfl,ik,hf,Qe,hle,aem,EB⟩:=hh;exact next _ _ I2 σ2 (gr.join Qe (Nat.le_refl _) hle) ((hF.ext Qe.ext).Qa ik o.dst LI hf) aem (by rw[uf];exact hs) (by rw[put_defers];exact hd)
    fun q hq1 UD=>EB q (fun e=>UD (.inr e)) (by omega) (hq q hq1 fun e=>UD (.inl e)).1 (hq q hq1 fun e=>UD (.inl e)).2
  have skip:A.set o.dst (.cg [])=Z→wpAny X.P .any ops Q fuel (gn.setIfInBounds j true) (a'.put o.dst undef) w':=by
   intro lJ;subst lJ;refine next _ _ I' σ' (by rw[ck,cZ];exact gr) (hF.Qa Af o.dst LI rfl) (by rw[ck,cZ];exact mJ) (by rw[uf];exact hs) (by rw[put_defers];exact hd) fun q hq1 UD=> ?_;rw[ck];exact hq q hq1 fun e=>UD (.inl e)
  unfold stepG at qX;split at qX
  ·rename_i hg;have hw:Region.wanted o (yielded ops a'.tmps)=true:=by simp[Region.wanted,hg]
   simp only[hw,if_true];exact .inl (run qX)
  ·rename_i i want hg;split at qX
   case h_2=>cases qX
   rename_i d zC;have LK:=xQ hF hg zC;split at qX
   ·rename_i b IE;have hw:=LK.1 b IE;split at qX
    ·rename_i CH;subst CH;rw[beq_self_eq_true]at hw;simp only[hw,if_true];exact .inl (run qX)
    ·rename_i CH;have:(b==want)=false:=by simpa using CH
     rw[this]at hw;simp only[hw,Bool.false_eq_true,if_false];exact skip (by simpa using qX)
   ·rename_i IE;have hw:=LK.2 IE;simp only[hw,Bool.false_eq_true,if_false];exact skip (by simpa using qX)
   ·cases qX
theorem UE(X:Env):EG X (fZ X):=by
 intro C hC hN hV hK hG aP id nt ops S F hB bJ tL YI a w I σ R hF mJ hs hd Q hQ;obtain⟨T,h0,hn,aen,gr⟩:=trace tL;have hlen:ops.toList.length=ops.size:=Array.length_toList;have t:Tr X C aP id ops S F T (fun j=>(L1 ops.toList).getD j []):=
  ⟨EP bJ,hN,hV,h0,by rw[←hlen];exact hn,gr,fun p hp=>aen p (by omega),YI,fun i hi=>(mJ i hi).1⟩
 refine wp_region_any t.draw.mixed ?_;have g:Pv X aP ops (fun j=>(L1 ops.toList).getD j []) (fun _=>False) 0:=⟨fun _ h=>h.elim,fun _ h=>h.elim,by omega,.inl rfl,fun w o _ _=>⟨fun h=>h.elim,fun h=>by omega⟩⟩;have hSE:SE X aP ops S F T (fun _=>False) 0={S with n:=S.n+ops.size}:=by
  refine sV ?_ ?_ ?_
  ·funext x;simp only[SE];rw[if_neg (fun⟨_,_,h,_⟩=>h)]
  ·funext i;simp only[SE];rw[if_neg (fun⟨_,_,_,_,_,h,_⟩=>h),h0]
  ·simp only[SE];rw[h0]
 have SA:=Step.drew R S.n;refine Qh hC hK hG hB t (w:=w) (I:=I) (σ:=σ) hQ ops.size _ (fun _=>False) 0 (List.range ops.size) a w.drew I σ (by simp) (fun k=> ?_) g List.nodup_range (by simp) (fun k hk=>by simp[hk]) ?_ ?_ ?_ hs hd ?_
 ·constructor
  ·intro h;exact h.elim
  ·intro h;rw[Array.getD_eq_getD_getElem?,Array.getElem?_replicate]at h;split at h<;>simp at h
 ·rw[hSE];exact SA.GN (Nat.le_refl _) (by simp)
 ·rw[hSE];exact hF.ext SA.ext
 ·rw[hSE];exact fun i hi=>mJ i (by simp only at hi;omega)
 ·intro q _ _;rw[hSE];exact mJ _ (by omega)
end
end Go.Abs
