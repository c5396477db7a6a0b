/- Part of a proof: engine A12. -/
import Derived.Test.YtdngefmliibcgaaGreatM25
import Derived.Deep.AppendSrc
set_option linter.all false
set_option maxRecDepth 20000
set_option maxHeartbeats 20000000
namespace Go.Abs
open Go
def flat(es:List V):List V:=es.flatMap V.cells
theorem jX(e:V)(es:List V):flat (e::es)=e.cells++flat es:=rfl
theorem mr(es xs:List V):flat (es++xs)=flat es++flat xs:=by simp[flat]
theorem iR{es:List V}{k:Nat}(h: ∀e∈es,e.cells.length=k):(flat es).length=es.length*k:=by
 induction es with
 |nil=>simp[flat]
 |cons e es ih=>
  rw[jX,List.length_append,ih (fun x hx=>h x (by simp[hx])),h e (by simp),List.length_cons,Nat.add_mul];omega
section
variable {w w':World} {I I':Nat→Prop} {σ σ':dK}
theorem bS.append{cs ds:List V}{us vs:List Value}(h1:bS w I σ cs us)(h2:bS w I σ ds vs):bS w I σ (cs++ds) (us++vs):=by
 induction cs generalizing us with
 |nil=>simp only[bS]at h1;subst h1;simpa using h2
 |cons c cs ih=>
  simp only[bS]at h1;obtain⟨u,r,rfl,h3,h4,h5⟩:=h1;simp only[List.cons_append,bS];exact⟨u,r++vs,rfl,h3,h4,ih h5⟩
theorem bS.split{cs ds:List V}{us:List Value}(h:bS w I σ (cs++ds) us): ∃KC PX,us=KC++PX∧bS w I σ cs KC∧bS w I σ ds PX:=by
 induction cs generalizing us with
 |nil=>exact⟨[],us,rfl,by simp[bS],by simpa using h⟩
 |cons c cs ih=>
  simp only[List.cons_append,bS]at h;obtain⟨u,r,rfl,h3,h4,h5⟩:=h;obtain⟨KC,PX,rfl,h6,h7⟩:=ih h5;exact⟨u::KC,PX,rfl,by simp only[bS];exact⟨u,KC,rfl,h3,h4,h6⟩,h7⟩
theorem nJ(E:Ext w I σ w' I' σ'){k b:Nat}: ∀{es:List V} {us:List Value} {o:Nat},(∀e∈es,e.cells.length=k)→bS w I σ (flat es) us→(∀j u,us[j]?=some u→w'.cell? ⟨b,o+j,none⟩=some u)→bw w' I' σ' es k b o
 | [],_,_,_,_,_=>by simp[bw]
 |e::es,us,o,hk,hr,hc=>by
  rw[jX]at hr;obtain⟨KC,PX,rfl,h1,h2⟩:=hr.split;have hl:KC.length=k:=by rw[←((bH _ _).1 h1).1];exact hk e (by simp)
  rw[fp];refine⟨hk e (by simp),fun j c hj=> ?_,nJ E (fun x hx=>hk x (by simp[hx])) h2 (fun j u hu=> ?_)⟩
  ·obtain⟨u,hu,h3,h4⟩:=h1.get hj;have vE:j<KC.length:=(List.getElem?_eq_some_iff.1 hu).1;exact⟨u,hc j u (by rw[List.getElem?_append_left vE];exact hu),h3,h4.ext E⟩
  ·have:=hc (k+j) u (by rw[List.getElem?_append_right (by omega),hl];simpa using hu);rwa[show o+(k+j)=o+k+j by omega]at this
theorem kZ{k b:Nat}: ∀{es:List V} {o:Nat},bw w I σ es k b o→ ∃us:List Value,us.length=es.length*k∧(∀j u,us[j]?=some u→w.cell? ⟨b,o+j,none⟩=some u)∧bS w I σ (flat es) us
 | [],o,_=>⟨[],by simp,by simp,by simp[flat,bS]⟩
 |e::es,o,h=>by
  rw[fp]at h;obtain⟨h1,h2,h3⟩:=h;obtain⟨KC,XQ,Ig,R9⟩:=h2.XJ;obtain⟨PX,KD,Ih,hr2⟩:=kZ h3;refine⟨KC++PX,by rw[List.length_append,XQ,KD,h1,List.length_cons,Nat.add_mul];omega,fun j u hu=> ?_,by rw[jX];exact R9.append hr2⟩;by_cases hj:j<KC.length
  ·rw[List.getElem?_append_left hj]at hu;exact Ig j u hu
  ·rw[List.getElem?_append_right (by omega)]at hu;have:=Ih _ u hu;rwa[show o+k+(j-KC.length)=o+j by omega]at this
theorem bw.lens{es:List V}{k b o:Nat}(h:bw w I σ es k b o): ∀e∈es,e.cells.length=k:=by
 intro e he;obtain⟨i,hi,rfl⟩:=List.mem_iff_getElem.1 he;exact(h.get (i:=i) (by simp)).1
theorem qO(n:Nat)(v:V):flat (List.replicate n v)=(List.replicate n v.cells).flatten:=by
 induction n with
 |zero=>rfl
 |succ n ih=>rw[List.replicate_succ,jX,ih,List.replicate_succ,List.flatten_cons]
theorem sy{cs:List V}{us:List Value}(h:bS w I σ cs us)(n:Nat):bS w I σ (List.replicate n cs).flatten (List.replicate n us).flatten:=by
 induction n with
 |zero=>simp[bS]
 |succ n ih=>rw[List.replicate_succ,List.replicate_succ,List.flatten_cons,List.flatten_cons];exact h.append ih
theorem gW{α:Type}(l:List α)(hp:0<l.length): ∀(n j:Nat),(List.replicate n l).flatten[j]?=if j<n*l.length then l[j % l.length]? else none
 |0,j=>by simp
 |n+1,j=>by
  rw[List.replicate_succ,List.flatten_cons];by_cases hj:j<l.length
  ·rw[List.getElem?_append_left hj,if_pos (by rw[Nat.add_mul];omega),Nat.mod_eq_of_lt hj]
  ·rw[List.getElem?_append_right (by omega),gW l hp n (j-l.length)];by_cases h2:j-l.length<n*l.length
   ·rw[if_pos h2,if_pos (by rw[Nat.add_mul];omega),←Nat.mod_eq_sub_mod (a:=j) (b:=l.length) (by omega)]
   ·rw[if_neg h2,if_neg (by rw[Nat.add_mul];omega)]
theorem z7(z:Array Value)(k n:Nat)(hk:z.size=k)(hp:0<k):((Array.range (n*k)).map (z[· % z.size]!)).toList=(List.replicate n z.toList).flatten:=by
 subst hk;apply List.ext_getElem?;intro j;rw[gW z.toList (by simpa using hp)];simp only[Array.length_toList,Array.getElem?_toList,Array.getElem?_map];by_cases hj:j<n*z.size
 ·rw[if_pos hj];have hm:j % z.size<z.size:=Nat.mod_lt _ hp;simp[Array.getElem?_range,hj,hm]
 ·rw[if_neg hj];simp[Array.getElem?_range,hj]
theorem xp{n:Nat}{vs xs:List V}{ys us:List Value}(h1:bS w I σ xs us)(h2:bS w I σ vs ys)(hle:n+vs.length≤xs.length):
  bS w I σ (gf n vs xs) (us.take n++ys++us.drop (n+ys.length)):=by
 have l1:=((bH _ _).1 h1).1;have l2:=((bH _ _).1 h2).1;rw[bH];refine⟨by rw[me];simp;omega,fun j c u hc hu=> ?_⟩;rw[kH _ _ _ _ hle]at hc;split at hc
 ·rename_i hj;rw[List.getElem?_append_left (by simp;omega),List.getElem?_append_right (by simp;omega)]at hu;simp only[List.length_take]at hu;rw[show j-min n us.length=j-n by omega]at hu;exact((bH _ _).1 h2).2 _ c u hc hu
 ·rename_i hj;by_cases hjn:j<n
  ·rw[List.append_assoc,List.getElem?_append_left (by simp;omega),List.getElem?_take,if_pos hjn]at hu;exact((bH _ _).1 h1).2 _ c u hc hu
  ·rw[List.getElem?_append_right (by simp;omega),List.getElem?_drop]at hu;simp only[List.length_append,List.length_take]at hu;rw[show n+ys.length+(j-(min n us.length+ys.length))=j by omega]at hu;exact((bH _ _).1 h1).2 _ c u hc hu
theorem xq: ∀(vs:List Value) (off j0:Nat) (cs:Array Value),off+j0+vs.length≤cs.size→
  ((vs.zipIdx j0).foldl (fun cs (p:Value×Nat)=>cs.setIfInBounds (off+p.2) p.1) cs).toList=cs.toList.take (off+j0)++vs++cs.toList.drop (off+j0+vs.length)
 | [],off,j0,cs,h=>by simp
 |v::vs,off,j0,cs,h=>by
  simp only[List.zipIdx_cons,List.foldl_cons];rw[xq vs off (j0+1) (cs.setIfInBounds (off+j0) v) (by simp at h⊢;omega)];have e:=list_seg_step cs.toList (off+j0) v vs (by simp at h⊢;omega);simpa[Array.toList_setIfInBounds,Nat.add_assoc] using e
theorem vF(u:Value)(off:Nat)(cs:Array Value)(h:off+u.cells.size≤cs.size):
  u.cells.zipIdx.foldl (fun cs (p:Value×Nat)=>cs.setIfInBounds (off+p.2) p.1) cs=kX cs off u.cells.toList:=by
 apply Array.ext';rw[←Array.foldl_toList];have:u.cells.zipIdx.toList=u.cells.toList.zipIdx:=by simp
 rw[this];have:=xq u.cells.toList off 0 cs (by simpa using h);simpa[kX] using this
theorem uP{Ea:List (Nat×Nat)}{place:Nat→Option (Nat×Nat)}(hp: ∀(i:Nat) x,Ea[i]?=some x→place i=some x)(zk: ∀x∈Ea,0<x.2):
  ∀{ps:List (Nat×V)} {cs lH:List V} {us:Array Value} {wz:List (Nat×Value)},bS w I σ cs us.toList→cI w I σ (ps.map (·.2)) (wz.map (·.2))→ps.map (·.1)=wz.map (·.1)→qx Ea cs ps=some lH→
   ∃uJ:Array Value,Instr.fill place us wz=some uJ∧bS w I σ lH uJ.toList
 | [],cs,lH,us,wz,hc,hr,hi,hf=>by
  simp only[qx,aa]at hf;subst hf;cases wz with
  |nil=>exact⟨us,rfl,hc⟩
  |cons _ _=>simp at hi
 |(i,v)::ps,cs,lH,us,wz,hc,hr,hi,hf=>by
  cases wz with
  |nil=>simp at hi
  |cons p wz=>
   obtain⟨i',u⟩:=p;simp only[List.map_cons,List.cons.injEq]at hi;obtain⟨rfl,hi⟩:=hi;simp only[List.map_cons,cI]at hr;obtain⟨u0,r,he,hv,hr⟩:=hr;simp only[List.cons.injEq]at he;obtain⟨rfl,rfl⟩:=he;simp only[qx]at hf;cases ho:Ea[i]? with
   |none=>simp[ho]at hf
   |some x=>
    obtain⟨o,k⟩:=x;simp only[ho]at hf;split at hf
    ·rename_i gZ;simp only[Bool.and_eq_true,decide_eq_true_eq]at gZ;have kf:=hv.cells gZ.1;have hlen:=((bH _ _).1 hc).1;have Kx:=((bH _ _).1 kf.2).1;have T2:u.cells.size=k:=by rw[kf.1]at Kx;simpa using Kx.symm
     have nq:us.size=cs.length:=by simpa using hlen.symm
     have sG:=xp (n:=o) hc kf.2 (by omega);rw[show us.toList.take o++u.cells.toList++us.toList.drop (o+u.cells.toList.length)=(kX us o u.cells.toList).toList from rfl]at sG;obtain⟨uJ,h1,h2⟩:=uP hp zk sG hr hi hf;refine⟨uJ,?_,h2⟩;simp only[Instr.fill,hp i _ ho];rw[if_neg]
     ·rw[vF u o us (by omega)];exact h1
     ·simp only[Bool.or_eq_true,decide_eq_true_eq,not_or];exact⟨by simpa using T2,by omega⟩
    ·cases hf
end
section
variable {X:Env} {o:Oper} {a:Act} {w:World} {I:Nat→Prop} {σ:dK} {S S1:St}
theorem uQ{S:St}{a:Act}{o:Oper}(F:dM w I σ S.f a)(hx:jd o)(ps:List (Nat×Operand))(hq: ∀y∈ps,y.2∈o.op.operands.toList):
  cI w I σ ((ps.map fun p=>(p.1,S.ev p.2)).map (·.2)) ((ps.map fun p=>(p.1,a.eval p.2)).map (·.2))∧(ps.map fun p=>(p.1,S.ev p.2)).map (·.1)=(ps.map fun p=>(p.1,a.eval p.2)).map (·.1):=by
 refine⟨?_,by simp⟩;induction ps with
 |nil=>simp[cI]
 |cons p ps ih=>
  simp only[List.map_cons,cI];exact⟨_,_,rfl,cj (S:=S) F (hx p.2 (hq p (by simp))),ih (fun y hy=>hq y (by simp[hy]))⟩
theorem zero_cells{P:Program}{t:TypeId}{x:TI}(T:gX P t x){z:Value}(hz:zV x.zero z=true):bS w I σ x.zero.cells z.cells.toList:=((Cg T hz).cells T.PQ).2
theorem Co{P:Program}{t:TypeId}(h:0<P.cellsOf t)(w:World):(sizeOf t).run P w= .ok (P.cellsOf t) w:=by
 unfold Program.cellsOf at h⊢;cases hi:P.info? t with
 |none=>simp[hi]at h
 |some i=>simp[sizeOf,typeInfo,hi]
theorem vG{P:Program}(w:World): ∀(fs:List Field),(∀f∈fs,0<P.cellsOf f.type)→
  (fs.mapM fun f=>Functor.map (Prod.mk f.offset) (sizeOf f.type)).run P w= .ok (fs.map fun f=>(f.offset,P.cellsOf f.type)) w
 | [],_=>by simp
 |f::fs,h=>by
  simp[List.mapM_cons,Co (h f (by simp)),vG w fs (fun x hx=>h x (by simp[hx]))]
theorem z8 {t:TypeId} {ps:Array (Nat×Operand)} {cs:List V} (ho:o.op= .build t ps) (T:gX X.P t (X.ti t)) (WJ:(X.ti t).arr=none∨gX X.P (X.ti t).elem (X.ti (X.ti t).elem)) (R:Rel w I σ S.h) (F:dM w I σ S.f a) (hx:jd o)
  (hf:((X.ti t).arr=none∧qx (X.ti t).pQ (X.ti t).zero.cells (ps.toList.map fun p=>(p.1,S.ev p.2))=some cs∧(X.ti t).pQ≠ [])∨
   ∃m,(X.ti t).arr=some m∧qx ((List.range m).map fun i=>(i*(X.ti (X.ti t).elem).size,(X.ti (X.ti t).elem).size)) (X.ti t).zero.cells (ps.toList.map fun p=>(p.1,S.ev p.2))=some cs)
  (hs:S1=S.set o.dst (.agg cs)):Out X o a w I σ S S1:=by
 obtain⟨z,hz,hb⟩:=xj T w;have Po:=zero_cells (w:=w) (I:=I) (σ:=σ) T hb;have KE:=uQ F hx ps.toList (by intro y hy;simp only[ho,Op.operands];exact List.mem_map_of_mem hy);obtain⟨d,hd,WK⟩:=T.WH;have ac9:(ps.map fun(p:Nat×Operand)=>(p.1,a.eval p.2)).toList=ps.toList.map fun p=>(p.1,a.eval p.2):=by simp
 rcases hf with⟨hn,hf,eZ⟩|⟨m,hm,hf⟩
 ·cases d with
  |struct fs=>
   simp only[sw,Bool.and_eq_true,beq_iff_eq]at WK;obtain⟨⟨⟨⟨_,sH⟩,_⟩,_⟩,zk⟩:=WK;have Ld: ∀(i:Nat) x,(X.ti t).pQ[i]?=some x→((fs.map fun f=>(f.offset,X.P.cellsOf f.type))[·]?) i=some x:=by
    intro i x hi;rw[sH]at hi;simpa using hi
   obtain⟨uJ,h1,h2⟩:=uP Ld (fun x Cf=>by
    rw[sH]at Cf;obtain⟨f,hfm,rfl⟩:=List.mem_map.1 Cf;simpa using List.all_eq_true.1 zk f hfm) Po KE.1 KE.2 hf
   refine Out.pure (u:= .agg uJ) R ?_ (by simp only[aV];exact⟨uJ,rfl,h2⟩) hs;have hpm:=vG (P:=X.P) w fs.toList (fun f hf=>of_decide_eq_true (List.all_eq_true.1 zk f hf));simp only[Array.getElem?_map]at h1;simp[execOp,ho,Instr.build,hz,run_underlying hd,Array.mapM_eq_mapM_toList,hpm,h1]
  |_=>
   exfalso;simp[sw]at WK;first
    |exact eZ WK.2
    |(rw[hn]at WK;simp at WK)
 ·have hu:=xn T hm;have Te:=WJ.resolve_left (by rw[hm];simp);obtain⟨uJ,h1,h2⟩:=uP (place:=fun i=>some (i*(X.ti (X.ti t).elem).size,(X.ti (X.ti t).elem).size)) (fun i x hi=>by
   rw[List.getElem?_map]at hi;cases hr:(List.range m)[i]? with
   |none=>simp[hr]at hi
   |some j=>
    have hj:j=i:=by
     have:=(List.getElem?_eq_some_iff.1 hr).2;simpa using this.symm
    subst hj;simpa[hr] using hi) (fun x Cf=>by
   obtain⟨i,_,rfl⟩:=List.mem_map.1 Cf;exact Te.pos) Po KE.1 KE.2 hf
  refine Out.pure (u:= .agg uJ) R ?_ (by simp only[aV];exact⟨uJ,rfl,h2⟩) hs;simp[execOp,ho,Instr.build,hz,run_underlying hu,run_sizeOf Te,h1]
end
section
variable {X:Env} {o:Oper} {a:Act} {w:World} {I:Nat→Prop} {σ:dK} {S S1:St}
theorem qP {h:aG} (R:Rel w I σ h) {n k:Nat} {es:List V} {bZ:Bool} {us:List Value} {el:TypeId} (c:Array Value) (hn:h n=none) (hs:σ n=none)
  (hk: ∀e∈es,e.cells.length=k) (hr:bS w I (gE bZ σ) (flat es) us) (hc: ∀(j:Nat) u,us[j]?=some u→c[j]?=some u):
  Step w I σ h n (w.alloc (.cells c el)) I (aS σ n (some (w.heap.size,0,k))) (aS h n (some ⟨k,es,bZ⟩)) (n+1):=by
 have hlen:us.length=es.length*k:=by rw[←((bH _ _).1 hr).1,iR hk]
 refine A1 R c hn hs ?_ ?_
 ·by_cases h0:us.length=0
  ·omega
  ·have Le:us[us.length-1]?=some (us[us.length-1]'(by omega)):=by simp
   have:=(Array.getElem?_eq_some_iff.1 (hc _ _ Le)).1;omega
 ·have E:Ext w I σ (w.alloc (.cells c el)) I (aS σ n (some (w.heap.size,0,k))):=(Ext.alloc R.cT _).trans (Ext.HQ hs);refine nJ (E.kW bZ) hk hr (fun j u hu=> ?_);rw[cell_of_row _ _ _ _ _ _ (HZ w (.cells c el))];simpa using hc j u hu
theorem tW(w:World)(I:Nat→Prop)(σ:dK){n k l cap:Nat}{c:Array Value}{el:TypeId}(R7:l≤cap)(hm:cap≤maxLen)(nq:cap*k≤c.size):
  aV (w.alloc (.cells c el)) I (aS σ n (some (w.heap.size,0,k))) (.bJ n 0 l) (.slice (some ⟨w.heap.size,0,none⟩) l cap):=by
 simp only[aV];exact⟨_,cap,rfl,R7,hm,.inr ⟨w.heap.size,0,k,c,el,(0,0),by simp[aS],by simp,HZ w _,by simpa using nq⟩⟩
theorem zv {t:TypeId} {l c:Operand} {k1 k2:IntKind} {n m:Int} (ho:o.op= .makeSlice t l c) (hu:X.P.underlying t=some (.slice (X.ti t).elem)) (T:gX X.P (X.ti t).elem (X.ti (X.ti t).elem)) (R:Rel w I σ S.h) (F:dM w I σ S.f a) (hx:jd o)
  (hn:S.h S.n=none) (qM:σ S.n=none) (hl:S.ev l= .int k1 n) (hc:S.ev c= .int k2 m) (hb:0≤n∧n≤m∧m*(X.ti (X.ti t).elem).bytes≤2^47∧m≤2^62)
  {kp:Bool} (hs:S1=(S.new ⟨(X.ti (X.ti t).elem).size,List.replicate n.toNat (X.ti (X.ti t).elem).zero,kp⟩).set o.dst (.bJ S.n 0 n.toNat)):Out X o a w I σ S S1:=by
 subst hs;have h1:aV w I σ (S.ev l) (a.eval l):=cj (S:=S) F (hx l (by simp[ho,Op.operands]));have h2:aV w I σ (S.ev c) (a.eval c):=cj (S:=S) F (hx c (by simp[ho,Op.operands]));rw[hl]at h1;rw[hc]at h2;have KD:=dg h1;have A9:=dg h2;obtain⟨i,z,hi,uR,WL,hz,Sa⟩:=T.info;have Po:=zero_cells (w:=w) (I:=I) (σ:=gE kp σ) T Sa;have Cp:z.cells.size=(X.ti (X.ti t).elem).size:=by
  have:=((bH _ _).1 Po).1;rw[T.K3]at this;simpa using this.symm
 have WM:m=(m.toNat:Int):=by omega
 have hn0:n=(n.toNat:Int):=by omega
 have T3:(i.bytes:Int)*m≤281474976710656:=by
  rw[WL,Int.mul_comm];omega
 have eJ:=run_make (P:=X.P) w t (X.ti t).elem i z hu hi hz k1 k2 n m hb.1 hb.2.1 T3 (by omega);rw[uR]at eJ;have XR:(madeCells z.cells (m.toNat*(X.ti (X.ti t).elem).size)).toList=(List.replicate m.toNat z.cells.toList).flatten:=by
  unfold madeCells;rw[←Cp];exact z7 z.cells _ _ rfl (by rw[Cp];exact T.pos)
 have iG: ∀e∈List.replicate n.toNat (X.ti (X.ti t).elem).zero,e.cells.length=(X.ti (X.ti t).elem).size:=by
  intro e he;rw[List.eq_of_mem_replicate he];exact T.K3
 have ik:bS w I (gE kp σ) (flat (List.replicate n.toNat (X.ti (X.ti t).elem).zero)) (List.replicate n.toNat z.cells.toList).flatten:=by
  rw[qO];exact sy Po n.toNat
 refine⟨_,_,I,_,.slice (some ⟨w.heap.size,0,none⟩) n.toNat m.toNat,.bJ S.n 0 n.toNat,?_,.inl rfl,?_,lQ _ _ _ _ rfl,tW w I σ (k:=(X.ti (X.ti t).elem).size) (c:=madeCells z.cells (m.toNat*(X.ti (X.ti t).elem).size)) (el:=(X.ti t).elem) (by omega) (by simp only[maxLen];omega) (by rw[size_madeCells];exact Nat.le_refl _)⟩
 ·simp[execOp,ho,KD,A9,eJ]
 ·rw[ck,cZ];refine qP R _ hn qM iG ik (fun j u B0=> ?_);have hlz:0<z.cells.toList.length:=by simp[Cp];exact T.pos
  rw[gW _ hlz]at B0;rw[←Array.getElem?_toList,XR,gW _ hlz];split at B0
  ·rename_i hj;rw[if_pos (Nat.lt_of_lt_of_le hj (Nat.mul_le_mul_right _ (by omega)))];exact B0
  ·cases B0
theorem GD {args:Array Operand} {gq:Array TypeId} {x y:Operand} {k:IntKind} {p q:Int} (mx:Bool) (ho:o.op= .call ⟨.builtin (if mx then .max else .min),args,gq⟩) (ha:args.toList=[x,y]) (R:Rel w I σ S.h) (F:dM w I σ S.f a) (hx:jd o)
  (h1:S.ev x= .int k p) (h2:S.ev y= .int k q) (hs:S1=S.set o.dst (.int k (if mx then(if q>p then q else p) else(if q<p then q else p)))):Out X o a w I σ S S1:=by
 have sI:args= #[x,y]:=by rw[←ha]
 have r1:aV w I σ (S.ev x) (a.eval x):=cj (S:=S) F (hx x (by simp[ho,Op.operands,Call.operands,sI]));have r2:aV w I σ (S.ev y) (a.eval y):=cj (S:=S) F (hx y (by simp[ho,Op.operands,Call.operands,sI]));rw[h1]at r1;rw[h2]at r2;refine Out.pure (u:= .int k (if mx then(if q>p then q else p) else(if q<p then q else p))) R ?_ (by simp only[aV]) hs;cases mx
 ·simp[execOp,ho,sI,resolve,invoke,builtin,dg r1,dg r2,Builtin.min_,Builtin.min2]
 ·simp[execOp,ho,sI,resolve,invoke,builtin,dg r1,dg r2,Builtin.max_,Builtin.max2]
end
theorem Cq{k:Nat}: ∀{es:List V} (i:Nat) (v:V),(∀e∈es,e.cells.length=k)→v.cells.length=k→i<es.length→flat (es.set i v)=gf (i*k) v.cells (flat es)
 | [],i,v,_,_,hi=>by simp at hi
 |e::es,0,v,hk,hv,_=>by
  rw[List.set_cons_zero,jX,jX,Nat.zero_mul];have he:=hk e (by simp);apply List.ext_getElem?;intro j;rw[kH _ _ _ _ (by rw[List.length_append];omega)];by_cases hj:j<k
  ·rw[if_pos (by omega),List.getElem?_append_left (by omega)];simp
  ·rw[if_neg (by omega),List.getElem?_append_right (by omega),List.getElem?_append_right (by omega),hv,he]
 |e::es,i+1,v,hk,hv,hi=>by
  rw[List.set_cons_succ,jX,jX,Cq i v (fun x hx=>hk x (by simp[hx])) hv (by simpa using hi)];have he:=hk e (by simp);have sH:=iR (fun x hx=>hk x (by simp[hx]): ∀x∈es,x.cells.length=k);have zX:(i+1)*k≤es.length*k:=Nat.mul_le_mul_right _ (by simp at hi;omega);rw[Nat.add_mul]at zX;apply List.ext_getElem?;intro j;rw[kH _ _ _ _ (by rw[List.length_append,Nat.add_mul];omega)];by_cases hj:j<k
  ·rw[List.getElem?_append_left (by omega),if_neg (by rw[Nat.add_mul];omega),List.getElem?_append_left (by omega)]
  ·rw[List.getElem?_append_right (by omega),kH _ _ _ _ (by omega),List.getElem?_append_right (by omega),he];by_cases h2:i*k≤j-k∧j-k<i*k+v.cells.length
   ·rw[if_pos h2,if_pos (by rw[Nat.add_mul];omega)];congr 1;rw[Nat.add_mul];omega
   ·rw[if_neg h2,if_neg (by rw[Nat.add_mul];omega)]
section
variable {w:World} {I:Nat→Prop} {σ:dK}
theorem z9{k:Nat}(hp:0<k): ∀{ps:List (Nat×V)} {es tX:List V} {us:Array Value} {wz:List (Nat×Value)},(∀e∈es,e.cells.length=k)→bS w I σ (flat es) us.toList→
  cI w I σ (ps.map (·.2)) (wz.map (·.2))→ps.map (·.1)=wz.map (·.1)→kP k es ps=some tX→
   ∃uJ:Array Value,Instr.fill (fun i=>some (i*k,k)) us wz=some uJ∧bS w I σ (flat tX) uJ.toList∧(∀e∈tX,e.cells.length=k)∧tX.length=es.length
 | [],es,tX,us,wz,hk,hc,hr,hi,hf=>by
  simp only[kP,aa]at hf;subst hf;cases wz with
  |nil=>exact⟨us,rfl,hc,hk,rfl⟩
  |cons _ _=>simp at hi
 |(i,v)::ps,es,tX,us,wz,hk,hc,hr,hi,hf=>by
  cases wz with
  |nil=>simp at hi
  |cons p wz=>
   obtain⟨i',u⟩:=p;simp only[List.map_cons,List.cons.injEq]at hi;obtain⟨rfl,hi⟩:=hi;simp only[List.map_cons,cI]at hr;obtain⟨u0,r,he,hv,hr⟩:=hr;simp only[List.cons.injEq]at he;obtain⟨rfl,rfl⟩:=he;simp only[kP]at hf;split at hf
   ·rename_i gZ;simp only[Bool.and_eq_true,decide_eq_true_eq]at gZ;have kf:=hv.cells gZ.1;have hlen:=((bH _ _).1 hc).1;rw[iR hk]at hlen;have Kx:=((bH _ _).1 kf.2).1;have T2:u.cells.size=k:=by rw[kf.1]at Kx;simpa using Kx.symm
    have nq:us.size=es.length*k:=by simpa using hlen.symm
    have zX:(i+1)*k≤es.length*k:=Nat.mul_le_mul_right _ gZ.2;rw[Nat.add_mul]at zX;have sG:=xp (n:=i*k) hc kf.2 (by rw[iR hk,kf.1];omega);rw[show us.toList.take (i*k)++u.cells.toList++us.toList.drop (i*k+u.cells.toList.length)=(kX us (i*k) u.cells.toList).toList from rfl]at sG;rw[←Cq i v hk kf.1 gZ.2]at sG;have mI: ∀e∈es.set i v,e.cells.length=k:=by
     intro e he;rcases List.mem_or_eq_of_mem_set he with h|h
     ·exact hk e h
     ·rw[h];exact kf.1
    obtain⟨uJ,h1,h2,h3,h4⟩:=z9 hp mI sG hr hi hf;refine⟨uJ,?_,h2,h3,by rw[h4];simp⟩;simp only[Instr.fill];rw[if_neg]
    ·rw[vF u (i*k) us (by omega)];exact h1
    ·simp only[Bool.or_eq_true,decide_eq_true_eq,not_or];exact⟨by simpa using T2,by omega⟩
   ·cases hf
theorem Ba{h:aG}(R:Rel w I σ h)(c:Array Value)(el:TypeId)(n:Nat):Step w I σ h n (w.alloc (.cells c el)) (fun b=>I b∨b=w.heap.size) σ h n:=by
 have E:Ext w I σ (w.alloc (.cells c el)) (fun b=>I b∨b=w.heap.size) σ:=
  (Ext.alloc R.cT _).trans ⟨fun _ _=>rfl,fun _ c _ fz hh=>⟨c,fz,hh,rfl⟩,fun b hb=> .inl hb,fun _ _ hh=>hh⟩
 have hOw: ∀b,dF σ h b→b<w.heap.size:=fun b hb=>by
  obtain⟨_,c,el,hh⟩:=R.owned hb;exact hh.lt
 refine⟨E,R.bZ E (fun b hb=> ?_) (fun b hb=>⟨Ej w _ b (hOw b hb),?_⟩) (fun _ _=>rfl),rfl,rfl,rfl,by rw[nE];omega,fun b hb _=>Ej w _ b hb,fun b hb=> .inr hb,fun b hb=> ?_,Nat.le_refl _,fun _ _=>rfl,fun _ _ hn=>hn⟩
 ·rw[nE];rcases hb with hb|rfl
  ·have:=R.cT b hb;omega
  ·omega
 ·rintro(hi|rfl)
  ·exact(R.owned hb).1 hi
  ·have:=hOw _ hb;omega
 ·rcases hb with hb|rfl
  ·exact .inl hb
  ·exact .inr (.inl (Nat.le_refl _))
end
section
variable {X:Env} {o:Oper} {a:Act} {w:World} {I:Nat→Prop} {σ:dK} {S S1:St}
theorem nK {t:TypeId} {n:Nat} (hu:X.P.underlying t=some (.slice (X.ti t).elem)) (T:gX X.P (X.ti t).elem (X.ti (X.ti t).elem)) (wx:n*(X.ti (X.ti t).elem).size≤2^24)
  {ps:List (Nat×V)} {es:List V} {wz:Array (Nat×Value)} {w:World} {J:Nat→Prop} {τ:dK} (hr:cI w J τ (ps.map (·.2)) (wz.toList.map (·.2))) (hi:ps.map (·.1)=wz.toList.map (·.1))
  (hf:kP (X.ti (X.ti t).elem).size (List.replicate n (X.ti (X.ti t).elem).zero) ps=some es):
  ∃us:Array Value,(Instr.buildSlice t n wz).run X.P w= .ok (.slice (some ⟨w.heap.size,0,none⟩) n n) (w.alloc (.cells us (X.ti t).elem))∧bS w J τ (flat es) us.toList∧(∀e∈es,e.cells.length=(X.ti (X.ti t).elem).size)∧es.length=n:=by
 obtain⟨z,hz,Sa⟩:=xj T w;have Po:=zero_cells (w:=w) (I:=J) (σ:=τ) T Sa;have Cp:z.cells.size=(X.ti (X.ti t).elem).size:=by
  have:=((bH _ _).1 Po).1;rw[T.K3]at this;simpa using this.symm
 have iG: ∀e∈List.replicate n (X.ti (X.ti t).elem).zero,e.cells.length=(X.ti (X.ti t).elem).size:=by
  intro e he;rw[List.eq_of_mem_replicate he];exact T.K3
 have ik:bS w J τ (flat (List.replicate n (X.ti (X.ti t).elem).zero)) ((Array.range (n*(X.ti (X.ti t).elem).size)).map (z.cells[· % z.cells.size]!)).toList:=by
  rw[qO,←Cp,z7 z.cells _ _ rfl (by rw[Cp];exact T.pos)];exact sy Po n
 obtain⟨us,h1,h2,h3,h4⟩:=z9 T.pos iG ik hr hi hf;refine⟨us,?_,h2,h3,by rw[h4];simp⟩;have A9: ¬(2^24<n*(X.ti (X.ti t).elem).size):=by omega
 have hp:=T.pos;by_cases h0:n=0
 ·subst h0;have rQ:Instr.fill (fun i=>some (i*(X.ti (X.ti t).elem).size,(X.ti (X.ti t).elem).size)) #[] wz.toList=some us:=by
   simpa[Array.range_zero'] using h1
  simp[Instr.buildSlice,run_underlying hu,run_sizeOf T,newRow,rQ,Array.range_zero']
 ·have eZ:n*(X.ti (X.ti t).elem).size≠0:=by
   have:=Nat.mul_pos (Nat.pos_of_ne_zero h0) hp;omega
  have akc: ¬(n=0∨(X.ti (X.ti t).elem).size=0):=by omega
  simp[Instr.buildSlice,run_underlying hu,run_sizeOf T,newRow,A9,hz,h1];intro h;exact absurd h eZ
theorem si {t:TypeId} {n:Nat} {ps:Array (Nat×Operand)} {es:List V} (ho:o.op= .buildSlice t n ps) (hu:X.P.underlying t=some (.slice (X.ti t).elem)) (T:gX X.P (X.ti t).elem (X.ti (X.ti t).elem)) (wx:n*(X.ti (X.ti t).elem).size≤2^24)
  (R:Rel w I σ S.h) (F:dM w I σ S.f a) (hx:jd o) (hn:S.h S.n=none) (qM:σ S.n=none)
  (hf:kP (X.ti (X.ti t).elem).size (List.replicate n (X.ti (X.ti t).elem).zero) (ps.toList.map fun p=>(p.1,S.ev p.2))=some es)
  (hs:S1=(S.new ⟨(X.ti (X.ti t).elem).size,es,true⟩).set o.dst (.bJ S.n 0 n)):Out X o a w I σ S S1:=by
 subst hs;have KE:=uQ F hx ps.toList (by intro y hy;simp only[ho,Op.operands];exact List.mem_map_of_mem hy);obtain⟨us,eJ,ik,hk,hlen⟩:=nK (wz:=ps.map fun p=>(p.1,a.eval p.2)) hu T wx (by simpa using KE.1) (by simp) hf;have nq:us.size=n*(X.ti (X.ti t).elem).size:=by
  have:=((bH _ _).1 ik).1;rw[iR hk,hlen]at this;simpa using this.symm
 have T4:n≤maxLen:=by
  have h1:n*1≤n*(X.ti (X.ti t).elem).size:=Nat.mul_le_mul_left _ T.pos;simp only[maxLen];omega
 refine⟨_,_,I,_,.slice (some ⟨w.heap.size,0,none⟩) n n,.bJ S.n 0 n,?_,.inl rfl,?_,lQ _ _ _ _ rfl,tW w I σ (k:=(X.ti (X.ti t).elem).size) (c:=us) (el:=(X.ti t).elem) (Nat.le_refl _) T4 (by omega)⟩
 ·simp[execOp,ho,eJ]
 ·rw[ck,cZ];exact qP R us hn qM hk (us:=us.toList) (by simpa[gE] using ik) (fun j u B0=>by simpa using B0)
theorem xr{v v':V}{h h':aG}(hg:jG (fun _=>none) v=some (v',h')):jG h v=some (v',h):=by
 cases v<;>simp_all [jG]
theorem xu{h:aG}: ∀{cs lH:List V} {h':aG},hZ (fun _=>none) cs=some (lH,h')→hZ h cs=some (lH,h)
 | [],_,_,hg=>by simp only[hZ,aa,ax]at hg⊢;exact⟨hg.1,trivial⟩
 |c::cs,_,_,hg=>by
  have key: ∀{c':V} {h1:aG},jG (fun _=>none) c=some (c',h1)→h1=fun _=>none:=by
   intro c' h1 h2;cases c<;>simp_all [jG]
  simp only[hZ]at hg⊢;split at hg
  case h_2=>cases hg
  rename_i c' h1 hc;have:=key hc;subst this;split at hg
  case h_2=>cases hg
  rename_i lH h2 p0;simp only[aa,ax]at hg;obtain⟨rfl,_⟩:=hg;simp only[xr (h:=h) hc,xu (h:=h) p0]
theorem Ii{v v':V}{h h':aG}(hg:kE (fun _=>none) v=some (v',h')):kE h v=some (v',h):=by
 cases v with
 |agg cs=>
  simp only[kE]at hg⊢;split at hg
  case h_2=>cases hg
  rename_i lH h1 hc;simp only[aa,ax]at hg;obtain⟨rfl,_⟩:=hg;simp only[xu (h:=h) hc]
 |_=>exact xr (by simpa[kE] using hg)
theorem xw: ∀{cs lH:List V} {h':aG},hZ (fun _=>none) cs=some (lH,h')→h'=fun _=>none
 | [],_,_,hg=>by simp only[hZ,aa,ax]at hg;exact hg.2.symm
 |c::cs,_,_,hg=>by
  simp only[hZ]at hg;split at hg
  case h_2=>cases hg
  rename_i c' h1 hc;have:h1=fun _=>none:=by cases c<;>simp_all [jG]
  subst this;split at hg
  case h_2=>cases hg
  rename_i lH h2 p0;simp only[aa,ax]at hg;obtain⟨_,rfl⟩:=hg;exact xw p0
theorem Ij{v v':V}{h':aG}(hg:kE (fun _=>none) v=some (v',h')):h'=fun _=>none:=by
 cases v with
 |agg cs=>
  simp only[kE]at hg;split at hg
  case h_2=>cases hg
  rename_i lH h1 hc;simp only[aa,ax]at hg;obtain⟨_,rfl⟩:=hg;exact xw hc
 |_=>simp_all [kE,jG]
theorem xx{h:aG}: ∀{ps qI:List (Nat×V)} {h':aG},gp (fun _=>none) ps=some (qI,h')→gp h ps=some (qI,h)
 | [],_,_,hg=>by simp only[gp,aa,ax]at hg⊢;exact⟨hg.1,trivial⟩
 |(i,v)::ps,_,_,hg=>by
  simp only[gp]at hg⊢;split at hg
  case h_2=>cases hg
  rename_i c' h1 hc;have:=Ij hc;subst this;split at hg
  case h_2=>cases hg
  rename_i lH h2 p0;simp only[aa,ax]at hg;obtain⟨rfl,_⟩:=hg;simp only[Ii (h:=h) hc,xx (h:=h) p0]
theorem nM {t:TypeId} {n:Nat} {ps:Array (Nat×Operand)} {es:List V} {l:List (Nat×V)} {h:aG} {th:Bool} (ho:o.op= .buildSlice t n ps) (hu:X.P.underlying t=some (.slice (X.ti t).elem)) (T:gX X.P (X.ti t).elem (X.ti (X.ti t).elem)) (wx:n*(X.ti (X.ti t).elem).size≤2^24)
  (R:Rel w I σ S.h) (F:dM w I σ S.f a) (hx:jd o) (hn:S.h S.n=none) (qM:σ S.n=none)
  (hg:gp S.h (ps.toList.map fun p=>(p.1,S.ev p.2))=some (l,h))
  (hf:kP (X.ti (X.ti t).elem).size (List.replicate n (X.ti (X.ti t).elem).zero) l=some es)
  (hs:S1=if th then(({S with h:=h}:St).new ⟨(X.ti (X.ti t).elem).size,es,false⟩).set o.dst (.bJ S.n 0 n) else({S with h:=h}:St).set o.dst (.sl true es)):Out X o a w I σ S S1:=by
 subst hs;have KE:=uQ F hx ps.toList (by intro y hy;simp only[ho,Op.operands];exact List.mem_map_of_mem hy);obtain⟨I1,s1,r1,hi1,oQ⟩:=z6 R KE.1 hg S.n;obtain⟨us,eJ,ik,hk,hlen⟩:=nK (wz:=ps.map fun p=>(p.1,a.eval p.2)) hu T wx (by simpa using r1) (by rw[hi1];simp) hf;have nq:us.size=n*(X.ti (X.ti t).elem).size:=by
  have:=((bH _ _).1 ik).1;rw[iR hk,hlen]at this;simpa using this.symm
 have T4:n≤maxLen:=by
  have h1:n*1≤n*(X.ti (X.ti t).elem).size:=Nat.mul_le_mul_left _ T.pos;simp only[maxLen];omega
 have hnh:h S.n=none:=by
  cases hc:h S.n with
  |none=>rfl
  |some ob=>rw[oQ _ _ hc]at hn;cases hn
 cases th with
 |true=>
  refine⟨_,_,I1,_,.slice (some ⟨w.heap.size,0,none⟩) n n,.bJ S.n 0 n,?_,.inl rfl,?_,?_,tW w I1 σ (k:=(X.ti (X.ti t).elem).size) (c:=us) (el:=(X.ti t).elem) (Nat.le_refl _) T4 (by omega)⟩
  ·simp[execOp,ho,eJ]
  ·simp only[if_true];rw[ck,cZ];exact s1.trans (qP s1.rel us hnh qM hk (us:=us.toList) (by simpa[gE] using ik) (fun j u B0=>by simpa using B0))
  ·simp only[if_true];exact lQ _ _ _ _ rfl
 |false=>
  refine⟨_,w.alloc (.cells us (X.ti t).elem),(fun b=>I1 b∨b=w.heap.size),σ,.slice (some ⟨w.heap.size,0,none⟩) n n,.sl true es,?_,.inl rfl,?_,?_,?_⟩
  ·simp[execOp,ho,eJ]
  ·simp only[Bool.false_eq_true,if_false];rw[ck,cZ];exact s1.trans (Ba s1.rel us (X.ti t).elem S.n)
  ·simp only[Bool.false_eq_true,if_false];exact lQ _ _ _ _ rfl
  ·simp only[aV];refine⟨_,n,by rw[hlen],by omega,T4,fun _=>hlen.symm,.inr ⟨w.heap.size,0,(X.ti (X.ti t).elem).size,rfl,.inr rfl,?_⟩⟩;refine nJ (Ba s1.rel us (X.ti t).elem S.n).ext.AY hk (us:=us.toList) ik (fun j u B0=> ?_);rw[cell_of_row _ _ _ _ _ _ (HZ w (.cells us (X.ti t).elem))];simpa using B0
end
section
variable {w w':World} {I I':Nat→Prop} {σ σ':dK} {h:aG}
theorem rS{k1 k2:Bool}(hk:k1=true→k2=true):Ext w I (gE k1 σ) w I (gE k2 σ):=by
 cases k1
 ·cases k2
  ·exact .refl _ _ _
  ·exact Ext.free
 ·rw[hk rfl];exact .refl _ _ _
theorem Ext.heap(hh:w'.heap=w.heap):Ext w I σ w' I σ:=
 ⟨fun b _=>by rw[hh],fun b c el fz h=>⟨c,fz,by rw[hh];exact h,rfl⟩,fun _ h=>h,fun _ _ h=>h⟩
theorem Step.drew(R:Rel w I σ h)(n:Nat):Step w I σ h n w.drew I σ h n:=
 ⟨Ext.heap rfl,R.bZ (Ext.heap rfl) (fun b hb=>R.cT b hb) (fun b hb=>⟨rfl,(R.owned hb).1⟩) (fun _ _=>rfl),rfl,rfl,rfl,Nat.le_refl _,fun _ _ _=>rfl,fun _ hb=> .inr hb,fun _ hb=> .inl hb,Nat.le_refl _,fun _ _=>rfl,fun _ _ hn=>hn⟩
theorem Step.kill(R:Rel w I σ h)(id n:Nat):Step w I σ h n w I σ (aS h id none) n:=
 ⟨.refl _ _ _,R.kill id,rfl,rfl,rfl,Nat.le_refl _,fun _ _ _=>rfl,fun _ hb=> .inr hb.Ek,fun _ hb=> .inl hb,Nat.le_refl _,fun _ _=>rfl,fun i _ hn=>by unfold aS;split<;>simp_all⟩
theorem Step.nil(R:Rel w I σ h){n k:Nat}{bZ:Bool}(hn:h n=none)(hs:σ n=none):Step w I σ h n w I σ (aS h n (some ⟨k,[],bZ⟩)) (n+1):=
 ⟨.refl _ _ _,R.K2 hn hs,rfl,rfl,rfl,Nat.le_refl _,fun _ _ _=>rfl,fun b hb=>by
  obtain⟨id,ob,o,k',h1,h2⟩:=hb;by_cases e:id=n
  ·subst e;rw[hs]at h2;cases h2
  ·exact .inr ⟨id,ob,o,k',by simpa[aS,e] using h1,h2⟩,fun _ hb=> .inl hb,by omega,fun _ _=>rfl,fun id bV xe=>by simp[aS,xe];omega⟩
theorem Step.T5 (R:Rel w I σ h) {id n b o s:Nat} {ob:Ob} {kp:Bool} (cy:h id=some ob) (eN:σ id=some (b,o,ob.k)) (hn:h n=none) (hs:σ n=none) (hk:ob.bZ=true→kp=true) {c:Array Value} {el:TypeId}
  (hb:fq w b c el) (hle:o+ob.es.length*ob.k≤c.size) (di:bw w I (gE ob.bZ σ) ob.es ob.k b o) (nH:s≤ob.es.length):
  Step w I σ h n w I (aS σ n (some (b,o+s*ob.k,ob.k))) (aS (aS h id none) n (some ⟨ob.k,ob.es.drop s,kp⟩)) (n+1):=by
 have jJ:dF σ h b:=⟨id,ob,o,ob.k,cy,eN⟩;have eZ:n≠id:=fun e=>by rw[e,cy]at hn;cases hn
 have D4:aS h id none n=none:=by simp[aS,eZ,hn]
 have uS:=di.Gx s (ob.es.length-s);rw[aQ (by simp)]at uS;have E:Ext w I σ w I (aS σ n (some (b,o+s*ob.k,ob.k))):=Ext.HQ hs;have nq:o+s*ob.k+(ob.es.drop s).length*ob.k≤c.size:=by
  have:s*ob.k+(ob.es.length-s)*ob.k=ob.es.length*ob.k:=by rw[←Nat.add_mul];congr 1;omega
  simp;omega
 have R1:=(R.kill id).K1 (n:=n) (b:=b) (o:=o+s*ob.k) (k:=ob.k) (es:=ob.es.drop s) (bZ:=kp) D4 hs hb (R.owned jJ).1 (R.A4 cy eN) nq
  ((uS.jc (E.kW ob.bZ) rfl).jc (rS hk) rfl)
 refine⟨E,R1,rfl,rfl,rfl,Nat.le_refl _,fun _ _ _=>rfl,fun b' qH=> ?_,fun _ hb=> .inl hb,by omega,fun i hi=>by simp[aS];omega,fun i hi R6=>by
  have:i≠n:=by omega
  simp only[aS,this,if_false];split
  ·rfl
  ·exact R6⟩
 obtain⟨i,ja,o',k',h1,h2⟩:=qH;by_cases e:i=n
 ·subst e;simp[aS]at h2;obtain⟨rfl,_⟩:=h2;exact .inr jJ
 ·have rQ:aS h id none i=some ja:=by simpa[aS,e] using h1
  have BZ:σ i=some (b',o',k'):=by simpa[aS,e] using h2
  exact .inr (dF.Ek ⟨i,ja,o',k',rQ,BZ⟩)
theorem GF {P:Program} {tx:TypeId} (hk:(∃e',P.underlying tx=some (.slice e'))∨P.underlying tx=some .string) (R:Rel w I σ h) {x:V} {u:Value} {xs:List V} {kx:Bool} (hr:aV w I σ x u) (he:elems h x=some (xs,kx))
  {k:Nat} (hl: ∀e∈xs,e.cells.length=k) (eN: ∀id s l,x= .bJ id s l→ ∃ob,h id=some ob∧(xs≠ []→ob.k=k)):
  ∃news,Src P k tx u xs.length news w∧bS w I (gE kx σ) (flat xs) news:=by
 have akf:=iR hl;have mk: ∀{ad:Addr} {cap:Nat} {b o:Nat} {τ:dK},ad=⟨b,o,none⟩→bw w I τ xs k b o→ ∃news,Src P k tx (.slice (some ad) xs.length cap) xs.length news w∧bS w I τ (flat xs) news:=by
  intro ad cap b o τ XS di;subst XS;obtain⟨us,h1,h2,h3⟩:=kZ di;refine⟨us,⟨hk,fun _=>rfl,run_firstCells_some w k xs.length _ _ cap us h1 (fun j v hv=>by rw[kG];exact h2 j v hv),run_firstCells_some w.drew k xs.length _ _ cap us h1 (fun j v hv=>by rw[kG];simpa using h2 j v hv),h1,h3.TV⟩,h3⟩
 have T6: ∀{ad:Option Addr} {cap:Nat},xs=[]→ ∃news,Src P k tx (.slice ad 0 cap) xs.length news w∧bS w I (gE kx σ) (flat xs) news:=by
  intro ad cap h0;subst h0;refine⟨[],⟨hk,fun _=>rfl,?_,?_,by simp,by simp⟩,by simp[flat,bS]⟩
  ·cases ad<;>simp[Builtin.firstCells,loadCells,loadCellsFrom]
  ·cases ad<;>simp[Builtin.firstCells,loadCells,loadCellsFrom]
 cases x with
 |sl c es=>
  simp only[elems,aa,ax]at he;obtain⟨rfl,rfl⟩:=he;simp only[aV]at hr;obtain⟨ad,cap,rfl,_,_,_,h4⟩:=hr;rcases h4 with h4|⟨b,o,k',rfl,hI,di⟩
  ·subst h4;exact T6 rfl
  ·by_cases h0:es=[]
   ·subst h0;exact T6 rfl
   ·have tT:k'=k:=by
     obtain⟨e,he⟩:=List.exists_mem_of_ne_nil es h0;rw[←di.lens e he];exact hl e he
    subst tT;exact mk rfl di
 |bJ id s l=>
  obtain⟨ob,cy,tT⟩:=eN id s l rfl;simp only[elems,cy]at he;split at he
  ·rename_i hle;simp only[aa,ax]at he;obtain⟨rfl,rfl⟩:=he;have KF:((ob.es.drop s).take l).length=l:=by simp;omega
   simp only[aV]at hr;obtain⟨ad,cap,rfl,h1,_,h3⟩:=hr;by_cases h0:l=0
   ·subst h0;exact T6 (by simp)
   ·rcases h3 with h3|⟨b,o,k',c,el,fz,hs,rfl,_⟩
    ·omega
    ·have hi:ob.es[s]?=some (ob.es[s]'(by omega)):=by simp
     obtain⟨b',o',c',Eh,jV,_,_,_,di⟩:=R.at cy hi;rw[hs]at jV;simp only[aa,ax]at jV;obtain⟨rfl,rfl,rfl⟩:=jV;have eZ:(ob.es.drop s).take l≠ []:=by intro hh;rw[hh]at KF;simp at KF;omega
     have hko:=tT eZ;have uS:=di.Gx s l;rw[hko]at uS;have:=mk (ad:=⟨b,o+s*ob.k,none⟩) (cap:=cap) (by rw[hko]) uS;rwa[KF]at this⊢
  ·cases he
 |str s=>
  simp only[elems,aa,ax]at he;obtain⟨rfl,rfl⟩:=he;obtain⟨bs,rfl,rfl⟩:=mf hr;have nq:bs.data.toList.length=bs.size:=Array.length_toList;by_cases h0:bs.data.toList=[]
  ·rw[h0];have hz:bs.size=0:=by rw[←nq,h0];rfl
   have hex:bs.extract 0 0=ByteArray.empty:=by
    apply ByteArray.ext;simp[ByteArray.data_extract]
   refine⟨[],⟨hk,fun _=>by simp[Builtin.lenOf,hz],?_,?_,by simp,by simp⟩,by simp[flat,bS]⟩
   ·simp[Builtin.firstCells,hex]
   ·simp[Builtin.firstCells,hex]
  ·have Sb:k=1:=by
    obtain⟨e,he⟩:=List.exists_mem_of_ne_nil _ h0;have:=hl (.int .u8 e.toNat) (List.mem_map.2 ⟨e,he,rfl⟩);simpa[V.cells] using this.symm
   subst Sb;refine⟨byteCells bs,⟨hk,fun _=>by simp[Builtin.lenOf,nq],?_,?_,?_,?_⟩,?_⟩
   ·rw[List.length_map,nq];exact firstCells_string bs w
   ·rw[List.length_map,nq];exact firstCells_string bs w.drew
   ·rw[byteCells_length,List.length_map,nq,Nat.mul_one]
   ·intro u hu;obtain⟨_,_,rfl⟩:=List.mem_map.1 hu;rfl
   ·rw[bH];have sH:flat (bs.data.toList.map fun b=>V.int .u8 b.toNat)=bs.data.toList.map fun b=>V.int .u8 b.toNat:=by
     generalize bs.data.toList=l;induction l with
     |nil=>rfl
     |cons b l ih=>rw[List.map_cons,jX,ih];rfl
    rw[sH];refine⟨by rw[byteCells_length,List.length_map,nq],fun j c u hc hu=> ?_⟩;unfold byteCells at hu;rw[List.getElem?_map]at hc hu;cases hb:bs.data.toList[j]? with
    |none=>simp[hb]at hc
    |some b=>
     simp only[hb,Option.map_some,aa]at hc hu;subst hc;subst hu;exact⟨rfl,by simp[aV]⟩
 |_=>simp[elems]at he
theorem mO{P:Program}(t tx ty e:TypeId)(i:TypeInfo)(ht:P.underlying t=some (.slice e))(hi:P.info? e=some i)(base:Option Addr)(xy Cr:Nat)(hle:xy≤Cr)(x:Value)(hs:Src P i.size tx x 0 [] w):
  (Builtin.append_ #[t,tx] ty #[.slice base xy Cr,x]).run P w= .ok (.slice base xy Cr) w:=by
 have hc:=hs.cells;cases base<;>rcases hs.kind with⟨e',hk⟩|hk<;>simp[Builtin.append_,run_underlying ht,run_underlying hk,sizeOf,typeInfo,hi,hs.len,hle,hc,storeCells]
theorem zw {P:Program} (t tx ty e:TypeId) (i:TypeInfo) (ht:P.underlying t=some (.slice e)) (hi:P.info? e=some i) {b p xy Cr:Nat} {x:Value} {n:Nat} {news:List Value} (hs:Src P i.size tx x n news w)
  (Cs:xy+n≤Cr) {c:Array Value} {el:TypeId} (hb:fq w b c el) (nD:p+xy*i.size+news.length≤c.size):
  (Builtin.append_ #[t,tx] ty #[.slice (some ⟨b,p,none⟩) xy Cr,x]).run P w= .ok (.slice (some ⟨b,p,none⟩) (xy+n) Cr) (w.setRow b (kX c (p+xy*i.size) news)):=by
 have gr:=pY (P:=P) (b:=b) (p:=p+xy*i.size) news 0 c w hb (by simpa using nD) fun v hv=>hs.one v (by simpa using hv);simp only[Nat.add_zero]at gr;rcases hs.kind with⟨e',hk⟩|hk<;>simp[Builtin.append_,run_underlying ht,run_underlying hk,sizeOf,typeInfo,hi,hs.len,Cs,hs.cells,Addr.add_lit,gr,kX]
end
section
variable {w:World} {I:Nat→Prop} {σ:dK} {h:aG}
structure Lf (w:World) (I:Nat→Prop) (σ:dK) (id s l:Nat) (ob:Ob) (ad:Option Addr) (cap:Nat):Prop where
 le:l≤cap
 max:cap≤maxLen
 place:cap=0∨ ∃b o c el,σ id=some (b,o,ob.k)∧ad=some ⟨b,o+s*ob.k,none⟩∧fq w b c el∧o+ob.es.length*ob.k≤c.size∧o+(s+cap)*ob.k≤c.size∧bw w I (gE ob.bZ σ) ob.es ob.k b o
theorem Ct(R:Rel w I σ h){id s l:Nat}{ob:Ob}{u:Value}(hr:aV w I σ (.bJ id s l) u)(cy:h id=some ob): ∃ad cap,u= .slice ad l cap∧Lf w I σ id s l ob ad cap:=by
 simp only[aV]at hr;obtain⟨ad,cap,rfl,h1,h2,h3⟩:=hr;refine⟨ad,cap,rfl,h1,h2,?_⟩;rcases h3 with h3|⟨b,o,k,c,el,fz,hs,ha,hb,hle⟩
 ·exact .inl h3
 ·rcases R.obj id ob cy with⟨_,hn⟩|⟨b',o',c',Eh,jV,hi,qH,wm,di⟩
  ·rw[hs]at hn;cases hn
  ·rw[hs]at jV;simp only[aa,ax]at jV;obtain⟨rfl,rfl,rfl⟩:=jV;obtain⟨WG,A6⟩:=qH.at;rw[hb]at A6;simp only[aa,Obj.cells.injEq]at A6;obtain⟨rfl,rfl,rfl⟩:=A6;exact .inr ⟨b,o,c,el,hs,ha,qH,wm,hle,di⟩
theorem Lf.nj{P:Program}{id s l cap:Nat}{ob:Ob}{ad:Option Addr}(B:Lf w I σ id s l ob ad cap)(nH:s+l≤ob.es.length):
  ∃nj:List Value,nj.length=l*ob.k∧bS w I (gE ob.bZ σ) (flat ((ob.es.drop s).take l)) nj∧(Builtin.firstCells ob.k l (.slice ad l cap)).run P w.drew= .ok nj.toArray w.drew:=by
 have hl:=B.le;by_cases h0:l=0
 ·subst h0;refine⟨[],by simp,by simp[flat,bS],?_⟩;cases ad<;>simp[Builtin.firstCells,loadCells,loadCellsFrom]
 ·rcases B.place with hp|⟨b,o,c,el,hs,rfl,hb,hle,T7,di⟩
  ·omega
  ·obtain⟨us,h1,h2,h3⟩:=kZ (di.Gx s l);have T8:((ob.es.drop s).take l).length=l:=by simp;omega
   rw[T8]at h1;exact⟨us,h1,h3,run_firstCells_some w.drew ob.k l _ _ cap us h1 (fun j v hv=>by rw[kG];simpa using h2 j v hv)⟩
theorem xz{z:Array Value}(n:Nat):(Builtin.zeroCells z n).size=n*z.size:=by
 have:=size_madeCells z (n*z.size);unfold madeCells at this;simp[Builtin.zeroCells]
theorem En(nj news:List Value)(z:Array Value)(g n k:Nat)(hz:z.size=k)(ho:(nj++news).length=n*k)(hg:n≤g):
  ((nj++news).toArray++Builtin.zeroCells z (g-n)).size=g*k:=by
 rw[Array.size_append,xz,hz];have:n*k+(g-n)*k=g*k:=by rw[←Nat.add_mul];congr 1;omega
 simp only[List.size_toArray];omega
theorem xA {P:Program} {t tx ty e:TypeId} {x:TI} (ht:P.underlying t=some (.slice e)) (T:gX P e x) {ad:Option Addr} {l cap:Nat} {nj news:List Value} {u:Value} {n:Nat}
  (hold:(Builtin.firstCells x.size l (.slice ad l cap)).run P w.drew= .ok nj.toArray w.drew) (WN:nj.length=l*x.size) (hs:Src P x.size tx u n news w) (hg:cap<l+n) (nD:(l+n)*x.bytes≤2^47) (Ik:l+n≤2^62):
  ∃(c:Array Value) (g:Nat),(Builtin.append_ #[t,tx] ty #[.slice ad l cap,u]).run P w= .ok (.slice (some ⟨w.heap.size,0,none⟩) (l+n) g) (w.drew.alloc (.cells c e))∧l+n≤g∧g≤maxLen∧g*x.size≤c.size∧
   (∀(j:Nat) v,(nj++news)[j]?=some v→c[j]?=some v):=by
 obtain⟨i,z,hi,uR,WL,hz,Sa⟩:=T.info;have Po:=zero_cells (w:=w) (I:=fun _=>False) (σ:=cC) T Sa;have Cp:z.cells.size=x.size:=by
  have:=((bH _ _).1 Po).1;rw[T.K3]at this;simpa using this.symm
 have eJ:=run_append_grow_src (w:=w) t tx ty e i z ht hi hz ad l cap nj (by rw[uR];exact hold) u n news (by rw[uR];exact hs) hg (by omega)
  (by have:=growslice_fits (bytes:=i.bytes) hg (by rw[WL];omega);omega)
 have Pn:=grownCap_ge w (l+n) cap e;have hle:=grownCap_le_maxLen w (l+n) cap e (by simp only[maxLen];omega);have hlen:(nj++news).length=(l+n)*x.size:=by rw[List.length_append,WN,hs.newsLen,Nat.add_mul]
 refine⟨_,_,eJ,Pn,hle,?_,?_⟩
 ·rw[En nj news z.cells _ _ _ Cp hlen Pn];exact Nat.le_refl _
 ·intro j v hv;have hj:=(List.getElem?_eq_some_iff.1 hv).1;rw[Array.getElem?_append_left (by simpa using hj)];simpa using hv
variable {P:Program} {t tx ty e:TypeId} {x:TI} {n:Nat} {xs:List V} {news:List Value} {y:Value}
theorem qQ (R:Rel w I σ h) (ht:P.underlying t=some (.slice e)) (T:gX P e x) {u:Value} (hb:aV w I σ (.sl true []) u) {kp kx:Bool} (Lg:kx=true→kp=true) (hk: ∀v∈xs,v.cells.length=x.size)
  (hs:Src P x.size tx y xs.length news w) (hr:bS w I (gE kx σ) (flat xs) news) (hn:h n=none) (qM:σ n=none) (nD:xs.length*x.bytes≤2^47) (Ik:xs.length≤2^62):
  ∃v w' σ',(Builtin.append_ #[t,tx] ty #[u,y]).run P w= .ok v w'∧Step w I σ h n w' I σ' (aS h n (some ⟨x.size,xs,kp⟩)) (n+1)∧aV w' I σ' (.bJ n 0 xs.length) v:=by
 simp only[aV]at hb;obtain⟨ad,cap,rfl,_,_,hc,_⟩:=hb;have Pp:cap=0:=by simpa using hc
 subst Pp;obtain⟨i,z,hi,uR,WL,hz,Sa⟩:=T.info;by_cases h0:xs=[]
 ·subst h0;have qz:news=[]:=by
   have:=hs.newsLen;simp at this;exact this
  subst qz;refine⟨_,w,σ,mO t tx ty e i ht hi ad 0 0 (Nat.le_refl _) y (by rw[uR];exact hs),Step.nil R hn qM,?_⟩;simp only[aV];exact⟨ad,0,rfl,by simp,by simp[maxLen],.inl rfl⟩
 ·have zk:0<xs.length:=List.length_pos_iff.2 h0;obtain⟨c,g,eJ,Pn,hle,nq,p0⟩:=xA ht T (ad:=ad) (l:=0) (cap:=0) (nj:=[]) (ty:=ty) (by cases ad<;>simp[Builtin.firstCells,loadCells,loadCellsFrom]) (by simp) hs (by omega) (by simpa using nD) (by simpa using Ik);simp only[Nat.zero_add,List.nil_append]at eJ Pn p0;refine⟨_,_,_,eJ,(Step.drew R n).trans (qP (Step.drew R n).rel c hn qM hk (us:=news) ?_ p0),?_⟩
  ·exact(bS.ext' _ _ ((Ext.heap rfl:Ext w I (gE kx σ) w.drew I (gE kx σ)).trans (rS Lg)) hr)
  ·have:=tW w.drew I σ (n:=n) (k:=x.size) (l:=xs.length) (cap:=g) (c:=c) (el:=e) Pn hle nq;simpa using this
theorem Eo (R:Rel w I σ h) (ht:P.underlying t=some (.slice e)) (T:gX P e x) {u:Value} {es:List V} (hb:aV w I σ (.sl true es) u) (hke: ∀v∈es,v.cells.length=x.size) (hk: ∀v∈xs,v.cells.length=x.size)
  (hs:Src P x.size tx y xs.length news w) (hr:bS w I (gE false σ) (flat xs) news) (n:Nat) (nD:(es.length+xs.length)*x.bytes≤2^47) (Ik:es.length+xs.length≤2^62):
  ∃v w' I',(Builtin.append_ #[t,tx] ty #[u,y]).run P w= .ok v w'∧Step w I σ h n w' I' σ h n∧aV w' I' σ (.sl false (es++xs)) v:=by
 have qH:=hb;simp only[aV]at hb;obtain⟨ad,cap,rfl,h1,h2,hc,h4⟩:=hb;have Pp:cap=es.length:=by simpa using hc
 subst Pp;obtain⟨i,z,hi,uR,WL,hz,Sa⟩:=T.info;by_cases h0:xs=[]
 ·subst h0;have qz:news=[]:=by
   have:=hs.newsLen;simp at this;exact this
  subst qz;refine⟨_,w,I,mO t tx ty e i ht hi ad es.length es.length (Nat.le_refl _) y (by rw[uR];exact hs),Step.refl R n,?_⟩;rw[List.append_nil];simp only[aV];exact⟨ad,es.length,rfl,h1,h2,fun hh=>(by cases hh),h4⟩
 ·have zk:0<xs.length:=List.length_pos_iff.2 h0;have hold: ∃nj:List Value,nj.length=es.length*x.size∧bS w I cC (flat es) nj∧(Builtin.firstCells x.size es.length (.slice ad es.length es.length)).run P w.drew= .ok nj.toArray w.drew:=by
   by_cases he:es=[]
   ·subst he;refine⟨[],by simp,by simp[flat,bS],?_⟩;cases ad<;>simp[Builtin.firstCells,loadCells,loadCellsFrom]
   ·rcases h4 with h4|⟨b,o,k',rfl,hI,di⟩
    ·exact absurd h4 he
    ·have tT:k'=x.size:=by
      obtain⟨v,hv⟩:=List.exists_mem_of_ne_nil es he;rw[←di.lens v hv];exact hke v hv
     subst tT;obtain⟨us,h1,h2,h3⟩:=kZ di;exact⟨us,h1,h3,run_firstCells_some w.drew _ _ _ _ _ us h1 (fun j v hv=>by rw[kG];simpa using h2 j v hv)⟩
  obtain⟨nj,WN,Lh,hof⟩:=hold;obtain⟨c,g,eJ,Pn,hle,nq,p0⟩:=xA ht T (ty:=ty) hof WN hs (by omega) nD Ik;have st:=(Step.drew R n).trans (Ba (Step.drew R n).rel c e n);refine⟨_,_,_,eJ,st,?_⟩;simp only[aV];refine⟨_,g,by rw[List.length_append],by rw[List.length_append];exact Pn,hle,fun hh=>(by cases hh),.inr ⟨w.heap.size,0,x.size,rfl,.inr rfl,?_⟩⟩;refine nJ st.ext.AY (us:=nj++news) (fun v hv=> ?_) (by rw[mr];exact Lh.append hr) (fun j v hv=> ?_)
  ·rcases List.mem_append.1 hv with hv|hv
   ·exact hke v hv
   ·exact hk v hv
  ·have:(w.drew.alloc (.cells c e)).heap[w.heap.size]?=some (.cells c e):=HZ w.drew (.cells c e);rw[cell_of_row _ _ _ _ _ _ this];simpa using p0 j v hv
theorem Ep (R:Rel w I σ h) (ht:P.underlying t=some (.slice e)) (T:gX P e x) {id s l:Nat} {ob:Ob} {u:Value} (hb:aV w I σ (.bJ id s l) u) (cy:h id=some ob) (jF:ob.k=x.size) (nH:s+l≤ob.es.length)
  {kp kx:Bool} (Lg:kx=true→kp=true) (Pq:ob.bZ=true→kp=true) (hk: ∀v∈xs,v.cells.length=x.size)
  (hs:Src P x.size tx y xs.length news w) (hr:bS w I (gE kx σ) (flat xs) news) (hn:h n=none) (qM:σ n=none) (nD:(l+xs.length)*x.bytes≤2^47) (Ik:l+xs.length≤2^62):
  ∃v w' σ',(Builtin.append_ #[t,tx] ty #[u,y]).run P w= .ok v w'∧Step w I σ h n w' I σ' (aS (aS h id none) n (some ⟨x.size,(ob.es.drop s).take l++xs,kp⟩)) (n+1)∧aV w' I σ' (.bJ n 0 (l+xs.length)) v:=by
 obtain⟨ad,cap,rfl,B⟩:=Ct R hb cy;obtain⟨i,z,hi,uR,WL,hz,Sa⟩:=T.info;have hle:=B.le;have eZ:n≠id:=fun e=>by rw[e,cy]at hn;cases hn
 have D4:aS h id none n=none:=by simp[aS,eZ,hn]
 have GG:((ob.es.drop s).take l).length=l:=by simp;omega
 have hkh:n≠id∧True:=⟨eZ,trivial⟩;by_cases hg:cap<l+xs.length
 ·obtain⟨nj,WN,Lh,hof⟩:=B.nj (P:=P) nH;rw[jF]at WN hof;obtain⟨c,g,eJ,Pn,ada,nq,p0⟩:=xA ht T (ty:=ty) hof WN hs hg nD Ik;have s1:=(Step.kill R id n).trans (Step.drew (R.kill id) n);have zg: ∀v∈ (ob.es.drop s).take l++xs,v.cells.length=x.size:=by
   intro v hv;rcases List.mem_append.1 hv with hv|hv
   ·rcases B.place with hp|⟨b,o,c,el,_,_,_,_,_,di⟩
    ·have:l=0:=by omega
     subst this;simp at hv
    ·rw[←jF];exact di.lens v (List.mem_of_mem_drop (List.mem_of_mem_take hv))
   ·exact hk v hv
  have hE: ∀{kk:Bool},(kk=true→kp=true)→Ext w I (gE kk σ) w.drew I (gE kp σ):=fun hh=>(Ext.heap rfl:Ext w I (gE _ σ) w.drew I (gE _ σ)).trans (rS hh);refine⟨_,_,_,eJ,s1.trans (qP s1.rel c D4 qM zg (us:=nj++news) ?_ p0),?_⟩
  ·rw[mr];exact(bS.ext' _ _ (hE Pq) Lh).append (bS.ext' _ _ (hE Lg) hr)
  ·have:=tW w.drew I σ (n:=n) (k:=x.size) (l:=l+xs.length) (cap:=g) (c:=c) (el:=e) Pn ada nq;simpa using this
 ·have Cs:l+xs.length≤cap:=by omega
  rcases B.place with hp|⟨b,o,c,el,eN,rfl,xD,PY,T7,di⟩
  ·subst hp;have h0:xs=[]:=List.eq_nil_of_length_eq_zero (by omega);have KG:l=0:=by omega
   subst h0;subst KG;have qz:news=[]:=by
    have:=hs.newsLen;simp at this;exact this
   subst qz;refine⟨_,w,σ,mO t tx ty e i ht hi ad 0 0 (Nat.le_refl _) y (by rw[uR];exact hs),?_,?_⟩
   ·have:=(Step.kill R id n).trans (Step.nil (R.kill id) (k:=x.size) (bZ:=kp) D4 qM);simpa using this
   ·simp only[aV];exact⟨ad,0,rfl,by simp,by simp[maxLen],.inl rfl⟩
  ·
   have p0:news.length=xs.length*x.size:=hs.newsLen;have hmul:(s+cap)*ob.k=s*ob.k+cap*ob.k:=Nat.add_mul ..;have Sc:(l+xs.length)*ob.k≤cap*ob.k:=Nat.mul_le_mul_right _ Cs;rw[Nat.add_mul]at Sc;have ah2:(s+l)*ob.k=s*ob.k+l*ob.k:=Nat.add_mul ..;have pq:o+(s+l)*ob.k+news.length≤c.size:=by rw[p0,←jF];omega
   have eJ:=zw (w:=w) (P:=P) t tx ty e i ht hi (b:=b) (p:=o+s*ob.k) (xy:=l) (Cr:=cap) (x:=y) (n:=xs.length) (news:=news) (by rw[uR];exact hs) Cs xD
    (by rw[uR,←jF];omega)
   rw[uR,←jF,show o+s*ob.k+l*ob.k=o+(s+l)*ob.k by omega]at eJ;have hI: ¬I b:=(R.owned ⟨id,ob,o,ob.k,cy,eN⟩).1;have E:Ext w I σ (w.setRow b (kX c (o+(s+l)*ob.k) news)) I σ:=Ext.setRow hI xD (ju pq);have p7:fq _ b (kX c (o+(s+l)*ob.k) news) el:=xD.set (ju pq);have uS:=di.Gx 0 (s+l);simp only[List.drop_zero,Nat.zero_mul,Nat.add_zero]at uS;obtain⟨us,Kx,Sd,hur⟩:=kZ uS;have nr:(ob.es.take (s+l)).length=s+l:=by simp;omega
   rw[nr]at Kx;have qy:bw (w.setRow b (kX c (o+(s+l)*ob.k) news)) I (gE kp σ) (ob.es.take (s+l)++xs) ob.k b o:=by
    refine nJ (E.kW kp) (us:=us++news) (fun v hv=> ?_) ?_ (fun j v hv=> ?_)
    ·rcases List.mem_append.1 hv with hv|hv
     ·exact di.lens v (List.mem_of_mem_take hv)
     ·rw[jF];exact hk v hv
    ·rw[mr];exact(bS.ext' _ _ (rS Pq) hur).append (bS.ext' _ _ (rS Lg) hr)
    ·rw[p7.cell,po pq];by_cases hj:j<us.length
     ·rw[List.getElem?_append_left hj]at hv;rw[if_neg (by omega)];have:=Sd j v hv;rwa[xD.cell]at this
     ·have vE:=(List.getElem?_eq_some_iff.1 hv).1;rw[List.length_append]at vE;rw[List.getElem?_append_right (by omega)]at hv;rw[if_pos (by omega),show o+j-(o+(s+l)*ob.k)=j-us.length by omega];exact hv
   have XT:o+(ob.es.take (s+l)++xs).length*ob.k≤c.size:=by
    rw[List.length_append,nr,Nat.add_mul];rw[p0,←jF]at pq;omega
   have s1:=R.write (bZ:=kp) cy eN xD (ju pq) XT qy n;have adb:aS h id (some (⟨ob.k,ob.es.take (s+l)++xs,kp⟩:Ob)) id=some ⟨ob.k,ob.es.take (s+l)++xs,kp⟩:=by simp[aS]
   have Se:aS h id (some (⟨ob.k,ob.es.take (s+l)++xs,kp⟩:Ob)) n=none:=by simp[aS,eZ,hn]
   have s2:=Step.T5 s1.rel (n:=n) (s:=s) (kp:=kp) adb eN Se qM (fun hh=>hh) p7 (by rw[ju pq];exact XT) qy (by rw[List.length_append,nr];omega);have s3:=s1.trans s2;have XU:(ob.es.take (s+l)++xs).drop s=(ob.es.drop s).take l++xs:=by
    rw[List.drop_append_of_le_length (by rw[nr];omega),List.drop_take];congr 2;omega
   refine⟨_,_,aS σ n (some (b,o+s*ob.k,ob.k)),eJ,?_,?_⟩
   ·have Il:aS (aS h id (some (⟨ob.k,ob.es.take (s+l)++xs,kp⟩:Ob))) id none=aS h id none:=by
     funext q;simp only[aS];split<;>rfl
    rw[Il,XU]at s3;rw[←jF];exact s3
   ·simp only[aV];obtain⟨fz,XV⟩:=p7.at;exact⟨_,cap,rfl,Cs,B.max,.inr ⟨b,o+s*ob.k,ob.k,_,el,fz,by simp[aS],by simp,XV,by rw[ju pq,Nat.zero_add];omega⟩⟩
theorem Bb{v:V}{xs:List V}{kx:Bool}(he:elems h v=some (xs,kx))(R:Rel w I σ h){k:Nat}(hl: ∀e∈xs,e.cells.length=k): ∀id s l,v= .bJ id s l→ ∃ob,h id=some ob∧(xs≠ []→ob.k=k):=by
 rintro id s l rfl;simp only[elems]at he;cases cy:h id with
 |none=>simp[cy]at he
 |some ob=>
  refine⟨ob,rfl,fun eZ=> ?_⟩;simp only[cy]at he;split at he
  ·simp only[aa,ax]at he;obtain⟨rfl,rfl⟩:=he;obtain⟨v,hv⟩:=List.exists_mem_of_ne_nil _ eZ;rw[←hl v hv];have hm:=List.mem_of_mem_drop (List.mem_of_mem_take hv);obtain⟨i,hi⟩:=List.getElem?_of_mem hm;obtain⟨b',o',c',Eh,_,_,_,_,di⟩:=R.at cy hi;exact(di.lens v hm).symm
  ·cases he
theorem Sf{α:Type}{a:Array α}{x y:α}(h:a.toList=[x,y]):a= #[x,y]:=by rw[←h]
theorem Li{α:Type}{a:Array α}{x y:α}{r:List α}(h:a.toList=x::y::r):a[0]?=some x∧a[1]?=some y:=by
 rw[←Array.getElem?_toList,←Array.getElem?_toList,h];simp
theorem Er{gq:Array TypeId}{t u:TypeId}{r:List TypeId}(ht:gq.toList=t::u::r)(ty:TypeId)(args:Array Value):Builtin.append_ gq ty args=Builtin.append_ #[t,u] ty args:=by
 simp[Builtin.append_,Li ht]
theorem Lj{gq:Array TypeId}{t u:TypeId}{r:List TypeId}(ht:gq.toList=t::u::r)(ty:TypeId)(args:Array Value):Builtin.copy_ gq ty args=Builtin.copy_ #[t,u] ty args:=by
 simp[Builtin.copy_,Li ht]
end
end Go.Abs
