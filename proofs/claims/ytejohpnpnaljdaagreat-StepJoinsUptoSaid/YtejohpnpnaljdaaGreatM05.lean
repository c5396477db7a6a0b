/- Part of a proof: engine A12. -/
import Derived.Test.YtejohpnpnaljdaaGreatM04
import Derived.Deep.AppendSrc
set_option linter.all false
set_option maxRecDepth 20000
set_option maxHeartbeats 20000000
namespace Go.Abs
open Go
def flat(es:List V):List V:=es.flatMap V.cells
theorem mF(e:V)(es:List V):flat (e::es)=e.cells++flat es:=rfl
theorem pJ(es xs:List V):flat (es++xs)=flat es++flat xs:=by simp[flat]
theorem mo{es:List V}{k:Nat}(h: ∀e∈es,e.cells.length=k):(flat es).length=es.length*k:=by
 induction es with
 |nil=>simp[flat]
 |cons e es ih=>
  rw[mF,List.length_append,ih (fun x hx=>h x (by simp[hx])),h e (by simp),List.length_cons,Nat.add_mul];omega
section
variable {w w':World} {I I':Nat->Prop} {σ σ':gH}
theorem dn.append{cs ds:List V}{us vs:List Value}(h1:dn w I σ cs us)(h2:dn w I σ ds vs):dn w I σ (cs++ds) (us++vs):=by
 induction cs generalizing us with
 |nil=>simp only[dn]at h1;subst h1;simpa using h2
 |cons c cs ih=>
  simp only[dn]at h1;obtain⟨u,r,rfl,h3,h4,h5⟩:=h1;simp only[List.cons_append,dn];exact⟨u,r++vs,rfl,h3,h4,ih h5⟩
theorem dn.split{cs ds:List V}{us:List Value}(h:dn w I σ (cs++ds) us): ∃QE Xh,us=QE++Xh/\dn w I σ cs QE/\dn w I σ ds Xh:=by
 induction cs generalizing us with
 |nil=>exact⟨[],us,rfl,by simp[dn],by simpa using h⟩
 |cons c cs ih=>
  simp only[List.cons_append,dn]at h;obtain⟨u,r,rfl,h3,h4,h5⟩:=h;obtain⟨QE,Xh,rfl,h6,h7⟩:=ih h5;exact⟨u::QE,Xh,rfl,by simp only[dn];exact⟨u,QE,rfl,h3,h4,h6⟩,h7⟩
theorem sw(E:Ext w I σ w' I' σ'){k b:Nat}: ∀{es:List V} {us:List Value} {o:Nat},(∀e∈es,e.cells.length=k)->dn w I σ (flat es) us->(∀j u,us[j]?=some u->w'.cell? ⟨b,o+j,none⟩=some u)->cQ w' I' σ' es k b o
 | [],_,_,_,_,_=>by simp[cQ]
 |e::es,us,o,hk,hr,hc=>by
  rw[mF]at hr;obtain⟨QE,Xh,rfl,h1,h2⟩:=hr.split;have hl:QE.length=k:=by rw[<-((dh _ _).1 h1).1];exact hk e (by simp)
  rw[jR];refine⟨hk e (by simp),fun j c hj=> ?_,sw E (fun x hx=>hk x (by simp[hx])) h2 (fun j u hu=> ?_)⟩
  ·obtain⟨u,hu,h3,h4⟩:=h1.get hj;have sx:j<QE.length:=(List.getElem?_eq_some_iff.1 hu).1;exact⟨u,hc j u (by rw[List.getElem?_append_left sx];exact hu),h3,h4.ext E⟩
  ·have:=hc (k+j) u (by rw[List.getElem?_append_right (by omega),hl];simpa using hu);rwa[show o+(k+j)=o+k+j by omega]at this
theorem oq{k b:Nat}: ∀{es:List V} {o:Nat},cQ w I σ es k b o-> ∃us:List Value,us.length=es.length*k/\(∀j u,us[j]?=some u->w.cell? ⟨b,o+j,none⟩=some u)/\dn w I σ (flat es) us
 | [],o,_=>⟨[],by simp,by simp,by simp[flat,dn]⟩
 |e::es,o,h=>by
  rw[jR]at h;obtain⟨h1,h2,h3⟩:=h;obtain⟨QE,hl1,NR,hr1⟩:=h2.ajj;obtain⟨Xh,wL,NS,Mw⟩:=oq h3;refine⟨QE++Xh,by rw[List.length_append,hl1,wL,h1,List.length_cons,Nat.add_mul];omega,fun j u hu=> ?_,by rw[mF];exact hr1.append Mw⟩;by_cases hj:j<QE.length
  ·rw[List.getElem?_append_left hj]at hu;exact NR j u hu
  ·rw[List.getElem?_append_right (by omega)]at hu;have:=NS _ u hu;rwa[show o+k+(j-QE.length)=o+j by omega]at this
theorem cQ.lens{es:List V}{k b o:Nat}(h:cQ w I σ es k b o): ∀e∈es,e.cells.length=k:=by
 intro e he;obtain⟨i,hi,rfl⟩:=List.mem_iff_getElem.1 he;exact(h.get (i:=i) (by simp)).1
theorem ux(n:Nat)(v:V):flat (List.replicate n v)=(List.replicate n v.cells).flatten:=by
 induction n with
 |zero=>rfl
 |succ n ih=>rw[List.replicate_succ,mF,ih,List.replicate_succ,List.flatten_cons]
theorem wo{cs:List V}{us:List Value}(h:dn w I σ cs us)(n:Nat):dn w I σ (List.replicate n cs).flatten (List.replicate n us).flatten:=by
 induction n with
 |zero=>simp[dn]
 |succ n ih=>rw[List.replicate_succ,List.replicate_succ,List.flatten_cons,List.flatten_cons];exact h.append ih
theorem kh{α:Type}(l:List α)(hp:0<l.length): ∀(n j:Nat),(List.replicate n l).flatten[j]?=if j<n*l.length then l[j % l.length]? else none
 |0,j=>by simp
 |n+1,j=>by
  rw[List.replicate_succ,List.flatten_cons];by_cases hj:j<l.length
  ·rw[List.getElem?_append_left hj,if_pos (by rw[Nat.add_mul];omega),Nat.mod_eq_of_lt hj]
  ·rw[List.getElem?_append_right (by omega),kh l hp n (j-l.length)];by_cases h2:j-l.length<n*l.length
   ·rw[if_pos h2,if_pos (by rw[Nat.add_mul];omega),<-Nat.mod_eq_sub_mod (a:=j) (b:=l.length) (by omega)]
   ·rw[if_neg h2,if_neg (by rw[Nat.add_mul];omega)]
theorem D1(z:Array Value)(k n:Nat)(hk:z.size=k)(hp:0<k):((Array.range (n*k)).map (z[· % z.size]!)).toList=(List.replicate n z.toList).flatten:=by
 subst hk;apply List.ext_getElem?;intro j;rw[kh z.toList (by simpa using hp)];simp only[Array.length_toList,Array.getElem?_toList,Array.getElem?_map];by_cases hj:j<n*z.size
 ·rw[if_pos hj];have hm:j % z.size<z.size:=Nat.mod_lt _ hp;simp[hj,hm]
 ·rw[if_neg hj];simp[hj]
theorem BB{n:Nat}{vs xs:List V}{ys us:List Value}(h1:dn w I σ xs us)(h2:dn w I σ vs ys)(hle:n+vs.length<=xs.length):
  dn w I σ (jG n vs xs) (us.take n++ys++us.drop (n+ys.length)):=by
 have l1:=((dh _ _).1 h1).1;have l2:=((dh _ _).1 h2).1;rw[dh];refine⟨by rw[pA];simp;omega,fun j c u hc hu=> ?_⟩;rw[nm _ _ _ _ hle]at hc;split at hc
 ·rename_i hj;rw[List.getElem?_append_left (by simp;omega),List.getElem?_append_right (by simp;omega)]at hu;simp only[List.length_take]at hu;rw[show j-min n us.length=j-n by omega]at hu;exact((dh _ _).1 h2).2 _ c u hc hu
 ·rename_i hj;by_cases JV:j<n
  ·rw[List.append_assoc,List.getElem?_append_left (by simp;omega),List.getElem?_take,if_pos JV]at hu;exact((dh _ _).1 h1).2 _ c u hc hu
  ·rw[List.getElem?_append_right (by simp;omega),List.getElem?_drop]at hu;simp only[List.length_append,List.length_take]at hu;rw[show n+ys.length+(j-(min n us.length+ys.length))=j by omega]at hu;exact((dh _ _).1 h1).2 _ c u hc hu
theorem BC: ∀(vs:List Value) (off j0:Nat) (cs:Array Value),off+j0+vs.length<=cs.size->
  ((vs.zipIdx j0).foldl (fun cs (p:Value×Nat)=>cs.setIfInBounds (off+p.2) p.1) cs).toList=cs.toList.take (off+j0)++vs++cs.toList.drop (off+j0+vs.length)
 | [],off,j0,cs,h=>by simp
 |v::vs,off,j0,cs,h=>by
  simp only[List.zipIdx_cons,List.foldl_cons];rw[BC vs off (j0+1) (cs.setIfInBounds (off+j0) v) (by simp at h⊢;omega)];have e:=list_seg_step cs.toList (off+j0) v vs (by simp at h⊢;omega);simpa[Array.toList_setIfInBounds,Nat.add_assoc] using e
theorem zT(u:Value)(off:Nat)(cs:Array Value)(h:off+u.cells.size<=cs.size):
  u.cells.zipIdx.foldl (fun cs (p:Value×Nat)=>cs.setIfInBounds (off+p.2) p.1) cs=pZ cs off u.cells.toList:=by
 apply Array.ext';rw[<-Array.foldl_toList];have:u.cells.zipIdx.toList=u.cells.toList.zipIdx:=by simp
 rw[this];have:=BC u.cells.toList off 0 cs (by simpa using h);simpa[pZ] using this
theorem yT{JK:List (Nat×Nat)}{place:Nat->Option (Nat×Nat)}(hp: ∀(i:Nat) x,JK[i]?=some x->place i=some x)(De: ∀x∈JK,0<x.2):
  ∀{ps:List (Nat×V)} {cs qC:List V} {us:Array Value} {AP:List (Nat×Value)},dn w I σ cs us.toList->dU w I σ (ps.map (·.2)) (AP.map (·.2))->ps.map (·.1)=AP.map (·.1)->tL JK cs ps=some qC->
   ∃yR:Array Value,Instr.fill place us AP=some yR/\dn w I σ qC yR.toList
 | [],cs,qC,us,AP,hc,hr,hi,hf=>by
  simp only[tL,au]at hf;subst hf;cases AP with
  |nil=>exact⟨us,rfl,hc⟩
  |cons _ _=>simp at hi
 |(i,v)::ps,cs,qC,us,AP,hc,hr,hi,hf=>by
  cases AP with
  |nil=>simp at hi
  |cons p AP=>
   obtain⟨i',u⟩:=p;simp only[List.map_cons,List.cons.injEq]at hi;obtain⟨rfl,hi⟩:=hi;simp only[List.map_cons,dU]at hr;obtain⟨u0,r,he,hv,hr⟩:=hr;simp only[List.cons.injEq]at he;obtain⟨rfl,rfl⟩:=he;simp only[tL]at hf;cases ho:JK[i]? with
   |none=>simp[ho]at hf
   |some x=>
    obtain⟨o,k⟩:=x;simp only[ho]at hf;split at hf
    ·rename_i ku;simp only[Bool.and_eq_true,decide_eq_true_eq]at ku;have mM:=hv.cells ku.1;have hlen:=((dh _ _).1 hc).1;have NH:=((dh _ _).1 mM.2).1;have adq:u.cells.size=k:=by rw[mM.1]at NH;simpa using NH.symm
     have qE:us.size=cs.length:=by simpa using hlen.symm
     have AM:=BB (n:=o) hc mM.2 (by omega);rw[show us.toList.take o++u.cells.toList++us.toList.drop (o+u.cells.toList.length)=(pZ us o u.cells.toList).toList from rfl]at AM;obtain⟨yR,h1,h2⟩:=yT hp De AM hr hi hf;refine⟨yR,?_,h2⟩;simp only[Instr.fill,hp i _ ho];rw[if_neg]
     ·rw[zT u o us (by omega)];exact h1
     ·simp only[Bool.or_eq_true,decide_eq_true_eq,not_or];exact⟨by simpa using adq,by omega⟩
    ·cases hf
end
section
variable {X:Env} {o:Oper} {a:Act} {w:World} {I:Nat->Prop} {σ:gH} {S S1:St}
theorem yU{S:St}{a:Act}{o:Oper}(F:ir w I σ S.f a)(hx:mn o)(ps:List (Nat×Operand))(hq: ∀y∈ps,y.2∈o.op.operands.toList):
  dU w I σ ((ps.map fun p=>(p.1,S.ev p.2)).map (·.2)) ((ps.map fun p=>(p.1,a.eval p.2)).map (·.2))/\(ps.map fun p=>(p.1,S.ev p.2)).map (·.1)=(ps.map fun p=>(p.1,a.eval p.2)).map (·.1):=by
 refine⟨?_,by simp⟩;induction ps with
 |nil=>simp[dU]
 |cons p ps ih=>
  simp only[List.map_cons,dU];exact⟨_,_,rfl,dO (S:=S) F (hx p.2 (hq p (by simp))),ih (fun y hy=>hq y (by simp[hy]))⟩
theorem s9{P:Program}{t:TypeId}{x:TI}(T:kP P t x){z:Value}(hz:DW x.zero z=true):dn w I σ x.zero.cells z.cells.toList:=((GO T hz).cells T.W6).2
theorem GX{P:Program}{t:TypeId}(h:0<P.cellsOf t)(w:World):(sizeOf t).run P w= .ok (P.cellsOf t) w:=by
 unfold Program.cellsOf at h⊢;cases hi:P.info? t with
 |none=>simp[hi]at h
 |some i=>simp[sizeOf,typeInfo,hi]
theorem zU{P:Program}(w:World): ∀(fs:List Field),(∀f∈fs,0<P.cellsOf f.type)->
  (fs.mapM fun f=>Functor.map (Prod.mk f.offset) (sizeOf f.type)).run P w= .ok (fs.map fun f=>(f.offset,P.cellsOf f.type)) w
 | [],_=>by simp
 |f::fs,h=>by
  simp[List.mapM_cons,GX (h f (by simp)),zU w fs (fun x hx=>h x (by simp[hx]))]
theorem D2 {t:TypeId} {ps:Array (Nat×Operand)} {cs:List V} (ho:o.op= .build t ps) (T:kP X.P t (X.ti t)) (hTe:(X.ti t).arr=none\/kP X.P (X.ti t).elem (X.ti (X.ti t).elem)) (R:Rel w I σ S.h) (F:ir w I σ S.f a) (hx:mn o)
  (hf:((X.ti t).arr=none/\tL (X.ti t).vW (X.ti t).zero.cells (ps.toList.map fun p=>(p.1,S.ev p.2))=some cs/\(X.ti t).vW≠ [])\/
   ∃m,(X.ti t).arr=some m/\tL ((List.range m).map fun i=>(i*(X.ti (X.ti t).elem).size,(X.ti (X.ti t).elem).size)) (X.ti t).zero.cells (ps.toList.map fun p=>(p.1,S.ev p.2))=some cs)
  (hs:S1=S.set o.dst (.agg cs)):Out X o a w I σ S S1:=by
 obtain⟨z,hz,hb⟩:=Bv T w;have NT:=s9 (w:=w) (I:=I) (σ:=σ) T hb;have Ff:=yU F hx ps.toList (by intro y hy;simp only[ho,Op.operands];exact List.mem_map_of_mem hy);obtain⟨d,hd,hdb⟩:=T.und;have arq:(ps.map fun(p:Nat×Operand)=>(p.1,a.eval p.2)).toList=ps.toList.map fun p=>(p.1,a.eval p.2):=by simp
 rcases hf with⟨hn,hf,iK⟩|⟨m,hm,hf⟩
 ·cases d with
  |struct fs=>
   simp only[xM,Bool.and_eq_true,beq_iff_eq]at hdb;obtain⟨⟨⟨⟨_,A4⟩,_⟩,_⟩,De⟩:=hdb;have QF: ∀(i:Nat) x,(X.ti t).vW[i]?=some x->((fs.map fun f=>(f.offset,X.P.cellsOf f.type))[·]?) i=some x:=by
    intro i x hi;rw[A4]at hi;simpa using hi
   obtain⟨yR,h1,h2⟩:=yT QF (fun x AL=>by
    rw[A4]at AL;obtain⟨f,hfm,rfl⟩:=List.mem_map.1 AL;simpa using List.all_eq_true.1 De f hfm) NT Ff.1 Ff.2 hf
   refine Out.pure (u:= .agg yR) R ?_ (by simp only[cC];exact⟨yR,rfl,h2⟩) hs;have hpm:=zU (P:=X.P) w fs.toList (fun f hf=>of_decide_eq_true (List.all_eq_true.1 De f hf));simp only[Array.getElem?_map]at h1;simp[execOp,ho,Instr.build,hz,run_underlying hd,Array.mapM_eq_mapM_toList,hpm,h1]
  |_=>
   exfalso;simp[xM]at hdb;first
    |exact iK hdb.2
    |(rw[hn]at hdb;simp at hdb)
 ·have hu:=By T hm;have Te:=hTe.resolve_left (by rw[hm];simp);obtain⟨yR,h1,h2⟩:=yT (place:=fun i=>some (i*(X.ti (X.ti t).elem).size,(X.ti (X.ti t).elem).size)) (fun i x hi=>by
   rw[List.getElem?_map]at hi;cases hr:(List.range m)[i]? with
   |none=>simp[hr]at hi
   |some j=>
    have hj:j=i:=by
     have:=(List.getElem?_eq_some_iff.1 hr).2;simpa using this.symm
    subst hj;simpa[hr] using hi) (fun x AL=>by
   obtain⟨i,_,rfl⟩:=List.mem_map.1 AL;exact Te.pos) NT Ff.1 Ff.2 hf
  refine Out.pure (u:= .agg yR) R ?_ (by simp only[cC];exact⟨yR,rfl,h2⟩) hs;simp[execOp,ho,Instr.build,hz,run_underlying hu,run_sizeOf Te,h1]
end
section
variable {X:Env} {o:Oper} {a:Act} {w:World} {I:Nat->Prop} {σ:gH} {S S1:St}
theorem uy {h:aY} (R:Rel w I σ h) {n k:Nat} {es:List V} {dG:Bool} {us:List Value} {el:TypeId} (c:Array Value) (hn:h n=none) (hs:σ n=none)
  (hk: ∀e∈es,e.cells.length=k) (hr:dn w I (kH dG σ) (flat es) us) (hc: ∀(j:Nat) u,us[j]?=some u->c[j]?=some u):
  Step w I σ h n (w.alloc (.cells c el)) I (aO σ n (some (w.heap.size,0,k))) (aO h n (some ⟨k,es,dG⟩)) (n+1):=by
 have hlen:us.length=es.length*k:=by rw[<-((dh _ _).1 hr).1,mo hk]
 refine E7 R c hn hs ?_ ?_
 ·by_cases h0:us.length=0
  ·omega
  ·have ajo:us[us.length-1]?=some (us[us.length-1]'(by omega)):=by simp
   have:=(Array.getElem?_eq_some_iff.1 (hc _ _ ajo)).1;omega
 ·have E:Ext w I σ (w.alloc (.cells c el)) I (aO σ n (some (w.heap.size,0,k))):=(Ext.alloc R.dy _).trans (Ext.Q9 hs);refine sw (E.o9 dG) hk hr (fun j u hu=> ?_);rw[cell_of_row _ _ _ _ _ _ (NI w (.cells c el))];simpa using hc j u hu
theorem xS(w:World)(I:Nat->Prop)(σ:gH){n k l cap:Nat}{c:Array Value}{el:TypeId}(Xb:l<=cap)(hm:cap<=maxLen)(qE:cap*k<=c.size):
  cC (w.alloc (.cells c el)) I (aO σ n (some (w.heap.size,0,k))) (.bU n 0 l) (.slice (some ⟨w.heap.size,0,none⟩) l cap):=by
 simp only[cC];exact⟨_,cap,rfl,Xb,hm,.inr ⟨w.heap.size,0,k,c,el,(0,0),by simp[aO],by simp,NI w _,by simpa using qE⟩⟩
theorem Dn {t:TypeId} {l c:Operand} {k1 k2:IntKind} {n m:Int} (ho:o.op= .makeSlice t l c) (hu:X.P.underlying t=some (.slice (X.ti t).elem)) (T:kP X.P (X.ti t).elem (X.ti (X.ti t).elem)) (R:Rel w I σ S.h) (F:ir w I σ S.f a) (hx:mn o)
  (hn:S.h S.n=none) (sZ:σ S.n=none) (hl:S.ev l= .int k1 n) (hc:S.ev c= .int k2 m) (hb:0<=n/\n<=m/\m*(X.ti (X.ti t).elem).bytes<=2^47/\m<=2^62)
  {kp:Bool} (hs:S1=(S.new ⟨(X.ti (X.ti t).elem).size,List.replicate n.toNat (X.ti (X.ti t).elem).zero,kp⟩).set o.dst (.bU S.n 0 n.toNat)):Out X o a w I σ S S1:=by
 subst hs;have h1:cC w I σ (S.ev l) (a.eval l):=dO (S:=S) F (hx l (by simp[ho,Op.operands]));have h2:cC w I σ (S.ev c) (a.eval c):=dO (S:=S) F (hx c (by simp[ho,Op.operands]));rw[hl]at h1;rw[hc]at h2;have wL:=fl h1;have yV:=fl h2;obtain⟨i,z,hi,yW,Wj,hz,hzb⟩:=T.info;have NT:=s9 (w:=w) (I:=I) (σ:=kH kp σ) T hzb;have GY:z.cells.size=(X.ti (X.ti t).elem).size:=by
  have:=((dh _ _).1 NT).1;rw[T.Rb]at this;simpa using this.symm
 have hm0:m=(m.toNat:Int):=by omega
 have hn0:n=(n.toNat:Int):=by omega
 have ads:(i.bytes:Int)*m<=281474976710656:=by
  rw[Wj,Int.mul_comm];omega
 have jt:=run_make (P:=X.P) w t (X.ti t).elem i z hu hi hz k1 k2 n m hb.1 hb.2.1 ads (by omega);rw[yW]at jt;have ajq:(madeCells z.cells (m.toNat*(X.ti (X.ti t).elem).size)).toList=(List.replicate m.toNat z.cells.toList).flatten:=by
  unfold madeCells;rw[<-GY];exact D1 z.cells _ _ rfl (by rw[GY];exact T.pos)
 have kn: ∀e∈List.replicate n.toNat (X.ti (X.ti t).elem).zero,e.cells.length=(X.ti (X.ti t).elem).size:=by
  intro e he;rw[List.eq_of_mem_replicate he];exact T.Rb
 have lX:dn w I (kH kp σ) (flat (List.replicate n.toNat (X.ti (X.ti t).elem).zero)) (List.replicate n.toNat z.cells.toList).flatten:=by
  rw[ux];exact wo NT n.toNat
 refine⟨_,_,I,_,.slice (some ⟨w.heap.size,0,none⟩) n.toNat m.toNat,.bU S.n 0 n.toNat,?_,.inl rfl,?_,qo _ _ _ _ rfl,xS w I σ (k:=(X.ti (X.ti t).elem).size) (c:=madeCells z.cells (m.toNat*(X.ti (X.ti t).elem).size)) (el:=(X.ti t).elem) (by omega) (by simp only[maxLen];omega) (by rw[size_madeCells];exact Nat.le_refl _)⟩
 ·simp[execOp,ho,wL,yV,jt]
 ·rw[dJ,fa];refine uy R _ hn sZ kn lX (fun j u Gs=> ?_);have hlz:0<z.cells.toList.length:=by simp[GY];exact T.pos
  rw[kh _ hlz]at Gs;rw[<-Array.getElem?_toList,ajq,kh _ hlz];split at Gs
  ·rename_i hj;rw[if_pos (Nat.lt_of_lt_of_le hj (Nat.mul_le_mul_right _ (by omega)))];exact Gs
  ·cases Gs
theorem Mx {args:Array Operand} {jP:Array TypeId} {x y:Operand} {k:IntKind} {p q:Int} (mx:Bool) (ho:o.op= .call ⟨.builtin (if mx then .max else .min),args,jP⟩) (ha:args.toList=[x,y]) (R:Rel w I σ S.h) (F:ir w I σ S.f a) (hx:mn o)
  (h1:S.ev x= .int k p) (h2:S.ev y= .int k q) (hs:S1=S.set o.dst (.int k (if mx then(if q>p then q else p) else(if q<p then q else p)))):Out X o a w I σ S S1:=by
 have wI:args= #[x,y]:=by rw[<-ha]
 have r1:cC w I σ (S.ev x) (a.eval x):=dO (S:=S) F (hx x (by simp[ho,Op.operands,Call.operands,wI]));have r2:cC w I σ (S.ev y) (a.eval y):=dO (S:=S) F (hx y (by simp[ho,Op.operands,Call.operands,wI]));rw[h1]at r1;rw[h2]at r2;refine Out.pure (u:= .int k (if mx then(if q>p then q else p) else(if q<p then q else p))) R ?_ (by simp only[cC]) hs;cases mx
 ·simp[execOp,ho,wI,resolve,invoke,builtin,fl r1,fl r2,Builtin.min_,Builtin.min2]
 ·simp[execOp,ho,wI,resolve,invoke,builtin,fl r1,fl r2,Builtin.max_,Builtin.max2]
end
theorem GZ{k:Nat}: ∀{es:List V} (i:Nat) (v:V),(∀e∈es,e.cells.length=k)->v.cells.length=k->i<es.length->flat (es.set i v)=jG (i*k) v.cells (flat es)
 | [],i,v,_,_,hi=>by simp at hi
 |e::es,0,v,hk,hv,_=>by
  rw[List.set_cons_zero,mF,mF,Nat.zero_mul];have he:=hk e (by simp);apply List.ext_getElem?;intro j;rw[nm _ _ _ _ (by rw[List.length_append];omega)];by_cases hj:j<k
  ·rw[if_pos (by omega),List.getElem?_append_left (by omega)];simp
  ·rw[if_neg (by omega),List.getElem?_append_right (by omega),List.getElem?_append_right (by omega),hv,he]
 |e::es,i+1,v,hk,hv,hi=>by
  rw[List.set_cons_succ,mF,mF,GZ i v (fun x hx=>hk x (by simp[hx])) hv (by simpa using hi)];have he:=hk e (by simp);have A4:=mo (fun x hx=>hk x (by simp[hx]): ∀x∈es,x.cells.length=k);have E6:(i+1)*k<=es.length*k:=Nat.mul_le_mul_right _ (by simp at hi;omega);rw[Nat.add_mul]at E6;apply List.ext_getElem?;intro j;rw[nm _ _ _ _ (by rw[List.length_append,Nat.add_mul];omega)];by_cases hj:j<k
  ·rw[List.getElem?_append_left (by omega),if_neg (by rw[Nat.add_mul];omega),List.getElem?_append_left (by omega)]
  ·rw[List.getElem?_append_right (by omega),nm _ _ _ _ (by omega),List.getElem?_append_right (by omega),he];by_cases h2:i*k<=j-k/\j-k<i*k+v.cells.length
   ·rw[if_pos h2,if_pos (by rw[Nat.add_mul];omega)];congr 1;rw[Nat.add_mul];omega
   ·rw[if_neg h2,if_neg (by rw[Nat.add_mul];omega)]
section
variable {w:World} {I:Nat->Prop} {σ:gH}
theorem D3{k:Nat}(hp:0<k): ∀{ps:List (Nat×V)} {es wM:List V} {us:Array Value} {AP:List (Nat×Value)},(∀e∈es,e.cells.length=k)->dn w I σ (flat es) us.toList->
  dU w I σ (ps.map (·.2)) (AP.map (·.2))->ps.map (·.1)=AP.map (·.1)->oU k es ps=some wM->
   ∃yR:Array Value,Instr.fill (fun i=>some (i*k,k)) us AP=some yR/\dn w I σ (flat wM) yR.toList/\(∀e∈wM,e.cells.length=k)/\wM.length=es.length
 | [],es,wM,us,AP,hk,hc,hr,hi,hf=>by
  simp only[oU,au]at hf;subst hf;cases AP with
  |nil=>exact⟨us,rfl,hc,hk,rfl⟩
  |cons _ _=>simp at hi
 |(i,v)::ps,es,wM,us,AP,hk,hc,hr,hi,hf=>by
  cases AP with
  |nil=>simp at hi
  |cons p AP=>
   obtain⟨i',u⟩:=p;simp only[List.map_cons,List.cons.injEq]at hi;obtain⟨rfl,hi⟩:=hi;simp only[List.map_cons,dU]at hr;obtain⟨u0,r,he,hv,hr⟩:=hr;simp only[List.cons.injEq]at he;obtain⟨rfl,rfl⟩:=he;simp only[oU]at hf;split at hf
   ·rename_i ku;simp only[Bool.and_eq_true,decide_eq_true_eq]at ku;have mM:=hv.cells ku.1;have hlen:=((dh _ _).1 hc).1;rw[mo hk]at hlen;have NH:=((dh _ _).1 mM.2).1;have adq:u.cells.size=k:=by rw[mM.1]at NH;simpa using NH.symm
    have qE:us.size=es.length*k:=by simpa using hlen.symm
    have E6:(i+1)*k<=es.length*k:=Nat.mul_le_mul_right _ ku.2;rw[Nat.add_mul]at E6;have AM:=BB (n:=i*k) hc mM.2 (by rw[mo hk,mM.1];omega);rw[show us.toList.take (i*k)++u.cells.toList++us.toList.drop (i*k+u.cells.toList.length)=(pZ us (i*k) u.cells.toList).toList from rfl]at AM;rw[<-GZ i v hk mM.1 ku.2]at AM;have tP: ∀e∈es.set i v,e.cells.length=k:=by
     intro e he;rcases List.mem_or_eq_of_mem_set he with h|h
     ·exact hk e h
     ·rw[h];exact mM.1
    obtain⟨yR,h1,h2,h3,h4⟩:=D3 hp tP AM hr hi hf;refine⟨yR,?_,h2,h3,by rw[h4];simp⟩;simp only[Instr.fill];rw[if_neg]
    ·rw[zT u (i*k) us (by omega)];exact h1
    ·simp only[Bool.or_eq_true,decide_eq_true_eq,not_or];exact⟨by simpa using adq,by omega⟩
   ·cases hf
theorem Fg{h:aY}(R:Rel w I σ h)(c:Array Value)(el:TypeId)(n:Nat):Step w I σ h n (w.alloc (.cells c el)) (fun b=>I b\/b=w.heap.size) σ h n:=by
 have E:Ext w I σ (w.alloc (.cells c el)) (fun b=>I b\/b=w.heap.size) σ:=
  (Ext.alloc R.dy _).trans ⟨fun _ _=>rfl,fun _ c _ fz hh=>⟨c,fz,hh,rfl⟩,fun b hb=> .inl hb,fun _ _ hh=>hh⟩
 have hOw: ∀b,gm σ h b->b<w.heap.size:=fun b hb=>by
  obtain⟨_,c,el,hh⟩:=R.owned hb;exact(Array.getElem?_eq_some_iff.1 hh).1
 refine⟨E,R.dG E (fun b hb=> ?_) (fun b hb=>⟨JP w _ b (hOw b hb),?_⟩) (fun _ _=>rfl),rfl,rfl,rfl,by rw[qJ];omega,fun b hb _=>JP w _ b hb,fun b hb=> .inr hb,fun b hb=> ?_,Nat.le_refl _,fun _ _=>rfl,fun _ _ hn=>hn⟩
 ·rw[qJ];rcases hb with hb|rfl
  ·have:=R.dy b hb;omega
  ·omega
 ·rintro(hi|rfl)
  ·exact(R.owned hb).1 hi
  ·have:=hOw _ hb;omega
 ·rcases hb with hb|rfl
  ·exact .inl hb
  ·exact .inr (.inl (Nat.le_refl _))
end
section
variable {X:Env} {o:Oper} {a:Act} {w:World} {I:Nat->Prop} {σ:gH} {S S1:St}
theorem qL {t:TypeId} {n:Nat} (hu:X.P.underlying t=some (.slice (X.ti t).elem)) (T:kP X.P (X.ti t).elem (X.ti (X.ti t).elem)) (AO:n*(X.ti (X.ti t).elem).size<=2^24)
  {ps:List (Nat×V)} {es:List V} {AP:Array (Nat×Value)} {w:World} {J:Nat->Prop} {τ:gH} (hr:dU w J τ (ps.map (·.2)) (AP.toList.map (·.2))) (hi:ps.map (·.1)=AP.toList.map (·.1))
  (hf:oU (X.ti (X.ti t).elem).size (List.replicate n (X.ti (X.ti t).elem).zero) ps=some es):
  ∃us:Array Value,(Instr.buildSlice t n AP).run X.P w= .ok (.slice (some ⟨w.heap.size,0,none⟩) n n) (w.alloc (.cells us (X.ti t).elem))/\dn w J τ (flat es) us.toList/\(∀e∈es,e.cells.length=(X.ti (X.ti t).elem).size)/\es.length=n:=by
 obtain⟨z,hz,hzb⟩:=Bv T w;have NT:=s9 (w:=w) (I:=J) (σ:=τ) T hzb;have GY:z.cells.size=(X.ti (X.ti t).elem).size:=by
  have:=((dh _ _).1 NT).1;rw[T.Rb]at this;simpa using this.symm
 have kn: ∀e∈List.replicate n (X.ti (X.ti t).elem).zero,e.cells.length=(X.ti (X.ti t).elem).size:=by
  intro e he;rw[List.eq_of_mem_replicate he];exact T.Rb
 have lX:dn w J τ (flat (List.replicate n (X.ti (X.ti t).elem).zero)) ((Array.range (n*(X.ti (X.ti t).elem).size)).map (z.cells[· % z.cells.size]!)).toList:=by
  rw[ux,<-GY,D1 z.cells _ _ rfl (by rw[GY];exact T.pos)];exact wo NT n
 obtain⟨us,h1,h2,h3,h4⟩:=D3 T.pos kn lX hr hi hf;refine⟨us,?_,h2,h3,by rw[h4];simp⟩;have yV: ¬(2^24<n*(X.ti (X.ti t).elem).size):=by omega
 have hp:=T.pos;by_cases h0:n=0
 ·subst h0;have sV:Instr.fill (fun i=>some (i*(X.ti (X.ti t).elem).size,(X.ti (X.ti t).elem).size)) #[] AP.toList=some us:=by
   simpa[Array.range_zero'] using h1
  simp[Instr.buildSlice,run_underlying hu,run_sizeOf T,newRow,sV,Array.range_zero']
 ·have iK:n*(X.ti (X.ti t).elem).size≠0:=by
   have:=Nat.mul_pos (Nat.pos_of_ne_zero h0) hp;omega
  have a1f: ¬(n=0\/(X.ti (X.ti t).elem).size=0):=by omega
  simp[Instr.buildSlice,run_underlying hu,run_sizeOf T,newRow,yV,hz,h1];intro h;exact absurd h iK
theorem v5 {t:TypeId} {n:Nat} {ps:Array (Nat×Operand)} {es:List V} (ho:o.op= .buildSlice t n ps) (hu:X.P.underlying t=some (.slice (X.ti t).elem)) (T:kP X.P (X.ti t).elem (X.ti (X.ti t).elem)) (AO:n*(X.ti (X.ti t).elem).size<=2^24)
  (R:Rel w I σ S.h) (F:ir w I σ S.f a) (hx:mn o) (hn:S.h S.n=none) (sZ:σ S.n=none)
  (hf:oU (X.ti (X.ti t).elem).size (List.replicate n (X.ti (X.ti t).elem).zero) (ps.toList.map fun p=>(p.1,S.ev p.2))=some es)
  (hs:S1=(S.new ⟨(X.ti (X.ti t).elem).size,es,true⟩).set o.dst (.bU S.n 0 n)):Out X o a w I σ S S1:=by
 subst hs;have Ff:=yU F hx ps.toList (by intro y hy;simp only[ho,Op.operands];exact List.mem_map_of_mem hy);obtain⟨us,jt,lX,hk,hlen⟩:=qL (AP:=ps.map fun p=>(p.1,a.eval p.2)) hu T AO (by simpa using Ff.1) (by simp) hf;have qE:us.size=n*(X.ti (X.ti t).elem).size:=by
  have:=((dh _ _).1 lX).1;rw[mo hk,hlen]at this;simpa using this.symm
 have hnm:n<=maxLen:=by
  have h1:n*1<=n*(X.ti (X.ti t).elem).size:=Nat.mul_le_mul_left _ T.pos;simp only[maxLen];omega
 refine⟨_,_,I,_,.slice (some ⟨w.heap.size,0,none⟩) n n,.bU S.n 0 n,?_,.inl rfl,?_,qo _ _ _ _ rfl,xS w I σ (k:=(X.ti (X.ti t).elem).size) (c:=us) (el:=(X.ti t).elem) (Nat.le_refl _) hnm (by omega)⟩
 ·simp[execOp,ho,jt]
 ·rw[dJ,fa];exact uy R us hn sZ hk (us:=us.toList) (by simpa[kH] using lX) (fun j u Gs=>by simpa using Gs)
theorem uz {t:TypeId} {n:Nat} {ps:Array (Nat×Operand)} {es:List V} {l:List (Nat×V)} {h:aY} {th:Bool} (ho:o.op= .buildSlice t n ps) (hu:X.P.underlying t=some (.slice (X.ti t).elem)) (T:kP X.P (X.ti t).elem (X.ti (X.ti t).elem)) (AO:n*(X.ti (X.ti t).elem).size<=2^24)
  (R:Rel w I σ S.h) (F:ir w I σ S.f a) (hx:mn o) (hn:S.h S.n=none) (sZ:σ S.n=none)
  (hg:lz S.h (ps.toList.map fun p=>(p.1,S.ev p.2))=some (l,h))
  (hf:oU (X.ti (X.ti t).elem).size (List.replicate n (X.ti (X.ti t).elem).zero) l=some es)
  (hs:S1=if th then(({S with h:=h}:St).new ⟨(X.ti (X.ti t).elem).size,es,false⟩).set o.dst (.bU S.n 0 n) else({S with h:=h}:St).set o.dst (.sl true es)):Out X o a w I σ S S1:=by
 subst hs;have Ff:=yU F hx ps.toList (by intro y hy;simp only[ho,Op.operands];exact List.mem_map_of_mem hy);obtain⟨I1,s1,r1,hi1,s7⟩:=D0 R Ff.1 hg S.n;obtain⟨us,jt,lX,hk,hlen⟩:=qL (AP:=ps.map fun p=>(p.1,a.eval p.2)) hu T AO (by simpa using r1) (by rw[hi1];simp) hf;have qE:us.size=n*(X.ti (X.ti t).elem).size:=by
  have:=((dh _ _).1 lX).1;rw[mo hk,hlen]at this;simpa using this.symm
 have hnm:n<=maxLen:=by
  have h1:n*1<=n*(X.ti (X.ti t).elem).size:=Nat.mul_le_mul_left _ T.pos;simp only[maxLen];omega
 have hnh:h S.n=none:=by
  cases hc:h S.n with
  |none=>rfl
  |some ob=>rw[s7 _ _ hc]at hn;cases hn
 cases th with
 |true=>
  refine⟨_,_,I1,_,.slice (some ⟨w.heap.size,0,none⟩) n n,.bU S.n 0 n,?_,.inl rfl,?_,?_,xS w I1 σ (k:=(X.ti (X.ti t).elem).size) (c:=us) (el:=(X.ti t).elem) (Nat.le_refl _) hnm (by omega)⟩
  ·simp[execOp,ho,jt]
  ·simp only[if_true];rw[dJ,fa];exact s1.trans (uy s1.rel us hnh sZ hk (us:=us.toList) (by simpa[kH] using lX) (fun j u Gs=>by simpa using Gs))
  ·simp only[if_true];exact qo _ _ _ _ rfl
 |false=>
  refine⟨_,w.alloc (.cells us (X.ti t).elem),(fun b=>I1 b\/b=w.heap.size),σ,.slice (some ⟨w.heap.size,0,none⟩) n n,.sl true es,?_,.inl rfl,?_,?_,?_⟩
  ·simp[execOp,ho,jt]
  ·simp only[Bool.false_eq_true,if_false];rw[dJ,fa];exact s1.trans (Fg s1.rel us (X.ti t).elem S.n)
  ·simp only[Bool.false_eq_true,if_false];exact qo _ _ _ _ rfl
  ·simp only[cC];refine⟨_,n,by rw[hlen],by omega,hnm,fun _=>hlen.symm,.inr ⟨w.heap.size,0,(X.ti (X.ti t).elem).size,rfl,.inr rfl,?_⟩⟩;refine sw (Fg s1.rel us (X.ti t).elem S.n).ext.GM hk (us:=us.toList) lX (fun j u Gs=> ?_);rw[cell_of_row _ _ _ _ _ _ (NI w (.cells us (X.ti t).elem))];simpa using Gs
end
section
variable {w w':World} {I I':Nat->Prop} {σ σ':gH} {h:aY}
theorem vt{k1 k2:Bool}(hk:k1=true->k2=true):Ext w I (kH k1 σ) w I (kH k2 σ):=by
 cases k1
 ·cases k2
  ·exact .refl _ _ _
  ·exact Ext.free
 ·rw[hk rfl];exact .refl _ _ _
theorem Ext.heap(hh:w'.heap=w.heap):Ext w I σ w' I σ:=
 ⟨fun b _=>by rw[hh],fun b c el fz h=>⟨c,fz,by rw[hh];exact h,rfl⟩,fun _ h=>h,fun _ _ h=>h⟩
theorem Step.drew(R:Rel w I σ h)(n:Nat):Step w I σ h n w.drew I σ h n:=
 ⟨Ext.heap rfl,R.dG (Ext.heap rfl) (fun b hb=>R.dy b hb) (fun b hb=>⟨rfl,(R.owned hb).1⟩) (fun _ _=>rfl),rfl,rfl,rfl,Nat.le_refl _,fun _ _ _=>rfl,fun _ hb=> .inr hb,fun _ hb=> .inl hb,Nat.le_refl _,fun _ _=>rfl,fun _ _ hn=>hn⟩
theorem Step.kill(R:Rel w I σ h)(id n:Nat):Step w I σ h n w I σ (aO h id none) n:=
 ⟨.refl _ _ _,R.kill id,rfl,rfl,rfl,Nat.le_refl _,fun _ _ _=>rfl,fun _ hb=> .inr hb.JQ,fun _ hb=> .inl hb,Nat.le_refl _,fun _ _=>rfl,fun i _ hn=>by unfold aO;split<;>simp_all⟩
theorem Step.nil(R:Rel w I σ h){n k:Nat}{dG:Bool}(hn:h n=none)(hs:σ n=none):Step w I σ h n w I σ (aO h n (some ⟨k,[],dG⟩)) (n+1):=
 ⟨.refl _ _ _,R.Ra hn hs,rfl,rfl,rfl,Nat.le_refl _,fun _ _ _=>rfl,fun b hb=>by
  obtain⟨id,ob,o,k',h1,h2⟩:=hb;by_cases e:id=n
  ·subst e;rw[hs]at h2;cases h2
  ·exact .inr ⟨id,ob,o,k',by simpa[aO,e] using h1,h2⟩,fun _ hb=> .inl hb,by omega,fun _ _=>rfl,fun id dg A2=>by simp[aO,A2];omega⟩
theorem Step.adt (R:Rel w I σ h) {id n b o s:Nat} {ob:Ob} {kp:Bool} (ea:h id=some ob) (iT:σ id=some (b,o,ob.k)) (hn:h n=none) (hs:σ n=none) (hk:ob.dG=true->kp=true) {c:Array Value} {el:TypeId}
  (hb:w.heap[b]?=some (Obj.cells c el (0,0))) (hle:o+ob.es.length*ob.k<=c.size) (dV:cQ w I (kH ob.dG σ) ob.es ob.k b o) (pW:s<=ob.es.length):
  Step w I σ h n w I (aO σ n (some (b,o+s*ob.k,ob.k))) (aO (aO h id none) n (some ⟨ob.k,ob.es.drop s,kp⟩)) (n+1):=by
 have lW:gm σ h b:=⟨id,ob,o,ob.k,ea,iT⟩;have iK:n≠id:=fun e=>by rw[e,ea]at hn;cases hn
 have JW:aO h id none n=none:=by simp[aO,iK,hn]
 have yX:=dV.Mr s (ob.es.length-s);rw[bn (by simp)]at yX;have E:Ext w I σ w I (aO σ n (some (b,o+s*ob.k,ob.k))):=Ext.Q9 hs;have qE:o+s*ob.k+(ob.es.drop s).length*ob.k<=c.size:=by
  have:s*ob.k+(ob.es.length-s)*ob.k=ob.es.length*ob.k:=by rw[<-Nat.add_mul];congr 1;omega
  simp;omega
 have R1:=(R.kill id).Z7 (n:=n) (b:=b) (o:=o+s*ob.k) (k:=ob.k) (es:=ob.es.drop s) (dG:=kp) JW hs hb (R.owned lW).1 (R.JS ea iT) qE
  ((yX.lJ (E.o9 ob.dG) rfl).lJ (vt hk) rfl)
 refine⟨E,R1,rfl,rfl,rfl,Nat.le_refl _,fun _ _ _=>rfl,fun b' vp=> ?_,fun _ hb=> .inl hb,by omega,fun i hi=>by simp[aO];omega,fun i hi uv=>by
  have:i≠n:=by omega
  simp only[aO,this,if_false];split
  ·rfl
  ·exact uv⟩
 obtain⟨i,lU,o',k',h1,h2⟩:=vp;by_cases e:i=n
 ·subst e;simp[aO]at h2;obtain⟨rfl,_⟩:=h2;exact .inr lW
 ·have sV:aO h id none i=some lU:=by simpa[aO,e] using h1
  have E4:σ i=some (b',o',k'):=by simpa[aO,e] using h2
  exact .inr (gm.JQ ⟨i,lU,o',k',sV,E4⟩)
theorem My {P:Program} {tx:TypeId} (hk:(∃e',P.underlying tx=some (.slice e'))\/P.underlying tx=some .string) (R:Rel w I σ h) {x:V} {u:Value} {xs:List V} {kx:Bool} (hr:cC w I σ x u) (he:elems h x=some (xs,kx))
  {k:Nat} (hl: ∀e∈xs,e.cells.length=k) (iT: ∀id s l,x= .bU id s l-> ∃ob,h id=some ob/\(xs≠ []->ob.k=k)):
  ∃news,Src P k tx u xs.length news w/\dn w I (kH kx σ) (flat xs) news:=by
 have a1h:=mo hl;have mk: ∀{ad:Addr} {cap:Nat} {b o:Nat} {τ:gH},ad=⟨b,o,none⟩->cQ w I τ xs k b o-> ∃news,Src P k tx (.slice (some ad) xs.length cap) xs.length news w/\dn w I τ (flat xs) news:=by
  intro ad cap b o τ had dV;subst had;obtain⟨us,h1,h2,h3⟩:=oq dV;refine⟨us,⟨hk,fun _=>rfl,run_firstCells_some w k xs.length _ _ cap us h1 (fun j v hv=>by rw[n9];exact h2 j v hv),run_firstCells_some w.drew k xs.length _ _ cap us h1 (fun j v hv=>by rw[n9];simpa using h2 j v hv),h1,h3.adj⟩,h3⟩
 have mk0: ∀{ad:Option Addr} {cap:Nat},xs=[]-> ∃news,Src P k tx (.slice ad 0 cap) xs.length news w/\dn w I (kH kx σ) (flat xs) news:=by
  intro ad cap h0;subst h0;refine⟨[],⟨hk,fun _=>rfl,?_,?_,by simp,by simp⟩,by simp[flat,dn]⟩
  ·cases ad<;>simp[Builtin.firstCells,loadCells,loadCellsFrom]
  ·cases ad<;>simp[Builtin.firstCells,loadCells,loadCellsFrom]
 cases x with
 |sl c es=>
  simp only[elems,au,aF]at he;obtain⟨rfl,rfl⟩:=he;simp only[cC]at hr;obtain⟨ad,cap,rfl,_,_,_,h4⟩:=hr;rcases h4 with h4|⟨b,o,k',rfl,hI,dV⟩
  ·subst h4;exact mk0 rfl
  ·by_cases h0:es=[]
   ·subst h0;exact mk0 rfl
   ·have vr:k'=k:=by
     obtain⟨e,he⟩:=List.exists_mem_of_ne_nil es h0;rw[<-dV.lens e he];exact hl e he
    subst vr;exact mk rfl dV
 |bU id s l=>
  obtain⟨ob,ea,vr⟩:=iT id s l rfl;simp only[elems,ea]at he;split at he
  ·rename_i hle;simp only[au,aF]at he;obtain⟨rfl,rfl⟩:=he;have zV:((ob.es.drop s).take l).length=l:=by simp;omega
   simp only[cC]at hr;obtain⟨ad,cap,rfl,h1,_,h3⟩:=hr;by_cases h0:l=0
   ·subst h0;exact mk0 (by simp)
   ·rcases h3 with h3|⟨b,o,k',c,el,fz,hs,rfl,_⟩
    ·omega
    ·have hi:ob.es[s]?=some (ob.es[s]'(by omega)):=by simp
     obtain⟨b',o',c',Mp,ln,_,_,_,dV⟩:=R.at ea hi;rw[hs]at ln;simp only[au,aF]at ln;obtain⟨rfl,rfl,rfl⟩:=ln;have iK:(ob.es.drop s).take l≠ []:=by intro hh;rw[hh]at zV;simp at zV;omega
     have hko:=vr iK;have yX:=dV.Mr s l;rw[hko]at yX;have:=mk (ad:=⟨b,o+s*ob.k,none⟩) (cap:=cap) (by rw[hko]) yX;rwa[zV]at this⊢
  ·cases he
 |str s=>
  simp only[elems,au,aF]at he;obtain⟨rfl,rfl⟩:=he;obtain⟨bs,rfl,rfl⟩:=pC hr;have qE:bs.data.toList.length=bs.size:=Array.length_toList;by_cases h0:bs.data.toList=[]
  ·rw[h0];have hz:bs.size=0:=by rw[<-qE,h0];rfl
   have hex:bs.extract 0 0=ByteArray.empty:=by
    apply ByteArray.ext;simp
   refine⟨[],⟨hk,fun _=>by simp[Builtin.lenOf,hz],?_,?_,by simp,by simp⟩,by simp[flat,dn]⟩
   ·simp[Builtin.firstCells]
   ·simp[Builtin.firstCells]
  ·have A5:k=1:=by
    obtain⟨e,he⟩:=List.exists_mem_of_ne_nil _ h0;have:=hl (.int .u8 e.toNat) (List.mem_map.2 ⟨e,he,rfl⟩);simpa[V.cells] using this.symm
   subst A5;refine⟨byteCells bs,⟨hk,fun _=>by simp[Builtin.lenOf,qE],?_,?_,?_,?_⟩,?_⟩
   ·rw[List.length_map,qE];exact firstCells_string bs w
   ·rw[List.length_map,qE];exact firstCells_string bs w.drew
   ·rw[byteCells_length,List.length_map,qE,Nat.mul_one]
   ·intro u hu;obtain⟨_,_,rfl⟩:=List.mem_map.1 hu;rfl
   ·rw[dh];have A4:flat (bs.data.toList.map fun b=>V.int .u8 b.toNat)=bs.data.toList.map fun b=>V.int .u8 b.toNat:=by
     generalize bs.data.toList=l;induction l with
     |nil=>rfl
     |cons b l ih=>rw[List.map_cons,mF,ih];rfl
    rw[A4];refine⟨by rw[byteCells_length,List.length_map,qE],fun j c u hc hu=> ?_⟩;unfold byteCells at hu;rw[List.getElem?_map]at hc hu;cases hb:bs.data.toList[j]? with
    |none=>simp[hb]at hc
    |some b=>
     simp only[hb,Option.map_some,au]at hc hu;subst hc;subst hu;exact⟨rfl,by simp[cC]⟩
 |_=>simp[elems]at he
theorem qi{P:Program}(t tx ty e:TypeId)(i:TypeInfo)(ht:P.underlying t=some (.slice e))(hi:P.info? e=some i)(base:Option Addr)(BD G0:Nat)(hle:BD<=G0)(x:Value)(hs:Src P i.size tx x 0 [] w):
  (Builtin.append_ #[t,tx] ty #[.slice base BD G0,x]).run P w= .ok (.slice base BD G0) w:=by
 have hc:=hs.cells;cases base<;>rcases hs.kind with⟨e',hk⟩|hk<;>simp[Builtin.append_,run_underlying ht,run_underlying hk,sizeOf,typeInfo,hi,hs.len,hle,hc,storeCells]
theorem Dp {P:Program} (t tx ty e:TypeId) (i:TypeInfo) (ht:P.underlying t=some (.slice e)) (hi:P.info? e=some i) {b p BD G0:Nat} {x:Value} {n:Nat} {news:List Value} (hs:Src P i.size tx x n news w)
  (G1:BD+n<=G0) {c:Array Value} {el:TypeId} (hb:w.heap[b]?=some (Obj.cells c el (0,0))) (qv:p+BD*i.size+news.length<=c.size):
  (Builtin.append_ #[t,tx] ty #[.slice (some ⟨b,p,none⟩) BD G0,x]).run P w= .ok (.slice (some ⟨b,p,none⟩) (BD+n) G0) (w.setRow b (pZ c (p+BD*i.size) news)):=by
 have iZ:=run_storeCells_at P b (p+BD*i.size) el news 0 c w hb (by simpa using qv) hs.one;simp only[Nat.add_zero]at iZ;rcases hs.kind with⟨e',hk⟩|hk<;>simp[Builtin.append_,run_underlying ht,run_underlying hk,sizeOf,typeInfo,hi,hs.len,G1,hs.cells,Addr.add_lit,iZ,pZ]
end
section
variable {w:World} {I:Nat->Prop} {σ:gH} {h:aY}
structure Rl (w:World) (I:Nat->Prop) (σ:gH) (id s l:Nat) (ob:Ob) (ad:Option Addr) (cap:Nat):Prop where
 le:l<=cap
 max:cap<=maxLen
 place:cap=0\/ ∃b o c el,σ id=some (b,o,ob.k)/\ad=some ⟨b,o+s*ob.k,none⟩/\w.heap[b]?=some (Obj.cells c el (0,0))/\o+ob.es.length*ob.k<=c.size/\o+(s+cap)*ob.k<=c.size/\cQ w I (kH ob.dG σ) ob.es ob.k b o
theorem G2(R:Rel w I σ h){id s l:Nat}{ob:Ob}{u:Value}(hr:cC w I σ (.bU id s l) u)(ea:h id=some ob): ∃ad cap,u= .slice ad l cap/\Rl w I σ id s l ob ad cap:=by
 simp only[cC]at hr;obtain⟨ad,cap,rfl,h1,h2,h3⟩:=hr;refine⟨ad,cap,rfl,h1,h2,?_⟩;rcases h3 with h3|⟨b,o,k,c,el,fz,hs,ha,hb,hle⟩
 ·exact .inl h3
 ·rcases R.obj id ob ea with⟨_,hn⟩|⟨b',o',c',Mp,ln,hi,vp,AJ,dV⟩
  ·rw[hs]at hn;cases hn
  ·rw[hs]at ln;simp only[au,aF]at ln;obtain⟨rfl,rfl,rfl⟩:=ln;rw[hb]at vp;simp only[au,Obj.cells.injEq]at vp;obtain⟨rfl,rfl,rfl⟩:=vp;exact .inr ⟨b,o,c,el,hs,ha,hb,AJ,hle,dV⟩
theorem Rl.qw{P:Program}{id s l cap:Nat}{ob:Ob}{ad:Option Addr}(B:Rl w I σ id s l ob ad cap)(pW:s+l<=ob.es.length):
  ∃qw:List Value,qw.length=l*ob.k/\dn w I (kH ob.dG σ) (flat ((ob.es.drop s).take l)) qw/\(Builtin.firstCells ob.k l (.slice ad l cap)).run P w.drew= .ok qw.toArray w.drew:=by
 have hl:=B.le;by_cases h0:l=0
 ·subst h0;refine⟨[],by simp,by simp[flat,dn],?_⟩;cases ad<;>simp[Builtin.firstCells,loadCells,loadCellsFrom]
 ·rcases B.place with hp|⟨b,o,c,el,hs,rfl,hb,hle,adw,dV⟩
  ·omega
  ·obtain⟨us,h1,h2,h3⟩:=oq (dV.Mr s l);have QH:((ob.es.drop s).take l).length=l:=by simp;omega
   rw[QH]at h1;exact⟨us,h1,h3,run_firstCells_some w.drew ob.k l _ _ cap us h1 (fun j v hv=>by rw[n9];simpa using h2 j v hv)⟩
theorem BE{z:Array Value}(n:Nat):(Builtin.zeroCells z n).size=n*z.size:=by
 have:=size_madeCells z (n*z.size);unfold madeCells at this;simp[Builtin.zeroCells]
theorem JX(qw news:List Value)(z:Array Value)(g n k:Nat)(hz:z.size=k)(ho:(qw++news).length=n*k)(hg:n<=g):
  ((qw++news).toArray++Builtin.zeroCells z (g-n)).size=g*k:=by
 rw[Array.size_append,BE,hz];have:n*k+(g-n)*k=g*k:=by rw[<-Nat.add_mul];congr 1;omega
 simp only[List.size_toArray];omega
theorem BF {P:Program} {t tx ty e:TypeId} {x:TI} (ht:P.underlying t=some (.slice e)) (T:kP P e x) {ad:Option Addr} {l cap:Nat} {qw news:List Value} {u:Value} {n:Nat}
  (hold:(Builtin.firstCells x.size l (.slice ad l cap)).run P w.drew= .ok qw.toArray w.drew) (hol:qw.length=l*x.size) (hs:Src P x.size tx u n news w) (hg:cap<l+n) (qv:(l+n)*x.bytes<=2^47) (NU:l+n<=2^62):
  ∃(c:Array Value) (g:Nat),(Builtin.append_ #[t,tx] ty #[.slice ad l cap,u]).run P w= .ok (.slice (some ⟨w.heap.size,0,none⟩) (l+n) g) (w.drew.alloc (.cells c e))/\l+n<=g/\g<=maxLen/\g*x.size<=c.size/\
   (∀(j:Nat) v,(qw++news)[j]?=some v->c[j]?=some v):=by
 obtain⟨i,z,hi,yW,Wj,hz,hzb⟩:=T.info;have NT:=s9 (w:=w) (I:=fun _=>False) (σ:=eA) T hzb;have GY:z.cells.size=x.size:=by
  have:=((dh _ _).1 NT).1;rw[T.Rb]at this;simpa using this.symm
 have jt:=run_append_grow_src (w:=w) t tx ty e i z ht hi hz ad l cap qw (by rw[yW];exact hold) u n news (by rw[yW];exact hs) hg (by omega)
  (by have:=growslice_fits (bytes:=i.bytes) hg (by rw[Wj];omega);omega)
 have Wh:=grownCap_ge w (l+n) cap e;have hle:=grownCap_le_maxLen w (l+n) cap e (by simp only[maxLen];omega);have hlen:(qw++news).length=(l+n)*x.size:=by rw[List.length_append,hol,hs.newsLen,Nat.add_mul]
 refine⟨_,_,jt,Wh,hle,?_,?_⟩
 ·rw[JX qw news z.cells _ _ _ GY hlen Wh];exact Nat.le_refl _
 ·intro j v hv;have hj:=(List.getElem?_eq_some_iff.1 hv).1;rw[Array.getElem?_append_left (by simpa using hj)];simpa using hv
variable {P:Program} {t tx ty e:TypeId} {x:TI} {n:Nat} {xs:List V} {news:List Value} {y:Value}
theorem uA (R:Rel w I σ h) (ht:P.underlying t=some (.slice e)) (T:kP P e x) {u:Value} (hb:cC w I σ (.sl true []) u) {kp kx:Bool} (Rm:kx=true->kp=true) (hk: ∀v∈xs,v.cells.length=x.size)
  (hs:Src P x.size tx y xs.length news w) (hr:dn w I (kH kx σ) (flat xs) news) (hn:h n=none) (sZ:σ n=none) (qv:xs.length*x.bytes<=2^47) (NU:xs.length<=2^62):
  ∃v w' σ',(Builtin.append_ #[t,tx] ty #[u,y]).run P w= .ok v w'/\Step w I σ h n w' I σ' (aO h n (some ⟨x.size,xs,kp⟩)) (n+1)/\cC w' I σ' (.bU n 0 xs.length) v:=by
 simp only[cC]at hb;obtain⟨ad,cap,rfl,_,_,hc,_⟩:=hb;have Fh:cap=0:=by simpa using hc
 subst Fh;obtain⟨i,z,hi,yW,Wj,hz,hzb⟩:=T.info;by_cases h0:xs=[]
 ·subst h0;have wu:news=[]:=by
   have:=hs.newsLen;simp at this;exact this
  subst wu;refine⟨_,w,σ,qi t tx ty e i ht hi ad 0 0 (Nat.le_refl _) y (by rw[yW];exact hs),Step.nil R hn sZ,?_⟩;simp only[cC];exact⟨ad,0,rfl,by simp,by simp[maxLen],.inl rfl⟩
 ·have De:0<xs.length:=List.length_pos_iff.2 h0;obtain⟨c,g,jt,Wh,hle,qE,v7⟩:=BF ht T (ad:=ad) (l:=0) (cap:=0) (qw:=[]) (ty:=ty) (by cases ad<;>simp[Builtin.firstCells,loadCells,loadCellsFrom]) (by simp) hs (by omega) (by simpa using qv) (by simpa using NU);simp only[Nat.zero_add,List.nil_append]at jt Wh v7;refine⟨_,_,_,jt,(Step.drew R n).trans (uy (Step.drew R n).rel c hn sZ hk (us:=news) ?_ v7),?_⟩
  ·exact(dn.ext' _ _ ((Ext.heap rfl:Ext w I (kH kx σ) w.drew I (kH kx σ)).trans (vt Rm)) hr)
  ·have:=xS w.drew I σ (n:=n) (k:=x.size) (l:=xs.length) (cap:=g) (c:=c) (el:=e) Wh hle qE;simpa using this
theorem JY (R:Rel w I σ h) (ht:P.underlying t=some (.slice e)) (T:kP P e x) {u:Value} {es:List V} (hb:cC w I σ (.sl true es) u) (hke: ∀v∈es,v.cells.length=x.size) (hk: ∀v∈xs,v.cells.length=x.size)
  (hs:Src P x.size tx y xs.length news w) (hr:dn w I (kH false σ) (flat xs) news) (n:Nat) (qv:(es.length+xs.length)*x.bytes<=2^47) (NU:es.length+xs.length<=2^62):
  ∃v w' I',(Builtin.append_ #[t,tx] ty #[u,y]).run P w= .ok v w'/\Step w I σ h n w' I' σ h n/\cC w' I' σ (.sl false (es++xs)) v:=by
 have vp:=hb;simp only[cC]at hb;obtain⟨ad,cap,rfl,h1,h2,hc,h4⟩:=hb;have Fh:cap=es.length:=by simpa using hc
 subst Fh;obtain⟨i,z,hi,yW,Wj,hz,hzb⟩:=T.info;by_cases h0:xs=[]
 ·subst h0;have wu:news=[]:=by
   have:=hs.newsLen;simp at this;exact this
  subst wu;refine⟨_,w,I,qi t tx ty e i ht hi ad es.length es.length (Nat.le_refl _) y (by rw[yW];exact hs),Step.refl R n,?_⟩;rw[List.append_nil];simp only[cC];exact⟨ad,es.length,rfl,h1,h2,fun hh=>(by cases hh),h4⟩
 ·have De:0<xs.length:=List.length_pos_iff.2 h0;have hold: ∃qw:List Value,qw.length=es.length*x.size/\dn w I eA (flat es) qw/\(Builtin.firstCells x.size es.length (.slice ad es.length es.length)).run P w.drew= .ok qw.toArray w.drew:=by
   by_cases he:es=[]
   ·subst he;refine⟨[],by simp,by simp[flat,dn],?_⟩;cases ad<;>simp[Builtin.firstCells,loadCells,loadCellsFrom]
   ·rcases h4 with h4|⟨b,o,k',rfl,hI,dV⟩
    ·exact absurd h4 he
    ·have vr:k'=x.size:=by
      obtain⟨v,hv⟩:=List.exists_mem_of_ne_nil es he;rw[<-dV.lens v hv];exact hke v hv
     subst vr;obtain⟨us,h1,h2,h3⟩:=oq dV;exact⟨us,h1,h3,run_firstCells_some w.drew _ _ _ _ _ us h1 (fun j v hv=>by rw[n9];simpa using h2 j v hv)⟩
  obtain⟨qw,hol,Rn,hof⟩:=hold;obtain⟨c,g,jt,Wh,hle,qE,v7⟩:=BF ht T (ty:=ty) hof hol hs (by omega) qv NU;have st:=(Step.drew R n).trans (Fg (Step.drew R n).rel c e n);refine⟨_,_,_,jt,st,?_⟩;simp only[cC];refine⟨_,g,by rw[List.length_append],by rw[List.length_append];exact Wh,hle,fun hh=>(by cases hh),.inr ⟨w.heap.size,0,x.size,rfl,.inr rfl,?_⟩⟩;refine sw st.ext.GM (us:=qw++news) (fun v hv=> ?_) (by rw[pJ];exact Rn.append hr) (fun j v hv=> ?_)
  ·rcases List.mem_append.1 hv with hv|hv
   ·exact hke v hv
   ·exact hk v hv
  ·have:(w.drew.alloc (.cells c e)).heap[w.heap.size]?=some (.cells c e):=NI w.drew (.cells c e);rw[cell_of_row _ _ _ _ _ _ this];simpa using v7 j v hv
theorem JZ (R:Rel w I σ h) (ht:P.underlying t=some (.slice e)) (T:kP P e x) {id s l:Nat} {ob:Ob} {u:Value} (hb:cC w I σ (.bU id s l) u) (ea:h id=some ob) (ju:ob.k=x.size) (pW:s+l<=ob.es.length)
  {kp kx:Bool} (Rm:kx=true->kp=true) (hkb:ob.dG=true->kp=true) (hk: ∀v∈xs,v.cells.length=x.size)
  (hs:Src P x.size tx y xs.length news w) (hr:dn w I (kH kx σ) (flat xs) news) (hn:h n=none) (sZ:σ n=none) (qv:(l+xs.length)*x.bytes<=2^47) (NU:l+xs.length<=2^62):
  ∃v w' σ',(Builtin.append_ #[t,tx] ty #[u,y]).run P w= .ok v w'/\Step w I σ h n w' I σ' (aO (aO h id none) n (some ⟨x.size,(ob.es.drop s).take l++xs,kp⟩)) (n+1)/\cC w' I σ' (.bU n 0 (l+xs.length)) v:=by
 obtain⟨ad,cap,rfl,B⟩:=G2 R hb ea;obtain⟨i,z,hi,yW,Wj,hz,hzb⟩:=T.info;have hle:=B.le;have iK:n≠id:=fun e=>by rw[e,ea]at hn;cases hn
 have JW:aO h id none n=none:=by simp[aO,iK,hn]
 have Mz:((ob.es.drop s).take l).length=l:=by simp;omega
 have hkh:n≠id/\True:=⟨iK,trivial⟩;by_cases hg:cap<l+xs.length
 ·obtain⟨qw,hol,Rn,hof⟩:=B.qw (P:=P) pW;rw[ju]at hol hof;obtain⟨c,g,jt,Wh,art,qE,v7⟩:=BF ht T (ty:=ty) hof hol hs hg qv NU;have s1:=(Step.kill R id n).trans (Step.drew (R.kill id) n);have D4: ∀v∈ (ob.es.drop s).take l++xs,v.cells.length=x.size:=by
   intro v hv;rcases List.mem_append.1 hv with hv|hv
   ·rcases B.place with hp|⟨b,o,c,el,_,_,_,_,_,dV⟩
    ·have:l=0:=by omega
     subst this;simp at hv
    ·rw[<-ju];exact dV.lens v (List.mem_of_mem_drop (List.mem_of_mem_take hv))
   ·exact hk v hv
  have hE: ∀{kk:Bool},(kk=true->kp=true)->Ext w I (kH kk σ) w.drew I (kH kp σ):=fun hh=>(Ext.heap rfl:Ext w I (kH _ σ) w.drew I (kH _ σ)).trans (vt hh);refine⟨_,_,_,jt,s1.trans (uy s1.rel c JW sZ D4 (us:=qw++news) ?_ v7),?_⟩
  ·rw[pJ];exact(dn.ext' _ _ (hE hkb) Rn).append (dn.ext' _ _ (hE Rm) hr)
  ·have:=xS w.drew I σ (n:=n) (k:=x.size) (l:=l+xs.length) (cap:=g) (c:=c) (el:=e) Wh art qE;simpa using this
 ·have G1:l+xs.length<=cap:=by omega
  rcases B.place with hp|⟨b,o,c,el,iT,rfl,sW,Xi,adw,dV⟩
  ·subst hp;have h0:xs=[]:=List.eq_nil_of_length_eq_zero (by omega);have C6:l=0:=by omega
   subst h0;subst C6;have wu:news=[]:=by
    have:=hs.newsLen;simp at this;exact this
   subst wu;refine⟨_,w,σ,qi t tx ty e i ht hi ad 0 0 (Nat.le_refl _) y (by rw[yW];exact hs),?_,?_⟩
   ·have:=(Step.kill R id n).trans (Step.nil (R.kill id) (k:=x.size) (dG:=kp) JW sZ);simpa using this
   ·simp only[cC];exact⟨ad,0,rfl,by simp,by simp[maxLen],.inl rfl⟩
  ·
   have v7:news.length=xs.length*x.size:=hs.newsLen;have hmul:(s+cap)*ob.k=s*ob.k+cap*ob.k:=Nat.add_mul ..;have aaf:(l+xs.length)*ob.k<=cap*ob.k:=Nat.mul_le_mul_right _ G1;rw[Nat.add_mul]at aaf;have axl:(s+l)*ob.k=s*ob.k+l*ob.k:=Nat.add_mul ..;have uB:o+(s+l)*ob.k+news.length<=c.size:=by rw[v7,<-ju];omega
   have jt:=Dp (w:=w) (P:=P) t tx ty e i ht hi (b:=b) (p:=o+s*ob.k) (BD:=l) (G0:=cap) (x:=y) (n:=xs.length) (news:=news) (by rw[yW];exact hs) G1 sW
    (by rw[yW,<-ju];omega)
   rw[yW,<-ju,show o+s*ob.k+l*ob.k=o+(s+l)*ob.k by omega]at jt;have hI: ¬I b:=(R.owned ⟨id,ob,o,ob.k,ea,iT⟩).1;have E:Ext w I σ (w.setRow b (pZ c (o+(s+l)*ob.k) news)) I σ:=Ext.setRow hI sW (nG uB);have jI:=setRow_heap w b c (pZ c (o+(s+l)*ob.k) news) el (0,0) sW;have yX:=dV.Mr 0 (s+l);simp only[List.drop_zero,Nat.zero_mul,Nat.add_zero]at yX;obtain⟨us,NH,huc,hur⟩:=oq yX;have lp:(ob.es.take (s+l)).length=s+l:=by simp;omega
   rw[lp]at NH;have tM:cQ (w.setRow b (pZ c (o+(s+l)*ob.k) news)) I (kH kp σ) (ob.es.take (s+l)++xs) ob.k b o:=by
    refine sw (E.o9 kp) (us:=us++news) (fun v hv=> ?_) ?_ (fun j v hv=> ?_)
    ·rcases List.mem_append.1 hv with hv|hv
     ·exact dV.lens v (List.mem_of_mem_take hv)
     ·rw[ju];exact hk v hv
    ·rw[pJ];exact(dn.ext' _ _ (vt hkb) hur).append (dn.ext' _ _ (vt Rm) hr)
    ·rw[cell_of_row _ _ _ _ _ _ jI,xN uB];by_cases hj:j<us.length
     ·rw[List.getElem?_append_left hj]at hv;rw[if_neg (by omega)];have:=huc j v hv;rwa[cell_of_row _ _ _ _ _ _ sW]at this
     ·have sx:=(List.getElem?_eq_some_iff.1 hv).1;rw[List.length_append]at sx;rw[List.getElem?_append_right (by omega)]at hv;rw[if_pos (by omega),show o+j-(o+(s+l)*ob.k)=j-us.length by omega];exact hv
   have ajs:o+(ob.es.take (s+l)++xs).length*ob.k<=c.size:=by
    rw[List.length_append,lp,Nat.add_mul];rw[v7,<-ju]at uB;omega
   have s1:=R.write (dG:=kp) ea iT sW (nG uB) ajs tM n;have aru:aO h id (some (⟨ob.k,ob.es.take (s+l)++xs,kp⟩:Ob)) id=some ⟨ob.k,ob.es.take (s+l)++xs,kp⟩:=by simp[aO]
   have A6:aO h id (some (⟨ob.k,ob.es.take (s+l)++xs,kp⟩:Ob)) n=none:=by simp[aO,iK,hn]
   have s2:=Step.adt s1.rel (n:=n) (s:=s) (kp:=kp) aru iT A6 sZ (fun hh=>hh) jI (by rw[nG uB];exact ajs) tM (by rw[List.length_append,lp];omega);have s3:=s1.trans s2;have ajt:(ob.es.take (s+l)++xs).drop s=(ob.es.drop s).take l++xs:=by
    rw[List.drop_append_of_le_length (by rw[lp];omega),List.drop_take];congr 2;omega
   refine⟨_,_,aO σ n (some (b,o+s*ob.k,ob.k)),jt,?_,?_⟩
   ·have NV:aO (aO h id (some (⟨ob.k,ob.es.take (s+l)++xs,kp⟩:Ob))) id none=aO h id none:=by
     funext q;simp only[aO];split<;>rfl
    rw[NV,ajt]at s3;rw[<-ju];exact s3
   ·simp only[cC];exact⟨_,cap,rfl,G1,B.max,.inr ⟨b,o+s*ob.k,ob.k,_,el,(0,0),by simp[aO],by simp,jI,by rw[nG uB,Nat.zero_add];omega⟩⟩
theorem Fi{v:V}{xs:List V}{kx:Bool}(he:elems h v=some (xs,kx))(R:Rel w I σ h){k:Nat}(hl: ∀e∈xs,e.cells.length=k): ∀id s l,v= .bU id s l-> ∃ob,h id=some ob/\(xs≠ []->ob.k=k):=by
 rintro id s l rfl;simp only[elems]at he;cases ea:h id with
 |none=>simp[ea]at he
 |some ob=>
  refine⟨ob,rfl,fun iK=> ?_⟩;simp only[ea]at he;split at he
  ·simp only[au,aF]at he;obtain⟨rfl,rfl⟩:=he;obtain⟨v,hv⟩:=List.exists_mem_of_ne_nil _ iK;rw[<-hl v hv];have hm:=List.mem_of_mem_drop (List.mem_of_mem_take hv);obtain⟨i,hi⟩:=List.getElem?_of_mem hm;obtain⟨b',o',c',Mp,_,_,_,_,dV⟩:=R.at ea hi;exact(dV.lens v hm).symm
  ·cases he
theorem aah{α:Type}{a:Array α}{x y:α}(h:a.toList=[x,y]):a= #[x,y]:=by rw[<-h]
theorem Rp{α:Type}{a:Array α}{x y:α}{r:List α}(h:a.toList=x::y::r):a[0]?=some x/\a[1]?=some y:=by
 rw[<-Array.getElem?_toList,<-Array.getElem?_toList,h];simp
theorem J1{jP:Array TypeId}{t u:TypeId}{r:List TypeId}(ht:jP.toList=t::u::r)(ty:TypeId)(args:Array Value):Builtin.append_ jP ty args=Builtin.append_ #[t,u] ty args:=by
 simp[Builtin.append_,Rp ht]
theorem Rq{jP:Array TypeId}{t u:TypeId}{r:List TypeId}(ht:jP.toList=t::u::r)(ty:TypeId)(args:Array Value):Builtin.copy_ jP ty args=Builtin.copy_ #[t,u] ty args:=by
 simp[Builtin.copy_,Rp ht]
end
section
variable {X:Env} {o:Oper} {a:Act} {w:World} {I:Nat->Prop} {σ:gH} {S S1:St}
theorem A7{xs:List V}{k:Nat}(h:(xs.all fun v=>v.cells.length==k)=true): ∀v∈xs,v.cells.length=k:=by
 intro v hv;simpa using List.all_eq_true.1 h v hv
theorem J4 {args:Array Operand} {jP:Array TypeId} (ho:o.op= .call ⟨.builtin .append,args,jP⟩) {t u:TypeId} {r:List TypeId} (hty:jP.toList=t::u::r)
  (hu:X.P.underlying t=some (.slice (X.ti t).elem)) (T:kP X.P (X.ti t).elem (X.ti (X.ti t).elem)) (arv:((∃e',X.P.underlying u=some (.slice e'))\/X.P.underlying u=some .string)\/(X.ti u).kind.isSome=true)
  (R:Rel w I σ S.h) (F:ir w I σ S.f a) (hx:mn o) (hn:S.h S.n=none) (sZ:σ S.n=none) (bO:FuncId) {v0:V} {QI:aY} {nn0:Nat} (he:cm X bO o S.ev S.h S.n=some (v0,QI,nn0)) (pa:S1=({S with h:=QI,n:=nn0}:St).set o.dst v0):Out X o a w I σ S S1:=by
 have QJ:jP.getD 0 0=t:=by
  have:=(Rp hty).1;simp[Array.getD_eq_getD_getElem?,this]
 have ht1:jP.getD 1 0=u:=by
  have:=(Rp hty).2;simp[Array.getD_eq_getD_getElem?,this]
 simp only[cm,ho,QJ,ht1]at he;split at he
 case h_2=>cases he
 rename_i s x fJ;cases qx:args.toList with
 |nil=>simp[qx]at fJ
 |cons p q=>
 cases q with
 |nil=>simp[qx]at fJ
 |cons q q2=>
 cases q2 with
 |cons _ _=>simp[qx]at fJ
 |nil=>
 simp only[qx,List.map_cons,List.map_nil,List.cons.injEq,and_true]at fJ;obtain⟨rfl,rfl⟩:=fJ;have wI:=aah qx;have r1:cC w I σ (S.ev p) (a.eval p):=dO (S:=S) F (hx p (by simp[ho,Op.operands,Call.operands,wI]));have r2:cC w I σ (S.ev q) (a.eval q):=dO (S:=S) F (hx q (by simp[ho,Op.operands,Call.operands,wI]));have jt: ∀{v:Value} {w':World},(Builtin.append_ #[t,u] o.type #[a.eval p,a.eval q]).run X.P w= .ok v w'->(execOp a.eval o).run X.P w= .ok (.value v) w':=by
  intro v w' hh;simp[execOp,ho,wI,resolve,invoke,builtin,J1 hty,hh]
 cases Jz:elems S.h (S.ev p) with
 |none=>simp[Jz]at he
 |some y1=>
 obtain⟨es,kb⟩:=y1;cases MA:elems S.h (S.ev q) with
 |none=>simp[Jz,MA]at he
 |some y2=>
 obtain⟨xs,kx⟩:=y2;simp only[Jz,MA]at he;split at he
 ·cases he
 rename_i C7;simp only[Bool.or_eq_true,Bool.and_eq_true,Bool.not_eq_true',not_or,not_and,Bool.not_eq_false]at C7;obtain⟨⟨C7,hlen⟩,arw⟩:=C7;have huk:=arv.resolve_right (by simpa using arw);have zV:=A7 hlen;split at he
 case isFalse=>cases he
 rename_i qv;have hkb:kb=true->X.eh bO (X.ti t).elem=true:=fun h=>C7 (.inl h);have Rm:kx=true->X.eh bO (X.ti t).elem=true:=fun h=>C7 (.inr h);obtain⟨news,Fa,Xj⟩:=My huk R r2 MA zV (Fi MA R zV);split at he
 ·
  rename_i hp;simp only[au,aF]at he;obtain⟨rfl,rfl,rfl⟩:=he;subst pa;rw[hp]at r1;have h0:es=[]:=by rw[hp]at Jz;simp only[elems,au,aF]at Jz;exact Jz.1.symm
  subst h0;obtain⟨v,w',σ',h1,h2,h3⟩:=uA (ty:=o.type) R hu T r1 Rm zV Fa Xj hn sZ (by simpa using qv.1) (by simpa using qv.2);refine⟨_,w',I,σ',v,_,jt h1,.inl rfl,?_,qo _ _ _ _ rfl,h3⟩;rw[dJ,fa];exact h2
 ·rename_i wM iK hp;split at he
  ·cases he
  rename_i yV;simp only[Bool.or_eq_true,Bool.not_eq_true',not_or,Bool.not_eq_true,Bool.not_eq_false]at yV;simp only[au,aF]at he;obtain⟨rfl,rfl,rfl⟩:=he;subst pa;rw[hp]at r1;have h0:es=wM/\kb=false:=by rw[hp]at Jz;simp only[elems,au,aF]at Jz;exact⟨Jz.1.symm,Jz.2.symm⟩
  obtain⟨rfl,_⟩:=h0;rw[yV.1]at Xj;obtain⟨v,w',I',h1,h2,h3⟩:=JY (ty:=o.type) R hu T r1 (A7 yV.2) zV Fa Xj S.n qv.1 qv.2;refine⟨_,w',I',σ,v,_,jt h1,.inl rfl,?_,rfl,h3⟩;rw[dJ,fa];exact h2
 ·rename_i id s l hp;split at he
  case h_2=>cases he
  rename_i ob ea;split at he
  case isFalse=>cases he
  rename_i hk;simp only[au,aF]at he;obtain⟨rfl,rfl,rfl⟩:=he;subst pa;rw[hp]at r1;rw[hp]at Jz;simp only[elems,ea]at Jz;split at Jz
  case isFalse=>cases Jz
  rename_i pW;simp only[au,aF]at Jz;obtain⟨rfl,rfl⟩:=Jz;have Mz:((ob.es.drop s).take l).length=l:=by simp;omega
  rw[Mz]at qv⊢;obtain⟨v,w',σ',h1,h2,h3⟩:=JZ (ty:=o.type) R hu T r1 ea hk pW Rm hkb zV Fa Xj hn sZ qv.1 qv.2;refine⟨_,w',I,σ',v,_,jt h1,.inl rfl,?_,qo _ _ _ _ rfl,h3⟩;rw[dJ,fa];exact h2
 ·cases he
theorem NW {P:Program} {h:aY} (R:Rel w I σ h) {x:V} {u:Value} {xs:List V} {kx:Bool} (hr:cC w I σ x u) (he:elems h x=some (xs,kx)) (NY:x.isStr=false)
  {k:Nat} (hl: ∀e∈xs,e.cells.length=k) (m:Nat) (hm:m<=xs.length):
  (∀w',(Builtin.lenOf u).run P w'= .ok xs.length w')/\ ∃news:List Value,news.length=m*k/\(Builtin.firstCells k m u).run P w= .ok news.toArray w/\dn w I (kH kx σ) (flat (xs.take m)) news:=by
 have mk: ∀{ad:Addr} {n cap:Nat} {b o:Nat} {τ:gH},ad=⟨b,o,none⟩->cQ w I τ xs k b o-> ∃news:List Value,news.length=m*k/\(Builtin.firstCells k m (.slice (some ad) n cap)).run P w= .ok news.toArray w/\dn w I τ (flat (xs.take m)) news:=by
  intro ad n cap b o τ had dV;subst had;have hs:=dV.Mr 0 m;simp only[List.drop_zero,Nat.zero_mul,Nat.add_zero]at hs;obtain⟨us,h1,h2,h3⟩:=oq hs;have:(xs.take m).length=m:=by simp;omega
  rw[this]at h1;exact⟨us,h1,run_firstCells_some w k m _ _ cap us h1 (fun j v hv=>by rw[n9];exact h2 j v hv),h3⟩
 have mk0: ∀{ad:Option Addr} {n cap:Nat},xs=[]-> ∃news:List Value,news.length=m*k/\(Builtin.firstCells k m (.slice ad n cap)).run P w= .ok news.toArray w/\dn w I (kH kx σ) (flat (xs.take m)) news:=by
  intro ad n cap h0;subst h0;have:m=0:=by simpa using hm
  subst this;refine⟨[],by simp,?_,by simp[flat,dn]⟩;cases ad<;>simp[Builtin.firstCells,loadCells,loadCellsFrom]
 cases x with
 |sl c es=>
  simp only[elems,au,aF]at he;obtain⟨rfl,rfl⟩:=he;simp only[cC]at hr;obtain⟨ad,cap,rfl,_,_,_,h4⟩:=hr;refine⟨fun w'=>by simp[Builtin.lenOf],?_⟩;rcases h4 with h4|⟨b,o,k',rfl,hI,dV⟩
  ·exact mk0 h4
  ·by_cases h0:es=[]
   ·exact mk0 h0
   ·have vr:k'=k:=by
     obtain⟨e,he⟩:=List.exists_mem_of_ne_nil es h0;rw[<-dV.lens e he];exact hl e he
    subst vr;exact mk rfl dV
 |bU id s l=>
  have hso:=Fi (h:=h) (v:= .bU id s l) he R hl id s l rfl;obtain⟨ob,ea,hko⟩:=hso;simp only[elems,ea]at he;split at he
  case isFalse=>cases he
  rename_i pW;simp only[au,aF]at he;obtain⟨rfl,rfl⟩:=he;obtain⟨ad,cap,rfl,B⟩:=G2 R hr ea;have QH:((ob.es.drop s).take l).length=l:=by simp;omega
  refine⟨fun w'=>by rw[QH];simp[Builtin.lenOf],?_⟩;by_cases h0:(ob.es.drop s).take l=[]
  ·exact mk0 h0
  ·rcases B.place with hp|⟨b,o,c,el,hs,rfl,hb,hle,adw,dV⟩
   ·exfalso;have:=B.le;rw[hp]at this;apply h0;have:l=0:=by omega
    subst this;simp
   ·have tP:=hko h0;have:=dV.Mr s l;rw[tP]at this;exact mk (by rw[tP]) this
 |str s=>cases NY
 |_=>simp[elems]at he
theorem Rr {args:Array Operand} {jP:Array TypeId} (ho:o.op= .call ⟨.builtin .copy,args,jP⟩) {t u:TypeId} {r:List TypeId} (hty:jP.toList=t::u::r)
  (hu:X.P.underlying t=some (.slice (X.ti t).elem)) (T:kP X.P (X.ti t).elem (X.ti (X.ti t).elem))
  (R:Rel w I σ S.h) (F:ir w I σ S.f a) (hx:mn o) (bO:FuncId) {v0:V} {QI:aY} {nn0:Nat} (he:cm X bO o S.ev S.h S.n=some (v0,QI,nn0)) (pa:S1=({S with h:=QI,n:=nn0}:St).set o.dst v0):Out X o a w I σ S S1:=by
 have QJ:jP.getD 0 0=t:=by
  have:=(Rp hty).1;simp[Array.getD_eq_getD_getElem?,this]
 simp only[cm,ho,QJ]at he;split at he
 case h_2=>cases he
 rename_i id s l x fJ;cases qx:args.toList with
 |nil=>simp[qx]at fJ
 |cons p q=>
 cases q with
 |nil=>simp[qx]at fJ
 |cons q q2=>
 cases q2 with
 |cons _ _=>simp[qx]at fJ
 |nil=>
 simp only[qx,List.map_cons,List.map_nil,List.cons.injEq,and_true]at fJ;obtain⟨hp,rfl⟩:=fJ;have wI:=aah qx;have r1:cC w I σ (S.ev p) (a.eval p):=dO (S:=S) F (hx p (by simp[ho,Op.operands,Call.operands,wI]));have r2:cC w I σ (S.ev q) (a.eval q):=dO (S:=S) F (hx q (by simp[ho,Op.operands,Call.operands,wI]));rw[hp]at r1;cases ea:S.h id with
 |none=>simp[ea]at he
 |some ob=>
 cases MA:elems S.h (S.ev q) with
 |none=>simp[ea,MA]at he
 |some y2=>
 obtain⟨xs,kx⟩:=y2;simp only[ea,MA]at he;split at he
 ·cases he
 rename_i C7;simp only[Bool.or_eq_true,Bool.and_eq_true,Bool.not_eq_true',not_or,not_and,Bool.not_eq_false,Bool.not_eq_true]at C7;obtain⟨⟨NY,Rm⟩,hlen⟩:=C7;have zV:=A7 hlen;split at he
 case isFalse=>cases he
 rename_i qv;simp only[au,aF]at he;obtain⟨rfl,rfl,rfl⟩:=he;subst pa;obtain⟨QH,news,hnl,hfc,Xj⟩:=NW (P:=X.P) R r2 MA NY zV (min xs.length l) (Nat.min_le_left _ _);obtain⟨ad,cap,Wk,B⟩:=G2 R r1 ea;have jt: ∀{v:Value} {w':World},(Builtin.copy_ #[t,u] o.type #[a.eval p,a.eval q]).run X.P w= .ok v w'->(execOp a.eval o).run X.P w= .ok (.value v) w':=by
  intro v w' hh;simp[execOp,ho,wI,resolve,invoke,builtin,Rq hty,hh]
 have la:Nat.min xs.length l=min xs.length l:=rfl;have qE:=run_sizeOf T w;by_cases h0:min xs.length l=0
 ·refine⟨.value (.int .i64 ((min xs.length l:Nat):Int)),w,I,σ,_,.int .i64 ((min xs.length l:Nat):Int),?_,.inl rfl,?_,qo _ _ _ _ rfl,by simp[cC]⟩
  ·have wu:news=[]:=by
    rw[h0]at hnl;simpa using hnl
   subst wu;rw[h0]at hfc⊢;apply jt;cases ad with
   |none=>simp[Builtin.copy_,run_underlying hu,Wk,QH,la,h0,qE,<-qv.2,hfc,goInt]
   |some ad=>simp[Builtin.copy_,run_underlying hu,Wk,QH,la,h0,qE,<-qv.2,hfc,goInt,storeCells]
  ·rw[dJ,fa];have:aO S.h id (some {ob with es:=ob.es.take s++xs.take (min xs.length l)++ob.es.drop (s+min xs.length l)})=S.h:=by
    funext i;simp only[aO,h0,List.take_zero,List.append_nil,Nat.add_zero,List.take_append_drop];split
    ·rename_i e;subst e;exact ea.symm
    ·rfl
   rw[this];exact Step.refl R _
 ·have hle:=B.le;rcases B.place with hp0|⟨b,of,c,el,iT,rfl,sW,Xi,adw,dV⟩
  ·omega
  ·generalize hm:min xs.length l=m at*;have uj:m<=l:=by omega
   have hmx:m<=xs.length:=by omega
   have hI: ¬I b:=(R.owned ⟨id,ob,of,ob.k,ea,iT⟩).1;have hmul:(s+l)*ob.k<=ob.es.length*ob.k:=Nat.mul_le_mul_right _ qv.1;have aaf:m*ob.k<=l*ob.k:=Nat.mul_le_mul_right _ uj;rw[Nat.add_mul]at hmul;have uB:of+s*ob.k+news.length<=c.size:=by rw[hnl];omega
   have E:Ext w I σ (w.setRow b (pZ c (of+s*ob.k) news)) I σ:=Ext.setRow hI sW (nG uB);have jI:=setRow_heap w b c (pZ c (of+s*ob.k) news) el (0,0) sW;have iZ:=run_storeCells_at X.P b (of+s*ob.k) el news 0 c w sW (by simpa using uB) Xj.adj;simp only[Nat.add_zero]at iZ;obtain⟨us,NH,huc,hur⟩:=oq dV;have tM:cQ (w.setRow b (pZ c (of+s*ob.k) news)) I (kH ob.dG σ) (ob.es.take s++xs.take m++ob.es.drop (s+m)) ob.k b of:=by
    have hA:=dV.Mr 0 s;simp only[List.drop_zero,Nat.zero_mul,Nat.add_zero]at hA;obtain⟨ua,ary,arz,ar0⟩:=oq hA;have hC:=dV.Mr (s+m) (ob.es.length-(s+m));rw[bn (by simp)]at hC;obtain⟨uc,ar1,ar2,ar3⟩:=oq hC;have lp:(ob.es.take s).length=s:=by simp;omega
    have J5:(ob.es.drop (s+m)).length=ob.es.length-(s+m):=by simp
    rw[lp]at ary;rw[J5]at ar1;have Rt:(s+m)*ob.k=s*ob.k+m*ob.k:=Nat.add_mul ..;refine sw (E.o9 ob.dG) (us:=ua++news++uc) (fun v hv=> ?_) ?_ (fun j v hv=> ?_)
    ·rcases List.mem_append.1 hv with hv|hv
     ·rcases List.mem_append.1 hv with hv|hv
      ·exact dV.lens v (List.mem_of_mem_take hv)
      ·exact zV v (List.mem_of_mem_take hv)
     ·exact dV.lens v (List.mem_of_mem_drop hv)
    ·rw[pJ,pJ];exact(ar0.append (dn.ext' _ _ (vt Rm) Xj)).append ar3
    ·rw[cell_of_row _ _ _ _ _ _ jI,xN uB];have sx:=(List.getElem?_eq_some_iff.1 hv).1;rw[List.length_append,List.length_append]at sx;by_cases hj:j<ua.length
     ·rw[List.append_assoc,List.getElem?_append_left hj]at hv;rw[if_neg (by omega)];have:=arz j v hv;rwa[cell_of_row _ _ _ _ _ _ sW]at this
     ·by_cases C8:j<(ua++news).length
      ·rw[List.getElem?_append_left C8,List.getElem?_append_right (by omega)]at hv;rw[List.length_append]at C8;rw[if_pos (by omega),show of+j-(of+s*ob.k)=j-ua.length by omega];exact hv
      ·rw[List.getElem?_append_right (by omega),List.length_append]at hv;rw[List.length_append]at C8;rw[if_neg (by omega)];have:=ar2 _ v hv;rw[cell_of_row _ _ _ _ _ _ sW]at this;rwa[show of+(s+m)*ob.k+(j-(ua.length+news.length))=of+j by omega]at this
   have Ru:(ob.es.take s++xs.take m++ob.es.drop (s+m)).length=ob.es.length:=by simp;omega
   have s1:=R.write (dG:=ob.dG) ea iT sW (nG uB) (by rw[Ru];exact Xi) tM S.n;refine⟨.value (.int .i64 ((m:Nat):Int)),w.setRow b (pZ c (of+s*ob.k) news),I,σ,_,.int .i64 ((m:Nat):Int),?_,.inl rfl,?_,qo _ _ _ _ rfl,by simp[cC]⟩
   rotate_left
   ·rw[dJ,fa];exact s1
   ·apply jt;simp[Builtin.copy_,run_underlying hu,Wk,QH,la,qE,<-qv.2,hfc,goInt,iZ,pZ]
end
section
variable {X:Env} {o:Oper} {a:Act} {w:World} {I:Nat->Prop} {σ:gH} {S S1:St}
theorem lb{t:TypeId}(h:tB X t=true):kP X.P t (X.ti t):=arj h
theorem adz{nt:Nat}(hB:NJ X nt o=true)(R:Rel w I σ S.h)(F:ir w I σ S.f a)(hn:S.h S.n=none)(sZ:σ S.n=none)(bO:FuncId)(he:W5 X bO o S=some S1):Out X o a w I σ S S1:=by
 unfold W5 at he;split at he
 case h_2=>cases he
 rename_i v0 QI nn0 Fh;have pa:S1=({S with h:=QI,n:=nn0}:St).set o.dst v0:=by simpa using he.symm
 clear he;have he:=Fh;unfold NJ at hB;rw[Bool.and_eq_true,Bool.and_eq_true]at hB;obtain⟨⟨_,hx⟩,hB⟩:=hB;have hx:mn o:=fun x hm=>List.all_eq_true.1 hx x hm;cases iA:o.op with
 |move x=>
  simp only[cm,iA,au,aF]at he;obtain⟨rfl,rfl,rfl⟩:=he;exact GR (.inl iA) R F hx pa
 |assign x=>
  simp only[cm,iA,au,aF]at he;obtain⟨rfl,rfl,rfl⟩:=he;exact GR (.inr iA) R F hx pa
 |pick c p q=>
  simp only[cm,iA]at he;split at he
  ·rename_i t hc;simp only[au,aF]at he;obtain⟨rfl,rfl,rfl⟩:=he;exact Rd iA R F hx hc pa
  ·cases he
 |alloc t=>
  simp only[cm,iA,au,aF]at he;obtain⟨rfl,rfl,rfl⟩:=he;simp only[iA]at hB;exact NK iA (lb hB) R hn sZ pa
 |box t x=>
  simp only[cm,iA]at he;split at he
  ·rename_i hf;simp only[au,aF]at he;obtain⟨rfl,rfl,rfl⟩:=he;exact W9 iA R F hx hn sZ hf pa
  ·cases he
 |build t ps=>
  simp only[cm,iA]at he;simp only[iA,Bool.and_eq_true,Bool.or_eq_true,beq_iff_eq]at hB;have T:=lb hB.1;have hTe:(X.ti t).arr=none\/kP X.P (X.ti t).elem (X.ti (X.ti t).elem):=hB.2.imp_right lb;split at he
  ·rename_i ha;split at he
   ·cases he
   ·rename_i hf0;split at he
    ·rename_i cs hf;simp only[au,aF]at he;obtain⟨rfl,rfl,rfl⟩:=he;exact D2 iA T hTe R F hx (.inl ⟨ha,hf,hf0⟩) pa
    ·cases he
  ·rename_i m ha;split at he
   ·rename_i cs hf;simp only[au,aF]at he;obtain⟨rfl,rfl,rfl⟩:=he;exact D2 iA T hTe R F hx (.inr ⟨m,ha,hf⟩) pa
   ·cases he
 |buildSlice t n ps=>
  simp only[cm,iA]at he;simp only[iA,Bool.and_eq_true,decide_eq_true_eq]at hB;obtain⟨⟨h1,h2⟩,h3⟩:=hB;split at he
  ·split at he
   ·rename_i es hf;simp only[au,aF]at he;obtain⟨rfl,rfl,rfl⟩:=he;exact v5 iA (lB h1) (lb h2) h3 R F hx hn sZ hf pa
   ·cases he
  ·split at he
   ·rename_i l h hg;split at he
    ·rename_i es hf;split at he
     ·simp only[au,aF]at he;obtain⟨rfl,rfl,rfl⟩:=he;exact uz (th:=true) iA (lB h1) (lb h2) h3 R F hx hn sZ hg hf (by rw[if_pos rfl];exact pa)
     ·simp only[au,aF]at he;obtain⟨rfl,rfl,rfl⟩:=he;exact uz (th:=false) iA (lB h1) (lb h2) h3 R F hx hn sZ hg hf (by simpa using pa)
    ·cases he
   ·cases he
 |load t x=>
  simp only[cm,iA]at he;simp only[iA]at hB;split at he
  ·rename_i id i f hp;split at he
   ·rename_i ob ea;split at he
    ·rename_i e hi;split at he
     ·rename_i v hv;simp only[au,aF]at he;obtain⟨rfl,rfl,rfl⟩:=he;exact E8 iA (lb hB) R F hx hp ea hi hv pa
     ·cases he
    ·cases he
   ·cases he
  ·rename_i cs hp;split at he
   ·rename_i v hv;simp only[au,aF]at he;obtain⟨rfl,rfl,rfl⟩:=he;exact E9 iA (lb hB) R F hx hp hv pa
   ·cases he
  ·cases he
 |store t x y=>
  simp only[cm,iA]at he;simp only[iA,Bool.and_eq_true,beq_iff_eq]at hB;split at he
  ·rename_i id i f hp;split at he
   ·rename_i C5 h0;split at he
    ·rename_i v h hg;split at he
     ·rename_i ob ea;split at he
      ·rename_i e hi;split at he
       ·rename_i hf;simp only[au,aF]at he;obtain⟨rfl,rfl,rfl⟩:=he;exact NO iA (lb hB.1) R F hx hp h0 hg ea hi hf hB.2 (by rw[pa,hB.2];rfl)
       ·cases he
      ·cases he
     ·cases he
    ·cases he
   ·cases he
  ·cases he
 |nilCheck x=>
  simp only[cm,iA]at he;split at he
  ·rename_i id i f hp;simp only[au,aF]at he;obtain⟨rfl,rfl,rfl⟩:=he;exact s8 iA R F hx (.inl ⟨id,i,f,hp⟩) (by rw[hp];exact pa)
  ·rename_i cs hp;simp only[au,aF]at he;obtain⟨rfl,rfl,rfl⟩:=he;exact s8 iA R F hx (.inr (.inl ⟨cs,hp⟩)) (by rw[hp];exact pa)
  ·rename_i g p q hp;simp only[au,aF]at he;obtain⟨rfl,rfl,rfl⟩:=he;exact s8 iA R F hx (.inr (.inr ⟨g,p,q,hp⟩)) (by rw[hp];exact pa)
  ·cases he
 |binOp op t x y ty=>
  simp only[cm,iA]at he;simp only[iA]at hB;split at he
  ·rename_i v hv;simp only[au,aF]at he;obtain⟨rfl,rfl,rfl⟩:=he;refine NP iA (fun h=> ?_) R F hx hv pa;rcases h with rfl|rfl<;>exact hB
  ·cases he
 |unOp op t x=>
  simp only[cm,iA]at he;split at he
  ·rename_i v hv;simp only[au,aF]at he;obtain⟨rfl,rfl,rfl⟩:=he;exact Rf iA R F hx hv pa
  ·cases he
 |convert s d x=>
  simp only[cm,iA]at he;simp only[iA,Bool.and_eq_true]at hB;split at he
  ·rename_i k k' n hk hv;simp only[au,aF]at he;obtain⟨rfl,rfl,rfl⟩:=he;exact GU iA (lb hB.1) hB.2 R F hx hk hv pa
  ·cases he
 |makeFunc c p q=>
  cases c with
  |func g=>
   simp only[cm,iA,au,aF]at he;obtain⟨rfl,rfl,rfl⟩:=he;exact Fb iA R F hx pa
  |_=>simp[cm,iA]at he
 |makeSlice t l c=>
  simp only[cm,iA]at he;simp only[iA,Bool.and_eq_true]at hB;split at he
  ·rename_i n m hl hc;split at he
   ·rename_i hb;simp only[au,aF]at he;obtain⟨rfl,rfl,rfl⟩:=he;exact Dn iA (lB hB.1) (lb hB.2) R F hx hn sZ hl hc hb pa
   ·cases he
  ·cases he
 |slice t x lo hi mx=>
  simp only[cm,iA]at he;simp only[iA]at hB;split at he
  case isFalse=>cases he
  rename_i yY;split at he
  ·
   rename_i c es hv;have NY:(X.ti t).isStr=false:=by rw[<-yY,hv];rfl
   have hu:X.P.underlying t=some (.slice (X.ti t).elem)/\tB X (X.ti t).elem=true:=by
    split at hB
    ·rename_i e hu;simp only[Bool.and_eq_true,beq_iff_eq]at hB;obtain⟨⟨_,rfl⟩,h3⟩:=hB;exact⟨hu,h3⟩
    ·rw[NY]at hB;cases hB
    ·cases hB
   split at he
   case isFalse=>cases he
   rename_i kn;cases mx with
   |none=>
    simp only at he;split at he
    ·rename_i l h hb;simp only[au,aF]at he;obtain⟨rfl,rfl,rfl⟩:=he;exact Fe iA R F hx hu.1 (lb hu.2) hv kn hb pa
    ·cases he
   |some m=>
    simp only at he;split at he
    ·rename_i k1 p k2 q hm hh;split at he
     ·rename_i J6;subst J6;split at he
      ·rename_i l h hb;simp only[au,aF]at he;obtain⟨rfl,rfl,rfl⟩:=he;exact Dk iA R F hx hu.1 (lb hu.2) hv kn hm hh hb pa
      ·cases he
     ·cases he
    ·cases he
  ·rename_i id s n hv;have NY:(X.ti t).isStr=false:=by rw[<-yY,hv];rfl
   have hu:X.P.underlying t=some (.slice (X.ti t).elem)/\tB X (X.ti t).elem=true:=by
    split at hB
    ·rename_i e hu;simp only[Bool.and_eq_true,beq_iff_eq]at hB;obtain⟨⟨_,rfl⟩,h3⟩:=hB;exact⟨hu,h3⟩
    ·rw[NY]at hB;cases hB
    ·cases hB
   split at he
   ·rename_i ob ea;split at he
    case isFalse=>cases he
    rename_i hk;split at he
    ·rename_i l h hb;simp only[au,aF]at he;obtain⟨rfl,rfl,rfl⟩:=he;exact Dl iA R F hx hu.1 (lb hu.2) hv ea hk hb pa
    ·cases he
   ·rename_i m ob ea;split at he
    case isFalse=>cases he
    rename_i hk;split at he
    ·rename_i k1 p k2 q hm hh;split at he
     ·rename_i J6;subst J6;split at he
      ·rename_i l h hb;simp only[au,aF]at he;obtain⟨rfl,rfl,rfl⟩:=he;exact BA iA R F hx hu.1 (lb hu.2) hv ea hk hm hh hb pa
      ·cases he
     ·cases he
    ·cases he
   ·cases he
  ·rename_i s hv;have NY:(X.ti t).isStr=true:=by rw[<-yY,hv];rfl
   have hu:X.P.underlying t=some .string:=by
    split at hB
    ·rename_i e hu;rw[NY]at hB;simp at hB
    ·rename_i hu;exact hu
    ·cases hB
   cases mx with
   |none=>
    simp only at he;split at he
    ·rename_i l h hb;simp only[au,aF]at he;obtain⟨rfl,rfl,rfl⟩:=he;exact Dm iA R F hx hu hv hb pa
    ·cases he
   |some m=>cases he
  ·cases he
 |fieldAddr t x i=>
  simp only[cm,iA]at he;simp only[iA]at hB;split at he
  ·rename_i off k hf;split at he
   ·rename_i id j f hv;simp only[au,aF]at he;obtain⟨rfl,rfl,rfl⟩:=he;exact wi iA (lb hB) R F hx hf (.inl ⟨id,j,f,hv,rfl⟩) pa
   ·rename_i cs hv;simp only[au,aF]at he;obtain⟨rfl,rfl,rfl⟩:=he;exact wi iA (lb hB) R F hx hf (.inr ⟨cs,hv,rfl⟩) pa
   ·cases he
  ·cases he
 |indexAddr t x ix=>
  simp only[cm,iA]at he;simp only[iA,Bool.and_eq_true,Bool.or_eq_true,beq_iff_eq,bne_iff_ne]at hB;split at he
  ·rename_i k n hi;split at he
   ·rename_i c es hv;split at he
    ·rename_i h0;split at he
     ·rename_i e hg;split at he
      ·rename_i hk;simp only[au,aF]at he;obtain⟨rfl,rfl,rfl⟩:=he;rcases hB.1 with hb|hb
       ·exact Fc iA (lB hb.2) (lb hB.2) R F hx hv hi h0.1 hg hk pa
       ·exact absurd h0.2 hb.2
      ·cases he
     ·cases he
    ·cases he
   ·rename_i id s l hv;split at he
    ·rename_i h0;split at he
     ·rename_i ob hg;split at he
      ·rename_i hk;simp only[au,aF]at he;obtain⟨rfl,rfl,rfl⟩:=he;rcases hB.1 with hb|hb
       ·exact Dg iA (lB hb.2) (lb hB.2) R F hx hv hi h0.1 hg hk pa
       ·exact absurd h0.2 hb.2
      ·cases he
     ·cases he
    ·cases he
   ·rename_i id j f hv;split at he
    ·rename_i m hm;split at he
     ·rename_i h0;simp only[au,aF]at he;obtain⟨rfl,rfl,rfl⟩:=he;rcases hB.1 with hb|hb
      ·rw[hm]at hb;exact absurd hb.1 (by simp)
      ·exact Dh iA (lb hb.1) (lb hB.2) R F hx hv hi hm h0 pa
     ·cases he
    ·cases he
   ·cases he
  ·cases he
 |index t x ix=>
  simp only[cm,iA]at he;simp only[iA,Bool.and_eq_true,Bool.or_eq_true,beq_iff_eq,bne_iff_ne]at hB;obtain⟨⟨h1,h2⟩,h3⟩:=hB;split at he
  ·rename_i k n hi;split at he
   ·rename_i s hv;split at he
    ·rename_i h0;split at he
     ·rename_i b hg;simp only[au,aF]at he;obtain⟨rfl,rfl,rfl⟩:=he;have hu:X.P.underlying t=some .string:=by
       rcases h3 with h3|h3
       ·exact absurd h0.2 h3
       ·split at h3
        ·assumption
        ·cases h3
      exact Dj iA hu R F hx hv hi h0.1 hg pa
     ·cases he
    ·cases he
   ·rename_i cs hv;split at he
    ·rename_i m hm;split at he
     ·rename_i h0;split at he
      ·rename_i v hvv;simp only[au,aF]at he;obtain⟨rfl,rfl,rfl⟩:=he;have hTe:tB X (X.ti t).elem=true:=by
        rcases h2 with h2|h2
        ·rw[hm]at h2;cases h2
        ·exact h2
       exact Di iA (lb h1) (lb hTe) R F hx hv hi hm h0 hvv pa
      ·cases he
     ·cases he
    ·cases he
   ·cases he
  ·cases he
 |extract x i=>
  simp only[cm,iA]at he;split at he
  ·rename_i vs hv;split at he
   ·rename_i v hi;simp only[au,aF]at he;obtain⟨rfl,rfl,rfl⟩:=he;exact GV iA R F hx hv hi pa
   ·cases he
  ·cases he
 |call c=>
  obtain⟨J7,args,jP⟩:=c;cases J7 with
  |builtin b=>
   cases b with
   |len=>
    simp only[cm,iA]at he;simp only[iA,Bool.and_eq_true]at hB;split at he
    ·rename_i x fJ;cases qx:args.toList with
     |nil=>simp[qx]at fJ
     |cons p q=>
     cases q with
     |cons _ _=>simp[qx]at fJ
     |nil=>
     simp only[qx,List.map_cons,List.map_nil,List.cons.injEq,and_true]at fJ;subst fJ;cases lp:jP.toList with
     |nil=>simp[lp]at hB
     |cons t r=>
     have QJ:jP[0]?=some t:=by rw[<-Array.getElem?_toList,lp];rfl
     have htd:jP.getD 0 0=t:=by simp[Array.getD_eq_getD_getElem?,QJ]
     rw[htd]at he;split at he
     ·rename_i iZ;split at he
      ·rename_i n hl;simp only[au,aF]at he;obtain⟨rfl,rfl,rfl⟩:=he;refine Xc iA qx QJ ?_ R F hx iZ hl pa;have MB:=hB.2;simp only[lp]at MB;split at MB
       ·rename_i e hu;exact .inl ⟨⟨e,hu⟩,by simpa using MB⟩
       ·rename_i hu;exact .inr ⟨hu,MB⟩
       ·cases MB
      ·cases he
     ·cases he
    ·cases he
   |min=>
    simp only[cm,iA]at he;split at he
    ·rename_i k p k' q fJ;split at he
     ·rename_i hk;subst hk;simp only[au,aF]at he;obtain⟨rfl,rfl,rfl⟩:=he;cases qx:args.toList with
      |nil=>simp[qx]at fJ
      |cons p q=>
      cases q with
      |nil=>simp[qx]at fJ
      |cons q q2=>
      cases q2 with
      |cons _ _=>simp[qx]at fJ
      |nil=>
      simp only[qx,List.map_cons,List.map_nil,List.cons.injEq,and_true]at fJ;exact Mx false iA qx R F hx fJ.1 fJ.2 (by simpa using pa)
     ·cases he
    ·cases he
   |max=>
    simp only[cm,iA]at he;split at he
    ·rename_i k p k' q fJ;split at he
     ·rename_i hk;subst hk;simp only[au,aF]at he;obtain⟨rfl,rfl,rfl⟩:=he;cases qx:args.toList with
      |nil=>simp[qx]at fJ
      |cons p q=>
      cases q with
      |nil=>simp[qx]at fJ
      |cons q q2=>
      cases q2 with
      |cons _ _=>simp[qx]at fJ
      |nil=>
      simp only[qx,List.map_cons,List.map_nil,List.cons.injEq,and_true]at fJ;exact Mx true iA qx R F hx fJ.1 fJ.2 (by simpa using pa)
     ·cases he
    ·cases he
   |append=>
    simp only[iA,Bool.and_eq_true]at hB;cases lp:jP.toList with
    |nil=>simp[lp]at hB
    |cons t r=>
    cases r with
    |nil=>simp[lp]at hB
    |cons u r=>
    have MB:=hB.2;simp only[lp,Bool.and_eq_true]at MB;refine J4 iA lp (lB MB.1.1) (lb MB.1.2) ?_ R F hx hn sZ bO Fh pa;have h3:=MB.2;split at h3
    ·rename_i e hu;exact .inl (.inl ⟨e,hu⟩)
    ·rename_i hu;exact .inl (.inr hu)
    ·exact .inr h3
   |copy=>
    simp only[iA,Bool.and_eq_true]at hB;cases lp:jP.toList with
    |nil=>simp[lp]at hB
    |cons t r=>
    cases r with
    |nil=>simp[lp]at hB
    |cons u r=>
    have MB:=hB.2;simp only[lp,Bool.and_eq_true]at MB;exact Rr iA lp (lB MB.1.1) (lb MB.1.2) R F hx bO Fh pa
   |_=>simp[cm,iA]at he
  |_=>simp[cm,iA]at he
 |_=>simp[cm,iA]at he
end
theorem jS{α β:Type}(f:α->Option β): ∀{l:List α} {r:List β},cn (l.map f)=some r->l.length=r.length/\ ∀(j:Nat) x y,l[j]?=some x->r[j]?=some y->f x=some y
 | [],r,h=>by
  simp only[List.map_nil,cn,au]at h;subst h;simp
 |x::l,r,h=>by
  simp only[List.map_cons]at h;cases hx:f x with
  |none=>simp[cn,hx]at h
  |some y=>
   simp only[cn,hx]at h;split at h
   ·rename_i l' hl;simp only[au]at h;subst h;obtain⟨h1,h2⟩:=jS f hl;refine⟨by simp[h1],fun j a b ha hb=> ?_⟩;cases j with
    |zero=>simp at ha hb;subst ha;subst hb;exact hx
    |succ j=>exact h2 j a b (by simpa using ha) (by simpa using hb)
   ·cases h
section
variable {w:World} {I J:Nat->Prop} {σ:gH} {h:aY}
theorem pe{d:Nat}{cs:List V}{v':V}(ht:bT h (d+1) (.agg cs)=some v'): ∃l,v'= .agg l/\cn (cs.map (bT h d))=some l:=by
 simp only[bT]at ht;split at ht
 ·rename_i l hl;simp only[au]at ht;exact⟨l,ht.symm,hl⟩
 ·cases ht
theorem vu{d:Nat}{cs:List V}{v':V}(ht:bT h (d+1) (.de cs)=some v'): ∃l,v'= .de l/\cn (cs.map (bT h d))=some l:=by
 simp only[bT]at ht;split at ht
 ·rename_i l hl;simp only[au]at ht;exact⟨l,ht.symm,hl⟩
 ·cases ht
theorem vx{d:Nat}{v v':V}(ht:bT h d v=some v')(hv: ∀cs,v≠ .agg cs): ∀cs,v'≠ .agg cs:=by
 intro cs e;subst e;cases v with
 |agg qC=>exact hv qC rfl
 |de qC=>
  cases d with
  |zero=>simp[bT]at ht
  |succ d=>obtain⟨l,h1,_⟩:=vu ht;cases h1
 |bU id s l=>
  cases d with
  |zero=>simp[bT]at ht
  |succ d=>
   simp only[bT]at ht;split at ht
   ·split at ht
    ·split at ht
     ·split at ht
      ·cases ht
      ·cases ht
     ·cases ht
    ·cases ht
   ·cases ht
 |fn g a b=>cases a<;>cases b<;>cases d<;>simp[bT]at ht
 |_=>cases d<;>simp[bT]at ht
theorem kB{v:V}(hv: ∀cs,v≠ .agg cs):v.cells=[v]:=by
 cases v with
 |agg cs=>exact absurd rfl (hv cs)
 |_=>rfl
theorem G3: ∀{d:Nat} {v v':V},bT h d v=some v'->bT h (d+1) v=some v'
 |0,v,v',ht=>by
  cases v with
  |fn g a b=>cases a<;>cases b<;>simp_all [bT]
  |_=>first|(simp[bT]at ht;done)|(simpa[bT] using ht)
 |d+1,v,v',ht=>by
  have key: ∀{cs l:List V},cn (cs.map (bT h d))=some l->cn (cs.map (bT h (d+1)))=some l:=by
   intro cs;induction cs with
   |nil=>intro l hl;exact hl
   |cons c cs ih=>
    intro l hl;simp only[List.map_cons]at hl⊢;cases hc:bT h d c with
    |none=>simp[hc,cn]at hl
    |some c'=>
     simp only[hc,cn]at hl;split at hl
     ·rename_i l' xz;simp only[cn,G3 hc,ih xz];exact hl
     ·cases hl
  cases v with
  |agg cs=>
   obtain⟨l,rfl,hl⟩:=pe ht;rw[bT];simp only[key hl]
  |de cs=>
   obtain⟨l,rfl,hl⟩:=vu ht;rw[bT];simp only[key hl]
  |bU id s l=>
   rw[bT]at ht⊢;split at ht
   ·split at ht
    ·rename_i hle;simp only[hle,if_true];split at ht
     ·rename_i hk;simp only[hk,if_true];split at ht
      ·rename_i l' xz;simp only[key xz];exact ht
      ·cases ht
     ·rename_i hk;simp only[hk];exact ht
    ·cases ht
   ·cases ht
  |fn g a b=>cases a<;>cases b<;>simp_all [bT]
  |_=>first|(simp[bT]at ht;done)|(simpa[bT] using ht)
theorem rD(R:Rel w I σ h)(NN: ∀b,I b->J b)(hJ: ∀b,gm σ h b->J b): ∀(d:Nat) (v v':V) (u:Value),bT h d v=some v'->cC w I σ v u->cC w J eA v' u:=by
 have EJ:Ext w I eA w J eA:=⟨fun _ _=>rfl,fun _ c _ fz hh=>⟨c,fz,hh,rfl⟩,NN,fun _ _ hh=>hh⟩;intro d;induction d with
 |zero=>
  intro v v' u ht hr;have hv:v.oR=true/\v'=v:=by
   cases v with
   |fn g a b=>cases a<;>cases b<;>simp[bT]at ht⊢ <;>simp_all [V.oR]
   |_=>simp[bT]at ht⊢ <;>simp_all [V.oR]
  rw[hv.2];exact(sv hv.1 hr).ext EJ
 |succ d ih=>
  intro v v' u ht hr;by_cases hi:v.oR=true
  ·have hv:v'=v:=by
    cases v with
    |fn g a b=>cases a<;>cases b<;>simp[bT]at ht⊢ <;>simp_all [V.oR]
    |_=>first|(simp[bT]at ht⊢;simp_all [V.oR];done)|(simp[V.oR]at hi)
   rw[hv];exact(sv hi hr).ext EJ
  ·cases v with
   |agg cs=>
    obtain⟨l,rfl,hl⟩:=pe ht;obtain⟨h1,h2⟩:=jS _ hl;simp only[cC]at hr⊢;obtain⟨us,rfl,hc⟩:=hr;rw[dh]at hc;refine⟨us,rfl,?_⟩;rw[dh];refine⟨by rw[<-h1];exact hc.1,fun j c' u' wm Gs=> ?_⟩;have hj:j<cs.length:=by rw[h1];exact(List.getElem?_eq_some_iff.1 wm).1
    have nn:cs[j]?=some cs[j]:=by simp
    have:=hc.2 j _ u' nn Gs;exact⟨this.1,ih _ _ _ (h2 j _ _ nn wm) this.2⟩
   |de cs=>
    obtain⟨l,rfl,hl⟩:=vu ht;obtain⟨h1,h2⟩:=jS _ hl;simp only[cC]at hr⊢;obtain⟨us,rfl,hc⟩:=hr;rw[kG]at hc;refine⟨us,rfl,?_⟩;rw[kG];refine⟨by rw[<-h1];exact hc.1,fun j c' u' wm Gs=> ?_⟩;have hj:j<cs.length:=by rw[h1];exact(List.getElem?_eq_some_iff.1 wm).1
    have nn:cs[j]?=some cs[j]:=by simp
    exact ih _ _ _ (h2 j _ _ nn wm) (hc.2 j _ u' nn Gs)
   |bU id s l=>
    simp only[bT]at ht;cases ea:h id with
    |none=>simp[ea]at ht
    |some ob=>
    simp only[ea]at ht;split at ht
    case isFalse=>cases ht
    rename_i pW;have ajv: ∀b o k,σ id=some (b,o,k)->J b:=fun b o k hs=>hJ b ⟨id,ob,o,k,ea,hs⟩;by_cases hk:ob.dG=true
    ·simp only[hk,if_true]at ht;split at ht
     case h_2=>cases ht
     rename_i wM hl;simp only[au]at ht;subst ht;obtain⟨h1,h2⟩:=jS _ hl;have hlen:((ob.es.drop s).take l).length=l:=by simp;omega
     obtain⟨ad,cap,rfl,B⟩:=G2 R hr ea;simp only[cC];refine⟨ad,cap,by rw[<-h1,hlen],by rw[<-h1,hlen];exact B.le,B.max,fun hh=>(by cases hh),?_⟩;rcases B.place with hp|⟨b,o,c,el,hs,had,hb,_,_,dV⟩
     ·left;have:=B.le;apply List.eq_nil_of_length_eq_zero;rw[<-h1,hlen];omega
     ·right;refine⟨b,o+s*ob.k,ob.k,had,ajv b o ob.k hs,?_⟩;have yX:=dV.Mr s l;rw[hk]at yX;simp only[kH,if_true]at yX;rw[kO]at yX⊢;intro i e' nf;have Bt:i<((ob.es.drop s).take l).length:=by rw[h1];exact(List.getElem?_eq_some_iff.1 nf).1
      have hie:((ob.es.drop s).take l)[i]?=some ((ob.es.drop s).take l)[i]:=List.getElem?_eq_getElem Bt;have Wl:=h2 i _ _ hie nf;obtain⟨mM,yZ⟩:=yX i _ hie;generalize ((ob.es.drop s).take l)[i]=e at Wl mM yZ;by_cases QC: ∃cs,e= .agg cs
      ·obtain⟨cs,rfl⟩:=QC;cases d with
       |zero=>simp[bT]at Wl
       |succ d=>
        obtain⟨qC,rfl,xz⟩:=pe Wl;obtain⟨g1,g2⟩:=jS _ xz;refine⟨by simpa[V.cells,<-g1] using mM,fun j c' y9=> ?_⟩;have sx:j<cs.length:=by rw[g1];exact(List.getElem?_eq_some_iff.1 y9).1
        have hjc:cs[j]?=some cs[j]:=by simp
        obtain⟨u,NR,NS,Rk⟩:=yZ j _ hjc;refine⟨u,NR,NS,?_⟩;have Rv:bT h (d+1) cs[j]=some c':=by
         have:=g2 j _ _ hjc y9;exact G3 this
        exact ih _ _ _ Rv Rk
      ·have iK: ∀cs,e≠ .agg cs:=fun cs hh=>QC ⟨cs,hh⟩;have ad1:=vx Wl iK;rw[kB iK]at mM yZ;rw[kB ad1];refine⟨mM,fun j c' y9=> ?_⟩;cases j with
       |zero=>
        simp at y9;subst y9;obtain⟨u,NR,NS,Rk⟩:=yZ 0 e (by simp);exact⟨u,NR,NS,ih _ _ _ Wl Rk⟩
       |succ j=>simp at y9
    ·simp only[hk,Bool.false_eq_true,if_false,au]at ht;subst ht;exact Mt R hr ea (by simp[hk]) pW NN ajv
   |fn g a b=>cases a<;>cases b<;>simp_all [bT,V.oR]
   |_=>first|(simp[V.oR]at hi;done)|(simp[bT]at ht)
end
end Go.Abs
