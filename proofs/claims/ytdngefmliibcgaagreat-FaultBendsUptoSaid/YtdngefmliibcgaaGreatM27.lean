/- Part of a proof: engine A17. -/
import Derived.Test.YtdngefmliibcgaaGreatM26
import Derived.Laws.BytesString
import Derived.Lib.ConvBytes
set_option linter.all false
set_option maxRecDepth 20000
set_option maxHeartbeats 20000000
namespace Go.Abs
open Go
section
variable {X:Env} {o:Oper} {a:Act} {w:World} {I:Nat→Prop} {σ:dK} {S S1:St}
theorem wO{xs:List V}{k:Nat}(h:(xs.all fun v=>v.cells.length==k)=true): ∀v∈xs,v.cells.length=k:=by
 intro v hv;simpa using List.all_eq_true.1 h v hv
theorem Es {args:Array Operand} {gq:Array TypeId} (ho:o.op= .call ⟨.builtin .append,args,gq⟩) {t u:TypeId} {r:List TypeId} (WO:gq.toList=t::u::r)
  (hu:X.P.underlying t=some (.slice (X.ti t).elem)) (T:gX X.P (X.ti t).elem (X.ti (X.ti t).elem)) (ade:((∃e',X.P.underlying u=some (.slice e'))∨X.P.underlying u=some .string)∨(X.ti u).kind.isSome=true)
  (R:Rel w I σ S.h) (F:dM w I σ S.f a) (hx:jd o) (hn:S.h S.n=none) (qM:σ S.n=none) (aP:FuncId) {v0:V} {T9:aG} {Ua:Nat} (he:aR X aP o S.ev S.h S.n=some (v0,T9,Ua)) (lJ:S1=({S with h:=T9,n:=Ua}:St).set o.dst v0):Out X o a w I σ S S1:=by
 have WQ:gq.getD 0 0=t:=by
  have:=(Li WO).1;simp[Array.getD_eq_getD_getElem?,this]
 have WR:gq.getD 1 0=u:=by
  have:=(Li WO).2;simp[Array.getD_eq_getD_getElem?,this]
 simp only[aR,ho,WQ,WR]at he;split at he
 case h_2=>cases he
 rename_i s x ee;cases uK:args.toList with
 |nil=>simp[uK]at ee
 |cons p q=>
 cases q with
 |nil=>simp[uK]at ee
 |cons q q2=>
 cases q2 with
 |cons _ _=>simp[uK]at ee
 |nil=>
 simp only[uK,List.map_cons,List.map_nil,List.cons.injEq,and_true]at ee;obtain⟨rfl,rfl⟩:=ee;have sI:=Sf uK;have r1:aV w I σ (S.ev p) (a.eval p):=cj (S:=S) F (hx p (by simp[ho,Op.operands,Call.operands,sI]));have r2:aV w I σ (S.ev q) (a.eval q):=cj (S:=S) F (hx q (by simp[ho,Op.operands,Call.operands,sI]));have eJ: ∀{v:Value} {w':World},(Builtin.append_ #[t,u] o.type #[a.eval p,a.eval q]).run X.P w= .ok v w'→(execOp a.eval o).run X.P w= .ok (.value v) w':=by
  intro v w' hh;simp[execOp,ho,sI,resolve,invoke,builtin,Er WO,hh]
 cases D5:elems S.h (S.ev p) with
 |none=>simp[D5]at he
 |some y1=>
 obtain⟨es,kb⟩:=y1;cases Lk:elems S.h (S.ev q) with
 |none=>simp[D5,Lk]at he
 |some y2=>
 obtain⟨xs,kx⟩:=y2;simp only[D5,Lk]at he;split at he
 ·cases he
 rename_i GH;simp only[Bool.or_eq_true,Bool.and_eq_true,Bool.not_eq_true',not_or,not_and,Bool.not_eq_false]at GH;obtain⟨⟨GH,hlen⟩,adf⟩:=GH;have huk:=ade.resolve_right (by simpa using adf);have KF:=wO hlen;split at he
 case isFalse=>cases he
 rename_i nD;have Pq:kb=true→X.dX aP (X.ti t).elem=true:=fun h=>GH (.inl h);have Lg:kx=true→X.dX aP (X.ti t).elem=true:=fun h=>GH (.inr h);obtain⟨news,xl,PZ⟩:=GF huk R r2 Lk KF (Bb Lk R KF);split at he
 ·
  rename_i hp;simp only[aa,ax]at he;obtain⟨rfl,rfl,rfl⟩:=he;subst lJ;rw[hp]at r1;have h0:es=[]:=by rw[hp]at D5;simp only[elems,aa,ax]at D5;exact D5.1.symm
  subst h0;obtain⟨v,w',σ',h1,h2,h3⟩:=qQ (ty:=o.type) R hu T r1 Lg KF xl PZ hn qM (by simpa using nD.1) (by simpa using nD.2);refine⟨_,w',I,σ',v,_,eJ h1,.inl rfl,?_,lQ _ _ _ _ rfl,h3⟩;rw[ck,cZ];exact h2
 ·rename_i tX eZ hp;split at he
  ·cases he
  rename_i A9;simp only[Bool.or_eq_true,Bool.not_eq_true',not_or,Bool.not_eq_true,Bool.not_eq_false]at A9;simp only[aa,ax]at he;obtain⟨rfl,rfl,rfl⟩:=he;subst lJ;rw[hp]at r1;have h0:es=tX∧kb=false:=by rw[hp]at D5;simp only[elems,aa,ax]at D5;exact⟨D5.1.symm,D5.2.symm⟩
  obtain⟨rfl,_⟩:=h0;rw[A9.1]at PZ;obtain⟨v,w',I',h1,h2,h3⟩:=Eo (ty:=o.type) R hu T r1 (wO A9.2) KF xl PZ S.n nD.1 nD.2;refine⟨_,w',I',σ,v,_,eJ h1,.inl rfl,?_,rfl,h3⟩;rw[ck,cZ];exact h2
 ·rename_i id s l hp;split at he
  case h_2=>cases he
  rename_i ob cy;split at he
  case isFalse=>cases he
  rename_i hk;simp only[aa,ax]at he;obtain⟨rfl,rfl,rfl⟩:=he;subst lJ;rw[hp]at r1;rw[hp]at D5;simp only[elems,cy]at D5;split at D5
  case isFalse=>cases D5
  rename_i nH;simp only[aa,ax]at D5;obtain⟨rfl,rfl⟩:=D5;have GG:((ob.es.drop s).take l).length=l:=by simp;omega
  rw[GG]at nD⊢;obtain⟨v,w',σ',h1,h2,h3⟩:=Ep (ty:=o.type) R hu T r1 cy hk nH Lg Pq KF xl PZ hn qM nD.1 nD.2;refine⟨_,w',I,σ',v,_,eJ h1,.inl rfl,?_,lQ _ _ _ _ rfl,h3⟩;rw[ck,cZ];exact h2
 ·cases he
theorem Aa {P:Program} {h:aG} (R:Rel w I σ h) {x:V} {u:Value} {xs:List V} {kx:Bool} (hr:aV w I σ x u) (he:elems h x=some (xs,kx)) (zx:x.isStr=false)
  {k:Nat} (hl: ∀e∈xs,e.cells.length=k) (m:Nat) (hm:m≤xs.length):
  (∀w',(Builtin.lenOf u).run P w'= .ok xs.length w')∧ ∃news:List Value,news.length=m*k∧(Builtin.firstCells k m u).run P w= .ok news.toArray w∧bS w I (gE kx σ) (flat (xs.take m)) news:=by
 have mk: ∀{ad:Addr} {n cap:Nat} {b o:Nat} {τ:dK},ad=⟨b,o,none⟩→bw w I τ xs k b o→ ∃news:List Value,news.length=m*k∧(Builtin.firstCells k m (.slice (some ad) n cap)).run P w= .ok news.toArray w∧bS w I τ (flat (xs.take m)) news:=by
  intro ad n cap b o τ XS di;subst XS;have hs:=di.Gx 0 m;simp only[List.drop_zero,Nat.zero_mul,Nat.add_zero]at hs;obtain⟨us,h1,h2,h3⟩:=kZ hs;have:(xs.take m).length=m:=by simp;omega
  rw[this]at h1;exact⟨us,h1,run_firstCells_some w k m _ _ cap us h1 (fun j v hv=>by rw[kG];exact h2 j v hv),h3⟩
 have T6: ∀{ad:Option Addr} {n cap:Nat},xs=[]→ ∃news:List Value,news.length=m*k∧(Builtin.firstCells k m (.slice ad n cap)).run P w= .ok news.toArray w∧bS w I (gE kx σ) (flat (xs.take m)) news:=by
  intro ad n cap h0;subst h0;have:m=0:=by simpa using hm
  subst this;refine⟨[],by simp,?_,by simp[flat,bS]⟩;cases ad<;>simp[Builtin.firstCells,loadCells,loadCellsFrom]
 cases x with
 |sl c es=>
  simp only[elems,aa,ax]at he;obtain⟨rfl,rfl⟩:=he;simp only[aV]at hr;obtain⟨ad,cap,rfl,_,_,_,h4⟩:=hr;refine⟨fun w'=>by simp[Builtin.lenOf],?_⟩;rcases h4 with h4|⟨b,o,k',rfl,hI,di⟩
  ·exact T6 h4
  ·by_cases h0:es=[]
   ·exact T6 h0
   ·have tT:k'=k:=by
     obtain⟨e,he⟩:=List.exists_mem_of_ne_nil es h0;rw[←di.lens e he];exact hl e he
    subst tT;exact mk rfl di
 |bJ id s l=>
  have hso:=Bb (h:=h) (v:= .bJ id s l) he R hl id s l rfl;obtain⟨ob,cy,hko⟩:=hso;simp only[elems,cy]at he;split at he
  case isFalse=>cases he
  rename_i nH;simp only[aa,ax]at he;obtain⟨rfl,rfl⟩:=he;obtain⟨ad,cap,rfl,B⟩:=Ct R hr cy;have T8:((ob.es.drop s).take l).length=l:=by simp;omega
  refine⟨fun w'=>by rw[T8];simp[Builtin.lenOf],?_⟩;by_cases h0:(ob.es.drop s).take l=[]
  ·exact T6 h0
  ·rcases B.place with hp|⟨b,o,c,el,hs,rfl,hb,hle,T7,di⟩
   ·exfalso;have:=B.le;rw[hp]at this;apply h0;have:l=0:=by omega
    subst this;simp
   ·have mI:=hko h0;have:=di.Gx s l;rw[mI]at this;exact mk (by rw[mI]) this
 |str s=>cases zx
 |_=>simp[elems]at he
theorem Ll {args:Array Operand} {gq:Array TypeId} (ho:o.op= .call ⟨.builtin .copy,args,gq⟩) {t u:TypeId} {r:List TypeId} (WO:gq.toList=t::u::r)
  (hu:X.P.underlying t=some (.slice (X.ti t).elem)) (T:gX X.P (X.ti t).elem (X.ti (X.ti t).elem))
  (R:Rel w I σ S.h) (F:dM w I σ S.f a) (hx:jd o) (aP:FuncId) {v0:V} {T9:aG} {Ua:Nat} (he:aR X aP o S.ev S.h S.n=some (v0,T9,Ua)) (lJ:S1=({S with h:=T9,n:=Ua}:St).set o.dst v0):Out X o a w I σ S S1:=by
 have WQ:gq.getD 0 0=t:=by
  have:=(Li WO).1;simp[Array.getD_eq_getD_getElem?,this]
 simp only[aR,ho,WQ]at he;split at he
 case h_2=>cases he
 rename_i id s l x ee;cases uK:args.toList with
 |nil=>simp[uK]at ee
 |cons p q=>
 cases q with
 |nil=>simp[uK]at ee
 |cons q q2=>
 cases q2 with
 |cons _ _=>simp[uK]at ee
 |nil=>
 simp only[uK,List.map_cons,List.map_nil,List.cons.injEq,and_true]at ee;obtain⟨hp,rfl⟩:=ee;have sI:=Sf uK;have r1:aV w I σ (S.ev p) (a.eval p):=cj (S:=S) F (hx p (by simp[ho,Op.operands,Call.operands,sI]));have r2:aV w I σ (S.ev q) (a.eval q):=cj (S:=S) F (hx q (by simp[ho,Op.operands,Call.operands,sI]));rw[hp]at r1;cases cy:S.h id with
 |none=>simp[cy]at he
 |some ob=>
 cases Lk:elems S.h (S.ev q) with
 |none=>simp[cy,Lk]at he
 |some y2=>
 obtain⟨xs,kx⟩:=y2;simp only[cy,Lk]at he;split at he
 ·cases he
 rename_i GH;simp only[Bool.or_eq_true,Bool.and_eq_true,Bool.not_eq_true',not_or,not_and,Bool.not_eq_false,Bool.not_eq_true]at GH;obtain⟨⟨zx,Lg⟩,hlen⟩:=GH;have KF:=wO hlen;split at he
 case isFalse=>cases he
 rename_i nD;simp only[aa,ax]at he;obtain⟨rfl,rfl,rfl⟩:=he;subst lJ;obtain⟨T8,news,Pr,hfc,PZ⟩:=Aa (P:=X.P) R r2 Lk zx KF (min xs.length l) (Nat.min_le_left _ _);obtain⟨ad,cap,hpv,B⟩:=Ct R r1 cy;have eJ: ∀{v:Value} {w':World},(Builtin.copy_ #[t,u] o.type #[a.eval p,a.eval q]).run X.P w= .ok v w'→(execOp a.eval o).run X.P w= .ok (.value v) w':=by
  intro v w' hh;simp[execOp,ho,sI,resolve,invoke,builtin,Lj WO,hh]
 have sK:Nat.min xs.length l=min xs.length l:=rfl;have nq:=run_sizeOf T w;by_cases h0:min xs.length l=0
 ·refine⟨.value (.int .i64 ((min xs.length l:Nat):Int)),w,I,σ,_,.int .i64 ((min xs.length l:Nat):Int),?_,.inl rfl,?_,lQ _ _ _ _ rfl,by simp[aV]⟩
  ·have qz:news=[]:=by
    rw[h0]at Pr;simpa using Pr
   subst qz;rw[h0]at hfc⊢;apply eJ;cases ad with
   |none=>simp[Builtin.copy_,run_underlying hu,hpv,T8,sK,h0,nq,←nD.2,hfc,goInt]
   |some ad=>simp[Builtin.copy_,run_underlying hu,hpv,T8,sK,h0,nq,←nD.2,hfc,goInt,storeCells]
  ·rw[ck,cZ];have:aS S.h id (some {ob with es:=ob.es.take s++xs.take (min xs.length l)++ob.es.drop (s+min xs.length l)})=S.h:=by
    funext i;simp only[aS,h0,List.take_zero,List.append_nil,Nat.add_zero,List.take_append_drop];split
    ·rename_i e;subst e;exact cy.symm
    ·rfl
   rw[this];exact Step.refl R _
 ·have hle:=B.le;rcases B.place with XW|⟨b,of,c,el,eN,rfl,xD,PY,T7,di⟩
  ·omega
  ·generalize hm:min xs.length l=m at*;have tY:m≤l:=by omega
   have hmx:m≤xs.length:=by omega
   have hI: ¬I b:=(R.owned ⟨id,ob,of,ob.k,cy,eN⟩).1;have hmul:(s+l)*ob.k≤ob.es.length*ob.k:=Nat.mul_le_mul_right _ nD.1;have Sc:m*ob.k≤l*ob.k:=Nat.mul_le_mul_right _ tY;rw[Nat.add_mul]at hmul;have pq:of+s*ob.k+news.length≤c.size:=by rw[Pr];omega
   have E:Ext w I σ (w.setRow b (kX c (of+s*ob.k) news)) I σ:=Ext.setRow hI xD (ju pq);have p7:fq _ b (kX c (of+s*ob.k) news) el:=xD.set (ju pq);have gr:=pY (P:=X.P) (b:=b) (p:=of+s*ob.k) news 0 c w xD (by simpa using pq) fun v hv=>PZ.TV v (by simpa using hv);simp only[Nat.add_zero]at gr;obtain⟨us,Kx,Sd,hur⟩:=kZ di;have qy:bw (w.setRow b (kX c (of+s*ob.k) news)) I (gE ob.bZ σ) (ob.es.take s++xs.take m++ob.es.drop (s+m)) ob.k b of:=by
    have hA:=di.Gx 0 s;simp only[List.drop_zero,Nat.zero_mul,Nat.add_zero]at hA;obtain⟨ua,adi,adj,adk⟩:=kZ hA;have hC:=di.Gx (s+m) (ob.es.length-(s+m));rw[aQ (by simp)]at hC;obtain⟨uc,adl,adm,adn⟩:=kZ hC;have nr:(ob.es.take s).length=s:=by simp;omega
    have XX:(ob.es.drop (s+m)).length=ob.es.length-(s+m):=by simp
    rw[nr]at adi;rw[XX]at adl;have Lm:(s+m)*ob.k=s*ob.k+m*ob.k:=Nat.add_mul ..;refine nJ (E.kW ob.bZ) (us:=ua++news++uc) (fun v hv=> ?_) ?_ (fun j v hv=> ?_)
    ·rcases List.mem_append.1 hv with hv|hv
     ·rcases List.mem_append.1 hv with hv|hv
      ·exact di.lens v (List.mem_of_mem_take hv)
      ·exact KF v (List.mem_of_mem_take hv)
     ·exact di.lens v (List.mem_of_mem_drop hv)
    ·rw[mr,mr];exact(adk.append (bS.ext' _ _ (rS Lg) PZ)).append adn
    ·rw[p7.cell,po pq];have vE:=(List.getElem?_eq_some_iff.1 hv).1;rw[List.length_append,List.length_append]at vE;by_cases hj:j<ua.length
     ·rw[List.append_assoc,List.getElem?_append_left hj]at hv;rw[if_neg (by omega)];have:=adj j v hv;rwa[xD.cell]at this
     ·by_cases P0:j<(ua++news).length
      ·rw[List.getElem?_append_left P0,List.getElem?_append_right (by omega)]at hv;rw[List.length_append]at P0;rw[if_pos (by omega),show of+j-(of+s*ob.k)=j-ua.length by omega];exact hv
      ·rw[List.getElem?_append_right (by omega),List.length_append]at hv;rw[List.length_append]at P0;rw[if_neg (by omega)];have:=adm _ v hv;rw[xD.cell]at this;rwa[show of+(s+m)*ob.k+(j-(ua.length+news.length))=of+j by omega]at this
   have XY:(ob.es.take s++xs.take m++ob.es.drop (s+m)).length=ob.es.length:=by simp;omega
   have s1:=R.write (bZ:=ob.bZ) cy eN xD (ju pq) (by rw[XY];exact PY) qy S.n;refine⟨.value (.int .i64 ((m:Nat):Int)),w.setRow b (kX c (of+s*ob.k) news),I,σ,_,.int .i64 ((m:Nat):Int),?_,.inl rfl,?_,lQ _ _ _ _ rfl,by simp[aV]⟩
   rotate_left
   ·rw[ck,cZ];exact s1
   ·apply eJ;simp[Builtin.copy_,run_underlying hu,hpv,T8,sK,hm,nq,←nD.2,hfc,goInt,gr,kX]
theorem tZ: ∀{xs:List V} {s:List UInt8},bytesOf xs=some s→ ∃ns:List Int,xs=ns.map (V.int .u8)∧s=ns.map fun n=>UInt8.ofNat n.toNat
 | [],s,h=>by
  simp only[bytesOf,List.map_nil,aY,aa]at h;subst h;exact⟨[],rfl,rfl⟩
 |x::xs,s,h=>by
  unfold bytesOf at h;simp only[List.map_cons]at h;cases hx:byteOf x with
  |none=>simp[hx,aY]at h
  |some b=>
   simp only[hx,aY]at h;split at h
   case h_2=>cases h
   rename_i l hl;simp only[aa]at h;subst h;obtain⟨ns,rfl,rfl⟩:=tZ (xs:=xs) hl;unfold byteOf at hx;split at hx
   ·rename_i n;simp only[aa]at hx;subst hx;exact⟨n::ns,rfl,rfl⟩
   ·cases hx
theorem uT: ∀ns:List Int,flat (ns.map (V.int .u8))=ns.map (V.int .u8)
 | []=>rfl
 |n::ns=>by
  have:=uT ns;simp only[flat,List.map_cons,List.flatMap_cons,V.cells]at this⊢;rw[this];rfl
theorem foldl_push(ns:List Int): ∀s:ByteArray,(ns.foldl (fun r n=>r.push (UInt8.ofNat n.toNat)) s).data.toList=s.data.toList++ns.map fun n=>UInt8.ofNat n.toNat:=by
 induction ns with
 |nil=>intro s;simp
 |cons n ns ih=>intro s;rw[List.foldl_cons,ih];simp[ByteArray.push]
theorem Im {P:Program} {h:aG} (R:Rel w I σ h) {x:V} {u:Value} {xs:List V} {kx:Bool} {s:List UInt8} (hr:aV w I σ x u) (he:elems h x=some (xs,kx)) (zx:x.isStr=false) (hb:bytesOf xs=some s)
  {src dst e:TypeId} (hs:P.underlying src=some (.slice e)) (P1:P.underlying e=some (.int .u8)) (hd:P.underlying dst=some .string): ∃y:ByteArray,(convert src dst u).run P w= .ok (.string y) w∧y.data.toList=s:=by
 obtain⟨ns,rfl,rfl⟩:=tZ hb;have hl: ∀e∈ns.map (V.int .u8),e.cells.length=1:=by
  intro e he;obtain⟨n,_,rfl⟩:=List.mem_map.1 he;rfl
 obtain⟨h1,news,h2,h3,h4⟩:=Aa (P:=P) R hr he zx hl ns.length (by simp);rw[aQ (by simp),uT]at h4;have qz:news=ns.map (Value.int .u8):=by
  rw[bH]at h4;refine List.ext_getElem? fun j=> ?_;by_cases hj:j<ns.length
  ·have Bc:j<news.length:=by omega
   have:=(h4.2 j (V.int .u8 ns[j]) news[j] (by simp[hj]) (List.getElem?_eq_getElem Bc)).2;simp only[aV]at this;rw[List.getElem?_eq_getElem Bc,this];simp[hj]
  ·rw[List.getElem?_eq_none (by omega),List.getElem?_eq_none (by simp;omega)]
 subst qz;have hu: ∃ad cap,u= .slice ad ns.length cap:=by
  cases x with
  |sl c es=>
   simp only[elems,aa,ax]at he;obtain⟨rfl,_⟩:=he;simp only[aV]at hr;obtain⟨ad,cap,rfl,_⟩:=hr;exact⟨ad,cap,by simp⟩
  |bJ id st l=>
   simp only[aV]at hr;obtain⟨ad,cap,rfl,_⟩:=hr;have:=h1 w;simp[Builtin.lenOf]at this;subst this;exact⟨ad,cap,rfl⟩
  |str s=>cases zx
  |_=>simp[elems]at he
 obtain⟨ad,cap,rfl⟩:=hu;rw[run_convert_bytes_string w src dst e ad _ cap hs P1 hd];cases ad with
 |none=>
  have:ns=[]:=by
   simp[Builtin.firstCells]at h3;exact h3
  subst this;exact⟨.empty,by simp[Conv.bytesToString],rfl⟩
 |some a=>
  refine⟨_,run_bytesToString w a _ cap ns ?_,?_⟩
  ·simpa[Builtin.firstCells] using h3
  ·rw[foldl_push];rfl
theorem Io {s d:TypeId} {x:Operand} {es:List V} {kx:Bool} {bs:List UInt8} (ho:o.op= .convert s d x) {e:TypeId} (hs:X.P.underlying s=some (.slice e)) (P1:X.P.underlying e=some (.int .u8)) (hd:X.P.underlying d=some .string)
  (R:Rel w I σ S.h) (F:dM w I σ S.f a) (hx:jd o) (he:elems S.h (S.ev x)=some (es,kx)) (zx:(S.ev x).isStr=false) (hb:bytesOf es=some bs) (lJ:S1=S.set o.dst (.str bs)):Out X o a w I σ S S1:=by
 have h1:aV w I σ (S.ev x) (a.eval x):=cj (S:=S) F (hx x (by simp[ho,Op.operands]));obtain⟨y,hy,rfl⟩:=Im R h1 he zx hb hs P1 hd;exact Out.pure (u:= .string y) R (by simp[execOp,ho,hy]) (by simp only[aV];exact⟨y,rfl,rfl⟩) lJ
theorem new_at {h:aG} (R:Rel w I σ h) {w2:World} {n k:Nat} {es:List V} {bZ:Bool} {us:List Value} {c:Array Value} {el:TypeId} (hz:w2.heap.size=w.heap.size+1) (hold: ∀b,b<w.heap.size→w2.heap[b]?=w.heap[b]?)
  (hat:fq w2 w.heap.size c el) (h1:w2.os=w.os) (h2:w2.tape=w.tape) (h3:w2.output=w.output) (hn:h n=none) (hs:σ n=none)
  (hk: ∀e∈es,e.cells.length=k) (hr:bS w I (gE bZ σ) (flat es) us) (hc: ∀(j:Nat) u,us[j]?=some u→c[j]?=some u):
  Step w I σ h n w2 I (aS σ n (some (w.heap.size,0,k))) (aS h n (some ⟨k,es,bZ⟩)) (n+1):=by
 have hlen:us.length=es.length*k:=by rw[←((bH _ _).1 hr).1,iR hk]
 have hle:es.length*k≤c.size:=by
  by_cases h0:us.length=0
  ·omega
  ·have Le:us[us.length-1]?=some (us[us.length-1]'(by omega)):=by simp
   have:=(Array.getElem?_eq_some_iff.1 (hc _ _ Le)).1;omega
 have E0:Ext w I σ w2 I σ:=
  ⟨fun b hb=>hold b (R.cT b hb),fun b c el fz h=>⟨c,fz,by rw[hold b (Array.getElem?_eq_some_iff.1 h).1];exact h,rfl⟩,fun _ h=>h,fun _ _ h=>h⟩
 have E:Ext w I σ w2 I (aS σ n (some (w.heap.size,0,k))):=E0.trans (Ext.HQ hs);have R0:Rel w2 I σ h:=R.bZ E0 (fun b hb=>by rw[hz];have:=R.cT b hb;omega) (fun b hb=>by
  obtain⟨hi,c,el,hh⟩:=R.owned hb;exact⟨hold b hh.lt,hi⟩) (fun _ _=>rfl)
 have hnI: ¬I w.heap.size:=fun hi=>by have:=R.cT _ hi;omega
 have hnO: ¬dF σ h w.heap.size:=fun ho=>by
  obtain⟨_,c',Eh,hh⟩:=R.owned ho;have:=hh.lt;omega
 have di:bw w2 I (gE bZ (aS σ n (some (w.heap.size,0,k)))) es k w.heap.size 0:=nJ (E.kW bZ) hk hr fun j u hu=>by
  rw[hat.cell];simpa using hc j u hu
 have R1:=R0.K1 (n:=n) (b:=w.heap.size) (o:=0) (k:=k) (es:=es) (bZ:=bZ) hn hs hat hnI hnO (by omega) di;refine⟨E,R1,h1,h2,h3,by omega,fun b hb _=>hold b hb,fun b hb=> ?_,fun _ hb=> .inl hb,by omega,fun id bV=>by simp[aS];omega,fun id bV xe=>by simp[aS,xe];omega⟩;obtain⟨id,ob,o,k',h1,h2⟩:=hb;by_cases e:id=n
 ·subst e;simp[aS]at h2;left;omega
 ·right;exact⟨id,ob,o,k',by simpa[aS,e] using h1,by simpa[aS,e] using h2⟩
theorem Cu {s d:TypeId} {x:Operand} {bs:List UInt8} (ho:o.op= .convert s d x) (xl:(X.P.underlying s).isSome=true) (hd:X.P.underlying d=some (.slice (X.ti d).elem)) (T:gX X.P (X.ti d).elem (X.ti (X.ti d).elem))
  (hk:(X.ti (X.ti d).elem).kind=some .u8) (R:Rel w I σ S.h) (F:dM w I σ S.f a) (hx:jd o) (hn:S.h S.n=none) (qM:σ S.n=none) (he:S.ev x= .str bs) (hl:bs.length≤2^62)
  (hs:S1=(S.new ⟨1,bs.map fun c=> .int .u8 c.toNat,false⟩).set o.dst (.bJ S.n 0 bs.length)):Out X o a w I σ S S1:=by
 subst hs;have h1:aV w I σ (S.ev x) (a.eval x):=cj (S:=S) F (hx x (by simp[ho,Op.operands]));rw[he]at h1;simp only[aV]at h1;obtain⟨y,hu,rfl⟩:=h1;obtain⟨ds,hds⟩:=Option.isSome_iff_exists.1 xl;obtain⟨e,P1,hb⟩:=T.WH;have hde:e= .int .u8:=by
  cases e<;>simp_all [sw]
 subst hde;have eJ:=Lib.run_convert_string_bytes (P:=X.P) w s d (X.ti d).elem y hds hd P1;have hy:y.data.toList.length=y.size:=by rw[Array.length_toList];rfl
 have hold: ∀b,b<w.heap.size→(Lib.bytesWorld w (X.ti d).elem y).heap[b]?=w.heap[b]?:=fun b hb=>Lib.bytesWorld_at_old w _ y b hb;have sG:=Lib.bytesWorld_at_new w (X.ti d).elem y;have hat:fq (Lib.bytesWorld w (X.ti d).elem y) w.heap.size (Lib.bytesCells w (X.ti d).elem y) (X.ti d).elem:=⟨_,sG,.inr (Nat.le_refl _)⟩;have sH:flat (y.data.toList.map fun c=>V.int .u8 c.toNat)=y.data.toList.map fun c=>V.int .u8 c.toNat:=by
  have:=uT (y.data.toList.map fun c=>(c.toNat:Int));simpa[List.map_map,Function.comp_def] using this
 have iG: ∀e∈ (y.data.toList.map fun c=>V.int .u8 c.toNat),e.cells.length=1:=by
  intro e he;obtain⟨n,_,rfl⟩:=List.mem_map.1 he;rfl
 have ik:bS w I (gE false σ) (flat (y.data.toList.map fun c=>V.int .u8 c.toNat)) (y.data.toList.map fun c=>Value.int .u8 c.toNat):=by
  rw[sH,bH];refine⟨by simp,fun j c u hc hu=> ?_⟩;simp only[List.getElem?_map,Option.map_eq_some_iff]at hc hu;obtain⟨b,hb,rfl⟩:=hc;obtain⟨b',qH,rfl⟩:=hu;rw[hb]at qH;cases qH;exact⟨rfl,by simp[aV]⟩
 have xE: ∀(j:Nat) u,(y.data.toList.map fun c=>Value.int .u8 c.toNat)[j]?=some u→(Lib.bytesCells w (X.ti d).elem y)[j]?=some u:=by
  intro j u hu;have hj:=(List.getElem?_eq_some_iff.1 hu).1;simp only[List.length_map,hy]at hj;rw[←hu];unfold Lib.bytesCells;rw[Array.getElem?_append_left (by rw[Array.size_map];exact hj)];simp
 refine⟨_,Lib.bytesWorld w (X.ti d).elem y,I,aS σ S.n (some (w.heap.size,0,1)),.slice (some ⟨w.heap.size,0,none⟩) y.size (grownCap w y.size 0 (X.ti d).elem),.bJ S.n 0 y.data.toList.length,by simp[execOp,ho,hu,eJ],.inl rfl,?_,lQ _ _ _ _ rfl,?_⟩
 ·rw[ck,cZ];exact new_at R (Lib.bytesWorld_size w _ y) hold hat rfl rfl rfl hn qM iG ik xE
 ·simp only[aV];refine⟨_,_,by rw[hy],by rw[hy];exact grownCap_ge w _ 0 _,grownCap_le_maxLen w _ 0 _ (by rw[←hy];simp only[maxLen];omega),.inr ⟨w.heap.size,0,1,_,_,_,by simp[aS],by simp,sG,?_⟩⟩;have:=grownCap_ge w y.size 0 (X.ti d).elem;have nq:y.data.size=y.size:=rfl;unfold Lib.bytesCells;rw[Array.size_append,Array.size_map,Array.size_replicate,nq];omega
end
section
variable {X:Env} {o:Oper} {a:Act} {w:World} {I:Nat→Prop} {σ:dK} {S S1:St}
theorem gN{t:TypeId}(h:tB X t=true):gX X.P t (X.ti t):=acx h
theorem zy {t:TypeId} {x:Operand} (ho:o.op= .slice t x none none none) (R:Rel w I σ S.h) (F:dM w I σ S.f a) (hx:jd o)
  {m:Nat} (hu:X.P.underlying t=some (.array m (X.ti t).elem)) (T:gX X.P (X.ti t).elem (X.ti (X.ti t).elem)) {id:Nat} {ob:Ob} {e:V} (he:S.ev x= .ptr id 0 0) (cy:S.h id=some ob) (zg:ob.es=[e])
  (ado:e.cells.all V.jW=true) (hlen:e.cells.length=m) (nq:(X.ti (X.ti t).elem).size=1) (hm:0<m) (wN:m≤1000) (hs:S1=({S with h:=aS S.h id none}:St).set o.dst (.sl true e.cells)):Out X o a w I σ S S1:=by
 have h1:aV w I σ (S.ev x) (a.eval x):=cj (S:=S) F (hx x (by simp[ho,Op.operands]));rw[he]at h1;simp only[aV]at h1;obtain⟨b,of,k,eN,hv⟩:=h1;rcases R.obj id ob cy with⟨hn,_⟩|⟨b',o',c,el,jV,hi,hh,hle,hr⟩
 ·rw[zg]at hn;cases hn
 rw[jV]at eN;simp only[aa,ax]at eN;obtain⟨rfl,rfl,rfl⟩:=eN;rw[zg,fp]at hr;obtain⟨hk,hc,_⟩:=hr;have oQ: ∀i y,aS S.h id none i=some y→S.h i=some y:=fun i y hi=>by
  unfold aS at hi;split at hi; · cases hi
  ·exact hi
 have st:=zY R oQ S.n;have XZ:PU I σ S.h (aS S.h id none) b':= .inr ⟨⟨id,ob,o',ob.k,cy,jV⟩,R.A4 cy jV⟩;subst hs;have eJ:(execOp a.eval o).run X.P w= .ok (.value (.slice (some ⟨b',o',none⟩) m m)) w:=by
  simp[execOp,ho,hv,Instr.sliceAt,run_underlying hu,Instr.sliceBounds,Instr.sureAddr,run_sizeOf T,if_neg (show¬m=0 by omega),nq,kG]
 refine⟨_,w,PU I σ S.h (aS S.h id none),σ,_,.sl true e.cells,eJ,.inl rfl,?_,lQ _ _ _ _ rfl,?_⟩
 ·rw[ck,cZ];exact st
 ·simp only[aV];refine⟨_,_,by rw[hlen],by omega,by simp only[maxLen];omega,fun _=>hlen.symm,.inr ⟨b',o',1,rfl,XZ,?_⟩⟩;rw[gM];intro i v hi;have hv0:v.jW=true:=List.all_eq_true.1 ado v (List.mem_of_getElem? hi);have kf:v.cells=[v]:=by
   cases v<;>first|rfl|(simp[V.jW]at hv0)
  refine⟨by rw[kf];rfl,?_⟩;rw[kf];intro j y hj;cases j with
  |succ j=>simp at hj
  |zero=>
   simp only[List.getElem?_cons_zero,aa]at hj;subst hj;obtain⟨u,g1,g2,g3⟩:=hc i v hi;refine⟨u,by simpa using g1,g2,?_⟩;have g4:aV w I cC v u:=nG (σ:=gE ob.bZ σ) hv0 g3;exact g4.ext st.ext.AY
theorem Ub{nt:Nat}(hB:H5 X nt o=true)(R:Rel w I σ S.h)(F:dM w I σ S.f a)(hn:S.h S.n=none)(qM:σ S.n=none)(aP:FuncId)(he:PO X aP o S=some S1):Out X o a w I σ S S1:=by
 unfold PO at he;split at he
 case h_2=>cases he
 rename_i v0 T9 Ua Pp;have lJ:S1=({S with h:=T9,n:=Ua}:St).set o.dst v0:=by simpa using he.symm
 clear he;have he:=Pp;unfold H5 at hB;rw[Bool.and_eq_true,Bool.and_eq_true]at hB;obtain⟨⟨_,hx⟩,hB⟩:=hB;have hx:jd o:=fun x hm=>List.all_eq_true.1 hx x hm;cases gF:o.op with
 |move x=>
  simp only[aR,gF,aa,ax]at he;obtain⟨rfl,rfl,rfl⟩:=he;exact Cj (.inl gF) R F hx lJ
 |assign x=>
  simp only[aR,gF,aa,ax]at he;obtain⟨rfl,rfl,rfl⟩:=he;exact Cj (.inr gF) R F hx lJ
 |pick c p q=>
  simp only[aR,gF]at he;split at he
  ·rename_i t hc;simp only[aa,ax]at he;obtain⟨rfl,rfl,rfl⟩:=he;exact K5 gF R F hx hc lJ
  ·cases he
 |alloc t=>
  simp only[aR,gF,aa,ax]at he;obtain⟨rfl,rfl,rfl⟩:=he;simp only[gF]at hB;exact H6 gF (gN hB) R hn qM lJ
 |box t x=>
  simp only[aR,gF]at he;split at he
  ·rename_i hf;simp only[aa,ax]at he;obtain⟨rfl,rfl,rfl⟩:=he;exact PT gF R F hx hn qM hf lJ
  ·cases he
 |build t ps=>
  simp only[aR,gF]at he;simp only[gF,Bool.and_eq_true,Bool.or_eq_true,beq_iff_eq]at hB;have T:=gN hB.1;have WJ:(X.ti t).arr=none∨gX X.P (X.ti t).elem (X.ti (X.ti t).elem):=hB.2.imp_right gN;split at he
  ·rename_i ha;split at he
   ·cases he
   ·rename_i hf0;split at he
    ·rename_i cs hf;simp only[aa,ax]at he;obtain⟨rfl,rfl,rfl⟩:=he;exact z8 gF T WJ R F hx (.inl ⟨ha,hf,hf0⟩) lJ
    ·cases he
  ·rename_i m ha;split at he
   ·rename_i cs hf;simp only[aa,ax]at he;obtain⟨rfl,rfl,rfl⟩:=he;exact z8 gF T WJ R F hx (.inr ⟨m,ha,hf⟩) lJ
   ·cases he
 |buildSlice t n ps=>
  simp only[aR,gF]at he;simp only[gF,Bool.and_eq_true,decide_eq_true_eq]at hB;obtain⟨⟨h1,h2⟩,h3⟩:=hB;split at he
  ·split at he
   ·rename_i es hf;simp only[aa,ax]at he;obtain⟨rfl,rfl,rfl⟩:=he;exact si gF (gy h1) (gN h2) h3 R F hx hn qM hf lJ
   ·cases he
  ·split at he
   ·split at he
    case h_2=>cases he
    rename_i l h hg;split at he
    case h_2=>cases he
    rename_i es hf;simp only[aa,ax]at he;obtain⟨rfl,rfl,rfl⟩:=he;exact nM (th:=false) gF (gy h1) (gN h2) h3 R F hx hn qM (xx hg) hf (by simpa using lJ)
   split at he
   ·rename_i l h hg;split at he
    ·rename_i es hf;split at he
     ·simp only[aa,ax]at he;obtain⟨rfl,rfl,rfl⟩:=he;exact nM (th:=true) gF (gy h1) (gN h2) h3 R F hx hn qM hg hf (by rw[if_pos rfl];exact lJ)
     ·simp only[aa,ax]at he;obtain⟨rfl,rfl,rfl⟩:=he;exact nM (th:=false) gF (gy h1) (gN h2) h3 R F hx hn qM hg hf (by simpa using lJ)
    ·cases he
   ·cases he
 |load t x=>
  simp only[aR,gF]at he;simp only[gF]at hB;split at he
  ·rename_i id i f hp;split at he
   ·rename_i ob cy;split at he
    ·rename_i e hi;split at he
     ·rename_i v hv;simp only[aa,ax]at he;obtain⟨rfl,rfl,rfl⟩:=he;exact A2 gF (gN hB) R F hx hp cy hi hv lJ
     ·cases he
    ·cases he
   ·cases he
  ·rename_i cs hp;split at he
   ·rename_i v hv;simp only[aa,ax]at he;obtain⟨rfl,rfl,rfl⟩:=he;exact A3 gF (gN hB) R F hx hp hv lJ
   ·cases he
  ·cases he
 |store t x y=>
  simp only[aR,gF]at he;simp only[gF,Bool.and_eq_true,beq_iff_eq]at hB;split at he
  ·rename_i id i f hp;split at he
   ·rename_i zf h0;split at he
    ·rename_i v h hg;split at he
     ·rename_i ob cy;split at he
      ·rename_i e hi;split at he
       ·rename_i hf;simp only[aa,ax]at he;obtain⟨rfl,rfl,rfl⟩:=he;exact H8 gF (gN hB.1) R F hx hp h0 hg cy hi hf hB.2 (by rw[lJ,hB.2];rfl)
       ·cases he
      ·cases he
     ·cases he
    ·cases he
   ·cases he
  ·cases he
 |nilCheck x=>
  simp only[aR,gF]at he;split at he
  ·rename_i id i f hp;simp only[aa,ax]at he;obtain⟨rfl,rfl,rfl⟩:=he;exact pZ gF R F hx (.inl ⟨id,i,f,hp⟩) (by rw[hp];exact lJ)
  ·rename_i cs hp;simp only[aa,ax]at he;obtain⟨rfl,rfl,rfl⟩:=he;exact pZ gF R F hx (.inr (.inl ⟨cs,hp⟩)) (by rw[hp];exact lJ)
  ·rename_i g p q hp;simp only[aa,ax]at he;obtain⟨rfl,rfl,rfl⟩:=he;exact pZ gF R F hx (.inr (.inr ⟨g,p,q,hp⟩)) (by rw[hp];exact lJ)
  ·cases he
 |binOp op t x y ty=>
  simp only[aR,gF]at he;simp only[gF]at hB;split at he
  ·rename_i v hv;simp only[aa,ax]at he;obtain⟨rfl,rfl,rfl⟩:=he;refine Ib gF (fun h=> ?_) R F hx hv lJ;rcases h with rfl|rfl;all_goals
    simp only[Bool.and_eq_true]at hB;refine⟨hB.1,fun h4=> ?_⟩;have:=hB.2;simp only[h4]at this;cases y with
    |const z=>exact⟨z,rfl⟩
    |_=>simp at this
  ·cases he
 |unOp op t x=>
  simp only[aR,gF]at he;split at he
  ·rename_i v hv;simp only[aa,ax]at he;obtain⟨rfl,rfl,rfl⟩:=he;exact K8 gF R F hx hv lJ
  ·cases he
 |convert s d x=>
  simp only[aR,gF]at he;simp only[gF,Bool.and_eq_true]at hB;split at he
  ·rename_i k k' n hk hv;simp only[aa,ax]at he;obtain⟨rfl,rfl,rfl⟩:=he;exact Cl gF (gN hB.1.1.1) hB.1.1.2 R F hx hk hv lJ
  ·rename_i v hk hv;split at he
   case isFalse=>
    obtain⟨La,A6,s1,Ln,hl,rfl,rfl,rfl⟩:=nz he;have hB3:=hB.2;have hk0:(X.ti d).kind=none:=by assumption
    simp only[La,A6,hk0,beq_self_eq_true,Bool.not_true,Bool.or_false,Bool.false_or,Option.isSome_none,Bool.and_eq_true]at hB3;exact Cu gF hB.1.1.2 (gy hB3.1) (gN hB3.2) A6 R F hx hn qM Ln hl lJ
   rename_i gr;split at he
   case h_2=>cases he
   rename_i es kx uI;split at he
   case h_2=>cases he
   rename_i bs T1;simp only[aa,ax]at he;obtain⟨rfl,rfl,rfl⟩:=he;have B1:=hB.1.2;simp only[gr.1,Bool.not_true,Bool.false_or,Bool.and_eq_true]at B1;have hd:X.P.underlying d=some .string:=by
    have:=B1.1;split at this
    ·assumption
    ·cases this
   obtain⟨e,hse,P1⟩: ∃e,X.P.underlying s=some (.slice e)∧X.P.underlying e=some (.int .u8):=by
    have:=B1.2;split at this
    ·rename_i e h1;split at this
     ·rename_i h2;exact⟨e,h1,h2⟩
     ·cases this
    ·cases this
   exact Io gF hse P1 hd R F hx uI gr.2 T1 lJ
  ·cases he
 |makeFunc c p q=>
  cases c with
  |func g=>
   simp only[aR,gF,aa,ax]at he;obtain⟨rfl,rfl,rfl⟩:=he;exact A5 gF R F hx lJ
  |_=>simp[aR,gF]at he
 |makeSlice t l c=>
  simp only[aR,gF]at he;simp only[gF,Bool.and_eq_true]at hB;split at he
  ·rename_i n m hl hc;split at he
   ·rename_i hb;simp only[aa,ax]at he;obtain⟨rfl,rfl,rfl⟩:=he;exact zv gF (gy hB.1) (gN hB.2) R F hx hn qM hl hc hb lJ
   ·cases he
  ·cases he
 |slice t x lo hi mx=>
  simp only[aR,gF]at he;simp only[gF]at hB;split at he
  case isFalse=>cases he
  rename_i px;split at he
  ·
   rename_i c es hv;have zx:(X.ti t).isStr=false:=by rw[←px.1,hv];rfl
   have hu:X.P.underlying t=some (.slice (X.ti t).elem)∧tB X (X.ti t).elem=true:=by
    split at hB
    ·rename_i e hu;simp only[Bool.and_eq_true,beq_iff_eq]at hB;obtain⟨⟨⟨_,rfl⟩,h3⟩,_⟩:=hB;exact⟨hu,h3⟩
    ·rw[zx]at hB;simp at hB
    ·have:=px.2;rw[hv]at this;simp only[V.tQ]at this;simp[←this]at hB;simp_all
    ·cases hB
   split at he
   case isFalse=>cases he
   rename_i iG;cases mx with
   |none=>
    simp only at he;split at he
    ·rename_i l h hb;simp only[aa,ax]at he;obtain⟨rfl,rfl,rfl⟩:=he;exact A8 gF R F hx hu.1 (gN hu.2) hv iG hb lJ
    ·cases he
   |some m=>
    simp only at he;split at he
    ·rename_i k1 p k2 q hm hh;split at he
     ·rename_i X0;subst X0;split at he
      ·rename_i l h hb;simp only[aa,ax]at he;obtain⟨rfl,rfl,rfl⟩:=he;exact zr gF R F hx hu.1 (gN hu.2) hv iG hm hh hb lJ
      ·cases he
     ·cases he
    ·cases he
  ·rename_i id s n hv;have zx:(X.ti t).isStr=false:=by rw[←px.1,hv];rfl
   have hu:X.P.underlying t=some (.slice (X.ti t).elem)∧tB X (X.ti t).elem=true:=by
    split at hB
    ·rename_i e hu;simp only[Bool.and_eq_true,beq_iff_eq]at hB;obtain⟨⟨⟨_,rfl⟩,h3⟩,_⟩:=hB;exact⟨hu,h3⟩
    ·rw[zx]at hB;simp at hB
    ·have:=px.2;rw[hv]at this;simp only[V.tQ]at this;simp[←this]at hB;simp_all
    ·cases hB
   split at he
   ·rename_i ob cy;split at he
    case isFalse=>cases he
    rename_i hk;split at he
    ·rename_i l h hb;simp only[aa,ax]at he;obtain⟨rfl,rfl,rfl⟩:=he;exact zt gF R F hx hu.1 (gN hu.2) hv cy hk hb lJ
    ·cases he
   ·rename_i m ob cy;split at he
    case isFalse=>cases he
    rename_i hk;split at he
    ·rename_i k1 p k2 q hm hh;split at he
     ·rename_i X0;subst X0;split at he
      ·rename_i l h hb;simp only[aa,ax]at he;obtain⟨rfl,rfl,rfl⟩:=he;exact xo gF R F hx hu.1 (gN hu.2) hv cy hk hm hh hb lJ
      ·cases he
     ·cases he
    ·cases he
   ·cases he
  ·rename_i s hv;have zx:(X.ti t).isStr=true:=by rw[←px.1,hv];rfl
   have hu:X.P.underlying t=some .string:=by
    split at hB
    ·rename_i e hu;rw[zx]at hB;simp at hB
    ·rename_i hu;exact hu
    ·rw[zx]at hB;simp at hB
    ·cases hB
   cases mx with
   |none=>
    simp only at he;split at he
    ·rename_i l h hb;simp only[aa,ax]at he;obtain⟨rfl,rfl,rfl⟩:=he;exact zu gF R F hx hu hv hb lJ
    ·cases he
   |some m=>cases he
  ·rename_i id hv;split at he
   case h_2=>cases he
   rename_i m ob ham cy;split at he
   case h_2=>cases he
   rename_i e zg;split at he
   case isFalse=>cases he
   rename_i hc;simp only[aa,ax]at he;obtain⟨rfl,rfl,rfl⟩:=he;have zx:(X.ti t).isStr=false:=by rw[←px.1,hv];rfl
   have hu:X.P.underlying t=some (.array m (X.ti t).elem)∧tB X (X.ti t).elem=true∧m≤1000:=by
    split at hB
    ·simp only[Bool.and_eq_true,beq_iff_eq]at hB;rw[ham]at hB;simp at hB
    ·rw[zx]at hB;simp at hB
    ·rename_i n e' hu;simp only[Bool.and_eq_true,beq_iff_eq,decide_eq_true_eq]at hB;obtain⟨⟨⟨⟨_,h2⟩,h3⟩,h4⟩,h5⟩:=hB;rw[ham]at h2;simp only[aa]at h2;subst h2;subst h3;exact⟨hu,h4,h5⟩
    ·cases hB
   exact zy gF R F hx hu.1 (gN hu.2.1) hv cy zg hc.1 hc.2.1 hc.2.2.1 hc.2.2.2 hu.2.2 lJ
  ·cases he
 |fieldAddr t x i=>
  simp only[aR,gF]at he;simp only[gF]at hB;split at he
  ·rename_i off k hf;split at he
   ·rename_i id j f hv;simp only[aa,ax]at he;obtain⟨rfl,rfl,rfl⟩:=he;exact sx gF (gN hB) R F hx hf (.inl ⟨id,j,f,hv,rfl⟩) lJ
   ·rename_i cs hv;simp only[aa,ax]at he;obtain⟨rfl,rfl,rfl⟩:=he;exact sx gF (gN hB) R F hx hf (.inr ⟨cs,hv,rfl⟩) lJ
   ·cases he
  ·cases he
 |indexAddr t x ix=>
  simp only[aR,gF]at he;simp only[gF,Bool.and_eq_true,Bool.or_eq_true,beq_iff_eq,bne_iff_ne]at hB;split at he
  ·rename_i k n hi;split at he
   ·rename_i c es hv;split at he
    ·rename_i h0;split at he
     ·rename_i e hg;split at he
      ·rename_i hk;simp only[aa,ax]at he;obtain⟨rfl,rfl,rfl⟩:=he;rcases hB.1 with hb|hb
       ·exact A7 gF (gy hb.2) (gN hB.2) R F hx hv hi h0.1 hg hk lJ
       ·exact absurd h0.2 hb.2
      ·cases he
     ·cases he
    ·cases he
   ·rename_i id s l hv;split at he
    ·rename_i h0;split at he
     ·rename_i ob hg;split at he
      ·rename_i hk;simp only[aa,ax]at he;obtain⟨rfl,rfl,rfl⟩:=he;rcases hB.1 with hb|hb
       ·exact zn gF (gy hb.2) (gN hB.2) R F hx hv hi h0.1 hg hk lJ
       ·exact absurd h0.2 hb.2
      ·cases he
     ·cases he
    ·cases he
   ·rename_i id j f hv;split at he
    ·rename_i m hm;split at he
     ·rename_i h0;simp only[aa,ax]at he;obtain⟨rfl,rfl,rfl⟩:=he;rcases hB.1 with hb|hb
      ·rw[hm]at hb;exact absurd hb.1 (by simp)
      ·exact zo gF (gN hb.1) (gN hB.2) R F hx hv hi hm h0 lJ
     ·cases he
    ·cases he
   ·cases he
  ·cases he
 |index t x ix=>
  simp only[aR,gF]at he;simp only[gF,Bool.and_eq_true,Bool.or_eq_true,beq_iff_eq,bne_iff_ne]at hB;obtain⟨⟨h1,h2⟩,h3⟩:=hB;split at he
  ·rename_i k n hi;split at he
   ·rename_i s hv;split at he
    ·rename_i h0;split at he
     ·rename_i b hg;simp only[aa,ax]at he;obtain⟨rfl,rfl,rfl⟩:=he;have hu:X.P.underlying t=some .string:=by
       rcases h3 with h3|h3
       ·exact absurd h0.2 h3
       ·split at h3
        ·assumption
        ·cases h3
      exact zq gF hu R F hx hv hi h0.1 hg lJ
     ·cases he
    ·cases he
   ·rename_i cs hv;split at he
    ·rename_i m hm;split at he
     ·rename_i h0;split at he
      ·rename_i v hvv;simp only[aa,ax]at he;obtain⟨rfl,rfl,rfl⟩:=he;have WJ:tB X (X.ti t).elem=true:=by
        rcases h2 with h2|h2
        ·rw[hm]at h2;cases h2
        ·exact h2
       exact zp gF (gN h1) (gN WJ) R F hx hv hi hm h0 hvv lJ
      ·cases he
     ·cases he
    ·cases he
   ·cases he
  ·cases he
 |field t x f=>
  simp only[aR,gF]at he;simp only[gF,Bool.and_eq_true]at hB;obtain⟨hT,hB⟩:=hB;split at he
  ·rename_i cs hv;split at he
   ·rename_i k z hk;split at he
    ·rename_i v hp;simp only[aa,ax]at he;obtain⟨rfl,rfl,rfl⟩:=he;split at hB
     ·rename_i fs hu;split at hB
      ·rename_i fd k' z' hf mI;rw[hk]at mI;simp only[aa,ax]at mI;simp only[Bool.and_eq_true,beq_iff_eq]at hB;obtain⟨e1,e2⟩:=hB;exact Ie gF hu hf (by rw[e1];exact gN hT) R F hx hv (by rw[e1,e2,←mI.1];exact hp) lJ
      ·cases hB
     ·cases hB
    ·cases he
   ·cases he
  ·cases he
 |extract x i=>
  simp only[aR,gF]at he;split at he
  ·rename_i vs hv;split at he
   ·rename_i v hi;simp only[aa,ax]at he;obtain⟨rfl,rfl,rfl⟩:=he;exact Cm gF R F hx hv hi lJ
   ·cases he
  ·cases he
 |call c=>
  obtain⟨Ip,args,gq⟩:=c;cases Ip with
  |builtin b=>
   cases b with
   |len=>
    simp only[aR,gF]at he;simp only[gF,Bool.and_eq_true]at hB;split at he
    ·rename_i x ee;cases uK:args.toList with
     |nil=>simp[uK]at ee
     |cons p q=>
     cases q with
     |cons _ _=>simp[uK]at ee
     |nil=>
     simp only[uK,List.map_cons,List.map_nil,List.cons.injEq,and_true]at ee;subst ee;cases nr:gq.toList with
     |nil=>simp[nr]at hB
     |cons t r=>
     have WQ:gq[0]?=some t:=by rw[←Array.getElem?_toList,nr];rfl
     have htd:gq.getD 0 0=t:=by simp[Array.getD_eq_getD_getElem?,WQ]
     rw[htd]at he;split at he
     ·rename_i gr;split at he
      ·rename_i n hl;simp only[aa,ax]at he;obtain⟨rfl,rfl,rfl⟩:=he;refine PV gF uK WQ ?_ R F hx gr hl lJ;have B1:=hB.2;simp only[nr]at B1;split at B1
       ·rename_i e hu;exact .inl ⟨⟨e,hu⟩,by simpa using B1⟩
       ·rename_i hu;exact .inr ⟨hu,B1⟩
       ·cases B1
      ·cases he
     ·cases he
    ·cases he
   |min=>
    simp only[aR,gF]at he;split at he
    ·rename_i k p k' q ee;split at he
     ·rename_i hk;subst hk;simp only[aa,ax]at he;obtain⟨rfl,rfl,rfl⟩:=he;cases uK:args.toList with
      |nil=>simp[uK]at ee
      |cons p q=>
      cases q with
      |nil=>simp[uK]at ee
      |cons q q2=>
      cases q2 with
      |cons _ _=>simp[uK]at ee
      |nil=>
      simp only[uK,List.map_cons,List.map_nil,List.cons.injEq,and_true]at ee;exact GD false gF uK R F hx ee.1 ee.2 (by simpa using lJ)
     ·cases he
    ·cases he
   |max=>
    simp only[aR,gF]at he;split at he
    ·rename_i k p k' q ee;split at he
     ·rename_i hk;subst hk;simp only[aa,ax]at he;obtain⟨rfl,rfl,rfl⟩:=he;cases uK:args.toList with
      |nil=>simp[uK]at ee
      |cons p q=>
      cases q with
      |nil=>simp[uK]at ee
      |cons q q2=>
      cases q2 with
      |cons _ _=>simp[uK]at ee
      |nil=>
      simp only[uK,List.map_cons,List.map_nil,List.cons.injEq,and_true]at ee;exact GD true gF uK R F hx ee.1 ee.2 (by simpa using lJ)
     ·cases he
    ·cases he
   |append=>
    simp only[gF,Bool.and_eq_true]at hB;cases nr:gq.toList with
    |nil=>simp[nr]at hB
    |cons t r=>
    cases r with
    |nil=>simp[nr]at hB
    |cons u r=>
    have B1:=hB.2;simp only[nr,Bool.and_eq_true]at B1;refine Es gF nr (gy B1.1.1) (gN B1.1.2) ?_ R F hx hn qM aP Pp lJ;have h3:=B1.2;split at h3
    ·rename_i e hu;exact .inl (.inl ⟨e,hu⟩)
    ·rename_i hu;exact .inl (.inr hu)
    ·exact .inr h3
   |copy=>
    simp only[gF,Bool.and_eq_true]at hB;cases nr:gq.toList with
    |nil=>simp[nr]at hB
    |cons t r=>
    cases r with
    |nil=>simp[nr]at hB
    |cons u r=>
    have B1:=hB.2;simp only[nr,Bool.and_eq_true]at B1;exact Ll gF nr (gy B1.1.1) (gN B1.1.2) R F hx aP Pp lJ
   |_=>simp[aR,gF]at he
  |_=>simp[aR,gF]at he
 |_=>simp[aR,gF]at he
end
theorem gA{α β:Type}(f:α→Option β): ∀{l:List α} {r:List β},aY (l.map f)=some r→l.length=r.length∧ ∀(j:Nat) x y,l[j]?=some x→r[j]?=some y→f x=some y
 | [],r,h=>by
  simp only[List.map_nil,aY,aa]at h;subst h;simp
 |x::l,r,h=>by
  simp only[List.map_cons]at h;cases hx:f x with
  |none=>simp[aY,hx]at h
  |some y=>
   simp only[aY,hx]at h;split at h
   ·rename_i l' hl;simp only[aa]at h;subst h;obtain⟨h1,h2⟩:=gA f hl;refine⟨by simp[h1],fun j a b ha hb=> ?_⟩;cases j with
    |zero=>simp at ha hb;subst ha;subst hb;exact hx
    |succ j=>exact h2 j a b (by simpa using ha) (by simpa using hb)
   ·cases h
section
variable {w:World} {I J:Nat→Prop} {σ:dK} {h:aG}
theorem lW{d:Nat}{cs:List V}{v':V}(ht:aX h (d+1) (.agg cs)=some v'): ∃l,v'= .agg l∧aY (cs.map (aX h d))=some l:=by
 simp only[aX]at ht;split at ht
 ·rename_i l hl;simp only[aa]at ht;exact⟨l,ht.symm,hl⟩
 ·cases ht
theorem rT{d:Nat}{cs:List V}{v':V}(ht:aX h (d+1) (.cg cs)=some v'): ∃l,v'= .cg l∧aY (cs.map (aX h d))=some l:=by
 simp only[aX]at ht;split at ht
 ·rename_i l hl;simp only[aa]at ht;exact⟨l,ht.symm,hl⟩
 ·cases ht
theorem rU{d:Nat}{v v':V}(ht:aX h d v=some v')(hv: ∀cs,v≠ .agg cs): ∀cs,v'≠ .agg cs:=by
 intro cs e;subst e;cases v with
 |agg lH=>exact hv lH rfl
 |cg lH=>
  cases d with
  |zero=>simp[aX]at ht
  |succ d=>obtain⟨l,h1,_⟩:=rT ht;cases h1
 |bJ id s l=>
  cases d with
  |zero=>simp[aX]at ht
  |succ d=>
   simp only[aX]at ht;split at ht
   ·split at ht
    ·split at ht
     ·split at ht
      ·cases ht
      ·cases ht
     ·cases ht
    ·cases ht
   ·cases ht
 |fn g a b=>cases a<;>cases b<;>cases d<;>simp[aX]at ht
 |_=>cases d<;>simp[aX]at ht
theorem hX{v:V}(hv: ∀cs,v≠ .agg cs):v.cells=[v]:=by
 cases v with
 |agg cs=>exact absurd rfl (hv cs)
 |_=>rfl
theorem Cv: ∀{d:Nat} {v v':V},aX h d v=some v'→aX h (d+1) v=some v'
 |0,v,v',ht=>by
  cases v with
  |fn g a b=>cases a<;>cases b<;>simp_all [aX]
  |_=>first|(simp[aX]at ht;done)|(simpa[aX] using ht)
 |d+1,v,v',ht=>by
  have key: ∀{cs l:List V},aY (cs.map (aX h d))=some l→aY (cs.map (aX h (d+1)))=some l:=by
   intro cs;induction cs with
   |nil=>intro l hl;exact hl
   |cons c cs ih=>
    intro l hl;simp only[List.map_cons]at hl⊢;cases hc:aX h d c with
    |none=>simp[hc,aY]at hl
    |some c'=>
     simp only[hc,aY]at hl;split at hl
     ·rename_i l' tK;simp only[aY,Cv hc,ih tK];exact hl
     ·cases hl
  cases v with
  |agg cs=>
   obtain⟨l,rfl,hl⟩:=lW ht;rw[aX];simp only[key hl]
  |cg cs=>
   obtain⟨l,rfl,hl⟩:=rT ht;rw[aX];simp only[key hl]
  |bJ id s l=>
   rw[aX]at ht⊢;split at ht
   ·split at ht
    ·rename_i hle;simp only[hle,if_true];split at ht
     ·rename_i hk;simp only[hk,if_true];split at ht
      ·rename_i l' tK;simp only[key tK];exact ht
      ·cases ht
     ·rename_i hk;simp only[hk,if_false];exact ht
    ·cases ht
   ·cases ht
  |fn g a b=>cases a<;>cases b<;>simp_all [aX]
  |_=>first|(simp[aX]at ht;done)|(simpa[aX] using ht)
theorem oB(R:Rel w I σ h)(H7: ∀b,I b→J b)(hJ: ∀b,dF σ h b→J b): ∀(d:Nat) (v v':V) (u:Value),aX h d v=some v'→aV w I σ v u→aV w J cC v' u:=by
 have EJ:Ext w I cC w J cC:=⟨fun _ _=>rfl,fun _ c _ fz hh=>⟨c,fz,hh,rfl⟩,H7,fun _ _ hh=>hh⟩;intro d;induction d with
 |zero=>
  intro v v' u ht hr;have hv:v.jW=true∧v'=v:=by
   cases v with
   |fn g a b=>cases a<;>cases b<;>simp[aX]at ht⊢ <;>simp_all [V.jW]
   |_=>simp[aX]at ht⊢ <;>simp_all [V.jW]
  rw[hv.2];exact(nG hv.1 hr).ext EJ
 |succ d ih=>
  intro v v' u ht hr;by_cases hi:v.jW=true
  ·have hv:v'=v:=by
    cases v with
    |fn g a b=>cases a<;>cases b<;>simp[aX]at ht⊢ <;>simp_all [V.jW]
    |_=>first|(simp[aX]at ht⊢;simp_all [V.jW];done)|(simp[V.jW]at hi)
   rw[hv];exact(nG hi hr).ext EJ
  ·cases v with
   |agg cs=>
    obtain⟨l,rfl,hl⟩:=lW ht;obtain⟨h1,h2⟩:=gA _ hl;simp only[aV]at hr⊢;obtain⟨us,rfl,hc⟩:=hr;rw[bH]at hc;refine⟨us,rfl,?_⟩;rw[bH];refine⟨by rw[←h1];exact hc.1,fun j c' u' wv B0=> ?_⟩;have hj:j<cs.length:=by rw[h1];exact(List.getElem?_eq_some_iff.1 wv).1
    have kY:cs[j]?=some cs[j]:=by simp
    have:=hc.2 j _ u' kY B0;exact⟨this.1,ih _ _ _ (h2 j _ _ kY wv) this.2⟩
   |cg cs=>
    obtain⟨l,rfl,hl⟩:=rT ht;obtain⟨h1,h2⟩:=gA _ hl;simp only[aV]at hr⊢;obtain⟨us,rfl,hc⟩:=hr;rw[ig]at hc;refine⟨us,rfl,?_⟩;rw[ig];refine⟨by rw[←h1];exact hc.1,fun j c' u' wv B0=> ?_⟩;have hj:j<cs.length:=by rw[h1];exact(List.getElem?_eq_some_iff.1 wv).1
    have kY:cs[j]?=some cs[j]:=by simp
    exact ih _ _ _ (h2 j _ _ kY wv) (hc.2 j _ u' kY B0)
   |bJ id s l=>
    simp only[aX]at ht;cases cy:h id with
    |none=>simp[cy]at ht
    |some ob=>
    simp only[cy]at ht;split at ht
    case isFalse=>cases ht
    rename_i nH;have X2: ∀b o k,σ id=some (b,o,k)→J b:=fun b o k hs=>hJ b ⟨id,ob,o,k,cy,hs⟩;by_cases hk:ob.bZ=true
    ·simp only[hk,if_true]at ht;split at ht
     case h_2=>cases ht
     rename_i tX hl;simp only[aa]at ht;subst ht;obtain⟨h1,h2⟩:=gA _ hl;have hlen:((ob.es.drop s).take l).length=l:=by simp;omega
     obtain⟨ad,cap,rfl,B⟩:=Ct R hr cy;simp only[aV];refine⟨ad,cap,by rw[←h1,hlen],by rw[←h1,hlen];exact B.le,B.max,fun hh=>(by cases hh),?_⟩;rcases B.place with hp|⟨b,o,c,el,hs,XS,hb,_,_,di⟩
     ·left;have:=B.le;apply List.eq_nil_of_length_eq_zero;rw[←h1,hlen];omega
     ·right;refine⟨b,o+s*ob.k,ob.k,XS,X2 b o ob.k hs,?_⟩;have uS:=di.Gx s l;rw[hk]at uS;simp only[gE,if_true]at uS;rw[gM]at uS⊢;intro i e' nh;have Kw:i<((ob.es.drop s).take l).length:=by rw[h1];exact(List.getElem?_eq_some_iff.1 nh).1
      have WS:((ob.es.drop s).take l)[i]?=some ((ob.es.drop s).take l)[i]:=List.getElem?_eq_getElem Kw;have Ps:=h2 i _ _ WS nh;obtain⟨kf,uL⟩:=uS i _ WS;generalize ((ob.es.drop s).take l)[i]=e at Ps kf uL;by_cases Ia: ∃cs,e= .agg cs
      ·obtain⟨cs,rfl⟩:=Ia;cases d with
       |zero=>simp[aX]at Ps
       |succ d=>
        obtain⟨lH,rfl,tK⟩:=lW Ps;obtain⟨g1,g2⟩:=gA _ tK;refine⟨by simpa[V.cells,←g1] using kf,fun j c' Bc=> ?_⟩;have vE:j<cs.length:=by rw[g1];exact(List.getElem?_eq_some_iff.1 Bc).1
        have X3:cs[j]?=some cs[j]:=by simp
        obtain⟨u,Ig,Ih,Lc⟩:=uL j _ X3;refine⟨u,Ig,Ih,?_⟩;have Lo:aX h (d+1) cs[j]=some c':=by
         have:=g2 j _ _ X3 Bc;exact Cv this
        exact ih _ _ _ Lo Lc
      ·have eZ: ∀cs,e≠ .agg cs:=fun cs hh=>Ia ⟨cs,hh⟩;have Uc:=rU Ps eZ;rw[hX eZ]at kf uL;rw[hX Uc];refine⟨kf,fun j c' Bc=> ?_⟩;cases j with
       |zero=>
        simp at Bc;subst Bc;obtain⟨u,Ig,Ih,Lc⟩:=uL 0 e (by simp);exact⟨u,Ig,Ih,ih _ _ _ Ps Lc⟩
       |succ j=>simp at Bc
    ·simp only[hk,Bool.false_eq_true,if_false,aa]at ht;subst ht;exact Gz R hr cy (by simp[hk]) nH H7 X2
   |fn g a b=>cases a<;>cases b<;>simp_all [aX,V.jW]
   |_=>first|(simp[V.jW]at hi;done)|(simp[aX]at ht)
end
end Go.Abs
