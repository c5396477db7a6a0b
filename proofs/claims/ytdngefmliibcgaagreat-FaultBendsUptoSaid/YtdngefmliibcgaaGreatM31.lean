/- Part of a proof: engine C1. -/
import Derived.Test.YtdngefmliibcgaaGreatM30
import Derived.Lib.SliceRun
set_option linter.all false
set_option maxRecDepth 20000
set_option maxHeartbeats 20000000
namespace Go.Abs
open Go
structure Is (o:Oper) (d:Nat) (op:Op):Prop where
 dst:o.dst=some d
 op:o.op=op
 guard:o.guard=none
def IF(i0 i1 i2 i3:Nat)(a b c d e f g h:Oper):Code:=
 .seq (.region i0 #[a] false) (.seq (.seq (.region i1 #[b,c] false) (.cond (.tmp 4) (.seq (.region i2 #[d] false) .ret) .skip)) (.seq (.region i3 #[e,f,g,h] false) .ret))
structure wR (X:Env) (g:FuncId) (t:TypeId):Prop where
 slice:X.P.underlying t=some (.slice (X.ti t).elem)
 elem:tB X (X.ti t).elem=true
 body: ∃fn ty KL i0 i1 i2 i3 oa ob oc od oe of og oh,X.P.funcs[g]?=some fn∧fn.body=some (IF i0 i1 i2 i3 oa ob oc od oe of og oh)∧fn.ntmps=8∧fn.results= #[.tmp 2]∧(fn.name== "runtime.NumGoroutine")=false∧
  Is oa 2 (.assign (.const (.slice none 0 0)))∧Is ob 3 (.move (.tmp 0))∧Is oc 4 (.binOp .eql t (.tmp 3) (.const (.slice none 0 0)) ty)∧Is od 2 (.assign (.const (.slice none 0 0)))∧
  Is oe 5 (.buildSlice t 0 #[])∧Is of 6 (.move (.tmp 0))∧Is og 7 (.call ⟨.builtin .append,#[.tmp 5,.tmp 6],#[t,KL]⟩)∧KL=t∧Is oh 2 (.assign (.tmp 7))
theorem iS {P:Program} {ops:Array Oper} {Q:Exit→Act→World→Prop} {i d:Nat} {rest:List Nat} {a:Act} {w w':World} {o:Oper} {op:Op} {v:Value} (ho:Is o d op) (hi:ops[i]?=some o)
  (hr:(execOp a.eval o).run P w= .ok (.value v) w') (hn:wpOps P ops Q rest (a.put (some d) v) w'):wpOps P ops Q (i::rest) a w:=by
 simp only[wpOps,hi,Region.wanted,ho.guard,if_true];left;unfold Oper.wp;rw[hr];simp only[Oper.upon,ho.dst];exact hn
theorem Step.alloc{w:World}{I:Nat→Prop}{σ:dK}{h:aG}(R:Rel w I σ h)(ob:Obj)(n:Nat):Step w I σ h n (w.alloc ob) I σ h n:=
 ⟨Ext.alloc R.cT ob,R.alloc ob,rfl,rfl,rfl,by rw[nE];omega,fun b hb _=>Ej w ob b hb,fun _ hb=> .inr hb,fun _ hb=> .inl hb,Nat.le_refl _,fun _ _=>rfl,fun _ _ hn=>hn⟩
theorem L6{X:Env}(kf: ∀g t,X.clone g=some t→wR X g t)(hP:xF X):oC X:=by
 refine⟨hP,?_⟩;intro g t hg w I σ h n s u es kx kp R hn hs hr he zx Lg hl hb hm;obtain⟨hu,hT,fn,ty,KL,i0,i1,i2,i3,oa,ob,oc,od,oe,of,og,oh,hf,L7,zh,Qd,_,ha,qH,hc,hd,hee,hff,hgg,rfl,hh⟩:=kf g t hg;have T:=gN hT;have CL: ∃ad l cap,u= .slice ad l cap∧l=es.length∧(ad=none→es=[]):=by
  cases s with
  |sl c tX=>
   simp only[elems,aa,ax]at he;obtain⟨rfl,_⟩:=he;simp only[aV]at hr;obtain⟨ad,cap,rfl,_,_,_,h4⟩:=hr;refine⟨ad,_,cap,rfl,rfl,fun h=> ?_⟩;rcases h4 with h4|⟨b,o,k,Ci,_⟩
   ·exact h4
   ·rw[h]at Ci;cases Ci
  |bJ id st l=>
   simp only[elems]at he;cases cy:h id with
   |none=>simp[cy]at he
   |some ja=>
    simp only[cy]at he;split at he
    case isFalse=>cases he
    rename_i nH;simp only[aa,ax]at he;obtain⟨rfl,_⟩:=he;have hlen:((ja.es.drop st).take l).length=l:=by simp;omega
    obtain⟨ad,cap,rfl,B⟩:=Ct R hr cy;refine⟨ad,l,cap,rfl,hlen.symm,fun h=> ?_⟩;rcases B.place with hp|⟨b,o,c,el,_,Ci,_⟩
    ·apply List.eq_nil_of_length_eq_zero;rw[hlen];have:=B.le;omega
    ·rw[h]at Ci;cases Ci
  |str x=>cases zx
  |_=>simp[elems]at he
 obtain⟨ad,l,cap,rfl,rfl,wC⟩:=CL;have hxi:=Bb (h:=h) (v:=s) he R hl;have huk:(∃e',X.P.underlying KL=some (.slice e'))∨X.P.underlying KL=some .string:= .inl ⟨_,hu⟩;refine calls_of_wp hf L7 ?_;rw[zh];have h0:(#[Value.slice ad es.length cap]++Array.replicate (8- #[Value.slice ad es.length cap].size) undef)= #[.slice ad es.length cap,undef,undef,undef,undef,undef,undef,undef]:=rfl;rw[h0];refine wp_seq (wp_region ?_);refine iS (i:=0) ha rfl (v:= .slice none 0 0) (w':=w) (by simp[execOp,ha.op,Act.eval]) ?_;refine wp_seq (wp_seq (wp_region ?_));refine iS (i:=0) qH rfl (v:= .slice ad es.length cap) (w':=w) (by simp[execOp,qH.op,Act.eval,Act.put,ha.dst]) ?_;refine iS (i:=1) hc rfl (v:= .bool ad.isNone) (w':=w) ?_ ?_
 ·have h1:=Go.Lib.run_eql_slice_nil (P:=X.P) w KL _ ad es.length cap 0 0 hu;simp[execOp,hc.op,Act.eval,Act.put,eqGuard,h1]
 show Code.wp _ _ _ _ _;cases ad with
 |none=>
  have zg:=wC rfl;subst zg;refine wp_cond_true (by simp[Act.eval,Act.put]) ?_;refine wp_seq (wp_region ?_);refine iS (i:=0) hd rfl (v:= .slice none 0 0) (w':=w) (by simp[execOp,hd.op,Act.eval]) ?_;refine wp_ret ?_;refine⟨rfl,.slice none 0 0,?_,.slice none 0 0,σ,rfl,Step.nil R hn hs,?_⟩
  ·simp[results,Qd,Act.put]
  ·simp only[aV];exact⟨none,0,rfl,by simp,by simp[maxLen],.inl rfl⟩
 |some ad=>
  refine wp_cond_false (by simp[Act.eval,Act.put]) ?_;refine wp_skip ?_;refine wp_seq (wp_region ?_);obtain⟨us,T1,_,_,_⟩:=nK (X:=X) (t:=KL) (n:=0) hu T (by simp) (ps:=[]) (es:=[]) (wz:= #[]) (w:=w) (J:=I) (τ:=σ) (by simp[cI]) (by simp) (by simp[kP]);refine iS (i:=0) hee rfl (v:= .slice (some ⟨w.heap.size,0,none⟩) 0 0) (w':=w.alloc (.cells us (X.ti KL).elem)) (by simp[execOp,hee.op,T1]) ?_;refine iS (i:=1) hff rfl (v:= .slice (some ad) es.length cap) (w':=w.alloc (.cells us (X.ti KL).elem)) (by simp[execOp,hff.op,Act.eval,Act.put]) ?_;have s1:=Step.alloc R (.cells us (X.ti KL).elem) n;obtain⟨news,xl,PZ⟩:=GF huk s1.rel (hr.ext s1.ext) he hl hxi;have zj:aV (w.alloc (.cells us (X.ti KL).elem)) I σ (.sl true []) (.slice (some ⟨w.heap.size,0,none⟩) 0 0):=by
   simp only[aV];exact⟨some ⟨w.heap.size,0,none⟩,0,rfl,by simp,by simp[maxLen],fun _=>rfl,.inl trivial⟩
  obtain⟨v,w',σ',h1,h2,h3⟩:=qQ (ty:=og.type) (kp:=kp) s1.rel hu T zj Lg hl xl PZ hn hs hb hm;refine iS (i:=2) hgg rfl (v:=v) (w':=w') (by simp[execOp,hgg.op,Act.eval,Act.put,hee.dst,hff.dst,resolve,invoke,builtin,h1]) ?_;refine iS (i:=3) hh rfl (v:=v) (w':=w') (by simp[execOp,hh.op,Act.eval,Act.put]) ?_;refine wp_ret ?_;refine⟨rfl,v,?_,v,σ',rfl,s1.trans h2,h3⟩;simp[results,Qd,Act.put]
theorem EU{X:Env}(kf: ∀g t,X.clone g=some t→wR X g t): ∀g t,X.clone g=some t→pA X g:=by
 intro g t hg;obtain⟨_,_,fn,ty,KL,i0,i1,i2,i3,oa,ob,oc,od,oe,of,og,oh,hf,L7,_,_,YJ,_⟩:=kf g t hg;exact⟨fn,_,hf,L7,by simpa using YJ⟩
def okB(X:Env)(a n:Nat):Bool:=(List.range' a n).all fun g=>match X.P.funcs[g]? with|some fn=>(X.ki g).isSome||Yy X (fZ X) g fn|none=>true
theorem dJ{X:Env}{a n g:Nat}{fn:Func}(h:okB X a n=true)(h1:a≤g)(h2:g<a+n)(hf:X.P.funcs[g]?=some fn)(hp:X.ki g=none):Yy X (fZ X) g fn=true:=by
 have:=List.all_eq_true.1 h g (List.mem_range'_1.2 ⟨h1,h2⟩);simpa[hf,hp] using this
theorem IG{X:Env}(hA:Aj X (fZ X))(hN:oS X)(kf: ∀g t,X.clone g=some t→wR X g t)(hP:xF X)(hPG: ∀g,(X.ki g).isSome=true→pA X g):k8 X (bt X):=
 LV hA hN (L6 kf hP) (fun g hg=>by
  cases hc:X.clone g with
  |some t=>exact EU kf g t hc
  |none=>rw[hc]at hg;exact hPG g (by simpa using hg)) (UE X) (L0 hN)
end Go.Abs
