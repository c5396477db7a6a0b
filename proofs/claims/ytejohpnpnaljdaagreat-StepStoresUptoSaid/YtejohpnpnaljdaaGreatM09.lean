/- Part of a proof: engine C1. -/
import Derived.Test.YtejohpnpnaljdaaGreatM08
import Derived.Lib.SliceRun
set_option linter.all false
set_option maxRecDepth 20000
set_option maxHeartbeats 20000000
namespace Go.Abs
open Go
structure Is (o:Oper) (d:Nat) (op:Op):Prop where
 dst:o.dst=some d
 op:o.op=op
 guard:o.guard=none
def Of(i0 i1 i2 i3:Nat)(a b c d e f g h:Oper):Code:=
 .seq (.region i0 #[a] false) (.seq (.seq (.region i1 #[b,c] false) (.cond (.tmp 4) (.seq (.region i2 #[d] false) .ret) .skip)) (.seq (.region i3 #[e,f,g,h] false) .ret))
structure Bc (X:Env) (g:FuncId) (t:TypeId):Prop where
 slice:X.P.underlying t=some (.slice (X.ti t).elem)
 elem:tB X (X.ti t).elem=true
 body: ∃fn ty QM i0 i1 i2 i3 oa ob oc od oe of og oh,X.P.funcs[g]?=some fn/\fn.body=some (Of i0 i1 i2 i3 oa ob oc od oe of og oh)/\fn.ntmps=8/\fn.results= #[.tmp 2]/\(fn.name== "runtime.NumGoroutine")=false/\
  Is oa 2 (.assign (.const (.slice none 0 0)))/\Is ob 3 (.move (.tmp 0))/\Is oc 4 (.binOp .eql t (.tmp 3) (.const (.slice none 0 0)) ty)/\Is od 2 (.assign (.const (.slice none 0 0)))/\
  Is oe 5 (.buildSlice t 0 #[])/\Is of 6 (.move (.tmp 0))/\Is og 7 (.call ⟨.builtin .append,#[.tmp 5,.tmp 6],#[t,QM]⟩)/\QM=t/\Is oh 2 (.assign (.tmp 7))
theorem lC {P:Program} {ops:Array Oper} {Q:Exit->Act->World->Prop} {i d:Nat} {rest:List Nat} {a:Act} {w w':World} {o:Oper} {op:Op} {v:Value} (ho:Is o d op) (hi:ops[i]?=some o)
  (hr:(execOp a.eval o).run P w= .ok (.value v) w') (hn:wpOps P ops Q rest (a.put (some d) v) w'):wpOps P ops Q (i::rest) a w:=by
 simp only[wpOps,hi,Region.wanted,ho.guard,if_true];left;unfold Oper.wp;rw[hr];simp only[Oper.upon,ho.dst];exact hn
theorem Step.alloc{w:World}{I:Nat->Prop}{σ:gH}{h:aY}(R:Rel w I σ h)(ob:Obj)(n:Nat):Step w I σ h n (w.alloc ob) I σ h n:=
 ⟨Ext.alloc R.dy ob,R.alloc ob,rfl,rfl,rfl,by rw[qJ];omega,fun b hb _=>JP w ob b hb,fun _ hb=> .inr hb,fun _ hb=> .inl hb,Nat.le_refl _,fun _ _=>rfl,fun _ _ hn=>hn⟩
theorem Sh{X:Env}(mM: ∀g t,X.clone g=some t->Bc X g t):rE X:=by
 intro g t hg w I σ h n s u es kx kp R hn hs hr he NY Rm hl hb hm;obtain⟨hu,hT,fn,ty,QM,i0,i1,i2,i3,oa,ob,oc,od,oe,of,og,oh,hf,Si,BH,XB,_,ha,vp,hc,hd,hee,hff,hgg,rfl,hh⟩:=mM g t hg;have T:=lb hT;have Hl: ∃ad l cap,u= .slice ad l cap/\l=es.length/\(ad=none->es=[]):=by
  cases s with
  |sl c wM=>
   simp only[elems,au,aF]at he;obtain⟨rfl,_⟩:=he;simp only[cC]at hr;obtain⟨ad,cap,rfl,_,_,_,h4⟩:=hr;refine⟨ad,_,cap,rfl,rfl,fun h=> ?_⟩;rcases h4 with h4|⟨b,o,k,GQ,_⟩
   ·exact h4
   ·rw[h]at GQ;cases GQ
  |bU id st l=>
   simp only[elems]at he;cases ea:h id with
   |none=>simp[ea]at he
   |some lU=>
    simp only[ea]at he;split at he
    case isFalse=>cases he
    rename_i pW;simp only[au,aF]at he;obtain⟨rfl,_⟩:=he;have hlen:((lU.es.drop st).take l).length=l:=by simp;omega
    obtain⟨ad,cap,rfl,B⟩:=G2 R hr ea;refine⟨ad,l,cap,rfl,hlen.symm,fun h=> ?_⟩;rcases B.place with hp|⟨b,o,c,el,_,GQ,_⟩
    ·apply List.eq_nil_of_length_eq_zero;rw[hlen];have:=B.le;omega
    ·rw[h]at GQ;cases GQ
  |str x=>cases NY
  |_=>simp[elems]at he
 obtain⟨ad,l,cap,rfl,rfl,Dr⟩:=Hl;have hxi:=Fi (h:=h) (v:=s) he R hl;have huk:(∃e',X.P.underlying QM=some (.slice e'))\/X.P.underlying QM=some .string:= .inl ⟨_,hu⟩;refine calls_of_wp hf Si ?_;rw[BH];have h0:(#[Value.slice ad es.length cap]++Array.replicate (8- #[Value.slice ad es.length cap].size) undef)= #[.slice ad es.length cap,undef,undef,undef,undef,undef,undef,undef]:=rfl;rw[h0];refine wp_seq (wp_region ?_);refine lC (i:=0) ha rfl (v:= .slice none 0 0) (w':=w) (by simp[execOp,ha.op,Act.eval]) ?_;refine wp_seq (wp_seq (wp_region ?_));refine lC (i:=0) vp rfl (v:= .slice ad es.length cap) (w':=w) (by simp[execOp,vp.op,Act.eval,Act.put]) ?_;refine lC (i:=1) hc rfl (v:= .bool ad.isNone) (w':=w) ?_ ?_
 ·have h1:=Go.Lib.run_eql_slice_nil (P:=X.P) w QM _ ad es.length cap 0 0 hu;simp[execOp,hc.op,Act.eval,Act.put,eqGuard,h1]
 show Code.wp _ _ _ _ _;cases ad with
 |none=>
  have D4:=Dr rfl;subst D4;refine wp_cond_true (by simp[Act.eval,Act.put]) ?_;refine wp_seq (wp_region ?_);refine lC (i:=0) hd rfl (v:= .slice none 0 0) (w':=w) (by simp[execOp,hd.op,Act.eval]) ?_;refine wp_ret ?_;refine⟨rfl,.slice none 0 0,?_,.slice none 0 0,σ,rfl,Step.nil R hn hs,?_⟩
  ·simp[results,XB,Act.put]
  ·simp only[cC];exact⟨none,0,rfl,by simp,by simp[maxLen],.inl rfl⟩
 |some ad=>
  refine wp_cond_false (by simp[Act.eval,Act.put]) ?_;refine wp_skip ?_;refine wp_seq (wp_region ?_);obtain⟨us,Z9,_,_,_⟩:=qL (X:=X) (t:=QM) (n:=0) hu T (by simp) (ps:=[]) (es:=[]) (AP:= #[]) (w:=w) (J:=I) (τ:=σ) (by simp[dU]) (by simp) (by simp[oU]);refine lC (i:=0) hee rfl (v:= .slice (some ⟨w.heap.size,0,none⟩) 0 0) (w':=w.alloc (.cells us (X.ti QM).elem)) (by simp[execOp,hee.op,Z9]) ?_;refine lC (i:=1) hff rfl (v:= .slice (some ad) es.length cap) (w':=w.alloc (.cells us (X.ti QM).elem)) (by simp[execOp,hff.op,Act.eval,Act.put]) ?_;have s1:=Step.alloc R (.cells us (X.ti QM).elem) n;obtain⟨news,Fa,Xj⟩:=My huk s1.rel (hr.ext s1.ext) he hl hxi;have hb0:cC (w.alloc (.cells us (X.ti QM).elem)) I σ (.sl true []) (.slice (some ⟨w.heap.size,0,none⟩) 0 0):=by
   simp only[cC];exact⟨some ⟨w.heap.size,0,none⟩,0,rfl,by simp,by simp[maxLen],fun _=>rfl,.inl trivial⟩
  obtain⟨v,w',σ',h1,h2,h3⟩:=uA (ty:=og.type) (kp:=kp) s1.rel hu T hb0 Rm hl Fa Xj hn hs hb hm;refine lC (i:=2) hgg rfl (v:=v) (w':=w') (by simp[execOp,hgg.op,Act.eval,Act.put,resolve,invoke,builtin,h1]) ?_;refine lC (i:=3) hh rfl (v:=v) (w':=w') (by simp[execOp,hh.op,Act.eval,Act.put]) ?_;refine wp_ret ?_;refine⟨rfl,v,?_,v,σ',rfl,s1.trans h2,h3⟩;simp[results,XB,Act.put]
theorem Ku{X:Env}(mM: ∀g t,X.clone g=some t->Bc X g t): ∀g t,X.clone g=some t->uE X g:=by
 intro g t hg;obtain⟨_,_,fn,ty,QM,i0,i1,i2,i3,oa,ob,oc,od,oe,of,og,oh,hf,Si,_,_,ak7,_⟩:=mM g t hg;exact⟨fn,_,hf,Si,by simpa using ak7⟩
def okB(X:Env)(a n:Nat):Bool:=(List.range' a n).all fun g=>match X.P.funcs[g]? with|some fn=>fnB X (jD X) g fn|none=>true
theorem jd{X:Env}{a n g:Nat}{fn:Func}(h:okB X a n=true)(h1:a<=g)(h2:g<a+n)(hf:X.P.funcs[g]?=some fn):fnB X (jD X) g fn=true:=by
 have:=List.all_eq_true.1 h g (List.mem_range'_1.2 ⟨h1,h2⟩);simpa[hf] using this
theorem Og{X:Env}(hA:Ec X (jD X))(hN:rW X)(mM: ∀g t,X.clone g=some t->Bc X g t):qj X (cy X):=
 R5 hA hN (Sh mM) (Ku mM) (aen X) (Sb hN)
end Go.Abs
