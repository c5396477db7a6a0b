/- make, literals, append, copy, clone, min, max. -/
import Derived.Test.YtcbddnmodlhnaaaA12
set_option linter.unusedVariables false
set_option linter.unusedSimpArgs false
namespace Go.Abs
open Go

section
variable {X : Env} {o : Oper} {a : Act} {w : World} {I : Nat → Prop} {σ : Sig} {S S1 : St}

/-- a new block whose cells are given becomes an object -/
theorem flat_new {h : Heap} (R : Rel w I σ h) {n k : Nat} {es : List V} {keep : Bool} {us : List Value} {el : TypeId} (c : Array Value) (hn : h n = none) (hs : σ n = none)
    (hk : ∀ e ∈ es, e.cells.length = k) (hr : RepC w I (osig keep σ) (flat es) us) (hc : ∀ (j : Nat) u, us[j]? = some u → c[j]? = some u) :
    Step w I σ h n (w.alloc (.cells c el)) I (upd σ n (some (w.heap.size, 0, k))) (upd h n (some ⟨k, es, keep⟩)) (n + 1) := by
  have hlen : us.length = es.length * k := by rw [← ((RepC_iff _ _).1 hr).1, flat_length hk]
  refine new_sim R c hn hs ?_ ?_
  · by_cases h0 : us.length = 0
    · omega
    · have hlast : us[us.length - 1]? = some (us[us.length - 1]'(by omega)) := by simp
      have := (Array.getElem?_eq_some_iff.1 (hc _ _ hlast)).1
      omega
  · have E : Ext w I σ (w.alloc (.cells c el)) I (upd σ n (some (w.heap.size, 0, k))) := (Ext.alloc R.imm _).trans (Ext.sig' hs)
    refine flat_row (E.ofKeep keep) hk hr (fun j u hu => ?_)
    rw [cell_of_row _ _ _ _ _ _ (anew w (.cells c el))]
    simpa using hc j u hu

theorem hdr_rep (w : World) (I : Nat → Prop) (σ : Sig) {n k l cap : Nat} {c : Array Value} {el : TypeId} (hlc : l ≤ cap) (hm : cap ≤ maxLen) (hsz : cap * k ≤ c.size) :
    Rep (w.alloc (.cells c el)) I (upd σ n (some (w.heap.size, 0, k))) (.hdr n 0 l) (.slice (some ⟨w.heap.size, 0, none⟩) l cap) := by
  simp only [Rep]
  exact ⟨_, cap, rfl, hlc, hm, .inr ⟨w.heap.size, 0, k, c, el, (0, 0), by simp [upd], by simp, anew w _, by simpa using hsz⟩⟩

theorem sim_makeSlice {t : TypeId} {l c : Operand} {k1 k2 : IntKind} {n m : Int} (ho : o.op = .makeSlice t l c) (hu : X.P.underlying t = some (.slice (X.ti t).elem)) (T : TIOk X.P (X.ti t).elem (X.ti (X.ti t).elem)) (R : Rel w I σ S.h) (F : FRel w I σ S.f a) (hx : Opds o)
    (hn : S.h S.n = none) (hsn : σ S.n = none) (hl : S.ev l = .int k1 n) (hc : S.ev c = .int k2 m) (hb : 0 ≤ n ∧ n ≤ m ∧ m * (X.ti (X.ti t).elem).bytes ≤ 2 ^ 47 ∧ m ≤ 2 ^ 62)
    {kp : Bool} (hs : S1 = (S.new ⟨(X.ti (X.ti t).elem).size, List.replicate n.toNat (X.ti (X.ti t).elem).zero, kp⟩).set o.dst (.hdr S.n 0 n.toNat)) : Out X o a w I σ S S1 := by
  subst hs
  have h1 : Rep w I σ (S.ev l) (a.eval l) := ev_rep (S := S) F (hx l (by simp [ho, Op.operands]))
  have h2 : Rep w I σ (S.ev c) (a.eval c) := ev_rep (S := S) F (hx c (by simp [ho, Op.operands]))
  rw [hl] at h1; rw [hc] at h2
  have hl2 := rep_int h1; have hc2 := rep_int h2
  obtain ⟨i, z, hi, hisz, hib, hz, hzb⟩ := T.info
  have hzc := zero_cells (w := w) (I := I) (σ := osig kp σ) T hzb
  have hzsz : z.cells.size = (X.ti (X.ti t).elem).size := by
    have := ((RepC_iff _ _).1 hzc).1
    rw [T.zlen] at this; simpa using this.symm
  have hm0 : m = (m.toNat : Int) := by omega
  have hn0 : n = (n.toNat : Int) := by omega
  have hbytes : (i.bytes : Int) * m ≤ 281474976710656 := by
    rw [hib, Int.mul_comm]; omega
  have hrun := run_make (P := X.P) w t (X.ti t).elem i z hu hi hz k1 k2 n m hb.1 hb.2.1 hbytes (by omega)
  rw [hisz] at hrun
  have hmade : (madeCells z.cells (m.toNat * (X.ti (X.ti t).elem).size)).toList = (List.replicate m.toNat z.cells.toList).flatten := by
    unfold madeCells
    rw [← hzsz]
    exact made_list z.cells _ _ rfl (by rw [hzsz]; exact T.pos)
  have hall : ∀ e ∈ List.replicate n.toNat (X.ti (X.ti t).elem).zero, e.cells.length = (X.ti (X.ti t).elem).size := by
    intro e he; rw [List.eq_of_mem_replicate he]; exact T.zlen
  have hrep : RepC w I (osig kp σ) (flat (List.replicate n.toNat (X.ti (X.ti t).elem).zero)) (List.replicate n.toNat z.cells.toList).flatten := by
    rw [flat_replicate]; exact rep_replicate hzc n.toNat
  refine ⟨_, _, I, _, .slice (some ⟨w.heap.size, 0, none⟩) n.toNat m.toNat, .hdr S.n 0 n.toNat, ?_, .inl rfl, ?_, set_f _ _ _ _ rfl, hdr_rep w I σ (k := (X.ti (X.ti t).elem).size) (c := madeCells z.cells (m.toNat * (X.ti (X.ti t).elem).size)) (el := (X.ti t).elem) (by omega) (by simp only [maxLen]; omega) (by rw [size_madeCells]; exact Nat.le_refl _)⟩
  · simp [execOp, ho, hl2, hc2, hrun]
  · rw [set_h, set_n]
    refine flat_new R _ hn hsn hall hrep (fun j u hu' => ?_)
    have hlz : 0 < z.cells.toList.length := by simp [hzsz]; exact T.pos
    rw [flatten_replicate_get _ hlz] at hu'
    rw [← Array.getElem?_toList, hmade, flatten_replicate_get _ hlz]
    split at hu'
    · rename_i hj
      rw [if_pos (Nat.lt_of_lt_of_le hj (Nat.mul_le_mul_right _ (by omega)))]
      exact hu'
    · cases hu'

theorem sim_min {args : Array Operand} {tys : Array TypeId} {x y : Operand} {k : IntKind} {p q : Int} (mx : Bool) (ho : o.op = .call ⟨.builtin (if mx then .max else .min), args, tys⟩) (ha : args.toList = [x, y]) (R : Rel w I σ S.h) (F : FRel w I σ S.f a) (hx : Opds o)
    (h1 : S.ev x = .int k p) (h2 : S.ev y = .int k q) (hs : S1 = S.set o.dst (.int k (if mx then (if q > p then q else p) else (if q < p then q else p)))) : Out X o a w I σ S S1 := by
  have harg : args = #[x, y] := by rw [← ha]
  have r1 : Rep w I σ (S.ev x) (a.eval x) := ev_rep (S := S) F (hx x (by simp [ho, Op.operands, Call.operands, harg]))
  have r2 : Rep w I σ (S.ev y) (a.eval y) := ev_rep (S := S) F (hx y (by simp [ho, Op.operands, Call.operands, harg]))
  rw [h1] at r1; rw [h2] at r2
  refine Out.pure (u := .int k (if mx then (if q > p then q else p) else (if q < p then q else p))) R ?_ (by simp only [Rep]) hs
  cases mx
  · simp [execOp, ho, harg, resolve, invoke, builtin, rep_int r1, rep_int r2, Builtin.min_, Builtin.min2]
  · simp [execOp, ho, harg, resolve, invoke, builtin, rep_int r1, rep_int r2, Builtin.max_, Builtin.max2]

end
end Go.Abs
