/- The operations of a region, in the order in which they stand. -/
import Derived.Test.YtcbddnmodlhnaaaA21
set_option linter.unusedVariables false
set_option linter.unusedSimpArgs false
namespace Go.Abs
open Go

section
variable {X : Env} {C : CallT} {fid : FuncId} {n0 nt : Nat} {ops : Array Oper}

theorem put_size (a : Act) (d : Option Nat) (u : Value) : (a.put d u).tmps.size = a.tmps.size := by cases d <;> simp [Act.put]
theorem put_defers (a : Act) (d : Option Nat) (u : Value) : (a.put d u).defers = a.defers := by cases d <;> rfl

theorem FRel.putd {w : World} {I : Nat → Prop} {σ : Sig} {S S1 : St} {a : Act} (F : FRel w I σ S.f a) {v : V} {u : Value} (hr : Rep w I σ v u) (d : Option Nat) (hd : ∀ t, d = some t → t < a.tmps.size)
    (hf : S1.f = (S.set d v).f) : FRel w I σ S1.f (a.put d u) := by
  rw [hf]
  cases d with
  | none => exact F
  | some t => exact F.put hr t (hd t rfl)

theorem opB_dst {o : Oper} (hB : opB X nt o = true) : ∀ t, o.dst = some t → t < nt := by
  intro t ht
  unfold opB at hB
  rw [Bool.and_eq_true, Bool.and_eq_true] at hB
  have := hB.1.1
  simpa [ht] using this

/-- is the operation wanted? -/
theorem wanted_rep {w : World} {I : Nat → Prop} {σ : Sig} {S : St} {a : Act} (F : FRel w I σ S.f a) {o : Oper} {j d : Nat} {want : Bool} (hg : o.guard = some (j, want)) (hd : (ops.toList.map (·.dst))[j]? = some (some d)) :
    (∀ b, S.f d = .bool b → Region.wanted o (yielded ops a.tmps) = (b == want)) ∧ (S.f d = .tup [] → Region.wanted o (yielded ops a.tmps) = false) := by
  have hj : (ops[j]?).bind (·.dst) = some d := by
    rw [List.getElem?_map, Array.getElem?_toList] at hd
    cases ho : ops[j]? with
    | none => simp [ho] at hd
    | some x => simpa [ho] using hd
  have hF := F d
  refine ⟨fun b hb => ?_, fun hb => ?_⟩
  · rw [hb] at hF
    have hv : a.tmps.getD d undef = .bool b := by simpa [Rep] using hF
    have ht : a.tmps[d]? = some (.bool b) := by
      rw [Array.getD_eq_getD_getElem?] at hv
      cases hx : a.tmps[d]? with
      | none => simp [hx, undef] at hv
      | some y => simpa [hx] using hv
    simp only [Region.wanted, hg, yielded, hj, Option.bind_some, ht]
    cases b <;> cases want <;> rfl
  · rw [hb] at hF
    simp only [Rep, RepL] at hF
    obtain ⟨us, hu, he⟩ := hF
    have hnb : ∀ b, a.tmps[d]? ≠ some (.bool b) := by
      intro b hx
      rw [Array.getD_eq_getD_getElem?, hx] at hu
      simp at hu
    simp only [Region.wanted, hg, yielded, hj, Option.bind_some]
    first
      | rfl
      | (split
         · rename_i b hx; exact absurd hx (hnb b)
         · rfl)

theorem undef_rep {w : World} {I : Nat → Prop} {σ : Sig} : Rep w I σ (.tup []) undef := by
  simp only [Rep, undef, RepL]
  exact ⟨#[], rfl, rfl⟩

theorem ops_run (hC : CallOk X C) (hK : CloneOk X) (hG : ∀ fid dst g args S S1, evCall X C fid dst g args S = some S1 → GoodF X g) (hB : ∀ o ∈ ops.toList, opB X nt o = true) {Q : Exit → Act → World → Prop} {S1 : St} :
    ∀ (l : List Oper) (k : Nat) (S : St) (a : Act) (w : World) (I : Nat → Prop) (σ : Sig), l = ops.toList.drop k → evOps X C fid (ops.toList.map (·.dst)) n0 k l S = some S1 → Rel w I σ S.h → FRel w I σ S.f a → Fresh σ S.h S.n → nt ≤ a.tmps.size →
      a.defers = [] → n0 + ops.size ≤ S.n → (∀ q, k ≤ q → q < ops.size → S.h (n0 + q) = none ∧ σ (n0 + q) = none) →
      (∀ a' w' I' σ', S.n ≤ S1.n → Step w I σ S.h n0 w' I' σ' S1.h S1.n → FRel w' I' σ' S1.f a' → Fresh σ' S1.h S1.n → nt ≤ a'.tmps.size → a'.defers = [] → Q .normal a' w') →
      wpOps X.P ops Q (List.range' k (ops.size - k)) a w
  | [], k, S, a, w, I, σ, hl, he, R, F, fr, hs, hd, hn, hq, hQ => by
    have hk : ops.size - k = 0 := by
      have := congrArg List.length hl
      simp at this; omega
    rw [hk]
    simp only [evOps, Option.some.injEq] at he
    subst he
    exact hQ a w I σ (Nat.le_refl _) ((Step.refl R n0).widen (Nat.le_refl _) (by omega)) F fr hs hd
  | o :: l, k, S, a, w, I, σ, hl, he, R, F, fr, hs, hd, hn, hq, hQ => by
    have hk : k < ops.size := by
      have := congrArg List.length hl
      simp at this; omega
    have hok : ops[k]? = some o := by
      have := congrArg (fun l => l[0]?) hl
      simp only [List.getElem?_cons_zero, List.getElem?_drop, Nat.add_zero] at this
      rw [← Array.getElem?_toList]; exact this.symm
    have hl' : l = ops.toList.drop (k + 1) := by
      have := congrArg List.tail hl
      simpa using this
    have hoB : opB X nt o = true := hB o (by
      have := Array.mem_of_getElem? hok
      simpa using this)
    have hdst : ∀ t, o.dst = some t → t < a.tmps.size := fun t ht => Nat.lt_of_lt_of_le (opB_dst hoB t ht) hs
    rw [show ops.size - k = (ops.size - (k + 1)) + 1 by omega, List.range'_succ]
    simp only [wpOps, hok]
    have run : ∀ {S2 : St}, stepOp X C fid n0 k o S = some S2 → evOps X C fid (ops.toList.map (·.dst)) n0 (k + 1) l S2 = some S1 →
        o.wp X.P a w (wpOps X.P ops Q (List.range' (k + 1) (ops.size - (k + 1)))) Q := by
      intro S2 h1 h2
      refine Oper.wp_mono (fun a' w' hh => ?_) (sim_step hC hK hG hoB h1 R F fr (hq k (Nat.le_refl _) hk).1 (hq k (Nat.le_refl _) hk).2 (by omega) Q)
      obtain ⟨u, v, I', σ', rfl, hrep, hf, hst, hle, hfr, hfresh⟩ := hh
      refine ops_run hC hK hG hB l (k + 1) S2 _ w' I' σ' hl' h2 hst.rel ((F.ext hst.ext).putd hrep o.dst hdst hf) hfr (by rw [put_size]; exact hs) (by rw [put_defers]; exact hd) (by omega) (fun q h1 h2 => hfresh q (by omega) (by omega) (hq q (by omega) h2).1 (hq q (by omega) h2).2) (fun a' w'' I'' σ'' hle' hst' hF' hfr' hs' hd' => ?_)
      exact hQ a' w'' I'' σ'' (by omega) (hst.join hst' (Nat.le_refl _) hle') hF' hfr' hs' hd'
    have skip : evOps X C fid (ops.toList.map (·.dst)) n0 (k + 1) l (S.set o.dst (.tup [])) = some S1 → wpOps X.P ops Q (List.range' (k + 1) (ops.size - (k + 1))) (a.put o.dst undef) w := by
      intro h2
      refine ops_run hC hK hG hB l (k + 1) _ _ w I σ hl' h2 (by rw [set_h]; exact R) (F.putd undef_rep o.dst hdst rfl) (by rw [set_h, set_n]; exact fr) (by rw [put_size]; exact hs) (by rw [put_defers]; exact hd) (by rw [set_n]; exact hn) (fun q h1 h2 => by rw [set_h]; exact hq q (by omega) h2) (fun a' w'' I'' σ'' hle' hst' hF' hfr' hs' hd' => ?_)
      rw [set_h] at hst'
      rw [set_n] at hle'
      exact hQ a' w'' I'' σ'' hle' hst' hF' hfr' hs' hd'
    simp only [evOps] at he
    split at he
    · rename_i hg
      have hw : Region.wanted o (yielded ops a.tmps) = true := by simp [Region.wanted, hg]
      simp only [hw, if_true]
      split at he
      · rename_i S2 h1; exact .inl (run h1 he)
      · cases he
    · rename_i j want hg
      split at he
      case h_2 => cases he
      rename_i d hd'
      have hwr := wanted_rep F hg hd'
      split at he
      · rename_i b hb
        have hw := hwr.1 b hb
        split at he
        · rename_i hbw
          subst hbw
          rw [beq_self_eq_true] at hw
          simp only [hw, if_true]
          split at he
          · rename_i S2 h1; exact .inl (run h1 he)
          · cases he
        · rename_i hbw
          have : (b == want) = false := by simpa using hbw
          rw [this] at hw
          simp only [hw, Bool.false_eq_true, if_false]
          exact skip he
      · rename_i hb
        have hw := hwr.2 hb
        simp only [hw, Bool.false_eq_true, if_false]
        exact skip he
      · cases he
end
end Go.Abs
