/- The trace of a region: the states between its operations. -/
import Derived.Test.YtcbddnmodlhnaaaA24
set_option linter.unusedVariables false
set_option linter.unusedSimpArgs false
namespace Go.Abs
open Go

/-- an operation with its guard -/
def stepG (X : Env) (C : CallT) (fid : FuncId) (dsts : List (Option Nat)) (n0 k : Nat) (o : Oper) (S : St) : Option St :=
  match o.guard with
  | none => stepOp X C fid n0 k o S
  | some (j, want) =>
    match dsts[j]? with
    | some (some d) => match S.f d with
      | .bool b => if b = want then stepOp X C fid n0 k o S else some (S.set o.dst (.tup []))
      | .tup [] => some (S.set o.dst (.tup []))
      | _ => none
    | _ => none

section
variable {X : Env} {C : CallT} {fid : FuncId} {dsts : List (Option Nat)} {n0 : Nat}

theorem evOps_cons (k : Nat) (o : Oper) (l : List Oper) (S : St) : evOps X C fid dsts n0 k (o :: l) S = (match stepG X C fid dsts n0 k o S with | some S1 => evOps X C fid dsts n0 (k + 1) l S1 | none => none) := by
  simp only [evOps, stepG]
  cases hg : o.guard with
  | none => rfl
  | some g =>
    obtain ⟨j, want⟩ := g
    simp only
    cases hd : dsts[j]? with
    | none => rfl
    | some x =>
      cases x with
      | none => rfl
      | some d =>
        simp only
        cases hf : S.f d with
        | bool b =>
          simp only
          split
          · rfl
          · rfl
        | tup l => cases l <;> rfl
        | _ => rfl

theorem evOps_append : ∀ (l1 l2 : List Oper) (k : Nat) (S : St), evOps X C fid dsts n0 k (l1 ++ l2) S = (match evOps X C fid dsts n0 k l1 S with | some S1 => evOps X C fid dsts n0 (k + l1.length) l2 S1 | none => none)
  | [], l2, k, S => by simp [evOps]
  | o :: l1, l2, k, S => by
    rw [List.cons_append, evOps_cons, evOps_cons]
    cases stepG X C fid dsts n0 k o S with
    | none => rfl
    | some S1 =>
      simp only
      rw [evOps_append l1 l2 (k + 1) S1, List.length_cons, show k + 1 + l1.length = k + (l1.length + 1) by omega]

/-- the same operands, the same guard -/
def Same (dsts : List (Option Nat)) (o : Oper) (S S' : St) : Prop :=
  Alike o S S' ∧ ∀ j want d, o.guard = some (j, want) → dsts[j]? = some (some d) → S'.f d = S.f d

/-- what holds of an operation holds of it with its guard -/
theorem stepG_cases {k : Nat} {o : Oper} {S S1 : St} (he : stepG X C fid dsts n0 k o S = some S1) :
    (stepOp X C fid n0 k o S = some S1 ∧ ∀ S', Same dsts o S S' → stepG X C fid dsts n0 k o S' = stepOp X C fid n0 k o S') ∨
    (S1 = S.set o.dst (.tup []) ∧ ∀ S', Same dsts o S S' → stepG X C fid dsts n0 k o S' = some (S'.set o.dst (.tup []))) := by
  unfold stepG at he
  cases hg : o.guard with
  | none =>
    simp only [hg] at he
    exact .inl ⟨he, fun S' _ => by simp only [stepG, hg]⟩
  | some g =>
    obtain ⟨j, want⟩ := g
    simp only [hg] at he
    cases hd : dsts[j]? with
    | none => simp [hd] at he
    | some x =>
      cases x with
      | none => simp [hd] at he
      | some d =>
        simp only [hd] at he
        cases hf : S.f d with
        | bool b =>
          simp only [hf] at he
          have hf' : ∀ S', Same dsts o S S' → S'.f d = .bool b := fun S' hs => by rw [hs.2 j want d hg hd]; exact hf
          split at he
          · rename_i hb
            exact .inl ⟨he, fun S' hs => by simp only [stepG, hg, hd, hf' S' hs, hb, if_true]⟩
          · rename_i hb
            simp only [Option.some.injEq] at he
            exact .inr ⟨he.symm, fun S' hs => by simp only [stepG, hg, hd, hf' S' hs, hb, if_false]⟩
        | tup l =>
          cases l with
          | nil =>
            simp only [hf, Option.some.injEq] at he
            have hf' : ∀ S', Same dsts o S S' → S'.f d = .tup [] := fun S' hs => by rw [hs.2 j want d hg hd]; exact hf
            exact .inr ⟨he.symm, fun S' hs => by simp only [stepG, hg, hd, hf' S' hs]⟩
          | cons _ _ => simp [hf] at he
        | _ => simp [hf] at he

theorem gstep0 {k : Nat} {o : Oper} {S S1 : St} (hc : cls X fid o = 0) (he : stepG X C fid dsts n0 k o S = some S1) : ∃ v, S1 = S.set o.dst v ∧ ∀ S', Same dsts o S S' → stepG X C fid dsts n0 k o S' = some (S'.set o.dst v) := by
  rcases stepG_cases he with ⟨h1, h2⟩ | ⟨h1, h2⟩
  · obtain ⟨v, h3, h4⟩ := step0 hc h1
    exact ⟨v, h3, fun S' hs => by rw [h2 S' hs]; exact h4 S' hs.1⟩
  · exact ⟨_, h1, h2⟩

theorem gstep1 {k : Nat} {o : Oper} {S S1 : St} (hc : cls X fid o = 1) (he : stepG X C fid dsts n0 k o S = some S1) : ∃ v, S1 = S.set o.dst v ∧ ∀ S', Same dsts o S S' → Sub S.h S'.h → stepG X C fid dsts n0 k o S' = some (S'.set o.dst v) := by
  rcases stepG_cases he with ⟨h1, h2⟩ | ⟨h1, h2⟩
  · obtain ⟨v, h3, h4⟩ := step1 hc h1
    exact ⟨v, h3, fun S' hs hsub => by rw [h2 S' hs]; exact h4 S' hs.1 hsub⟩
  · exact ⟨_, h1, fun S' hs _ => h2 S' hs⟩

/-- a new object, or none -/
def addOb (h : Heap) (id : Nat) : Option Ob → Heap
  | some ob => upd h id (some ob)
  | none => h

theorem gstep2 {k : Nat} {o : Oper} {S S1 : St} (hc : cls X fid o = 2) (he : stepG X C fid dsts n0 k o S = some S1) : ∃ v ob, S1 = ({ S with h := addOb S.h (n0 + k) ob } : St).set o.dst v ∧
    ∀ S', Same dsts o S S' → stepG X C fid dsts n0 k o S' = some (({ S' with h := addOb S'.h (n0 + k) ob } : St).set o.dst v) := by
  rcases stepG_cases he with ⟨h1, h2⟩ | ⟨h1, h2⟩
  · obtain ⟨v, ob, h3, h4⟩ := step2 hc h1
    exact ⟨v, some ob, h3, fun S' hs => by rw [h2 S' hs]; exact h4 S' hs.1⟩
  · exact ⟨_, none, h1, h2⟩

theorem gstep3 {k : Nat} {o : Oper} {S S1 : St} (he : stepG X C fid dsts n0 k o S = some S1) : ∃ v, S1 = ({ S with h := S1.h, n := S1.n } : St).set o.dst v ∧
    ∀ S', Same dsts o S S' → S'.h = S.h → S'.n = S.n → stepG X C fid dsts n0 k o S' = some (({ S' with h := S1.h, n := S1.n } : St).set o.dst v) := by
  rcases stepG_cases he with ⟨h1, h2⟩ | ⟨h1, h2⟩
  · obtain ⟨v, h3, h4⟩ := step3 h1
    exact ⟨v, h3, fun S' hs hh hn => by rw [h2 S' hs]; exact h4 S' hs.1 hh hn⟩
  · refine ⟨.tup [], by rw [h1, set_h, set_n], fun S' hs hh hn => ?_⟩
    rw [h2 S' hs, h1, set_h, set_n, ← hh, ← hn]

theorem gnews (hC : CallNews C) {k : Nat} {o : Oper} {S S1 : St} (he : stepG X C fid dsts n0 k o S = some S1) : S.n ≤ S1.n ∧ ∀ id, id ≠ n0 + k → id < S.n → S.h id = none → S1.h id = none := by
  rcases stepG_cases he with ⟨h1, _⟩ | ⟨h1, _⟩
  · exact step_news hC h1
  · subst h1
    rw [set_h, set_n]
    exact ⟨Nat.le_refl _, fun _ _ _ h => h⟩

/-- the states between the operations -/
theorem trace {L : List Oper} {S0 F : St} (he : evOps X C fid dsts n0 0 L S0 = some F) : ∃ T : Nat → St, T 0 = S0 ∧ T L.length = F ∧ (∀ p, p ≤ L.length → evOps X C fid dsts n0 0 (L.take p) S0 = some (T p)) ∧
    ∀ k o, L[k]? = some o → stepG X C fid dsts n0 k o (T k) = some (T (k + 1)) := by
  have pre : ∀ p, p ≤ L.length → ∃ S, evOps X C fid dsts n0 0 (L.take p) S0 = some S := by
    intro p hp
    have := evOps_append (X := X) (C := C) (fid := fid) (dsts := dsts) (n0 := n0) (L.take p) (L.drop p) 0 S0
    rw [List.take_append_drop, he] at this
    cases hx : evOps X C fid dsts n0 0 (L.take p) S0 with
    | none => rw [hx] at this; cases this
    | some S => exact ⟨S, rfl⟩
  refine ⟨fun p => (evOps X C fid dsts n0 0 (L.take p) S0).getD S0, ?_, ?_, fun p hp => ?_, fun k o hk => ?_⟩
  · simp [evOps]
  · simp [he]
  · obtain ⟨S, hS⟩ := pre p hp
    simp [hS]
  · have hkl : k < L.length := (List.getElem?_eq_some_iff.1 hk).1
    obtain ⟨A, hA⟩ := pre k (by omega)
    obtain ⟨B, hB⟩ := pre (k + 1) (by omega)
    have htk : L.take (k + 1) = L.take k ++ [o] := by
      rw [List.take_add_one, hk]; rfl
    have h2 := hB
    rw [htk, evOps_append, hA] at h2
    simp only [List.length_take, Nat.zero_add] at h2
    rw [evOps_cons, Nat.min_eq_left (by omega)] at h2
    show stepG X C fid dsts n0 k o ((evOps X C fid dsts n0 0 (L.take k) S0).getD S0) = some ((evOps X C fid dsts n0 0 (L.take (k + 1)) S0).getD S0)
    rw [hA, hB]
    simp only [Option.getD_some]
    cases hs : stepG X C fid dsts n0 k o A with
    | none => rw [hs] at h2; cases h2
    | some S1 =>
      rw [hs] at h2
      simp only [evOps] at h2
      exact h2
end
end Go.Abs
