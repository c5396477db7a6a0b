/- Nothing comes to life below the number from which on a piece of code numbers. -/
import Derived.Test.YtcbddnmodlhnaaaB2
set_option linter.unusedVariables false
set_option linter.unusedSimpArgs false
namespace Go.Abs
open Go

section
variable {X : Env} {C : CallT} {fid : FuncId}

theorem call_news (hC : CallNews C) {dst : Option Nat} {g : FuncId} {args : List V} {S S1 : St} (he : evCall X C fid dst g args S = some S1) : S.n ≤ S1.n ∧ ∀ id, id < S.n → S.h id = none → S1.h id = none := by
  unfold evCall at he
  split at he
  · split at he
    case h_2 => cases he
    split at he
    case h_2 => cases he
    split at he
    · cases he
    simp only [Option.some.injEq] at he
    subst he
    rw [set_h, set_n]
    refine ⟨by simp [St.new], fun id hid hn => ?_⟩
    have : id ≠ S.n := by omega
    simp [St.new, upd, this, hn]
  · split at he
    · split at he
      case h_2 => cases he
      rename_i v h n hc
      simp only [Option.some.injEq] at he
      subst he
      rw [set_h, set_n]
      exact hC _ _ _ _ _ _ _ hc
    · split at he
      case h_2 => cases he
      split at he
      · split at he
        · cases he
        split at he
        case h_2 => cases he
        rename_i v h n hc
        simp only [Option.some.injEq] at he
        subst he
        rw [set_h, set_n]
        refine ⟨(hC _ _ _ _ _ _ _ hc).1, fun id hid hn => ?_⟩
        simp only [hid, if_true]; exact hn
      · split at he
        case h_2 => cases he
        split at he
        case h_2 => cases he
        split at he
        · cases he
        simp only [Option.some.injEq] at he
        subst he
        rw [set_h, set_n]
        exact ⟨Nat.le_refl _, fun id _ hn => hn⟩

theorem step_news (hC : CallNews C) {n0 j : Nat} {o : Oper} {S S1 : St} (he : stepOp X C fid n0 j o S = some S1) : S.n ≤ S1.n ∧ ∀ id, id ≠ n0 + j → id < S.n → S.h id = none → S1.h id = none := by
  unfold stepOp at he
  split at he
  · split at he
    case h_2 => cases he
    have := call_news hC he
    exact ⟨this.1, fun id _ hid hn => this.2 id hid hn⟩
  · split at he
    case h_2 => cases he
    rename_i v h n hc
    simp only [Option.some.injEq] at he
    subst he
    rw [set_h, set_n]
    exact ⟨Nat.le_refl _, fun id hne _ hn => evCore_news hc id hne hn⟩

theorem ops_news (hC : CallNews C) {dsts : List (Option Nat)} {n0 : Nat} : ∀ {l : List Oper} {k : Nat} {S S1 : St}, evOps X C fid dsts n0 k l S = some S1 → S.n ≤ S1.n ∧ ∀ id, (id < n0 + k ∨ n0 + k + l.length ≤ id) → id < S.n → S.h id = none → S1.h id = none
  | [], k, S, S1, he => by
    simp only [evOps, Option.some.injEq] at he
    subst he
    exact ⟨Nat.le_refl _, fun id _ _ hn => hn⟩
  | o :: l, k, S, S1, he => by
    have two : ∀ {S2 : St}, S.n ≤ S2.n → (∀ id, id ≠ n0 + k → id < S.n → S.h id = none → S2.h id = none) → evOps X C fid dsts n0 (k + 1) l S2 = some S1 → S.n ≤ S1.n ∧ ∀ id, (id < n0 + k ∨ n0 + k + (o :: l).length ≤ id) → id < S.n → S.h id = none → S1.h id = none := by
      intro S2 h1 h2 h3
      obtain ⟨h4, h5⟩ := ops_news hC h3
      refine ⟨by omega, fun id hid hlt hn => h5 id ?_ (by omega) (h2 id ?_ hlt hn)⟩
      · simp only [List.length_cons] at hid; omega
      · simp only [List.length_cons] at hid; omega
    have skip : evOps X C fid dsts n0 (k + 1) l (S.set o.dst (.tup [])) = some S1 → S.n ≤ S1.n ∧ ∀ id, (id < n0 + k ∨ n0 + k + (o :: l).length ≤ id) → id < S.n → S.h id = none → S1.h id = none := fun h3 =>
      two (by rw [set_n]; exact Nat.le_refl _) (fun id _ _ hn => by rw [set_h]; exact hn) h3
    simp only [evOps] at he
    split at he
    · split at he
      case h_2 => cases he
      rename_i S2 h1
      have := step_news hC h1
      exact two this.1 this.2 he
    · split at he
      case h_2 => cases he
      split at he
      · split at he
        · split at he
          case h_2 => cases he
          rename_i S2 h1
          have := step_news hC h1
          exact two this.1 this.2 he
        · exact skip he
      · exact skip he
      · cases he

def EvNews (E : Ev) : Prop := ∀ f c S e S1, E f c S = some (e, S1) → S.n ≤ S1.n ∧ ∀ id, id < S.n → S.h id = none → S1.h id = none

theorem callWith_news {E : Ev} (hE : EvNews E) : CallNews (callWith X E) := by
  intro g args h k v h' k' hc
  unfold callWith at hc
  split at hc
  case h_2 => cases hc
  split at hc
  case h_2 => cases hc
  rename_i fn hf b hb
  cases he : E g b ⟨enterF args, h, k⟩ with
  | none => simp [he, retV] at hc
  | some x =>
    obtain ⟨e, S1⟩ := x
    rw [he] at hc
    have := hE _ _ _ _ _ he
    cases e with
    | exit id => simp [retV] at hc
    | normal | ret =>
      simp only [retV] at hc
      split at hc
      case h_2 => cases hc
      simp only [Option.some.injEq, Prod.mk.injEq] at hc
      obtain ⟨_, rfl, rfl⟩ := hc
      exact this

theorem evC_news : ∀ n, EvNews (evC X n)
  | 0 => fun f c S e S1 he => by simp [evC] at he
  | n + 1 => by
    have ih := evC_news n
    have hC := callWith_news (X := X) ih
    intro f c S e S1 he
    rw [evC] at he
    have done : S = S1 → S.n ≤ S1.n ∧ ∀ id, id < S.n → S.h id = none → S1.h id = none := by
      rintro rfl; exact ⟨Nat.le_refl _, fun _ _ h => h⟩
    have trans : ∀ {S2 : St}, (S.n ≤ S2.n ∧ ∀ id, id < S.n → S.h id = none → S2.h id = none) → (S2.n ≤ S1.n ∧ ∀ id, id < S2.n → S2.h id = none → S1.h id = none) → S.n ≤ S1.n ∧ ∀ id, id < S.n → S.h id = none → S1.h id = none :=
      fun h1 h2 => ⟨by omega, fun id hid hn => h2.2 id (by omega) (h1.2 id hid hn)⟩
    cases c with
    | skip | exit _ | ret =>
      simp only [stepC, Option.some.injEq, Prod.mk.injEq] at he
      exact done he.2
    | region id ops d =>
      simp only [stepC] at he
      split at he
      case h_2 => cases he
      rename_i S2 hev
      split at he
      case isFalse => cases he
      simp only [Option.some.injEq, Prod.mk.injEq] at he
      obtain ⟨_, rfl⟩ := he
      obtain ⟨h1, h2⟩ := ops_news hC hev
      simp only at h1 h2
      exact ⟨by omega, fun id hid hn => h2 id (.inl (by omega)) (by omega) hn⟩
    | seq x y =>
      simp only [stepC] at he
      cases hx : evC X n f x S with
      | none => simp [hx] at he
      | some z =>
        obtain ⟨e2, S2⟩ := z
        rw [hx] at he
        have h1 := ih _ _ _ _ _ hx
        cases e2 with
        | normal => exact trans h1 (ih _ _ _ _ _ he)
        | exit id =>
          simp only [Option.some.injEq, Prod.mk.injEq] at he
          obtain ⟨_, rfl⟩ := he; exact h1
        | ret =>
          simp only [Option.some.injEq, Prod.mk.injEq] at he
          obtain ⟨_, rfl⟩ := he; exact h1
    | cond x p q =>
      simp only [stepC] at he
      split at he
      case h_2 => cases he
      split at he
      · exact ih _ _ _ _ _ he
      · exact ih _ _ _ _ _ he
    | block id b =>
      simp only [stepC] at he
      cases hb : evC X n f b S with
      | none => simp [hb] at he
      | some z =>
        obtain ⟨e2, S2⟩ := z
        rw [hb] at he
        have h1 := ih _ _ _ _ _ hb
        cases e2 with
        | normal =>
          simp only [Option.some.injEq, Prod.mk.injEq] at he
          obtain ⟨_, rfl⟩ := he; exact h1
        | ret =>
          simp only [Option.some.injEq, Prod.mk.injEq] at he
          obtain ⟨_, rfl⟩ := he; exact h1
        | exit i =>
          simp only at he
          split at he
          · simp only [Option.some.injEq, Prod.mk.injEq] at he
            obtain ⟨_, rfl⟩ := he; exact h1
          · simp only [Option.some.injEq, Prod.mk.injEq] at he
            obtain ⟨_, rfl⟩ := he; exact h1
    | loop b =>
      simp only [stepC] at he
      cases hb : evC X n f b S with
      | none => simp [hb] at he
      | some z =>
        obtain ⟨e2, S2⟩ := z
        rw [hb] at he
        have h1 := ih _ _ _ _ _ hb
        cases e2 with
        | normal => exact trans h1 (ih _ _ _ _ _ he)
        | exit id =>
          simp only [Option.some.injEq, Prod.mk.injEq] at he
          obtain ⟨_, rfl⟩ := he; exact h1
        | ret =>
          simp only [Option.some.injEq, Prod.mk.injEq] at he
          obtain ⟨_, rfl⟩ := he; exact h1
    | _ => simp [stepC] at he

end
end Go.Abs
