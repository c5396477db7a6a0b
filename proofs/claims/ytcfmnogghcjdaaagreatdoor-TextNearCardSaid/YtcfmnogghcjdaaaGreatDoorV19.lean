/- Part of a proof: T2. -/
import Derived.Test.YtcfmnogghcjdaaaGreatDoorV09
set_option linter.all false
set_option maxRecDepth 100000
set_option maxHeartbeats 20000000
namespace Go.Proofs.YtcfmnogghcjdaaaGreatDoor
open Go Go.Abs
theorem ok0 : okB X 0 12 = true := by decide +kernel
theorem ok1 : okB X 12 12 = true := by decide +kernel
theorem ok2 : okB X 24 12 = true := by decide +kernel
theorem ok3 : okB X 36 12 = true := by decide +kernel
theorem ok4 : okB X 48 12 = true := by decide +kernel
theorem ok5 : okB X 60 12 = true := by decide +kernel
theorem ok6 : okB X 72 12 = true := by decide +kernel
theorem ok7 : okB X 84 12 = true := by decide +kernel
theorem ok8 : okB X 96 12 = true := by decide +kernel
theorem ok9 : okB X 108 12 = true := by decide +kernel
theorem ok10 : okB X 120 12 = true := by decide +kernel
theorem ok11 : okB X 132 12 = true := by decide +kernel
theorem ok12 : okB X 144 3 = true := by decide +kernel
theorem allOk : AllOk X (drawB X) := by
  intro g fn hf hp
  have hg : g < 147 := (Array.getElem?_eq_some_iff.1 hf).1
  rcases Nat.lt_or_ge g 12 with h0 | h0
  · exact okB_use ok0 (by omega) (by omega) hf hp
  rcases Nat.lt_or_ge g 24 with h1 | h1
  · exact okB_use ok1 (by omega) (by omega) hf hp
  rcases Nat.lt_or_ge g 36 with h2 | h2
  · exact okB_use ok2 (by omega) (by omega) hf hp
  rcases Nat.lt_or_ge g 48 with h3 | h3
  · exact okB_use ok3 (by omega) (by omega) hf hp
  rcases Nat.lt_or_ge g 60 with h4 | h4
  · exact okB_use ok4 (by omega) (by omega) hf hp
  rcases Nat.lt_or_ge g 72 with h5 | h5
  · exact okB_use ok5 (by omega) (by omega) hf hp
  rcases Nat.lt_or_ge g 84 with h6 | h6
  · exact okB_use ok6 (by omega) (by omega) hf hp
  rcases Nat.lt_or_ge g 96 with h7 | h7
  · exact okB_use ok7 (by omega) (by omega) hf hp
  rcases Nat.lt_or_ge g 108 with h8 | h8
  · exact okB_use ok8 (by omega) (by omega) hf hp
  rcases Nat.lt_or_ge g 120 with h9 | h9
  · exact okB_use ok9 (by omega) (by omega) hf hp
  rcases Nat.lt_or_ge g 132 with h10 | h10
  · exact okB_use ok10 (by omega) (by omega) hf hp
  rcases Nat.lt_or_ge g 144 with h11 | h11
  · exact okB_use ok11 (by omega) (by omega) hf hp
  exact okB_use ok12 (by omega) (by omega) hf hp
theorem normOk : NormOk X := by
  intro f key N h
  change nmL f key = some N at h
  unfold nmL at h
  split at h
  all_goals simp only [nmR4, nmR8, nmR9, nmR11, nmR12, nmR16, nmR18, nmR20, nmR21, nmR25, nmR27, nmR28, nmR30, nmR33, nmR39, nmR40, nmR46, nmR58, nmR65, nmR66, nmR67, nmR69, nmR70, nmR79, nmR80, nmR81, reduceCtorEq] at h
  all_goals (repeat' split at h)
  all_goals simp only [Option.some.injEq, reduceCtorEq] at h
  all_goals (subst h; exact ⟨by decide +kernel, rfl, by decide +kernel⟩)
theorem isClone : ∀ g t, X.clone g = some t → IsClone X g t := by
  intro g t h
  change cl g = some t at h
  unfold cl at h
  split at h <;> simp only [Option.some.injEq, reduceCtorEq] at h <;> subst h <;>
    exact ⟨rfl, by decide +kernel, _, _, _, _, _, _, _, _, _, _, _, _, _, _, _, rfl, rfl, rfl, rfl, by decide +kernel, ⟨rfl, rfl, rfl⟩, ⟨rfl, rfl, rfl⟩, ⟨rfl, rfl, rfl⟩, ⟨rfl, rfl, rfl⟩, ⟨rfl, rfl, rfl⟩, ⟨rfl, rfl, rfl⟩, ⟨rfl, rfl, rfl⟩, rfl, ⟨rfl, rfl, rfl⟩⟩
theorem primGood : ∀ g, (X.prim g).isSome = true → GoodF X g := by
  intro g h
  change (primD g).isSome = true at h
  have : g = 56 ∨ g = 59 ∨ g = 32 ∨ g = 17 ∨ g = 15 ∨ g = 54 ∨ g = 77 ∨ g = 87 ∨ g = 31 := by
    unfold primD at h
    repeat' split at h
    all_goals first | (simp at h; done) | (rename_i e; subst e; simp; done) | (rename_i e; rcases e with rfl | rfl | rfl | rfl <;> simp)
  rcases this with rfl | rfl | rfl | rfl | rfl | rfl | rfl | rfl | rfl <;> exact ⟨_, _, rfl, rfl, by decide +kernel⟩
theorem callOk : CallOk X (callL X) := callOk_of allOk normOk isClone (primOk rfl rfl) primGood
end Go.Proofs.YtcfmnogghcjdaaaGreatDoor
