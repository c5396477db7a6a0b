/- the dev seat's environment, and tests -/
import Derived.Test.YtcbddnmodlhnaaaC1
import Derived.Test.YtcbddnmodlhnaaaW
import Derived.Test.YtcbddnmodlhnaaaProg
set_option linter.unusedVariables false
set_option linter.unusedSimpArgs false
namespace Go.Proofs.Ytcbddnmodlhnaaa
open Go Go.Abs
def ti : TypeId → TI
  | 3 => ⟨1, 8, false, .int .i64 0, 0, [], none, some .i64, [0]⟩   -- int
  | 4 => ⟨1, 1, false, .bool false, 0, [], none, none, [1]⟩   -- bool
  | 5 => ⟨1, 1, false, .int .u8 0, 0, [], none, some .u8, [0]⟩   -- uint8
  | 22 => ⟨1, 24, false, .sl true [], 28, [], none, none, []⟩   -- []api.Snapshot
  | 23 => ⟨1, 24, false, .sl true [], 42, [], none, none, []⟩   -- [][]api.Canon
  | 24 => ⟨1, 24, false, .sl true [], 45, [], none, none, []⟩   -- []api.View
  | 26 => ⟨2, 48, true, .agg [.sl true [], .sl true []], 0, [(0, 1), (1, 1)], none, none, []⟩   -- api.State
  | 28 => ⟨3, 56, true, .agg [.int .i64 0, .sl true [], .sl true []], 0, [(0, 1), (1, 2)], none, none, []⟩   -- api.Snapshot
  | 31 => ⟨1, 8, false, .int .i64 0, 0, [], none, some .i64, [0]⟩   -- api.Errno
  | 40 => ⟨1, 24, false, .sl true [], 5, [], none, none, []⟩   -- []uint8
  | 42 => ⟨1, 24, false, .sl true [], 59, [], none, none, []⟩   -- []api.Canon
  | 43 => ⟨1, 2, false, .int .u16 0, 0, [], none, some .u16, [0]⟩   -- uint16
  | 45 => ⟨8, 80, true, .agg [.int .i64 0, .int .i64 0, .int .i64 0, .int .i64 0, .int .i64 0, .int .i64 0, .int .u16 0, .sl true []], 0, [(0, 1), (1, 1), (2, 1), (3, 1), (4, 1), (5, 1), (6, 1), (7, 1)], none, none, []⟩   -- api.View
  | 59 => ⟨4, 24, true, .agg [.int .u8 0, .int .u16 0, .int .i64 0, .int .i64 0], 0, [(0, 1), (1, 1), (2, 1), (3, 1)], none, none, [0, 0, 0, 0]⟩   -- api.Canon
  | _ => default
@[simp] theorem ti_3 : ti 3 = ⟨1, 8, false, .int .i64 0, 0, [], none, some .i64, [0]⟩ := rfl
@[simp] theorem ti_4 : ti 4 = ⟨1, 1, false, .bool false, 0, [], none, none, [1]⟩ := rfl
@[simp] theorem ti_5 : ti 5 = ⟨1, 1, false, .int .u8 0, 0, [], none, some .u8, [0]⟩ := rfl
@[simp] theorem ti_22 : ti 22 = ⟨1, 24, false, .sl true [], 28, [], none, none, []⟩ := rfl
@[simp] theorem ti_23 : ti 23 = ⟨1, 24, false, .sl true [], 42, [], none, none, []⟩ := rfl
@[simp] theorem ti_24 : ti 24 = ⟨1, 24, false, .sl true [], 45, [], none, none, []⟩ := rfl
@[simp] theorem ti_26 : ti 26 = ⟨2, 48, true, .agg [.sl true [], .sl true []], 0, [(0, 1), (1, 1)], none, none, []⟩ := rfl
@[simp] theorem ti_28 : ti 28 = ⟨3, 56, true, .agg [.int .i64 0, .sl true [], .sl true []], 0, [(0, 1), (1, 2)], none, none, []⟩ := rfl
@[simp] theorem ti_31 : ti 31 = ⟨1, 8, false, .int .i64 0, 0, [], none, some .i64, [0]⟩ := rfl
@[simp] theorem ti_40 : ti 40 = ⟨1, 24, false, .sl true [], 5, [], none, none, []⟩ := rfl
@[simp] theorem ti_42 : ti 42 = ⟨1, 24, false, .sl true [], 59, [], none, none, []⟩ := rfl
@[simp] theorem ti_43 : ti 43 = ⟨1, 2, false, .int .u16 0, 0, [], none, some .u16, [0]⟩ := rfl
@[simp] theorem ti_45 : ti 45 = ⟨8, 80, true, .agg [.int .i64 0, .int .i64 0, .int .i64 0, .int .i64 0, .int .i64 0, .int .i64 0, .int .u16 0, .sl true []], 0, [(0, 1), (1, 1), (2, 1), (3, 1), (4, 1), (5, 1), (6, 1), (7, 1)], none, none, []⟩ := rfl
@[simp] theorem ti_59 : ti 59 = ⟨4, 24, true, .agg [.int .u8 0, .int .u16 0, .int .i64 0, .int .i64 0], 0, [(0, 1), (1, 1), (2, 1), (3, 1)], none, none, [0, 0, 0, 0]⟩ := rfl
def cl : FuncId → Option TypeId
  | 22 => some 22
  | 27 => some 23
  | 28 => some 24
  | 29 => some 42
  | _ => none
def exc : FuncId → Nat → List (Nat × Nat)
  | 19, 5 => [(1, 9), (1, 10)]
  | 19, 9 => [(1, 9)]
  | 23, 1 => [(4, 0)]
  | 23, 5 => [(1, 5)]
  | _, _ => []
noncomputable def X : Env := { P := Try.prog, ti := ti, thaw := fun f d => decide ((f, d) ∈ [(7, 10), (15, 7), (23, 9), (23, 12)]), byref := fun _ => false, clone := cl, keepT := fun _ => false, exc := exc }
@[simp] theorem X_P : X.P = Try.prog := rfl
@[simp] theorem X_ti : X.ti = ti := rfl
@[simp] theorem X_thaw (f d : Nat) : X.thaw f d = decide ((f, d) ∈ [(7, 10), (15, 7), (23, 9), (23, 12)]) := rfl
@[simp] theorem X_byref (g : Nat) : X.byref g = false := rfl
@[simp] theorem X_keepT (g : Nat) : X.keepT g = false := rfl
@[simp] theorem X_exc (f r : Nat) : X.exc f r = exc f r := rfl
@[simp] theorem X_clone (g : Nat) : X.clone g = cl g := rfl

attribute [simp] cl.eq_1 cl.eq_2 cl.eq_3 cl.eq_4 cl.eq_5 exc.eq_1 exc.eq_2 exc.eq_3 exc.eq_4 exc.eq_5
theorem ok0 : okB X 0 16 = true := by decide +kernel
theorem ok1 : okB X 16 16 = true := by decide +kernel
theorem ok2 : okB X 32 15 = true := by decide +kernel
theorem allOk : AllOk X (drawB X) := by
  intro g fn hf
  have hg : g < 47 := (Array.getElem?_eq_some_iff.1 hf).1
  rcases Nat.lt_or_ge g 16 with h | h
  · exact okB_use ok0 (Nat.zero_le _) (by omega) hf
  · rcases Nat.lt_or_ge g 32 with h | h
    · exact okB_use ok1 (by omega) (by omega) hf
    · exact okB_use ok2 (by omega) (by omega) hf
theorem isClone : ∀ g t, X.clone g = some t → IsClone X g t := by
  intro g t h
  simp only [X_clone, cl] at h
  split at h <;> simp only [Option.some.injEq, reduceCtorEq] at h <;> subst h <;>
    exact ⟨rfl, by decide +kernel, _, _, _, _, _, _, _, _, _, _, _, _, _, _, _, rfl, rfl, rfl, rfl, by decide +kernel, ⟨rfl, rfl, rfl⟩, ⟨rfl, rfl, rfl⟩, ⟨rfl, rfl, rfl⟩, ⟨rfl, rfl, rfl⟩, ⟨rfl, rfl, rfl⟩, ⟨rfl, rfl, rfl⟩, ⟨rfl, rfl, rfl⟩, rfl, ⟨rfl, rfl, rfl⟩⟩
theorem callOk : CallOk X (callL X) := callOk_of allOk isClone
end Go.Proofs.Ytcbddnmodlhnaaa
