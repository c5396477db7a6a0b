/- The last snapshot up to an entry; how light a state is. -/
import Derived.Test.YtcbddnmodlhnaaaS2
set_option linter.unusedVariables false
set_option linter.unusedSimpArgs false
namespace Go.Proofs.Ytcbddnmodlhnaaa
open Go Go.Abs

/-- the last one up to an entry, of the first ones -/
def lastO (ts : List Int) (a : Int) : Nat → Option Nat
  | 0 => none
  | n + 1 => match lastO ts a n with
    | none => if ts.getD n 0 ≤ a then some n else none
    | some k => if ts.getD n 0 ≤ a ∧ ts.getD k 0 ≤ ts.getD n 0 then some n else some k

theorem lastO_lt {ts : List Int} {a : Int} : ∀ {n k : Nat}, lastO ts a n = some k → k < n
  | 0, k, h => by cases h
  | n + 1, k, h => by
    simp only [lastO] at h
    split at h
    · split at h
      · cases h; omega
      · cases h
    · rename_i k' hk
      have := lastO_lt hk
      split at h <;> cases h <;> omega

def optI : Option Nat → Int
  | none => -1
  | some k => k

set_option maxRecDepth 20000 in
@[simp] theorem s20 (l : List Snap) (a : Int) (hm : l.length ≤ 1000000000) : pcall X 20 [.sl false (l.map Snap.enc), .int .i64 a] = some (.int .i64 (optI (lastO (l.map Snap.time) a l.length))) := by
  refine pcall_of Try.func20 rfl rfl ?_
  simp (implicitDefEqProofs := false)
  refine Wp_up (fun i S => S.f 0 = .sl false (l.map Snap.enc) ∧ S.f 1 = .int .i64 a ∧ S.f 8 = .sl false (l.map Snap.enc) ∧ S.f 9 = .int .i64 l.length ∧ S.f 10 = .int .i64 i ∧ S.f 5 = .int .i64 (optI (lastO (l.map Snap.time) a i))) l.length ?_ 0 (by simp) (by simp [lastO, optI])
  rintro i S hi ⟨f0, f1, f8, f9, f10, f5⟩
  by_cases hlt : i < l.length
  · cases ho : lastO (l.map Snap.time) a i with
    | none =>
      rw [ho] at f5
      simp (implicitDefEqProofs := false) [f0, f1, f8, f9, f10, f5, hlt, wrap_succ (show i ≤ 1000000000 by omega), Snap.enc_eq, lastO, ho, optI]
      exact ⟨fun h => by simp [h], fun h => by rw [if_neg (by omega)]⟩
    | some k =>
      have hk := lastO_lt ho
      have hk' : k < l.length := by omega
      rw [ho] at f5
      simp (implicitDefEqProofs := false) [f0, f1, f8, f9, f10, f5, hlt, hk', wrap_succ (show i ≤ 1000000000 by omega), Snap.enc_eq, lastO, ho, optI]
      exact ⟨fun h => ⟨⟨fun h2 => by simp [h, h2], fun h2 => by rw [if_neg (by omega)]⟩, fun h2 => by omega⟩, fun h => by rw [if_neg (by omega)]⟩
  · have hi' : i = l.length := by omega
    simp (implicitDefEqProofs := false) [f0, f5, f9, f10, hlt, hi']

def lastS (l : List Snap) (a : Int) : Option Snap := (lastO (l.map Snap.time) a l.length).bind (l[·]?)
def encLast : Option Snap → V
  | none => .tup [.agg [.int .i64 0, .sl false [], .sl false []], .bool false]
  | some s => .tup [s.enc, .bool true]

set_option maxRecDepth 20000 in
@[simp] theorem s10 (l : List Snap) (a : Int) (hm : l.length ≤ 1000000000) : pcall X 10 [.sl false (l.map Snap.enc), .int .i64 a] = some (encLast (lastS l a)) := by
  refine pcall_of Try.func10 rfl rfl ?_
  simp (implicitDefEqProofs := false)
  refine Wp_up (fun i S => S.f 0 = .sl false (l.map Snap.enc) ∧ S.f 1 = .int .i64 a ∧ S.f 4 = .ptr 0 0 0 ∧ S.h 0 = some ⟨3, [.agg [.int .i64 0, .sl true [], .sl true []]], true⟩ ∧ S.f 8 = .int .i64 i ∧
    match lastO (l.map Snap.time) a i with | none => S.f 6 = .int .i64 0 ∧ S.f 7 = .bool false | some k => S.f 6 = .int .i64 k ∧ S.f 7 = .bool true) l.length ?_ 0 (by simp) (by simp [lastO])
  rintro i S hi ⟨f0, f1, f4, h0, f8, f67⟩
  by_cases hlt : i < l.length
  · cases ho : lastO (l.map Snap.time) a i with
    | none =>
      rw [ho] at f67
      obtain ⟨f6, f7⟩ := f67
      simp (implicitDefEqProofs := false) [f0, f1, f4, f6, f7, f8, h0, hlt, wrap_succ (show i ≤ 1000000000 by omega), Snap.enc_eq, lastO, ho]
      exact ⟨fun h => by simp [h], fun h => by rw [if_neg (by omega)]; trivial⟩
    | some k =>
      have hk := lastO_lt ho
      have hk' : k < l.length := by omega
      rw [ho] at f67
      obtain ⟨f6, f7⟩ := f67
      simp (implicitDefEqProofs := false) [f0, f1, f4, f6, f7, f8, h0, hlt, hk', wrap_succ (show i ≤ 1000000000 by omega), Snap.enc_eq, lastO, ho]
      exact ⟨fun h => ⟨fun h2 => by simp [h, h2], fun h2 => by rw [if_neg (by omega)]⟩, fun h => by rw [if_neg (by omega)]⟩
  · have hi' : i = l.length := by omega
    subst hi'
    cases ho : lastO (l.map Snap.time) a l.length with
    | none =>
      rw [ho] at f67
      obtain ⟨f6, f7⟩ := f67
      simp (implicitDefEqProofs := false) [f0, f1, f4, f6, f7, f8, h0, lastS, ho, encLast]
    | some k =>
      have hk := lastO_lt ho
      rw [ho] at f67
      obtain ⟨f6, f7⟩ := f67
      simp (implicitDefEqProofs := false) [f0, f1, f4, f6, f7, f8, h0, lastS, ho, encLast, hk, Snap.enc_eq]

end Go.Proofs.Ytcbddnmodlhnaaa
