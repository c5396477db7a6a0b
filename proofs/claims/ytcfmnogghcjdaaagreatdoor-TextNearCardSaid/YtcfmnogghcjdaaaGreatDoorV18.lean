/- Part of a proof: E8. -/
import Derived.Test.YtcfmnogghcjdaaaGreatDoorV12
import Derived.Test.YtcfmnogghcjdaaaGreatDoorV17
set_option linter.all false
set_option maxRecDepth 100000
set_option maxHeartbeats 20000000
namespace Go.Proofs.YtcfmnogghcjdaaaGreatDoor
open Go Go.Abs Go.Abs.Api
theorem ok_in {n : Int} (h : -1000000 ≤ n ∧ n ≤ 1000000) : okN n = true := by
  simp only [okN, Bool.and_eq_true, decide_eq_true_eq]; omega
theorem dnV_ok (l : List Int) (k : Int) {n : Int} (h : 1 ≤ n ∧ n ≤ 1000000) : okN (dnV l k n) = true := by
  have := dnV_in l k (n := n) h.1
  exact ok_in (by omega)
theorem dnV_ok1 (l : List Int) (k : Int) {n : Int} (h : 1 ≤ n ∧ n ≤ 100000) : okN (1 + dnV l k n) = true := by
  have := dnV_in l k (n := n) h.1
  exact ok_in (by omega)
theorem seedsUp_nums (l : List Int) (k : Int) : ∀ i, ∀ n ∈ (seedsUp l k i).1, okN n = true
  | 0, n, h => by simp [seedsUp] at h
  | i + 1, n, h => by
    rw [seedsUp_up] at h
    simp only [List.mem_append, List.mem_singleton] at h
    rcases h with h | rfl
    · exact seedsUp_nums l k i n h
    · exact dnV_ok _ _ (by omega)
theorem faultV_nums (l : List Int) (k bad : Int) (h : 1 ≤ bad ∧ bad ≤ 1000) : ∀ n ∈ faultN (faultV l k bad 40), okN n = true := by
  intro n hn
  simp only [faultN, faultV, List.mem_cons, List.mem_nil_iff, or_false] at hn
  rcases hn with rfl | rfl | rfl | rfl | rfl | rfl
  · exact dnV_ok _ _ (by omega)
  · exact dnV_ok _ _ (by omega)
  · exact dnV_ok1 _ _ (by omega)
  · have a := dnV_in l (dnK l (dnK l (dnK l k))) (n := 2) (by omega)
    have b := dnV_in l (dnK l (dnK l (dnK l (dnK l k)))) (n := 4) (by omega)
    have c : dnV l (dnK l (dnK l (dnK l k))) 2 = 0 ∨ dnV l (dnK l (dnK l (dnK l k))) 2 = 1 := by omega
    rcases c with c | c <;> rw [c] <;> exact ok_in (by omega)
  · exact dnV_ok _ _ (by omega)
  · exact dnV_ok _ _ (by omega)
theorem faultsUp_nums (l : List Int) (bad k : Int) (hb : 1 ≤ bad ∧ bad ≤ 1000) : ∀ i, ∀ f ∈ (faultsUp l bad k i).1, ∀ n ∈ faultN f, okN n = true
  | 0, f, h => by simp [faultsUp] at h
  | i + 1, f, h => by
    rw [faultsUp_up] at h
    simp only [List.mem_append, List.mem_singleton] at h
    rcases h with h | rfl
    · exact faultsUp_nums l bad k hb i f h
    · exact faultV_nums _ _ _ hb
theorem hangsUp_nums (l : List Int) (bad k : Int) (hb : 1 ≤ bad ∧ bad ≤ 1000) : ∀ i, ∀ f ∈ (hangsUp l bad k i).1, ∀ n ∈ hangN f, okN n = true
  | 0, f, h => by simp [hangsUp] at h
  | i + 1, f, h => by
    rw [hangsUp_up] at h
    simp only [List.mem_append, List.mem_singleton] at h
    rcases h with h | rfl
    · exact hangsUp_nums l bad k hb i f h
    · intro n hn
      simp only [hangN, hangV, List.mem_cons, List.mem_nil_iff, or_false] at hn
      rcases hn with rfl | rfl | rfl
      · exact dnV_ok _ _ (by omega)
      · exact dnV_ok _ _ (by omega)
      · exact dnV_ok1 _ _ (by omega)
theorem crashesUp_nums (l : List Int) (k : Int) : ∀ i, ∀ f ∈ (crashesUp l k i).1, ∀ n ∈ crashN f, okN n = true
  | 0, f, h => by simp [crashesUp] at h
  | i + 1, f, h => by
    rw [crashesUp_up] at h
    simp only [List.mem_append, List.mem_singleton] at h
    rcases h with h | rfl
    · exact crashesUp_nums l k i f h
    · intro n hn
      simp only [crashN, crashV, List.mem_cons, List.mem_nil_iff, or_false] at hn
      rcases hn with rfl | rfl
      · exact dnV_ok _ _ (by omega)
      · exact okN_b2i _
theorem choosUp_nums (l : List Int) (k : Int) : ∀ i, ∀ f ∈ (choosUp l k i).1, ∀ n ∈ choiceN f, okN n = true
  | 0, f, h => by simp [choosUp] at h
  | i + 1, f, h => by
    rw [choosUp_up] at h
    simp only [List.mem_append, List.mem_singleton] at h
    rcases h with h | rfl
    · exact choosUp_nums l k i f h
    · intro n hn
      simp only [choiceN, choosV, List.mem_cons, List.mem_nil_iff, or_false] at hn
      rcases hn with rfl | rfl | rfl
      · exact dnV_ok _ _ (by omega)
      · exact dnV_ok _ _ (by omega)
      · exact okN_b2i _
def trT (l : List Int) (bad k : Int) : Troubles := ⟨trF l bad k, trH l bad k, trC l bad k⟩
theorem made_check (l : List Int) (k k2 k3 : Int) {n : Nat} {bad most : Int} (hn : 1 ≤ n ∧ n ≤ 5) (hb : 1 ≤ bad ∧ bad ≤ 1000) (hm : 1 ≤ most ∧ most ≤ 100) : checkM (setupV l k n) (trT l bad k2) (chL l most k3) = 0 ∧ 1 ≤ (chL l most k3).length := by
  have a1 := dnV_in l k2 (n := 5) (by omega)
  have a2 := dnV_in l (trK1 l bad k2) (n := 4) (by omega)
  have a3 := dnV_in l (trK2 l bad k2) (n := 4) (by omega)
  have a4 := dnV_in l k3 (n := most) (by omega)
  have l1 : (setupV l k n).seeds.length = n := seedsUp_len _ _ _
  have l2 : (trF l bad k2).length = (dnV l k2 5).toNat := faultsUp_len _ _ _ _
  have l3 : (trH l bad k2).length = (dnV l (trK1 l bad k2) 4 - 1).toNat := hangsUp_len _ _ _ _
  have l4 : (trC l bad k2).length = (dnV l (trK2 l bad k2) 4 - 1).toNat := crashesUp_len _ _ _
  have l5 : (chL l most k3).length = (1 + dnV l k3 most).toNat := choosUp_len _ _ _
  have h1 : limitsB (setupV l k n) (trT l bad k2) (chL l most k3) = true := by
    simp only [limitsB, Bool.and_eq_true, decide_eq_true_eq, trT, l1, l2, l3, l4, l5]
    omega
  have h2 : numsB (setupV l k n) (trT l bad k2) (chL l most k3) = true := by
    refine (numsB_iff _ _ _).2 ⟨?_, seedsUp_nums _ _ _, faultsUp_nums _ _ _ hb _, hangsUp_nums _ _ _ hb _, crashesUp_nums _ _ _, choosUp_nums _ _ _⟩
    intro x hx
    simp only [setupN, setupV, setU, List.mem_cons, List.mem_nil_iff, or_false] at hx
    rcases hx with rfl | rfl | rfl | rfl | rfl | rfl
    · exact dnV_ok1 _ _ (by omega)
    · exact dnV_ok _ _ (by omega)
    · exact dnV_ok1 _ _ (by omega)
    · exact dnV_ok1 _ _ (by omega)
    · exact dnV_ok1 _ _ (by omega)
    · exact dnV_ok1 _ _ (by omega)
  exact ⟨by simp [checkM, h1, h2], by omega⟩
theorem text_len {u : Setup} {t : Troubles} {l : List Choice} (h : checkM u t l = 0) : (textM u t l).length ≤ 30000 := by
  obtain ⟨hl, hnum⟩ := check_zero h
  simp only [limitsB, Bool.and_eq_true, decide_eq_true_eq] at hl
  have := rowsS_len (R := rowsM u t l) fun r hr => ⟨rows_nums (by omega) r hr, List.all_eq_true.1 hnum r hr⟩
  have h2 := rowsM_len u t l
  unfold textM
  omega
theorem c_setup_team (l : List Int) (k : Int) (r : Int) (N : Nat) (hN : r = (N : Int)) (hd : DeckP l k) (hb : N ≤ 1000) : mcall X [] 9 2 (.agg [.sl false (l.map (V.int .i64)), .int .i64 k]) [.int .i64 r] = some (2, .agg [.sl false (l.map (V.int .i64)), .int .i64 (setupK l k N)], [(setupV l k N).enc], .bad) := f_team_Setup l k r N hN hd hb
end Go.Proofs.YtcfmnogghcjdaaaGreatDoor
