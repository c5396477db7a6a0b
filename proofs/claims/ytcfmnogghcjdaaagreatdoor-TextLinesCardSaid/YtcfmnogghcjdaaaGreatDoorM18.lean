/- Part of a proof: E8, S19. -/
import Derived.Test.YtcfmnogghcjdaaaGreatDoorM12
import Derived.Test.YtcfmnogghcjdaaaGreatDoorM17
set_option linter.all false
set_option maxRecDepth 100000
set_option maxHeartbeats 20000000
namespace Go.Proofs.YtcfmnogghcjdaaaGreatDoor
open Go Go.Abs Go.Abs.Api
theorem ok_in {n : Int} (h : -1000000 ≤ n ∧ n ≤ 1000000) : okN n = true := by
  simp only [okN, Bool.and_eq_true, decide_eq_true_eq]; omega
theorem dnV_ok (l : List Int) (k : Int) {n : Int} (h : 1 ≤ n ∧ n ≤ 1000000) : okN (dnV l k n) = true := by
  have := dnV_in l k (n := n) h.1
  exact ok_in (by omega)
theorem dnV_ok1 (l : List Int) (k : Int) {n : Int} (h : 1 ≤ n ∧ n ≤ 100000) : okN (1 + dnV l k n) = true := by
  have := dnV_in l k (n := n) h.1
  exact ok_in (by omega)
theorem seedsUp_nums (l : List Int) (k : Int) : ∀ i, ∀ n ∈ (seedsUp l k i).1, okN n = true
  | 0, n, h => by simp [seedsUp] at h
  | i + 1, n, h => by
    rw [seedsUp_up] at h
    simp only [List.mem_append, List.mem_singleton] at h
    rcases h with h | rfl
    · exact seedsUp_nums l k i n h
    · exact dnV_ok _ _ (by omega)
theorem faultV_nums (l : List Int) (k bad : Int) (h : 1 ≤ bad ∧ bad ≤ 1000) : ∀ n ∈ faultN (faultV l k bad 40), okN n = true := by
  intro n hn
  simp only [faultN, faultV, List.mem_cons, List.mem_nil_iff, or_false] at hn
  rcases hn with rfl | rfl | rfl | rfl | rfl | rfl
  · exact dnV_ok _ _ (by omega)
  · exact dnV_ok _ _ (by omega)
  · exact dnV_ok1 _ _ (by omega)
  · have a := dnV_in l (dnK l (dnK l (dnK l k))) (n := 2) (by omega)
    have b := dnV_in l (dnK l (dnK l (dnK l (dnK l k)))) (n := 4) (by omega)
    have c : dnV l (dnK l (dnK l (dnK l k))) 2 = 0 ∨ dnV l (dnK l (dnK l (dnK l k))) 2 = 1 := by omega
    rcases c with c | c <;> rw [c] <;> exact ok_in (by omega)
  · exact dnV_ok _ _ (by omega)
  · exact dnV_ok _ _ (by omega)
theorem faultsUp_nums (l : List Int) (bad k : Int) (hb : 1 ≤ bad ∧ bad ≤ 1000) : ∀ i, ∀ f ∈ (faultsUp l bad k i).1, ∀ n ∈ faultN f, okN n = true
  | 0, f, h => by simp [faultsUp] at h
  | i + 1, f, h => by
    rw [faultsUp_up] at h
    simp only [List.mem_append, List.mem_singleton] at h
    rcases h with h | rfl
    · exact faultsUp_nums l bad k hb i f h
    · exact faultV_nums _ _ _ hb
theorem hangsUp_nums (l : List Int) (bad k : Int) (hb : 1 ≤ bad ∧ bad ≤ 1000) : ∀ i, ∀ f ∈ (hangsUp l bad k i).1, ∀ n ∈ hangN f, okN n = true
  | 0, f, h => by simp [hangsUp] at h
  | i + 1, f, h => by
    rw [hangsUp_up] at h
    simp only [List.mem_append, List.mem_singleton] at h
    rcases h with h | rfl
    · exact hangsUp_nums l bad k hb i f h
    · intro n hn
      simp only [hangN, hangV, List.mem_cons, List.mem_nil_iff, or_false] at hn
      rcases hn with rfl | rfl | rfl
      · exact dnV_ok _ _ (by omega)
      · exact dnV_ok _ _ (by omega)
      · exact dnV_ok1 _ _ (by omega)
theorem crashesUp_nums (l : List Int) (k : Int) : ∀ i, ∀ f ∈ (crashesUp l k i).1, ∀ n ∈ crashN f, okN n = true
  | 0, f, h => by simp [crashesUp] at h
  | i + 1, f, h => by
    rw [crashesUp_up] at h
    simp only [List.mem_append, List.mem_singleton] at h
    rcases h with h | rfl
    · exact crashesUp_nums l k i f h
    · intro n hn
      simp only [crashN, crashV, List.mem_cons, List.mem_nil_iff, or_false] at hn
      rcases hn with rfl | rfl
      · exact dnV_ok _ _ (by omega)
      · exact okN_b2i _
theorem choosUp_nums (l : List Int) (k : Int) : ∀ i, ∀ f ∈ (choosUp l k i).1, ∀ n ∈ choiceN f, okN n = true
  | 0, f, h => by simp [choosUp] at h
  | i + 1, f, h => by
    rw [choosUp_up] at h
    simp only [List.mem_append, List.mem_singleton] at h
    rcases h with h | rfl
    · exact choosUp_nums l k i f h
    · intro n hn
      simp only [choiceN, choosV, List.mem_cons, List.mem_nil_iff, or_false] at hn
      rcases hn with rfl | rfl | rfl
      · exact dnV_ok _ _ (by omega)
      · exact dnV_ok _ _ (by omega)
      · exact okN_b2i _
def trT (l : List Int) (bad k : Int) : Troubles := ⟨trF l bad k, trH l bad k, trC l bad k⟩
theorem made_check (l : List Int) (k k2 k3 : Int) {n : Nat} {bad most : Int} (hn : 1 ≤ n ∧ n ≤ 5) (hb : 1 ≤ bad ∧ bad ≤ 1000) (hm : 1 ≤ most ∧ most ≤ 100) : checkM (setupV l k n) (trT l bad k2) (chL l most k3) = 0 ∧ 1 ≤ (chL l most k3).length := by
  have a1 := dnV_in l k2 (n := 5) (by omega)
  have a2 := dnV_in l (trK1 l bad k2) (n := 4) (by omega)
  have a3 := dnV_in l (trK2 l bad k2) (n := 4) (by omega)
  have a4 := dnV_in l k3 (n := most) (by omega)
  have l1 : (setupV l k n).seeds.length = n := seedsUp_len _ _ _
  have l2 : (trF l bad k2).length = (dnV l k2 5).toNat := faultsUp_len _ _ _ _
  have l3 : (trH l bad k2).length = (dnV l (trK1 l bad k2) 4 - 1).toNat := hangsUp_len _ _ _ _
  have l4 : (trC l bad k2).length = (dnV l (trK2 l bad k2) 4 - 1).toNat := crashesUp_len _ _ _
  have l5 : (chL l most k3).length = (1 + dnV l k3 most).toNat := choosUp_len _ _ _
  have h1 : limitsB (setupV l k n) (trT l bad k2) (chL l most k3) = true := by
    simp only [limitsB, Bool.and_eq_true, decide_eq_true_eq, trT, l1, l2, l3, l4, l5]
    omega
  have h2 : numsB (setupV l k n) (trT l bad k2) (chL l most k3) = true := by
    refine (numsB_iff _ _ _).2 ⟨?_, seedsUp_nums _ _ _, faultsUp_nums _ _ _ hb _, hangsUp_nums _ _ _ hb _, crashesUp_nums _ _ _, choosUp_nums _ _ _⟩
    intro x hx
    simp only [setupN, setupV, setU, List.mem_cons, List.mem_nil_iff, or_false] at hx
    rcases hx with rfl | rfl | rfl | rfl | rfl | rfl
    · exact dnV_ok1 _ _ (by omega)
    · exact dnV_ok _ _ (by omega)
    · exact dnV_ok1 _ _ (by omega)
    · exact dnV_ok1 _ _ (by omega)
    · exact dnV_ok1 _ _ (by omega)
    · exact dnV_ok1 _ _ (by omega)
  exact ⟨by simp [checkM, h1, h2], by omega⟩
theorem text_len {u : Setup} {t : Troubles} {l : List Choice} (h : checkM u t l = 0) : (textM u t l).length ≤ 30000 := by
  obtain ⟨hl, hnum⟩ := check_zero h
  simp only [limitsB, Bool.and_eq_true, decide_eq_true_eq] at hl
  have := rowsS_len (R := rowsM u t l) fun r hr => ⟨rows_nums (by omega) r hr, List.all_eq_true.1 hnum r hr⟩
  have h2 := rowsM_len u t l
  unfold textM
  omega
theorem c_setup_team (l : List Int) (k : Int) (r : Int) (N : Nat) (hN : r = (N : Int)) (hd : DeckP l k) (hb : N ≤ 1000) : mcall X [] 9 2 (.agg [.sl false (l.map (V.int .i64)), .int .i64 k]) [.int .i64 r] = some (2, .agg [.sl false (l.map (V.int .i64)), .int .i64 (setupK l k N)], [(setupV l k N).enc], .bad) := f_team_Setup l k r N hN hd hb
end Go.Proofs.YtcfmnogghcjdaaaGreatDoor
namespace Go.Proofs.YtcfmnogghcjdaaaGreatDoor
open Go Go.Abs Go.Abs.Api
theorem f_law45_TextLines (l : List Int)  : pcall X 4 [.sl false (l.map (V.int .i64))] = some (.bool true) := by
  refine pcall_of Tryz.func4 rfl rfl ?_
  have haw := f_law45_awake
  have hF := f_make_Few l
  by_cases hfew : l.length ≤ 400
  case neg =>
    simp (maxSteps := 10000000) (maxDischargeDepth := 30) (implicitDefEqProofs := false) [haw, hF, hfew]
  have hd0 : DeckP l 0 := ⟨by omega, by omega⟩
  have v0 := dnV_in l 0 (n := 5) (by omega)
  obtain ⟨N, hN⟩ : ∃ N : Nat, 1 + dnV l 0 5 = N := ⟨(1 + dnV l 0 5).toNat, by omega⟩
  have wN : IntKind.i64.wrap (N : Int) = N := wrap_i64 (by omega)
  have hd1 := dnK_ok hd0
  obtain ⟨k1, hk1⟩ : ∃ k1, dnK l 0 = k1 := ⟨_, rfl⟩
  rw [hk1] at hd1
  have hs := f_team_Setup l k1 N N rfl hd1 (by omega)
  have hd2 := setupK_ok hd1 N
  obtain ⟨k2, hk2⟩ : ∃ k2, setupK l k1 N = k2 := ⟨_, rfl⟩
  rw [hk2] at hd2 hs
  have ht := f_team_Troubles l k2 3 hd2 (by omega)
  have hd3 : DeckP l (trK l 3 k2) := trK_ok hd2
  obtain ⟨k3, hk3⟩ : ∃ k3, trK l 3 k2 = k3 := ⟨_, rfl⟩
  rw [hk3] at hd3 ht
  have hc := f_team_Choices l k3 6 hd3 (by omega)
  obtain ⟨hck, hcl⟩ := made_check l k1 k2 k3 (n := N) (bad := 3) (most := 6) (by omega) (by omega) (by omega)
  have htt : trT l 3 k2 = ⟨trF l 3 k2, trH l 3 k2, trC l 3 k2⟩ := rfl
  rw [← htt] at ht
  generalize setupV l k1 N = uu at *
  generalize trT l 3 k2 = tt at *
  generalize chL l 6 k3 = cc at *
  generalize chK l 6 k3 = k4 at *
  have hlim := (check_zero hck).1
  simp only [limitsB, Bool.and_eq_true, decide_eq_true_eq] at hlim
  obtain ⟨⟨⟨⟨⟨l1, l2⟩, l3⟩, l4⟩, l5⟩, l6⟩ := hlim
  have hP := c_formatP uu tt cc (by omega)
  have hfm : formatM uu tt cc = (textM uu tt cc, 0) := by unfold formatM; rw [if_pos hck]
  rw [hfm] at hP
  simp only at hP
  have hcne : cc ≠ [] := by intro e; rw [e] at hcl; simp at hcl
  have hless := text_less hcne hck
  have hcount : (textM uu tt cc).count 10 = 2 + tt.faults.length + tt.hangs.length + tt.crashes.length + cc.length := by
    unfold textM; rw [count_rows, rowsM_len]
  have hlen := text_len hck
  obtain ⟨s1, hs1⟩ := text_head uu tt cc
  have hp1 := c_parseP ((textM uu tt cc).take (lastU (textM uu tt cc) (textM uu tt cc).length)) (by rw [List.length_take]; omega)
  have hp2 := c_parseP [115] (by simp)
  rw [hless] at hp1
  rw [parse_one] at hp2
  have hlu := lastU_le (textM uu tt cc)
  have htk1 : (textM uu tt cc).take 1 = [115] := by rw [hs1]; rfl
  have hsne : ¬ textM uu tt cc = [] := by rw [hs1]; simp
  have hspos : 1 ≤ (textM uu tt cc).length := by rw [hs1]; simp
  have hdl : cc.dropLast.length = cc.length - 1 := List.length_dropLast
  generalize cc.dropLast = cd at *
  clear hs1 hfm hless hcne
  simp only [Setup.enc_eq, Troubles.enc_eq] at hP hp1 hp2
  generalize bareU uu = bu at *
  generalize textM uu tt cc = s at *
  simp only at hs ht hc
  have hlp : ∀ i, (s.take i).count 10 ≤ i := fun i => by
    have := List.count_le_length (a := (10 : UInt8)) (l := s.take i)
    rw [List.length_take] at this
    omega
  have hse : (s = []) = False := eq_false hsne
  simp (maxSteps := 10000000) (maxDischargeDepth := 30) (implicitDefEqProofs := false) [haw, hF, hfew, hd0, hN, wN, hk1, hs, ht, hc, hP, hse, -f_team_Setup, -f_team_Troubles, -f_team_Choices, -f_text_Format, -f_text_Parse]
  refine Wp_up (fun i S => (S.f 5 = .ptr 5 0 0 ∧ S.h 5 = some ⟨3, [.agg [.sl false (tt.faults.map Fault.enc), .sl false (tt.hangs.map Hang.enc), .sl false (tt.crashes.map Crash.enc)]], true⟩ ∧ S.f 6 = .sl false ((cc).map Choice.enc) ∧ S.f 7 = .str (s) ∧ S.f 8 = .int .i64 (0) ∧ S.f 9 = .int .i64 (((s.take i).count 10 : Int)) ∧ S.f 10 = .int .i64 ((lastU s i : Int)) ∧ S.f 11 = .int .i64 (i : Int) ∧ S.n = 1100) ∧ True) (s.length) ?_ 0 (by simp) ?_
  · rintro i S hii ⟨hI0, hP0⟩
    have hwi : IntKind.i64.wrap ((i : Int) + 1) = (i : Int) + 1 := wrap_i64 (by omega)
    by_cases hlti : i < s.length
    · have hsi : s[i]? = some s[i] := by simp
      have hgd : s.getD i 0 = s[i] := getD_at s 0 hlti
      have hlu1 := hlu i
      have hlp1 := hlp i
      have hcn : (s.take (i + 1)).count 10 = (s.take i).count 10 + (if s[i] = 10 then 1 else 0) := by
        rw [take_snoc hlti, List.count_append]
        by_cases h : s[i] = 10 <;> simp [h]
      have hup := lastU_up s i
      rw [hgd] at hup
      have hx := s[i].toNat_lt
      have hxe : (((s[i].toNat : Nat) : Int) = 10) = (s[i] = 10) := by
        apply propext
        constructor
        · intro h; exact UInt8.toNat_inj.1 (by show _ = 10; omega)
        · intro h; rw [h]; rfl
      have wl : IntKind.i64.wrap ((s.length : Int) - 1) = (s.length : Int) - 1 := wrap_i64 (by omega)
      have wc : IntKind.i64.wrap (((s.take i).count 10 : Nat) + 1 : Int) = ((s.take i).count 10 : Nat) + 1 := wrap_i64 (by omega)
      generalize (s.take i).count 10 = cn at *
      generalize lastU s i = lu at *
      by_cases h10 : s[i] = 10
      · rw [if_pos h10] at hcn
        by_cases hlt2 : i + 1 < s.length
        · rw [if_pos ⟨h10, hlt2⟩] at hup
          have hl2 : (i : Int) < (s.length : Int) - 1 := by omega
          simp (maxSteps := 10000000) (maxDischargeDepth := 30) (implicitDefEqProofs := false) [hI0, hii, hwi, hlti, hsi, hxe, h10, hl2, wl, wc]
          omega
        · rw [if_neg (fun h => hlt2 h.2)] at hup
          have hl2 : ¬ (i : Int) < (s.length : Int) - 1 := by omega
          simp (maxSteps := 10000000) (maxDischargeDepth := 30) (implicitDefEqProofs := false) [hI0, hii, hwi, hlti, hsi, hxe, h10, hl2, wl, wc]
          omega
      · rw [if_neg h10] at hcn
        rw [if_neg (fun h => h10 h.1)] at hup
        simp (maxSteps := 10000000) (maxDischargeDepth := 30) (implicitDefEqProofs := false) [hI0, hii, hwi, hlti, hsi, hxe, h10]
        omega
    · have hei : s.length = i := by omega
      subst hei
      rw [List.take_length, hcount] at hI0
      have hl1 := hlu s.length
      have hl2 : (lastU s s.length : Int) ≤ (s.length : Int) := by omega
      have hl3 : (1 : Int) ≤ (s.length : Int) := by omega
      generalize lastU s s.length = lu at *
      have w1 : IntKind.i64.wrap (2 + (tt.faults.length : Int)) = 2 + (tt.faults.length : Int) := wrap_i64 (by omega)
      have w2 : IntKind.i64.wrap (2 + (tt.faults.length : Int) + (tt.hangs.length : Int)) = 2 + (tt.faults.length : Int) + (tt.hangs.length : Int) := wrap_i64 (by omega)
      have w3 : IntKind.i64.wrap (2 + (tt.faults.length : Int) + (tt.hangs.length : Int) + (tt.crashes.length : Int)) = 2 + (tt.faults.length : Int) + (tt.hangs.length : Int) + (tt.crashes.length : Int) := wrap_i64 (by omega)
      have w4 : IntKind.i64.wrap (2 + (tt.faults.length : Int) + (tt.hangs.length : Int) + (tt.crashes.length : Int) + (cc.length : Int)) = 2 + (tt.faults.length : Int) + (tt.hangs.length : Int) + (tt.crashes.length : Int) + (cc.length : Int) := wrap_i64 (by omega)
      have w5 : IntKind.i64.wrap ((cc.length : Int) - 1) = (cc.length : Int) - 1 := wrap_i64 (by omega)
      have hcd : (cd.length : Int) = (cc.length : Int) - 1 := by omega
      simp (maxSteps := 10000000) (maxDischargeDepth := 30) (implicitDefEqProofs := false) [hI0, hii, hwi, hlti, haw, hp1, hp2, htk1, hl1, hl2, hl3, hspos, w1, w2, w3, w4, w5, hcd, noSetup, noTroubles, -f_text_Parse]
  · simp (maxSteps := 10000000) (maxDischargeDepth := 30) (implicitDefEqProofs := false) [] <;> (
      simp [lastU])
end Go.Proofs.YtcfmnogghcjdaaaGreatDoor
