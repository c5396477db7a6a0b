/- The laws of the store. -/
import Derived.Test.YtcbddnmodlhnaaaS4
set_option linter.unusedVariables false
set_option linter.unusedSimpArgs false
namespace Go.Proofs.Ytcbddnmodlhnaaa
open Go Go.Abs

theorem smallS_get {l : List Snap} (hs : SmallS l) {k : Nat} (h : k < l.length) : SmallR l[k].regions ∧ SmallT l[k].threads := hs.2 _ (List.getElem_mem h)

set_option maxRecDepth 20000 in
@[simp] theorem s9 (l : List Snap) (a : Int) (hs : SmallS l) : pcall X 9 [.sl false (l.map Snap.enc), .int .i64 a] = some (encLast (lastS l a)) := by
  refine pcall_of Try.func9 rfl rfl ?_
  have hm := hs.1
  cases ho : lastO (l.map Snap.time) a l.length with
  | none => simp (implicitDefEqProofs := false) [hm, ho, optI, lastS, encLast]
  | some k =>
    have hk := lastO_lt ho
    have hx := smallS_get hs hk
    have hc := s17 l[k] hx.1 hx.2
    simp only [Snap.enc_eq] at hc
    simp (implicitDefEqProofs := false) [hm, ho, optI, lastS, encLast, hk, Snap.enc_eq, hc]

/-- the store with a snapshot at its end -/
def keepL (l : List Snap) (s : Snap) : List Snap × Int :=
  if chk (l.map Snap.time) ≠ 0 then (l, chk (l.map Snap.time))
  else if entry s.time = false ∨ (0 < l.length ∧ s.time ≤ (l.map Snap.time).getD (l.length - 1) 0) then (l, 35)
  else ((if l.length = 8 then l.take 1 ++ l.drop 2 else l) ++ [s], 0)

theorem chk_len {ts : List Int} (h : chk ts = 0) : ts.length ≤ 8 := by
  unfold chk at h
  split at h
  · cases h
  · omega

theorem enc_snoc (l : List Snap) (s : Snap) : l.map Snap.enc ++ [V.agg [.int .i64 s.time, .sl false (s.regions.map encR), .sl false (s.threads.map View.enc)]] = (l ++ [s]).map Snap.enc := by
  rw [List.map_append]; rfl

set_option maxRecDepth 20000 in
theorem s7 (l : List Snap) (s : Snap) (hs : SmallS l) (hr : SmallR s.regions) (ht : SmallT s.threads) : pcall X 7 [.sl false (l.map Snap.enc), s.enc] = some (.tup [.sl false ((keepL l s).1.map Snap.enc), .int .i64 (keepL l s).2]) := by
  refine pcall_of Try.func7 rfl rfl ?_
  have hm := hs.1
  have hc := s17 s hr ht
  simp only [Snap.enc_eq] at hc
  obtain ⟨v, h', k', h15, rfl, hh, hk'⟩ := s15 l hs
  have q0 : (10 < 6) = False := by simp
  by_cases hk : chk (l.map Snap.time) = 0
  case neg =>
    simp (implicitDefEqProofs := false) [Snap.enc_eq, h15, hk, keepL, hh]
  have h8 : l.length ≤ 8 := by simpa using chk_len hk
  cases he : entry s.time with
  | false =>
    simp (implicitDefEqProofs := false) [Snap.enc_eq, h15, hk, he, keepL, hh]
  | true =>
    have e1 : ∀ j, j < 11 → (j = k') = False := by intros; simp; omega
    have e2 : ∀ j, j < 11 → (k' = j) = False := by intros; simp; omega
    have e3 : ∀ j k, j < 11 → (j = k' + k) = False := by intros; simp; omega
    have e4 : ∀ j k, j < 11 → (k' + k = j) = False := by intros; simp; omega
    have b1 : (l.length + 1) * 56 ≤ 140737488355328 := by omega
    have b2 : l.length + 1 ≤ 4611686018427387904 := by omega
    by_cases h0 : 0 < l.length
    case neg =>
      have h88 : ¬ l.length = 8 := by omega
      have hi8 : ((l.length : Int) = 8) = False := by simp; omega
      simp (implicitDefEqProofs := false) [Snap.enc_eq, h15, hk, he, keepL, hc, hh, h0, h88, hi8, e1, e2, e3, e4, b1, b2]
      rw [enc_snoc, List.take_of_length_le (by simp)]
      exact dull_snap _
    have hw := wrap_pred h0 (show l.length ≤ 1000000000 by omega)
    have hlt : l.length - 1 < l.length := by omega
    have hg : (l.map Snap.time).getD (l.length - 1) 0 = l[l.length - 1].time := getT hlt
    by_cases hle : s.time ≤ l[l.length - 1].time
    · simp (implicitDefEqProofs := false) [Snap.enc_eq, h15, hk, he, keepL, hw, hlt, h0, hle, hh]
    · have hle' : ¬ (s.time ≤ (l.map Snap.time).getD (l.length - 1) 0) := by rw [hg]; exact hle
      by_cases h88 : l.length = 8
      · have hw7 : IntKind.i64.wrap 7 = 7 := wrap_i64 (by omega)
        have hlt7 : 7 < l.length := by omega
        have hle7 : ¬ s.time ≤ l[7].time := by
          have : l[l.length - 1] = l[7] := by congr 1; omega
          rw [← this]; exact hle
        simp (implicitDefEqProofs := false) [Snap.enc_eq, h15, hk, he, hw7, hlt7, hle7, h88, hc, hh, e1, e2, e3, e4]
        have hk7 : keepL l s = (l.take 1 ++ l.drop 2 ++ [s], 0) := by
          unfold keepL
          rw [if_neg (by rw [hk]; simp), if_neg (by rw [he]; simp [List.getD, h88, hlt7]; omega), if_pos h88]
        rw [hk7]
        have hL : List.take 8 (List.take 7 (List.take 1 (List.map Snap.enc l) ++ List.take 6 (List.drop 2 (List.map Snap.enc l))) ++ [V.agg [.int .i64 s.time, .sl false (s.regions.map encR), .sl false (s.threads.map View.enc)]]) = (l.take 1 ++ l.drop 2 ++ [s]).map Snap.enc := by
          rw [List.take_of_length_le (l := List.drop 2 (List.map Snap.enc l)) (by simp; omega), ← List.map_take, ← List.map_drop, ← List.map_append, List.take_of_length_le (i := 7) (by simp; omega), enc_snoc, List.take_of_length_le (by simp; omega)]
        rw [hL]
        refine ⟨fun x hx => ?_, fun _ => ⟨dull_snap _, rfl⟩⟩
        obtain ⟨y, _, rfl⟩ := List.mem_map.1 (List.mem_of_mem_drop (List.mem_of_mem_take hx))
        rfl
      · have hi8 : ((l.length : Int) = 8) = False := by simp; omega
        simp (implicitDefEqProofs := false) [Snap.enc_eq, h15, hk, he, hw, hlt, h0, hle, h88, hi8, hc, hh, e1, e2, e3, e4, b1, b2]
        have hk7 : keepL l s = (l ++ [s], 0) := by
          unfold keepL
          rw [if_neg (by rw [hk]; simp), if_neg (by rw [he]; simp only [Bool.true_eq_false, false_or, not_and]; intro _; exact hle'), if_neg h88]
        rw [hk7, enc_snoc, List.take_of_length_le (by simp)]
        exact ⟨dull_snap _, rfl⟩

theorem Acc.mono {h : Heap} {lo hi hi' : Nat} {A : V} {k : Nat} {es : List V} (hA : Acc h lo hi A k es) (hh : hi ≤ hi') : Acc h lo hi' A k es := by
  rcases hA with hA | ⟨id, h1, h2, h3, h4⟩
  · exact .inl hA
  · exact .inr ⟨id, h1, h2, h3, by omega⟩

/-- what is kept of the first ones -/
def accN (l : List Snap) : Nat → List Snap
  | 0 => []
  | i + 1 => if l.length < 8 ∨ i ≠ 1 then accN l i ++ l[i]?.toList else accN l i
theorem accN_lt {l : List Snap} (h : l.length < 8) : ∀ i, accN l i = l.take i
  | 0 => by simp [accN]
  | i + 1 => by rw [accN, if_pos (.inl h), accN_lt h i, List.take_add_one]
theorem accN_all {l : List Snap} (h : l.length ≤ 8) : accN l l.length = if l.length = 8 then l.take 1 ++ l.drop 2 else l := by
  split
  · rename_i h8
    match l, h8 with
    | [a, b, c, d, e, f, g, i], _ => simp [accN]
  · rw [accN_lt (by omega), List.take_length]
theorem accN_len (l : List Snap) : ∀ i, (accN l i).length ≤ i
  | 0 => by simp [accN]
  | i + 1 => by
    have := accN_len l i
    have h2 : (l[i]?.toList).length ≤ 1 := by cases l[i]? <;> simp
    rw [accN]
    split
    · rw [List.length_append]; omega
    · omega

set_option maxRecDepth 20000 in
theorem s8 (l : List Snap) (s : Snap) (hs : SmallS l) (hr : SmallR s.regions) (ht : SmallT s.threads) : pcall X 8 [.sl false (l.map Snap.enc), s.enc] = some (.tup [.sl false ((keepL l s).1.map Snap.enc), .int .i64 (keepL l s).2]) := by
  refine pcall_of Try.func8 rfl rfl ?_
  have hm := hs.1
  have hc := s19 s.regions s.threads hr ht
  by_cases hk : chk (l.map Snap.time) = 0
  case neg =>
    simp (implicitDefEqProofs := false) [Snap.enc_eq, hk, keepL]
  have h8 : l.length ≤ 8 := by simpa using chk_len hk
  cases he : entry s.time with
  | false =>
    simp (implicitDefEqProofs := false) [Snap.enc_eq, hk, he, keepL]
  | true =>
    by_cases hn : 0 < l.length ∧ s.time ≤ (l.map Snap.time).getD (l.length - 1) 0
    · have h0 := hn.1
      have hw := wrap_pred h0 (show l.length ≤ 1000000000 by omega)
      have hlt : l.length - 1 < l.length := by omega
      have hg : (l.map Snap.time).getD (l.length - 1) 0 = l[l.length - 1].time := getT hlt
      have hle : s.time ≤ l[l.length - 1].time := by rw [← hg]; exact hn.2
      simp (implicitDefEqProofs := false) [Snap.enc_eq, hk, he, keepL, hw, hlt, h0, hle]
    · have hkk : keepL l s = ((if l.length = 8 then l.take 1 ++ l.drop 2 else l) ++ [s], 0) := by
        unfold keepL
        rw [if_neg (by rw [hk]; simp), if_neg (by rw [he]; simp only [Bool.true_eq_false, false_or]; exact hn)]
      rw [hkk]
      rw [← accN_all h8]
      by_cases h0 : 0 < l.length
      case' pos =>
        have hw := wrap_pred h0 (show l.length ≤ 1000000000 by omega)
        have hlt : l.length - 1 < l.length := by omega
        have hg : (l.map Snap.time).getD (l.length - 1) 0 = l[l.length - 1].time := getT hlt
        have hle : ¬ s.time ≤ l[l.length - 1].time := by rw [← hg]; exact fun h => hn ⟨h0, h⟩
        simp (implicitDefEqProofs := false) [Snap.enc_eq, hk, he, hw, hlt, h0, hle]
      case' neg => simp (implicitDefEqProofs := false) [Snap.enc_eq, hk, he, h0]
      all_goals
        refine Wp_up (fun i S => 4 ≤ S.n ∧ S.f 0 = .sl false (l.map Snap.enc) ∧ S.f 3 = .ptr 0 0 0 ∧ S.f 7 = .int .i64 l.length ∧ S.f 9 = .int .i64 i ∧ S.h 0 = some ⟨3, [.agg [.int .i64 s.time, .sl false (s.regions.map encR), .sl false (s.threads.map View.enc)]], true⟩ ∧
          Acc S.h 4 S.n (S.f 8) 3 ((accN l i).map Snap.enc)) l.length ?_ 0 (by simp) (by simp [Acc, accN])
        rintro i S hi ⟨hn, f0, f3, f7, f9, h0, hA⟩
        have hal := accN_len l i
        have b1 : ((accN l i).length + 1) * 56 ≤ 140737488355328 := by omega
        have b2 : (accN l i).length + 1 ≤ 4611686018427387904 := by omega
        generalize hA8 : S.f 8 = A at hA
        by_cases hlt : i < l.length
        · have hw := wrap_succ (show i ≤ 1000000000 by omega)
          by_cases hc8 : l.length < 8 ∨ i ≠ 1
          · have hup : accN l (i + 1) = accN l i ++ [l[i]] := by rw [accN, if_pos hc8]; simp [hlt]
            have hg : ((l.length : Int) < 8) = True ∨ (((l.length : Int) < 8) = False ∧ ((i : Int) = 1) = False) := by
              by_cases h : l.length < 8
              · left; simp; omega
              · right; simp; omega
            rcases hA with ⟨hes, rfl⟩ | ⟨id, rfl, hid, hid1, hid2⟩
            · rcases hg with g1 | ⟨g1, g2⟩
              · simp (implicitDefEqProofs := false) [f0, f3, f7, f9, h0, hA8, hlt, hw, g1, Snap.enc_eq]
                rw [hup, List.map_append, hes]
                exact .inr ⟨_, rfl, by simp [Snap.enc_eq], by omega, by omega⟩
              · simp (implicitDefEqProofs := false) [f0, f3, f7, f9, h0, hA8, hlt, hw, g1, g2, Snap.enc_eq]
                rw [hup, List.map_append, hes]
                exact .inr ⟨_, rfl, by simp [Snap.enc_eq], by omega, by omega⟩
            · have e1 : ∀ j k, (id = S.n + j + k) = False := by intros; simp; omega
              have e2 : ∀ j k, (S.n + j + k = id) = False := by intros; simp; omega
              have e3 : ∀ j, j < 4 → (j = id) = False := by intros; simp; omega
              have e4 : ∀ j, j < 4 → (id = j) = False := by intros; simp; omega
              rcases hg with g1 | ⟨g1, g2⟩
              · simp (implicitDefEqProofs := false) [f0, f3, f7, f9, h0, hA8, hlt, hw, g1, Snap.enc_eq, hid, e1, e2, e3, e4, b1, b2]
                rw [hup, List.map_append]
                exact .inr ⟨S.n + 3 + 6 + 6, by simp, by simp [Snap.enc_eq], by omega, by omega⟩
              · simp (implicitDefEqProofs := false) [f0, f3, f7, f9, h0, hA8, hlt, hw, g1, g2, Snap.enc_eq, hid, e1, e2, e3, e4, b1, b2]
                rw [hup, List.map_append]
                exact .inr ⟨S.n + 3 + 6 + 6, by simp, by simp [Snap.enc_eq], by omega, by omega⟩
          · have hup : accN l (i + 1) = accN l i := by rw [accN, if_neg hc8]
            have g1 : ((l.length : Int) < 8) = False := by simp; omega
            have g2 : ((i : Int) = 1) = True := by simp; omega
            simp (implicitDefEqProofs := false) [f0, f3, f7, f9, h0, hlt, hw, g1, g2, hup]
            rw [hA8]; exact hA.mono (by omega)
        · have hi' : i = l.length := by omega
          subst hi'
          rcases hA with ⟨hes, rfl⟩ | ⟨id, rfl, hid, hid1, hid2⟩
          · have hnil : accN l l.length = [] := by simpa using hes
            simp (implicitDefEqProofs := false) [f0, f3, f7, f9, h0, hA8, hc, hnil]
          · have e1 : ∀ j k, (id = S.n + j + k) = False := by intros; simp; omega
            have e2 : ∀ j k, (S.n + j + k = id) = False := by intros; simp; omega
            have e3 : ∀ j, j < 4 → (j = id) = False := by intros; simp; omega
            have e4 : ∀ j, j < 4 → (id = j) = False := by intros; simp; omega
            simp (implicitDefEqProofs := false) [f0, f3, f7, f9, h0, hA8, hc, hid, e1, e2, e3, e4, b1, b2]
            rw [enc_snoc, List.take_of_length_le (by simp)]
            exact dull_snap _

end Go.Proofs.Ytcbddnmodlhnaaa
