/- Part of a proof: S9, S10, M2, M3. -/
import Derived.Test.YtcfmnogghcjdaaaGreatDoorV13
set_option linter.all false
set_option maxRecDepth 100000
set_option maxHeartbeats 20000000
namespace Go.Proofs.YtcfmnogghcjdaaaGreatDoor
open Go Go.Abs Go.Abs.Api
def lastAt (c : UInt8) (s : Str) : Nat := s.length - ((cutL c s).getLastD []).length
theorem cutL_ne (c : UInt8) : ∀ s, cutL c s ≠ []
  | [] => by simp [cutL]
  | x :: xs => by unfold cutL; split <;> simp
theorem cutL_app (c : UInt8) (x : UInt8) : ∀ s, cutL c (s ++ [x]) = if x = c then cutL c s ++ [[]] else (cutL c s).dropLast ++ [(cutL c s).getLastD [] ++ [x]]
  | [] => by by_cases h : x = c <;> simp [cutL, h]
  | y :: ys => by
    have ih := cutL_app c x ys
    have hne := cutL_ne c ys
    obtain ⟨a, l, hal⟩ := List.exists_cons_of_ne_nil hne
    simp only [List.cons_append, cutL]
    by_cases hy : y = c
    · simp only [hy, if_true]
      rw [ih]
      by_cases hx : x = c
      · simp [hx]
      · simp only [hx, if_false, hal]; simp
    · simp only [hy, if_false]
      rw [ih]
      by_cases hx : x = c
      · simp [hx, hal]
      · simp only [hx, if_false, hal]
        cases l with
        | nil => simp
        | cons b l => simp
theorem cutL_last_len (c : UInt8) : ∀ (n : Nat) (s : Str), s.length = n → ((cutL c s).getLastD []).length ≤ s.length ∧ (cutL c s).getLastD [] = s.drop (s.length - ((cutL c s).getLastD []).length) := by
  intro n
  induction n with
  | zero =>
    intro s hs
    have := List.eq_nil_of_length_eq_zero hs
    subst this
    simp [cutL]
  | succ n ih =>
    intro s hs
    rcases List.eq_nil_or_concat s with rfl | ⟨s, x, rfl⟩
    · simp at hs
    rw [List.concat_eq_append] at hs ⊢
    rw [cutL_app]
    by_cases hx : x = c
    · simp [hx]
    · simp only [hx, if_false, List.getLastD_concat, List.length_append, List.length_cons, List.length_nil]
      obtain ⟨h1, h2⟩ := ih s (by simpa using hs)
      refine ⟨by omega, ?_⟩
      rw [show s.length + (0 + 1) - (((cutL c s).getLastD []).length + (0 + 1)) = s.length - ((cutL c s).getLastD []).length by omega, List.drop_append_of_le_length (by omega), ← h2]
def outAt (c : UInt8) (s : Str) (i : Nat) : List Str := if i ≤ s.length then (cutL c (s.take i)).dropLast else cutL c s
def atAt (c : UInt8) (s : Str) (i : Nat) : Nat := if i ≤ s.length then lastAt c (s.take i) else s.length + 1
theorem atAt_le (c : UInt8) (s : Str) {i : Nat} (h : i ≤ s.length) : atAt c s i ≤ i := by
  unfold atAt lastAt
  rw [if_pos h, List.length_take]
  omega
theorem piece_at (c : UInt8) (s : Str) {i : Nat} (h : i ≤ s.length) : (s.take i).drop (atAt c s i) = (cutL c (s.take i)).getLastD [] := by
  unfold atAt lastAt
  rw [if_pos h]
  exact (cutL_last_len c _ (s.take i) rfl).2.symm
theorem drop_last (l : List Str) (h : l ≠ []) : l.dropLast ++ [l.getLastD []] = l := by
  rw [List.getLastD_eq_getLast?, List.getLast?_eq_some_getLast h]
  exact List.dropLast_concat_getLast h
theorem out_hit {c : UInt8} {s : Str} {i : Nat} (h : i < s.length) (hc : s[i] = c) : outAt c s (i + 1) = outAt c s i ++ [(s.take i).drop (atAt c s i)] ∧ atAt c s (i + 1) = i + 1 := by
  rw [piece_at c s (by omega)]
  unfold outAt atAt lastAt
  rw [if_pos (by omega), if_pos (by omega), if_pos (by omega), take_snoc h, cutL_app, if_pos hc]
  refine ⟨?_, ?_⟩
  · rw [List.dropLast_concat, drop_last _ (cutL_ne c _)]
  · simp; omega
theorem out_miss {c : UInt8} {s : Str} {i : Nat} (h : i < s.length) (hc : ¬ s[i] = c) : outAt c s (i + 1) = outAt c s i ∧ atAt c s (i + 1) = atAt c s i := by
  have hl := (cutL_last_len c _ (s.take i) rfl).1
  rw [List.length_take] at hl
  unfold outAt atAt lastAt
  rw [if_pos (by omega), if_pos (by omega), if_pos (by omega), if_pos (by omega), take_snoc h, cutL_app, if_neg hc]
  refine ⟨?_, ?_⟩
  · rw [List.dropLast_concat]
  · simp only [List.getLastD_concat, List.length_append, List.length_take, List.length_cons, List.length_nil]
    omega
theorem out_end (c : UInt8) (s : Str) : outAt c s (s.length + 1) = outAt c s s.length ++ [(s.take s.length).drop (atAt c s s.length)] ∧ outAt c s (s.length + 1) = cutL c s ∧ atAt c s (s.length + 1) = s.length + 1 := by
  rw [piece_at c s (Nat.le_refl _)]
  unfold outAt atAt
  rw [if_neg (by omega), if_pos (Nat.le_refl _), if_neg (by omega), List.take_length, drop_last _ (cutL_ne c _)]
  exact ⟨rfl, rfl, rfl⟩
theorem out_len (c : UInt8) (s : Str) : ∀ i, i ≤ s.length + 1 → (outAt c s i).length ≤ i
  | 0, _ => by simp [outAt, cutL]
  | i + 1, h => by
    have ih := out_len c s i (by omega)
    by_cases h1 : i < s.length
    · by_cases hc : s[i] = c
      · rw [(out_hit h1 hc).1]; simp; omega
      · rw [(out_miss h1 hc).1]; omega
    · have : i = s.length := by omega
      subst this
      rw [(out_end c s).1]; simp; omega
@[simp] theorem f_ref45_cut (s : List UInt8) (c : UInt8) (hl : s.length ≤ 1000000) : pcall X 46 [.str s, .int .u8 (c.toNat : Int)] = some (.sl false ((cutL c s).map V.str)) := by
  refine pcall_of Tryz.func46 rfl rfl ?_
  simp (maxSteps := 10000000) (maxDischargeDepth := 30) (implicitDefEqProofs := false) []
  refine Wp_up (fun i S => (S.f 0 = .str s ∧ S.f 1 = .int .u8 (c.toNat : Int) ∧ S.f 5 = .hdr 5 0 ((((outAt c s i)).map V.str)).length ∧ S.h 5 = some ⟨1, (((outAt c s i)).map V.str), false⟩ ∧ S.f 6 = .int .i64 ((atAt c s i : Int)) ∧ S.f 7 = .int .i64 (i : Int) ∧ S.n = 1100) ∧ True) ((s.length + 1)) ?_ 0 (by simp) ?_
  · rintro i S hii ⟨hI0, hP0⟩
    have hwi : IntKind.i64.wrap ((i : Int) + 1) = (i : Int) + 1 := wrap_i64 (by omega)
    by_cases hlti : i < (s.length + 1)
    · have hol := out_len c s i (by omega)
      have hb1 : ((outAt c s i).length + 1) * 16 ≤ 140737488355328 := by omega
      have hb2 : (outAt c s i).length ≤ 4611686018427387903 := by omega
      have hi1 : i ≤ s.length := by omega
      have hat := atAt_le c s hi1
      by_cases hie : i < s.length
      · have hne : ¬ (i : Int) = (s.length : Int) := by omega
        have hsi : s[i]? = some s[i] := by simp
        have hcc : (((s[i].toNat : Nat) : Int) = ((c.toNat : Nat) : Int)) = (s[i] = c) := by
          apply propext
          constructor
          · intro h; exact UInt8.toNat_inj.1 (by omega)
          · intro h; rw [h]
        by_cases hc : s[i] = c
        · obtain ⟨q1, q2⟩ := out_hit hie hc
          simp (maxSteps := 10000000) (maxDischargeDepth := 30) (implicitDefEqProofs := false) [hI0, hii, hwi, hlti, hi1, hne, hsi, hcc, hc, hat, hb1, hb2]
          exact ⟨by rw [q1]; simp, by rw [q1]; simp, by rw [q2]; omega⟩
        · obtain ⟨q1, q2⟩ := out_miss hie hc
          simp (maxSteps := 10000000) (maxDischargeDepth := 30) (implicitDefEqProofs := false) [hI0, hii, hwi, hlti, hi1, hne, hsi, hcc, hc, q1, q2]
      · have : i = s.length := by omega
        subst this
        obtain ⟨q1, q2, q3⟩ := out_end c s
        simp (maxSteps := 10000000) (maxDischargeDepth := 30) (implicitDefEqProofs := false) [hI0, hii, hwi, hlti, hat, hb1, hb2]
        exact ⟨by rw [q1]; simp, by rw [q1]; simp, by rw [q3]; omega⟩
    · have hei : (s.length + 1) = i := by omega
      subst hei
      rw [(out_end c s).2.1] at hI0
      simp (maxSteps := 10000000) (maxDischargeDepth := 30) (implicitDefEqProofs := false) [hI0, hii, hwi, hlti]
      intro h
      exfalso
      omega
  · simp (maxSteps := 10000000) (maxDischargeDepth := 30) (implicitDefEqProofs := false) [] <;> (
      simp [outAt, atAt, cutL, lastAt])
def manyM (k : Int) : Int := if k = 0 then 6 else if k = 1 then -1 else if k = 2 then 6 else if k = 3 then 3 else if k = 4 then 2 else if k = 5 then 3 else 0
@[simp] theorem f_ref45_order (word : List UInt8)  : pcall X 68 [.str word] = some (.tup [.int .i64 (kindIx word), .int .i64 (manyM (kindIx word))]) := by
  refine pcall_of Tryz.func68 rfl rfl ?_
  by_cases h0 : word = wSetup
  · subst h0
    have hd : kindIx [115, 101, 116, 117, 112] = 0 := by decide
    simp (maxSteps := 10000000) (maxDischargeDepth := 30) (implicitDefEqProofs := false) [wSetup, hd, manyM]
  by_cases h1 : word = wSeeds
  · subst h1
    have hd : kindIx [115, 101, 101, 100, 115] = 1 := by decide
    simp (maxSteps := 10000000) (maxDischargeDepth := 30) (implicitDefEqProofs := false) [wSeeds, hd, manyM]
  by_cases h2 : word = wFault
  · subst h2
    have hd : kindIx [102, 97, 117, 108, 116] = 2 := by decide
    simp (maxSteps := 10000000) (maxDischargeDepth := 30) (implicitDefEqProofs := false) [wFault, hd, manyM]
  by_cases h3 : word = wHang
  · subst h3
    have hd : kindIx [104, 97, 110, 103] = 3 := by decide
    simp (maxSteps := 10000000) (maxDischargeDepth := 30) (implicitDefEqProofs := false) [wHang, hd, manyM]
  by_cases h4 : word = wCrash
  · subst h4
    have hd : kindIx [99, 114, 97, 115, 104] = 4 := by decide
    simp (maxSteps := 10000000) (maxDischargeDepth := 30) (implicitDefEqProofs := false) [wCrash, hd, manyM]
  by_cases h5 : word = wChoice
  · subst h5
    have hd : kindIx [99, 104, 111, 105, 99, 101] = 5 := by decide
    simp (maxSteps := 10000000) (maxDischargeDepth := 30) (implicitDefEqProofs := false) [wChoice, hd, manyM]
  have hk : kindIx word = -1 := by
    unfold kindIx
    rw [if_neg (by simp [wordsL, h0, h1, h2, h3, h4, h5])]
  unfold wSetup at h0
  unfold wSeeds at h1
  unfold wFault at h2
  unfold wHang at h3
  unfold wCrash at h4
  unfold wChoice at h5
  simp (maxSteps := 10000000) (maxDischargeDepth := 30) (implicitDefEqProofs := false) [hk, h0, h1, h2, h3, h4, h5, manyM]
end Go.Proofs.YtcfmnogghcjdaaaGreatDoor
namespace Go.Proofs.YtcfmnogghcjdaaaGreatDoor
open Go Go.Abs Go.Abs.Api
def stepV (k : Nat) (x : UInt8) (st : Int × Int) : Int × Int :=
  if k = 0 ∧ x = 45 then (st.1, -1) else if 48 ≤ x.toNat ∧ x.toNat ≤ 57 then (st.1 * 10 + (x.toNat - 48), st.2) else st
def valAt (w : Str) : Nat → Int × Int
  | 0 => (0, 1)
  | i + 1 => stepV i (w.getD i 0) (valAt w i)
def valM (w : Str) : Int :=
  (valAt w (min w.length 15)).2 * (if okN (valAt w (min w.length 15)).1 = true then (valAt w (min w.length 15)).1 else 0)
def valuesM (s : Str) : List Int := (cutL 32 s).tail.map valM
theorem pow10_le {k : Nat} (h : k ≤ 15) : (10 : Int) ^ k ≤ 1000000000000000 := by
  have h1 := Nat.pow_le_pow_right (n := 10) (by omega) h
  have h2 : (10 : Nat) ^ 15 = 1000000000000000 := by decide
  rw [h2] at h1
  have e : ((10 ^ k : Nat) : Int) = (10 : Int) ^ k := by simp
  omega
theorem valAt_bnd (w : Str) : ∀ i, 0 ≤ (valAt w i).1 ∧ (valAt w i).1 < 10 ^ i ∧ ((valAt w i).2 = 1 ∨ (valAt w i).2 = -1)
  | 0 => by simp [valAt]
  | i + 1 => by
    obtain ⟨h1, h2, h3⟩ := valAt_bnd w i
    have hp : (10 : Int) ^ (i + 1) = 10 ^ i * 10 := Int.pow_succ 10 i
    unfold valAt stepV
    split
    · refine ⟨h1, ?_, .inr rfl⟩
      simp only; omega
    · split
      · rename_i h
        refine ⟨?_, ?_, h3⟩ <;> simp only <;> omega
      · exact ⟨h1, by omega, h3⟩
theorem cutL_len (c : UInt8) : ∀ s, (cutL c s).length ≤ s.length + 1
  | [] => by simp [cutL]
  | x :: xs => by
    have := cutL_len c xs
    have h := List.length_pos_iff.2 (cutL_ne c xs)
    unfold cutL
    split <;> simp <;> omega
@[simp] theorem f_ref45_values (s : List UInt8) (hl : s.length ≤ 1000000) : pcall X 69 [.str s] = some (.sl false ((valuesM s).map (V.int .i64))) := by
  refine pcall_of Tryz.func69 rfl rfl ?_
  obtain ⟨w0, L, hL⟩ := List.exists_cons_of_ne_nil (cutL_ne 32 s)
  have hv : valuesM s = L.map valM := by simp [valuesM, hL]
  have hcut : pcall X 46 [.str s, .int .u8 32] = some (.sl false ((cutL 32 s).map V.str)) := f_ref45_cut s 32 hl
  rw [hL] at hcut
  rw [hv]
  have hll : L.length ≤ 1000000 := by
    have := cutL_len 32 s
    rw [hL] at this
    simp at this
    omega
  simp (maxSteps := 10000000) (maxDischargeDepth := 30) (implicitDefEqProofs := false) [hcut]
  refine Wp_up (fun i S => (S.f 3 = .sl false (((w0 :: L)).map V.str) ∧ S.f 4 = .hdr 4 0 (((((L.take i).map valM)).map (V.int .i64))).length ∧ S.h 4 = some ⟨1, ((((L.take i).map valM)).map (V.int .i64)), false⟩ ∧ S.f 5 = .int .i64 ((i : Int) + (1)) ∧ S.n = 1100) ∧ True) (L.length) ?_ 0 (by simp) ?_
  · rintro i S hii ⟨hI0, hP0⟩
    have hwi : IntKind.i64.wrap ((i : Int) + 1) = (i : Int) + 1 := wrap_i64 (by omega)
    by_cases hlti : i < L.length
    · have hw2 : IntKind.i64.wrap ((i : Int) + 1 + 1) = (i : Int) + 1 + 1 := wrap_i64 (by omega)
      have hp0 : 0 ≤ (i : Int) + 1 := by omega
      have ht : ((i : Int) + 1).toNat = i + 1 := by omega
      simp (maxSteps := 10000000) (maxDischargeDepth := 30) (implicitDefEqProofs := false) [hI0, hii, hwi, hlti, hw2, hp0, ht]
      refine Wp_up (fun k S => (S.f 3 = .sl false (((w0 :: L)).map V.str) ∧ S.f 4 = .hdr 4 0 (((((L.take i).map valM)).map (V.int .i64))).length ∧ S.h 4 = some ⟨1, ((((L.take i).map valM)).map (V.int .i64)), false⟩ ∧ S.f 5 = .int .i64 ((i : Int) + (1)) ∧ S.f 6 = .int .i64 ((valAt L[i] k).1) ∧ S.f 7 = .int .i64 ((valAt L[i] k).2) ∧ S.f 8 = .int .i64 (k : Int) ∧ S.n = 1100) ∧ True) ((min L[i].length 15)) ?_ 0 (by simp) ?_
      · rintro k S hik ⟨hI1, hP1⟩
        have hwk : IntKind.i64.wrap ((k : Int) + 1) = (k : Int) + 1 := wrap_i64 (by omega)
        by_cases hltk : k < (min L[i].length 15)
        · have hk1 : k < L[i].length := by omega
          have hk2 : (k : Int) < 15 := by omega
          have hkk : L[i][k]? = some L[i][k] := by simp
          have hb := valAt_bnd L[i] k
          have h10 : (10 : Int) ^ k ≤ 1000000000000000 := pow10_le (by omega)
          have hnx : valAt L[i] (k + 1) = stepV k L[i][k] (valAt L[i] k) := by simp [valAt, List.getD_eq_getElem?_getD, hk1]
          generalize valAt L[i] k = st at *
          obtain ⟨n, sg⟩ := st
          simp only at hb
          have hx := L[i][k].toNat_lt
          have hxe : (L[i][k] = 45) = ((L[i][k].toNat : Int) = 45) := by
            apply propext
            constructor
            · intro h; rw [h]; rfl
            · intro h; exact UInt8.toNat_inj.1 (by show _ = 45; omega)
          simp (maxSteps := 10000000) (maxDischargeDepth := 30) (implicitDefEqProofs := false) [hii, hwi, hlti, hI1, hik, hwk, hltk, hw2, hp0, ht, hk1, hk2, hkk]
          rw [hnx]
          unfold stepV
          simp only [hxe]
          generalize L[i][k].toNat = x at *
          have fin : 48 ≤ (x : Int) → (x : Int) ≤ 57 → IntKind.i64.wrap (IntKind.i64.wrap (n * 10) + IntKind.i64.wrap (IntKind.u8.wrap ((x : Int) - 48))) = n * 10 + ((x : Int) - 48) := by
            intro a b
            rw [wrap_u8 (by omega), wrap_i64 (n := n * 10) (by omega), wrap_i64 (n := (x : Int) - 48) (by omega), wrap_i64 (by omega)]
          refine ⟨fun h0 => ⟨fun h1 => ?_, fun h1 => ⟨fun h2 => ⟨fun h3 => ?_, fun h3 => ?_⟩, fun h2 => ?_⟩⟩, fun h0 => ⟨fun h2 => ⟨fun h3 => ?_, fun h3 => ?_⟩, fun h2 => ?_⟩⟩
          · rw [if_pos ⟨h0, h1⟩]; exact ⟨rfl, rfl⟩
          · rw [if_neg (fun h => h1 h.2), if_pos ⟨by omega, by omega⟩, fin h2 h3]; exact ⟨rfl, rfl⟩
          · rw [if_neg (fun h => h1 h.2), if_neg (by omega)]; exact ⟨rfl, rfl⟩
          · rw [if_neg (fun h => h1 h.2), if_neg (by omega)]; exact ⟨rfl, rfl⟩
          · rw [if_neg (fun h => h0 h.1), if_pos ⟨by omega, by omega⟩, fin h2 h3]; exact ⟨rfl, rfl⟩
          · rw [if_neg (fun h => h0 h.1), if_neg (by omega)]; exact ⟨rfl, rfl⟩
          · rw [if_neg (fun h => h0 h.1), if_neg (by omega)]; exact ⟨rfl, rfl⟩
        · have hek : (min L[i].length 15) = k := by omega
          subst hek
          have hvm : valM L[i] = (valAt L[i] (min L[i].length 15)).2 * (if okN (valAt L[i] (min L[i].length 15)).1 = true then (valAt L[i] (min L[i].length 15)).1 else 0) := rfl
          have hm : ¬ min L[i].length 15 < L[i].length ∨ ¬ ((min L[i].length 15 : Nat) : Int) < 15 := by omega
          have hb := valAt_bnd L[i] (min L[i].length 15)
          have h10 : (10 : Int) ^ (min L[i].length 15) ≤ 1000000000000000 := pow10_le (by omega)
          have hnx : (L.take (i + 1)).map valM = (L.take i).map valM ++ [valM L[i]] := by rw [take_snoc hlti, List.map_append]; rfl
          generalize min L[i].length 15 = mm at *
          generalize valAt L[i] mm = st at *
          obtain ⟨n, sg⟩ := st
          simp only at hb hvm
          have tail : ∀ z : Int, z = valM L[i] → List.take i (List.take i (List.map (V.int .i64 ∘ valM) L)) ++ [V.int .i64 z] = List.take (i + 1) (List.map (V.int .i64 ∘ valM) L) := by
            intro z hz
            rw [List.take_of_length_le (l := List.take i _) (by simp; omega), hz, List.take_add_one]
            simp [hlti]
          have w0' : IntKind.i64.wrap 0 = 0 := by decide
          have wn : IntKind.i64.wrap (sg * n) = sg * n := by
            rcases hb.2.2 with h | h
            · rw [h]; exact wrap_i64 (by omega)
            · rw [h]; exact wrap_i64 (by omega)
          have mn : i + 1 = min (i + 1) L.length := by omega
          have fin : (okN n = false → ((i + 1) * 8 ≤ 140737488355328 ∧ i ≤ 4611686018427387903) ∧ ((i + 1) * 8 ≤ 140737488355328 → i ≤ 4611686018427387903 → i + 1 = min (i + 1) L.length ∧ List.take i (List.take i (List.map (V.int .i64 ∘ valM) L)) ++ [V.int .i64 (IntKind.i64.wrap 0)] = List.take (i + 1) (List.map (V.int .i64 ∘ valM) L))) ∧
              (okN n = true → ((i + 1) * 8 ≤ 140737488355328 ∧ i ≤ 4611686018427387903) ∧ ((i + 1) * 8 ≤ 140737488355328 → i ≤ 4611686018427387903 → i + 1 = min (i + 1) L.length ∧ List.take i (List.take i (List.map (V.int .i64 ∘ valM) L)) ++ [V.int .i64 (IntKind.i64.wrap (sg * n))] = List.take (i + 1) (List.map (V.int .i64 ∘ valM) L))) := by
            refine ⟨fun h => ⟨⟨by omega, by omega⟩, fun _ _ => ⟨mn, tail _ ?_⟩⟩, fun h => ⟨⟨by omega, by omega⟩, fun _ _ => ⟨mn, tail _ ?_⟩⟩⟩
            · rw [hvm, w0']; simp [h]
            · rw [hvm, wn]; simp [h]
          rcases hm with hm | hm <;> simp (maxSteps := 10000000) (maxDischargeDepth := 30) (implicitDefEqProofs := false) [hii, hwi, hlti, hI1, hik, hwk, hltk, hw2, hp0, ht, hm]
          · exact fin
          · exact ⟨fun _ => fin, fun _ => fin⟩
      · simp (maxSteps := 10000000) (maxDischargeDepth := 30) (implicitDefEqProofs := false) [hI0, hii, hwi, hlti] <;> (
          simp [valAt])
    · have hei : L.length = i := by omega
      subst hei
      simp (maxSteps := 10000000) (maxDischargeDepth := 30) (implicitDefEqProofs := false) [hI0, hii, hwi, hlti]
      exact dullL_map (fun _ => rfl) _
  · simp (maxSteps := 10000000) (maxDischargeDepth := 30) (implicitDefEqProofs := false) [] <;> (
      simp)
end Go.Proofs.YtcfmnogghcjdaaaGreatDoor
namespace Go.Proofs.YtcfmnogghcjdaaaGreatDoor
open Go hiding Event
open Go.Abs Go.Abs.Api
theorem index_ne {x c : UInt8} (h : x ≠ c) (xs : Str) : Lib.index (x :: xs) [c] = if Lib.index xs [c] == -1 then -1 else Lib.index xs [c] + 1 := by
  rw [Lib.index, if_neg (by simp [List.isPrefixOf]; exact fun e => h e.symm)]
theorem index_ge (s sub : Str) : -1 ≤ Lib.index s sub := by
  induction s with
  | nil => unfold Lib.index; split <;> decide
  | cons b l ih =>
    unfold Lib.index
    split
    · decide
    · split <;> omega
theorem splitK_ne {x c : UInt8} (h : x ≠ c) (k : Nat) (xs : Str) : Lib.splitK [c] 0 k (x :: xs) = (x :: (Lib.splitK [c] 0 k xs).headD []) :: (Lib.splitK [c] 0 k xs).tail := by
  cases k with
  | zero => simp [Lib.splitK]
  | succ k =>
    unfold Lib.splitK
    rw [index_ne h]
    have hg := index_ge xs [c]
    generalize Lib.index xs [c] = i at *
    by_cases hi : i = -1
    · subst hi; simp
    · have h1 : ¬ (i == -1) = true := by simpa using hi
      have h2 : ¬ (i + 1 == -1) = true := by simp; omega
      rw [if_neg h1, if_neg h1, if_neg h2]
      obtain ⟨n, rfl⟩ : ∃ n : Nat, i = n := ⟨i.toNat, by omega⟩
      simp
theorem split_one (c : UInt8) : ∀ s : Str, Lib.split s [c] = cutL c s
  | [] => by simp [Lib.split, Lib.count, Lib.countFrom, Lib.index, cutL, Lib.splitK]
  | x :: xs => by
    have ih := split_one c xs
    unfold Lib.split at ih ⊢
    by_cases hx : x = c
    · subst hx
      rw [Lib.count_cons_eq, Nat.add_comm, Lib.splitK]
      have e : Lib.index (x :: xs) [x] = 0 := by rw [Lib.index, if_pos (by simp [List.isPrefixOf])]
      rw [e]
      simp [cutL, ih]
    · rw [Lib.count_cons_ne x c xs hx, splitK_ne hx, ih]
      simp [cutL, hx]
def clean (c : UInt8) (s : Str) : Prop := ∀ x ∈ s, x ≠ c
theorem cutL_clean (c : UInt8) : ∀ s : Str, ∀ w ∈ cutL c s, clean c w
  | [], w, h => by simp [cutL] at h; subst h; intro x hx; cases hx
  | x :: xs, w, h => by
    have ih := cutL_clean c xs
    obtain ⟨a, l, hal⟩ := List.exists_cons_of_ne_nil (cutL_ne c xs)
    unfold cutL at h
    rw [hal] at h ih
    split at h
    · simp at h
      rcases h with rfl | rfl | h
      · intro x hx; cases hx
      · exact ih _ (by simp)
      · exact ih _ (by simp [h])
    · rename_i hx
      simp at h
      rcases h with rfl | h
      · intro y hy
        simp at hy
        rcases hy with rfl | hy
        · exact hx
        · exact ih a (by simp) y hy
      · exact ih _ (by simp [h])
theorem cutL_of_clean {c : UInt8} : ∀ {w : Str}, clean c w → cutL c w = [w]
  | [], _ => rfl
  | x :: xs, h => by
    have h1 := cutL_of_clean (w := xs) fun y hy => h y (by simp [hy])
    have h2 : x ≠ c := h x (by simp)
    simp [cutL, h1, h2]
theorem cutL_step {c : UInt8} (s : Str) : ∀ {w : Str}, clean c w → cutL c (w ++ c :: s) = w :: cutL c s
  | [], _ => by simp [cutL]
  | x :: xs, h => by
    have h1 := cutL_step s (w := xs) fun y hy => h y (by simp [hy])
    have h2 : x ≠ c := h x (by simp)
    simp [cutL, h1, h2]
theorem cutL_join {c : UInt8} : ∀ {L : List Str} {w : Str}, clean c w → (∀ x ∈ L, clean c x) → cutL c (w ++ (L.map fun x => c :: x).flatten) = w :: L
  | [], w, hw, _ => by simp [cutL_of_clean hw]
  | x :: L, w, hw, hL => by
    have h1 := cutL_join (L := L) (w := x) (hL x (by simp)) fun y hy => hL y (by simp [hy])
    simp only [List.map_cons, List.flatten_cons, List.cons_append]
    rw [cutL_step _ hw, h1]
theorem join_cutL {c : UInt8} : ∀ {s : Str} {w : Str} {L : List Str}, cutL c s = w :: L → w ++ (L.map fun x => c :: x).flatten = s
  | [], w, L, h => by simp [cutL] at h; simp [h]
  | x :: xs, w, L, h => by
    obtain ⟨a, l, hal⟩ := List.exists_cons_of_ne_nil (cutL_ne c xs)
    have ih := join_cutL hal
    unfold cutL at h
    rw [hal] at h
    split at h
    · rename_i hx
      subst hx
      simp at h
      obtain ⟨rfl, rfl⟩ := h
      simp [ih]
    · simp at h
      obtain ⟨rfl, rfl⟩ := h
      simp [ih]
def digs (l : Str) : Prop := ∀ x ∈ l, 48 ≤ x.toNat ∧ x.toNat ≤ 57
theorem dig_nat {d : Nat} (h : d < 10) : (UInt8.ofNat (48 + d)).toNat = 48 + d := by simp; omega
theorem dec_digs (m : Nat) : digs (Lib.decDigits m) := by
  induction m using Nat.strongRecOn with
  | _ m ih =>
    by_cases h : m < 10
    · rw [Lib.decDigits_one h]
      intro x hx
      rw [List.mem_singleton] at hx
      subst hx
      rw [dig_nat h]; omega
    · rw [Lib.decDigits, dif_neg h]
      intro x hx
      simp only [List.mem_append, List.mem_singleton] at hx
      rcases hx with hx | rfl
      · exact ih (m / 10) (by omega) x hx
      · rw [dig_nat (by omega)]; omega
theorem dec_ne (m : Nat) : Lib.decDigits m ≠ [] := by
  by_cases h : m < 10
  · rw [Lib.decDigits_one h]; simp
  · rw [Lib.decDigits, dif_neg h]; simp
theorem parse_app (d : UInt8) (hd : 48 ≤ d.toNat ∧ d.toNat ≤ 57) : ∀ (l : Str) (acc u : Nat), Lib.parseUint10 acc l = .ok u → u < 1844674407370955161 → Lib.parseUint10 acc (l ++ [d]) = .ok (u * 10 + (d.toNat - 48))
  | [], acc, u, h, hu => by
    simp only [Lib.parseUint10, Lib.NumEnd.ok.injEq] at h
    subst h
    simp only [List.nil_append, Lib.parseUint10]
    rw [if_pos hd, if_neg (by omega), if_neg (by omega)]
  | c :: r, acc, u, h, hu => by
    simp only [List.cons_append, Lib.parseUint10] at h ⊢
    split at h
    · split at h
      · cases h
      · split at h
        · cases h
        · rename_i h1 h2 h3
          rw [if_pos h1, if_neg h2, if_neg h3]
          exact parse_app d hd r _ u h hu
    · cases h
theorem parse_dec (m : Nat) (h : m < 1000000000000000000) : Lib.parseUint10 0 (Lib.decDigits m) = .ok m := by
  induction m using Nat.strongRecOn with
  | _ m ih =>
    by_cases h1 : m < 10
    · rw [Lib.decDigits_one h1]
      simp only [Lib.parseUint10, dig_nat h1]
      rw [if_pos (by omega), if_neg (by omega), if_neg (by omega)]
      congr 1
      omega
    · rw [Lib.decDigits, dif_neg h1, parse_app _ (by rw [dig_nat (by omega)]; omega) _ 0 (m / 10) (ih (m / 10) (by omega) (by omega)) (by omega), dig_nat (by omega)]
      congr 1
      omega
theorem atoi_itoa {n : Int} (h : okN n = true) : Lib.atoiAll (Lib.itoa n) = .ok n := by
  have h' : -1099511627776 ≤ n ∧ n ≤ 1099511627776 := by simpa [okN] using h
  unfold Lib.itoa
  by_cases h0 : n < 0
  · rw [if_pos h0]
    simp only [Lib.atoiAll, Lib.parseMag]
    simp [dec_ne, parse_dec n.natAbs (by omega)]
    rw [if_neg (by omega)]
    congr 1
    omega
  · rw [if_neg h0]
    obtain ⟨c, r, hcr⟩ := List.exists_cons_of_ne_nil (dec_ne n.toNat)
    have hc := dec_digs n.toNat c (by rw [hcr]; simp)
    have hp := parse_dec n.toNat (by omega)
    rw [hcr] at hp ⊢
    have k1 : ¬ c.toNat = 43 := by omega
    have k2 : ¬ c.toNat = 45 := by omega
    simp only [Lib.atoiAll, Lib.parseMag, k1, k2, or_self, if_false]
    rw [if_neg (by simp), hp]
    simp only [not_false_eq_true, true_and, false_and, if_false]
    rw [if_neg (by omega)]
    congr 1
    omega
theorem valAt_left (l r : Str) : ∀ i, i ≤ l.length → valAt (l ++ r) i = valAt l i
  | 0, _ => rfl
  | i + 1, h => by
    have ih := valAt_left l r i (by omega)
    unfold valAt
    rw [ih, List.getD_eq_getElem?_getD, List.getElem?_append_left (by omega), List.getD_eq_getElem?_getD]
theorem valAt_dec (m : Nat) : valAt (Lib.decDigits m) (Lib.decDigits m).length = ((m : Int), 1) := by
  induction m using Nat.strongRecOn with
  | _ m ih =>
    by_cases h1 : m < 10
    · rw [Lib.decDigits_one h1]
      have e := dig_nat h1
      have hx : ¬ UInt8.ofNat (48 + m) = 45 := by
        intro h
        rw [h] at e
        have : (45 : UInt8).toNat = 45 := rfl
        omega
      simp only [List.length_cons, List.length_nil, valAt, stepV, List.getD_cons_zero]
      rw [if_neg (fun h => hx h.2), if_pos (by rw [e]; omega), e]
      simp only [Prod.mk.injEq, and_true]
      omega
    · have e := dig_nat (d := m % 10) (by omega)
      have hp := List.length_pos_iff.2 (dec_ne (m / 10))
      rw [Lib.decDigits, dif_neg h1, List.length_append]
      simp only [List.length_cons, List.length_nil, Nat.zero_add, valAt]
      rw [valAt_left _ _ _ (Nat.le_refl _), ih (m / 10) (by omega)]
      have hg : (Lib.decDigits (m / 10) ++ [UInt8.ofNat (48 + m % 10)]).getD (Lib.decDigits (m / 10)).length 0 = UInt8.ofNat (48 + m % 10) := by
        rw [List.getD_eq_getElem?_getD, List.getElem?_append_right (Nat.le_refl _)]; simp
      rw [hg]
      unfold stepV
      rw [if_neg (by omega), if_pos (by rw [e]; omega), e]
      simp only [Prod.mk.injEq, and_true]
      omega
theorem valAt_minus {l : Str} (hl : digs l) : ∀ i, i ≤ l.length → valAt (45 :: l) (i + 1) = ((valAt l i).1, -1)
  | 0, _ => rfl
  | i + 1, h => by
    have ih := valAt_minus hl i (by omega)
    have hd := hl l[i] (List.getElem_mem (by omega))
    have hg : l.getD i 0 = l[i] := by rw [List.getD_eq_getElem?_getD, List.getElem?_eq_getElem (by omega)]; rfl
    have hx : ¬ l[i] = 45 := by
      intro h
      rw [h] at hd
      have : (45 : UInt8).toNat = 45 := rfl
      omega
    rw [valAt, ih, List.getD_cons_succ, hg]
    rw [valAt, hg]
    unfold stepV
    rw [if_neg (by omega), if_pos hd, if_neg (fun h => hx h.2), if_pos hd]
theorem valM_itoa {n : Int} (h : okN n = true) : valM (Lib.itoa n) = n := by
  have h' : -1099511627776 ≤ n ∧ n ≤ 1099511627776 := by simpa [okN] using h
  have hl := itoa_len h
  unfold valM
  rw [Nat.min_eq_left (by omega)]
  unfold Lib.itoa
  by_cases h0 : n < 0
  · rw [if_pos h0, List.length_cons, valAt_minus (dec_digs _) _ (Nat.le_refl _), valAt_dec]
    simp only
    rw [if_pos (by simp [okN]; omega)]
    omega
  · rw [if_neg h0, valAt_dec]
    simp only
    rw [if_pos (by simp [okN]; omega)]
    omega
theorem valM_ok (w : Str) : okN (valM w) = true := by
  have hb := valAt_bnd w (min w.length 15)
  unfold valM
  generalize valAt w (min w.length 15) = st at *
  obtain ⟨a, b⟩ := st
  simp only at hb ⊢
  split
  · rename_i h
    simp only [okN, Bool.and_eq_true, decide_eq_true_eq] at h ⊢
    rcases hb.2.2 with rfl | rfl <;> omega
  · simp [okN]
theorem num_ok {n : Int} (h : okN n = true) : num n = Lib.itoa n := by simp [num, h]
theorem numOf_eq (w : Str) : numOf w = if w = num (valM w) then some (valM w) else none := by
  by_cases hw : w = num (valM w)
  · rw [if_pos hw]
    rw [num_ok (valM_ok w)] at hw
    have h1 := atoi_itoa (valM_ok w)
    rw [← hw] at h1
    simp [numOf, h1, ← hw, valM_ok]
  · rw [if_neg hw]
    unfold numOf
    split
    · rename_i n _
      rw [if_neg]
      rintro ⟨h1, h2⟩
      apply hw
      rw [← h1, valM_itoa h2, num_ok h2]
    · rfl
theorem allNum_eq : ∀ L : List Str, allNum L = if L = L.map (fun w => num (valM w)) then some (L.map valM) else none
  | [] => rfl
  | w :: L => by
    have ih := allNum_eq L
    unfold allNum
    rw [numOf_eq, ih]
    by_cases h1 : w = num (valM w)
    · by_cases h2 : L = L.map fun w => num (valM w)
      · rw [if_pos h1, if_pos h2, if_pos (by rw [List.map_cons, ← h1, ← h2])]; rfl
      · rw [if_pos h1, if_neg h2, if_neg (by
          intro h
          rw [List.map_cons] at h
          injection h with _ h
          exact h2 h)]
    · have h2 : ¬ (w :: L) = (w :: L).map fun w => num (valM w) := by
        intro h
        rw [List.map_cons] at h
        injection h with h _
        exact h1 h
      rw [if_neg h1, if_neg h2]
theorem digs_clean {c : UInt8} (h : c.toNat < 45) (n : Int) : clean c (Lib.itoa n) := by
  intro x hx e
  subst e
  unfold Lib.itoa at hx
  split at hx
  · simp only [List.mem_cons] at hx
    rcases hx with rfl | hx
    · exact absurd h (by decide)
    · have := dec_digs _ _ hx; omega
  · have := dec_digs _ _ hx; omega
theorem num_clean {c : UInt8} (h : c.toNat < 45) (n : Int) : clean c (num n) := digs_clean h _
theorem line_eq {s w : Str} {L : List Str} (h : cutL 32 s = w :: L) : lineS w (L.map valM) = s ↔ L = L.map fun w => num (valM w) := by
  have hc := cutL_clean 32 s
  rw [h] at hc
  unfold lineS
  constructor
  · intro e
    have e2 : w ++ ((L.map fun w => num (valM w)).map fun x => 32 :: x).flatten = s := by
      rw [← e, List.map_map, List.map_map]; rfl
    have := cutL_join (c := 32) (w := w) (L := L.map fun w => num (valM w)) (hc w (by simp)) (by
      intro x hx
      obtain ⟨y, _, rfl⟩ := List.mem_map.1 hx
      exact num_clean (by decide) _)
    rw [e2, h] at this
    injection this
  · intro e
    rw [← join_cutL h]
    congr 2
    conv => rhs; rw [e]
    rw [List.map_map, List.map_map]; rfl
def rejB (place : Int) (s : Str) : Bool :=
  decide (kindIx ((cutL 32 s).headD []) < place) || (decide (place < kindIx ((cutL 32 s).headD [])) && decide (1 < kindIx ((cutL 32 s).headD [])) && decide (place < 2)) || (decide (kindIx ((cutL 32 s).headD []) < 2) && decide (kindIx ((cutL 32 s).headD []) ≠ place)) || (decide (0 ≤ manyM (kindIx ((cutL 32 s).headD []))) && decide (((valuesM s).length : Int) ≠ manyM (kindIx ((cutL 32 s).headD [])))) || decide ((valuesM s).length = 0) || decide (lineS ((cutL 32 s).headD []) (valuesM s) ≠ s)
def setupOf (l : List Int) : Setup := fillSetup default l
def putR (r : reader) (p : Int) (n : List Int) : reader :=
  if p = 0 then { r with place := 1, u := setupOf n }
  else if p = 1 then { r with place := 2, u := { r.u with seeds := n } }
  else if p = 2 then { r with place := p, t := { r.t with faults := r.t.faults ++ [faultOf n] } }
  else if p = 3 then { r with place := p, t := { r.t with hangs := r.t.hangs ++ [hangOf n] } }
  else if p = 4 then { r with place := p, t := { r.t with crashes := r.t.crashes ++ [crashOf n] } }
  else { r with place := p, l := r.l ++ [choiceOf n] }
def okR (p : Int) (n : List Int) : Bool :=
  if p = 4 then decide (n.getD 1 0 = 0) || decide (n.getD 1 0 = 1) else if p = 5 then decide (n.getD 2 0 = 0) || decide (n.getD 2 0 = 1) else true
def placeOf (b : Int) : Int := if b ≤ 1 then b + 1 else b
def readerOf (p : scenario × Int) : reader := ⟨placeOf p.2, p.1.u, p.1.t, p.1.l⟩
def stepM (p : scenario × Int) (x : Str) : Option (scenario × Int) :=
  match readM x with
  | none => none
  | some r => match addM p.1 r p.2 with
    | none => none
    | some s => some (s, r.kind)
theorem kindIx_range (w : Str) : -1 ≤ kindIx w ∧ kindIx w ≤ 5 := by
  unfold kindIx
  split
  · rename_i h
    have := List.idxOf_lt_length_of_mem h
    simp [wordsL] at this ⊢
    omega
  · omega
theorem order_eq {p b : Int} (hp : 0 ≤ p ∧ p ≤ 5) (hb : -1 ≤ b ∧ b ≤ 5) : orderB p b = !(decide (p < placeOf b) || (decide (placeOf b < p) && decide (1 < p) && decide (placeOf b < 2)) || (decide (p < 2) && decide (p ≠ placeOf b))) := by
  have h1 : p = 0 ∨ p = 1 ∨ p = 2 ∨ p = 3 ∨ p = 4 ∨ p = 5 := by omega
  have h2 : b = -1 ∨ b = 0 ∨ b = 1 ∨ b = 2 ∨ b = 3 ∨ b = 4 ∨ b = 5 := by omega
  rcases h1 with rfl | rfl | rfl | rfl | rfl | rfl <;> rcases h2 with rfl | rfl | rfl | rfl | rfl | rfl | rfl <;> rfl
theorem readM_eq {x w : Str} {L : List Str} (h : cutL 32 x = w :: L) : readM x = if kindIx w < 0 then none else if lineS w (valuesM x) = x then some ⟨kindIx w, valuesM x⟩ else none := by
  have hv : valuesM x = L.map valM := by simp [valuesM, h]
  unfold readM
  rw [h, List.headD_cons, List.tail_cons, hv, allNum_eq]
  by_cases h1 : kindIx w < 0
  · rw [if_pos h1, if_pos h1]
  · rw [if_neg h1, if_neg h1]
    by_cases h2 : L = L.map fun w => num (valM w)
    · rw [if_pos h2, if_pos ((line_eq h).2 h2)]
    · rw [if_neg h2, if_neg (fun e => h2 ((line_eq h).1 e))]
theorem step_eq (p : scenario × Int) (x : Str) (hb : -1 ≤ p.2 ∧ p.2 ≤ 5) (h0 : p.2 = -1 → p.1 = default) :
    match stepM p x with
    | none => rejB (placeOf p.2) x = true ∨ (rejB (placeOf p.2) x = false ∧ okR (kindIx ((cutL 32 x).headD [])) (valuesM x) = false)
    | some q => rejB (placeOf p.2) x = false ∧ okR (kindIx ((cutL 32 x).headD [])) (valuesM x) = true ∧ putR (readerOf p) (kindIx ((cutL 32 x).headD [])) (valuesM x) = readerOf q ∧ q.2 = kindIx ((cutL 32 x).headD []) := by
  obtain ⟨w, L, hwl⟩ := List.exists_cons_of_ne_nil (cutL_ne 32 x)
  obtain ⟨s, b⟩ := p
  simp only at hb h0 ⊢
  have hk := kindIx_range w
  unfold stepM rejB
  rw [readM_eq hwl, hwl, List.headD_cons]
  simp only [readerOf]
  generalize kindIx w = k at *
  by_cases hk0 : k < 0
  · rw [if_pos hk0]
    left
    have : k = -1 := by omega
    subst this
    have : (-1 : Int) < placeOf b := by unfold placeOf; split <;> omega
    simp [this]
  rw [if_neg hk0]
  by_cases hl : lineS w (valuesM x) = x
  rotate_left
  · rw [if_neg hl]
    left
    simp [hl]
  rw [if_pos hl]
  generalize valuesM x = n at *
  have ho := order_eq (p := k) (b := b) (by omega) hb
  have hd : decide (lineS w n ≠ x) = false := by simp [hl]
  rw [hd, Bool.or_false]
  unfold addM
  simp only
  by_cases hob : orderB k b = true
  rotate_left
  · have hob' : orderB k b = false := by simpa using hob
    rw [hob'] at ho
    have ho' : (decide (k < placeOf b) || (decide (placeOf b < k) && decide (1 < k) && decide (placeOf b < 2)) || (decide (k < 2) && decide (k ≠ placeOf b))) = true := by
      rw [← Bool.not_eq_false', ← ho]
    rw [hob', ho']
    left
    simp
  rw [hob] at ho
  have ho' : (decide (k < placeOf b) || (decide (placeOf b < k) && decide (1 < k) && decide (placeOf b < 2)) || (decide (k < 2) && decide (k ≠ placeOf b))) = false := by
    rw [← Bool.not_eq_true', ← ho]
  rw [ho', hob]
  simp only [Bool.not_true, Bool.false_or, Bool.false_eq_true, if_false]
  have hkk : k = 0 ∨ k = 1 ∨ k = 2 ∨ k = 3 ∨ k = 4 ∨ k = 5 := by omega
  rcases hkk with rfl | rfl | rfl | rfl | rfl | rfl
  · have hb' : b = -1 := by
      unfold placeOf at ho'
      split at ho' <;> simp at ho' <;> omega
    subst hb'
    have hs := h0 rfl
    subst hs
    by_cases hn : n.length = 6
    · simp [manyM, hn, okR, putR, placeOf, setupOf]
      rfl
    · have hn' : ¬ (n.length : Int) = 6 := by omega
      simp [manyM, hn, hn']
  · by_cases hn : n.length = 0
    · have : n = [] := List.eq_nil_of_length_eq_zero hn
      subst this
      simp
    · have hn1 : 0 < n.length := by omega
      simp [manyM, okR, putR, placeOf]
      cases n with
      | nil => simp at hn
      | cons a n => simp
  · by_cases hn : n.length = 6
    · simp [manyM, hn, okR, putR, placeOf]
    · have hn' : ¬ (n.length : Int) = 6 := by omega
      simp [manyM, hn, hn']
  · by_cases hn : n.length = 3
    · simp [manyM, hn, okR, putR, placeOf]
    · have hn' : ¬ (n.length : Int) = 3 := by omega
      simp [manyM, hn, hn']
  · by_cases hn : n.length = 2
    · obtain ⟨a, c, rfl⟩ : ∃ a c, n = [a, c] := by
        match n, hn with
        | [a, c], _ => exact ⟨a, c, rfl⟩
      simp [manyM, okR, putR, placeOf, last01]
      by_cases h1 : c = 0 <;> by_cases h2 : c = 1 <;> simp [h1, h2]
    · have hn' : ¬ (n.length : Int) = 2 := by omega
      simp [manyM, hn, hn']
  · by_cases hn : n.length = 3
    · obtain ⟨a, c, d, rfl⟩ : ∃ a c d, n = [a, c, d] := by
        match n, hn with
        | [a, c, d], _ => exact ⟨a, c, d, rfl⟩
      simp [manyM, okR, putR, placeOf, last01]
      by_cases h1 : d = 0 <;> by_cases h2 : d = 1 <;> simp [h1, h2]
    · have hn' : ¬ (n.length : Int) = 3 := by omega
      simp [manyM, hn, hn']
def nextM (p : scenario × Int) (x : Str) : scenario × Int := (stepM p x).getD p
def stAt (ls : List Str) : Nat → scenario × Int
  | 0 => (default, -1)
  | i + 1 => nextM (stAt ls i) (ls.getD i [])
def okAt (ls : List Str) (i : Nat) : Prop := ∀ j, j < i → (stepM (stAt ls j) (ls.getD j [])).isSome = true
theorem stAt_some {ls : List Str} {i : Nat} {q : scenario × Int} (h : stepM (stAt ls i) (ls.getD i []) = some q) : stAt ls (i + 1) = q := by
  show nextM _ _ = q
  unfold nextM
  rw [h]; rfl
theorem okAt_zero (ls : List Str) : okAt ls 0 := fun j h => absurd h (by omega)
theorem okAt_succ {ls : List Str} {i : Nat} (h : okAt ls i) {q : scenario × Int} (hs : stepM (stAt ls i) (ls.getD i []) = some q) : okAt ls (i + 1) ∧ stAt ls (i + 1) = q := by
  refine ⟨fun j hj => ?_, stAt_some hs⟩
  rcases Nat.lt_or_ge j i with h1 | h1
  · exact h j h1
  · have : j = i := by omega
    subst this
    rw [hs]; rfl
theorem go_step {s : scenario} {b : Int} {x : Str} {xs : List Str} {i : Nat} : goM (x :: xs) s b i = match stepM (s, b) x with
    | none => .error i
    | some q => goM xs q.1 q.2 (i + 1) := by
  rw [goM]
  unfold stepM
  cases readM x with
  | none => rfl
  | some r =>
    simp only
    cases addM s r b <;> rfl
theorem go_at {ls : List Str} (n : Nat) (hn : n ≤ ls.length) : ∀ i, i ≤ n → okAt ls i → goM (ls.take n) default (-1) 1 = goM ((ls.take n).drop i) (stAt ls i).1 (stAt ls i).2 (i + 1)
  | 0, _, _ => by simp [stAt]
  | i + 1, hi, h => by
    have ih := go_at n hn i (by omega) fun j hj => h j (by omega)
    have hs := h i (by omega)
    obtain ⟨q, hq⟩ := Option.isSome_iff_exists.1 hs
    have hd : (ls.take n).drop i = ls.getD i [] :: (ls.take n).drop (i + 1) := by
      rw [List.drop_eq_getElem_cons (by simp; omega)]
      congr 1
      simp [List.getD_eq_getElem?_getD, List.getElem?_eq_getElem (show i < ls.length by omega)]
    rw [ih, hd, go_step, hq]
    simp only
    rw [stAt_some hq]
theorem go_fail {ls : List Str} {n i : Nat} (hn : n ≤ ls.length) (hi : i < n) (h : okAt ls i) (hs : stepM (stAt ls i) (ls.getD i []) = none) : goM (ls.take n) default (-1) 1 = .error (i + 1) := by
  have hd : (ls.take n).drop i = ls.getD i [] :: (ls.take n).drop (i + 1) := by
    rw [List.drop_eq_getElem_cons (by simp; omega)]
    congr 1
    simp [List.getD_eq_getElem?_getD, List.getElem?_eq_getElem (show i < ls.length by omega)]
  rw [go_at n hn i (by omega) h, hd, go_step, hs]
theorem go_end {ls : List Str} {n : Nat} (hn : n ≤ ls.length) (h : okAt ls n) : goM (ls.take n) default (-1) 1 = .ok (stAt ls n) := by
  rw [go_at n hn n (Nat.le_refl _) h, List.drop_of_length_le (by simp; omega)]
  rfl
structure Fine (p : scenario × Int) (i : Nat) : Prop where
  kind : -1 ≤ p.2 ∧ p.2 ≤ 5
  new : p.2 = -1 → p.1 = default
  nums : numsB p.1.u p.1.t p.1.l = true
  faults : p.1.t.faults.length ≤ i
  hangs : p.1.t.hangs.length ≤ i
  crashes : p.1.t.crashes.length ≤ i
  choices : p.1.l.length ≤ i
  seeds : p.1.u.seeds.length ≤ 1000001
theorem okN0 : okN 0 = true := rfl
theorem okN_b2i (b : Bool) : okN (b2i b) = true := by cases b <;> rfl
theorem okN_getD {l : List Int} (h : ∀ x ∈ l, okN x = true) (i : Nat) : okN (l.getD i 0) = true := by
  rw [List.getD_eq_getElem?_getD]
  cases e : l[i]? with
  | none => rfl
  | some x => exact h x (List.mem_of_getElem? e)
theorem numsB_iff (u : Setup) (t : Troubles) (l : List Choice) : numsB u t l = true ↔ (∀ n ∈ setupN u, okN n = true) ∧ (∀ n ∈ u.seeds, okN n = true) ∧ (∀ f ∈ t.faults, ∀ n ∈ faultN f, okN n = true) ∧ (∀ h ∈ t.hangs, ∀ n ∈ hangN h, okN n = true) ∧ (∀ c ∈ t.crashes, ∀ n ∈ crashN c, okN n = true) ∧ (∀ c ∈ l, ∀ n ∈ choiceN c, okN n = true) := by
  unfold numsB rowsM
  simp only [List.all_append, List.all_cons, List.all_nil, Bool.and_true, Bool.and_eq_true, List.all_map, List.all_eq_true, Function.comp_def, and_assoc]
theorem values_ok (s : Str) : ∀ x ∈ valuesM s, okN x = true := by
  intro x hx
  obtain ⟨w, _, rfl⟩ := List.mem_map.1 hx
  exact valM_ok w
theorem fine_step {p q : scenario × Int} {i : Nat} {x : Str} (h : Fine p i) (hx : (cutL 32 x).length ≤ 1000001) (hs : stepM p x = some q) : Fine q (i + 1) := by
  obtain ⟨w, L, hwl⟩ := List.exists_cons_of_ne_nil (cutL_ne 32 x)
  have hkr := kindIx_range w
  have hvl : (valuesM x).length ≤ 1000001 := by simp [valuesM]; omega
  obtain ⟨⟨u, t, l⟩, b⟩ := p
  obtain ⟨h1, h2, h3, h4, h5, h6, h7, h8⟩ := h
  simp only at h1 h2 h3 h4 h5 h6 h7 h8
  unfold stepM at hs
  rw [readM_eq hwl] at hs
  have hv := values_ok x
  by_cases hk0 : kindIx w < 0
  · rw [if_pos hk0] at hs; cases hs
  rw [if_neg hk0] at hs
  by_cases hl : lineS w (valuesM x) = x
  rotate_left
  · rw [if_neg hl] at hs; cases hs
  rw [if_pos hl] at hs
  simp only at hs
  generalize valuesM x = n at *
  generalize kindIx w = k at *
  have g := okN_getD hv
  rw [numsB_iff] at h3
  obtain ⟨n1, n2, n3, n4, n5, n6⟩ := h3
  unfold addM at hs
  simp only at hs
  split at hs
  · cases hs
  rename_i s' hs'
  injection hs with hs
  subst hs
  split at hs'
  · cases hs'
  split at hs'
  · split at hs' <;> cases hs'
    rename_i hk _
    refine ⟨by simp only; omega, fun h => by simp only at h; omega, (numsB_iff _ _ _).2 ⟨?_, n2, n3, n4, n5, n6⟩, by simp only; omega, by simp only; omega, by simp only; omega, by simp only; omega, h8⟩
    intro y hy
    simp only [setupN, fillSetup, List.mem_cons, List.mem_nil_iff, or_false] at hy
    rcases hy with rfl | rfl | rfl | rfl | rfl | rfl <;> exact g _
  split at hs'
  · split at hs' <;> cases hs'
    exact ⟨by simp only; omega, fun h => by simp only at h; omega, (numsB_iff _ _ _).2 ⟨n1, hv, n3, n4, n5, n6⟩, by simp only; omega, by simp only; omega, by simp only; omega, by simp only; omega, hvl⟩
  split at hs'
  · split at hs' <;> cases hs'
    refine ⟨by simp only; omega, fun h => by simp only at h; omega, (numsB_iff _ _ _).2 ⟨n1, n2, ?_, n4, n5, n6⟩, by simp; omega, by simp only; omega, by simp only; omega, by simp only; omega, h8⟩
    intro f hf
    simp only [List.mem_append, List.mem_singleton] at hf
    rcases hf with hf | rfl
    · exact n3 f hf
    · intro y hy
      simp only [faultN, faultOf, List.mem_cons, List.mem_nil_iff, or_false] at hy
      rcases hy with rfl | rfl | rfl | rfl | rfl | rfl <;> exact g _
  split at hs'
  · split at hs' <;> cases hs'
    refine ⟨by simp only; omega, fun h => by simp only at h; omega, (numsB_iff _ _ _).2 ⟨n1, n2, n3, ?_, n5, n6⟩, by simp only; omega, by simp; omega, by simp only; omega, by simp only; omega, h8⟩
    intro f hf
    simp only [List.mem_append, List.mem_singleton] at hf
    rcases hf with hf | rfl
    · exact n4 f hf
    · intro y hy
      simp only [hangN, hangOf, List.mem_cons, List.mem_nil_iff, or_false] at hy
      rcases hy with rfl | rfl | rfl <;> exact g _
  split at hs'
  · split at hs' <;> cases hs'
    refine ⟨by simp only; omega, fun h => by simp only at h; omega, (numsB_iff _ _ _).2 ⟨n1, n2, n3, n4, ?_, n6⟩, by simp only; omega, by simp only; omega, by simp; omega, by simp only; omega, h8⟩
    intro f hf
    simp only [List.mem_append, List.mem_singleton] at hf
    rcases hf with hf | rfl
    · exact n5 f hf
    · intro y hy
      simp only [crashN, crashOf, List.mem_cons, List.mem_nil_iff, or_false] at hy
      rcases hy with rfl | rfl
      · exact g _
      · exact okN_b2i _
  · split at hs' <;> cases hs'
    refine ⟨by simp only; omega, fun h => by simp only at h; omega, (numsB_iff _ _ _).2 ⟨n1, n2, n3, n4, n5, ?_⟩, by simp only; omega, by simp only; omega, by simp only; omega, by simp; omega, h8⟩
    intro f hf
    simp only [List.mem_append, List.mem_singleton] at hf
    rcases hf with hf | rfl
    · exact n6 f hf
    · intro y hy
      simp only [choiceN, choiceOf, List.mem_cons, List.mem_nil_iff, or_false] at hy
      rcases hy with rfl | rfl | rfl
      · exact g _
      · exact g _
      · exact okN_b2i _
theorem fine_at {ls : List Str} (hl : ∀ x ∈ ls, (cutL 32 x).length ≤ 1000001) : ∀ i, okAt ls i → Fine (stAt ls i) i
  | 0, _ => ⟨by simp [stAt], fun _ => rfl, rfl, Nat.le_refl 0, Nat.le_refl 0, Nat.le_refl 0, Nat.le_refl 0, Nat.zero_le _⟩
  | i + 1, h => by
    have ih := fine_at hl i fun j hj => h j (by omega)
    obtain ⟨q, hq⟩ := Option.isSome_iff_exists.1 (h i (by omega))
    rw [stAt_some hq]
    refine fine_step ih ?_ hq
    rw [List.getD_eq_getElem?_getD]
    cases e : ls[i]? with
    | none => simp [cutL]
    | some x => exact hl x (List.mem_of_getElem? e)
theorem kindIx_word {k : Nat} (h : k < 6) : kindIx (wordsL.getD k []) = k := by
  have : k = 0 ∨ k = 1 ∨ k = 2 ∨ k = 3 ∨ k = 4 ∨ k = 5 := by omega
  rcases this with rfl | rfl | rfl | rfl | rfl | rfl <;> decide
theorem word_clean {k : Nat} {c : UInt8} (hc : c = 10 ∨ c = 32) : clean c (wordsL.getD k []) := by
  by_cases h : k < 6
  · have : k = 0 ∨ k = 1 ∨ k = 2 ∨ k = 3 ∨ k = 4 ∨ k = 5 := by omega
    unfold clean
    rcases hc with rfl | rfl <;> rcases this with rfl | rfl | rfl | rfl | rfl | rfl <;> decide
  · rw [List.getD_eq_getElem?_getD, List.getElem?_eq_none (by simp [wordsL]; omega)]
    intro x hx; cases hx
def lineR (r : row) : Str := rowW r ++ ((r.numbers.map Lib.itoa).map fun x => 32 :: x).flatten
theorem rowS_line (r : row) : rowS r = lineR r ++ [10] := by simp [rowS, lineR, rowW, Function.comp_def]
theorem lineR_clean (r : row) : clean 10 (lineR r) := by
  intro x hx
  simp only [lineR, List.mem_append, List.mem_flatten, List.mem_map] at hx
  rcases hx with hx | ⟨l, ⟨y, ⟨n, _, rfl⟩, rfl⟩, hx⟩
  · exact word_clean (.inl rfl) x hx
  · simp only [List.mem_cons] at hx
    rcases hx with rfl | hx
    · decide
    · exact digs_clean (by decide) n x hx
theorem read_row {r : row} (hk : 0 ≤ r.kind ∧ r.kind < 6) (hn : ∀ x ∈ r.numbers, okN x = true) : readM (lineR r) = some r := by
  obtain ⟨k, n⟩ := r
  simp only at hk hn
  obtain ⟨q, rfl⟩ : ∃ q : Nat, k = q := ⟨k.toNat, by omega⟩
  have hc : cutL 32 (lineR ⟨q, n⟩) = rowW ⟨q, n⟩ :: n.map Lib.itoa := cutL_join (word_clean (.inr rfl)) (by
    intro x hx
    obtain ⟨m, _, rfl⟩ := List.mem_map.1 hx
    exact digs_clean (by decide) m)
  have hv : (n.map Lib.itoa).map valM = n := by
    rw [List.map_map]
    conv => rhs; rw [← List.map_id n]
    exact List.map_congr_left fun x hx => valM_itoa (hn x hx)
  have hw : kindIx (rowW ⟨(q : Int), n⟩) = q := kindIx_word (k := q) (by omega)
  unfold readM
  rw [hc, List.headD_cons, List.tail_cons, hw, if_neg (by omega), allNum_eq, hv, if_pos]
  rw [List.map_map]
  refine List.map_congr_left fun x hx => ?_
  simp only [Function.comp_def]
  rw [valM_itoa (hn x hx), num_ok (hn x hx)]
theorem cut_rows : ∀ R : List row, cutL 10 ((R.map rowS).flatten) = R.map lineR ++ [[]]
  | [] => rfl
  | r :: R => by
    rw [List.map_cons, List.flatten_cons, rowS_line, List.append_assoc, List.singleton_append, cutL_step _ (lineR_clean r), cut_rows R]
    rfl
theorem go_app {xs : List Str} : ∀ {ys : List Str} {s s' : scenario} {b b' : Int} {i : Nat}, goM ys s b i = .ok (s', b') → goM (ys ++ xs) s b i = goM xs s' b' (i + ys.length)
  | [], s, s', b, b', i, h => by
    simp only [goM] at h
    injection h with h
    injection h with h1 h2
    subst h1 h2
    rfl
  | y :: ys, s, s', b, b', i, h => by
    rw [go_step] at h
    rw [List.cons_append, go_step]
    cases e : stepM (s, b) y with
    | none => rw [e] at h; cases h
    | some q =>
      rw [e] at h
      simp only at h ⊢
      rw [go_app h, List.length_cons]
      congr 1
      omega
theorem step_row {s s' : scenario} {b : Int} {r : row} (hk : 0 ≤ r.kind ∧ r.kind < 6) (hn : ∀ x ∈ r.numbers, okN x = true) (h : addM s r b = some s') : stepM (s, b) (lineR r) = some (s', r.kind) := by
  unfold stepM
  rw [read_row hk hn]
  simp only
  rw [h]
def kindAfter {α : Type} (l : List α) (k b : Int) : Int := if l = [] then b else k
theorem go_faults (l : List Fault) (u : Setup) (t : Troubles) (c : List Choice) (b : Int) (i : Nat) (hb : 1 ≤ b ∧ b ≤ 2) (hn : ∀ f ∈ l, ∀ n ∈ faultN f, okN n = true) : goM (l.map fun f => lineR ⟨2, faultN f⟩) ⟨u, t, c⟩ b i = .ok (⟨u, ⟨t.faults ++ l, t.hangs, t.crashes⟩, c⟩, kindAfter l 2 b) := by
  induction l generalizing t b i with
  | nil => simp [goM, kindAfter]
  | cons f l ih =>
    have ho : orderB 2 b = true := by
      have : b = 1 ∨ b = 2 := by omega
      rcases this with rfl | rfl <;> rfl
    rw [List.map_cons, go_step, step_row (s' := ⟨u, ⟨t.faults ++ [f], t.hangs, t.crashes⟩, c⟩) (by simp) (hn f (by simp)) (by simp [addM, ho, faultN, faultOf])]
    simp only
    rw [ih _ _ _ (by omega) fun g hg => hn g (by simp [hg])]
    simp [kindAfter]
theorem go_hangs (l : List Hang) (u : Setup) (t : Troubles) (c : List Choice) (b : Int) (i : Nat) (hb : 1 ≤ b ∧ b ≤ 3) (hn : ∀ f ∈ l, ∀ n ∈ hangN f, okN n = true) : goM (l.map fun f => lineR ⟨3, hangN f⟩) ⟨u, t, c⟩ b i = .ok (⟨u, ⟨t.faults, t.hangs ++ l, t.crashes⟩, c⟩, kindAfter l 3 b) := by
  induction l generalizing t b i with
  | nil => simp [goM, kindAfter]
  | cons f l ih =>
    have ho : orderB 3 b = true := by
      have : b = 1 ∨ b = 2 ∨ b = 3 := by omega
      rcases this with rfl | rfl | rfl <;> rfl
    rw [List.map_cons, go_step, step_row (s' := ⟨u, ⟨t.faults, t.hangs ++ [f], t.crashes⟩, c⟩) (by simp) (hn f (by simp)) (by simp [addM, ho, hangN, hangOf])]
    simp only
    rw [ih _ _ _ (by omega) fun g hg => hn g (by simp [hg])]
    simp [kindAfter]
theorem b2i_pos (b : Bool) : ¬ b2i b = 0 → b = true := by cases b <;> simp [b2i]
theorem b2i_last (b : Bool) : (b2i b = 0 ∨ b2i b = 1) ∧ decide (b2i b = 1) = b := by cases b <;> simp [b2i]
theorem go_crashes (l : List Crash) (u : Setup) (t : Troubles) (c : List Choice) (b : Int) (i : Nat) (hb : 1 ≤ b ∧ b ≤ 4) (hn : ∀ f ∈ l, ∀ n ∈ crashN f, okN n = true) : goM (l.map fun f => lineR ⟨4, crashN f⟩) ⟨u, t, c⟩ b i = .ok (⟨u, ⟨t.faults, t.hangs, t.crashes ++ l⟩, c⟩, kindAfter l 4 b) := by
  induction l generalizing t b i with
  | nil => simp [goM, kindAfter]
  | cons f l ih =>
    have ho : orderB 4 b = true := by
      have : b = 1 ∨ b = 2 ∨ b = 3 ∨ b = 4 := by omega
      rcases this with rfl | rfl | rfl | rfl <;> rfl
    have hq := b2i_last f.after
    rw [List.map_cons, go_step, step_row (s' := ⟨u, ⟨t.faults, t.hangs, t.crashes ++ [f]⟩, c⟩) (by simp) (hn f (by simp)) (by simp [addM, ho, crashN, crashOf, last01, hq]; exact b2i_pos _)]
    simp only
    rw [ih _ _ _ (by omega) fun g hg => hn g (by simp [hg])]
    simp [kindAfter]
theorem go_choices (l : List Choice) (u : Setup) (t : Troubles) (c : List Choice) (b : Int) (i : Nat) (hb : 1 ≤ b ∧ b ≤ 5) (hn : ∀ f ∈ l, ∀ n ∈ choiceN f, okN n = true) : goM (l.map fun f => lineR ⟨5, choiceN f⟩) ⟨u, t, c⟩ b i = .ok (⟨u, t, c ++ l⟩, kindAfter l 5 b) := by
  induction l generalizing c b i with
  | nil => simp [goM, kindAfter]
  | cons f l ih =>
    have ho : orderB 5 b = true := by
      have : b = 1 ∨ b = 2 ∨ b = 3 ∨ b = 4 ∨ b = 5 := by omega
      rcases this with rfl | rfl | rfl | rfl | rfl <;> rfl
    have hq := b2i_last f.signal
    rw [List.map_cons, go_step, step_row (s' := ⟨u, t, c ++ [f]⟩) (by simp) (hn f (by simp)) (by simp [addM, ho, choiceN, choiceOf, last01, hq]; exact b2i_pos _)]
    simp only
    rw [ih _ _ _ (by omega) fun g hg => hn g (by simp [hg])]
    simp [kindAfter]
def bareU (u : Setup) : Setup := { fillSetup noSetup (setupN u) with seeds := u.seeds }
theorem bare_rows (u : Setup) (t : Troubles) (l : List Choice) : rowsM (bareU u) t l = rowsM u t l := rfl
theorem bare_check (u : Setup) (t : Troubles) (l : List Choice) : checkM (bareU u) t l = checkM u t l := rfl
theorem check_zero {u : Setup} {t : Troubles} {l : List Choice} (h : checkM u t l = 0) : limitsB u t l = true ∧ numsB u t l = true := by
  unfold checkM at h
  cases h1 : limitsB u t l with
  | false => simp [h1] at h
  | true =>
    cases h2 : numsB u t l with
    | false => simp [h1, h2] at h
    | true => exact ⟨rfl, rfl⟩
theorem after_le {α : Type} (l : List α) (k b : Int) (m : Int) (h1 : 1 ≤ b ∧ b ≤ m) (h2 : 1 ≤ k ∧ m ≤ k) : 1 ≤ kindAfter l k b ∧ kindAfter l k b ≤ k := by
  unfold kindAfter; split <;> omega
theorem parse_text {u : Setup} {t : Troubles} {l : List Choice} (h : checkM u t l = 0) : parseM (textM u t l) = ⟨bareU u, t, l, 0, 0⟩ := by
  obtain ⟨hlim, hnum⟩ := check_zero h
  have hchk := h
  rw [numsB_iff] at hnum
  obtain ⟨n1, n2, n3, n4, n5, n6⟩ := hnum
  simp only [limitsB, Bool.and_eq_true, decide_eq_true_eq] at hlim
  obtain ⟨⟨⟨⟨⟨l1, l2⟩, l3⟩, l4⟩, l5⟩, l6⟩ := hlim
  have hcut : cutL 10 (textM u t l) = (rowsM u t l).map lineR ++ [[]] := cut_rows _
  have k2 := after_le t.faults 2 1 1 (by omega) (by omega)
  have k3 := after_le t.hangs 3 _ 2 k2 (by omega)
  have k4 := after_le t.crashes 4 _ 3 k3 (by omega)
  have k5 := after_le l 5 _ 4 k4 (by omega)
  have s0 : stepM (default, -1) (lineR ⟨0, setupN u⟩) = some (⟨fillSetup noSetup (setupN u), noTroubles, []⟩, 0) :=
    step_row (by simp) n1 (by simp [addM, orderB, setupN]; exact ⟨rfl, rfl, rfl⟩)
  have s1 : stepM (⟨fillSetup noSetup (setupN u), noTroubles, []⟩, 0) (lineR ⟨1, u.seeds⟩) = some (⟨bareU u, noTroubles, []⟩, 1) :=
    step_row (by simp) n2 (by
      have hpos : 0 < u.seeds.length := by omega
      unfold addM
      rw [if_neg (by simp [orderB]), if_neg (by simp), if_pos rfl, if_pos hpos]
      rfl)
  have hgo : goM ((rowsM u t l).map lineR) default (-1) 1 = .ok (⟨bareU u, t, l⟩, kindAfter l 5 (kindAfter t.crashes 4 (kindAfter t.hangs 3 (kindAfter t.faults 2 1)))) := by
    have e1 : goM (t.faults.map fun f => lineR ⟨2, faultN f⟩) ⟨bareU u, noTroubles, []⟩ 1 3 = .ok (⟨bareU u, ⟨t.faults, [], []⟩, []⟩, (kindAfter t.faults 2 1)) := go_faults t.faults (bareU u) noTroubles [] 1 3 (by omega) n3
    have e2 : goM (t.hangs.map fun f => lineR ⟨3, hangN f⟩) ⟨bareU u, ⟨t.faults, [], []⟩, []⟩ (kindAfter t.faults 2 1) (3 + t.faults.length) = .ok (⟨bareU u, ⟨t.faults, t.hangs, []⟩, []⟩, (kindAfter t.hangs 3 (kindAfter t.faults 2 1))) := go_hangs t.hangs (bareU u) ⟨t.faults, [], []⟩ [] (kindAfter t.faults 2 1) (3 + t.faults.length) (by omega) n4
    have e3 : goM (t.crashes.map fun f => lineR ⟨4, crashN f⟩) ⟨bareU u, ⟨t.faults, t.hangs, []⟩, []⟩ (kindAfter t.hangs 3 (kindAfter t.faults 2 1)) (3 + t.faults.length + t.hangs.length) = .ok (⟨bareU u, t, []⟩, (kindAfter t.crashes 4 (kindAfter t.hangs 3 (kindAfter t.faults 2 1)))) := go_crashes t.crashes (bareU u) ⟨t.faults, t.hangs, []⟩ [] (kindAfter t.hangs 3 (kindAfter t.faults 2 1)) (3 + t.faults.length + t.hangs.length) (by omega) n5
    have e4 := go_choices l (bareU u) t [] (kindAfter t.crashes 4 (kindAfter t.hangs 3 (kindAfter t.faults 2 1))) (3 + t.faults.length + t.hangs.length + t.crashes.length) (by omega) n6
    simp only [rowsM, List.map_append, List.map_cons, List.map_nil, List.map_map, Function.comp_def, List.append_assoc, List.cons_append, List.nil_append]
    rw [go_step, s0]
    simp only
    rw [go_step, s1]
    simp only
    rw [go_app e1, List.length_map]
    rw [go_app e2, List.length_map]
    rw [go_app e3, List.length_map]
    rw [e4]
    rfl
  unfold parseM
  rw [hcut]
  simp only [List.dropLast_concat, hgo, List.getLastD_concat]
  rw [if_neg (by simp), if_neg (by omega), if_neg (by rw [bare_check, h]; simp)]
end Go.Proofs.YtcfmnogghcjdaaaGreatDoor
namespace Go.Proofs.YtcfmnogghcjdaaaGreatDoor
open Go hiding Event
open Go.Abs Go.Abs.Api
def lastU (s : Str) : Nat → Nat
  | 0 => 0
  | i + 1 => if s.getD i 0 = 10 ∧ i + 1 < s.length then i + 1 else lastU s i
theorem lastU_up (s : Str) (i : Nat) : lastU s (i + 1) = if s.getD i 0 = 10 ∧ i + 1 < s.length then i + 1 else lastU s i := rfl
theorem lastU_le (s : Str) : ∀ i, lastU s i ≤ i
  | 0 => Nat.le_refl 0
  | i + 1 => by
    have := lastU_le s i
    rw [lastU_up]; split <;> omega
theorem lastU_split {a b : Str} (ha : a = [] ∨ ∃ a', a = a' ++ [10]) (hb : clean 10 b) : ∀ j, j ≤ b.length + 1 → lastU (a ++ b ++ [10]) (a.length + j) = a.length
  | 0, _ => by
    rcases ha with rfl | ⟨a', rfl⟩
    · rfl
    · rw [Nat.add_zero, List.length_append]
      show lastU _ (a'.length + 1) = _
      rw [lastU_up, if_pos]
      · rfl
      · refine ⟨?_, by simp⟩
        rw [List.getD_eq_getElem?_getD, List.append_assoc, List.append_assoc, List.getElem?_append_right (Nat.le_refl _)]
        simp
  | j + 1, h => by
    have ih := lastU_split ha hb j (by omega)
    show lastU _ (a.length + j + 1) = _
    rw [lastU_up, if_neg, ih]
    rintro ⟨h1, h2⟩
    simp only [List.length_append, List.length_cons, List.length_nil] at h2
    have hj : j < b.length := by omega
    rw [List.getD_eq_getElem?_getD, List.append_assoc, List.getElem?_append_right (by omega), show a.length + j - a.length = j by omega, List.getElem?_append_left hj, List.getElem?_eq_getElem hj] at h1
    exact hb _ (List.getElem_mem hj) h1
theorem lineR_count (r : row) : (lineR r).count 10 = 0 := List.count_eq_zero.2 fun h => lineR_clean r _ h rfl
theorem count_rows : ∀ R : List row, ((R.map rowS).flatten).count 10 = R.length
  | [] => rfl
  | r :: R => by
    rw [List.map_cons, List.flatten_cons, List.count_append, count_rows R, rowS_line, List.count_append, lineR_count]
    simp
    omega
theorem text_more (u : Setup) (t : Troubles) (l : List Choice) (x : Choice) : textM u t (l ++ [x]) = textM u t l ++ lineR ⟨5, choiceN x⟩ ++ [10] := by
  unfold textM
  have : rowsM u t (l ++ [x]) = rowsM u t l ++ [⟨5, choiceN x⟩] := by simp [rowsM]
  rw [this, List.map_append, List.flatten_append]
  simp [rowS_line]
theorem rows_end : ∀ R : List row, R ≠ [] → ∃ a, (R.map rowS).flatten = a ++ [10]
  | [r], _ => ⟨lineR r, by simp [rowS_line]⟩
  | r :: r2 :: R, _ => by
    obtain ⟨a, ha⟩ := rows_end (r2 :: R) (by simp)
    exact ⟨rowS r ++ a, by rw [List.map_cons, List.flatten_cons, ha, List.append_assoc]⟩
theorem text_end (u : Setup) (t : Troubles) (l : List Choice) : ∃ a, textM u t l = a ++ [10] := rows_end _ (by simp [rowsM])
theorem text_head (u : Setup) (t : Troubles) (l : List Choice) : ∃ r, textM u t l = 115 :: r := ⟨_, rfl⟩
theorem parse_one : parseM [115] = ⟨noSetup, noTroubles, [], 1, 36⟩ := rfl
theorem check_less {u : Setup} {t : Troubles} {l : List Choice} {x : Choice} (h : checkM u t (l ++ [x]) = 0) : checkM u t l = 0 := by
  obtain ⟨h1, h2⟩ := check_zero h
  rw [numsB_iff] at h2
  obtain ⟨n1, n2, n3, n4, n5, n6⟩ := h2
  have g2 : numsB u t l = true := (numsB_iff _ _ _).2 ⟨n1, n2, n3, n4, n5, fun c hc => n6 c (by simp [hc])⟩
  have g1 : limitsB u t l = true := by
    simp only [limitsB, Bool.and_eq_true, decide_eq_true_eq, List.length_append] at h1 ⊢
    omega
  simp [checkM, g1, g2]
theorem text_less {u : Setup} {t : Troubles} {l : List Choice} (hl : l ≠ []) (h : checkM u t l = 0) :
    parseM ((textM u t l).take (lastU (textM u t l) (textM u t l).length)) = ⟨bareU u, t, l.dropLast, 0, 0⟩ := by
  obtain ⟨l', x, rfl⟩ : ∃ l' x, l = l' ++ [x] := ⟨l.dropLast, l.getLast hl, (List.dropLast_concat_getLast hl).symm⟩
  have e := text_more u t l' x
  have hs := lastU_split (a := textM u t l') (b := lineR ⟨5, choiceN x⟩) (.inr (text_end u t l')) (lineR_clean _) ((lineR ⟨5, choiceN x⟩).length + 1) (Nat.le_refl _)
  have hlen : (textM u t l' ++ lineR ⟨5, choiceN x⟩ ++ [10]).length = (textM u t l').length + ((lineR ⟨5, choiceN x⟩).length + 1) := by simp
  rw [e, hlen, hs, List.append_assoc, List.take_left, parse_text (check_less h), List.dropLast_concat]
end Go.Proofs.YtcfmnogghcjdaaaGreatDoor
