/- Part of a proof: E1, E2. -/
import Derived.Test.YtcfmnogghcjdaaaGreatDoorV09
set_option linter.all false
set_option maxRecDepth 100000
set_option maxHeartbeats 20000000
namespace Go.Proofs.YtcfmnogghcjdaaaGreatDoor
open Go Go.Abs Go.Abs.Api
@[simp] theorem wlit0 : IntKind.i64.wrap 0 = 0 := by decide
@[simp] theorem wlit1 : IntKind.i64.wrap 1 = 1 := by decide
@[simp] theorem wlit2 : IntKind.i64.wrap 2 = 2 := by decide
@[simp] theorem wlit3 : IntKind.i64.wrap 3 = 3 := by decide
@[simp] theorem wlit4 : IntKind.i64.wrap 4 = 4 := by decide
@[simp] theorem wlit5 : IntKind.i64.wrap 5 = 5 := by decide
@[simp] theorem wlit6 : IntKind.i64.wrap 6 = 6 := by decide
@[simp] theorem wlit7 : IntKind.i64.wrap 7 = 7 := by decide
@[simp] theorem wlit8 : IntKind.i64.wrap 8 = 8 := by decide
@[simp] theorem wlit9 : IntKind.i64.wrap 9 = 9 := by decide
@[simp] theorem wlit10 : IntKind.i64.wrap 10 = 10 := by decide
@[simp] theorem wlit11 : IntKind.i64.wrap 11 = 11 := by decide
@[simp] theorem wlit12 : IntKind.i64.wrap 12 = 12 := by decide
theorem len0 {α : Type} {l : List α} (h : l.length = 0) : l = [] := List.length_eq_zero_iff.1 h
theorem len1 {α : Type} {l : List α} (h : l.length = 1) : ∃ a, l = [a] := List.length_eq_one_iff.1 h
theorem lenS {α : Type} {l : List α} {n : Nat} (h : l.length = n + 1) : ∃ a r, l = a :: r ∧ r.length = n := by
  cases l with
  | nil => cases h
  | cons a r => exact ⟨a, r, rfl, by simpa using h⟩
theorem len2 {α : Type} {l : List α} (h : l.length = 2) : ∃ a b, l = [a, b] := by
  obtain ⟨a, r1, e1, h1⟩ := lenS h
  obtain ⟨b, e2⟩ := len1 h1
  exact ⟨a, b, by rw [e1, e2]⟩
theorem len3 {α : Type} {l : List α} (h : l.length = 3) : ∃ a b c, l = [a, b, c] := by
  obtain ⟨a, r1, e1, h1⟩ := lenS h
  obtain ⟨b, c, e2⟩ := len2 h1
  exact ⟨a, b, c, by rw [e1, e2]⟩
theorem len4 {α : Type} {l : List α} (h : l.length = 4) : ∃ a b c d, l = [a, b, c, d] := by
  obtain ⟨a, r1, e1, h1⟩ := lenS h
  obtain ⟨b, c, d, e2⟩ := len3 h1
  exact ⟨a, b, c, d, by rw [e1, e2]⟩
theorem len8 {α : Type} {l : List α} (h : l.length = 8) : ∃ a b c d e f g i, l = [a, b, c, d, e, f, g, i] := by
  obtain ⟨a, r1, e1, h1⟩ := lenS h
  obtain ⟨b, r2, e2, h2⟩ := lenS h1
  obtain ⟨c, r3, e3, h3⟩ := lenS h2
  obtain ⟨d, r4, e4, h4⟩ := lenS h3
  obtain ⟨e, f, g, i, e5⟩ := len4 h4
  exact ⟨a, b, c, d, e, f, g, i, by rw [e1, e2, e3, e4, e5]⟩
theorem imm_rowsE {α : Type} {f : α → V} {hx : Heap} (h : ∀ x, toImm hx 12 (f x) = some (f x)) : ∀ l : List α, allSome (l.map (toImm hx 12 ∘ f)) = some (l.map f)
  | [] => rfl
  | a :: l => by simp [allSome, h a, imm_rowsE h l]
theorem dull_rows {α : Type} {f : α → V} (h : ∀ x, (f x).dull = f x) : ∀ l : List α, dullL (l.map f) = l.map f
  | [] => rfl
  | a :: l => by simp [dullL, h a, dull_rows h l]
@[simp] theorem opn_rows (hx : Heap) (l : List Opn) : allSome (l.map (toImm hx 12 ∘ Opn.enc)) = some (l.map Opn.enc) := imm_rowsE (fun _ => rfl) l
theorem take_snoc_map {α : Type} {f : α → V} {l : List α} {i : Nat} (h : i < l.length) : List.take i (List.take i (l.map f)) ++ [f l[i]] = List.take (i + 1) (l.map f) := by
  rw [List.take_take, Nat.min_self, List.take_add_one]; simp [h]
theorem wrap_u16 {n : Int} (h : 0 ≤ n ∧ n ≤ 65535) : IntKind.u16.wrap n = n := by
  simp only [IntKind.wrap, IntKind.signed, IntKind.bits, Bool.false_and]
  simp
  omega
structure SizesP (l : List Int) : Prop where
  elem : ∀ i (h : i < l.length), 1 ≤ l[i] ∧ l[i] ≤ 32
  pos : 1 ≤ l.length
  le : l.length ≤ 4
def nth (l : List Int) (i : Nat) : Int := l.getD i 0
theorem nth_eq {l : List Int} {i : Nat} (h : i < l.length) : nth l i = l[i] := by simp [nth, List.getD, h]
@[simp] theorem f_ref01_Mod (v : Int) (n : Int) (hn : 1 ≤ n ∧ n ≤ 4611686018427387904) : pcall X 24 [.int .i64 v, .int .i64 n] = some (.int .i64 (v % n)) := by
  refine pcall_of Tryz.func24 rfl rfl ?_
  have h0 : (n = 0) = False := by simp; omega
  have h1 := Int.emod_nonneg v (show n ≠ 0 by omega)
  have h2 := Int.emod_lt_of_pos v (show 0 < n by omega)
  rw [emod_tmod (show 0 < n by omega)]
  by_cases hc : v.tmod n < 0
  · simp (maxSteps := 10000000) (maxDischargeDepth := 30) (implicitDefEqProofs := false) [h0, hc]
    rw [emod_tmod (show 0 < n by omega), if_pos hc] at h1 h2
    exact wrap_i64 (by omega)
  · simp (maxSteps := 10000000) (maxDischargeDepth := 30) (implicitDefEqProofs := false) [h0, hc]
@[simp] theorem f_make_Mod (v : Int) (n : Int) (hn : 1 ≤ n ∧ n ≤ 4611686018427387904) : pcall X 13 [.int .i64 v, .int .i64 n] = some (.int .i64 (v % n)) := by
  refine pcall_of Tryz.func13 rfl rfl ?_
  simp (maxSteps := 10000000) (maxDischargeDepth := 30) (implicitDefEqProofs := false) [hn]
@[simp] theorem f_make_Few (l : List Int)  : pcall X 5 [.sl false (l.map (V.int .i64))] = some (.bool (decide (l.length ≤ 400))) := by
  refine pcall_of Tryz.func5 rfl rfl ?_
  simp (maxSteps := 10000000) (maxDischargeDepth := 30) (implicitDefEqProofs := false) []
  by_cases h : l.length ≤ 400 <;> simp [h] <;> omega
@[simp] theorem c_New (l : List Int) (h : Heap) (k : Nat)  : callL X 7 [.sl false (l.map (V.int .i64))] h k = some (.ptr (k + 3) 0 0, upd h (k + 3) (some ⟨2, [.agg [.sl false (l.map (V.int .i64)), .int .i64 0]], true⟩), k + 5) := by
  obtain ⟨v, h', n', e1, e2, e3, e4⟩ := callL_of (X := X) (g := 7) (args := [.sl false (l.map (V.int .i64))]) (h := h) (k := k) (K := fun v h' n' => v = .ptr (k + 3) 0 0 ∧ h' = upd h (k + 3) (some ⟨2, [.agg [.sl false (l.map (V.int .i64)), .int .i64 0]], true⟩) ∧ n' = k + 5) Tryz.func7 rfl rfl (by
    simp (maxSteps := 10000000) (maxDischargeDepth := 30) (implicitDefEqProofs := false) [Nat.add_assoc])
  rw [e1, e2, e3, e4]
@[simp] theorem tailV_bad (v : V) (vs : List V) : Go.Abs.tailV .bad (v :: vs) = v := rfl
@[simp] theorem tailV_tup (l vs : List V) : Go.Abs.tailV (.tup l) vs = .tup vs := rfl
structure Deck where
  l : List Int
  time : Int
structure DeckP (l : List Int) (k : Int) : Prop where
  pos : 0 ≤ k
  len : (l.length : Int) ≤ 4611686018427387904
def dnV (l : List Int) (k n : Int) : Int := if k < l.length then nth l k.toNat % n else 0
def dnK (l : List Int) (k : Int) : Int := if k < l.length then k + 1 else k
@[simp] theorem dnK_ok {l : List Int} {k : Int} (h : DeckP l k) : DeckP l (dnK l k) := by
  refine ⟨?_, h.len⟩
  have := h.pos
  unfold dnK; split <;> omega
theorem dnV_in (l : List Int) (k : Int) {n : Int} (h : 1 ≤ n) : 0 ≤ dnV l k n ∧ dnV l k n < n := by
  unfold dnV; split
  · exact ⟨Int.emod_nonneg _ (by omega), Int.emod_lt_of_pos _ (by omega)⟩
  · omega
theorem dnV_nat (l : List Int) (k : Int) {n : Nat} (h : 1 ≤ n) : ∃ v : Nat, dnV l k n = v ∧ v < n := by
  have := dnV_in l k (n := n) (by omega)
  exact ⟨(dnV l k n).toNat, by omega, by omega⟩
@[simp] theorem f_make_Deck_Next (d_l : List Int) (d_time : Int) (n : Int) (hd : DeckP d_l d_time) (hn : 1 ≤ n ∧ n ≤ 4611686018427387904) : mcall X ([]) 10 2 (.agg [.sl false (d_l.map (V.int .i64)), .int .i64 d_time]) [.int .i64 n] = some (2, .agg [.sl false ((⟨d_l, dnK d_l d_time⟩ : Deck).l.map (V.int .i64)), .int .i64 (⟨d_l, dnK d_l d_time⟩ : Deck).time], [.int .i64 (dnV d_l d_time n)], .bad) := by
  refine mcall_of Tryz.func10 rfl rfl ?_
  have h1 := hd.pos
  have h2 := hd.len
  by_cases h : d_time < d_l.length
  · obtain ⟨k, rfl⟩ := Int.eq_ofNat_of_zero_le h1
    have hk : k < d_l.length := by omega
    have hk' : ¬ d_l.length ≤ k := by omega
    have hw : IntKind.i64.wrap ((k : Int) + 1) = (k : Int) + 1 := wrap_i64 (by omega)
    have hw2 : IntKind.i64.wrap ((k : Int) + 1 - 1) = k := by rw [wrap_i64 (by omega)]; omega
    have hw3 : IntKind.i64.wrap (k : Int) = k := wrap_i64 (by omega)
    have e1 : dnK d_l (k : Int) = (k : Int) + 1 := by unfold dnK; rw [if_pos h]
    have e2 : dnV d_l (k : Int) n = d_l[k] % n := by unfold dnV; rw [if_pos h]; simp [nth_eq hk]
    simp (maxSteps := 10000000) (maxDischargeDepth := 30) (implicitDefEqProofs := false) [hk, hk', hw, hw2, hw3, e1, e2, hn]
  · have e1 : dnK d_l d_time = d_time := by unfold dnK; rw [if_neg h]
    have e2 : dnV d_l d_time n = 0 := by unfold dnV; rw [if_neg h]
    have h' : (d_l.length : Int) ≤ d_time := by omega
    simp (maxSteps := 10000000) (maxDischargeDepth := 30) (implicitDefEqProofs := false) [h, h', e1, e2]
def wordV (l : List Int) (k : Int) : Int := if dnV l k 5 ≤ 2 then dnV l (dnK l k) 8 else if dnV l k 5 = 3 then 65535 - dnV l (dnK l k) 3 else dnV l (dnK l k) 65536
def wordK (l : List Int) (k : Int) : Int := dnK l (dnK l k)
theorem wordK_eq (l : List Int) (k : Int) : wordK l k = dnK l (dnK l k) := rfl
@[simp] theorem wordK_ok {l : List Int} {k : Int} (h : DeckP l k) : DeckP l (wordK l k) := dnK_ok (dnK_ok h)
theorem wordV_in (l : List Int) (k : Int) : 0 ≤ wordV l k ∧ wordV l k ≤ 65535 := by
  have h1 := dnV_in l (dnK l k) (n := 8) (by omega)
  have h2 := dnV_in l (dnK l k) (n := 3) (by omega)
  have h3 := dnV_in l (dnK l k) (n := 65536) (by omega)
  unfold wordV; split
  · omega
  · split <;> omega
@[simp] theorem f_make_Deck_Word (d_l : List Int) (d_time : Int) (hd : DeckP d_l d_time) : mcall X ([]) 62 2 (.agg [.sl false (d_l.map (V.int .i64)), .int .i64 d_time]) [] = some (2, .agg [.sl false ((⟨d_l, wordK d_l d_time⟩ : Deck).l.map (V.int .i64)), .int .i64 (⟨d_l, wordK d_l d_time⟩ : Deck).time], [.int .u16 (wordV d_l d_time)], .bad) := by
  refine mcall_of Tryz.func62 rfl rfl ?_
  have h0 := dnV_in d_l d_time (n := 5) (by omega)
  have h1 := dnV_in d_l (dnK d_l d_time) (n := 8) (by omega)
  have h2 := dnV_in d_l (dnK d_l d_time) (n := 3) (by omega)
  have h3 := dnV_in d_l (dnK d_l d_time) (n := 65536) (by omega)
  have w1 : IntKind.u16.wrap (dnV d_l (dnK d_l d_time) 8) = dnV d_l (dnK d_l d_time) 8 := wrap_u16 (by omega)
  have w2 : IntKind.u16.wrap (65535 - dnV d_l (dnK d_l d_time) 3) = 65535 - dnV d_l (dnK d_l d_time) 3 := wrap_u16 (by omega)
  have w2' : IntKind.i64.wrap (65535 - dnV d_l (dnK d_l d_time) 3) = 65535 - dnV d_l (dnK d_l d_time) 3 := wrap_i64 (by omega)
  have w3 : IntKind.u16.wrap (dnV d_l (dnK d_l d_time) 65536) = dnV d_l (dnK d_l d_time) 65536 := wrap_u16 (by omega)
  have hc : dnV d_l d_time 5 = 0 ∨ dnV d_l d_time 5 = 1 ∨ dnV d_l d_time 5 = 2 ∨ dnV d_l d_time 5 = 3 ∨ dnV d_l d_time 5 = 4 := by omega
  rcases hc with hc | hc | hc | hc | hc <;> simp (maxSteps := 10000000) (maxDischargeDepth := 30) (implicitDefEqProofs := false) [hd, hc, w1, w2, w2', w3, wordV, wordK_eq]
def wordsUp (l : List Int) (k : Int) : Nat → List Int × Int
  | 0 => ([], k)
  | i + 1 => ((wordsUp l k i).1 ++ [wordV l (wordsUp l k i).2], wordK l (wordsUp l k i).2)
theorem wordsUp_zero (l : List Int) (k : Int) : wordsUp l k 0 = ([], k) := rfl
theorem wordsUp_up (l : List Int) (k : Int) (i : Nat) : wordsUp l k (i + 1) = ((wordsUp l k i).1 ++ [wordV l (wordsUp l k i).2], wordK l (wordsUp l k i).2) := rfl
@[simp] theorem wordsUp_ok {l : List Int} {k : Int} (h : DeckP l k) (i : Nat) : DeckP l (wordsUp l k i).2 := by
  induction i with
  | zero => exact h
  | succ i ih => exact wordK_ok ih
theorem wordsUp_len (l : List Int) (k : Int) (i : Nat) : (wordsUp l k i).1.length = i := by
  induction i with
  | zero => rfl
  | succ i ih => rw [wordsUp_up]; simp [ih]
def wordsV (l : List Int) (k n : Int) : List Int := (wordsUp l (dnK l k) (dnV l k (n + 1)).toNat).1
def wordsK (l : List Int) (k n : Int) : Int := (wordsUp l (dnK l k) (dnV l k (n + 1)).toNat).2
@[simp] theorem wordsK_ok {l : List Int} {k n : Int} (h : DeckP l k) : DeckP l (wordsK l k n) := wordsUp_ok (dnK_ok h) _
@[simp] theorem f_make_Deck_Words (d_l : List Int) (d_time : Int) (n : Int) (hd : DeckP d_l d_time) (hn : 0 ≤ n ∧ n ≤ 1000) : mcall X ([]) 40 2 (.agg [.sl false (d_l.map (V.int .i64)), .int .i64 d_time]) [.int .i64 n] = some (2, .agg [.sl false ((⟨d_l, wordsK d_l d_time n⟩ : Deck).l.map (V.int .i64)), .int .i64 (⟨d_l, wordsK d_l d_time n⟩ : Deck).time], [.sl false ((wordsV d_l d_time n).map (V.int .u16))], .bad) := by
  refine mcall_of Tryz.func40 rfl rfl ?_
  have w0 : IntKind.i64.wrap (n + 1) = n + 1 := wrap_i64 (by omega)
  have h0 := dnV_in d_l d_time (n := n + 1) (by omega)
  obtain ⟨N, hN⟩ : ∃ N : Nat, dnV d_l d_time (n + 1) = N := ⟨(dnV d_l d_time (n + 1)).toNat, by omega⟩
  have e1 : wordsV d_l d_time n = (wordsUp d_l (dnK d_l d_time) N).1 := by unfold wordsV; rw [hN]; rfl
  have e2 : wordsK d_l d_time n = (wordsUp d_l (dnK d_l d_time) N).2 := by unfold wordsK; rw [hN]; rfl
  have hd1 := dnK_ok hd
  have hn1 : 1 ≤ n + 1 ∧ n + 1 ≤ 4611686018427387904 := by omega
  rw [e1, e2]
  simp (maxSteps := 10000000) (maxDischargeDepth := 30) (implicitDefEqProofs := false) [hd, w0, hn1, hN]
  refine Wp_up (fun i S => (S.f 0 = .ptr 0 0 0 ∧ S.h 0 = some ⟨2, [.agg [.sl false ((⟨d_l, (wordsUp d_l (dnK d_l d_time) i).2⟩ : Deck).l.map (V.int .i64)), .int .i64 (⟨d_l, (wordsUp d_l (dnK d_l d_time) i).2⟩ : Deck).time]], true⟩ ∧ S.f 5 = .hdr 5 0 ((((wordsUp d_l (dnK d_l d_time) i).1).map (V.int .u16))).length ∧ S.h 5 = some ⟨1, (((wordsUp d_l (dnK d_l d_time) i).1).map (V.int .u16)), false⟩ ∧ S.f 6 = .int .i64 ((N : Int) - i) ∧ S.n = 1100) ∧ True) (N) ?_ 0 (by simp) ?_
  · rintro i S hii ⟨hI0, hP0⟩
    have hwi : IntKind.i64.wrap ((i : Int) + 1) = (i : Int) + 1 := wrap_i64 (by omega)
    by_cases hlti : i < N
    · have hdi := wordsUp_ok hd1 i
      have w1 : IntKind.i64.wrap ((N : Int) - i - 1) = (N : Int) - (i + 1 : Nat) := by rw [wrap_i64 (by omega)]; omega
      have c1 : (0 : Int) < (N : Int) - i := by omega
      have hwl := wordsUp_len d_l (dnK d_l d_time) i
      simp (maxSteps := 10000000) (maxDischargeDepth := 30) (implicitDefEqProofs := false) [hI0, hii, hwi, hlti, hdi, w1, c1, wordsUp_up]
      omega
    · have hei : N = i := by omega
      subst hei
      simp (maxSteps := 10000000) (maxDischargeDepth := 30) (implicitDefEqProofs := false) [hI0, hii, hwi, hlti]
  · simp (maxSteps := 10000000) (maxDischargeDepth := 30) (implicitDefEqProofs := false) [] <;> (
      simp [wordsUp_zero])
end Go.Proofs.YtcfmnogghcjdaaaGreatDoor
namespace Go.Proofs.YtcfmnogghcjdaaaGreatDoor
open Go Go.Abs Go.Abs.Api
def uses (op : Int) (k : Nat) : Bool :=
  if op = 1 ∨ op = 15 ∨ op = 19 ∨ op = 20 ∨ op = 21 then (k == 0) || (k == 3)
  else if op = 2 then (k == 0) || (k == 1)
  else if op = 16 ∨ op = 17 then (k == 0) || (k == 1) || (k == 3)
  else if op = 18 ∨ op = 23 then k == 3
  else if op = 22 then k == 0
  else if op = 0 ∨ op = 24 then false
  else (k == 0) || (k == 1) || (k == 2)
def jumps (op : Int) : Bool := decide (op = 18) || decide (op = 19) || decide (op = 20) || decide (op = 21)
theorem op_cases {op : Int} (h : 0 ≤ op ∧ op ≤ 24) : op = 0 ∨ op = 1 ∨ op = 2 ∨ op = 3 ∨ op = 4 ∨ op = 5 ∨ op = 6 ∨ op = 7 ∨ op = 8 ∨ op = 9 ∨ op = 10 ∨ op = 11 ∨ op = 12 ∨ op = 13 ∨ op = 14 ∨ op = 15 ∨ op = 16 ∨ op = 17 ∨ op = 18 ∨ op = 19 ∨ op = 20 ∨ op = 21 ∨ op = 22 ∨ op = 23 ∨ op = 24 := by omega
@[simp] theorem f_ref06_Uses (op : Int) (ho : 0 ≤ op ∧ op ≤ 24) : pcall X 78 [.int .i64 op] = some (.agg [.bool ((uses op) 0), .bool ((uses op) 1), .bool ((uses op) 2), .bool ((uses op) 3)]) := by
  refine pcall_of Tryz.func78 rfl rfl ?_
  rcases op_cases ho with rfl | rfl | rfl | rfl | rfl | rfl | rfl | rfl | rfl | rfl | rfl | rfl | rfl | rfl | rfl | rfl | rfl | rfl | rfl | rfl | rfl | rfl | rfl | rfl | rfl
  all_goals simp (maxSteps := 10000000) (maxDischargeDepth := 30) (implicitDefEqProofs := false) [uses]
@[simp] theorem f_ref06_Jump (op : Int)  : pcall X 44 [.int .i64 op] = some (.bool (jumps op)) := by
  refine pcall_of Tryz.func44 rfl rfl ?_
  simp (maxSteps := 10000000) (maxDischargeDepth := 30) (implicitDefEqProofs := false) [jumps]
  omega
def pick3 (v : Int) : Int := if v = 0 then 6 else if v = 1 then 12 else 32
def sizeV (l : List Int) (k : Int) : Int := 1 + dnV l (dnK l k) (pick3 (dnV l k 3))
def sizesUp (l : List Int) (k : Int) : Nat → List Int × Int
  | 0 => ([4 + dnV l k 9], dnK l (dnK l k))
  | i + 1 => ((sizesUp l k i).1 ++ [sizeV l (sizesUp l k i).2], dnK l (dnK l (sizesUp l k i).2))
theorem sizesUp_zero (l : List Int) (k : Int) : sizesUp l k 0 = ([4 + dnV l k 9], dnK l (dnK l k)) := rfl
theorem sizesUp_up (l : List Int) (k : Int) (i : Nat) : sizesUp l k (i + 1) = ((sizesUp l k i).1 ++ [sizeV l (sizesUp l k i).2], dnK l (dnK l (sizesUp l k i).2)) := rfl
@[simp] theorem sizesUp_ok {l : List Int} {k : Int} (h : DeckP l k) (i : Nat) : DeckP l (sizesUp l k i).2 := by
  induction i with
  | zero => exact dnK_ok (dnK_ok h)
  | succ i ih => exact dnK_ok (dnK_ok ih)
theorem sizesUp_len (l : List Int) (k : Int) (i : Nat) : (sizesUp l k i).1.length = i + 1 := by
  induction i with
  | zero => rfl
  | succ i ih => rw [sizesUp_up]; simp [ih]
def sizesV (l : List Int) (k : Int) : List Int := (sizesUp l k (dnV l (dnK l k) 4).toNat).1
def sizesK (l : List Int) (k : Int) : Int := (sizesUp l k (dnV l (dnK l k) 4).toNat).2
@[simp] theorem sizesK_ok {l : List Int} {k : Int} (h : DeckP l k) : DeckP l (sizesK l k) := sizesUp_ok h _
theorem sizeV_in (l : List Int) (k : Int) : 1 ≤ sizeV l k ∧ sizeV l k ≤ 32 := by
  have h := dnV_in l (dnK l k) (n := pick3 (dnV l k 3)) (by unfold pick3; split <;> (try split) <;> omega)
  have : pick3 (dnV l k 3) ≤ 32 := by unfold pick3; split <;> (try split) <;> omega
  unfold sizeV; omega
theorem sizesUp_in (l : List Int) (k : Int) (i : Nat) : ∀ x ∈ (sizesUp l k i).1, 1 ≤ x ∧ x ≤ 32 := by
  induction i with
  | zero =>
    intro x hx
    simp [sizesUp_zero] at hx
    have := dnV_in l k (n := 9) (by omega)
    omega
  | succ i ih =>
    intro x hx
    rw [sizesUp_up] at hx
    simp at hx
    rcases hx with hx | rfl
    · exact ih x hx
    · exact sizeV_in _ _
theorem sizesV_ok (l : List Int) (k : Int) : SizesP (sizesV l k) := by
  have h := dnV_in l (dnK l k) (n := 4) (by omega)
  refine ⟨fun i hi => sizesUp_in l k _ _ (List.getElem_mem hi), ?_, ?_⟩
  · unfold sizesV; rw [sizesUp_len]; omega
  · unfold sizesV; rw [sizesUp_len]; omega
@[simp] theorem f_make_Deck_Sizes (d_l : List Int) (d_time : Int) (hd : DeckP d_l d_time) : mcall X ([]) 39 2 (.agg [.sl false (d_l.map (V.int .i64)), .int .i64 d_time]) [] = some (2, .agg [.sl false ((⟨d_l, sizesK d_l d_time⟩ : Deck).l.map (V.int .i64)), .int .i64 (⟨d_l, sizesK d_l d_time⟩ : Deck).time], [.sl false ((sizesV d_l d_time).map (V.int .i64))], .bad) := by
  refine mcall_of Tryz.func39 rfl rfl ?_
  have h0 := dnV_in d_l d_time (n := 9) (by omega)
  have w0 : IntKind.i64.wrap (4 + dnV d_l d_time 9) = 4 + dnV d_l d_time 9 := wrap_i64 (by omega)
  have h1 := dnV_in d_l (dnK d_l d_time) (n := 4) (by omega)
  obtain ⟨N, hN⟩ : ∃ N : Nat, dnV d_l (dnK d_l d_time) 4 = N := ⟨(dnV d_l (dnK d_l d_time) 4).toNat, by omega⟩
  have e1 : sizesV d_l d_time = (sizesUp d_l d_time N).1 := by unfold sizesV; rw [hN]; rfl
  have e2 : sizesK d_l d_time = (sizesUp d_l d_time N).2 := by unfold sizesK; rw [hN]; rfl
  rw [e1, e2]
  simp (maxSteps := 10000000) (maxDischargeDepth := 30) (implicitDefEqProofs := false) [hd, w0, hN]
  refine Wp_up (fun i S => (S.f 0 = .ptr 0 0 0 ∧ S.h 0 = some ⟨2, [.agg [.sl false ((⟨d_l, (sizesUp d_l d_time i).2⟩ : Deck).l.map (V.int .i64)), .int .i64 (⟨d_l, (sizesUp d_l d_time i).2⟩ : Deck).time]], true⟩ ∧ S.f 3 = .hdr 3 0 ((((sizesUp d_l d_time i).1).map (V.int .i64))).length ∧ S.h 3 = some ⟨1, (((sizesUp d_l d_time i).1).map (V.int .i64)), false⟩ ∧ S.f 4 = .int .i64 ((N : Int) - i) ∧ S.n = 1100) ∧ True) (N) ?_ 0 (by simp) ?_
  · rintro i S hii ⟨hI0, hP0⟩
    have hwi : IntKind.i64.wrap ((i : Int) + 1) = (i : Int) + 1 := wrap_i64 (by omega)
    by_cases hlti : i < N
    · have hdi := sizesUp_ok hd i
      have w1 : IntKind.i64.wrap ((N : Int) - i - 1) = (N : Int) - (i + 1 : Nat) := by rw [wrap_i64 (by omega)]; omega
      have c1 : (0 : Int) < (N : Int) - i := by omega
      have hsl := sizesUp_len d_l d_time i
      have h2 := dnV_in d_l (sizesUp d_l d_time i).2 (n := 3) (by omega)
      have hs := sizeV_in d_l (sizesUp d_l d_time i).2
      have es : sizeV d_l (sizesUp d_l d_time i).2 = 1 + dnV d_l (dnK d_l (sizesUp d_l d_time i).2) (pick3 (dnV d_l (sizesUp d_l d_time i).2 3)) := rfl
      have hw : IntKind.i64.wrap (sizeV d_l (sizesUp d_l d_time i).2) = sizeV d_l (sizesUp d_l d_time i).2 := wrap_i64 (by omega)
      rw [es] at hw
      have hc : dnV d_l (sizesUp d_l d_time i).2 3 = 0 ∨ dnV d_l (sizesUp d_l d_time i).2 3 = 1 ∨ dnV d_l (sizesUp d_l d_time i).2 3 = 2 := by omega
      rcases hc with hc | hc | hc
      · rw [hc] at hw es
        have p : pick3 0 = 6 := rfl
        rw [p] at hw es
        simp (maxSteps := 10000000) (maxDischargeDepth := 30) (implicitDefEqProofs := false) [hI0, hii, hwi, hlti, hdi, w1, c1, hc, hw, es, sizesUp_up]
        omega
      · rw [hc] at hw es
        have p : pick3 1 = 12 := rfl
        rw [p] at hw es
        simp (maxSteps := 10000000) (maxDischargeDepth := 30) (implicitDefEqProofs := false) [hI0, hii, hwi, hlti, hdi, w1, c1, hc, hw, es, sizesUp_up]
        omega
      · rw [hc] at hw es
        have p : pick3 2 = 32 := rfl
        rw [p] at hw es
        simp (maxSteps := 10000000) (maxDischargeDepth := 30) (implicitDefEqProofs := false) [hI0, hii, hwi, hlti, hdi, w1, c1, hc, hw, es, sizesUp_up]
        omega
    · have hei : N = i := by omega
      subst hei
      simp (maxSteps := 10000000) (maxDischargeDepth := 30) (implicitDefEqProofs := false) [hI0, hii, hwi, hlti]
  · simp (maxSteps := 10000000) (maxDischargeDepth := 30) (implicitDefEqProofs := false) [] <;> (
      simp [sizesUp_zero])
@[simp] theorem f_make_li (r : Int) (n : Int)  : pcall X 42 [.int .i64 r, .int .i64 n] = some (.agg [.int .i64 ((⟨1, r, 0, 0, n⟩ : Instr)).op, .int .i64 ((⟨1, r, 0, 0, n⟩ : Instr)).a, .int .i64 ((⟨1, r, 0, 0, n⟩ : Instr)).b, .int .i64 ((⟨1, r, 0, 0, n⟩ : Instr)).c, .int .i64 ((⟨1, r, 0, 0, n⟩ : Instr)).imm]) := by
  refine pcall_of Tryz.func42 rfl rfl ?_
  simp (maxSteps := 10000000) (maxDischargeDepth := 30) (implicitDefEqProofs := false) [Instr.enc_eq]
@[simp] theorem f_make_mov (a : Int) (b : Int)  : pcall X 63 [.int .i64 a, .int .i64 b] = some (.agg [.int .i64 ((⟨2, a, b, 0, 0⟩ : Instr)).op, .int .i64 ((⟨2, a, b, 0, 0⟩ : Instr)).a, .int .i64 ((⟨2, a, b, 0, 0⟩ : Instr)).b, .int .i64 ((⟨2, a, b, 0, 0⟩ : Instr)).c, .int .i64 ((⟨2, a, b, 0, 0⟩ : Instr)).imm]) := by
  refine pcall_of Tryz.func63 rfl rfl ?_
  simp (maxSteps := 10000000) (maxDischargeDepth := 30) (implicitDefEqProofs := false) [Instr.enc_eq]
@[simp] theorem f_make_sys (n : Int)  : pcall X 43 [.int .i64 n] = some (.agg [.int .i64 ((⟨23, 0, 0, 0, n⟩ : Instr)).op, .int .i64 ((⟨23, 0, 0, 0, n⟩ : Instr)).a, .int .i64 ((⟨23, 0, 0, 0, n⟩ : Instr)).b, .int .i64 ((⟨23, 0, 0, 0, n⟩ : Instr)).c, .int .i64 ((⟨23, 0, 0, 0, n⟩ : Instr)).imm]) := by
  refine pcall_of Tryz.func43 rfl rfl ?_
  simp (maxSteps := 10000000) (maxDischargeDepth := 30) (implicitDefEqProofs := false) [Instr.enc_eq]
def fldV (l : List Int) (u : Bool) (k : Int) : Int := if u = true then dnV l k 8 else 0
def fldK (l : List Int) (u : Bool) (k : Int) : Int := if u = true then dnK l k else k
@[simp] theorem fldK_ok {l : List Int} {u : Bool} {k : Int} (h : DeckP l k) : DeckP l (fldK l u k) := by
  unfold fldK; split
  · exact dnK_ok h
  · exact h
theorem fldV_true (l : List Int) (k : Int) : fldV l true k = dnV l k 8 := rfl
theorem fldV_false (l : List Int) (k : Int) : fldV l false k = 0 := rfl
theorem fldK_true (l : List Int) (k : Int) : fldK l true k = dnK l k := rfl
theorem fldK_false (l : List Int) (k : Int) : fldK l false k = k := rfl
def immV (l : List Int) (op n most k : Int) : Int := if jumps op = true then dnV l k most else if op = 15 then dnV l k n else if op = 23 then dnV l k 16 else if uses op 3 = true then wordV l k else 0
def immK (l : List Int) (op k : Int) : Int := if jumps op = true then dnK l k else if op = 15 then dnK l k else if op = 23 then dnK l k else if uses op 3 = true then wordK l k else k
@[simp] theorem immK_ok {l : List Int} {op k : Int} (h : DeckP l k) : DeckP l (immK l op k) := by
  unfold immK; repeat' split
  · exact dnK_ok h
  · exact dnK_ok h
  · exact dnK_ok h
  · exact wordK_ok h
  · exact h
def k1 (l : List Int) (op k : Int) : Int := fldK l (uses op 0) (dnK l k)
def k2 (l : List Int) (op k : Int) : Int := fldK l (uses op 1) (k1 l op k)
def k3 (l : List Int) (op k : Int) : Int := fldK l (uses op 2) (k2 l op k)
def dinsV (l : List Int) (n most k : Int) : Instr :=
  ⟨dnV l k 25, fldV l (uses (dnV l k 25) 0) (dnK l k), fldV l (uses (dnV l k 25) 1) (k1 l (dnV l k 25) k), fldV l (uses (dnV l k 25) 2) (k2 l (dnV l k 25) k), immV l (dnV l k 25) n most (k3 l (dnV l k 25) k)⟩
def dinsK (l : List Int) (k : Int) : Int := immK l (dnV l k 25) (k3 l (dnV l k 25) k)
@[simp] theorem dinsK_ok {l : List Int} {k : Int} (h : DeckP l k) : DeckP l (dinsK l k) := immK_ok (fldK_ok (fldK_ok (fldK_ok (dnK_ok h))))
@[simp] theorem f_make_Deck_Instr (d_l : List Int) (d_time : Int) (n : Int) (most : Int) (hd : DeckP d_l d_time) (hn : 1 ≤ n ∧ n ≤ 4611686018427387904) (hm : 1 ≤ most ∧ most ≤ 4611686018427387904) : mcall X ([]) 64 2 (.agg [.sl false (d_l.map (V.int .i64)), .int .i64 d_time]) [.int .i64 n, .int .i64 most] = some (2, .agg [.sl false ((⟨d_l, dinsK d_l d_time⟩ : Deck).l.map (V.int .i64)), .int .i64 (⟨d_l, dinsK d_l d_time⟩ : Deck).time], [.agg [.int .i64 (dinsV d_l n most d_time).op, .int .i64 (dinsV d_l n most d_time).a, .int .i64 (dinsV d_l n most d_time).b, .int .i64 (dinsV d_l n most d_time).c, .int .i64 (dinsV d_l n most d_time).imm]], .bad) := by
  refine mcall_of Tryz.func64 rfl rfl ?_
  have h0 := dnV_in d_l d_time (n := 25) (by omega)
  have ho : 0 ≤ dnV d_l d_time 25 ∧ dnV d_l d_time 25 ≤ 24 := by omega
  obtain ⟨op, hop⟩ : ∃ op, dnV d_l d_time 25 = op := ⟨_, rfl⟩
  unfold dinsV dinsK
  rw [hop] at ho ⊢
  unfold k3 k2 k1 immV immK
  have hw : ∀ k, IntKind.i64.wrap (wordV d_l k) = wordV d_l k := fun k => by have := wordV_in d_l k; exact wrap_i64 (by omega)
  cases u0 : uses op 0 <;> cases u1 : uses op 1 <;> cases u2 : uses op 2 <;> simp only [fldV_true, fldV_false, fldK_true, fldK_false]
  all_goals
    by_cases j : jumps op = true
    · simp (maxSteps := 10000000) (maxDischargeDepth := 30) (implicitDefEqProofs := false) [hd, hop, ho, u0, u1, u2, j, hm, fldV, fldK]
    · by_cases o15 : op = 15
      · subst o15
        simp (maxSteps := 10000000) (maxDischargeDepth := 30) (implicitDefEqProofs := false) [hd, hop, ho, u0, u1, u2, j, hn, fldV, fldK]
      · by_cases o23 : op = 23
        · subst o23
          simp (maxSteps := 10000000) (maxDischargeDepth := 30) (implicitDefEqProofs := false) [hd, hop, ho, u0, u1, u2, j, fldV, fldK]
        · cases u3 : uses op 3
          · simp (maxSteps := 10000000) (maxDischargeDepth := 30) (implicitDefEqProofs := false) [hd, hop, ho, u0, u1, u2, u3, j, o15, o23, fldV, fldK]
          · simp (maxSteps := 10000000) (maxDischargeDepth := 30) (implicitDefEqProofs := false) [hd, hop, ho, u0, u1, u2, u3, j, o15, o23, hw, fldV, fldK]
end Go.Proofs.YtcfmnogghcjdaaaGreatDoor
