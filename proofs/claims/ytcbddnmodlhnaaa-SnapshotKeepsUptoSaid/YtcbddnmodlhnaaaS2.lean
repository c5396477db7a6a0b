/- Stores: whether two are the same, the check, the last one up to an entry. -/
import Derived.Test.YtcbddnmodlhnaaaS1
set_option linter.unusedVariables false
set_option linter.unusedSimpArgs false
namespace Go.Proofs.Ytcbddnmodlhnaaa
open Go Go.Abs

def SmallS (l : List Snap) : Prop := l.length ≤ 1000000000 ∧ ∀ x ∈ l, SmallR x.regions ∧ SmallT x.threads

theorem snap_eq (x y : Snap) : x = y ↔ x.time = y.time ∧ x.regions = y.regions ∧ x.threads = y.threads := by
  cases x; cases y; simp

set_option maxRecDepth 20000 in
theorem s11 (a b : List Snap) (hs : SmallS a) : pcall X 11 [.sl false (a.map Snap.enc), .sl false (b.map Snap.enc)] = some (.bool (decide (a = b))) := by
  refine pcall_of Try.func11 rfl rfl ?_
  simp (implicitDefEqProofs := false)
  refine ⟨fun h e => h (by rw [e]), fun hl => ?_⟩
  have hl : a.length = b.length := by omega
  refine Wp_up (fun i S => S.f 0 = .sl false (a.map Snap.enc) ∧ S.f 1 = .sl false (b.map Snap.enc) ∧ S.f 5 = .int .i64 i ∧ a.take i = b.take i) a.length ?_ 0 (by simp) (by simp)
  rintro i S hi ⟨h0, h1, h5, heq⟩
  have hm := hs.1
  by_cases hlt : i < a.length
  · have hlt' : i < b.length := by omega
    have hx := hs.2 a[i] (List.getElem_mem hlt)
    simp (implicitDefEqProofs := false) [h0, h1, h5, hlt, hlt', Snap.enc_eq, hx.1, hx.2]
    rw [wrap_i64 (by omega)]
    refine ⟨fun e1 => ⟨fun h e => ?_, fun e2 e3 => ⟨rfl, take_up hlt hlt' heq ((snap_eq _ _).2 ⟨e1, e2, e3⟩)⟩⟩, fun h e => ?_⟩
    · subst e; simp at h
    · subst e; simp at h
  · simp (implicitDefEqProofs := false) [h0, h5, hlt]
    exact take_all hlt hl heq

set_option maxRecDepth 20000 in
@[simp] theorem s12 (t u : Int) (ra rb : List (List Canon)) (ta tb : List View) (hr : SmallR ra) (ht : SmallT ta) :
    pcall X 12 [.agg [.int .i64 t, .sl false (ra.map encR), .sl false (ta.map View.enc)], .agg [.int .i64 u, .sl false (rb.map encR), .sl false (tb.map View.enc)]] = some (.bool (decide (t = u ∧ ra = rb ∧ ta = tb))) := by
  have hc := s11 [⟨t, ra, ta⟩] [⟨u, rb, tb⟩] ⟨by simp, by simp [hr, ht]⟩
  simp only [List.map, Snap.enc_eq] at hc
  refine pcall_of Try.func12 rfl rfl ?_
  simp (implicitDefEqProofs := false) [hc]

/-- is the snapshot at a place in order? -/
def okT (ts : List Int) (i : Nat) : Bool := entry (ts.getD i 0) && (i == 0 || decide (ts.getD (i - 1) 0 < ts.getD i 0))
def chk (ts : List Int) : Int := if 8 < ts.length then 3 else if ∀ j, j < ts.length → okT ts j = true then 0 else 35

theorem getT {l : List Snap} {i : Nat} (h : i < l.length) : (l.map Snap.time).getD i 0 = l[i].time := by
  simp [List.getD, h]

theorem chk_bad {ts : List Int} {i : Nat} (h8 : ¬ 8 < ts.length) (hi : i < ts.length) (h : okT ts i = false) : chk ts = 35 := by
  unfold chk
  rw [if_neg h8, if_neg]
  intro hh
  rw [hh i hi] at h; cases h
theorem chk_good {ts : List Int} (h8 : ¬ 8 < ts.length) (h : ∀ j, j < ts.length → okT ts j = true) : chk ts = 0 := by
  unfold chk
  rw [if_neg h8, if_pos h]

theorem okT_pos {l : List Snap} {i : Nat} (h : i < l.length) (h0 : 0 < i) : okT (l.map Snap.time) i = (entry l[i].time && decide (l[i - 1].time < l[i].time)) := by
  unfold okT
  rw [getT h, getT (show i - 1 < l.length by omega)]
  have : (i == 0) = false := by simp; omega
  rw [this, Bool.false_or]
theorem okT_zero {l : List Snap} {i : Nat} (h : i < l.length) (h0 : ¬ 0 < i) : okT (l.map Snap.time) i = entry l[i].time := by
  unfold okT
  rw [getT h]
  have : (i == 0) = true := by simp; omega
  rw [this, Bool.true_or, Bool.and_true]
theorem ok_up {ts : List Int} {i : Nat} (hok : ∀ j, j < i → okT ts j = true) (h : okT ts i = true) : ∀ j, j < i + 1 → okT ts j = true := by
  intro j hj
  rcases Nat.lt_or_ge j i with h' | h'
  · exact hok j h'
  · rw [show j = i by omega]; exact h
theorem wrap_pred {i : Nat} (h0 : 0 < i) (h : i ≤ 1000000000) : IntKind.i64.wrap ((i : Int) - 1) = ((i - 1 : Nat) : Int) := by
  rw [wrap_i64 (by omega)]; omega
theorem wrap_succ {i : Nat} (h : i ≤ 1000000000) : IntKind.i64.wrap ((i : Int) + 1) = (i : Int) + 1 := wrap_i64 (by omega)

set_option maxRecDepth 20000 in
@[simp] theorem s13 (l : List Snap) : pcall X 13 [.sl false (l.map Snap.enc)] = some (.int .i64 (chk (l.map Snap.time))) := by
  refine pcall_of Try.func13 rfl rfl ?_
  simp (implicitDefEqProofs := false)
  refine ⟨fun h => ?_, fun h => ?_⟩
  · unfold chk; rw [if_pos (by simp; omega)]
  have h8 : ¬ 8 < (l.map Snap.time).length := by simp; omega
  refine Wp_up (fun i S => S.f 0 = .sl false (l.map Snap.enc) ∧ S.f 8 = .sl false (l.map Snap.enc) ∧ S.f 9 = .int .i64 l.length ∧ S.f 10 = .int .i64 i ∧ ∀ j, j < i → okT (l.map Snap.time) j = true) l.length ?_ 0 (by simp) (by simp)
  rintro i S hi ⟨f0, f8, f9, f10, hok⟩
  by_cases hlt : i < l.length
  · have hbad : okT (l.map Snap.time) i = false → chk (l.map Snap.time) = 35 := chk_bad h8 (by simpa using hlt)
    have hup := ok_up (i := i) hok
    by_cases h0 : 0 < i
    · have hlt' : i - 1 < l.length := by omega
      rw [okT_pos hlt h0] at hbad hup
      simp (implicitDefEqProofs := false) [f0, f8, f9, f10, hlt, hlt', h0, wrap_pred h0 (by omega), wrap_succ (show i ≤ 1000000000 by omega), Snap.enc_eq]
      exact ⟨fun e => ⟨fun h1 => (hbad (by simp [e]; omega)).symm, fun h1 => hup (by simp [e, h1])⟩, fun e => (hbad (by simp [e])).symm⟩
    · rw [okT_zero hlt h0] at hbad hup
      simp (implicitDefEqProofs := false) [f0, f8, f9, f10, hlt, h0, wrap_succ (show i ≤ 1000000000 by omega), Snap.enc_eq]
      exact ⟨hup, fun e => (hbad e).symm⟩
  · simp (implicitDefEqProofs := false) [f0, f9, f10, hlt]
    exact (chk_good h8 fun j hj => hok j (by simp at hj; omega)).symm

set_option maxRecDepth 20000 in
@[simp] theorem s14 (l : List Snap) : pcall X 14 [.sl false (l.map Snap.enc)] = some (.int .i64 (chk (l.map Snap.time))) := by
  refine pcall_of Try.func14 rfl rfl ?_
  simp (implicitDefEqProofs := false)
  refine ⟨fun h => ?_, fun h => ?_⟩
  · unfold chk; rw [if_pos (by simp; omega)]
  have h8 : ¬ 8 < (l.map Snap.time).length := by simp; omega
  refine Wp_up (fun i S => S.f 0 = .sl false (l.map Snap.enc) ∧ S.f 3 = .int .i64 i ∧ ∀ j, j < i → okT (l.map Snap.time) j = true) l.length ?_ 0 (by simp) (by simp)
  rintro i S hi ⟨f0, f3, hok⟩
  by_cases hlt : i < l.length
  · have hbad : okT (l.map Snap.time) i = false → chk (l.map Snap.time) = 35 := chk_bad h8 (by simpa using hlt)
    have hup := ok_up (i := i) hok
    by_cases h0 : 0 < i
    · have hlt' : i - 1 < l.length := by omega
      rw [okT_pos hlt h0] at hbad hup
      simp (implicitDefEqProofs := false) [f0, f3, hlt, hlt', h0, wrap_pred h0 (by omega), wrap_succ (show i ≤ 1000000000 by omega), Snap.enc_eq]
      exact ⟨fun e => ⟨fun h1 => (hbad (by simp [e]; omega)).symm, fun h1 => hup (by simp [e, h1])⟩, fun e => (hbad (by simp [e])).symm⟩
    · rw [okT_zero hlt h0] at hbad hup
      simp (implicitDefEqProofs := false) [f0, f3, hlt, h0, wrap_succ (show i ≤ 1000000000 by omega), Snap.enc_eq]
      exact ⟨hup, fun e => (hbad e).symm⟩
  · simp (implicitDefEqProofs := false) [f0, f3, hlt]
    exact (chk_good h8 fun j hj => hok j (by simp at hj; omega)).symm

end Go.Proofs.Ytcbddnmodlhnaaa
