/- How light a state is; the laws. -/
import Derived.Test.YtcbddnmodlhnaaaS5
set_option linter.unusedVariables false
set_option linter.unusedSimpArgs false
namespace Go.Proofs.Ytcbddnmodlhnaaa
open Go Go.Abs

def wR (rs : List (List Canon)) : Nat := (rs.map fun r => 4 + r.length).sum
def wT (ts : List View) : Nat := (ts.map fun t => 10 + t.regs.length).sum

theorem sum_up {α : Type} (f : α → Nat) (l : List α) (i : Nat) (h : i < l.length) : ((l.take (i + 1)).map f).sum = ((l.take i).map f).sum + f l[i] := by
  rw [List.take_add_one, List.getElem?_eq_getElem h]
  simp only [Option.toList, List.map_append, List.sum_append, List.map_cons, List.map_nil, List.sum_cons, List.sum_nil, Nat.add_zero]
theorem sum_le {α : Type} (f : α → Nat) : ∀ (l : List α) (i : Nat), ((l.take i).map f).sum ≤ (l.map f).sum
  | [], i => by simp
  | x :: l, 0 => by simp
  | x :: l, i + 1 => by have := sum_le f l i; simp only [List.take_succ_cons, List.map_cons, List.sum_cons]; omega
theorem le_sum {α : Type} (f : α → Nat) : ∀ (l : List α) (x : α), x ∈ l → f x ≤ (l.map f).sum
  | y :: l, x, h => by
    rcases List.mem_cons.1 h with rfl | h
    · simp
    · have := le_sum f l x h; simp; omega
theorem len_sum {α : Type} (f : α → Nat) (hf : ∀ x, 1 ≤ f x) : ∀ l : List α, l.length ≤ (l.map f).sum
  | [] => by simp
  | x :: l => by have := len_sum f hf l; have := hf x; simp; omega

theorem smallR_of {rs : List (List Canon)} (h : wR rs ≤ 1000000000) : SmallR rs := by
  refine ⟨Nat.le_trans (len_sum (fun r : List Canon => 4 + r.length) (fun x => by omega) rs) h, fun x hx => ?_⟩
  have := le_sum (fun r : List Canon => 4 + r.length) rs x hx
  unfold wR at h
  omega
theorem smallT_of {ts : List View} (h : wT ts ≤ 1000000000) : SmallT ts := by
  refine ⟨Nat.le_trans (len_sum (fun t : View => 10 + t.regs.length) (fun x => by omega) ts) h, fun x hx => ?_⟩
  have := le_sum (fun t : View => 10 + t.regs.length) ts x hx
  unfold wT at h
  omega

def light (rs : List (List Canon)) (ts : List View) : Bool := decide (wR rs + wT ts ≤ 1500)

set_option maxRecDepth 20000 in
@[simp] theorem s5 (rs : List (List Canon)) (ts : List View) (h : wR rs + wT ts ≤ 1000000000) : pcall X 5 [.agg [.sl false (rs.map encR), .sl false (ts.map View.enc)]] = some (.bool (light rs ts)) := by
  refine pcall_of Try.func5 rfl rfl ?_
  have hr := smallR_of (show wR rs ≤ 1000000000 by omega)
  have ht := smallT_of (show wT ts ≤ 1000000000 by omega)
  simp (implicitDefEqProofs := false)
  refine Wp_up (fun i S => S.f 1 = .ptr 0 0 0 ∧ S.f 3 = .int .i64 (wR (rs.take i)) ∧ S.f 4 = .int .i64 i ∧ S.h 0 = some ⟨2, [.agg [.sl false (rs.map encR), .sl false (ts.map View.enc)]], true⟩) rs.length ?_ 0 (by simp) (by simp [wR])
  rintro i S hi ⟨f1, f3, f4, h0⟩
  have hrl := hr.1
  by_cases hlt : i < rs.length
  · have hw := wrap_succ (show i ≤ 1000000000 by omega)
    have hup : wR (rs.take (i + 1)) = wR (rs.take i) + (4 + rs[i].length) := sum_up _ rs i hlt
    have hle : wR (rs.take (i + 1)) ≤ wR rs := sum_le _ rs (i + 1)
    have w1 : IntKind.i64.wrap ((wR (rs.take i) : Int) + 4) = (wR (rs.take i) : Int) + 4 := wrap_i64 (by omega)
    have w2 : IntKind.i64.wrap ((wR (rs.take i) : Int) + 4 + (rs[i].length : Int)) = (wR (rs.take (i + 1)) : Int) := by rw [wrap_i64 (by omega)]; omega
    simp (implicitDefEqProofs := false) [f1, f3, f4, h0, hlt, hw, w1, w2, encR_eq]
  · rw [List.take_of_length_le (by omega)] at f3
    simp (implicitDefEqProofs := false) [f1, f3, f4, h0, hlt]
    refine Wp_up (fun i S => S.f 1 = .ptr 0 0 0 ∧ (∃ n : Nat, n = wR rs + wT (ts.take i) ∧ S.f 3 = .int .i64 n) ∧ S.f 5 = .int .i64 i ∧ S.h 0 = some ⟨2, [.agg [.sl false (rs.map encR), .sl false (ts.map View.enc)]], true⟩) ts.length ?_ 0 (by simp) ⟨by simp [f1], ⟨wR rs, by simp [wT], by simp [f3]⟩, by simp, by simp [h0]⟩
    clear f1 f3 f4 h0
    rintro i S hi ⟨f1, ⟨n, hn, f3⟩, f5, h0⟩
    have htl := ht.1
    by_cases hlt : i < ts.length
    · have hw := wrap_succ (show i ≤ 1000000000 by omega)
      have hup : wT (ts.take (i + 1)) = wT (ts.take i) + (10 + ts[i].regs.length) := sum_up _ ts i hlt
      have hle : wT (ts.take (i + 1)) ≤ wT ts := sum_le _ ts (i + 1)
      have w1 : IntKind.i64.wrap ((n : Int) + 10) = (n : Int) + 10 := wrap_i64 (by omega)
      have w2 : IntKind.i64.wrap ((n : Int) + 10 + (ts[i].regs.length : Int)) = ((n + (10 + ts[i].regs.length) : Nat) : Int) := by rw [wrap_i64 (by omega)]; omega
      simp (implicitDefEqProofs := false) [f1, f3, f5, h0, hlt, hw, w1, w2, View.enc_eq]
      omega
    · rw [List.take_of_length_le (by omega)] at hn
      simp (implicitDefEqProofs := false) [f1, f3, f5, h0, hlt, light, ← hn]
      omega

theorem k0 : keepL [⟨2, [], []⟩] ⟨7, [], []⟩ = ([⟨2, [], []⟩, ⟨7, [], []⟩], 0) := by decide
theorem k1 : lastS [⟨2, [], []⟩, ⟨7, [], []⟩] 9 = some ⟨7, [], []⟩ := by decide
theorem k2 : lastS [⟨2, [], []⟩, ⟨7, [], []⟩] 6 = some ⟨2, [], []⟩ := by decide
theorem k3 : chk [2, 7] = 0 := by decide

theorem small0 (l : List Int) (h : l.length ≤ 1000000000) : SmallS (l.map fun t => ⟨t, [], []⟩) := by
  refine ⟨by simpa using h, fun x hx => ?_⟩
  obtain ⟨t, _, rfl⟩ := List.mem_map.1 hx
  exact ⟨⟨by simp, by simp⟩, ⟨by simp, by simp⟩⟩

set_option maxRecDepth 20000 in
@[simp] theorem s6 : pcall X 6 [] = some (.bool true) := by
  have h7 := s7 [⟨2, [], []⟩] ⟨7, [], []⟩ (small0 [2] (by simp)) ⟨by simp, by simp⟩ ⟨by simp, by simp⟩
  have h9 := s9 [⟨2, [], []⟩, ⟨7, [], []⟩] 9 (small0 [2, 7] (by simp))
  have h9' := s9 [⟨2, [], []⟩, ⟨7, [], []⟩] 6 (small0 [2, 7] (by simp))
  have h13 := s13 [⟨2, [], []⟩, ⟨7, [], []⟩]
  rw [k0] at h7
  rw [k1] at h9
  rw [k2] at h9'
  simp only [List.map, Snap.enc_eq, encLast, k3] at h7 h9 h9' h13
  refine pcall_of Try.func6 rfl rfl ?_
  simp (implicitDefEqProofs := false) [h7, h9, h9', h13]

theorem keep_small {l : List Snap} {s : Snap} (hs : SmallS l) (hr : SmallR s.regions) (ht : SmallT s.threads) (h30 : l.length ≤ 30) : SmallS (keepL l s).1 := by
  have key : ∀ m : List Snap, m.length ≤ 30 → (∀ x ∈ m, x ∈ l) → SmallS (m ++ [s]) := by
    intro m hm hx
    refine ⟨by simp; omega, fun x h => ?_⟩
    rcases List.mem_append.1 h with h | h
    · exact hs.2 x (hx x h)
    · rw [List.mem_singleton.1 h]; exact ⟨hr, ht⟩
  unfold keepL
  split
  · exact hs
  · split
    · exact hs
    · split
      · refine key _ (by simp; omega) fun x h => ?_
        rcases List.mem_append.1 h with h | h
        · exact List.mem_of_mem_take h
        · exact List.mem_of_mem_drop h
      · exact key l h30 fun x h => h

set_option maxRecDepth 20000 in
theorem law3 (l : List Snap) (s : Snap) (a : Int) (hs : wR s.regions + wT s.threads ≤ 1000000000) (hl : ∀ x ∈ l, wR x.regions + wT x.threads ≤ 1000000000) (hm : l.length ≤ 1000000000) :
    ∃ v h k, callL X 3 [.sl false (l.map Snap.enc), s.enc, .int .i64 a] nohp 0 = some (v, h, k) ∧ v = .bool true := by
  refine callL_of Try.func3 rfl rfl ?_
  by_cases h30 : l.length ≤ 30
  case neg =>
    have g1 : ((30 : Int) < l.length) = True := by simp; omega
    simp (implicitDefEqProofs := false) [g1, Snap.enc_eq, hs]
  have g1 : ((30 : Int) < l.length) = False := by simp; omega
  cases hls : light s.regions s.threads with
  | false => simp (implicitDefEqProofs := false) [g1, Snap.enc_eq, hs, hls]
  | true =>
    simp (implicitDefEqProofs := false) [g1, Snap.enc_eq, hs, hls]
    refine Wp_up (fun i S => S.f 0 = .sl false (l.map Snap.enc) ∧ S.f 2 = .int .i64 a ∧ S.f 4 = .ptr 0 0 0 ∧ S.f 7 = .int .i64 i ∧ S.h 0 = some ⟨3, [.agg [.int .i64 s.time, .sl false (s.regions.map encR), .sl false (s.threads.map View.enc)]], true⟩ ∧ ∀ (j : Nat) (h : j < l.length), j < i → light l[j].regions l[j].threads = true) l.length ?_ 0 (by simp) (by simp)
    rintro i S hi ⟨f0, f2, f4, f7, h0, hli⟩
    by_cases hlt : i < l.length
    · have hw := wrap_succ (show i ≤ 1000000000 by omega)
      have hx := hl l[i] (List.getElem_mem hlt)
      cases hlx : light l[i].regions l[i].threads with
      | false => simp (implicitDefEqProofs := false) [f0, f2, f4, f7, h0, hlt, hw, hx, hlx, Snap.enc_eq]
      | true =>
        simp (implicitDefEqProofs := false) [f0, f2, f4, f7, h0, hlt, hw, hx, hlx, Snap.enc_eq]
        intro j hj hji
        by_cases e : j = i
        · subst e; exact hlx
        · exact hli j hj (by omega)
    · have hsR := smallR_of (show wR s.regions ≤ 1000000000 by omega)
      have hsT := smallT_of (show wT s.threads ≤ 1000000000 by omega)
      have hS : SmallS l := ⟨hm, fun x hx => ⟨smallR_of (by have := hl x hx; omega), smallT_of (by have := hl x hx; omega)⟩⟩
      have h7 := s7 l s hS hsR hsT
      have h8 := s8 l s hS hsR hsT
      have h11 := s11 (keepL l s).1 (keepL l s).1 (keep_small hS hsR hsT h30)
      simp only [Snap.enc_eq] at h7 h8
      cases hla : lastS l a with
      | none =>
        have h12 := s12 0 0 [] [] [] [] ⟨by simp, by simp⟩ ⟨by simp, by simp⟩
        simp only [List.map_nil] at h12
        simp (implicitDefEqProofs := false) [f0, f2, f4, f7, h0, hlt, h7, h8, h11, hS, hm, hla, encLast, h12]
      | some x =>
        have hx : SmallR x.regions ∧ SmallT x.threads := by
          unfold lastS at hla
          cases ho : lastO (l.map Snap.time) a l.length with
          | none => rw [ho] at hla; cases hla
          | some k =>
            rw [ho] at hla
            exact hS.2 x (List.mem_of_getElem? hla)
        simp (implicitDefEqProofs := false) [f0, f2, f4, f7, h0, hlt, h7, h8, h11, hS, hm, hla, encLast, hx.1, hx.2, Snap.enc_eq]

end Go.Proofs.Ytcbddnmodlhnaaa
