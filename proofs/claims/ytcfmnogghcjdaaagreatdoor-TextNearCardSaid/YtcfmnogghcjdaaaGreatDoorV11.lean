/- Part of a proof: E3. -/
import Derived.Test.YtcfmnogghcjdaaaGreatDoorV10
set_option linter.all false
set_option maxRecDepth 100000
set_option maxHeartbeats 20000000
namespace Go.Proofs.YtcfmnogghcjdaaaGreatDoor
open Go Go.Abs Go.Abs.Api
def opPick (v : Int) : Int := if v = 0 then 3 else if v = 1 then 4 else if v = 2 then 5 else if v = 3 then 10 else if v = 4 then 13 else if v = 5 then 14 else if v = 6 then 11 else 9
def bufL (r n : Int) : List Instr := [⟨15, 1, 0, 0, r⟩, ⟨1, 2, 0, 0, n⟩]
def partC (l sizes : List Int) (most at_ r n sr c k : Int) : List Instr :=
  if c = 0 then [⟨1, 3 + dnV l k 3, 0, 0, wordV l (dnK l k)⟩]
  else if c = 1 then [⟨opPick (dnV l k 8), 3 + dnV l (dnK l k) 3, 3 + dnV l (dnK l (dnK l k)) 3, 3 + dnV l (dnK l (dnK l (dnK l k))) 3, 0⟩]
  else if c = 2 then [⟨15, 6, 0, 0, r⟩]
  else if c = 3 ∨ c = 4 then [⟨15, 6, 0, 0, r⟩, ⟨17, 6, 3 + dnV l k 5, 0, dnV l (dnK l k) sr⟩]
  else if c = 5 ∨ c = 6 then [⟨15, 6, 0, 0, r⟩, ⟨16, 3 + dnV l k 4, 6, 0, dnV l (dnK l k) sr⟩]
  else if c = 7 ∨ c = 8 then [⟨1, 0, 0, 0, dnV l k 3⟩, ⟨15, 1, 0, 0, r⟩, ⟨1, 2, 0, 0, n⟩, ⟨23, 0, 0, 0, 13⟩]
  else if c = 9 then [⟨1, 0, 0, 0, dnV l k 3⟩, ⟨15, 1, 0, 0, r⟩, ⟨1, 2, 0, 0, n⟩, ⟨23, 0, 0, 0, 14⟩, ⟨2, 3, 0, 0, 0⟩]
  else if c = 10 then [⟨1, 0, 0, 0, dnV l k 3⟩, ⟨1, 1, 0, 0, dnV l (dnK l k) 4⟩, ⟨23, 0, 0, 0, 3⟩, ⟨2, 7, 0, 0, 0⟩]
  else if c = 11 then [⟨2, 0, 7, 0, 0⟩, ⟨15, 1, 0, 0, r⟩, ⟨1, 2, 0, 0, n⟩, ⟨23, 0, 0, 0, if dnV l k 2 = 0 then 1 else 2⟩]
  else if c = 12 then (if dnV l (dnK l k) 2 = 0 then [⟨2, 0, 7, 0, 0⟩, ⟨23, 0, 0, 0, 4⟩] else [⟨2, 0, 7, 0, 0⟩, ⟨1, 1, 0, 0, dnV l k 4⟩, ⟨23, 0, 0, 0, 5⟩])
  else if c = 13 then [⟨23, 0, 0, 0, if dnV l k 3 = 0 then 6 else if dnV l k 3 = 1 then 7 else 15⟩, ⟨2, 3 + dnV l (dnK l k) 3, 0, 0, 0⟩]
  else if c = 14 ∨ c = 15 then [⟨1, 0, 0, 0, dnV l k 3⟩, ⟨23, 0, 0, 0, if dnV l (dnK l k) 2 = 0 then 8 else 9⟩]
  else if c = 16 then [⟨1, 0, 0, 0, dnV l k most⟩, ⟨2, 1, 3, 0, 0⟩, ⟨23, 0, 0, 0, 10⟩]
  else if c = 17 then [⟨1, 0, 0, 0, dnV l (dnK l k) (if dnV l k 2 = 0 then most else 5)⟩, ⟨23, 0, 0, 0, if dnV l (dnK l (dnK l k)) 2 = 0 then 12 else 11⟩]
  else if c = 18 then [⟨1, 5, 0, 0, 1 + dnV l k 4⟩, ⟨1, 4, 0, 0, 1⟩, ⟨4, 5, 5, 4, 0⟩, ⟨20, 5, 0, 0, at_ + 2⟩]
  else [dinsV l sizes.length most k]
def partCK (l : List Int) (c k : Int) : Int :=
  if c = 0 then wordK l (dnK l k)
  else if c = 1 then dnK l (dnK l (dnK l (dnK l k)))
  else if c = 2 then k
  else if c = 3 ∨ c = 4 then dnK l (dnK l k)
  else if c = 5 ∨ c = 6 then dnK l (dnK l k)
  else if c = 7 ∨ c = 8 then dnK l k
  else if c = 9 then dnK l k
  else if c = 10 then dnK l (dnK l k)
  else if c = 11 then dnK l k
  else if c = 12 then dnK l (dnK l k)
  else if c = 13 then dnK l (dnK l k)
  else if c = 14 ∨ c = 15 then dnK l (dnK l k)
  else if c = 16 then dnK l k
  else if c = 17 then dnK l (dnK l (dnK l k))
  else if c = 18 then dnK l k
  else dinsK l k
theorem iteP {α : Type} {P : α → Prop} {c : Prop} [Decidable c] {a b : α} (h1 : P a) (h2 : P b) : P (if c then a else b) := by split <;> assumption
theorem partCK_ok {l : List Int} {c k : Int} (h : DeckP l k) : DeckP l (partCK l c k) := by
  unfold partCK
  have h1 := dnK_ok h
  have h2 := dnK_ok h1
  have h3 := dnK_ok h2
  have h4 := dnK_ok h3
  exact iteP (wordK_ok h1) (iteP h4 (iteP h (iteP h2 (iteP h2 (iteP h1 (iteP h1 (iteP h2 (iteP h1 (iteP h2 (iteP h2 (iteP h2 (iteP h1 (iteP h3 (iteP h1 (dinsK_ok h)))))))))))))))
def m5 (x : Int) : Int := if x < 5 then x else 5
theorem m5_in {x : Int} (h : 1 ≤ x) : 1 ≤ m5 x ∧ m5 x ≤ 5 := by unfold m5; split <;> omega
def partR (l sizes : List Int) (k : Int) : Int := dnV l k sizes.length
def partN (l sizes : List Int) (k : Int) : Int := dnV l (dnK l k) (m5 (nth sizes (partR l sizes k).toNat + 1))
def partV (l sizes : List Int) (most at_ k : Int) : List Instr :=
  partC l sizes most at_ (partR l sizes k) (partN l sizes k) (nth sizes (partR l sizes k).toNat) (dnV l (dnK l (dnK l k)) 20) (dnK l (dnK l (dnK l k)))
def partK (l : List Int) (k : Int) : Int := partCK l (dnV l (dnK l (dnK l k)) 20) (dnK l (dnK l (dnK l k)))
@[simp] theorem partK_ok {l : List Int} {k : Int} (h : DeckP l k) : DeckP l (partK l k) := partCK_ok (dnK_ok (dnK_ok (dnK_ok h)))
theorem c20 {c : Int} (h : 0 ≤ c ∧ c < 20) : c = 0 ∨ c = 1 ∨ c = 2 ∨ c = 3 ∨ c = 4 ∨ c = 5 ∨ c = 6 ∨ c = 7 ∨ c = 8 ∨ c = 9 ∨ c = 10 ∨ c = 11 ∨ c = 12 ∨ c = 13 ∨ c = 14 ∨ c = 15 ∨ c = 16 ∨ c = 17 ∨ c = 18 ∨ c = 19 := by omega
@[simp] theorem f_make_Deck_part (d_l : List Int) (d_time : Int) (sizes : List Int) (most : Int) (at_ : Int) (hd : DeckP d_l d_time) (hz : SizesP sizes) (hm : 1 ≤ most ∧ most ≤ 1000) (ha : 0 ≤ at_ ∧ at_ ≤ 1000) : mcall X ([]) 41 2 (.agg [.sl false (d_l.map (V.int .i64)), .int .i64 d_time]) [.sl false (sizes.map (V.int .i64)), .int .i64 most, .int .i64 at_] = some (2, .agg [.sl false ((⟨d_l, partK d_l d_time⟩ : Deck).l.map (V.int .i64)), .int .i64 (⟨d_l, partK d_l d_time⟩ : Deck).time], [.sl false ((partV d_l sizes most at_ d_time).map Instr.enc)], .bad) := by
  refine mcall_of Tryz.func41 rfl rfl ?_
  have z1 := hz.pos
  have z2 := hz.le
  have hn1 : 1 ≤ (sizes.length : Int) ∧ (sizes.length : Int) ≤ 4611686018427387904 := by omega
  have h0 := dnV_in d_l d_time (n := sizes.length) (by omega)
  obtain ⟨r, hr⟩ : ∃ r : Nat, dnV d_l d_time sizes.length = r := ⟨(dnV d_l d_time sizes.length).toNat, by omega⟩
  have hrl : r < sizes.length := by omega
  have hs := hz.elem r hrl
  have e1 : partR d_l sizes d_time = r := hr
  have e2 : partN d_l sizes d_time = dnV d_l (dnK d_l d_time) (m5 (sizes[r] + 1)) := by unfold partN; rw [e1]; simp [nth_eq hrl]
  have hq := m5_in (x := sizes[r] + 1) (by omega)
  obtain ⟨q, hqe⟩ : ∃ q, m5 (sizes[r] + 1) = q := ⟨_, rfl⟩
  have hmi : (if sizes[r] + 1 < 5 then sizes[r] + 1 else 5) = q := hqe
  rw [hqe] at hq e2
  have hmin : 1 ≤ q ∧ q ≤ 4611686018427387904 := by omega
  have hws : IntKind.i64.wrap (sizes[r] + 1) = sizes[r] + 1 := wrap_i64 (by omega)
  obtain ⟨n, hn⟩ : ∃ n, dnV d_l (dnK d_l d_time) q = n := ⟨_, rfl⟩
  have h2 := dnV_in d_l (dnK d_l (dnK d_l d_time)) (n := 20) (by omega)
  obtain ⟨c, hc⟩ : ∃ c, dnV d_l (dnK d_l (dnK d_l d_time)) 20 = c := ⟨_, rfl⟩
  obtain ⟨k, hk⟩ : ∃ k, dnK d_l (dnK d_l (dnK d_l d_time)) = k := ⟨_, rfl⟩
  have hdk : DeckP d_l k := by rw [← hk]; exact dnK_ok (dnK_ok (dnK_ok hd))
  have ev : partV d_l sizes most at_ d_time = partC d_l sizes most at_ r n sizes[r] c k := by
    unfold partV; rw [hc, hk, e1, e2, hn]; simp [nth_eq hrl]
  have ek : partK d_l d_time = partCK d_l c k := by unfold partK; rw [hc, hk]
  rw [ev, ek]
  rw [hc] at h2
  have w3 : ∀ k, IntKind.i64.wrap (3 + dnV d_l k 3) = 3 + dnV d_l k 3 := fun k => by have := dnV_in d_l k (n := 3) (by omega); exact wrap_i64 (by omega)
  have w4 : ∀ k, IntKind.i64.wrap (3 + dnV d_l k 4) = 3 + dnV d_l k 4 := fun k => by have := dnV_in d_l k (n := 4) (by omega); exact wrap_i64 (by omega)
  have w5 : ∀ k, IntKind.i64.wrap (3 + dnV d_l k 5) = 3 + dnV d_l k 5 := fun k => by have := dnV_in d_l k (n := 5) (by omega); exact wrap_i64 (by omega)
  have w1 : ∀ k, IntKind.i64.wrap (1 + dnV d_l k 4) = 1 + dnV d_l k 4 := fun k => by have := dnV_in d_l k (n := 4) (by omega); exact wrap_i64 (by omega)
  have ww : ∀ k, IntKind.i64.wrap (wordV d_l k) = wordV d_l k := fun k => by have := wordV_in d_l k; exact wrap_i64 (by omega)
  have wa : IntKind.i64.wrap (at_ + 2) = at_ + 2 := wrap_i64 (by omega)
  have hm' : 1 ≤ most ∧ most ≤ 4611686018427387904 := by omega
  have hs' : 1 ≤ sizes[r] ∧ sizes[r] ≤ 4611686018427387904 := by omega
  rcases c20 h2 with rfl | rfl | rfl | rfl | rfl | rfl | rfl | rfl | rfl | rfl | rfl | rfl | rfl | rfl | rfl | rfl | rfl | rfl | rfl | rfl
  · simp (maxSteps := 10000000) (maxDischargeDepth := 30) (implicitDefEqProofs := false) [hd, hn1, hr, hrl, hws, hmi, hmin, hn, hc, hk, hdk, w3, ww, Instr.enc_eq, partC, partCK]
  · have h8 := dnV_in d_l k (n := 8) (by omega)
    have h8' : dnV d_l k 8 = 0 ∨ dnV d_l k 8 = 1 ∨ dnV d_l k 8 = 2 ∨ dnV d_l k 8 = 3 ∨ dnV d_l k 8 = 4 ∨ dnV d_l k 8 = 5 ∨ dnV d_l k 8 = 6 ∨ dnV d_l k 8 = 7 := by omega
    rcases h8' with h8 | h8 | h8 | h8 | h8 | h8 | h8 | h8 <;> simp (maxSteps := 10000000) (maxDischargeDepth := 30) (implicitDefEqProofs := false) [hd, hn1, hr, hrl, hws, hmi, hmin, hn, hc, hk, hdk, w3, h8, opPick, Instr.enc_eq, partC, partCK]
  · simp (maxSteps := 10000000) (maxDischargeDepth := 30) (implicitDefEqProofs := false) [hd, hn1, hr, hrl, hws, hmi, hmin, hn, hc, hk, hdk, Instr.enc_eq, partC, partCK]
  · simp (maxSteps := 10000000) (maxDischargeDepth := 30) (implicitDefEqProofs := false) [hd, hn1, hr, hrl, hws, hmi, hmin, hn, hc, hk, hdk, w5, hs', Instr.enc_eq, partC, partCK]
  · simp (maxSteps := 10000000) (maxDischargeDepth := 30) (implicitDefEqProofs := false) [hd, hn1, hr, hrl, hws, hmi, hmin, hn, hc, hk, hdk, w5, hs', Instr.enc_eq, partC, partCK]
  · simp (maxSteps := 10000000) (maxDischargeDepth := 30) (implicitDefEqProofs := false) [hd, hn1, hr, hrl, hws, hmi, hmin, hn, hc, hk, hdk, w4, hs', Instr.enc_eq, partC, partCK]
  · simp (maxSteps := 10000000) (maxDischargeDepth := 30) (implicitDefEqProofs := false) [hd, hn1, hr, hrl, hws, hmi, hmin, hn, hc, hk, hdk, w4, hs', Instr.enc_eq, partC, partCK]
  · simp (maxSteps := 10000000) (maxDischargeDepth := 30) (implicitDefEqProofs := false) [hd, hn1, hr, hrl, hws, hmi, hmin, hn, hc, hk, hdk, Instr.enc_eq, partC, partCK]
  · simp (maxSteps := 10000000) (maxDischargeDepth := 30) (implicitDefEqProofs := false) [hd, hn1, hr, hrl, hws, hmi, hmin, hn, hc, hk, hdk, Instr.enc_eq, partC, partCK]
  · simp (maxSteps := 10000000) (maxDischargeDepth := 30) (implicitDefEqProofs := false) [hd, hn1, hr, hrl, hws, hmi, hmin, hn, hc, hk, hdk, Instr.enc_eq, partC, partCK]
  · simp (maxSteps := 10000000) (maxDischargeDepth := 30) (implicitDefEqProofs := false) [hd, hn1, hr, hrl, hws, hmi, hmin, hn, hc, hk, hdk, Instr.enc_eq, partC, partCK]
  · have h8 := dnV_in d_l k (n := 2) (by omega)
    have h8' : dnV d_l k 2 = 0 ∨ dnV d_l k 2 = 1 := by omega
    rcases h8' with h8 | h8 <;> simp (maxSteps := 10000000) (maxDischargeDepth := 30) (implicitDefEqProofs := false) [hd, hn1, hr, hrl, hws, hmi, hmin, hn, hc, hk, hdk, h8, Instr.enc_eq, partC, partCK]
  · have h8 := dnV_in d_l (dnK d_l k) (n := 2) (by omega)
    have h8' : dnV d_l (dnK d_l k) 2 = 0 ∨ dnV d_l (dnK d_l k) 2 = 1 := by omega
    rcases h8' with h8 | h8 <;> simp (maxSteps := 10000000) (maxDischargeDepth := 30) (implicitDefEqProofs := false) [hd, hn1, hr, hrl, hws, hmi, hmin, hn, hc, hk, hdk, h8, Instr.enc_eq, partC, partCK]
  · have h8 := dnV_in d_l k (n := 3) (by omega)
    have h8' : dnV d_l k 3 = 0 ∨ dnV d_l k 3 = 1 ∨ dnV d_l k 3 = 2 := by omega
    rcases h8' with h8 | h8 | h8 <;> simp (maxSteps := 10000000) (maxDischargeDepth := 30) (implicitDefEqProofs := false) [hd, hn1, hr, hrl, hws, hmi, hmin, hn, hc, hk, hdk, w3, h8, Instr.enc_eq, partC, partCK]
  · have h8 := dnV_in d_l (dnK d_l k) (n := 2) (by omega)
    have h8' : dnV d_l (dnK d_l k) 2 = 0 ∨ dnV d_l (dnK d_l k) 2 = 1 := by omega
    rcases h8' with h8 | h8 <;> simp (maxSteps := 10000000) (maxDischargeDepth := 30) (implicitDefEqProofs := false) [hd, hn1, hr, hrl, hws, hmi, hmin, hn, hc, hk, hdk, h8, Instr.enc_eq, partC, partCK]
  · have h8 := dnV_in d_l (dnK d_l k) (n := 2) (by omega)
    have h8' : dnV d_l (dnK d_l k) 2 = 0 ∨ dnV d_l (dnK d_l k) 2 = 1 := by omega
    rcases h8' with h8 | h8 <;> simp (maxSteps := 10000000) (maxDischargeDepth := 30) (implicitDefEqProofs := false) [hd, hn1, hr, hrl, hws, hmi, hmin, hn, hc, hk, hdk, h8, Instr.enc_eq, partC, partCK]
  · simp (maxSteps := 10000000) (maxDischargeDepth := 30) (implicitDefEqProofs := false) [hd, hn1, hr, hrl, hws, hmi, hmin, hn, hc, hk, hdk, hm', Instr.enc_eq, partC, partCK]
  · have h8 := dnV_in d_l k (n := 2) (by omega)
    have h8' : dnV d_l k 2 = 0 ∨ dnV d_l k 2 = 1 := by omega
    have h9 := dnV_in d_l (dnK d_l (dnK d_l k)) (n := 2) (by omega)
    have h9' : dnV d_l (dnK d_l (dnK d_l k)) 2 = 0 ∨ dnV d_l (dnK d_l (dnK d_l k)) 2 = 1 := by omega
    rcases h8' with h8 | h8 <;> rcases h9' with h9 | h9 <;> simp (maxSteps := 10000000) (maxDischargeDepth := 30) (implicitDefEqProofs := false) [hd, hn1, hr, hrl, hws, hmi, hmin, hn, hc, hk, hdk, hm', h8, h9, Instr.enc_eq, partC, partCK]
  · simp (maxSteps := 10000000) (maxDischargeDepth := 30) (implicitDefEqProofs := false) [hd, hn1, hr, hrl, hws, hmi, hmin, hn, hc, hk, hdk, w1, wa, Instr.enc_eq, partC, partCK]
  · simp (maxSteps := 10000000) (maxDischargeDepth := 30) (implicitDefEqProofs := false) [hd, hn1, hr, hrl, hws, hmi, hmin, hn, hc, hk, hdk, hm', Instr.enc_eq, partC, partCK]
def codeUp (l sizes : List Int) (k : Int) : Nat → List Instr × Int
  | 0 => ([], k)
  | i + 1 => (if (codeUp l sizes k i).1.length + (partV l sizes ((codeUp l sizes k i).1.length + 1) (codeUp l sizes k i).1.length (codeUp l sizes k i).2).length ≤ 62
      then (codeUp l sizes k i).1 ++ partV l sizes ((codeUp l sizes k i).1.length + 1) (codeUp l sizes k i).1.length (codeUp l sizes k i).2 else (codeUp l sizes k i).1,
    partK l (codeUp l sizes k i).2)
theorem codeUp_zero (l sizes : List Int) (k : Int) : codeUp l sizes k 0 = ([], k) := rfl
theorem codeUp_up (l sizes : List Int) (k : Int) (i : Nat) : codeUp l sizes k (i + 1) = (if (codeUp l sizes k i).1.length + (partV l sizes ((codeUp l sizes k i).1.length + 1) (codeUp l sizes k i).1.length (codeUp l sizes k i).2).length ≤ 62
      then (codeUp l sizes k i).1 ++ partV l sizes ((codeUp l sizes k i).1.length + 1) (codeUp l sizes k i).1.length (codeUp l sizes k i).2 else (codeUp l sizes k i).1,
    partK l (codeUp l sizes k i).2) := rfl
@[simp] theorem codeUp_ok {l sizes : List Int} {k : Int} (h : DeckP l k) (i : Nat) : DeckP l (codeUp l sizes k i).2 := by
  induction i with
  | zero => exact h
  | succ i ih => exact partK_ok ih
theorem codeUp_len (l sizes : List Int) (k : Int) (i : Nat) : (codeUp l sizes k i).1.length ≤ 62 := by
  induction i with
  | zero => simp [codeUp_zero]
  | succ i ih =>
    rw [codeUp_up]
    simp only
    split
    · rename_i h; simpa using h
    · exact ih
def dataV (l : List Int) (k : Int) : List Int → List (List Int) × Int
  | [] => ([], k)
  | n :: r => (wordsV l k n :: (dataV l (wordsK l k n) r).1, (dataV l (wordsK l k n) r).2)
theorem dataV_len (l : List Int) : ∀ (s : List Int) (k : Int), (dataV l k s).1.length = s.length
  | [], _ => rfl
  | n :: r, k => by simp [dataV, dataV_len l r]
def dataUpD (l sizes : List Int) (k : Int) : Nat → List (List Int) × Int
  | 0 => ([], k)
  | i + 1 => ((dataUpD l sizes k i).1 ++ [wordsV l (dataUpD l sizes k i).2 (nth sizes i)], wordsK l (dataUpD l sizes k i).2 (nth sizes i))
theorem dataUpD_zero (l sizes : List Int) (k : Int) : dataUpD l sizes k 0 = ([], k) := rfl
theorem dataUpD_up (l sizes : List Int) (k : Int) (i : Nat) : dataUpD l sizes k (i + 1) = ((dataUpD l sizes k i).1 ++ [wordsV l (dataUpD l sizes k i).2 (nth sizes i)], wordsK l (dataUpD l sizes k i).2 (nth sizes i)) := rfl
theorem dataUpD_len (l sizes : List Int) (k : Int) (i : Nat) : (dataUpD l sizes k i).1.length = i := by
  induction i with
  | zero => rfl
  | succ i ih => rw [dataUpD_up]; simp [ih]
theorem partV_len (l sizes : List Int) (most at_ k : Int) : (partV l sizes most at_ k).length ≤ 5 := by
  unfold partV partC
  have n1 : ∀ (a : Instr), [a].length ≤ 5 := fun _ => by simp
  have n2 : ∀ (a b : Instr), [a, b].length ≤ 5 := fun _ _ => by simp
  have n3 : ∀ (a b c : Instr), [a, b, c].length ≤ 5 := fun _ _ _ => by simp
  have n4 : ∀ (a b c d : Instr), [a, b, c, d].length ≤ 5 := fun _ _ _ _ => by simp
  have n5 : ∀ (a b c d e : Instr), [a, b, c, d, e].length ≤ 5 := fun _ _ _ _ _ => by simp
  exact iteP (P := fun x : List Instr => x.length ≤ 5) (n1 _) (iteP (P := fun x : List Instr => x.length ≤ 5) (n1 _) (iteP (P := fun x : List Instr => x.length ≤ 5) (n1 _) (iteP (P := fun x : List Instr => x.length ≤ 5) (n2 _ _) (iteP (P := fun x : List Instr => x.length ≤ 5) (n2 _ _)
    (iteP (P := fun x : List Instr => x.length ≤ 5) (n4 _ _ _ _) (iteP (P := fun x : List Instr => x.length ≤ 5) (n5 _ _ _ _ _) (iteP (P := fun x : List Instr => x.length ≤ 5) (n4 _ _ _ _) (iteP (P := fun x : List Instr => x.length ≤ 5) (n4 _ _ _ _)
    (iteP (P := fun x : List Instr => x.length ≤ 5) (iteP (P := fun x : List Instr => x.length ≤ 5) (n2 _ _) (n3 _ _ _)) (iteP (P := fun x : List Instr => x.length ≤ 5) (n2 _ _) (iteP (P := fun x : List Instr => x.length ≤ 5) (n2 _ _) (iteP (P := fun x : List Instr => x.length ≤ 5) (n3 _ _ _)
    (iteP (P := fun x : List Instr => x.length ≤ 5) (n2 _ _) (iteP (P := fun x : List Instr => x.length ≤ 5) (n4 _ _ _ _) (n1 _)))))))))))))))
@[simp] theorem dataUpD_ok {l sizes : List Int} {k : Int} (h : DeckP l k) (i : Nat) : DeckP l (dataUpD l sizes k i).2 := by
  induction i with
  | zero => exact h
  | succ i ih => exact wordsK_ok ih
def fixJ (n : Int) (i : Instr) : Instr := if jumps i.op = true ∧ n ≤ i.imm then { i with imm := 0 } else i
def tlV (l : List Int) (code : List Instr) (k : Int) : List Instr :=
  if dnV l k 4 = 0 then code ++ [⟨18, 0, 0, 0, dnV l (dnK l k) (code.length + 1)⟩] else if dnV l k 4 = 1 then code ++ [⟨24, 0, 0, 0, 0⟩] else code
def tlK (l : List Int) (k : Int) : Int := if dnV l k 4 = 0 then dnK l (dnK l k) else dnK l k
@[simp] theorem tlK_ok {l : List Int} {k : Int} (h : DeckP l k) : DeckP l (tlK l k) := by unfold tlK; split <;> simp [h]
def endV (l : List Int) (code : List Instr) (k : Int) : List Instr := (tlV l code k ++ ([⟨1, 0, 0, 0, dnV l (tlK l k) 9⟩, ⟨23, 0, 0, 0, 0⟩] : List Instr)).take 64
def fixUp (n : Int) (c : List Instr) : Nat → List Instr
  | 0 => c
  | i + 1 => (fixUp n c i).set i (fixJ n (c.getD i ⟨0, 0, 0, 0, 0⟩))
theorem fixUp_zero (n : Int) (c : List Instr) : fixUp n c 0 = c := rfl
theorem fixUp_len (n : Int) (c : List Instr) (i : Nat) : (fixUp n c i).length = c.length := by
  induction i with
  | zero => rfl
  | succ i ih => rw [fixUp, List.length_set, ih]
theorem fixUp_ge (n : Int) (c : List Instr) : ∀ (i j : Nat), i ≤ j → (fixUp n c i)[j]? = c[j]?
  | 0, _, _ => rfl
  | i + 1, j, h => by rw [fixUp, List.getElem?_set_ne (by omega), fixUp_ge n c i j (by omega)]
theorem fixUp_lt (n : Int) (c : List Instr) : ∀ (i j : Nat), j < i → (fixUp n c i)[j]? = (c[j]?).map (fixJ n)
  | 0, _, h => by omega
  | i + 1, j, h => by
    rw [fixUp]
    by_cases he : i = j
    · subst he
      by_cases hl : i < c.length
      · rw [List.getElem?_set_self (by rw [fixUp_len]; exact hl)]
        simp [List.getD, hl]
      · rw [List.getElem?_eq_none (by rw [List.length_set, fixUp_len]; omega), List.getElem?_eq_none (by omega)]; rfl
    · rw [List.getElem?_set_ne he, fixUp_lt n c i j (by omega)]
theorem fixUp_all (n : Int) (c : List Instr) : fixUp n c c.length = c.map (fixJ n) := by
  apply List.ext_getElem?
  intro j
  rw [List.getElem?_map]
  by_cases h : j < c.length
  · exact fixUp_lt n c _ _ h
  · rw [List.getElem?_eq_none (by rw [fixUp_len]; omega), List.getElem?_eq_none (by omega)]; rfl
theorem fixUp_at {n : Int} {c : List Instr} {i : Nat} (h : i < c.length) (h' : i < (fixUp n c i).length) : (fixUp n c i)[i] = c[i] := by
  have := fixUp_ge n c i i (Nat.le_refl _)
  rw [List.getElem?_eq_getElem h, List.getElem?_eq_getElem h'] at this
  simpa using this
theorem fixUp_no {n : Int} {c : List Instr} {i : Nat} (h : i < c.length) (hj : ¬ (jumps (c[i]).op = true ∧ n ≤ (c[i]).imm)) : fixUp n c (i + 1) = fixUp n c i := by
  rw [fixUp]
  have e : fixJ n (c.getD i ⟨0, 0, 0, 0, 0⟩) = c[i] := by simp only [List.getD, List.getElem?_eq_getElem h, Option.getD_some]; unfold fixJ; rw [if_neg hj]
  rw [e]
  apply List.ext_getElem?
  intro j
  by_cases he : i = j
  · subst he
    rw [List.getElem?_set_self (by rw [fixUp_len]; exact h), fixUp_ge n c i i (Nat.le_refl _), List.getElem?_eq_getElem h]
  · rw [List.getElem?_set_ne he]
theorem fixUp_yes {n : Int} {c : List Instr} {i : Nat} (h : i < c.length) (hj : jumps (c[i]).op = true ∧ n ≤ (c[i]).imm) : fixUp n c (i + 1) = (fixUp n c i).set i ⟨(c[i]).op, (c[i]).a, (c[i]).b, (c[i]).c, 0⟩ := by
  rw [fixUp]
  congr 1
  simp only [List.getD, List.getElem?_eq_getElem h, Option.getD_some]; unfold fixJ; rw [if_pos hj]
theorem instr_put (x : Instr) : (Instr.enc x).put 4 (.int .i64 0) = Instr.enc ⟨x.op, x.a, x.b, x.c, 0⟩ := rfl
theorem codeUp_len5 (l sizes : List Int) (k : Int) (i : Nat) : (codeUp l sizes k i).1.length ≤ 5 * i := by
  induction i with
  | zero => simp [codeUp_zero]
  | succ i ih =>
    rw [codeUp_up]
    have := partV_len l sizes ((codeUp l sizes k i).1.length + 1) (codeUp l sizes k i).1.length (codeUp l sizes k i).2
    simp only
    split
    · rw [List.length_append]; omega
    · omega
theorem instr_set (l : List Instr) (i : Nat) (x : Instr) : (l.map Instr.enc).set i (.agg [.int .i64 x.op, .int .i64 x.a, .int .i64 x.b, .int .i64 x.c, .int .i64 0]) = (l.set i ⟨x.op, x.a, x.b, x.c, 0⟩).map Instr.enc := by rw [List.map_set]; rfl
def progK0 (l : List Int) (k : Int) : Int := (dataUpD l (sizesV l k) (sizesK l k) (sizesV l k).length).2
def progC (l : List Int) (k : Int) : List Instr × Int := codeUp l (sizesV l k) (dnK l (progK0 l k)) (1 + dnV l (progK0 l k) 12).toNat
def progE (l : List Int) (k : Int) : List Instr := endV l (progC l k).1 (progC l k).2
def progV (l : List Int) (k : Int) : Prog := ⟨(progE l k).map (fixJ (progE l k).length), sizesV l k, (dataUpD l (sizesV l k) (sizesK l k) (sizesV l k).length).1⟩
def progK (l : List Int) (k : Int) : Int := dnK l (tlK l (progC l k).2)
@[simp] theorem f_make_Deck_Program (d_l : List Int) (d_time : Int) (hd : DeckP d_l d_time) : mcall X ([]) 21 2 (.agg [.sl false (d_l.map (V.int .i64)), .int .i64 d_time]) [] = some (2, .agg [.sl false ((⟨d_l, progK d_l d_time⟩ : Deck).l.map (V.int .i64)), .int .i64 (⟨d_l, progK d_l d_time⟩ : Deck).time], [.agg [.sl false ((progV d_l d_time).code.map Instr.enc), .sl false ((progV d_l d_time).sizes.map (V.int .i64)), .sl false ((progV d_l d_time).data.map encLU16)]], .bad) := by
  refine mcall_of Tryz.func21 rfl rfl ?_
  have hz := sizesV_ok d_l d_time
  obtain ⟨sz, hsz⟩ : ∃ sz, sizesV d_l d_time = sz := ⟨_, rfl⟩
  obtain ⟨ks, hks⟩ : ∃ ks, sizesK d_l d_time = ks := ⟨_, rfl⟩
  have hdk : DeckP d_l ks := by rw [← hks]; exact sizesK_ok hd
  rw [hsz] at hz
  have z1 := hz.pos
  have z2 := hz.le
  obtain ⟨kd, hkd⟩ : ∃ kd, (dataUpD d_l sz ks sz.length).2 = kd := ⟨_, rfl⟩
  obtain ⟨dat, hdat⟩ : ∃ dat, (dataUpD d_l sz ks sz.length).1 = dat := ⟨_, rfl⟩
  have hdd : DeckP d_l kd := by rw [← hkd]; exact dataUpD_ok hdk _
  have h12 := dnV_in d_l kd (n := 12) (by omega)
  obtain ⟨N, hN⟩ : ∃ N : Nat, 1 + dnV d_l kd 12 = N := ⟨(1 + dnV d_l kd 12).toNat, by omega⟩
  obtain ⟨cc, hcc⟩ : ∃ cc, (codeUp d_l sz (dnK d_l kd) N).1 = cc := ⟨_, rfl⟩
  obtain ⟨kc, hkc⟩ : ∃ kc, (codeUp d_l sz (dnK d_l kd) N).2 = kc := ⟨_, rfl⟩
  have hdc0 : DeckP d_l (dnK d_l kd) := dnK_ok hdd
  have hdc : DeckP d_l kc := by rw [← hkc]; exact codeUp_ok hdc0 _
  have hcl : cc.length ≤ 60 := by
    have := codeUp_len5 d_l sz (dnK d_l kd) N
    rw [hcc] at this
    omega
  have ep0 : progK0 d_l d_time = kd := by unfold progK0; rw [hsz, hks, hkd]
  have ec : progC d_l d_time = (cc, kc) := by unfold progC; rw [hsz, ep0, hN, ← hcc, ← hkc]; rfl
  obtain ⟨ce, hce⟩ : ∃ ce, endV d_l cc kc = ce := ⟨_, rfl⟩
  have ee : progE d_l d_time = ce := by unfold progE; rw [ec]; exact hce
  have ev : progV d_l d_time = ⟨ce.map (fixJ ce.length), sz, dat⟩ := by unfold progV; rw [ee, hsz, hks, hdat]
  have ek : progK d_l d_time = dnK d_l (tlK d_l kc) := by unfold progK; rw [ec]
  rw [ev, ek]
  have hw12 : IntKind.i64.wrap (1 + dnV d_l kd 12) = N := by rw [hN]; exact wrap_i64 (by omega)
  simp (maxSteps := 10000000) (maxDischargeDepth := 30) (implicitDefEqProofs := false) [hd, hsz, hks]
  refine Wp_up (fun i S => (S.f 0 = .ptr 0 0 0 ∧ S.h 0 = some ⟨2, [.agg [.sl false ((⟨d_l, (dataUpD d_l sz ks i).2⟩ : Deck).l.map (V.int .i64)), .int .i64 (⟨d_l, (dataUpD d_l sz ks i).2⟩ : Deck).time]], true⟩ ∧ S.f 2 = .ptr 2 0 0 ∧ S.h 2 = some ⟨3, [.agg [.sl false (([] : List Instr).map Instr.enc), .sl false (([] : List Int).map (V.int .i64)), .sl false (([] : List (List Int)).map encLU16)]], true⟩ ∧ S.f 3 = .ptr 3 0 0 ∧ S.h 1000 = some ⟨5, (⟨[], sz, (dataUpD d_l sz ks i).1⟩ : Prog).code.map Instr.enc, false⟩ ∧ S.h 1001 = some ⟨1, (⟨[], sz, (dataUpD d_l sz ks i).1⟩ : Prog).data.map encLU16, false⟩ ∧ S.h 3 = some ⟨3, [.agg [.hdr 1000 0 ((⟨[], sz, (dataUpD d_l sz ks i).1⟩ : Prog).code.map Instr.enc).length, .sl false ((⟨[], sz, (dataUpD d_l sz ks i).1⟩ : Prog).sizes.map (V.int .i64)), .hdr 1001 0 ((⟨[], sz, (dataUpD d_l sz ks i).1⟩ : Prog).data.map encLU16).length]], true⟩ ∧ S.f 13 = .sl false ((sz).map (V.int .i64)) ∧ S.f 14 = .int .i64 ((sz.length : Int)) ∧ S.f 15 = .int .i64 (i : Int) ∧ S.n = 1102) ∧ True) (sz.length) ?_ 0 (by simp) ?_
  · rintro i S hii ⟨hI0, hP0⟩
    have hwi : IntKind.i64.wrap ((i : Int) + 1) = (i : Int) + 1 := wrap_i64 (by omega)
    by_cases hlti : i < sz.length
    · have hdi := dataUpD_ok (sizes := sz) hdk i
      have he := hz.elem i hlti
      have hni : nth sz i = sz[i] := nth_eq hlti
      have hn2 : 0 ≤ sz[i] ∧ sz[i] ≤ 1000 := by omega
      have hlen : (dataUpD d_l sz ks i).1.length ≤ 4 := by rw [dataUpD_len]; omega
      simp (maxSteps := 10000000) (maxDischargeDepth := 30) (implicitDefEqProofs := false) [hI0, hii, hwi, hlti, hdi, hni, hn2, dataUpD_up]
      exact ⟨by omega, fun _ _ => rfl⟩
    · have hei : sz.length = i := by omega
      subst hei
      rw [hkd, hdat] at hI0
      simp (maxSteps := 10000000) (maxDischargeDepth := 30) (implicitDefEqProofs := false) [hI0, hii, hwi, hlti, hdd, hw12]
      refine Wp_up (fun j S => (S.f 0 = .ptr 0 0 0 ∧ S.h 0 = some ⟨2, [.agg [.sl false ((⟨d_l, (codeUp d_l sz (dnK d_l kd) j).2⟩ : Deck).l.map (V.int .i64)), .int .i64 (⟨d_l, (codeUp d_l sz (dnK d_l kd) j).2⟩ : Deck).time]], true⟩ ∧ S.f 2 = .ptr 2 0 0 ∧ S.h 2 = some ⟨3, [.agg [.sl false (([] : List Instr).map Instr.enc), .sl false (([] : List Int).map (V.int .i64)), .sl false (([] : List (List Int)).map encLU16)]], true⟩ ∧ S.f 3 = .ptr 3 0 0 ∧ S.h 1000 = some ⟨5, (⟨(codeUp d_l sz (dnK d_l kd) j).1, sz, dat⟩ : Prog).code.map Instr.enc, false⟩ ∧ S.h 1001 = some ⟨1, (⟨(codeUp d_l sz (dnK d_l kd) j).1, sz, dat⟩ : Prog).data.map encLU16, false⟩ ∧ S.h 3 = some ⟨3, [.agg [.hdr 1000 0 ((⟨(codeUp d_l sz (dnK d_l kd) j).1, sz, dat⟩ : Prog).code.map Instr.enc).length, .sl false ((⟨(codeUp d_l sz (dnK d_l kd) j).1, sz, dat⟩ : Prog).sizes.map (V.int .i64)), .hdr 1001 0 ((⟨(codeUp d_l sz (dnK d_l kd) j).1, sz, dat⟩ : Prog).data.map encLU16).length]], true⟩ ∧ S.f 6 = .int .i64 ((N : Int) - j) ∧ S.n = 1102) ∧ True) (N) ?_ 0 (by simp) ?_
      · rintro j S hij ⟨hI1, hP1⟩
        have hwj : IntKind.i64.wrap ((j : Int) + 1) = (j : Int) + 1 := wrap_i64 (by omega)
        by_cases hltj : j < N
        · have hdj := codeUp_ok (sizes := sz) hdc0 j
          have hlj := codeUp_len d_l sz (dnK d_l kd) j
          obtain ⟨cj, hcj⟩ : ∃ cj, (codeUp d_l sz (dnK d_l kd) j).1 = cj := ⟨_, rfl⟩
          obtain ⟨kj, hkj⟩ : ∃ kj, (codeUp d_l sz (dnK d_l kd) j).2 = kj := ⟨_, rfl⟩
          have hup := codeUp_up d_l sz (dnK d_l kd) j
          rw [hcj, hkj] at hup
          rw [hcj] at hlj
          rw [hkj] at hdj
          rw [hcj, hkj] at hI1
          have w1 : IntKind.i64.wrap ((N : Int) - j - 1) = (N : Int) - (j + 1 : Nat) := by rw [wrap_i64 (by omega)]; omega
          have c1 : (0 : Int) < (N : Int) - j := by omega
          have w2 : IntKind.i64.wrap ((cj.length : Int) + 1) = (cj.length : Int) + 1 := wrap_i64 (by omega)
          have hm : 1 ≤ (cj.length : Int) + 1 ∧ (cj.length : Int) + 1 ≤ 1000 := by omega
          have ha : 0 ≤ (cj.length : Int) ∧ (cj.length : Int) ≤ 1000 := by omega
          obtain ⟨pt, hpt⟩ : ∃ pt, partV d_l sz ((cj.length : Int) + 1) cj.length kj = pt := ⟨_, rfl⟩
          have hpl : pt.length ≤ 5 := by rw [← hpt]; exact partV_len ..
          have w3 : IntKind.i64.wrap ((cj.length : Int) + pt.length) = (cj.length : Int) + pt.length := wrap_i64 (by omega)
          rw [hpt] at hup
          by_cases hf : cj.length + pt.length ≤ 62
          · have hfi : (cj.length : Int) + pt.length ≤ 62 := by omega
            rw [if_pos hf] at hup
            simp (maxSteps := 10000000) (maxDischargeDepth := 30) (implicitDefEqProofs := false) [hii, hwi, hlti, hI1, hij, hwj, hltj, hdj, hz, w1, c1, w2, hm, ha, hpt, w3, hf, hfi, hup]
            omega
          · have hfi : ¬ (cj.length : Int) + pt.length ≤ 62 := by omega
            rw [if_neg hf] at hup
            simp (maxSteps := 10000000) (maxDischargeDepth := 30) (implicitDefEqProofs := false) [hii, hwi, hlti, hI1, hij, hwj, hltj, hdj, hz, w1, c1, w2, hm, ha, hpt, w3, hf, hfi, hup]
        · have hej : N = j := by omega
          subst hej
          rw [hcc, hkc] at hI1
          have h4 := dnV_in d_l kc (n := 4) (by omega)
          have hdc1 := dnK_ok hdc
          have hdc2 := dnK_ok hdc1
          have w5 : IntKind.i64.wrap ((cc.length : Int) + 1) = (cc.length : Int) + 1 := wrap_i64 (by omega)
          have hm1 : 1 ≤ (cc.length : Int) + 1 ∧ (cc.length : Int) + 1 ≤ 4611686018427387904 := by omega
          by_cases hc0 : dnV d_l kc 4 = 0
          case pos =>
            have hkt : tlK d_l kc = dnK d_l (dnK d_l kc) := by unfold tlK; rw [if_pos hc0]
            have hlen : (cc ++ ([⟨18, 0, 0, 0, dnV d_l (dnK d_l kc) (cc.length + 1)⟩] : List Instr) ++ ([⟨1, 0, 0, 0, dnV d_l (dnK d_l (dnK d_l kc)) 9⟩, ⟨23, 0, 0, 0, 0⟩] : List Instr)).length = cc.length + 3 := by simp
            have hce0 : ce = (cc ++ ([⟨18, 0, 0, 0, dnV d_l (dnK d_l kc) (cc.length + 1)⟩] : List Instr) ++ ([⟨1, 0, 0, 0, dnV d_l (dnK d_l (dnK d_l kc)) 9⟩, ⟨23, 0, 0, 0, 0⟩] : List Instr)) := by
              rw [← hce]; unfold endV tlV; rw [hkt, if_pos hc0]; exact List.take_of_length_le (by rw [hlen]; omega)
            have hcel : ce.length = cc.length + 3 := by rw [hce0, hlen]
            have hlti2 : ¬ (64 : Int) < (cc.length : Int) + 1 + 2 := by omega
            have htk : ∀ x, List.take (cc.length + 1) (List.map Instr.enc cc ++ [x]) = List.map Instr.enc cc ++ [x] := fun x => List.take_of_length_le (by simp)
            simp (maxSteps := 10000000) (maxDischargeDepth := 30) (implicitDefEqProofs := false) [hii, hwi, hlti, hI1, hij, hwj, hltj, hdc, hdc1, hdc2, hc0, w5, hm1, hlti2, htk]
            repeat (refine ⟨by omega, fun _ _ => ?_⟩)
            refine Wp_up (fun i S => (S.f 0 = .ptr 0 0 0 ∧ S.h 0 = some ⟨2, [.agg [.sl false ((⟨d_l, dnK d_l (tlK d_l kc)⟩ : Deck).l.map (V.int .i64)), .int .i64 (⟨d_l, dnK d_l (tlK d_l kc)⟩ : Deck).time]], true⟩ ∧ S.f 2 = .ptr 2 0 0 ∧ S.h 2 = some ⟨3, [.agg [.sl false (([] : List Instr).map Instr.enc), .sl false (([] : List Int).map (V.int .i64)), .sl false (([] : List (List Int)).map encLU16)]], true⟩ ∧ S.f 3 = .ptr 3 0 0 ∧ S.h 1000 = some ⟨5, (⟨fixUp ce.length ce i, sz, dat⟩ : Prog).code.map Instr.enc, false⟩ ∧ S.h 1001 = some ⟨1, (⟨fixUp ce.length ce i, sz, dat⟩ : Prog).data.map encLU16, false⟩ ∧ S.h 3 = some ⟨3, [.agg [.hdr 1000 0 ((⟨fixUp ce.length ce i, sz, dat⟩ : Prog).code.map Instr.enc).length, .sl false ((⟨fixUp ce.length ce i, sz, dat⟩ : Prog).sizes.map (V.int .i64)), .hdr 1001 0 ((⟨fixUp ce.length ce i, sz, dat⟩ : Prog).data.map encLU16).length]], true⟩ ∧ S.f 101 = .int .i64 ((ce.length : Int)) ∧ S.f 102 = .int .i64 (i : Int) ∧ S.n = 1102) ∧ True) (ce.length) ?_ 0 (by simp) ?_
            · rintro i S hii ⟨hI2, hP2⟩
              have hwi : IntKind.i64.wrap ((i : Int) + 1) = (i : Int) + 1 := wrap_i64 (by omega)
              by_cases hlti : i < ce.length
              · have f1 := fixUp_len ce.length ce i
                have f2 := fixUp_at (n := ce.length) hlti
                have f3 : i < (fixUp ce.length ce i).length := by rw [f1]; exact hlti
                have f4 := f2 f3
                cases hj : jumps (ce[i]).op
                case false =>
                  have f5 := fixUp_no (n := ce.length) hlti (fun h => by rw [hj] at h; cases h.1)
                  simp (maxSteps := 10000000) (maxDischargeDepth := 30) (implicitDefEqProofs := false) [hii, hwi, hlti, hij, hwj, hltj, hI2, hii, hwi, hlti, f1, f3, f4, f5, hj]
                case true =>
                  by_cases hm : (ce.length : Int) ≤ (ce[i]).imm
                  · have f5 := fixUp_yes (n := ce.length) hlti ⟨hj, hm⟩
                    simp (maxSteps := 10000000) (maxDischargeDepth := 30) (implicitDefEqProofs := false) [hii, hwi, hlti, hij, hwj, hltj, hI2, hii, hwi, hlti, f1, f3, f4, f5, hj, hm, instr_set, instr_put]
                    try rw [List.map_set]
                  · have f5 := fixUp_no (n := ce.length) hlti (fun h => hm h.2)
                    simp (maxSteps := 10000000) (maxDischargeDepth := 30) (implicitDefEqProofs := false) [hii, hwi, hlti, hij, hwj, hltj, hI2, hii, hwi, hlti, f1, f3, f4, f5, hj, hm]
              · have hei : ce.length = i := by omega
                subst hei
                simp (maxSteps := 10000000) (maxDischargeDepth := 30) (implicitDefEqProofs := false) [hii, hwi, hlti, hij, hwj, hltj, hI2, hii, hwi, hlti] <;> (
                  rw [fixUp_all, List.map_map])
            · simp (maxSteps := 10000000) (maxDischargeDepth := 30) (implicitDefEqProofs := false) [hii, hwi, hlti, hI1, hij, hwj, hltj] <;> (
                simp [hce0, fixUp_zero, hkt, hcel, Instr.enc_eq]
                try omega)
          case neg =>
            by_cases hc1 : dnV d_l kc 4 = 1
            case pos =>
              have hkt : tlK d_l kc = dnK d_l kc := by unfold tlK; rw [if_neg hc0]
              have hlen : (cc ++ ([⟨24, 0, 0, 0, 0⟩] : List Instr) ++ ([⟨1, 0, 0, 0, dnV d_l (dnK d_l kc) 9⟩, ⟨23, 0, 0, 0, 0⟩] : List Instr)).length = cc.length + 3 := by simp
              have hce0 : ce = (cc ++ ([⟨24, 0, 0, 0, 0⟩] : List Instr) ++ ([⟨1, 0, 0, 0, dnV d_l (dnK d_l kc) 9⟩, ⟨23, 0, 0, 0, 0⟩] : List Instr)) := by
                rw [← hce]; unfold endV tlV; rw [hkt, if_neg hc0, if_pos hc1]; exact List.take_of_length_le (by rw [hlen]; omega)
              have hcel : ce.length = cc.length + 3 := by rw [hce0, hlen]
              have hlti2 : ¬ (64 : Int) < (cc.length : Int) + 1 + 2 := by omega
              have htk : ∀ x, List.take (cc.length + 1) (List.map Instr.enc cc ++ [x]) = List.map Instr.enc cc ++ [x] := fun x => List.take_of_length_le (by simp)
              simp (maxSteps := 10000000) (maxDischargeDepth := 30) (implicitDefEqProofs := false) [hii, hwi, hlti, hI1, hij, hwj, hltj, hdc, hdc1, hdc2, hc0, hc1, w5, hm1, hlti2, htk]
              repeat (refine ⟨by omega, fun _ _ => ?_⟩)
              refine Wp_up (fun i S => (S.f 0 = .ptr 0 0 0 ∧ S.h 0 = some ⟨2, [.agg [.sl false ((⟨d_l, dnK d_l (tlK d_l kc)⟩ : Deck).l.map (V.int .i64)), .int .i64 (⟨d_l, dnK d_l (tlK d_l kc)⟩ : Deck).time]], true⟩ ∧ S.f 2 = .ptr 2 0 0 ∧ S.h 2 = some ⟨3, [.agg [.sl false (([] : List Instr).map Instr.enc), .sl false (([] : List Int).map (V.int .i64)), .sl false (([] : List (List Int)).map encLU16)]], true⟩ ∧ S.f 3 = .ptr 3 0 0 ∧ S.h 1000 = some ⟨5, (⟨fixUp ce.length ce i, sz, dat⟩ : Prog).code.map Instr.enc, false⟩ ∧ S.h 1001 = some ⟨1, (⟨fixUp ce.length ce i, sz, dat⟩ : Prog).data.map encLU16, false⟩ ∧ S.h 3 = some ⟨3, [.agg [.hdr 1000 0 ((⟨fixUp ce.length ce i, sz, dat⟩ : Prog).code.map Instr.enc).length, .sl false ((⟨fixUp ce.length ce i, sz, dat⟩ : Prog).sizes.map (V.int .i64)), .hdr 1001 0 ((⟨fixUp ce.length ce i, sz, dat⟩ : Prog).data.map encLU16).length]], true⟩ ∧ S.f 101 = .int .i64 ((ce.length : Int)) ∧ S.f 102 = .int .i64 (i : Int) ∧ S.n = 1102) ∧ True) (ce.length) ?_ 0 (by simp) ?_
              · rintro i S hii ⟨hI3, hP3⟩
                have hwi : IntKind.i64.wrap ((i : Int) + 1) = (i : Int) + 1 := wrap_i64 (by omega)
                by_cases hlti : i < ce.length
                · have f1 := fixUp_len ce.length ce i
                  have f2 := fixUp_at (n := ce.length) hlti
                  have f3 : i < (fixUp ce.length ce i).length := by rw [f1]; exact hlti
                  have f4 := f2 f3
                  cases hj : jumps (ce[i]).op
                  case false =>
                    have f5 := fixUp_no (n := ce.length) hlti (fun h => by rw [hj] at h; cases h.1)
                    simp (maxSteps := 10000000) (maxDischargeDepth := 30) (implicitDefEqProofs := false) [hii, hwi, hlti, hij, hwj, hltj, hI3, hii, hwi, hlti, f1, f3, f4, f5, hj]
                  case true =>
                    by_cases hm : (ce.length : Int) ≤ (ce[i]).imm
                    · have f5 := fixUp_yes (n := ce.length) hlti ⟨hj, hm⟩
                      simp (maxSteps := 10000000) (maxDischargeDepth := 30) (implicitDefEqProofs := false) [hii, hwi, hlti, hij, hwj, hltj, hI3, hii, hwi, hlti, f1, f3, f4, f5, hj, hm, instr_set, instr_put]
                      try rw [List.map_set]
                    · have f5 := fixUp_no (n := ce.length) hlti (fun h => hm h.2)
                      simp (maxSteps := 10000000) (maxDischargeDepth := 30) (implicitDefEqProofs := false) [hii, hwi, hlti, hij, hwj, hltj, hI3, hii, hwi, hlti, f1, f3, f4, f5, hj, hm]
                · have hei : ce.length = i := by omega
                  subst hei
                  simp (maxSteps := 10000000) (maxDischargeDepth := 30) (implicitDefEqProofs := false) [hii, hwi, hlti, hij, hwj, hltj, hI3, hii, hwi, hlti] <;> (
                    rw [fixUp_all, List.map_map])
              · simp (maxSteps := 10000000) (maxDischargeDepth := 30) (implicitDefEqProofs := false) [hii, hwi, hlti, hI1, hij, hwj, hltj] <;> (
                  simp [hce0, fixUp_zero, hkt, hcel, Instr.enc_eq]
                  try omega)
            case neg =>
              have hkt : tlK d_l kc = dnK d_l kc := by unfold tlK; rw [if_neg hc0]
              have hlen : (cc ++ ([⟨1, 0, 0, 0, dnV d_l (dnK d_l kc) 9⟩, ⟨23, 0, 0, 0, 0⟩] : List Instr)).length = cc.length + 2 := by simp
              have hce0 : ce = (cc ++ ([⟨1, 0, 0, 0, dnV d_l (dnK d_l kc) 9⟩, ⟨23, 0, 0, 0, 0⟩] : List Instr)) := by
                rw [← hce]; unfold endV tlV; rw [hkt, if_neg hc0, if_neg hc1]; exact List.take_of_length_le (by rw [hlen]; omega)
              have hcel : ce.length = cc.length + 2 := by rw [hce0, hlen]
              have hlti2 : ¬ 64 < (cc.length : Int) + 2 := by omega
              simp (maxSteps := 10000000) (maxDischargeDepth := 30) (implicitDefEqProofs := false) [hii, hwi, hlti, hI1, hij, hwj, hltj, hdc, hdc1, hdc2, hc0, hc1, w5, hm1, hlti2]
              repeat (refine ⟨by omega, fun _ _ => ?_⟩)
              refine Wp_up (fun i S => (S.f 0 = .ptr 0 0 0 ∧ S.h 0 = some ⟨2, [.agg [.sl false ((⟨d_l, dnK d_l (tlK d_l kc)⟩ : Deck).l.map (V.int .i64)), .int .i64 (⟨d_l, dnK d_l (tlK d_l kc)⟩ : Deck).time]], true⟩ ∧ S.f 2 = .ptr 2 0 0 ∧ S.h 2 = some ⟨3, [.agg [.sl false (([] : List Instr).map Instr.enc), .sl false (([] : List Int).map (V.int .i64)), .sl false (([] : List (List Int)).map encLU16)]], true⟩ ∧ S.f 3 = .ptr 3 0 0 ∧ S.h 1000 = some ⟨5, (⟨fixUp ce.length ce i, sz, dat⟩ : Prog).code.map Instr.enc, false⟩ ∧ S.h 1001 = some ⟨1, (⟨fixUp ce.length ce i, sz, dat⟩ : Prog).data.map encLU16, false⟩ ∧ S.h 3 = some ⟨3, [.agg [.hdr 1000 0 ((⟨fixUp ce.length ce i, sz, dat⟩ : Prog).code.map Instr.enc).length, .sl false ((⟨fixUp ce.length ce i, sz, dat⟩ : Prog).sizes.map (V.int .i64)), .hdr 1001 0 ((⟨fixUp ce.length ce i, sz, dat⟩ : Prog).data.map encLU16).length]], true⟩ ∧ S.f 101 = .int .i64 ((ce.length : Int)) ∧ S.f 102 = .int .i64 (i : Int) ∧ S.n = 1102) ∧ True) (ce.length) ?_ 0 (by simp) ?_
              · rintro i S hii ⟨hI4, hP4⟩
                have hwi : IntKind.i64.wrap ((i : Int) + 1) = (i : Int) + 1 := wrap_i64 (by omega)
                by_cases hlti : i < ce.length
                · have f1 := fixUp_len ce.length ce i
                  have f2 := fixUp_at (n := ce.length) hlti
                  have f3 : i < (fixUp ce.length ce i).length := by rw [f1]; exact hlti
                  have f4 := f2 f3
                  cases hj : jumps (ce[i]).op
                  case false =>
                    have f5 := fixUp_no (n := ce.length) hlti (fun h => by rw [hj] at h; cases h.1)
                    simp (maxSteps := 10000000) (maxDischargeDepth := 30) (implicitDefEqProofs := false) [hii, hwi, hlti, hij, hwj, hltj, hI4, hii, hwi, hlti, f1, f3, f4, f5, hj]
                  case true =>
                    by_cases hm : (ce.length : Int) ≤ (ce[i]).imm
                    · have f5 := fixUp_yes (n := ce.length) hlti ⟨hj, hm⟩
                      simp (maxSteps := 10000000) (maxDischargeDepth := 30) (implicitDefEqProofs := false) [hii, hwi, hlti, hij, hwj, hltj, hI4, hii, hwi, hlti, f1, f3, f4, f5, hj, hm, instr_set, instr_put]
                      try rw [List.map_set]
                    · have f5 := fixUp_no (n := ce.length) hlti (fun h => hm h.2)
                      simp (maxSteps := 10000000) (maxDischargeDepth := 30) (implicitDefEqProofs := false) [hii, hwi, hlti, hij, hwj, hltj, hI4, hii, hwi, hlti, f1, f3, f4, f5, hj, hm]
                · have hei : ce.length = i := by omega
                  subst hei
                  simp (maxSteps := 10000000) (maxDischargeDepth := 30) (implicitDefEqProofs := false) [hii, hwi, hlti, hij, hwj, hltj, hI4, hii, hwi, hlti] <;> (
                    rw [fixUp_all, List.map_map])
              · simp (maxSteps := 10000000) (maxDischargeDepth := 30) (implicitDefEqProofs := false) [hii, hwi, hlti, hI1, hij, hwj, hltj] <;> (
                  simp [hce0, fixUp_zero, hkt, hcel, Instr.enc_eq]
                  try omega)
      · simp (maxSteps := 10000000) (maxDischargeDepth := 30) (implicitDefEqProofs := false) [hI0, hii, hwi, hlti] <;> (
          simp [codeUp_zero])
  · simp (maxSteps := 10000000) (maxDischargeDepth := 30) (implicitDefEqProofs := false) [] <;> (
      simp [dataUpD_zero])
end Go.Proofs.YtcfmnogghcjdaaaGreatDoor
