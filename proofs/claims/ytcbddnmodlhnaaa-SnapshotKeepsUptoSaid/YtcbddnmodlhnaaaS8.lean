/- SnapshotKeeps on the evaluator. -/
import Derived.Test.YtcbddnmodlhnaaaS6
set_option linter.unusedVariables false
set_option linter.unusedSimpArgs false
namespace Go.Proofs.Ytcbddnmodlhnaaa
open Go Go.Abs

def snapAt (t : Int) : Snap := ⟨t, [], []⟩
def base (l : List Snap) : List Snap := if l.length = 8 then l.take 1 ++ l.drop 2 else l
def nxt (l : List Snap) (m : Int) : List Snap := base l ++ [snapAt m]

structure Inv (l : List Snap) (now : Int) : Prop where
  len : l.length ≤ 8
  mks : ∀ x ∈ l, x = snapAt x.time
  rng : ∀ x ∈ l, 0 ≤ x.time ∧ x.time ≤ 200
  le : ∀ x ∈ l, x.time ≤ now
  pw : l.Pairwise fun x y => x.time < y.time
  lo : -1 ≤ now

theorem base_facts (l : List Snap) (h8 : l.length ≤ 8) : (∀ x ∈ base l, x ∈ l) ∧ ((l.Pairwise fun x y => x.time < y.time) → (base l).Pairwise fun x y => x.time < y.time) ∧ (base l).length ≤ 7 ∧ (∀ h : 0 < l.length, ∃ h' : 0 < (base l).length, (base l)[0] = l[0]) := by
  unfold base
  split
  · rename_i h
    match l, h with
    | a :: b :: r, h =>
      refine ⟨fun x hx => ?_, fun hp => ?_, ?_, fun _ => ⟨by simp, by simp⟩⟩
      · simp at hx ⊢
        rcases hx with hx | hx
        · exact .inl hx
        · exact .inr (.inr hx)
      · simp at hp ⊢
        exact ⟨hp.1.2, hp.2.2⟩
      · simp at h ⊢; omega
  · exact ⟨fun x hx => hx, fun hp => hp, by omega, fun h => ⟨h, rfl⟩⟩

theorem nxt_len (l : List Snap) (m : Int) : (nxt l m).length = (base l).length + 1 := by simp [nxt]
theorem nxt_last (l : List Snap) (m : Int) (h : (nxt l m).length - 1 < (nxt l m).length) : (nxt l m)[(nxt l m).length - 1].time = m := by
  simp [nxt, snapAt]
theorem nxt_head (l : List Snap) (m : Int) (h8 : l.length ≤ 8) (h : 0 < l.length) (h' : 0 < (nxt l m).length) : (nxt l m)[0] = l[0] := by
  obtain ⟨h1, h2⟩ := (base_facts l h8).2.2.2 h
  rw [← h2]
  simp only [nxt]
  rw [List.getElem_append_left h1]

theorem Inv.next {l : List Snap} {now m : Int} (I : Inv l now) (h1 : now < m) (h2 : m ≤ 200) : Inv (nxt l m) m := by
  have B := base_facts l I.len
  have lo := I.lo
  refine ⟨by rw [nxt_len]; have := B.2.2.1; omega, fun x hx => ?_, fun x hx => ?_, fun x hx => ?_, ?_, by omega⟩
  · rcases List.mem_append.1 hx with hx | hx
    · exact I.mks x (B.1 x hx)
    · rw [List.mem_singleton.1 hx]; rfl
  · rcases List.mem_append.1 hx with hx | hx
    · exact I.rng x (B.1 x hx)
    · rw [List.mem_singleton.1 hx]; exact ⟨by simp only [snapAt]; omega, by simp only [snapAt]; omega⟩
  · rcases List.mem_append.1 hx with hx | hx
    · have := I.le x (B.1 x hx); omega
    · rw [List.mem_singleton.1 hx]; simp [snapAt]
  · unfold nxt
    rw [List.pairwise_append]
    refine ⟨B.2.1 I.pw, by simp, fun x hx y hy => ?_⟩
    rw [List.mem_singleton.1 hy]
    have := I.le x (B.1 x hx)
    simp only [snapAt]; omega

theorem Inv.small {l : List Snap} {now : Int} (I : Inv l now) : SmallS l := by
  have := I.len
  refine ⟨by omega, fun x hx => ?_⟩
  rw [I.mks x hx]
  exact ⟨⟨by simp [snapAt], by simp [snapAt]⟩, ⟨by simp [snapAt], by simp [snapAt]⟩⟩

theorem Inv.chk {l : List Snap} {now : Int} (I : Inv l now) : chk (l.map Snap.time) = 0 := by
  have h8 := I.len
  refine chk_good (by simp; omega) fun j hj => ?_
  have hj' : j < l.length := by simpa using hj
  have hr := I.rng l[j] (List.getElem_mem hj')
  have he : entry l[j].time = true := by simp only [entry, Bool.and_eq_true, decide_eq_true_eq]; exact hr
  by_cases h0 : 0 < j
  · rw [okT_pos hj' h0, he, Bool.true_and, decide_eq_true_eq]
    exact List.pairwise_iff_getElem.1 I.pw (j - 1) j (by omega) hj' (by omega)
  · rw [okT_zero hj' h0]; exact he

theorem keep1 {l : List Snap} {now m : Int} (I : Inv l now) (h1 : now < m) (h2 : m ≤ 200) : keepL l (snapAt m) = (nxt l m, 0) := by
  have lo := I.lo
  have hm0 : 0 ≤ m := by omega
  unfold keepL
  rw [if_neg (by rw [I.chk]; simp), if_neg]
  · rfl
  · have he : entry (snapAt m).time = true := by simp only [entry, snapAt, Bool.and_eq_true]; exact ⟨decide_eq_true hm0, decide_eq_true h2⟩
    rw [he]
    simp only [Bool.true_eq_false, false_or, not_and]
    intro h0
    have hlt : l.length - 1 < l.length := by omega
    rw [getT hlt]
    have := I.le l[l.length - 1] (List.getElem_mem hlt)
    simp only [snapAt]; omega

theorem keep2 {l : List Snap} {now m : Int} (I : Inv l now) (h1 : now < m) (h2 : m ≤ 200) : keepL (nxt l m) (snapAt m) = (nxt l m, 35) := by
  have J := I.next h1 h2
  have hlen := nxt_len l m
  unfold keepL
  rw [if_neg (by rw [J.chk]; simp), if_pos]
  right
  have hlt : (nxt l m).length - 1 < (nxt l m).length := by omega
  refine ⟨by omega, ?_⟩
  rw [getT hlt, nxt_last l m hlt]
  simp [snapAt]

theorem step_facts {l : List Snap} {now m : Int} (I : Inv l now) (h1 : now < m) (h2 : m ≤ 200) : ∃ y : List Snap, keepL l (snapAt m) = (y, 0) ∧ keepL y (snapAt m) = (y, 35) ∧ Inv y m ∧ 0 < y.length ∧
    (∀ h : y.length - 1 < y.length, y[y.length - 1].time = m) ∧ (∀ (_ : 0 < l.length) (h' : 0 < y.length), y[0] = l[0]) :=
  ⟨nxt l m, keep1 I h1 h2, keep2 I h1 h2, I.next h1 h2, by rw [nxt_len]; omega, nxt_last l m, nxt_head l m I.len⟩

theorem lastO_none {ts : List Int} {a : Int} : ∀ {n : Nat}, lastO ts a n = none → ∀ j, j < n → ¬ ts.getD j 0 ≤ a
  | 0, _, j, hj => by omega
  | n + 1, h, j, hj => by
    simp only [lastO] at h
    split at h
    · rename_i hn
      split at h
      · cases h
      · rename_i hc
        by_cases e : j = n
        · subst e; exact hc
        · exact lastO_none hn j (by omega)
    · split at h <;> cases h
theorem lastO_some {ts : List Int} {a : Int} : ∀ {n k : Nat}, lastO ts a n = some k → ts.getD k 0 ≤ a ∧ ∀ j, j < n → ts.getD j 0 ≤ a → ts.getD j 0 ≤ ts.getD k 0
  | 0, k, h => by cases h
  | n + 1, k, h => by
    simp only [lastO] at h
    split at h
    · rename_i hn
      split at h
      case isFalse => cases h
      · rename_i hc
        cases h
        refine ⟨hc, fun j hj hja => ?_⟩
        by_cases e : j = n
        · subst e; exact Int.le_refl _
        · exact absurd hja (lastO_none hn j (by omega))
    · rename_i k' hn
      have ih := lastO_some hn
      split at h
      · rename_i hc
        cases h
        refine ⟨hc.1, fun j hj hja => ?_⟩
        by_cases e : j = n
        · subst e; exact Int.le_refl _
        · have := ih.2 j (by omega) hja; omega
      · rename_i hc
        cases h
        refine ⟨ih.1, fun j hj hja => ?_⟩
        by_cases e : j = n
        · subst e
          have : ¬ ts.getD k 0 ≤ ts.getD j 0 := fun h => hc ⟨hja, h⟩
          omega
        · exact ih.2 j (by omega) hja

theorem lastS_none {l : List Snap} {a : Int} (h : lastS l a = none) : ∀ j (hj : j < l.length), ¬ l[j].time ≤ a := by
  intro j hj
  unfold lastS at h
  cases ho : lastO (l.map Snap.time) a l.length with
  | none => have := lastO_none ho j hj; rwa [getT hj] at this
  | some k => have hk := lastO_lt ho; rw [ho] at h; simp [hk] at h
theorem lastS_some {l : List Snap} {a : Int} {x : Snap} (h : lastS l a = some x) : x.time ≤ a ∧ ∀ j (hj : j < l.length), l[j].time ≤ a → l[j].time ≤ x.time := by
  unfold lastS at h
  cases ho : lastO (l.map Snap.time) a l.length with
  | none => rw [ho] at h; cases h
  | some k =>
    have hk := lastO_lt ho
    rw [ho] at h
    simp [hk] at h
    subst h
    have hs := lastO_some ho
    rw [getT hk] at hs
    exact ⟨hs.1, fun j hj hja => by have := hs.2 j hj; rw [getT hj] at this; exact this hja⟩

theorem last_facts (l : List Snap) (a : Int) : ∃ (x : Snap) (ok : Bool), encLast (lastS l a) = .tup [x.enc, .bool ok] ∧ (∀ j (hj : j < l.length), l[j].time ≤ a → ok = true ∧ l[j].time ≤ x.time) ∧ (ok = true → x.time ≤ a) := by
  cases h : lastS l a with
  | none => exact ⟨snapAt 0, false, rfl, fun j hj hja => absurd hja (lastS_none h j hj), fun h => by cases h⟩
  | some x => exact ⟨x, true, rfl, fun j hj hja => ⟨rfl, (lastS_some h).2 j hj hja⟩, fun _ => (lastS_some h).1⟩

def encB (b : Int) : V := .int .u8 b
theorem encB_eq (b : Int) : encB b = .int .u8 b := rfl
@[simp] theorem dull_encB (l : List Int) : dullL (l.map encB) = l.map encB := dullL_map (fun _ => rfl) l
@[simp] theorem encB_cells (b : Int) : (encB b).cells.length = 1 := rfl

set_option maxRecDepth 20000 in
theorem law4 (bs : List Int) (a : Int) (hb : ∀ b ∈ bs, 0 ≤ b ∧ b ≤ 255) (ha : 0 ≤ a ∧ a ≤ 255) (hm : bs.length ≤ 1000000000) :
    ∃ v h k, callL X 4 [.sl false (bs.map encB), .int .u8 a] nohp 0 = some (v, h, k) ∧ v = .bool true := by
  refine callL_of Try.func4 rfl rfl ?_
  simp (implicitDefEqProofs := false)
  refine Wp_up (fun i S => S.f 0 = .sl false (bs.map encB) ∧ S.f 1 = .int .u8 a ∧ S.f 7 = .int .i64 i ∧ ∃ l now c, S.f 6 = .int .i64 now ∧ S.f 5 = .sl c (l.map Snap.enc) ∧ Inv l now ∧ now ≤ 154) bs.length ?_ 0 (by simp)
    ⟨by simp, by simp, by simp, [], -1, true, by simp, by simp, ⟨by simp, by simp, by simp, by simp, by simp, by omega⟩, by omega⟩
  rintro i S hi ⟨f0, f1, f7, l, now, c, f6, f5, I, h154⟩
  have wa : IntKind.i64.wrap a = a := wrap_i64 (by omega)
  by_cases hgo : i < bs.length ∧ i < 30 ∧ now < 150
  · obtain ⟨g1, g2, g3⟩ := hgo
    have hbi := hb bs[i] (List.getElem_mem g1)
    have wb : IntKind.i64.wrap bs[i] = bs[i] := wrap_i64 (by omega)
    have hw := wrap_succ (show i ≤ 1000000000 by omega)
    have lo := I.lo
    have ht : 0 ≤ (bs[i] : Int).tmod 5 ∧ (bs[i] : Int).tmod 5 < 5 := ⟨Int.tmod_nonneg _ hbi.1, Int.tmod_lt_of_pos _ (by omega)⟩
    obtain ⟨m, hmm⟩ : ∃ m, m = now + 1 + (bs[i] : Int).tmod 5 := ⟨_, rfl⟩
    have w1 : IntKind.i64.wrap (now + 1) = now + 1 := wrap_i64 (by omega)
    have w2 : IntKind.i64.wrap (now + 1 + (bs[i] : Int).tmod 5) = m := by rw [wrap_i64 (by omega), hmm]
    have m1 : now < m := by omega
    have m2 : m ≤ 154 := by omega
    obtain ⟨y, k1, k2, J, y0, hlast, hhead⟩ := step_facts I m1 (by omega)
    have h7 := s7 l (snapAt m) I.small ⟨by simp [snapAt], by simp [snapAt]⟩ ⟨by simp [snapAt], by simp [snapAt]⟩
    have h7' := s7 y (snapAt m) J.small ⟨by simp [snapAt], by simp [snapAt]⟩ ⟨by simp [snapAt], by simp [snapAt]⟩
    rw [k1] at h7
    rw [k2] at h7'
    have hn8 := J.len
    have hlast := hlast (by omega)
    have hchk := J.chk
    simp only [Snap.enc_eq, snapAt, List.map_nil] at h7 h7'
    have y1 : y.length - 1 < y.length := by omega
    have yw := wrap_pred y0 (show y.length ≤ 1000000000 by omega)
    have y2 : ((y.length : Int) = 0) = False := by simp only [eq_iff_iff, iff_false]; omega
    have y3 : ((8 : Int) < y.length) = False := by simp; omega
    have g2' : ((i : Int) < 30) = True := by simp; omega
    by_cases hl0 : 0 < l.length
    · have hh := hhead hl0 y0
      simp (implicitDefEqProofs := false) [f0, f1, f5, f6, f7, g1, g2', g3, wb, hw, w1, w2, encB_eq, h7, h7', y0, y1, yw, y2, y3, hlast, hchk, hl0, hh, Snap.enc_eq]
      have yn : ¬ y = [] := fun e => by rw [e] at y0; simp at y0
      exact ⟨fun _ => ⟨y, rfl, J, m2⟩, yn⟩
    · simp (implicitDefEqProofs := false) [f0, f1, f5, f6, f7, g1, g2', g3, wb, hw, w1, w2, encB_eq, h7, h7', y0, y1, yw, y2, y3, hlast, hchk, hl0, Snap.enc_eq]
      have yn : ¬ y = [] := fun e => by rw [e] at y0; simp at y0
      exact ⟨fun _ => ⟨y, rfl, J, m2⟩, yn⟩
  · have hex : ¬ i < bs.length ∨ (i < bs.length ∧ ¬ i < 30) ∨ (i < bs.length ∧ i < 30 ∧ ¬ now < 150) := by omega
    have h9 := s9 l a I.small
    obtain ⟨x, ok, hx, hx1, hx2⟩ := last_facts l a
    rw [hx, Snap.enc_eq] at h9
    rcases hex with g1 | ⟨g1, g2⟩ | ⟨g1, g2, g3⟩
    case' inl => simp (implicitDefEqProofs := false) [f0, f1, f5, f6, f7, g1, wa, h9]
    case' inr.inl =>
      have g2' : ((i : Int) < 30) = False := by simp; omega
      simp (implicitDefEqProofs := false) [f0, f1, f5, f6, f7, g1, g2', wa, h9]
    case' inr.inr =>
      have g2' : ((i : Int) < 30) = True := by simp; omega
      simp (implicitDefEqProofs := false) [f0, f1, f5, f6, f7, g1, g2', g3, wa, h9]
    all_goals
      have hl8 := I.len
      refine Wp_up (fun j S => S.f 1 = .int .u8 a ∧ S.f 5 = .sl c (l.map Snap.enc) ∧ S.f 13 = .bool ok ∧ (∃ id, S.f 12 = .ptr id 0 0 ∧ S.h id = some ⟨3, [.agg [.int .i64 x.time, .sl false (x.regions.map encR), .sl false (x.threads.map View.enc)]], true⟩) ∧ S.f 14 = .int .i64 j) l.length ?_ 0 (by simp) (by simp [f1, f5])
      clear f0 f1 f5 f6 f7
      rintro j S hj ⟨f1, f5, f13, ⟨id, f12, hid⟩, f14⟩
      by_cases hlt : j < l.length
      · have hw := wrap_succ (show j ≤ 1000000000 by omega)
        have hxj := hx1 j hlt
        by_cases hja : l[j].time ≤ a
        · obtain ⟨rfl, hle⟩ := hxj hja
          have hle' : ¬ x.time < l[j].time := by omega
          simp (implicitDefEqProofs := false) [f1, f5, f12, f13, f14, hid, hlt, hw, wa, hja, hle', Snap.enc_eq]
        · simp (implicitDefEqProofs := false) [f1, f5, f12, f13, f14, hid, hlt, hw, wa, hja, Snap.enc_eq]
      · cases ok with
        | false => simp (implicitDefEqProofs := false) [f1, f5, f12, f13, f14, hid, hlt, wa]
        | true =>
          have hxa := hx2 rfl
          simp (implicitDefEqProofs := false) [f1, f5, f12, f13, f14, hid, hlt, wa, hxa]

end Go.Proofs.Ytcbddnmodlhnaaa
