/- Copies. -/
import Derived.Test.YtcbddnmodlhnaaaS3
set_option linter.unusedVariables false
set_option linter.unusedSimpArgs false
namespace Go.Proofs.Ytcbddnmodlhnaaa
open Go Go.Abs

@[simp] theorem take_map_len {α : Type} (f : α → V) (l : List α) : (l.map f).take l.length = l.map f := List.take_of_length_le (by simp)

set_option maxRecDepth 20000 in
theorem s30 (v : View) (h : v.regs.length ≤ 1000000000) : pcall X 30 [v.enc] = some v.enc := by
  refine pcall_of Try.func30 rfl rfl ?_
  simp (implicitDefEqProofs := false) [View.enc_eq]
  omega

set_option maxRecDepth 20000 in
theorem s24 (v : View) (h : v.regs.length ≤ 1000000000) : pcall X 24 [v.enc] = some v.enc := by
  refine pcall_of Try.func24 rfl rfl ?_
  simp (implicitDefEqProofs := false) [View.enc_eq]
  omega

/-- a list that grows -/
def Acc (h : Heap) (lo hi : Nat) (A : V) (k : Nat) (es : List V) : Prop := (es = [] ∧ A = .sl true []) ∨ ∃ id, A = .hdr id 0 es.length ∧ h id = some ⟨k, es, false⟩ ∧ lo ≤ id ∧ id < hi

theorem Acc.keep {h h' : Heap} {lo hi : Nat} {A : V} {k : Nat} {es : List V} (hA : Acc h lo hi A k es) (hh : ∀ id, lo ≤ id → id < hi → h' id = h id) : Acc h' lo hi A k es := by
  rcases hA with hA | ⟨id, h1, h2, h3, h4⟩
  · exact .inl hA
  · exact .inr ⟨id, h1, by rw [hh id h3 h4]; exact h2, h3, h4⟩

theorem Acc.imm {h : Heap} {lo hi : Nat} {A : V} {k : Nat} {es : List V} (hA : Acc h lo hi A k es) (d : Nat) : ∃ c, toImm h (d + 1) A = some (.sl c es) := by
  rcases hA with ⟨rfl, rfl⟩ | ⟨id, rfl, h2, h3, h4⟩
  · exact ⟨true, by simp⟩
  · exact ⟨false, by simp [h2]⟩

set_option maxRecDepth 20000 in
theorem s19 (rs : List (List Canon)) (ts : List View) (hr : SmallR rs) (ht : SmallT ts) : pcall X 19 [.agg [.sl false (rs.map encR), .sl false (ts.map View.enc)]] = some (.agg [.sl false (rs.map encR), .sl false (ts.map View.enc)]) := by
  refine pcall_of Try.func19 rfl rfl ?_
  simp (implicitDefEqProofs := false)
  refine Wp_up (fun i S => 4 ≤ S.n ∧ S.f 1 = .ptr 0 0 0 ∧ S.f 2 = .ptr 1 0 0 ∧ S.f 3 = .ptr 2 0 0 ∧ S.f 4 = .int .i64 i ∧
    S.h 0 = some ⟨2, [.agg [.sl false (rs.map encR), .sl false (ts.map View.enc)]], true⟩ ∧ S.h 1 = some ⟨2, [.agg [.sl true [], .sl true []]], true⟩ ∧
    ∃ A, S.h 2 = some ⟨2, [.agg [A, .sl true []]], true⟩ ∧ Acc S.h 4 S.n A 1 (List.take i (rs.map encR))) rs.length ?_ 0 (by simp) (by simp [Acc])
  rintro i S hi ⟨hn, f1, f2, f3, f4, h0, h1, A, h2, hA⟩
  have hrl := hr.1
  by_cases hlt : i < rs.length
  · have hx := hr.2 rs[i] (List.getElem_mem hlt)
    have hx1 : rs[i].length * 24 ≤ 140737488355328 := by omega
    have hx2 : rs[i].length ≤ 4611686018427387904 := by omega
    have hw := wrap_succ (show i ≤ 1000000000 by omega)
    have htk : List.take (i + 1) (rs.map encR) = List.take i (rs.map encR) ++ [encR rs[i]] := by rw [List.take_add_one]; simp [hlt]
    rcases hA with ⟨hes, rfl⟩ | ⟨id, rfl, hid, hid1, hid2⟩
    · simp (implicitDefEqProofs := false) [f1, f2, f3, f4, h0, h1, h2, hlt, hw, encR_eq, hx1, hx2]
      rw [htk, hes]
      exact .inr ⟨S.n + 5 + 10, rfl, by simp [encR_eq], by omega, by omega⟩
    · have hlen : (List.take i (rs.map encR)).length = i := by simp; omega
      rw [hlen] at h2
      have e1 : ∀ j k, (id = S.n + j + k) = False := by intros; simp; omega
      have e2 : ∀ j k, (S.n + j + k = id) = False := by intros; simp; omega
      have e3 : ∀ j, j < 4 → (j = id) = False := by intros; simp; omega
      have e4 : ∀ j, j < 4 → (id = j) = False := by intros; simp; omega
      have hmin : min i rs.length = i := by omega
      have b1 : (i + 1) * 24 ≤ 140737488355328 := by omega
      have b2 : i + 1 ≤ 4611686018427387904 := by omega
      simp (implicitDefEqProofs := false) [f1, f2, f3, f4, h0, h1, h2, hlt, hw, encR_eq, hx1, hx2, hid, e1, e2, e3, e4, hmin, b1, b2]
      rw [htk]
      exact .inr ⟨S.n + 5 + 10, by simp [hmin], by simp [encR_eq, List.take_take], by omega, by omega⟩
  · rw [List.take_of_length_le (by simp; omega)] at hA
    have hi' : i = rs.length := by omega
    subst hi'
    simp (implicitDefEqProofs := false) [f1, f2, f3, f4, h0, h1, h2]
    obtain ⟨n1, hn1⟩ : ∃ n1, n1 = S.n := ⟨_, rfl⟩
    refine Wp_up (fun i S => n1 ≤ S.n ∧ S.f 1 = .ptr 0 0 0 ∧ S.f 2 = .ptr 1 0 0 ∧ S.f 3 = .ptr 2 0 0 ∧ S.f 5 = .int .i64 i ∧
      S.h 0 = some ⟨2, [.agg [.sl false (rs.map encR), .sl false (ts.map View.enc)]], true⟩ ∧ S.h 1 = some ⟨2, [.agg [.sl true [], .sl true []]], true⟩ ∧
      Acc S.h 4 n1 A 1 (rs.map encR) ∧ ∃ B, S.h 2 = some ⟨2, [.agg [A, B]], true⟩ ∧ Acc S.h n1 S.n B 8 (List.take i (ts.map View.enc))) ts.length ?_ 0 (by simp) (by
        simp [f1, f2, f3, h0, h1, h2, Acc]; exact ⟨by omega, by rw [hn1]; simpa [Acc] using hA⟩)
    clear f1 f2 f3 f4 h0 h1 h2 hA hi hlt
    rintro i S' hi ⟨hn', f1, f2, f3, f5, h0, h1, hA, B, h2, hB⟩
    have htl := ht.1
    by_cases hlt : i < ts.length
    · have hx := ht.2 ts[i] (List.getElem_mem hlt)
      have hw := wrap_succ (show i ≤ 1000000000 by omega)
      have hc := s24 ts[i] hx
      simp only [View.enc_eq] at hc
      have htk : List.take (i + 1) (ts.map View.enc) = List.take i (ts.map View.enc) ++ [View.enc ts[i]] := by rw [List.take_add_one]; simp [hlt]
      rcases hB with ⟨hes, rfl⟩ | ⟨id, rfl, hid, hid1, hid2⟩
      · simp (implicitDefEqProofs := false) [f1, f2, f3, f5, h0, h1, h2, hlt, hw, View.enc_eq, hc]
        refine ⟨by omega, hA.keep fun x hx1 hx2 => ?_, ?_⟩
        · have a1 : (x = 2) = False := by simp; omega
          have a2 : (x = S'.n + 5 + 9) = False := by simp; omega
          simp [a1, a2]
        · rw [htk, hes]
          exact .inr ⟨S'.n + 5 + 9, rfl, by simp [View.enc_eq], by omega, by omega⟩
      · have hlen : (List.take i (ts.map View.enc)).length = i := by simp; omega
        rw [hlen] at h2
        have e1 : ∀ j k, (id = S'.n + j + k) = False := by intros; simp; omega
        have e2 : ∀ j k, (S'.n + j + k = id) = False := by intros; simp; omega
        have e3 : ∀ j, j < 4 → (j = id) = False := by intros; simp; omega
        have e4 : ∀ j, j < 4 → (id = j) = False := by intros; simp; omega
        have hmin : min i ts.length = i := by omega
        have b1 : (i + 1) * 80 ≤ 140737488355328 := by omega
        have b2 : i + 1 ≤ 4611686018427387904 := by omega
        simp (implicitDefEqProofs := false) [f1, f2, f3, f5, h0, h1, h2, hlt, hw, View.enc_eq, hc, hid, e1, e2, e3, e4, hmin, b1, b2]
        refine ⟨by omega, hA.keep fun x hx1 hx2 => ?_, ?_⟩
        · have a1 : (x = 2) = False := by simp; omega
          have a2 : (x = S'.n + 5 + 9) = False := by simp; omega
          have a3 : (x = id) = False := by simp; omega
          simp [a1, a2, a3]
        · rw [htk]
          exact .inr ⟨S'.n + 5 + 9, by simp [hmin], by simp [View.enc_eq, List.take_take], by omega, by omega⟩
    · rw [List.take_of_length_le (by simp; omega)] at hB
      have hi' : i = ts.length := by omega
      subst hi'
      simp (implicitDefEqProofs := false) [f1, f2, f3, f5, h0, h1, h2]
      have k1 : ∀ x, 4 ≤ x → ∀ v, upd S'.h 1 v x = S'.h x := fun x hx v => by
        have a1 : (x = 1) = False := by simp; omega
        simp [a1]
      obtain ⟨c1, q1⟩ := (hA.keep (h' := upd S'.h 1 (some ⟨2, [.agg [A, B]], true⟩)) fun x hx1 hx2 => k1 x hx1 _).imm 10
      obtain ⟨c2, q2⟩ := (hB.keep (h' := upd S'.h 1 (some ⟨2, [.agg [A, B]], true⟩)) fun x hx1 hx2 => k1 x (by omega) _).imm 10
      simp at q1 q2
      simp [q1, q2]

theorem set_map {α : Type} (f : α → V) (l : List α) (i : Nat) (h : i < l.length) : (l.map f).set i (f l[i]) = l.map f := by
  apply List.ext_getElem?
  intro j
  rw [List.getElem?_set]
  split
  · rename_i e; subst e; simp [h]
  · rfl

set_option maxRecDepth 20000 in
theorem s23 (rs : List (List Canon)) (ts : List View) (hr : SmallR rs) (ht : SmallT ts) : pcall X 23 [.agg [.sl false (rs.map encR), .sl false (ts.map View.enc)]] = some (.agg [.sl false (rs.map encR), .sl false (ts.map View.enc)]) := by
  refine pcall_of Try.func23 rfl rfl ?_
  have hrl := hr.1
  have htl := ht.1
  have b1 : rs.length * 24 ≤ 140737488355328 := by omega
  have b2 : rs.length ≤ 4611686018427387904 := by omega
  have b3 : ts.length * 80 ≤ 140737488355328 := by omega
  have b4 : ts.length ≤ 4611686018427387904 := by omega
  simp (implicitDefEqProofs := false) [b1, b2, b3, b4]
  refine Wp_up (fun i S => 14 ≤ S.n ∧ S.f 1 = .ptr 0 0 0 ∧ S.f 2 = .ptr 1 0 0 ∧ S.f 16 = .hdr 12 0 rs.length ∧ S.f 17 = .int .i64 rs.length ∧ S.f 18 = .int .i64 i ∧
    S.h 0 = some ⟨2, [.agg [.hdr 12 0 rs.length, .hdr 13 0 ts.length]], true⟩ ∧ S.h 1 = some ⟨2, [.agg [.sl true [], .sl true []]], true⟩ ∧
    S.h 12 = some ⟨1, rs.map encR, false⟩ ∧ S.h 13 = some ⟨8, ts.map View.enc, false⟩) rs.length ?_ 0 (by simp) (by simp)
  rintro i S hi ⟨hn, f1, f2, f16, f17, f18, h0, h1, h12, h13⟩
  have e1 : ∀ j k, j < 14 → (j = S.n + k) = False := by intros; simp; omega
  have e2 : ∀ j k, j < 14 → (S.n + k = j) = False := by intros; simp; omega
  by_cases hlt : i < rs.length
  · have hx := hr.2 rs[i] (List.getElem_mem hlt)
    have hx1 : rs[i].length * 24 ≤ 140737488355328 := by omega
    have hx2 : rs[i].length ≤ 4611686018427387904 := by omega
    have hw := wrap_succ (show i ≤ 1000000000 by omega)
    have hset := set_map encR rs i hlt
    simp only [encR_eq] at hset
    have e3 : ∀ j k l, j < 14 → (j = S.n + k + l) = False := by intros; simp; omega
    have e4 : ∀ j k l, j < 14 → (S.n + k + l = j) = False := by intros; simp; omega
    simp (implicitDefEqProofs := false) [f1, f2, f16, f17, f18, h0, h1, h12, h13, hlt, hw, encR_eq, hx1, hx2, e1, e2, e3, e4, hset]
    omega
  · simp (implicitDefEqProofs := false) [f1, f2, f16, f17, f18, h0, h1, h12, h13, hlt]
    refine Wp_up (fun i S => 14 ≤ S.n ∧ S.f 1 = .ptr 0 0 0 ∧ S.f 2 = .ptr 1 0 0 ∧ S.f 31 = .hdr 13 0 ts.length ∧ S.f 32 = .int .i64 ts.length ∧ S.f 33 = .int .i64 i ∧
      S.h 0 = some ⟨2, [.agg [.hdr 12 0 rs.length, .hdr 13 0 ts.length]], true⟩ ∧ S.h 1 = some ⟨2, [.agg [.sl true [], .sl true []]], true⟩ ∧
      S.h 12 = some ⟨1, rs.map encR, false⟩ ∧ S.h 13 = some ⟨8, ts.map View.enc, false⟩) ts.length ?_ 0 (by simp) (by simp [f1, f2, h0, h1, h12, h13]; omega)
    clear f1 f2 f16 f17 f18 h0 h1 h12 h13 e1 e2 hlt hi hn
    rintro i S hi ⟨hn, f1, f2, f31, f32, f33, h0, h1, h12, h13⟩
    have e1 : ∀ j k, j < 14 → (j = S.n + k) = False := by intros; simp; omega
    have e2 : ∀ j k, j < 14 → (S.n + k = j) = False := by intros; simp; omega
    by_cases hlt : i < ts.length
    · have hx := ht.2 ts[i] (List.getElem_mem hlt)
      have hw := wrap_succ (show i ≤ 1000000000 by omega)
      have hset := set_map View.enc ts i hlt
      have hc := s30 ts[i] hx
      simp only [View.enc_eq] at hset hc
      have e3 : ∀ j k l, j < 14 → (j = S.n + k + l) = False := by intros; simp; omega
      have e4 : ∀ j k l, j < 14 → (S.n + k + l = j) = False := by intros; simp; omega
      simp (implicitDefEqProofs := false) [f1, f2, f31, f32, f33, h0, h1, h12, h13, hlt, hw, View.enc_eq, e1, e2, e3, e4, hset, hc]
    · simp (implicitDefEqProofs := false) [f1, f2, f31, f32, f33, h0, h1, h12, h13, hlt]

set_option maxRecDepth 20000 in
theorem s17 (s : Snap) (hr : SmallR s.regions) (ht : SmallT s.threads) : pcall X 17 [s.enc] = some s.enc := by
  refine pcall_of Try.func17 rfl rfl ?_
  simp (implicitDefEqProofs := false) [Snap.enc_eq, s23 s.regions s.threads hr ht]

set_option maxRecDepth 20000 in
theorem s15 (l : List Snap) (hs : SmallS l) : ∃ v h' k', callL X 15 [.sl false (l.map Snap.enc)] nohp 6 = some (v, h', k') ∧ v = .hdr 10 0 l.length ∧ h' 10 = some ⟨3, l.map Snap.enc, false⟩ ∧ 11 ≤ k' := by
  refine callL_of Try.func15 rfl rfl ?_
  have hm := hs.1
  have b1 : l.length * 56 ≤ 140737488355328 := by omega
  have b2 : l.length ≤ 4611686018427387904 := by omega
  simp (implicitDefEqProofs := false) [b1, b2]
  refine Wp_up (fun i S => 11 ≤ S.n ∧ S.f 3 = .hdr 10 0 l.length ∧ S.f 8 = .hdr 10 0 l.length ∧ S.f 9 = .int .i64 l.length ∧ S.f 10 = .int .i64 i ∧ S.h 10 = some ⟨3, l.map Snap.enc, false⟩) l.length ?_ 0 (by simp) (by simp)
  rintro i S hi ⟨hn, f3, f8, f9, f10, h4⟩
  by_cases hlt : i < l.length
  · have hx := hs.2 l[i] (List.getElem_mem hlt)
    have hw := wrap_succ (show i ≤ 1000000000 by omega)
    have hset := set_map Snap.enc l i hlt
    have hc := s17 l[i] hx.1 hx.2
    simp only [Snap.enc_eq] at hset hc
    have e1 : ∀ j k, j < 11 → (j = S.n + k) = False := by intros; simp; omega
    have e2 : ∀ j k, j < 11 → (S.n + k = j) = False := by intros; simp; omega
    have e3 : ∀ j k l, j < 11 → (j = S.n + k + l) = False := by intros; simp; omega
    have e4 : ∀ j k l, j < 11 → (S.n + k + l = j) = False := by intros; simp; omega
    have e5 : ∀ j, j < 11 → (S.n = j) = False := by intros; simp; omega
    simp (implicitDefEqProofs := false) [f3, f8, f9, f10, h4, hlt, hw, Snap.enc_eq, e1, e2, e3, e4, e5, hset, hc]
  · simp (implicitDefEqProofs := false) [f3, f9, f10, h4, hlt]
    omega

end Go.Proofs.Ytcbddnmodlhnaaa
