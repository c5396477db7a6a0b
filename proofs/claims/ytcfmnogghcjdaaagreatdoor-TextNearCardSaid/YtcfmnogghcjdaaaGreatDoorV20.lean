/- Part of a proof: S20. -/
import Derived.Test.YtcfmnogghcjdaaaGreatDoorV18
set_option linter.all false
set_option maxRecDepth 100000
set_option maxHeartbeats 20000000
namespace Go.Proofs.YtcfmnogghcjdaaaGreatDoor
open Go Go.Abs Go.Abs.Api
theorem bytes_of : ∀ {es : List V}, (∀ v ∈ es, ∃ n, v = .int .u8 n) → ∃ s, bytesOf es = some s ∧ s.length = es.length
  | [], _ => ⟨[], rfl, rfl⟩
  | v :: es, h => by
    obtain ⟨n, rfl⟩ := h v (by simp)
    obtain ⟨s, hs, hl⟩ := bytes_of (es := es) fun v hv => h v (by simp [hv])
    unfold bytesOf at hs
    exact ⟨UInt8.ofNat n.toNat :: s, by simp [bytesOf, Go.Abs.byteOf, allSome, hs], by simp [hl]⟩
theorem rd_slice (X : Env) (fid : FuncId) (d : Nat) (t' : TypeId) (x' : Operand) (lo' hi' mx' : Option Operand) (ty : TypeId) (ps : String) (af : Array Edge) (g : Option (Nat × Bool)) (S1 T : St) (m : Nat) : rdP X fid (some ⟨some d, .slice t' x' lo' hi' mx', ty, ps, af, g⟩) S1 T m =
    ∃ v, (if ((evF S1.f) x').isStr = (X.ti t').isStr ∧ ((evF S1.f) x').isPtr = (X.ti t').arr.isSome then
      match (evF S1.f) x' with
      | .sl _ es =>
        if es.all (fun e => e.cells.length == (X.ti (X.ti t').elem).size) then
          match mx' with
          | none => match bounds (lo'.map (evF S1.f)) (hi'.map (evF S1.f)) es.length with | some (l, h) => some ((.sl false ((es.take h).drop l)), T.h, m) | none => none
          | some mm => match (evF S1.f) mm, hi'.map (evF S1.f) with
            | .int _ p, some (.int _ q) => if p = q then (match bounds (lo'.map (evF S1.f)) (hi'.map (evF S1.f)) es.length with | some (l, h) => some ((.sl true ((es.take h).drop l)), T.h, m) | none => none) else none
            | _, _ => none
        else none
      | .hdr id s n =>
        match mx', T.h id with
        | none, some ob => if ob.k = (X.ti (X.ti t').elem).size then (match bounds (lo'.map (evF S1.f)) (hi'.map (evF S1.f)) n with | some (l, h) => some ((.hdr id (s + l) (h - l)), T.h, m) | none => none) else none
        | some mm, some ob => if ob.k = (X.ti (X.ti t').elem).size then (match (evF S1.f) mm, hi'.map (evF S1.f) with
            | .int _ p, some (.int _ q) => if p = q then (match bounds (lo'.map (evF S1.f)) (hi'.map (evF S1.f)) n with | some (l, h) => some ((.hdr id (s + l) (h - l)), T.h, m) | none => none) else none
            | _, _ => none) else none
        | _, none => none
      | .str s => match mx' with
        | none => match bounds (lo'.map (evF S1.f)) (hi'.map (evF S1.f)) s.length with | some (l, h) => some ((.str ((s.take h).drop l)), T.h, m) | none => none
        | some _ => none
      | .ptr id 0 0 => match mx', lo', hi', (X.ti t').arr, T.h id with
        | none, none, none, some mm, some ob => match ob.es with
          | [e] => if e.cells.all V.imm0 = true ∧ e.cells.length = mm ∧ (X.ti (X.ti t').elem).size = 1 ∧ 0 < mm then some (.sl true e.cells, upd T.h id none, m) else none
          | _ => none
        | _, _, _, _, _ => none
      | _ => none
    else none) = some (v, T.h, m) ∧ S1.f d = v := by
  unfold rdP
  rw [evF_eq]
  apply propext
  constructor
  · rintro ⟨o, v, h, h1, h2⟩
    simp only [Option.some.injEq] at h
    subst h
    exact ⟨v, h1, h2 d rfl⟩
  · rintro ⟨v, h1, h2⟩
    refine ⟨_, v, rfl, h1, fun d' h => ?_⟩
    simp only [Option.some.injEq] at h
    subst h; exact h2
attribute [simp ↓] rd_slice
theorem bytes_le {es : List V} (h : ∀ v ∈ es, ∃ n, v = .int .u8 n) (hl : es.length ≤ 100000) : ∃ s, bytesOf es = some s ∧ s.length ≤ 100000 := by
  obtain ⟨s, h1, h2⟩ := bytes_of h
  exact ⟨s, h1, by omega⟩
theorem u8_map {s : List UInt8} {bs : List V} (h : (s.map fun c => V.int .u8 c.toNat) = bs) : ∀ v ∈ bs, ∃ n, v = V.int .u8 n := by
  intro v hv
  rw [← h] at hv
  obtain ⟨c, _, rfl⟩ := List.mem_map.1 hv
  exact ⟨_, rfl⟩
theorem u8_app {a b : List V} (ha : ∀ v ∈ a, ∃ n, v = V.int .u8 n) (hb : ∀ v ∈ b, ∃ n, v = V.int .u8 n) : ∀ v ∈ a ++ b, ∃ n, v = V.int .u8 n := by
  intro v hv
  rcases List.mem_append.1 hv with h | h
  · exact ha v h
  · exact hb v h
theorem u8_all {a : List V} (ha : ∀ v ∈ a, ∃ n, v = V.int .u8 n) : (a.all fun v => v.cells.length == 1) = true := by
  rw [List.all_eq_true]
  intro v hv
  obtain ⟨n, rfl⟩ := ha v hv
  rfl
theorem plain_len : plainB.length = 95 := by decide
theorem plain_lit : ([115, 101, 116, 117, 112, 32, 53, 32, 48, 32, 50, 32, 51, 32, 50, 32, 49, 10, 115, 101, 101, 100, 115, 32, 49, 32, 50, 32, 51, 10, 102, 97, 117, 108, 116, 32, 50, 32, 49, 32, 52, 32, 48, 32, 51, 32, 55, 10, 104, 97, 110, 103, 32, 51, 32, 50, 32, 49, 10, 99, 114, 97, 115, 104, 32, 52, 32, 49, 10, 99, 104, 111, 105, 99, 101, 32, 48, 32, 53, 32, 49, 10, 99, 104, 111, 105, 99, 101, 32, 49, 32, 48, 32, 48, 10] : List UInt8) = plainB := rfl
theorem f_law45_TextNear (l : List Int) (at_ : Int) (to : Int) (by_ : Int) (how : Int)  : pcall X 3 [.sl false (l.map (V.int .i64)), .int .i64 at_, .int .i64 to, .int .u8 by_, .int .u8 how] = some (.bool true) := by
  refine pcall_of Tryz.func3 rfl rfl ?_
  have haw := f_law45_awake
  have hF := f_make_Few l
  by_cases hfew : l.length ≤ 400
  case neg =>
    simp (maxSteps := 10000000) (maxDischargeDepth := 30) (implicitDefEqProofs := false) [haw, hF, hfew]
  have hd0 : DeckP l 0 := ⟨by omega, by omega⟩
  have v0 := dnV_in l 0 (n := 5) (by omega)
  obtain ⟨N, hN⟩ : ∃ N : Nat, 1 + dnV l 0 5 = N := ⟨(1 + dnV l 0 5).toNat, by omega⟩
  have wN : IntKind.i64.wrap (N : Int) = N := wrap_i64 (by omega)
  have hd1 := dnK_ok hd0
  obtain ⟨k1, hk1⟩ : ∃ k1, dnK l 0 = k1 := ⟨_, rfl⟩
  rw [hk1] at hd1
  have hs := f_team_Setup l k1 N N rfl hd1 (by omega)
  have hd2 := setupK_ok hd1 N
  obtain ⟨k2, hk2⟩ : ∃ k2, setupK l k1 N = k2 := ⟨_, rfl⟩
  rw [hk2] at hd2 hs
  have ht := f_team_Troubles l k2 3 hd2 (by omega)
  have hd3 : DeckP l (trK l 3 k2) := trK_ok hd2
  obtain ⟨k3, hk3⟩ : ∃ k3, trK l 3 k2 = k3 := ⟨_, rfl⟩
  rw [hk3] at hd3 ht
  have hc := f_team_Choices l k3 5 hd3 (by omega)
  have hd4 : DeckP l (chK l 5 k3) := chK_ok hd3
  obtain ⟨hck, hcl⟩ := made_check l k1 k2 k3 (n := N) (bad := 3) (most := 5) (by omega) (by omega) (by omega)
  have htt : trT l 3 k2 = ⟨trF l 3 k2, trH l 3 k2, trC l 3 k2⟩ := rfl
  rw [← htt] at ht
  generalize setupV l k1 N = uu at *
  generalize trT l 3 k2 = tt at *
  generalize chL l 5 k3 = cc at *
  generalize chK l 5 k3 = k4 at *
  have hlim := (check_zero hck).1
  simp only [limitsB, Bool.and_eq_true, decide_eq_true_eq] at hlim
  obtain ⟨⟨⟨⟨⟨l1, l2⟩, l3⟩, l4⟩, l5⟩, l6⟩ := hlim
  have hP := c_formatR uu tt cc (by omega) (by omega) (nums_in (check_zero hck).2)
  have hfm : formatM uu tt cc = (textM uu tt cc, 0) := by unfold formatM; rw [if_pos hck]
  rw [hfm] at hP
  simp only at hP
  have hlen := text_len hck
  obtain ⟨s1, hs1⟩ := text_head uu tt cc
  have hsne : ¬ textM uu tt cc = [] := by rw [hs1]; simp
  have hspos : 1 ≤ (textM uu tt cc).length := by rw [hs1]; simp
  clear hs1 hfm
  simp only [Setup.enc_eq, Troubles.enc_eq] at hP
  generalize textM uu tt cc = s at *
  simp only at hs ht hc
  have hse : (s = []) = False := eq_false hsne
  have v4 := dnV_in l k4 (n := 3) (by omega)
  have hpl := plain_lit
  have hpn := plain_len
  have hpa := f_law45_agree plainB (by rw [plain_len]; omega)
  generalize plainB = pb at *
  obtain ⟨m, hm⟩ : ∃ m : Nat, to % 95 = m := ⟨(to % 95).toNat, by omega⟩
  have hM2 := f_make_Mod to 95 (by omega)
  rw [hm] at hM2
  obtain ⟨pd, hpd⟩ : ∃ pd : List V, (List.drop m pb).map (fun c => V.int .u8 c.toNat) = pd := ⟨_, rfl⟩
  have hpd2 : List.drop m (pb.map (fun c => V.int .u8 c.toNat)) = pd := by rw [← hpd, List.map_drop]
  have hpu := u8_map hpd
  have hpdl : pd.length = 95 - m := by rw [← hpd]; simp; omega
  have hmp : m ≤ pb.length := by omega
  have hmp2 : (m : Int) ≤ (pb.length : Int) := by omega
  by_cases hv : dnV l k4 3 = 0
  case pos =>
    have hq1 : 1 ≤ pb.length := by omega
    have hq2 : pb.length ≤ 30000 := by omega
    have hqa := f_law45_agree pb (by omega)
    obtain ⟨i, hi⟩ : ∃ i : Nat, at_ % (pb.length : Int) = i := ⟨(at_ % (pb.length : Int)).toNat, by
      have := Int.emod_nonneg at_ (b := (pb.length : Int)) (by omega)
      omega⟩
    have hM := f_make_Mod at_ (pb.length : Int) (by omega)
    have hil : i < pb.length := by
      have := Int.emod_lt_of_pos at_ (b := (pb.length : Int)) (by omega)
      omega
    rw [hi] at hM
    have hil2 : (i : Int) < (pb.length : Int) := by omega
    have hil3 : i ≤ pb.length := by omega
    have hil4 : (i : Int) ≤ (pb.length : Int) := by omega
    have hil5 : i + 1 ≤ pb.length := by omega
    have hil6 : (i : Int) + 1 ≤ (pb.length : Int) := by omega
    have hil7 : (0 : Int) ≤ (i : Int) + 1 := by omega
    have wi : IntKind.i64.wrap ((i : Int) + 1) = (i : Int) + 1 := wrap_i64 (by omega)
    have ti : ((i : Int) + 1).toNat = i + 1 := by omega
    obtain ⟨bs, hbs⟩ : ∃ bs : List V, (pb.map fun c => V.int .u8 c.toNat) = bs := ⟨_, rfl⟩
    have hcv : ∀ (H : Heap) (n : Nat), convB false (some .u8) H n (.str pb) = some (.hdr n 0 pb.length, upd H n (some ⟨1, bs, false⟩), n + 1) := fun H n => by
      rw [← hbs]
      simp only [convB]
      rw [if_pos ⟨trivial, trivial, by omega⟩]
    have hbl : bs.length = pb.length := by rw [← hbs]; simp
    have hbu : ∀ v ∈ bs, ∃ n, v = .int .u8 n := u8_map hbs
    clear hbs
    have hb : i < bs.length := by omega
    obtain ⟨x, hx⟩ : ∃ x : Int, bs[i] = .int .u8 x := hbu bs[i] (List.getElem_mem hb)
    have et : List.take pb.length bs = bs := List.take_of_length_le (by omega)
    have hb0 : ∃ t, bytesOf (bs.set i (.int .u8 by_)) = some t ∧ t.length ≤ 100000 := bytes_le (fun v hv => by
      rcases List.mem_or_eq_of_mem_set hv with h | h
      · exact hbu v h
      · exact ⟨_, h⟩) (by simp; omega)
    obtain ⟨t0, e0, f0⟩ := hb0
    have g0 := f_law45_agree t0 f0
    have et0 : List.take pb.length (bs.set i (.int .u8 by_)) = bs.set i (.int .u8 by_) := List.take_of_length_le (by simp; omega)
    obtain ⟨ta, hta⟩ : ∃ ta, bs.take i = ta := ⟨_, rfl⟩
    obtain ⟨td, htd⟩ : ∃ td, (bs.drop (i + 1)).take (pb.length - (i + 1)) = td := ⟨_, rfl⟩
    obtain ⟨tc, htc⟩ : ∃ tc, (bs.drop i).take (pb.length - i) = tc := ⟨_, rfl⟩
    have la : ta.length = i := by rw [← hta]; simp; omega
    have ld : td.length = pb.length - (i + 1) := by rw [← htd]; simp; omega
    have lc : tc.length = pb.length - i := by rw [← htc]; simp; omega
    have ua : ∀ v ∈ ta, ∃ n, v = .int .u8 n := fun v hv => by rw [← hta] at hv; exact hbu v (List.mem_of_mem_take hv)
    have ud : ∀ v ∈ td, ∃ n, v = .int .u8 n := fun v hv => by rw [← htd] at hv; exact hbu v (List.mem_of_mem_drop (List.mem_of_mem_take hv))
    have uc : ∀ v ∈ tc, ∃ n, v = .int .u8 n := fun v hv => by rw [← htc] at hv; exact hbu v (List.mem_of_mem_drop (List.mem_of_mem_take hv))
    have aa := u8_all ua
    have ad := u8_all ud
    have ac := u8_all uc
    have ab := u8_all hbu
    have ap := u8_all hpu
    have ea : List.take i ta = ta := List.take_of_length_le (by omega)
    obtain ⟨t1, e1, f1⟩ := bytes_le (u8_app ua ud) (by simp; omega)
    have g1 := f_law45_agree t1 f1
    have et1 : List.take (i + (pb.length - (i + 1))) (ta ++ td) = ta ++ td := List.take_of_length_le (by simp; omega)
    have eu : List.take (i + 1) (ta ++ [.int .u8 by_]) = ta ++ [.int .u8 by_] := List.take_of_length_le (by simp; omega)
    obtain ⟨t2, e2, f2⟩ := bytes_le (u8_app ua (u8_app (a := [.int .u8 by_]) (fun v hv => ⟨by_, by simpa using hv⟩) uc)) (by simp; omega)
    simp only [List.singleton_append] at e2
    have g2 := f_law45_agree t2 f2
    have et2 : List.take (i + 1 + (pb.length - i)) (ta ++ V.int .u8 by_ :: tc) = ta ++ V.int .u8 by_ :: tc := List.take_of_length_le (by simp; omega)
    obtain ⟨t3, e3, f3⟩ := bytes_le ua (by omega)
    have g3 := f_law45_agree t3 f3
    obtain ⟨t4, e4, f4⟩ := bytes_le (u8_app hbu hpu) (by simp; omega)
    have g4 := f_law45_agree t4 f4
    have et4 : List.take (pb.length + pd.length) (bs ++ pd) = bs ++ pd := List.take_of_length_le (by simp; omega)
    have et5 : List.take (pb.length + (95 - m)) (bs ++ pd) = bs ++ pd := List.take_of_length_le (by simp; omega)
    have n7 : i + 1 + (pb.length - i) ≤ i + (pb.length - i + 1) := by omega
    have n0 : i ≤ 140737488355328 ∧ i ≤ 4611686018427387904 := by omega
    have n1 : i + (pb.length - (i + 1)) ≤ 140737488355328 ∧ i + (pb.length - (i + 1)) ≤ 4611686018427387904 := by omega
    have n2 : i + 1 ≤ 140737488355328 ∧ i + 1 ≤ 4611686018427387904 := by omega
    have n3 : i + 1 + (pb.length - i) ≤ 140737488355328 ∧ i + 1 + (pb.length - i) ≤ 4611686018427387904 := by omega
    have n4 : pb.length ≤ 140737488355328 ∧ pb.length ≤ 4611686018427387904 := by omega
    have n5 : pb.length + pd.length ≤ 140737488355328 ∧ pb.length + pd.length ≤ 4611686018427387904 := by omega
    have n6 : pb.length + (95 - m) ≤ 140737488355328 ∧ pb.length + (95 - m) ≤ 4611686018427387904 := by omega
    simp (maxSteps := 10000000) (maxDischargeDepth := 30) (implicitDefEqProofs := false) [haw, hF, hfew, hd0, hN, wN, hk1, hs, ht, hc, hP, hse, hv, hd4, hpl, hcv, hM, hM2, hil, hil2, hil3, hil4, hil5, hil6, hil7, wi, ti, hx, hbl, hb, hqa, hpa, hmp, hmp2, et, et0, e0, g0, hta, htd, htc, la, ld, lc, aa, ad, ac, ab, ap, ea, et1, e1, g1, eu, et2, e2, g2, e3, g3, et4, et5, e4, g4, hpd, hpd2, n0, n1, n2, n3, n4, n5, n6, n7, V.put, -List.all_eq_true, -f_team_Setup, -f_team_Troubles, -f_team_Choices, -f_ref45_Format, -f_make_Mod]
    done
  case neg =>
    have hq1 : 1 ≤ s.length := by omega
    have hq2 : s.length ≤ 30000 := by omega
    have hqa := f_law45_agree s (by omega)
    obtain ⟨i, hi⟩ : ∃ i : Nat, at_ % (s.length : Int) = i := ⟨(at_ % (s.length : Int)).toNat, by
      have := Int.emod_nonneg at_ (b := (s.length : Int)) (by omega)
      omega⟩
    have hM := f_make_Mod at_ (s.length : Int) (by omega)
    have hil : i < s.length := by
      have := Int.emod_lt_of_pos at_ (b := (s.length : Int)) (by omega)
      omega
    rw [hi] at hM
    have hil2 : (i : Int) < (s.length : Int) := by omega
    have hil3 : i ≤ s.length := by omega
    have hil4 : (i : Int) ≤ (s.length : Int) := by omega
    have hil5 : i + 1 ≤ s.length := by omega
    have hil6 : (i : Int) + 1 ≤ (s.length : Int) := by omega
    have hil7 : (0 : Int) ≤ (i : Int) + 1 := by omega
    have wi : IntKind.i64.wrap ((i : Int) + 1) = (i : Int) + 1 := wrap_i64 (by omega)
    have ti : ((i : Int) + 1).toNat = i + 1 := by omega
    obtain ⟨bs, hbs⟩ : ∃ bs : List V, (s.map fun c => V.int .u8 c.toNat) = bs := ⟨_, rfl⟩
    have hcv : ∀ (H : Heap) (n : Nat), convB false (some .u8) H n (.str s) = some (.hdr n 0 s.length, upd H n (some ⟨1, bs, false⟩), n + 1) := fun H n => by
      rw [← hbs]
      simp only [convB]
      rw [if_pos ⟨trivial, trivial, by omega⟩]
    have hbl : bs.length = s.length := by rw [← hbs]; simp
    have hbu : ∀ v ∈ bs, ∃ n, v = .int .u8 n := u8_map hbs
    clear hbs
    have hb : i < bs.length := by omega
    obtain ⟨x, hx⟩ : ∃ x : Int, bs[i] = .int .u8 x := hbu bs[i] (List.getElem_mem hb)
    have et : List.take s.length bs = bs := List.take_of_length_le (by omega)
    have hb0 : ∃ t, bytesOf (bs.set i (.int .u8 by_)) = some t ∧ t.length ≤ 100000 := bytes_le (fun v hv => by
      rcases List.mem_or_eq_of_mem_set hv with h | h
      · exact hbu v h
      · exact ⟨_, h⟩) (by simp; omega)
    obtain ⟨t0, e0, f0⟩ := hb0
    have g0 := f_law45_agree t0 f0
    have et0 : List.take s.length (bs.set i (.int .u8 by_)) = bs.set i (.int .u8 by_) := List.take_of_length_le (by simp; omega)
    obtain ⟨ta, hta⟩ : ∃ ta, bs.take i = ta := ⟨_, rfl⟩
    obtain ⟨td, htd⟩ : ∃ td, (bs.drop (i + 1)).take (s.length - (i + 1)) = td := ⟨_, rfl⟩
    obtain ⟨tc, htc⟩ : ∃ tc, (bs.drop i).take (s.length - i) = tc := ⟨_, rfl⟩
    have la : ta.length = i := by rw [← hta]; simp; omega
    have ld : td.length = s.length - (i + 1) := by rw [← htd]; simp; omega
    have lc : tc.length = s.length - i := by rw [← htc]; simp; omega
    have ua : ∀ v ∈ ta, ∃ n, v = .int .u8 n := fun v hv => by rw [← hta] at hv; exact hbu v (List.mem_of_mem_take hv)
    have ud : ∀ v ∈ td, ∃ n, v = .int .u8 n := fun v hv => by rw [← htd] at hv; exact hbu v (List.mem_of_mem_drop (List.mem_of_mem_take hv))
    have uc : ∀ v ∈ tc, ∃ n, v = .int .u8 n := fun v hv => by rw [← htc] at hv; exact hbu v (List.mem_of_mem_drop (List.mem_of_mem_take hv))
    have aa := u8_all ua
    have ad := u8_all ud
    have ac := u8_all uc
    have ab := u8_all hbu
    have ap := u8_all hpu
    have ea : List.take i ta = ta := List.take_of_length_le (by omega)
    obtain ⟨t1, e1, f1⟩ := bytes_le (u8_app ua ud) (by simp; omega)
    have g1 := f_law45_agree t1 f1
    have et1 : List.take (i + (s.length - (i + 1))) (ta ++ td) = ta ++ td := List.take_of_length_le (by simp; omega)
    have eu : List.take (i + 1) (ta ++ [.int .u8 by_]) = ta ++ [.int .u8 by_] := List.take_of_length_le (by simp; omega)
    obtain ⟨t2, e2, f2⟩ := bytes_le (u8_app ua (u8_app (a := [.int .u8 by_]) (fun v hv => ⟨by_, by simpa using hv⟩) uc)) (by simp; omega)
    simp only [List.singleton_append] at e2
    have g2 := f_law45_agree t2 f2
    have et2 : List.take (i + 1 + (s.length - i)) (ta ++ V.int .u8 by_ :: tc) = ta ++ V.int .u8 by_ :: tc := List.take_of_length_le (by simp; omega)
    obtain ⟨t3, e3, f3⟩ := bytes_le ua (by omega)
    have g3 := f_law45_agree t3 f3
    obtain ⟨t4, e4, f4⟩ := bytes_le (u8_app hbu hpu) (by simp; omega)
    have g4 := f_law45_agree t4 f4
    have et4 : List.take (s.length + pd.length) (bs ++ pd) = bs ++ pd := List.take_of_length_le (by simp; omega)
    have et5 : List.take (s.length + (95 - m)) (bs ++ pd) = bs ++ pd := List.take_of_length_le (by simp; omega)
    have n7 : i + 1 + (s.length - i) ≤ i + (s.length - i + 1) := by omega
    have n0 : i ≤ 140737488355328 ∧ i ≤ 4611686018427387904 := by omega
    have n1 : i + (s.length - (i + 1)) ≤ 140737488355328 ∧ i + (s.length - (i + 1)) ≤ 4611686018427387904 := by omega
    have n2 : i + 1 ≤ 140737488355328 ∧ i + 1 ≤ 4611686018427387904 := by omega
    have n3 : i + 1 + (s.length - i) ≤ 140737488355328 ∧ i + 1 + (s.length - i) ≤ 4611686018427387904 := by omega
    have n4 : s.length ≤ 140737488355328 ∧ s.length ≤ 4611686018427387904 := by omega
    have n5 : s.length + pd.length ≤ 140737488355328 ∧ s.length + pd.length ≤ 4611686018427387904 := by omega
    have n6 : s.length + (95 - m) ≤ 140737488355328 ∧ s.length + (95 - m) ≤ 4611686018427387904 := by omega
    simp (maxSteps := 10000000) (maxDischargeDepth := 30) (implicitDefEqProofs := false) [haw, hF, hfew, hd0, hN, wN, hk1, hs, ht, hc, hP, hse, hv, hd4, hpl, hcv, hM, hM2, hil, hil2, hil3, hil4, hil5, hil6, hil7, wi, ti, hx, hbl, hb, hqa, hpa, hmp, hmp2, et, et0, e0, g0, hta, htd, htc, la, ld, lc, aa, ad, ac, ab, ap, ea, et1, e1, g1, eu, et2, e2, g2, e3, g3, et4, et5, e4, g4, hpd, hpd2, n0, n1, n2, n3, n4, n5, n6, n7, V.put, -List.all_eq_true, -f_team_Setup, -f_team_Troubles, -f_team_Choices, -f_ref45_Format, -f_make_Mod]
    done
end Go.Proofs.YtcfmnogghcjdaaaGreatDoor
