/- Part of a proof: S12, S13, S14. -/
import Derived.Test.YtcfmnogghcjdaaaGreatDoorV15
set_option linter.all false
set_option maxRecDepth 100000
set_option maxHeartbeats 20000000
namespace Go.Proofs.YtcfmnogghcjdaaaGreatDoor
open Go Go.Abs Go.Abs.Api
theorem idx_at {s : List Str} {v : Str} {i : Nat} (h : i < s.length) (hn : v ∉ s.take i) (he : v = s[i]) : (if v ∈ s then ((s.idxOf v : Nat) : Int) else -1) = i := by
  have hm : v ∈ s := by rw [he]; exact List.getElem_mem h
  rw [if_pos hm]
  have e : s.idxOf v = i := by
    conv => lhs; rw [← List.take_append_drop i s]
    rw [List.idxOf_append, if_neg hn, List.drop_eq_getElem_cons h, he, List.idxOf_cons_self, List.length_take]
    omega
  rw [e]
@[simp] theorem f_index (s : List (List UInt8)) (v : List UInt8) (hl : s.length ≤ 1000000) : pcall X 58 [.sl false (s.map V.str), .str v] = some (.int .i64 (if v ∈ s then ((s.idxOf v : Nat) : Int) else -1)) := by
  refine pcall_of Tryz.func58 rfl rfl ?_
  simp (maxSteps := 10000000) (maxDischargeDepth := 30) (implicitDefEqProofs := false) []
  refine Wp_up (fun i S => (S.f 0 = .sl false (s.map V.str) ∧ S.f 1 = .str v ∧ S.f 7 = .int .i64 ((s).length : Int) ∧ S.f 8 = .int .i64 (i : Int) ∧ S.n = 1100) ∧ (v ∉ s.take i)) (s.length) ?_ 0 (by simp) ?_
  · rintro i S hii ⟨hI0, hP0⟩
    have hwi : IntKind.i64.wrap ((i : Int) + 1) = (i : Int) + 1 := wrap_i64 (by omega)
    by_cases hlti : i < s.length
    · by_cases hv : v = s[i]
      · have e := idx_at hlti hP0 hv
        rw [e]
        simp (maxSteps := 10000000) (maxDischargeDepth := 30) (implicitDefEqProofs := false) [hI0, hii, hwi, hlti, hv]
      · simp (maxSteps := 10000000) (maxDischargeDepth := 30) (implicitDefEqProofs := false) [hI0, hii, hwi, hlti, hv]
        rw [take_snoc hlti]
        simp only [List.mem_append, List.mem_singleton]
        rintro (h | h)
        · exact hP0 h
        · exact hv h
    · have hei : s.length = i := by omega
      subst hei
      rw [List.take_length] at hP0
      rw [if_neg hP0]
      simp (maxSteps := 10000000) (maxDischargeDepth := 30) (implicitDefEqProofs := false) [hI0, hii, hwi, hlti]
  · simp (maxSteps := 10000000) (maxDischargeDepth := 30) (implicitDefEqProofs := false) [] <;> (
      simp)
@[simp] theorem p_split (s : Str) (c : UInt8) (h : s.length ≤ 1000000000) : pcall X 32 [.str s, .str [c]] = some (.sl false ((cutL c s).map V.str)) :=
  pcall_prim (pr := splitP) (v := .sl false ((cutL c s).map V.str)) rfl (by simp [splitP, mkPrim, splitRun, split_one]; omega) (by simp [V.dull])
theorem p_atoi (s : Str) (h : s.length ≤ 1000000000) : pcall X 59 [.str s] = some (match Lib.atoiAll s with
    | .ok v => .tup [.int .i64 v, .ifc false]
    | .range => .tup [.int .i64 (Lib.atoiSat s), .ifc true]
    | _ => .tup [.int .i64 0, .ifc true]) := by
  refine pcall_prim (pr := atoiP) (v := match Lib.atoiAll s with
    | .ok v => .tup [.int .i64 v, .ifc false]
    | .range => .tup [.int .i64 (Lib.atoiSat s), .ifc true]
    | _ => .tup [.int .i64 0, .ifc true]) rfl ?_ ?_
  · simp only [atoiP, mkPrim, atoiRun]
    rw [if_pos (by omega)]
    cases Lib.atoiAll s <;> rfl
  · cases Lib.atoiAll s <;> rfl
theorem len_le_sum : ∀ {l : List Nat} {n : Nat}, n ∈ l → n ≤ l.sum
  | a :: l, n, h => by
    simp only [List.mem_cons] at h
    simp only [List.sum_cons]
    rcases h with rfl | h
    · omega
    · have := len_le_sum h; omega
theorem atoi_range {s : Str} {v : Int} (h : Lib.atoiAll s = .ok v) : -9223372036854775808 ≤ v ∧ v ≤ 9223372036854775807 := by
  unfold Lib.atoiAll at h
  split at h
  · cases h
  · simp only at h
    split at h
    · cases h
    · cases h
    · split at h
      · cases h
      · split at h
        · cases h
        · rename_i a b
          injection h with h
          subst h
          split <;> omega
@[simp] theorem f_text_read (s : List UInt8) (hl : s.length ≤ 1000000) : pcall X 33 [.str s] = some (.tup [.agg [.int .i64 ((((readM s).getD ⟨0, []⟩) : row)).kind, .sl false (((((readM s).getD ⟨0, []⟩) : row)).numbers.map (V.int .i64))], .bool ((readM s).isSome)]) := by
  refine pcall_of Tryz.func33 rfl rfl ?_
  obtain ⟨w, L, hwl⟩ := List.exists_cons_of_ne_nil (cutL_ne 32 s)
  have hs := p_split s 32 (by omega)
  rw [hwl] at hs
  have hll := cutL_len 32 s
  rw [hwl] at hll
  simp only [List.length_cons] at hll
  have hpc : ∀ x ∈ L, x.length ≤ 1000000 := by
    intro x hx
    have e := join_cutL hwl
    have : (32 :: x).length ≤ ((L.map fun x => 32 :: x).flatten).length := by
      rw [List.length_flatten]
      exact len_le_sum (List.mem_map.2 ⟨32 :: x, List.mem_map.2 ⟨x, hx, rfl⟩, rfl⟩)
    rw [← e] at hl
    simp at hl this
    omega
  have hix := f_index wordsL w (by simp [wordsL])
  have hkd : (if w ∈ wordsL then ((wordsL.idxOf w : Nat) : Int) else -1) = kindIx w := rfl
  rw [hkd] at hix
  have hix' : pcall X 58 [.sl false [V.str wSetup, V.str wSeeds, V.str wFault, V.str wHang, V.str wCrash, V.str wChoice], .str w] = some (.int .i64 (kindIx w)) := hix
  unfold wSetup wSeeds wFault wHang wCrash wChoice at hix'
  have hkr := kindIx_range w
  have hrd := readM_eq hwl
  have hln := line_eq hwl
  have hvl : valuesM s = L.map valM := by simp [valuesM, hwl]
  rw [hvl] at hrd
  by_cases hk : kindIx w < 0
  · rw [if_pos hk] at hrd
    rw [hrd]
    generalize kindIx w = k at *
    simp (maxSteps := 10000000) (maxDischargeDepth := 30) (implicitDefEqProofs := false) [hs, hix', hk, -p_split, -f_index, wordsL, wSetup, wSeeds, wFault, wHang, wCrash, wChoice]
  · rw [if_neg hk] at hrd
    have hb1 : (1 : Int) ≤ (L.length : Int) + 1 := by omega
    generalize kindIx w = k at *
    simp (maxSteps := 10000000) (maxDischargeDepth := 30) (implicitDefEqProofs := false) [hb1, hs, hix', hk, -p_split, -f_index, wordsL, wSetup, wSeeds, wFault, wHang, wCrash, wChoice]
    refine Wp_up (fun i S => (S.f 2 = .ptr 2 0 0 ∧ S.h 2 = some ⟨2, [.agg [.int .i64 0, .sl false (([] : List Int).map (V.int .i64))]], true⟩ ∧ S.f 6 = .ptr 6 0 0 ∧ S.h 1000 = some ⟨1, (⟨k, (L.take i).map valM⟩ : row).numbers.map (V.int .i64), false⟩ ∧ S.h 6 = some ⟨2, [.agg [.int .i64 (⟨k, (L.take i).map valM⟩ : row).kind, .hdr 1000 0 ((⟨k, (L.take i).map valM⟩ : row).numbers.map (V.int .i64)).length]], true⟩ ∧ S.f 25 = .sl false (L.map V.str) ∧ S.f 26 = .int .i64 ((L.length : Int)) ∧ S.f 27 = .int .i64 (i : Int) ∧ S.n = 1101) ∧ (L.take i = (L.take i).map fun w => num (valM w))) (L.length) ?_ 0 (by simp) ?_
    · rintro i S hii ⟨hI0, hP0⟩
      have hwi : IntKind.i64.wrap ((i : Int) + 1) = (i : Int) + 1 := wrap_i64 (by omega)
      by_cases hlti : i < L.length
      · have hp := p_atoi L[i] (by have := hpc _ (List.getElem_mem hlti); omega)
        have hno := numOf_eq L[i]
        have hsn : L.take (i + 1) = L.take i ++ [L[i]] := take_snoc hlti
        have bad : ¬ L[i] = num (valM L[i]) → readM s = none := by
          intro h
          rw [hrd, if_neg]
          intro e
          have e2 := hln.1 e
          have e3 := congrArg (fun l => l[i]?) e2
          simp [hlti] at e3
          exact h e3
        have hok := valM_ok L[i]
        have hb1 : (i + 1) * 8 ≤ 140737488355328 := by omega
        have hb2 : i ≤ 4611686018427387903 := by omega
        unfold numOf at hno
        generalize hx : L[i] = x at *
        cases ha : Lib.atoiAll x
        · rename_i v
          have hvr := atoi_range ha
          have hvr1 := hvr.1
          have hvr2 := hvr.2
          rw [ha] at hp hno
          simp only at hp hno
          by_cases hw : x = num (valM x)
          · rw [if_pos hw] at hno
            by_cases hc : Lib.itoa v = x ∧ okN v = true
            · rw [if_pos hc] at hno
              injection hno with hno
              obtain ⟨hc1, hc2⟩ := hc
              have hi : (Lib.itoa v == x) = true := by simp [hc1]
              simp (maxSteps := 10000000) (maxDischargeDepth := 30) (implicitDefEqProofs := false) [hI0, hii, hwi, hlti, hp, hx, hvr1, hvr2, hc1, hc2, hb1, hb2]
              refine ⟨⟨?_, by omega⟩, ?_⟩
              · rw [List.take_of_length_le (l := List.take i _) (by simp; omega), List.take_add_one (i := i)]
                simp [hlti, hx, hno]
              · have e := hP0
                rw [List.map_take] at e
                rw [List.take_add_one, List.take_add_one, ← e]
                congr 1
                simp only [List.getElem?_map, List.getElem?_eq_getElem hlti, Option.map_some, Option.toList_some, hx, ← hw]
            · rw [if_neg hc] at hno; cases hno
          · rw [if_neg hw] at hno
            by_cases hc : Lib.itoa v = x ∧ okN v = true
            · rw [if_pos hc] at hno; cases hno
            · rw [bad hw]
              by_cases hi : Lib.itoa v = x
              · have ho : okN v = false := by
                  cases h : okN v with
                  | false => rfl
                  | true => exact absurd ⟨hi, h⟩ hc
                simp (maxSteps := 10000000) (maxDischargeDepth := 30) (implicitDefEqProofs := false) [hI0, hii, hwi, hlti, hp, hx, hvr1, hvr2, hi, ho]
              · have hi' : (Lib.itoa v == x) = false := by simp [hi]
                simp (maxSteps := 10000000) (maxDischargeDepth := 30) (implicitDefEqProofs := false) [hI0, hii, hwi, hlti, hp, hx, hvr1, hvr2, hi']
        · rw [ha] at hp hno
          by_cases hw : x = num (valM x)
          · rw [if_pos hw] at hno; cases hno
          · rw [bad hw]
            simp (maxSteps := 10000000) (maxDischargeDepth := 30) (implicitDefEqProofs := false) [hI0, hii, hwi, hlti, hp, hx]
        · rw [ha] at hp hno
          by_cases hw : x = num (valM x)
          · rw [if_pos hw] at hno; cases hno
          · rw [bad hw]
            simp (maxSteps := 10000000) (maxDischargeDepth := 30) (implicitDefEqProofs := false) [hI0, hii, hwi, hlti, hp, hx]
      · have hei : L.length = i := by omega
        subst hei
        rw [List.take_length] at hP0
        have e : readM s = some ⟨k, L.map valM⟩ := by
          rw [hrd, if_pos (hln.2 hP0)]
        rw [e]
        simp (maxSteps := 10000000) (maxDischargeDepth := 30) (implicitDefEqProofs := false) [hI0, hii, hwi, hlti]
        exact dullL_map (fun _ => rfl) _
    · simp (maxSteps := 10000000) (maxDischargeDepth := 30) (implicitDefEqProofs := false) []
end Go.Proofs.YtcfmnogghcjdaaaGreatDoor
namespace Go.Proofs.YtcfmnogghcjdaaaGreatDoor
open Go Go.Abs Go.Abs.Api
theorem upd_upd {α : Type} (f : Nat → α) (a : Nat) (u v : α) : upd (upd f a u) a v = upd f a v := by
  funext x; simp only [upd_apply]; split <;> rfl
theorem c_fill_no (j q : Nat) (ns : List Int) (h : Heap) (k : Nat) (hq : ¬ (q : Int) = (ns.length : Int)) : callL X 61 [.hdr j 0 q, .sl false (ns.map (V.int .i64))] h k = some (.bool false, h, k + 7) := by
  obtain ⟨v, h', n', e1, e2, e3, e4⟩ := callL_of (X := X) (g := 61) (args := [.hdr j 0 q, .sl false (ns.map (V.int .i64))]) (h := h) (k := k) (K := fun v h' n' => v = .bool false ∧ h' = h ∧ n' = k + 7) Tryz.func61 rfl rfl (by
    simp (maxSteps := 10000000) (maxDischargeDepth := 30) (implicitDefEqProofs := false) [Nat.add_assoc, hq])
  rw [e1, e2, e3, e4]
theorem c_fill6 (a f j kk : Nat) (x0 x1 x2 x3 x4 x5 : Int) (cs : List V) (h : Heap) (k : Nat) (hj : h j = some ⟨1, [.ptr a 0 f, .ptr a 0 (f + 1), .ptr a 0 (f + 2), .ptr a 0 (f + 3), .ptr a 0 (f + 4), .ptr a 0 (f + 5)], true⟩) (ha : h a = some ⟨kk, [.agg cs], true⟩) (haj : ¬ a = j) (hjk : j < k ∧ a < k) (hf : f + 6 ≤ cs.length) : callL X 61 [.hdr j 0 6, .sl false [.int .i64 x0, .int .i64 x1, .int .i64 x2, .int .i64 x3, .int .i64 x4, .int .i64 x5]] h k = some (.bool true, upd h a (some ⟨kk, [.agg (splice (f + 5) [.int .i64 x5] (splice (f + 4) [.int .i64 x4] (splice (f + 3) [.int .i64 x3] (splice (f + 2) [.int .i64 x2] (splice (f + 1) [.int .i64 x1] (splice f [.int .i64 x0] cs))))))], true⟩), k + 101) := by
  have j0 : ∀ n, (j = k + n) = False := fun n => by simp; omega
  have a0 : ∀ n, (a = k + n) = False := fun n => by simp; omega
  have jk : (j = k) = False := by simp; omega
  have ak : (a = k) = False := by simp; omega
  have aj : (j = a) = False := by simp; omega
  have w1 : IntKind.i64.wrap 1 = 1 := by decide
  have w2 : IntKind.i64.wrap 2 = 2 := by decide
  have w3 : IntKind.i64.wrap 3 = 3 := by decide
  have w4 : IntKind.i64.wrap 4 = 4 := by decide
  have w5 : IntKind.i64.wrap 5 = 5 := by decide
  have w6 : IntKind.i64.wrap 6 = 6 := by decide
  have g1 : f + 1 ≤ cs.length := by omega
  have g2 : f + 2 ≤ cs.length := by omega
  have g3 : f + 3 ≤ cs.length := by omega
  have g4 : f + 4 ≤ cs.length := by omega
  have g5 : f + 5 ≤ cs.length := by omega
  obtain ⟨v, h', n', e1, e2, e3, e4⟩ := callL_of (X := X) (g := 61) (args := [.hdr j 0 6, .sl false [.int .i64 x0, .int .i64 x1, .int .i64 x2, .int .i64 x3, .int .i64 x4, .int .i64 x5]]) (h := h) (k := k) (K := fun v h' n' => v = .bool true ∧ h' = upd h a (some ⟨kk, [.agg (splice (f + 5) [.int .i64 x5] (splice (f + 4) [.int .i64 x4] (splice (f + 3) [.int .i64 x3] (splice (f + 2) [.int .i64 x2] (splice (f + 1) [.int .i64 x1] (splice f [.int .i64 x0] cs))))))], true⟩) ∧ n' = k + 101) Tryz.func61 rfl rfl (by
    simp (maxSteps := 10000000) (maxDischargeDepth := 30) (implicitDefEqProofs := false) [Wp_unroll, splice_length, upd_upd, hj, ha, haj, aj, g1, g2, g3, g4, g5, hf, Nat.add_assoc, j0, a0, jk, ak, w1, w2, w3, w4, w5, w6])
  rw [e1, e2, e3, e4]
theorem c_fill3 (a f j kk : Nat) (x0 x1 x2 : Int) (cs : List V) (h : Heap) (k : Nat) (hj : h j = some ⟨1, [.ptr a 0 f, .ptr a 0 (f + 1), .ptr a 0 (f + 2)], true⟩) (ha : h a = some ⟨kk, [.agg cs], true⟩) (haj : ¬ a = j) (hjk : j < k ∧ a < k) (hf : f + 3 ≤ cs.length) : callL X 61 [.hdr j 0 3, .sl false [.int .i64 x0, .int .i64 x1, .int .i64 x2]] h k = some (.bool true, upd h a (some ⟨kk, [.agg (splice (f + 2) [.int .i64 x2] (splice (f + 1) [.int .i64 x1] (splice f [.int .i64 x0] cs)))], true⟩), k + 56) := by
  have j0 : ∀ n, (j = k + n) = False := fun n => by simp; omega
  have a0 : ∀ n, (a = k + n) = False := fun n => by simp; omega
  have jk : (j = k) = False := by simp; omega
  have ak : (a = k) = False := by simp; omega
  have aj : (j = a) = False := by simp; omega
  have w1 : IntKind.i64.wrap 1 = 1 := by decide
  have w2 : IntKind.i64.wrap 2 = 2 := by decide
  have w3 : IntKind.i64.wrap 3 = 3 := by decide
  have g1 : f + 1 ≤ cs.length := by omega
  have g2 : f + 2 ≤ cs.length := by omega
  obtain ⟨v, h', n', e1, e2, e3, e4⟩ := callL_of (X := X) (g := 61) (args := [.hdr j 0 3, .sl false [.int .i64 x0, .int .i64 x1, .int .i64 x2]]) (h := h) (k := k) (K := fun v h' n' => v = .bool true ∧ h' = upd h a (some ⟨kk, [.agg (splice (f + 2) [.int .i64 x2] (splice (f + 1) [.int .i64 x1] (splice f [.int .i64 x0] cs)))], true⟩) ∧ n' = k + 56) Tryz.func61 rfl rfl (by
    simp (maxSteps := 10000000) (maxDischargeDepth := 30) (implicitDefEqProofs := false) [Wp_unroll, splice_length, upd_upd, hj, ha, haj, aj, g1, g2, hf, Nat.add_assoc, j0, a0, jk, ak, w1, w2, w3])
  rw [e1, e2, e3, e4]
theorem c_last (a b m k : Nat) (ns : List Int) (x : Int) (h : Heap) (ha : h a = some ⟨1, [.sl false (ns.map (V.int .i64))], true⟩) (hb : h b = some ⟨1, [.int .i64 ((m : Int) + 1)], true⟩) (hm : m ≤ 1000000) (hx : ns[m]? = some x) : callL X 60 [.ptr a 0 0, .ptr b 0 0] h k = some (.bool (decide (x = 0) || decide (x = 1)), h, k + 16) := by
  have hw : IntKind.i64.wrap (m : Int) = m := wrap_i64 (by omega)
  have hlt : m < ns.length := (List.getElem?_eq_some_iff.1 hx).1
  have hlt' : (m : Int) < ns.length := by omega
  have hx : ns[m] = x := by rw [List.getElem?_eq_getElem hlt] at hx; exact Option.some.inj hx
  obtain ⟨v, h', n', e1, e2, e3, e4⟩ := callL_of (X := X) (g := 60) (args := [.ptr a 0 0, .ptr b 0 0]) (h := h) (k := k) (K := fun v h' n' => v = .bool (decide (x = 0) || decide (x = 1)) ∧ h' = h ∧ n' = k + 16) Tryz.func60 rfl rfl (by
    by_cases h0 : x = 0
    · simp (maxSteps := 10000000) (maxDischargeDepth := 30) (implicitDefEqProofs := false) [Nat.add_assoc, ha, hb, hw, hx, hlt, hlt', h0]
    · simp (maxSteps := 10000000) (maxDischargeDepth := 30) (implicitDefEqProofs := false) [Nat.add_assoc, ha, hb, hw, hx, hlt, hlt', h0])
  rw [e1, e2, e3, e4]
end Go.Proofs.YtcfmnogghcjdaaaGreatDoor
namespace Go.Proofs.YtcfmnogghcjdaaaGreatDoor
open Go Go.Abs Go.Abs.Api
def addX (s : scenario) (r : row) (before : Int) : scenario × Bool :=
  if !orderB r.kind before then (s, false)
  else if r.kind = 0 then (if r.numbers.length = 6 then ({ s with u := fillSetup s.u r.numbers }, true) else (s, false))
  else if r.kind = 1 then ({ s with u := { s.u with seeds := r.numbers } }, decide (0 < r.numbers.length))
  else if r.kind = 2 then ({ s with t := { s.t with faults := s.t.faults ++ [if r.numbers.length = 6 then faultOf r.numbers else ⟨0, 0, 0, 0, 0, 0⟩] } }, decide (r.numbers.length = 6))
  else if r.kind = 3 then ({ s with t := { s.t with hangs := s.t.hangs ++ [if r.numbers.length = 3 then hangOf r.numbers else ⟨0, 0, 0⟩] } }, decide (r.numbers.length = 3))
  else if r.kind = 4 then (if r.numbers.length = 2 ∧ last01 r.numbers = true then ({ s with t := { s.t with crashes := s.t.crashes ++ [crashOf r.numbers] } }, true) else (s, false))
  else if r.numbers.length = 3 ∧ last01 r.numbers = true then ({ s with l := s.l ++ [choiceOf r.numbers] }, true) else (s, false)
theorem addM_eq (s : scenario) (r : row) (b : Int) : addM s r b = if (addX s r b).2 = true then some (addX s r b).1 else none := by
  unfold addM addX
  by_cases h : (!orderB r.kind b) = true
  · rw [if_pos h, if_pos h]; rfl
  rw [if_neg h, if_neg h]
  by_cases h0 : r.kind = 0
  · rw [if_pos h0, if_pos h0]; split <;> rfl
  rw [if_neg h0, if_neg h0]
  by_cases h1 : r.kind = 1
  · rw [if_pos h1, if_pos h1]; by_cases hn : 0 < r.numbers.length <;> simp [hn]
  rw [if_neg h1, if_neg h1]
  by_cases h2 : r.kind = 2
  · rw [if_pos h2, if_pos h2]; by_cases hn : r.numbers.length = 6 <;> simp [hn]
  rw [if_neg h2, if_neg h2]
  by_cases h3 : r.kind = 3
  · rw [if_pos h3, if_pos h3]; by_cases hn : r.numbers.length = 3 <;> simp [hn]
  rw [if_neg h3, if_neg h3]
  by_cases h4 : r.kind = 4
  · rw [if_pos h4, if_pos h4]; split <;> rfl
  rw [if_neg h4, if_neg h4]
  split <;> rfl
theorem f_add (s_u_program_code : List Instr) (s_u_program_sizes : List Int) (s_u_program_data : List (List Int)) (s_u_seeds : List Int) (s_u_outside_clock : List Int) (s_u_outside_random : List Int) (s_u_outside_inputs : List (List Int)) (s_u_outside_files_data : List (List Canon)) (s_u_outside_files_opens : List Opn) (s_u_outside_outputs : List Output) (s_u_period : Int) (s_u_misses : Int) (s_u_repairs : Int) (s_u_pages : Int) (s_u_least : Int) (s_u_wait : Int) (s_t_faults : List Fault) (s_t_hangs : List Hang) (s_t_crashes : List Crash) (s_l : List Choice) (r_kind : Int) (r_numbers : List Int) (before : Int) (hk : 0 ≤ r_kind ∧ r_kind ≤ 5) (hb : -1 ≤ before ∧ before ≤ 5) (hn : r_numbers.length ≤ 1000000) (h1 : s_t_faults.length ≤ 1000000 ∧ s_t_hangs.length ≤ 1000000 ∧ s_t_crashes.length ≤ 1000000 ∧ s_l.length ≤ 1000000) : mcall X [(0, 16, 77), (0, 17, 80), (0, 18, 82), (0, 19, 61)] 34 20 (.agg [.sl false (s_u_program_code.map Instr.enc), .sl false (s_u_program_sizes.map (V.int .i64)), .sl false (s_u_program_data.map encLU16), .sl false (s_u_seeds.map (V.int .i64)), .sl false (s_u_outside_clock.map (V.int .u16)), .sl false (s_u_outside_random.map (V.int .u16)), .sl false (s_u_outside_inputs.map encLU16), .sl false (s_u_outside_files_data.map encLCanon), .sl false (s_u_outside_files_opens.map Opn.enc), .sl false (s_u_outside_outputs.map Output.enc), .int .i64 s_u_period, .int .i64 s_u_misses, .int .i64 s_u_repairs, .int .i64 s_u_pages, .int .i64 s_u_least, .int .i64 s_u_wait, .sl false (s_t_faults.map Fault.enc), .sl false (s_t_hangs.map Hang.enc), .sl false (s_t_crashes.map Crash.enc), .sl false (s_l.map Choice.enc)]) [.agg [.int .i64 r_kind, .sl false (r_numbers.map (V.int .i64))], .int .i64 before] = some (20, .agg [.sl false (((addX (scenario.mk (Setup.mk (Prog.mk s_u_program_code s_u_program_sizes s_u_program_data) s_u_seeds (Outs.mk s_u_outside_clock s_u_outside_random s_u_outside_inputs (Files.mk s_u_outside_files_data s_u_outside_files_opens) s_u_outside_outputs) s_u_period s_u_misses s_u_repairs s_u_pages s_u_least s_u_wait) (Troubles.mk s_t_faults s_t_hangs s_t_crashes) s_l) (row.mk r_kind r_numbers) before).1).u.program.code.map Instr.enc), .sl false (((addX (scenario.mk (Setup.mk (Prog.mk s_u_program_code s_u_program_sizes s_u_program_data) s_u_seeds (Outs.mk s_u_outside_clock s_u_outside_random s_u_outside_inputs (Files.mk s_u_outside_files_data s_u_outside_files_opens) s_u_outside_outputs) s_u_period s_u_misses s_u_repairs s_u_pages s_u_least s_u_wait) (Troubles.mk s_t_faults s_t_hangs s_t_crashes) s_l) (row.mk r_kind r_numbers) before).1).u.program.sizes.map (V.int .i64)), .sl false (((addX (scenario.mk (Setup.mk (Prog.mk s_u_program_code s_u_program_sizes s_u_program_data) s_u_seeds (Outs.mk s_u_outside_clock s_u_outside_random s_u_outside_inputs (Files.mk s_u_outside_files_data s_u_outside_files_opens) s_u_outside_outputs) s_u_period s_u_misses s_u_repairs s_u_pages s_u_least s_u_wait) (Troubles.mk s_t_faults s_t_hangs s_t_crashes) s_l) (row.mk r_kind r_numbers) before).1).u.program.data.map encLU16), .sl false (((addX (scenario.mk (Setup.mk (Prog.mk s_u_program_code s_u_program_sizes s_u_program_data) s_u_seeds (Outs.mk s_u_outside_clock s_u_outside_random s_u_outside_inputs (Files.mk s_u_outside_files_data s_u_outside_files_opens) s_u_outside_outputs) s_u_period s_u_misses s_u_repairs s_u_pages s_u_least s_u_wait) (Troubles.mk s_t_faults s_t_hangs s_t_crashes) s_l) (row.mk r_kind r_numbers) before).1).u.seeds.map (V.int .i64)), .sl false (((addX (scenario.mk (Setup.mk (Prog.mk s_u_program_code s_u_program_sizes s_u_program_data) s_u_seeds (Outs.mk s_u_outside_clock s_u_outside_random s_u_outside_inputs (Files.mk s_u_outside_files_data s_u_outside_files_opens) s_u_outside_outputs) s_u_period s_u_misses s_u_repairs s_u_pages s_u_least s_u_wait) (Troubles.mk s_t_faults s_t_hangs s_t_crashes) s_l) (row.mk r_kind r_numbers) before).1).u.outside.clock.map (V.int .u16)), .sl false (((addX (scenario.mk (Setup.mk (Prog.mk s_u_program_code s_u_program_sizes s_u_program_data) s_u_seeds (Outs.mk s_u_outside_clock s_u_outside_random s_u_outside_inputs (Files.mk s_u_outside_files_data s_u_outside_files_opens) s_u_outside_outputs) s_u_period s_u_misses s_u_repairs s_u_pages s_u_least s_u_wait) (Troubles.mk s_t_faults s_t_hangs s_t_crashes) s_l) (row.mk r_kind r_numbers) before).1).u.outside.random.map (V.int .u16)), .sl false (((addX (scenario.mk (Setup.mk (Prog.mk s_u_program_code s_u_program_sizes s_u_program_data) s_u_seeds (Outs.mk s_u_outside_clock s_u_outside_random s_u_outside_inputs (Files.mk s_u_outside_files_data s_u_outside_files_opens) s_u_outside_outputs) s_u_period s_u_misses s_u_repairs s_u_pages s_u_least s_u_wait) (Troubles.mk s_t_faults s_t_hangs s_t_crashes) s_l) (row.mk r_kind r_numbers) before).1).u.outside.inputs.map encLU16), .sl false (((addX (scenario.mk (Setup.mk (Prog.mk s_u_program_code s_u_program_sizes s_u_program_data) s_u_seeds (Outs.mk s_u_outside_clock s_u_outside_random s_u_outside_inputs (Files.mk s_u_outside_files_data s_u_outside_files_opens) s_u_outside_outputs) s_u_period s_u_misses s_u_repairs s_u_pages s_u_least s_u_wait) (Troubles.mk s_t_faults s_t_hangs s_t_crashes) s_l) (row.mk r_kind r_numbers) before).1).u.outside.files.data.map encLCanon), .sl false (((addX (scenario.mk (Setup.mk (Prog.mk s_u_program_code s_u_program_sizes s_u_program_data) s_u_seeds (Outs.mk s_u_outside_clock s_u_outside_random s_u_outside_inputs (Files.mk s_u_outside_files_data s_u_outside_files_opens) s_u_outside_outputs) s_u_period s_u_misses s_u_repairs s_u_pages s_u_least s_u_wait) (Troubles.mk s_t_faults s_t_hangs s_t_crashes) s_l) (row.mk r_kind r_numbers) before).1).u.outside.files.opens.map Opn.enc), .sl false (((addX (scenario.mk (Setup.mk (Prog.mk s_u_program_code s_u_program_sizes s_u_program_data) s_u_seeds (Outs.mk s_u_outside_clock s_u_outside_random s_u_outside_inputs (Files.mk s_u_outside_files_data s_u_outside_files_opens) s_u_outside_outputs) s_u_period s_u_misses s_u_repairs s_u_pages s_u_least s_u_wait) (Troubles.mk s_t_faults s_t_hangs s_t_crashes) s_l) (row.mk r_kind r_numbers) before).1).u.outside.outputs.map Output.enc), .int .i64 ((addX (scenario.mk (Setup.mk (Prog.mk s_u_program_code s_u_program_sizes s_u_program_data) s_u_seeds (Outs.mk s_u_outside_clock s_u_outside_random s_u_outside_inputs (Files.mk s_u_outside_files_data s_u_outside_files_opens) s_u_outside_outputs) s_u_period s_u_misses s_u_repairs s_u_pages s_u_least s_u_wait) (Troubles.mk s_t_faults s_t_hangs s_t_crashes) s_l) (row.mk r_kind r_numbers) before).1).u.period, .int .i64 ((addX (scenario.mk (Setup.mk (Prog.mk s_u_program_code s_u_program_sizes s_u_program_data) s_u_seeds (Outs.mk s_u_outside_clock s_u_outside_random s_u_outside_inputs (Files.mk s_u_outside_files_data s_u_outside_files_opens) s_u_outside_outputs) s_u_period s_u_misses s_u_repairs s_u_pages s_u_least s_u_wait) (Troubles.mk s_t_faults s_t_hangs s_t_crashes) s_l) (row.mk r_kind r_numbers) before).1).u.misses, .int .i64 ((addX (scenario.mk (Setup.mk (Prog.mk s_u_program_code s_u_program_sizes s_u_program_data) s_u_seeds (Outs.mk s_u_outside_clock s_u_outside_random s_u_outside_inputs (Files.mk s_u_outside_files_data s_u_outside_files_opens) s_u_outside_outputs) s_u_period s_u_misses s_u_repairs s_u_pages s_u_least s_u_wait) (Troubles.mk s_t_faults s_t_hangs s_t_crashes) s_l) (row.mk r_kind r_numbers) before).1).u.repairs, .int .i64 ((addX (scenario.mk (Setup.mk (Prog.mk s_u_program_code s_u_program_sizes s_u_program_data) s_u_seeds (Outs.mk s_u_outside_clock s_u_outside_random s_u_outside_inputs (Files.mk s_u_outside_files_data s_u_outside_files_opens) s_u_outside_outputs) s_u_period s_u_misses s_u_repairs s_u_pages s_u_least s_u_wait) (Troubles.mk s_t_faults s_t_hangs s_t_crashes) s_l) (row.mk r_kind r_numbers) before).1).u.pages, .int .i64 ((addX (scenario.mk (Setup.mk (Prog.mk s_u_program_code s_u_program_sizes s_u_program_data) s_u_seeds (Outs.mk s_u_outside_clock s_u_outside_random s_u_outside_inputs (Files.mk s_u_outside_files_data s_u_outside_files_opens) s_u_outside_outputs) s_u_period s_u_misses s_u_repairs s_u_pages s_u_least s_u_wait) (Troubles.mk s_t_faults s_t_hangs s_t_crashes) s_l) (row.mk r_kind r_numbers) before).1).u.least, .int .i64 ((addX (scenario.mk (Setup.mk (Prog.mk s_u_program_code s_u_program_sizes s_u_program_data) s_u_seeds (Outs.mk s_u_outside_clock s_u_outside_random s_u_outside_inputs (Files.mk s_u_outside_files_data s_u_outside_files_opens) s_u_outside_outputs) s_u_period s_u_misses s_u_repairs s_u_pages s_u_least s_u_wait) (Troubles.mk s_t_faults s_t_hangs s_t_crashes) s_l) (row.mk r_kind r_numbers) before).1).u.wait, .sl false (((addX (scenario.mk (Setup.mk (Prog.mk s_u_program_code s_u_program_sizes s_u_program_data) s_u_seeds (Outs.mk s_u_outside_clock s_u_outside_random s_u_outside_inputs (Files.mk s_u_outside_files_data s_u_outside_files_opens) s_u_outside_outputs) s_u_period s_u_misses s_u_repairs s_u_pages s_u_least s_u_wait) (Troubles.mk s_t_faults s_t_hangs s_t_crashes) s_l) (row.mk r_kind r_numbers) before).1).t.faults.map Fault.enc), .sl false (((addX (scenario.mk (Setup.mk (Prog.mk s_u_program_code s_u_program_sizes s_u_program_data) s_u_seeds (Outs.mk s_u_outside_clock s_u_outside_random s_u_outside_inputs (Files.mk s_u_outside_files_data s_u_outside_files_opens) s_u_outside_outputs) s_u_period s_u_misses s_u_repairs s_u_pages s_u_least s_u_wait) (Troubles.mk s_t_faults s_t_hangs s_t_crashes) s_l) (row.mk r_kind r_numbers) before).1).t.hangs.map Hang.enc), .sl false (((addX (scenario.mk (Setup.mk (Prog.mk s_u_program_code s_u_program_sizes s_u_program_data) s_u_seeds (Outs.mk s_u_outside_clock s_u_outside_random s_u_outside_inputs (Files.mk s_u_outside_files_data s_u_outside_files_opens) s_u_outside_outputs) s_u_period s_u_misses s_u_repairs s_u_pages s_u_least s_u_wait) (Troubles.mk s_t_faults s_t_hangs s_t_crashes) s_l) (row.mk r_kind r_numbers) before).1).t.crashes.map Crash.enc), .sl false (((addX (scenario.mk (Setup.mk (Prog.mk s_u_program_code s_u_program_sizes s_u_program_data) s_u_seeds (Outs.mk s_u_outside_clock s_u_outside_random s_u_outside_inputs (Files.mk s_u_outside_files_data s_u_outside_files_opens) s_u_outside_outputs) s_u_period s_u_misses s_u_repairs s_u_pages s_u_least s_u_wait) (Troubles.mk s_t_faults s_t_hangs s_t_crashes) s_l) (row.mk r_kind r_numbers) before).1).l.map Choice.enc)], [.bool ((addX (scenario.mk (Setup.mk (Prog.mk s_u_program_code s_u_program_sizes s_u_program_data) s_u_seeds (Outs.mk s_u_outside_clock s_u_outside_random s_u_outside_inputs (Files.mk s_u_outside_files_data s_u_outside_files_opens) s_u_outside_outputs) s_u_period s_u_misses s_u_repairs s_u_pages s_u_least s_u_wait) (Troubles.mk s_t_faults s_t_hangs s_t_crashes) s_l) (row.mk r_kind r_numbers) before).2)], .bad) := by
  refine mcall_of Tryz.func34 rfl rfl ?_
  have w1 : IntKind.i64.wrap (before + 1) = before + 1 := wrap_i64 (by omega)
  have w00 : IntKind.i64.wrap 0 = 0 := by decide
  have w11 : IntKind.i64.wrap 1 = 1 := by decide
  have b1 : (s_t_faults.length + 1) * 48 ≤ 140737488355328 ∧ s_t_faults.length ≤ 4611686018427387903 := by omega
  have b2 : (s_t_hangs.length + 1) * 24 ≤ 140737488355328 ∧ s_t_hangs.length ≤ 4611686018427387903 := by omega
  have b3 : (s_t_crashes.length + 1) * 16 ≤ 140737488355328 ∧ s_t_crashes.length ≤ 4611686018427387903 := by omega
  have b4 : (s_l.length + 1) * 24 ≤ 140737488355328 ∧ s_l.length ≤ 4611686018427387903 := by omega
  have hod : orderB r_kind before = !(decide (r_kind < before) || (decide (before + 1 < r_kind) && decide (before < 1)) || (decide (r_kind = before) && decide (before ≤ 1))) := rfl
  have hA : (orderB r_kind before = false ∧ r_kind < before) ∨ (orderB r_kind before = false ∧ ¬ r_kind < before ∧ before + 1 < r_kind ∧ before < 1) ∨ (orderB r_kind before = false ∧ ¬ r_kind < before ∧ ¬ before + 1 < r_kind ∧ r_kind = before ∧ before ≤ 1) ∨ (orderB r_kind before = true ∧ ¬ r_kind < before) := by
    rw [hod]
    simp only [Bool.not_eq_false', Bool.not_eq_true', Bool.or_eq_true, Bool.or_eq_false_iff, Bool.and_eq_true, Bool.and_eq_false_iff, decide_eq_true_eq, decide_eq_false_iff_not]
    omega
  rcases hA with ⟨ho, q⟩ | ⟨ho, q⟩ | ⟨ho, q⟩ | ⟨ho, q⟩
  · simp (maxSteps := 10000000) (maxDischargeDepth := 30) (implicitDefEqProofs := false) [addX, ho, q, w1]
  · simp (maxSteps := 10000000) (maxDischargeDepth := 30) (implicitDefEqProofs := false) [addX, ho, q, w1]
  · obtain ⟨q1, q2, q3, q4⟩ := q
    subst q3
    simp (maxSteps := 10000000) (maxDischargeDepth := 30) (implicitDefEqProofs := false) [addX, ho, q1, q2, q4, w1]
  · rw [ho] at hod
    have hod := hod.symm
    simp only [Bool.not_eq_true', Bool.or_eq_false_iff, Bool.and_eq_false_iff, decide_eq_false_iff_not] at hod
    obtain ⟨⟨hod1, hod2⟩, hod3⟩ := hod
    have hB : (before + 1 < r_kind ∧ ¬ before < 1 ∧ ¬ r_kind = before ∧ ¬ r_kind < 1) ∨ (¬ before + 1 < r_kind ∧ ¬ r_kind = before) ∨ (¬ before + 1 < r_kind ∧ r_kind = before ∧ ¬ before ≤ 1) := by omega
    clear hod1 hod2 hod3
    have hkk : r_kind = 0 ∨ r_kind = 1 ∨ r_kind = 2 ∨ r_kind = 3 ∨ r_kind = 4 ∨ r_kind = 5 := by omega
    rcases hkk with rfl | rfl | rfl | rfl | rfl | rfl
    · have e : before = -1 := by omega
      subst e
      by_cases hl : r_numbers.length = 6
      · obtain ⟨n0, n1, n2, n3, n4, n5, rfl⟩ : ∃ n0 n1 n2 n3 n4 n5, r_numbers = [n0, n1, n2, n3, n4, n5] := by
          match r_numbers, hl with
          | [n0, n1, n2, n3, n4, n5], _ => exact ⟨n0, n1, n2, n3, n4, n5, rfl⟩
        have hf := fun h hj ha => c_fill6 0 10 73 20 n0 n1 n2 n3 n4 n5 [.sl false (s_u_program_code.map Instr.enc), .sl false (s_u_program_sizes.map (V.int .i64)), .sl false (s_u_program_data.map encLU16), .sl false (s_u_seeds.map (V.int .i64)), .sl false (s_u_outside_clock.map (V.int .u16)), .sl false (s_u_outside_random.map (V.int .u16)), .sl false (s_u_outside_inputs.map encLU16), .sl false (s_u_outside_files_data.map encLCanon), .sl false (s_u_outside_files_opens.map Opn.enc), .sl false (s_u_outside_outputs.map Output.enc), .int .i64 s_u_period, .int .i64 s_u_misses, .int .i64 s_u_repairs, .int .i64 s_u_pages, .int .i64 s_u_least, .int .i64 s_u_wait, .hdr 1 0 s_t_faults.length, .hdr 2 0 s_t_hangs.length, .hdr 3 0 s_t_crashes.length, .hdr 4 0 s_l.length] h 75 hj ha (by omega) (by omega) (by simp)
        simp only [splice, Nat.reduceAdd] at hf
        simp (maxSteps := 10000000) (maxDischargeDepth := 30) (implicitDefEqProofs := false) [addX, ho, fillSetup, c_setup, hf, w00]
      · have hl' : ¬ (6 : Int) = (r_numbers.length : Int) := by omega
        have hno := fun j h k => c_fill_no j 6 r_numbers h k hl'
        simp (maxSteps := 10000000) (maxDischargeDepth := 30) (implicitDefEqProofs := false) [addX, ho, hl, hno, c_setup, w00]
    · have e : before = 0 := by omega
      subst e
      by_cases hl : r_numbers.length = 0
      · have e : r_numbers = [] := List.eq_nil_of_length_eq_zero hl
        subst e
        simp (maxSteps := 10000000) (maxDischargeDepth := 30) (implicitDefEqProofs := false) [addX, ho, w11]
      · have hl' : 0 < r_numbers.length := by omega
        simp (maxSteps := 10000000) (maxDischargeDepth := 30) (implicitDefEqProofs := false) [addX, ho, hl, hl', w11]
    · have hw2 : IntKind.i64.wrap (2 + 1) = 2 + 1 := by decide
      by_cases hl : r_numbers.length = 6
      · obtain ⟨n0, n1, n2, n3, n4, n5, rfl⟩ : ∃ n0 n1 n2 n3 n4 n5, r_numbers = [n0, n1, n2, n3, n4, n5] := by
          match r_numbers, hl with
          | [n0, n1, n2, n3, n4, n5], _ => exact ⟨n0, n1, n2, n3, n4, n5, rfl⟩
        have hf := fun h hj ha => c_fill6 51 0 75 6 n0 n1 n2 n3 n4 n5 [.int .i64 0, .int .i64 0, .int .i64 0, .int .i64 0, .int .i64 0, .int .i64 0] h 77 hj ha (by omega) (by omega) (by simp)
        simp only [splice, Nat.reduceAdd, Nat.zero_add] at hf
        rcases hB with qB | qB | qB
        · simp (maxSteps := 10000000) (maxDischargeDepth := 30) (implicitDefEqProofs := false) [addX, qB, q, w1, ho, faultOf, hangOf, c_fault, hf, w00, b1, b2, b3, b4, h1, dullL_app, Fault.enc_eq, Hang.enc_eq]
        · simp (maxSteps := 10000000) (maxDischargeDepth := 30) (implicitDefEqProofs := false) [addX, qB, q, w1, ho, faultOf, hangOf, c_fault, hf, w00, b1, b2, b3, b4, h1, dullL_app, Fault.enc_eq, Hang.enc_eq]
        · obtain ⟨qB1, qB2, qB3⟩ := qB
          subst qB2
          simp (maxSteps := 10000000) (maxDischargeDepth := 30) (implicitDefEqProofs := false) [addX, ho, hw2, faultOf, hangOf, c_fault, hf, w00, b1, b2, b3, b4, h1, dullL_app, Fault.enc_eq, Hang.enc_eq]
      · have hl' : ¬ (6 : Int) = (r_numbers.length : Int) := by omega
        have hno := fun j h k => c_fill_no j 6 r_numbers h k hl'
        rcases hB with qB | qB | qB
        · simp (maxSteps := 10000000) (maxDischargeDepth := 30) (implicitDefEqProofs := false) [addX, qB, q, w1, ho, hl, hno, c_fault, w00, b1, b2, b3, b4, h1, dullL_app, Fault.enc_eq, Hang.enc_eq]
        · simp (maxSteps := 10000000) (maxDischargeDepth := 30) (implicitDefEqProofs := false) [addX, qB, q, w1, ho, hl, hno, c_fault, w00, b1, b2, b3, b4, h1, dullL_app, Fault.enc_eq, Hang.enc_eq]
        · obtain ⟨qB1, qB2, qB3⟩ := qB
          subst qB2
          simp (maxSteps := 10000000) (maxDischargeDepth := 30) (implicitDefEqProofs := false) [addX, ho, hw2, hl, hno, c_fault, w00, b1, b2, b3, b4, h1, dullL_app, Fault.enc_eq, Hang.enc_eq]
    · have hw2 : IntKind.i64.wrap (3 + 1) = 3 + 1 := by decide
      by_cases hl : r_numbers.length = 3
      · obtain ⟨n0, n1, n2, rfl⟩ : ∃ n0 n1 n2, r_numbers = [n0, n1, n2] := by
          match r_numbers, hl with
          | [n0, n1, n2], _ => exact ⟨n0, n1, n2, rfl⟩
        have hf := fun h hj ha => c_fill3 53 0 57 3 n0 n1 n2 [.int .i64 0, .int .i64 0, .int .i64 0] h 61 hj ha (by omega) (by omega) (by simp)
        simp only [splice, Nat.reduceAdd, Nat.zero_add] at hf
        rcases hB with qB | qB | qB
        · simp (maxSteps := 10000000) (maxDischargeDepth := 30) (implicitDefEqProofs := false) [addX, qB, q, w1, ho, faultOf, hangOf, c_fault, hf, w00, b1, b2, b3, b4, h1, dullL_app, Fault.enc_eq, Hang.enc_eq]
        · simp (maxSteps := 10000000) (maxDischargeDepth := 30) (implicitDefEqProofs := false) [addX, qB, q, w1, ho, faultOf, hangOf, c_fault, hf, w00, b1, b2, b3, b4, h1, dullL_app, Fault.enc_eq, Hang.enc_eq]
        · obtain ⟨qB1, qB2, qB3⟩ := qB
          subst qB2
          simp (maxSteps := 10000000) (maxDischargeDepth := 30) (implicitDefEqProofs := false) [addX, ho, hw2, faultOf, hangOf, c_fault, hf, w00, b1, b2, b3, b4, h1, dullL_app, Fault.enc_eq, Hang.enc_eq]
      · have hl' : ¬ (3 : Int) = (r_numbers.length : Int) := by omega
        have hno := fun j h k => c_fill_no j 3 r_numbers h k hl'
        rcases hB with qB | qB | qB
        · simp (maxSteps := 10000000) (maxDischargeDepth := 30) (implicitDefEqProofs := false) [addX, qB, q, w1, ho, hl, hno, c_fault, w00, b1, b2, b3, b4, h1, dullL_app, Fault.enc_eq, Hang.enc_eq]
        · simp (maxSteps := 10000000) (maxDischargeDepth := 30) (implicitDefEqProofs := false) [addX, qB, q, w1, ho, hl, hno, c_fault, w00, b1, b2, b3, b4, h1, dullL_app, Fault.enc_eq, Hang.enc_eq]
        · obtain ⟨qB1, qB2, qB3⟩ := qB
          subst qB2
          simp (maxSteps := 10000000) (maxDischargeDepth := 30) (implicitDefEqProofs := false) [addX, ho, hw2, hl, hno, c_fault, w00, b1, b2, b3, b4, h1, dullL_app, Fault.enc_eq, Hang.enc_eq]
    · have hw2 : IntKind.i64.wrap (4 + 1) = 4 + 1 := by decide
      by_cases hl : r_numbers.length = 2
      · obtain ⟨n0, n1, rfl⟩ : ∃ n0 n1, r_numbers = [n0, n1] := by
          match r_numbers, hl with
          | [n0, n1], _ => exact ⟨n0, n1, rfl⟩
        have hcl : ∀ h k, h 38 = some ⟨1, [.sl false [.int .i64 n0, .int .i64 n1]], true⟩ → h 37 = some ⟨1, [.int .i64 2], true⟩ → callL X 60 [.ptr 38 0 0, .ptr 37 0 0] h k = some (.bool (decide (n1 = 0) || decide (n1 = 1)), h, k + 16) := fun h k ha hb => c_last 38 37 1 k [n0, n1] n1 h ha hb (by omega) rfl
        have hX : (n1 = 0 ∧ ¬ n1 = 1) ∨ (¬ n1 = 0 ∧ n1 = 1) ∨ (¬ n1 = 0 ∧ ¬ n1 = 1) := by omega
        rcases hX with ⟨hx0, hx1⟩ | ⟨hx0, hx1⟩ | hX
        · subst hx0
          rcases hB with qB | qB | qB
          · simp (maxSteps := 10000000) (maxDischargeDepth := 30) (implicitDefEqProofs := false) [addX, qB, q, w1, ho, hcl, last01, crashOf, choiceOf, w00, b1, b2, b3, b4, h1, dullL_app, Crash.enc_eq, Choice.enc_eq]
          · simp (maxSteps := 10000000) (maxDischargeDepth := 30) (implicitDefEqProofs := false) [addX, qB, q, w1, ho, hcl, last01, crashOf, choiceOf, w00, b1, b2, b3, b4, h1, dullL_app, Crash.enc_eq, Choice.enc_eq]
          · obtain ⟨qB1, qB2, qB3⟩ := qB
            subst qB2
            simp (maxSteps := 10000000) (maxDischargeDepth := 30) (implicitDefEqProofs := false) [addX, ho, hw2, hcl, last01, crashOf, choiceOf, w00, b1, b2, b3, b4, h1, dullL_app, Crash.enc_eq, Choice.enc_eq]
        · subst hx1
          rcases hB with qB | qB | qB
          · simp (maxSteps := 10000000) (maxDischargeDepth := 30) (implicitDefEqProofs := false) [addX, qB, q, w1, ho, hcl, last01, crashOf, choiceOf, w00, b1, b2, b3, b4, h1, dullL_app, Crash.enc_eq, Choice.enc_eq]
          · simp (maxSteps := 10000000) (maxDischargeDepth := 30) (implicitDefEqProofs := false) [addX, qB, q, w1, ho, hcl, last01, crashOf, choiceOf, w00, b1, b2, b3, b4, h1, dullL_app, Crash.enc_eq, Choice.enc_eq]
          · obtain ⟨qB1, qB2, qB3⟩ := qB
            subst qB2
            simp (maxSteps := 10000000) (maxDischargeDepth := 30) (implicitDefEqProofs := false) [addX, ho, hw2, hcl, last01, crashOf, choiceOf, w00, b1, b2, b3, b4, h1, dullL_app, Crash.enc_eq, Choice.enc_eq]
        · skip
          rcases hB with qB | qB | qB
          · simp (maxSteps := 10000000) (maxDischargeDepth := 30) (implicitDefEqProofs := false) [addX, qB, q, w1, ho, hX, hcl, last01, crashOf, choiceOf, w00, b1, b2, b3, b4, h1, dullL_app, Crash.enc_eq, Choice.enc_eq]
          · simp (maxSteps := 10000000) (maxDischargeDepth := 30) (implicitDefEqProofs := false) [addX, qB, q, w1, ho, hX, hcl, last01, crashOf, choiceOf, w00, b1, b2, b3, b4, h1, dullL_app, Crash.enc_eq, Choice.enc_eq]
          · obtain ⟨qB1, qB2, qB3⟩ := qB
            subst qB2
            simp (maxSteps := 10000000) (maxDischargeDepth := 30) (implicitDefEqProofs := false) [addX, ho, hw2, hX, hcl, last01, crashOf, choiceOf, w00, b1, b2, b3, b4, h1, dullL_app, Crash.enc_eq, Choice.enc_eq]
      · have hl' : ¬ (r_numbers.length : Int) = 2 := by omega
        rcases hB with qB | qB | qB
        · simp (maxSteps := 10000000) (maxDischargeDepth := 30) (implicitDefEqProofs := false) [addX, qB, q, w1, ho, hl, hl', w00, b1, b2, b3, b4, h1]
        · simp (maxSteps := 10000000) (maxDischargeDepth := 30) (implicitDefEqProofs := false) [addX, qB, q, w1, ho, hl, hl', w00, b1, b2, b3, b4, h1]
        · obtain ⟨qB1, qB2, qB3⟩ := qB
          subst qB2
          simp (maxSteps := 10000000) (maxDischargeDepth := 30) (implicitDefEqProofs := false) [addX, ho, hw2, hl, hl', w00, b1, b2, b3, b4, h1]
    · have hw2 : IntKind.i64.wrap (5 + 1) = 5 + 1 := by decide
      by_cases hl : r_numbers.length = 3
      · obtain ⟨n0, n1, n2, rfl⟩ : ∃ n0 n1 n2, r_numbers = [n0, n1, n2] := by
          match r_numbers, hl with
          | [n0, n1, n2], _ => exact ⟨n0, n1, n2, rfl⟩
        have hcl : ∀ h k, h 38 = some ⟨1, [.sl false [.int .i64 n0, .int .i64 n1, .int .i64 n2]], true⟩ → h 37 = some ⟨1, [.int .i64 3], true⟩ → callL X 60 [.ptr 38 0 0, .ptr 37 0 0] h k = some (.bool (decide (n2 = 0) || decide (n2 = 1)), h, k + 16) := fun h k ha hb => c_last 38 37 2 k [n0, n1, n2] n2 h ha hb (by omega) rfl
        have hX : (n2 = 0 ∧ ¬ n2 = 1) ∨ (¬ n2 = 0 ∧ n2 = 1) ∨ (¬ n2 = 0 ∧ ¬ n2 = 1) := by omega
        rcases hX with ⟨hx0, hx1⟩ | ⟨hx0, hx1⟩ | hX
        · subst hx0
          rcases hB with qB | qB | qB
          · simp (maxSteps := 10000000) (maxDischargeDepth := 30) (implicitDefEqProofs := false) [addX, qB, q, w1, ho, hcl, last01, crashOf, choiceOf, w00, b1, b2, b3, b4, h1, dullL_app, Crash.enc_eq, Choice.enc_eq]
          · simp (maxSteps := 10000000) (maxDischargeDepth := 30) (implicitDefEqProofs := false) [addX, qB, q, w1, ho, hcl, last01, crashOf, choiceOf, w00, b1, b2, b3, b4, h1, dullL_app, Crash.enc_eq, Choice.enc_eq]
          · obtain ⟨qB1, qB2, qB3⟩ := qB
            subst qB2
            simp (maxSteps := 10000000) (maxDischargeDepth := 30) (implicitDefEqProofs := false) [addX, ho, hw2, hcl, last01, crashOf, choiceOf, w00, b1, b2, b3, b4, h1, dullL_app, Crash.enc_eq, Choice.enc_eq]
        · subst hx1
          rcases hB with qB | qB | qB
          · simp (maxSteps := 10000000) (maxDischargeDepth := 30) (implicitDefEqProofs := false) [addX, qB, q, w1, ho, hcl, last01, crashOf, choiceOf, w00, b1, b2, b3, b4, h1, dullL_app, Crash.enc_eq, Choice.enc_eq]
          · simp (maxSteps := 10000000) (maxDischargeDepth := 30) (implicitDefEqProofs := false) [addX, qB, q, w1, ho, hcl, last01, crashOf, choiceOf, w00, b1, b2, b3, b4, h1, dullL_app, Crash.enc_eq, Choice.enc_eq]
          · obtain ⟨qB1, qB2, qB3⟩ := qB
            subst qB2
            simp (maxSteps := 10000000) (maxDischargeDepth := 30) (implicitDefEqProofs := false) [addX, ho, hw2, hcl, last01, crashOf, choiceOf, w00, b1, b2, b3, b4, h1, dullL_app, Crash.enc_eq, Choice.enc_eq]
        · skip
          rcases hB with qB | qB | qB
          · simp (maxSteps := 10000000) (maxDischargeDepth := 30) (implicitDefEqProofs := false) [addX, qB, q, w1, ho, hX, hcl, last01, crashOf, choiceOf, w00, b1, b2, b3, b4, h1, dullL_app, Crash.enc_eq, Choice.enc_eq]
          · simp (maxSteps := 10000000) (maxDischargeDepth := 30) (implicitDefEqProofs := false) [addX, qB, q, w1, ho, hX, hcl, last01, crashOf, choiceOf, w00, b1, b2, b3, b4, h1, dullL_app, Crash.enc_eq, Choice.enc_eq]
          · obtain ⟨qB1, qB2, qB3⟩ := qB
            subst qB2
            simp (maxSteps := 10000000) (maxDischargeDepth := 30) (implicitDefEqProofs := false) [addX, ho, hw2, hX, hcl, last01, crashOf, choiceOf, w00, b1, b2, b3, b4, h1, dullL_app, Crash.enc_eq, Choice.enc_eq]
      · have hl' : ¬ (r_numbers.length : Int) = 3 := by omega
        rcases hB with qB | qB | qB
        · simp (maxSteps := 10000000) (maxDischargeDepth := 30) (implicitDefEqProofs := false) [addX, qB, q, w1, ho, hl, hl', w00, b1, b2, b3, b4, h1]
        · simp (maxSteps := 10000000) (maxDischargeDepth := 30) (implicitDefEqProofs := false) [addX, qB, q, w1, ho, hl, hl', w00, b1, b2, b3, b4, h1]
        · obtain ⟨qB1, qB2, qB3⟩ := qB
          subst qB2
          simp (maxSteps := 10000000) (maxDischargeDepth := 30) (implicitDefEqProofs := false) [addX, ho, hw2, hl, hl', w00, b1, b2, b3, b4, h1]
end Go.Proofs.YtcfmnogghcjdaaaGreatDoor
