/- Part of a proof: S12, S13, S14, S15, S16, S17. -/
import Derived.Test.YtcfmnogghcjdaaaDoorM11
set_option linter.all false
set_option maxRecDepth 100000
set_option maxHeartbeats 20000000
namespace Go.Proofs.YtcfmnogghcjdaaaDoor
open Go Go.Abs Go.Abs.Api
theorem idx_at {s : List Str} {v : Str} {i : Nat} (h : i < s.length) (hn : v ∉ s.take i) (he : v = s[i]) : (if v ∈ s then ((s.idxOf v : Nat) : Int) else -1) = i := by
  have hm : v ∈ s := by rw [he]; exact List.getElem_mem h
  rw [if_pos hm]
  have e : s.idxOf v = i := by
    conv => lhs; rw [← List.take_append_drop i s]
    rw [List.idxOf_append, if_neg hn, List.drop_eq_getElem_cons h, he, List.idxOf_cons_self, List.length_take]
    omega
  rw [e]
@[simp] theorem f_index (s : List (List UInt8)) (v : List UInt8) (hl : s.length ≤ 1000000) : pcall X 44 [.sl false (s.map V.str), .str v] = some (.int .i64 (if v ∈ s then ((s.idxOf v : Nat) : Int) else -1)) := by
  refine pcall_of Tryd.func44 rfl rfl ?_
  simp (maxSteps := 10000000) (maxDischargeDepth := 30) (implicitDefEqProofs := false) []
  refine Wp_up (fun i S => (S.f 0 = .sl false (s.map V.str) ∧ S.f 1 = .str v ∧ S.f 7 = .int .i64 ((s).length : Int) ∧ S.f 8 = .int .i64 (i : Int) ∧ S.n = 1100) ∧ (v ∉ s.take i)) (s.length) ?_ 0 (by simp) ?_
  · rintro i S hii ⟨hI0, hP0⟩
    have hwi : IntKind.i64.wrap ((i : Int) + 1) = (i : Int) + 1 := wrap_i64 (by omega)
    by_cases hlti : i < s.length
    · by_cases hv : v = s[i]
      · have e := idx_at hlti hP0 hv
        rw [e]
        simp (maxSteps := 10000000) (maxDischargeDepth := 30) (implicitDefEqProofs := false) [hI0, hii, hwi, hlti, hv]
      · simp (maxSteps := 10000000) (maxDischargeDepth := 30) (implicitDefEqProofs := false) [hI0, hii, hwi, hlti, hv]
        rw [take_snoc hlti]
        simp only [List.mem_append, List.mem_singleton]
        rintro (h | h)
        · exact hP0 h
        · exact hv h
    · have hei : s.length = i := by omega
      subst hei
      rw [List.take_length] at hP0
      rw [if_neg hP0]
      simp (maxSteps := 10000000) (maxDischargeDepth := 30) (implicitDefEqProofs := false) [hI0, hii, hwi, hlti]
  · simp (maxSteps := 10000000) (maxDischargeDepth := 30) (implicitDefEqProofs := false) [] <;> (
      simp)
@[simp] theorem p_split (s : Str) (c : UInt8) (h : s.length ≤ 1000000000) : pcall X 24 [.str s, .str [c]] = some (.sl false ((cutL c s).map V.str)) :=
  pcall_prim (pr := splitP) (v := .sl false ((cutL c s).map V.str)) rfl (by simp [splitP, mkPrim, splitRun, split_one]; omega) (by simp [V.dull])
theorem p_atoi (s : Str) (h : s.length ≤ 1000000000) : pcall X 45 [.str s] = some (match Lib.atoiAll s with
    | .ok v => .tup [.int .i64 v, .ifc false]
    | .range => .tup [.int .i64 (Lib.atoiSat s), .ifc true]
    | _ => .tup [.int .i64 0, .ifc true]) := by
  refine pcall_prim (pr := atoiP) (v := match Lib.atoiAll s with
    | .ok v => .tup [.int .i64 v, .ifc false]
    | .range => .tup [.int .i64 (Lib.atoiSat s), .ifc true]
    | _ => .tup [.int .i64 0, .ifc true]) rfl ?_ ?_
  · simp only [atoiP, mkPrim, atoiRun]
    rw [if_pos (by omega)]
    cases Lib.atoiAll s <;> rfl
  · cases Lib.atoiAll s <;> rfl
theorem len_le_sum : ∀ {l : List Nat} {n : Nat}, n ∈ l → n ≤ l.sum
  | a :: l, n, h => by
    simp only [List.mem_cons] at h
    simp only [List.sum_cons]
    rcases h with rfl | h
    · omega
    · have := len_le_sum h; omega
theorem atoi_range {s : Str} {v : Int} (h : Lib.atoiAll s = .ok v) : -9223372036854775808 ≤ v ∧ v ≤ 9223372036854775807 := by
  unfold Lib.atoiAll at h
  split at h
  · cases h
  · simp only at h
    split at h
    · cases h
    · cases h
    · split at h
      · cases h
      · split at h
        · cases h
        · rename_i a b
          injection h with h
          subst h
          split <;> omega
@[simp] theorem f_text_read (s : List UInt8) (hl : s.length ≤ 1000000) : pcall X 25 [.str s] = some (.tup [.agg [.int .i64 ((((readM s).getD ⟨0, []⟩) : row)).kind, .sl false (((((readM s).getD ⟨0, []⟩) : row)).numbers.map (V.int .i64))], .bool ((readM s).isSome)]) := by
  refine pcall_of Tryd.func25 rfl rfl ?_
  obtain ⟨w, L, hwl⟩ := List.exists_cons_of_ne_nil (cutL_ne 32 s)
  have hs := p_split s 32 (by omega)
  rw [hwl] at hs
  have hll := cutL_len 32 s
  rw [hwl] at hll
  simp only [List.length_cons] at hll
  have hpc : ∀ x ∈ L, x.length ≤ 1000000 := by
    intro x hx
    have e := join_cutL hwl
    have : (32 :: x).length ≤ ((L.map fun x => 32 :: x).flatten).length := by
      rw [List.length_flatten]
      exact len_le_sum (List.mem_map.2 ⟨32 :: x, List.mem_map.2 ⟨x, hx, rfl⟩, rfl⟩)
    rw [← e] at hl
    simp at hl this
    omega
  have hix := f_index wordsL w (by simp [wordsL])
  have hkd : (if w ∈ wordsL then ((wordsL.idxOf w : Nat) : Int) else -1) = kindIx w := rfl
  rw [hkd] at hix
  have hix' : pcall X 44 [.sl false [V.str wSetup, V.str wSeeds, V.str wFault, V.str wHang, V.str wCrash, V.str wChoice], .str w] = some (.int .i64 (kindIx w)) := hix
  unfold wSetup wSeeds wFault wHang wCrash wChoice at hix'
  have hkr := kindIx_range w
  have hrd := readM_eq hwl
  have hln := line_eq hwl
  have hvl : valuesM s = L.map valM := by simp [valuesM, hwl]
  rw [hvl] at hrd
  by_cases hk : kindIx w < 0
  · rw [if_pos hk] at hrd
    rw [hrd]
    generalize kindIx w = k at *
    simp (maxSteps := 10000000) (maxDischargeDepth := 30) (implicitDefEqProofs := false) [hs, hix', hk, -p_split, -f_index, wordsL, wSetup, wSeeds, wFault, wHang, wCrash, wChoice]
  · rw [if_neg hk] at hrd
    have hb1 : (1 : Int) ≤ (L.length : Int) + 1 := by omega
    generalize kindIx w = k at *
    simp (maxSteps := 10000000) (maxDischargeDepth := 30) (implicitDefEqProofs := false) [hb1, hs, hix', hk, -p_split, -f_index, wordsL, wSetup, wSeeds, wFault, wHang, wCrash, wChoice]
    refine Wp_up (fun i S => (S.f 2 = .ptr 2 0 0 ∧ S.h 2 = some ⟨2, [.agg [.int .i64 0, .sl false (([] : List Int).map (V.int .i64))]], true⟩ ∧ S.f 6 = .ptr 6 0 0 ∧ S.h 1000 = some ⟨1, (⟨k, (L.take i).map valM⟩ : row).numbers.map (V.int .i64), false⟩ ∧ S.h 6 = some ⟨2, [.agg [.int .i64 (⟨k, (L.take i).map valM⟩ : row).kind, .hdr 1000 0 ((⟨k, (L.take i).map valM⟩ : row).numbers.map (V.int .i64)).length]], true⟩ ∧ S.f 25 = .sl false (L.map V.str) ∧ S.f 26 = .int .i64 ((L.length : Int)) ∧ S.f 27 = .int .i64 (i : Int) ∧ S.n = 1101) ∧ (L.take i = (L.take i).map fun w => num (valM w))) (L.length) ?_ 0 (by simp) ?_
    · rintro i S hii ⟨hI0, hP0⟩
      have hwi : IntKind.i64.wrap ((i : Int) + 1) = (i : Int) + 1 := wrap_i64 (by omega)
      by_cases hlti : i < L.length
      · have hp := p_atoi L[i] (by have := hpc _ (List.getElem_mem hlti); omega)
        have hno := numOf_eq L[i]
        have hsn : L.take (i + 1) = L.take i ++ [L[i]] := take_snoc hlti
        have bad : ¬ L[i] = num (valM L[i]) → readM s = none := by
          intro h
          rw [hrd, if_neg]
          intro e
          have e2 := hln.1 e
          have e3 := congrArg (fun l => l[i]?) e2
          simp [hlti] at e3
          exact h e3
        have hok := valM_ok L[i]
        have hb1 : (i + 1) * 8 ≤ 140737488355328 := by omega
        have hb2 : i ≤ 4611686018427387903 := by omega
        unfold numOf at hno
        generalize hx : L[i] = x at *
        cases ha : Lib.atoiAll x
        · rename_i v
          have hvr := atoi_range ha
          have hvr1 := hvr.1
          have hvr2 := hvr.2
          rw [ha] at hp hno
          simp only at hp hno
          by_cases hw : x = num (valM x)
          · rw [if_pos hw] at hno
            by_cases hc : Lib.itoa v = x ∧ okN v = true
            · rw [if_pos hc] at hno
              injection hno with hno
              obtain ⟨hc1, hc2⟩ := hc
              have hi : (Lib.itoa v == x) = true := by simp [hc1]
              simp (maxSteps := 10000000) (maxDischargeDepth := 30) (implicitDefEqProofs := false) [hI0, hii, hwi, hlti, hp, hx, hvr1, hvr2, hc1, hc2, hb1, hb2]
              refine ⟨⟨?_, by omega⟩, ?_⟩
              · rw [List.take_of_length_le (l := List.take i _) (by simp; omega), List.take_add_one (i := i)]
                simp [hlti, hx, hno]
              · have e := hP0
                rw [List.map_take] at e
                rw [List.take_add_one, List.take_add_one, ← e]
                congr 1
                simp only [List.getElem?_map, List.getElem?_eq_getElem hlti, Option.map_some, Option.toList_some, hx, ← hw]
            · rw [if_neg hc] at hno; cases hno
          · rw [if_neg hw] at hno
            by_cases hc : Lib.itoa v = x ∧ okN v = true
            · rw [if_pos hc] at hno; cases hno
            · rw [bad hw]
              by_cases hi : Lib.itoa v = x
              · have ho : okN v = false := by
                  cases h : okN v with
                  | false => rfl
                  | true => exact absurd ⟨hi, h⟩ hc
                simp (maxSteps := 10000000) (maxDischargeDepth := 30) (implicitDefEqProofs := false) [hI0, hii, hwi, hlti, hp, hx, hvr1, hvr2, hi, ho]
              · have hi' : (Lib.itoa v == x) = false := by simp [hi]
                simp (maxSteps := 10000000) (maxDischargeDepth := 30) (implicitDefEqProofs := false) [hI0, hii, hwi, hlti, hp, hx, hvr1, hvr2, hi']
        · rw [ha] at hp hno
          by_cases hw : x = num (valM x)
          · rw [if_pos hw] at hno; cases hno
          · rw [bad hw]
            simp (maxSteps := 10000000) (maxDischargeDepth := 30) (implicitDefEqProofs := false) [hI0, hii, hwi, hlti, hp, hx]
        · rw [ha] at hp hno
          by_cases hw : x = num (valM x)
          · rw [if_pos hw] at hno; cases hno
          · rw [bad hw]
            simp (maxSteps := 10000000) (maxDischargeDepth := 30) (implicitDefEqProofs := false) [hI0, hii, hwi, hlti, hp, hx]
      · have hei : L.length = i := by omega
        subst hei
        rw [List.take_length] at hP0
        have e : readM s = some ⟨k, L.map valM⟩ := by
          rw [hrd, if_pos (hln.2 hP0)]
        rw [e]
        simp (maxSteps := 10000000) (maxDischargeDepth := 30) (implicitDefEqProofs := false) [hI0, hii, hwi, hlti]
        exact dullL_map (fun _ => rfl) _
    · simp (maxSteps := 10000000) (maxDischargeDepth := 30) (implicitDefEqProofs := false) []
end Go.Proofs.YtcfmnogghcjdaaaDoor
namespace Go.Proofs.YtcfmnogghcjdaaaDoor
open Go Go.Abs Go.Abs.Api
theorem upd_upd {α : Type} (f : Nat → α) (a : Nat) (u v : α) : upd (upd f a u) a v = upd f a v := by
  funext x; simp only [upd_apply]; split <;> rfl
theorem c_fill_no (j q : Nat) (ns : List Int) (h : Heap) (k : Nat) (hq : ¬ (q : Int) = (ns.length : Int)) : callL X 47 [.hdr j 0 q, .sl false (ns.map (V.int .i64))] h k = some (.bool false, h, k + 7) := by
  obtain ⟨v, h', n', e1, e2, e3, e4⟩ := callL_of (X := X) (g := 47) (args := [.hdr j 0 q, .sl false (ns.map (V.int .i64))]) (h := h) (k := k) (K := fun v h' n' => v = .bool false ∧ h' = h ∧ n' = k + 7) Tryd.func47 rfl rfl (by
    simp (maxSteps := 10000000) (maxDischargeDepth := 30) (implicitDefEqProofs := false) [Nat.add_assoc, hq])
  rw [e1, e2, e3, e4]
theorem c_fill6 (a f j kk : Nat) (x0 x1 x2 x3 x4 x5 : Int) (cs : List V) (h : Heap) (k : Nat) (hj : h j = some ⟨1, [.ptr a 0 f, .ptr a 0 (f + 1), .ptr a 0 (f + 2), .ptr a 0 (f + 3), .ptr a 0 (f + 4), .ptr a 0 (f + 5)], true⟩) (ha : h a = some ⟨kk, [.agg cs], true⟩) (haj : ¬ a = j) (hjk : j < k ∧ a < k) (hf : f + 6 ≤ cs.length) : callL X 47 [.hdr j 0 6, .sl false [.int .i64 x0, .int .i64 x1, .int .i64 x2, .int .i64 x3, .int .i64 x4, .int .i64 x5]] h k = some (.bool true, upd h a (some ⟨kk, [.agg (splice (f + 5) [.int .i64 x5] (splice (f + 4) [.int .i64 x4] (splice (f + 3) [.int .i64 x3] (splice (f + 2) [.int .i64 x2] (splice (f + 1) [.int .i64 x1] (splice f [.int .i64 x0] cs))))))], true⟩), k + 101) := by
  have j0 : ∀ n, (j = k + n) = False := fun n => by simp; omega
  have a0 : ∀ n, (a = k + n) = False := fun n => by simp; omega
  have jk : (j = k) = False := by simp; omega
  have ak : (a = k) = False := by simp; omega
  have aj : (j = a) = False := by simp; omega
  have w1 : IntKind.i64.wrap 1 = 1 := by decide
  have w2 : IntKind.i64.wrap 2 = 2 := by decide
  have w3 : IntKind.i64.wrap 3 = 3 := by decide
  have w4 : IntKind.i64.wrap 4 = 4 := by decide
  have w5 : IntKind.i64.wrap 5 = 5 := by decide
  have w6 : IntKind.i64.wrap 6 = 6 := by decide
  have g1 : f + 1 ≤ cs.length := by omega
  have g2 : f + 2 ≤ cs.length := by omega
  have g3 : f + 3 ≤ cs.length := by omega
  have g4 : f + 4 ≤ cs.length := by omega
  have g5 : f + 5 ≤ cs.length := by omega
  obtain ⟨v, h', n', e1, e2, e3, e4⟩ := callL_of (X := X) (g := 47) (args := [.hdr j 0 6, .sl false [.int .i64 x0, .int .i64 x1, .int .i64 x2, .int .i64 x3, .int .i64 x4, .int .i64 x5]]) (h := h) (k := k) (K := fun v h' n' => v = .bool true ∧ h' = upd h a (some ⟨kk, [.agg (splice (f + 5) [.int .i64 x5] (splice (f + 4) [.int .i64 x4] (splice (f + 3) [.int .i64 x3] (splice (f + 2) [.int .i64 x2] (splice (f + 1) [.int .i64 x1] (splice f [.int .i64 x0] cs))))))], true⟩) ∧ n' = k + 101) Tryd.func47 rfl rfl (by
    simp (maxSteps := 10000000) (maxDischargeDepth := 30) (implicitDefEqProofs := false) [Wp_unroll, splice_length, upd_upd, hj, ha, haj, aj, g1, g2, g3, g4, g5, hf, Nat.add_assoc, j0, a0, jk, ak, w1, w2, w3, w4, w5, w6])
  rw [e1, e2, e3, e4]
theorem c_fill3 (a f j kk : Nat) (x0 x1 x2 : Int) (cs : List V) (h : Heap) (k : Nat) (hj : h j = some ⟨1, [.ptr a 0 f, .ptr a 0 (f + 1), .ptr a 0 (f + 2)], true⟩) (ha : h a = some ⟨kk, [.agg cs], true⟩) (haj : ¬ a = j) (hjk : j < k ∧ a < k) (hf : f + 3 ≤ cs.length) : callL X 47 [.hdr j 0 3, .sl false [.int .i64 x0, .int .i64 x1, .int .i64 x2]] h k = some (.bool true, upd h a (some ⟨kk, [.agg (splice (f + 2) [.int .i64 x2] (splice (f + 1) [.int .i64 x1] (splice f [.int .i64 x0] cs)))], true⟩), k + 56) := by
  have j0 : ∀ n, (j = k + n) = False := fun n => by simp; omega
  have a0 : ∀ n, (a = k + n) = False := fun n => by simp; omega
  have jk : (j = k) = False := by simp; omega
  have ak : (a = k) = False := by simp; omega
  have aj : (j = a) = False := by simp; omega
  have w1 : IntKind.i64.wrap 1 = 1 := by decide
  have w2 : IntKind.i64.wrap 2 = 2 := by decide
  have w3 : IntKind.i64.wrap 3 = 3 := by decide
  have g1 : f + 1 ≤ cs.length := by omega
  have g2 : f + 2 ≤ cs.length := by omega
  obtain ⟨v, h', n', e1, e2, e3, e4⟩ := callL_of (X := X) (g := 47) (args := [.hdr j 0 3, .sl false [.int .i64 x0, .int .i64 x1, .int .i64 x2]]) (h := h) (k := k) (K := fun v h' n' => v = .bool true ∧ h' = upd h a (some ⟨kk, [.agg (splice (f + 2) [.int .i64 x2] (splice (f + 1) [.int .i64 x1] (splice f [.int .i64 x0] cs)))], true⟩) ∧ n' = k + 56) Tryd.func47 rfl rfl (by
    simp (maxSteps := 10000000) (maxDischargeDepth := 30) (implicitDefEqProofs := false) [Wp_unroll, splice_length, upd_upd, hj, ha, haj, aj, g1, g2, hf, Nat.add_assoc, j0, a0, jk, ak, w1, w2, w3])
  rw [e1, e2, e3, e4]
theorem c_last (a b m k : Nat) (ns : List Int) (x : Int) (h : Heap) (ha : h a = some ⟨1, [.sl false (ns.map (V.int .i64))], true⟩) (hb : h b = some ⟨1, [.int .i64 ((m : Int) + 1)], true⟩) (hm : m ≤ 1000000) (hx : ns[m]? = some x) : callL X 46 [.ptr a 0 0, .ptr b 0 0] h k = some (.bool (decide (x = 0) || decide (x = 1)), h, k + 16) := by
  have hw : IntKind.i64.wrap (m : Int) = m := wrap_i64 (by omega)
  have hlt : m < ns.length := (List.getElem?_eq_some_iff.1 hx).1
  have hlt' : (m : Int) < ns.length := by omega
  have hx : ns[m] = x := by rw [List.getElem?_eq_getElem hlt] at hx; exact Option.some.inj hx
  obtain ⟨v, h', n', e1, e2, e3, e4⟩ := callL_of (X := X) (g := 46) (args := [.ptr a 0 0, .ptr b 0 0]) (h := h) (k := k) (K := fun v h' n' => v = .bool (decide (x = 0) || decide (x = 1)) ∧ h' = h ∧ n' = k + 16) Tryd.func46 rfl rfl (by
    by_cases h0 : x = 0
    · simp (maxSteps := 10000000) (maxDischargeDepth := 30) (implicitDefEqProofs := false) [Nat.add_assoc, ha, hb, hw, hx, hlt, hlt', h0]
    · simp (maxSteps := 10000000) (maxDischargeDepth := 30) (implicitDefEqProofs := false) [Nat.add_assoc, ha, hb, hw, hx, hlt, hlt', h0])
  rw [e1, e2, e3, e4]
end Go.Proofs.YtcfmnogghcjdaaaDoor
namespace Go.Proofs.YtcfmnogghcjdaaaDoor
open Go Go.Abs Go.Abs.Api
def addX (s : scenario) (r : row) (before : Int) : scenario × Bool :=
  if !orderB r.kind before then (s, false)
  else if r.kind = 0 then (if r.numbers.length = 6 then ({ s with u := fillSetup s.u r.numbers }, true) else (s, false))
  else if r.kind = 1 then ({ s with u := { s.u with seeds := r.numbers } }, decide (0 < r.numbers.length))
  else if r.kind = 2 then ({ s with t := { s.t with faults := s.t.faults ++ [if r.numbers.length = 6 then faultOf r.numbers else ⟨0, 0, 0, 0, 0, 0⟩] } }, decide (r.numbers.length = 6))
  else if r.kind = 3 then ({ s with t := { s.t with hangs := s.t.hangs ++ [if r.numbers.length = 3 then hangOf r.numbers else ⟨0, 0, 0⟩] } }, decide (r.numbers.length = 3))
  else if r.kind = 4 then (if r.numbers.length = 2 ∧ last01 r.numbers = true then ({ s with t := { s.t with crashes := s.t.crashes ++ [crashOf r.numbers] } }, true) else (s, false))
  else if r.numbers.length = 3 ∧ last01 r.numbers = true then ({ s with l := s.l ++ [choiceOf r.numbers] }, true) else (s, false)
theorem addM_eq (s : scenario) (r : row) (b : Int) : addM s r b = if (addX s r b).2 = true then some (addX s r b).1 else none := by
  unfold addM addX
  by_cases h : (!orderB r.kind b) = true
  · rw [if_pos h, if_pos h]; rfl
  rw [if_neg h, if_neg h]
  by_cases h0 : r.kind = 0
  · rw [if_pos h0, if_pos h0]; split <;> rfl
  rw [if_neg h0, if_neg h0]
  by_cases h1 : r.kind = 1
  · rw [if_pos h1, if_pos h1]; by_cases hn : 0 < r.numbers.length <;> simp [hn]
  rw [if_neg h1, if_neg h1]
  by_cases h2 : r.kind = 2
  · rw [if_pos h2, if_pos h2]; by_cases hn : r.numbers.length = 6 <;> simp [hn]
  rw [if_neg h2, if_neg h2]
  by_cases h3 : r.kind = 3
  · rw [if_pos h3, if_pos h3]; by_cases hn : r.numbers.length = 3 <;> simp [hn]
  rw [if_neg h3, if_neg h3]
  by_cases h4 : r.kind = 4
  · rw [if_pos h4, if_pos h4]; split <;> rfl
  rw [if_neg h4, if_neg h4]
  split <;> rfl
theorem f_add (s_u_program_code : List Instr) (s_u_program_sizes : List Int) (s_u_program_data : List (List Int)) (s_u_seeds : List Int) (s_u_outside_clock : List Int) (s_u_outside_random : List Int) (s_u_outside_inputs : List (List Int)) (s_u_outside_files_data : List (List Canon)) (s_u_outside_files_opens : List Opn) (s_u_outside_outputs : List Output) (s_u_period : Int) (s_u_misses : Int) (s_u_repairs : Int) (s_u_pages : Int) (s_u_least : Int) (s_u_wait : Int) (s_t_faults : List Fault) (s_t_hangs : List Hang) (s_t_crashes : List Crash) (s_l : List Choice) (r_kind : Int) (r_numbers : List Int) (before : Int) (hk : 0 ≤ r_kind ∧ r_kind ≤ 5) (hb : -1 ≤ before ∧ before ≤ 5) (hn : r_numbers.length ≤ 1000000) (h1 : s_t_faults.length ≤ 1000000 ∧ s_t_hangs.length ≤ 1000000 ∧ s_t_crashes.length ≤ 1000000 ∧ s_l.length ≤ 1000000) : mcall X [(0, 16, 99), (0, 17, 103), (0, 18, 105), (0, 19, 57)] 26 20 (.agg [.sl false (s_u_program_code.map Instr.enc), .sl false (s_u_program_sizes.map (V.int .i64)), .sl false (s_u_program_data.map encLU16), .sl false (s_u_seeds.map (V.int .i64)), .sl false (s_u_outside_clock.map (V.int .u16)), .sl false (s_u_outside_random.map (V.int .u16)), .sl false (s_u_outside_inputs.map encLU16), .sl false (s_u_outside_files_data.map encLCanon), .sl false (s_u_outside_files_opens.map Opn.enc), .sl false (s_u_outside_outputs.map Output.enc), .int .i64 s_u_period, .int .i64 s_u_misses, .int .i64 s_u_repairs, .int .i64 s_u_pages, .int .i64 s_u_least, .int .i64 s_u_wait, .sl false (s_t_faults.map Fault.enc), .sl false (s_t_hangs.map Hang.enc), .sl false (s_t_crashes.map Crash.enc), .sl false (s_l.map Choice.enc)]) [.agg [.int .i64 r_kind, .sl false (r_numbers.map (V.int .i64))], .int .i64 before] = some (20, .agg [.sl false (((addX (scenario.mk (Setup.mk (Prog.mk s_u_program_code s_u_program_sizes s_u_program_data) s_u_seeds (Outs.mk s_u_outside_clock s_u_outside_random s_u_outside_inputs (Files.mk s_u_outside_files_data s_u_outside_files_opens) s_u_outside_outputs) s_u_period s_u_misses s_u_repairs s_u_pages s_u_least s_u_wait) (Troubles.mk s_t_faults s_t_hangs s_t_crashes) s_l) (row.mk r_kind r_numbers) before).1).u.program.code.map Instr.enc), .sl false (((addX (scenario.mk (Setup.mk (Prog.mk s_u_program_code s_u_program_sizes s_u_program_data) s_u_seeds (Outs.mk s_u_outside_clock s_u_outside_random s_u_outside_inputs (Files.mk s_u_outside_files_data s_u_outside_files_opens) s_u_outside_outputs) s_u_period s_u_misses s_u_repairs s_u_pages s_u_least s_u_wait) (Troubles.mk s_t_faults s_t_hangs s_t_crashes) s_l) (row.mk r_kind r_numbers) before).1).u.program.sizes.map (V.int .i64)), .sl false (((addX (scenario.mk (Setup.mk (Prog.mk s_u_program_code s_u_program_sizes s_u_program_data) s_u_seeds (Outs.mk s_u_outside_clock s_u_outside_random s_u_outside_inputs (Files.mk s_u_outside_files_data s_u_outside_files_opens) s_u_outside_outputs) s_u_period s_u_misses s_u_repairs s_u_pages s_u_least s_u_wait) (Troubles.mk s_t_faults s_t_hangs s_t_crashes) s_l) (row.mk r_kind r_numbers) before).1).u.program.data.map encLU16), .sl false (((addX (scenario.mk (Setup.mk (Prog.mk s_u_program_code s_u_program_sizes s_u_program_data) s_u_seeds (Outs.mk s_u_outside_clock s_u_outside_random s_u_outside_inputs (Files.mk s_u_outside_files_data s_u_outside_files_opens) s_u_outside_outputs) s_u_period s_u_misses s_u_repairs s_u_pages s_u_least s_u_wait) (Troubles.mk s_t_faults s_t_hangs s_t_crashes) s_l) (row.mk r_kind r_numbers) before).1).u.seeds.map (V.int .i64)), .sl false (((addX (scenario.mk (Setup.mk (Prog.mk s_u_program_code s_u_program_sizes s_u_program_data) s_u_seeds (Outs.mk s_u_outside_clock s_u_outside_random s_u_outside_inputs (Files.mk s_u_outside_files_data s_u_outside_files_opens) s_u_outside_outputs) s_u_period s_u_misses s_u_repairs s_u_pages s_u_least s_u_wait) (Troubles.mk s_t_faults s_t_hangs s_t_crashes) s_l) (row.mk r_kind r_numbers) before).1).u.outside.clock.map (V.int .u16)), .sl false (((addX (scenario.mk (Setup.mk (Prog.mk s_u_program_code s_u_program_sizes s_u_program_data) s_u_seeds (Outs.mk s_u_outside_clock s_u_outside_random s_u_outside_inputs (Files.mk s_u_outside_files_data s_u_outside_files_opens) s_u_outside_outputs) s_u_period s_u_misses s_u_repairs s_u_pages s_u_least s_u_wait) (Troubles.mk s_t_faults s_t_hangs s_t_crashes) s_l) (row.mk r_kind r_numbers) before).1).u.outside.random.map (V.int .u16)), .sl false (((addX (scenario.mk (Setup.mk (Prog.mk s_u_program_code s_u_program_sizes s_u_program_data) s_u_seeds (Outs.mk s_u_outside_clock s_u_outside_random s_u_outside_inputs (Files.mk s_u_outside_files_data s_u_outside_files_opens) s_u_outside_outputs) s_u_period s_u_misses s_u_repairs s_u_pages s_u_least s_u_wait) (Troubles.mk s_t_faults s_t_hangs s_t_crashes) s_l) (row.mk r_kind r_numbers) before).1).u.outside.inputs.map encLU16), .sl false (((addX (scenario.mk (Setup.mk (Prog.mk s_u_program_code s_u_program_sizes s_u_program_data) s_u_seeds (Outs.mk s_u_outside_clock s_u_outside_random s_u_outside_inputs (Files.mk s_u_outside_files_data s_u_outside_files_opens) s_u_outside_outputs) s_u_period s_u_misses s_u_repairs s_u_pages s_u_least s_u_wait) (Troubles.mk s_t_faults s_t_hangs s_t_crashes) s_l) (row.mk r_kind r_numbers) before).1).u.outside.files.data.map encLCanon), .sl false (((addX (scenario.mk (Setup.mk (Prog.mk s_u_program_code s_u_program_sizes s_u_program_data) s_u_seeds (Outs.mk s_u_outside_clock s_u_outside_random s_u_outside_inputs (Files.mk s_u_outside_files_data s_u_outside_files_opens) s_u_outside_outputs) s_u_period s_u_misses s_u_repairs s_u_pages s_u_least s_u_wait) (Troubles.mk s_t_faults s_t_hangs s_t_crashes) s_l) (row.mk r_kind r_numbers) before).1).u.outside.files.opens.map Opn.enc), .sl false (((addX (scenario.mk (Setup.mk (Prog.mk s_u_program_code s_u_program_sizes s_u_program_data) s_u_seeds (Outs.mk s_u_outside_clock s_u_outside_random s_u_outside_inputs (Files.mk s_u_outside_files_data s_u_outside_files_opens) s_u_outside_outputs) s_u_period s_u_misses s_u_repairs s_u_pages s_u_least s_u_wait) (Troubles.mk s_t_faults s_t_hangs s_t_crashes) s_l) (row.mk r_kind r_numbers) before).1).u.outside.outputs.map Output.enc), .int .i64 ((addX (scenario.mk (Setup.mk (Prog.mk s_u_program_code s_u_program_sizes s_u_program_data) s_u_seeds (Outs.mk s_u_outside_clock s_u_outside_random s_u_outside_inputs (Files.mk s_u_outside_files_data s_u_outside_files_opens) s_u_outside_outputs) s_u_period s_u_misses s_u_repairs s_u_pages s_u_least s_u_wait) (Troubles.mk s_t_faults s_t_hangs s_t_crashes) s_l) (row.mk r_kind r_numbers) before).1).u.period, .int .i64 ((addX (scenario.mk (Setup.mk (Prog.mk s_u_program_code s_u_program_sizes s_u_program_data) s_u_seeds (Outs.mk s_u_outside_clock s_u_outside_random s_u_outside_inputs (Files.mk s_u_outside_files_data s_u_outside_files_opens) s_u_outside_outputs) s_u_period s_u_misses s_u_repairs s_u_pages s_u_least s_u_wait) (Troubles.mk s_t_faults s_t_hangs s_t_crashes) s_l) (row.mk r_kind r_numbers) before).1).u.misses, .int .i64 ((addX (scenario.mk (Setup.mk (Prog.mk s_u_program_code s_u_program_sizes s_u_program_data) s_u_seeds (Outs.mk s_u_outside_clock s_u_outside_random s_u_outside_inputs (Files.mk s_u_outside_files_data s_u_outside_files_opens) s_u_outside_outputs) s_u_period s_u_misses s_u_repairs s_u_pages s_u_least s_u_wait) (Troubles.mk s_t_faults s_t_hangs s_t_crashes) s_l) (row.mk r_kind r_numbers) before).1).u.repairs, .int .i64 ((addX (scenario.mk (Setup.mk (Prog.mk s_u_program_code s_u_program_sizes s_u_program_data) s_u_seeds (Outs.mk s_u_outside_clock s_u_outside_random s_u_outside_inputs (Files.mk s_u_outside_files_data s_u_outside_files_opens) s_u_outside_outputs) s_u_period s_u_misses s_u_repairs s_u_pages s_u_least s_u_wait) (Troubles.mk s_t_faults s_t_hangs s_t_crashes) s_l) (row.mk r_kind r_numbers) before).1).u.pages, .int .i64 ((addX (scenario.mk (Setup.mk (Prog.mk s_u_program_code s_u_program_sizes s_u_program_data) s_u_seeds (Outs.mk s_u_outside_clock s_u_outside_random s_u_outside_inputs (Files.mk s_u_outside_files_data s_u_outside_files_opens) s_u_outside_outputs) s_u_period s_u_misses s_u_repairs s_u_pages s_u_least s_u_wait) (Troubles.mk s_t_faults s_t_hangs s_t_crashes) s_l) (row.mk r_kind r_numbers) before).1).u.least, .int .i64 ((addX (scenario.mk (Setup.mk (Prog.mk s_u_program_code s_u_program_sizes s_u_program_data) s_u_seeds (Outs.mk s_u_outside_clock s_u_outside_random s_u_outside_inputs (Files.mk s_u_outside_files_data s_u_outside_files_opens) s_u_outside_outputs) s_u_period s_u_misses s_u_repairs s_u_pages s_u_least s_u_wait) (Troubles.mk s_t_faults s_t_hangs s_t_crashes) s_l) (row.mk r_kind r_numbers) before).1).u.wait, .sl false (((addX (scenario.mk (Setup.mk (Prog.mk s_u_program_code s_u_program_sizes s_u_program_data) s_u_seeds (Outs.mk s_u_outside_clock s_u_outside_random s_u_outside_inputs (Files.mk s_u_outside_files_data s_u_outside_files_opens) s_u_outside_outputs) s_u_period s_u_misses s_u_repairs s_u_pages s_u_least s_u_wait) (Troubles.mk s_t_faults s_t_hangs s_t_crashes) s_l) (row.mk r_kind r_numbers) before).1).t.faults.map Fault.enc), .sl false (((addX (scenario.mk (Setup.mk (Prog.mk s_u_program_code s_u_program_sizes s_u_program_data) s_u_seeds (Outs.mk s_u_outside_clock s_u_outside_random s_u_outside_inputs (Files.mk s_u_outside_files_data s_u_outside_files_opens) s_u_outside_outputs) s_u_period s_u_misses s_u_repairs s_u_pages s_u_least s_u_wait) (Troubles.mk s_t_faults s_t_hangs s_t_crashes) s_l) (row.mk r_kind r_numbers) before).1).t.hangs.map Hang.enc), .sl false (((addX (scenario.mk (Setup.mk (Prog.mk s_u_program_code s_u_program_sizes s_u_program_data) s_u_seeds (Outs.mk s_u_outside_clock s_u_outside_random s_u_outside_inputs (Files.mk s_u_outside_files_data s_u_outside_files_opens) s_u_outside_outputs) s_u_period s_u_misses s_u_repairs s_u_pages s_u_least s_u_wait) (Troubles.mk s_t_faults s_t_hangs s_t_crashes) s_l) (row.mk r_kind r_numbers) before).1).t.crashes.map Crash.enc), .sl false (((addX (scenario.mk (Setup.mk (Prog.mk s_u_program_code s_u_program_sizes s_u_program_data) s_u_seeds (Outs.mk s_u_outside_clock s_u_outside_random s_u_outside_inputs (Files.mk s_u_outside_files_data s_u_outside_files_opens) s_u_outside_outputs) s_u_period s_u_misses s_u_repairs s_u_pages s_u_least s_u_wait) (Troubles.mk s_t_faults s_t_hangs s_t_crashes) s_l) (row.mk r_kind r_numbers) before).1).l.map Choice.enc)], [.bool ((addX (scenario.mk (Setup.mk (Prog.mk s_u_program_code s_u_program_sizes s_u_program_data) s_u_seeds (Outs.mk s_u_outside_clock s_u_outside_random s_u_outside_inputs (Files.mk s_u_outside_files_data s_u_outside_files_opens) s_u_outside_outputs) s_u_period s_u_misses s_u_repairs s_u_pages s_u_least s_u_wait) (Troubles.mk s_t_faults s_t_hangs s_t_crashes) s_l) (row.mk r_kind r_numbers) before).2)], .bad) := by
  refine mcall_of Tryd.func26 rfl rfl ?_
  have w1 : IntKind.i64.wrap (before + 1) = before + 1 := wrap_i64 (by omega)
  have w00 : IntKind.i64.wrap 0 = 0 := by decide
  have w11 : IntKind.i64.wrap 1 = 1 := by decide
  have b1 : (s_t_faults.length + 1) * 48 ≤ 140737488355328 ∧ s_t_faults.length ≤ 4611686018427387903 := by omega
  have b2 : (s_t_hangs.length + 1) * 24 ≤ 140737488355328 ∧ s_t_hangs.length ≤ 4611686018427387903 := by omega
  have b3 : (s_t_crashes.length + 1) * 16 ≤ 140737488355328 ∧ s_t_crashes.length ≤ 4611686018427387903 := by omega
  have b4 : (s_l.length + 1) * 24 ≤ 140737488355328 ∧ s_l.length ≤ 4611686018427387903 := by omega
  have hod : orderB r_kind before = !(decide (r_kind < before) || (decide (before + 1 < r_kind) && decide (before < 1)) || (decide (r_kind = before) && decide (before ≤ 1))) := rfl
  have hA : (orderB r_kind before = false ∧ r_kind < before) ∨ (orderB r_kind before = false ∧ ¬ r_kind < before ∧ before + 1 < r_kind ∧ before < 1) ∨ (orderB r_kind before = false ∧ ¬ r_kind < before ∧ ¬ before + 1 < r_kind ∧ r_kind = before ∧ before ≤ 1) ∨ (orderB r_kind before = true ∧ ¬ r_kind < before) := by
    rw [hod]
    simp only [Bool.not_eq_false', Bool.not_eq_true', Bool.or_eq_true, Bool.or_eq_false_iff, Bool.and_eq_true, Bool.and_eq_false_iff, decide_eq_true_eq, decide_eq_false_iff_not]
    omega
  rcases hA with ⟨ho, q⟩ | ⟨ho, q⟩ | ⟨ho, q⟩ | ⟨ho, q⟩
  · simp (maxSteps := 10000000) (maxDischargeDepth := 30) (implicitDefEqProofs := false) [addX, ho, q, w1]
  · simp (maxSteps := 10000000) (maxDischargeDepth := 30) (implicitDefEqProofs := false) [addX, ho, q, w1]
  · obtain ⟨q1, q2, q3, q4⟩ := q
    subst q3
    simp (maxSteps := 10000000) (maxDischargeDepth := 30) (implicitDefEqProofs := false) [addX, ho, q1, q2, q4, w1]
  · rw [ho] at hod
    have hod := hod.symm
    simp only [Bool.not_eq_true', Bool.or_eq_false_iff, Bool.and_eq_false_iff, decide_eq_false_iff_not] at hod
    obtain ⟨⟨hod1, hod2⟩, hod3⟩ := hod
    have hB : (before + 1 < r_kind ∧ ¬ before < 1 ∧ ¬ r_kind = before ∧ ¬ r_kind < 1) ∨ (¬ before + 1 < r_kind ∧ ¬ r_kind = before) ∨ (¬ before + 1 < r_kind ∧ r_kind = before ∧ ¬ before ≤ 1) := by omega
    clear hod1 hod2 hod3
    have hkk : r_kind = 0 ∨ r_kind = 1 ∨ r_kind = 2 ∨ r_kind = 3 ∨ r_kind = 4 ∨ r_kind = 5 := by omega
    rcases hkk with rfl | rfl | rfl | rfl | rfl | rfl
    · have e : before = -1 := by omega
      subst e
      by_cases hl : r_numbers.length = 6
      · obtain ⟨n0, n1, n2, n3, n4, n5, rfl⟩ : ∃ n0 n1 n2 n3 n4 n5, r_numbers = [n0, n1, n2, n3, n4, n5] := by
          match r_numbers, hl with
          | [n0, n1, n2, n3, n4, n5], _ => exact ⟨n0, n1, n2, n3, n4, n5, rfl⟩
        have hf := fun h hj ha => c_fill6 0 10 73 20 n0 n1 n2 n3 n4 n5 [.sl false (s_u_program_code.map Instr.enc), .sl false (s_u_program_sizes.map (V.int .i64)), .sl false (s_u_program_data.map encLU16), .sl false (s_u_seeds.map (V.int .i64)), .sl false (s_u_outside_clock.map (V.int .u16)), .sl false (s_u_outside_random.map (V.int .u16)), .sl false (s_u_outside_inputs.map encLU16), .sl false (s_u_outside_files_data.map encLCanon), .sl false (s_u_outside_files_opens.map Opn.enc), .sl false (s_u_outside_outputs.map Output.enc), .int .i64 s_u_period, .int .i64 s_u_misses, .int .i64 s_u_repairs, .int .i64 s_u_pages, .int .i64 s_u_least, .int .i64 s_u_wait, .hdr 1 0 s_t_faults.length, .hdr 2 0 s_t_hangs.length, .hdr 3 0 s_t_crashes.length, .hdr 4 0 s_l.length] h 75 hj ha (by omega) (by omega) (by simp)
        simp only [splice, Nat.reduceAdd] at hf
        simp (maxSteps := 10000000) (maxDischargeDepth := 30) (implicitDefEqProofs := false) [addX, ho, fillSetup, c_setup, hf, w00]
      · have hl' : ¬ (6 : Int) = (r_numbers.length : Int) := by omega
        have hno := fun j h k => c_fill_no j 6 r_numbers h k hl'
        simp (maxSteps := 10000000) (maxDischargeDepth := 30) (implicitDefEqProofs := false) [addX, ho, hl, hno, c_setup, w00]
    · have e : before = 0 := by omega
      subst e
      by_cases hl : r_numbers.length = 0
      · have e : r_numbers = [] := List.eq_nil_of_length_eq_zero hl
        subst e
        simp (maxSteps := 10000000) (maxDischargeDepth := 30) (implicitDefEqProofs := false) [addX, ho, w11]
      · have hl' : 0 < r_numbers.length := by omega
        simp (maxSteps := 10000000) (maxDischargeDepth := 30) (implicitDefEqProofs := false) [addX, ho, hl, hl', w11]
    · have hw2 : IntKind.i64.wrap (2 + 1) = 2 + 1 := by decide
      by_cases hl : r_numbers.length = 6
      · obtain ⟨n0, n1, n2, n3, n4, n5, rfl⟩ : ∃ n0 n1 n2 n3 n4 n5, r_numbers = [n0, n1, n2, n3, n4, n5] := by
          match r_numbers, hl with
          | [n0, n1, n2, n3, n4, n5], _ => exact ⟨n0, n1, n2, n3, n4, n5, rfl⟩
        have hf := fun h hj ha => c_fill6 51 0 75 6 n0 n1 n2 n3 n4 n5 [.int .i64 0, .int .i64 0, .int .i64 0, .int .i64 0, .int .i64 0, .int .i64 0] h 77 hj ha (by omega) (by omega) (by simp)
        simp only [splice, Nat.reduceAdd, Nat.zero_add] at hf
        rcases hB with qB | qB | qB
        · simp (maxSteps := 10000000) (maxDischargeDepth := 30) (implicitDefEqProofs := false) [addX, qB, q, w1, ho, faultOf, hangOf, c_fault, hf, w00, b1, b2, b3, b4, h1, dullL_app, Fault.enc_eq, Hang.enc_eq]
        · simp (maxSteps := 10000000) (maxDischargeDepth := 30) (implicitDefEqProofs := false) [addX, qB, q, w1, ho, faultOf, hangOf, c_fault, hf, w00, b1, b2, b3, b4, h1, dullL_app, Fault.enc_eq, Hang.enc_eq]
        · obtain ⟨qB1, qB2, qB3⟩ := qB
          subst qB2
          simp (maxSteps := 10000000) (maxDischargeDepth := 30) (implicitDefEqProofs := false) [addX, ho, hw2, faultOf, hangOf, c_fault, hf, w00, b1, b2, b3, b4, h1, dullL_app, Fault.enc_eq, Hang.enc_eq]
      · have hl' : ¬ (6 : Int) = (r_numbers.length : Int) := by omega
        have hno := fun j h k => c_fill_no j 6 r_numbers h k hl'
        rcases hB with qB | qB | qB
        · simp (maxSteps := 10000000) (maxDischargeDepth := 30) (implicitDefEqProofs := false) [addX, qB, q, w1, ho, hl, hno, c_fault, w00, b1, b2, b3, b4, h1, dullL_app, Fault.enc_eq, Hang.enc_eq]
        · simp (maxSteps := 10000000) (maxDischargeDepth := 30) (implicitDefEqProofs := false) [addX, qB, q, w1, ho, hl, hno, c_fault, w00, b1, b2, b3, b4, h1, dullL_app, Fault.enc_eq, Hang.enc_eq]
        · obtain ⟨qB1, qB2, qB3⟩ := qB
          subst qB2
          simp (maxSteps := 10000000) (maxDischargeDepth := 30) (implicitDefEqProofs := false) [addX, ho, hw2, hl, hno, c_fault, w00, b1, b2, b3, b4, h1, dullL_app, Fault.enc_eq, Hang.enc_eq]
    · have hw2 : IntKind.i64.wrap (3 + 1) = 3 + 1 := by decide
      by_cases hl : r_numbers.length = 3
      · obtain ⟨n0, n1, n2, rfl⟩ : ∃ n0 n1 n2, r_numbers = [n0, n1, n2] := by
          match r_numbers, hl with
          | [n0, n1, n2], _ => exact ⟨n0, n1, n2, rfl⟩
        have hf := fun h hj ha => c_fill3 53 0 57 3 n0 n1 n2 [.int .i64 0, .int .i64 0, .int .i64 0] h 61 hj ha (by omega) (by omega) (by simp)
        simp only [splice, Nat.reduceAdd, Nat.zero_add] at hf
        rcases hB with qB | qB | qB
        · simp (maxSteps := 10000000) (maxDischargeDepth := 30) (implicitDefEqProofs := false) [addX, qB, q, w1, ho, faultOf, hangOf, c_fault, hf, w00, b1, b2, b3, b4, h1, dullL_app, Fault.enc_eq, Hang.enc_eq]
        · simp (maxSteps := 10000000) (maxDischargeDepth := 30) (implicitDefEqProofs := false) [addX, qB, q, w1, ho, faultOf, hangOf, c_fault, hf, w00, b1, b2, b3, b4, h1, dullL_app, Fault.enc_eq, Hang.enc_eq]
        · obtain ⟨qB1, qB2, qB3⟩ := qB
          subst qB2
          simp (maxSteps := 10000000) (maxDischargeDepth := 30) (implicitDefEqProofs := false) [addX, ho, hw2, faultOf, hangOf, c_fault, hf, w00, b1, b2, b3, b4, h1, dullL_app, Fault.enc_eq, Hang.enc_eq]
      · have hl' : ¬ (3 : Int) = (r_numbers.length : Int) := by omega
        have hno := fun j h k => c_fill_no j 3 r_numbers h k hl'
        rcases hB with qB | qB | qB
        · simp (maxSteps := 10000000) (maxDischargeDepth := 30) (implicitDefEqProofs := false) [addX, qB, q, w1, ho, hl, hno, c_fault, w00, b1, b2, b3, b4, h1, dullL_app, Fault.enc_eq, Hang.enc_eq]
        · simp (maxSteps := 10000000) (maxDischargeDepth := 30) (implicitDefEqProofs := false) [addX, qB, q, w1, ho, hl, hno, c_fault, w00, b1, b2, b3, b4, h1, dullL_app, Fault.enc_eq, Hang.enc_eq]
        · obtain ⟨qB1, qB2, qB3⟩ := qB
          subst qB2
          simp (maxSteps := 10000000) (maxDischargeDepth := 30) (implicitDefEqProofs := false) [addX, ho, hw2, hl, hno, c_fault, w00, b1, b2, b3, b4, h1, dullL_app, Fault.enc_eq, Hang.enc_eq]
    · have hw2 : IntKind.i64.wrap (4 + 1) = 4 + 1 := by decide
      by_cases hl : r_numbers.length = 2
      · obtain ⟨n0, n1, rfl⟩ : ∃ n0 n1, r_numbers = [n0, n1] := by
          match r_numbers, hl with
          | [n0, n1], _ => exact ⟨n0, n1, rfl⟩
        have hcl : ∀ h k, h 38 = some ⟨1, [.sl false [.int .i64 n0, .int .i64 n1]], true⟩ → h 37 = some ⟨1, [.int .i64 2], true⟩ → callL X 46 [.ptr 38 0 0, .ptr 37 0 0] h k = some (.bool (decide (n1 = 0) || decide (n1 = 1)), h, k + 16) := fun h k ha hb => c_last 38 37 1 k [n0, n1] n1 h ha hb (by omega) rfl
        have hX : (n1 = 0 ∧ ¬ n1 = 1) ∨ (¬ n1 = 0 ∧ n1 = 1) ∨ (¬ n1 = 0 ∧ ¬ n1 = 1) := by omega
        rcases hX with ⟨hx0, hx1⟩ | ⟨hx0, hx1⟩ | hX
        · subst hx0
          rcases hB with qB | qB | qB
          · simp (maxSteps := 10000000) (maxDischargeDepth := 30) (implicitDefEqProofs := false) [addX, qB, q, w1, ho, hcl, last01, crashOf, choiceOf, w00, b1, b2, b3, b4, h1, dullL_app, Crash.enc_eq, Choice.enc_eq]
          · simp (maxSteps := 10000000) (maxDischargeDepth := 30) (implicitDefEqProofs := false) [addX, qB, q, w1, ho, hcl, last01, crashOf, choiceOf, w00, b1, b2, b3, b4, h1, dullL_app, Crash.enc_eq, Choice.enc_eq]
          · obtain ⟨qB1, qB2, qB3⟩ := qB
            subst qB2
            simp (maxSteps := 10000000) (maxDischargeDepth := 30) (implicitDefEqProofs := false) [addX, ho, hw2, hcl, last01, crashOf, choiceOf, w00, b1, b2, b3, b4, h1, dullL_app, Crash.enc_eq, Choice.enc_eq]
        · subst hx1
          rcases hB with qB | qB | qB
          · simp (maxSteps := 10000000) (maxDischargeDepth := 30) (implicitDefEqProofs := false) [addX, qB, q, w1, ho, hcl, last01, crashOf, choiceOf, w00, b1, b2, b3, b4, h1, dullL_app, Crash.enc_eq, Choice.enc_eq]
          · simp (maxSteps := 10000000) (maxDischargeDepth := 30) (implicitDefEqProofs := false) [addX, qB, q, w1, ho, hcl, last01, crashOf, choiceOf, w00, b1, b2, b3, b4, h1, dullL_app, Crash.enc_eq, Choice.enc_eq]
          · obtain ⟨qB1, qB2, qB3⟩ := qB
            subst qB2
            simp (maxSteps := 10000000) (maxDischargeDepth := 30) (implicitDefEqProofs := false) [addX, ho, hw2, hcl, last01, crashOf, choiceOf, w00, b1, b2, b3, b4, h1, dullL_app, Crash.enc_eq, Choice.enc_eq]
        · skip
          rcases hB with qB | qB | qB
          · simp (maxSteps := 10000000) (maxDischargeDepth := 30) (implicitDefEqProofs := false) [addX, qB, q, w1, ho, hX, hcl, last01, crashOf, choiceOf, w00, b1, b2, b3, b4, h1, dullL_app, Crash.enc_eq, Choice.enc_eq]
          · simp (maxSteps := 10000000) (maxDischargeDepth := 30) (implicitDefEqProofs := false) [addX, qB, q, w1, ho, hX, hcl, last01, crashOf, choiceOf, w00, b1, b2, b3, b4, h1, dullL_app, Crash.enc_eq, Choice.enc_eq]
          · obtain ⟨qB1, qB2, qB3⟩ := qB
            subst qB2
            simp (maxSteps := 10000000) (maxDischargeDepth := 30) (implicitDefEqProofs := false) [addX, ho, hw2, hX, hcl, last01, crashOf, choiceOf, w00, b1, b2, b3, b4, h1, dullL_app, Crash.enc_eq, Choice.enc_eq]
      · have hl' : ¬ (r_numbers.length : Int) = 2 := by omega
        rcases hB with qB | qB | qB
        · simp (maxSteps := 10000000) (maxDischargeDepth := 30) (implicitDefEqProofs := false) [addX, qB, q, w1, ho, hl, hl', w00, b1, b2, b3, b4, h1]
        · simp (maxSteps := 10000000) (maxDischargeDepth := 30) (implicitDefEqProofs := false) [addX, qB, q, w1, ho, hl, hl', w00, b1, b2, b3, b4, h1]
        · obtain ⟨qB1, qB2, qB3⟩ := qB
          subst qB2
          simp (maxSteps := 10000000) (maxDischargeDepth := 30) (implicitDefEqProofs := false) [addX, ho, hw2, hl, hl', w00, b1, b2, b3, b4, h1]
    · have hw2 : IntKind.i64.wrap (5 + 1) = 5 + 1 := by decide
      by_cases hl : r_numbers.length = 3
      · obtain ⟨n0, n1, n2, rfl⟩ : ∃ n0 n1 n2, r_numbers = [n0, n1, n2] := by
          match r_numbers, hl with
          | [n0, n1, n2], _ => exact ⟨n0, n1, n2, rfl⟩
        have hcl : ∀ h k, h 38 = some ⟨1, [.sl false [.int .i64 n0, .int .i64 n1, .int .i64 n2]], true⟩ → h 37 = some ⟨1, [.int .i64 3], true⟩ → callL X 46 [.ptr 38 0 0, .ptr 37 0 0] h k = some (.bool (decide (n2 = 0) || decide (n2 = 1)), h, k + 16) := fun h k ha hb => c_last 38 37 2 k [n0, n1, n2] n2 h ha hb (by omega) rfl
        have hX : (n2 = 0 ∧ ¬ n2 = 1) ∨ (¬ n2 = 0 ∧ n2 = 1) ∨ (¬ n2 = 0 ∧ ¬ n2 = 1) := by omega
        rcases hX with ⟨hx0, hx1⟩ | ⟨hx0, hx1⟩ | hX
        · subst hx0
          rcases hB with qB | qB | qB
          · simp (maxSteps := 10000000) (maxDischargeDepth := 30) (implicitDefEqProofs := false) [addX, qB, q, w1, ho, hcl, last01, crashOf, choiceOf, w00, b1, b2, b3, b4, h1, dullL_app, Crash.enc_eq, Choice.enc_eq]
          · simp (maxSteps := 10000000) (maxDischargeDepth := 30) (implicitDefEqProofs := false) [addX, qB, q, w1, ho, hcl, last01, crashOf, choiceOf, w00, b1, b2, b3, b4, h1, dullL_app, Crash.enc_eq, Choice.enc_eq]
          · obtain ⟨qB1, qB2, qB3⟩ := qB
            subst qB2
            simp (maxSteps := 10000000) (maxDischargeDepth := 30) (implicitDefEqProofs := false) [addX, ho, hw2, hcl, last01, crashOf, choiceOf, w00, b1, b2, b3, b4, h1, dullL_app, Crash.enc_eq, Choice.enc_eq]
        · subst hx1
          rcases hB with qB | qB | qB
          · simp (maxSteps := 10000000) (maxDischargeDepth := 30) (implicitDefEqProofs := false) [addX, qB, q, w1, ho, hcl, last01, crashOf, choiceOf, w00, b1, b2, b3, b4, h1, dullL_app, Crash.enc_eq, Choice.enc_eq]
          · simp (maxSteps := 10000000) (maxDischargeDepth := 30) (implicitDefEqProofs := false) [addX, qB, q, w1, ho, hcl, last01, crashOf, choiceOf, w00, b1, b2, b3, b4, h1, dullL_app, Crash.enc_eq, Choice.enc_eq]
          · obtain ⟨qB1, qB2, qB3⟩ := qB
            subst qB2
            simp (maxSteps := 10000000) (maxDischargeDepth := 30) (implicitDefEqProofs := false) [addX, ho, hw2, hcl, last01, crashOf, choiceOf, w00, b1, b2, b3, b4, h1, dullL_app, Crash.enc_eq, Choice.enc_eq]
        · skip
          rcases hB with qB | qB | qB
          · simp (maxSteps := 10000000) (maxDischargeDepth := 30) (implicitDefEqProofs := false) [addX, qB, q, w1, ho, hX, hcl, last01, crashOf, choiceOf, w00, b1, b2, b3, b4, h1, dullL_app, Crash.enc_eq, Choice.enc_eq]
          · simp (maxSteps := 10000000) (maxDischargeDepth := 30) (implicitDefEqProofs := false) [addX, qB, q, w1, ho, hX, hcl, last01, crashOf, choiceOf, w00, b1, b2, b3, b4, h1, dullL_app, Crash.enc_eq, Choice.enc_eq]
          · obtain ⟨qB1, qB2, qB3⟩ := qB
            subst qB2
            simp (maxSteps := 10000000) (maxDischargeDepth := 30) (implicitDefEqProofs := false) [addX, ho, hw2, hX, hcl, last01, crashOf, choiceOf, w00, b1, b2, b3, b4, h1, dullL_app, Crash.enc_eq, Choice.enc_eq]
      · have hl' : ¬ (r_numbers.length : Int) = 3 := by omega
        rcases hB with qB | qB | qB
        · simp (maxSteps := 10000000) (maxDischargeDepth := 30) (implicitDefEqProofs := false) [addX, qB, q, w1, ho, hl, hl', w00, b1, b2, b3, b4, h1]
        · simp (maxSteps := 10000000) (maxDischargeDepth := 30) (implicitDefEqProofs := false) [addX, qB, q, w1, ho, hl, hl', w00, b1, b2, b3, b4, h1]
        · obtain ⟨qB1, qB2, qB3⟩ := qB
          subst qB2
          simp (maxSteps := 10000000) (maxDischargeDepth := 30) (implicitDefEqProofs := false) [addX, ho, hw2, hl, hl', w00, b1, b2, b3, b4, h1]
end Go.Proofs.YtcfmnogghcjdaaaDoor
namespace Go.Proofs.YtcfmnogghcjdaaaDoor
open Go Go.Abs Go.Abs.Api
@[simp] theorem dflt_period : (default : Setup).period = 0 := rfl
@[simp] theorem dflt_misses : (default : Setup).misses = 0 := rfl
@[simp] theorem dflt_repairs : (default : Setup).repairs = 0 := rfl
@[simp] theorem dflt_pages : (default : Setup).pages = 0 := rfl
@[simp] theorem dflt_least : (default : Setup).least = 0 := rfl
@[simp] theorem dflt_wait : (default : Setup).wait = 0 := rfl
@[simp] theorem dflt_faults : (default : Troubles).faults = [] := rfl
@[simp] theorem dflt_hangs : (default : Troubles).hangs = [] := rfl
@[simp] theorem dflt_crashes : (default : Troubles).crashes = [] := rfl
@[simp] theorem dflt_u : (default : scenario).u = default := rfl
@[simp] theorem dflt_t : (default : scenario).t = default := rfl
@[simp] theorem dflt_l : (default : scenario).l = [] := rfl
@[simp] theorem tailV_b (v : V) : tailV .bad [v] = v := rfl
theorem getD_at {α : Type} (l : List α) (d : α) {i : Nat} (h : i < l.length) : l.getD i d = l[i] := by
  rw [List.getD_eq_getElem?_getD, List.getElem?_eq_getElem h]; rfl
theorem parse_fail {s : Str} {n i : Nat} (hn : (cutL 10 s).length = n + 1) (hi : i < n) (h : okAt (cutL 10 s) i) (hs : stepM (stAt (cutL 10 s) i) ((cutL 10 s).getD i []) = none) : parseM s = ⟨noSetup, noTroubles, [], (i : Int) + 1, 36⟩ := by
  unfold parseM
  simp only [List.dropLast_eq_take, hn, Nat.add_sub_cancel]
  rw [go_fail (by omega) hi h hs]
  rfl
theorem parse_end {s : Str} {n : Nat} (hn : (cutL 10 s).length = n + 1) (h : okAt (cutL 10 s) n) : parseM s = if (cutL 10 s).getD n [] ≠ [] then ⟨noSetup, noTroubles, [], (n : Int) + 1, 36⟩
    else if (stAt (cutL 10 s) n).2 < 1 then ⟨noSetup, noTroubles, [], max (n : Int) 1, 36⟩
    else if checkM (stAt (cutL 10 s) n).1.u (stAt (cutL 10 s) n).1.t (stAt (cutL 10 s) n).1.l ≠ 0 then ⟨noSetup, noTroubles, [], 0, checkM (stAt (cutL 10 s) n).1.u (stAt (cutL 10 s) n).1.t (stAt (cutL 10 s) n).1.l⟩
    else ⟨(stAt (cutL 10 s) n).1.u, (stAt (cutL 10 s) n).1.t, (stAt (cutL 10 s) n).1.l, 0, 0⟩ := by
  have hl : (cutL 10 s).getLastD [] = (cutL 10 s).getD n [] := by
    rw [List.getLastD_eq_getLast?, List.getLast?_eq_getElem?, hn, List.getD_eq_getElem?_getD]
    rfl
  unfold parseM
  simp only [List.dropLast_eq_take, hn, Nat.add_sub_cancel]
  rw [go_end (by omega) h, hl]
  have e1 : ((n + 1 : Nat) : Int) = (n : Int) + 1 := by omega
  simp only [e1, Int.add_sub_cancel]
theorem pieces_len {c : UInt8} : ∀ {s : Str}, ∀ x ∈ cutL c s, x.length ≤ s.length := by
  intro s x hx
  obtain ⟨w, L, hwl⟩ := List.exists_cons_of_ne_nil (cutL_ne c s)
  have e := join_cutL hwl
  rw [hwl] at hx
  rw [← e]
  simp only [List.mem_cons] at hx
  simp only [List.length_append, List.length_flatten]
  rcases hx with rfl | hx
  · omega
  · have := len_le_sum (List.mem_map.2 ⟨c :: x, List.mem_map.2 ⟨x, hx, rfl⟩, rfl⟩ : (c :: x).length ∈ ((L.map fun x => c :: x).map List.length))
    simp only [List.length_cons] at this
    omega
theorem fine_cut {s : Str} (hl : s.length ≤ 1000000) {i : Nat} (h : okAt (cutL 10 s) i) : Fine (stAt (cutL 10 s) i) i :=
  fine_at (fun x hx => by have := pieces_len x hx; have := cutL_len 32 x; omega) i h
theorem c_read_no (r : reader) (s : Str) (hl : s.length ≤ 1000000) (hr : rejB r.place s = true) : mcall X [(0, 17, 99), (0, 18, 103), (0, 19, 105), (0, 20, 57)] 31 21 r.enc [.str s] = some (21, r.enc, [.bool false], .bad) :=
  f_read_no r.place r.u.program.code r.u.program.sizes r.u.program.data r.u.seeds r.u.outside.clock r.u.outside.random r.u.outside.inputs r.u.outside.files.data r.u.outside.files.opens r.u.outside.outputs r.u.period r.u.misses r.u.repairs r.u.pages r.u.least r.u.wait r.t.faults r.t.hangs r.t.crashes r.l s hl hr
theorem c_read_yes (r : reader) (s : Str) (hl : s.length ≤ 1000000) (hr : rejB r.place s = false) (hp : 0 ≤ r.place) (h1 : r.t.faults.length ≤ 1000000 ∧ r.t.hangs.length ≤ 1000000 ∧ r.t.crashes.length ≤ 1000000 ∧ r.l.length ≤ 1000000) : mcall X [(0, 17, 99), (0, 18, 103), (0, 19, 105), (0, 20, 57)] 31 21 r.enc [.str s] = some (21, (putR r (kindIx ((cutL 32 s).headD [])) (valuesM s)).enc, [.bool (okR (kindIx ((cutL 32 s).headD [])) (valuesM s))], .bad) :=
  f_read_yes r.place r.u.program.code r.u.program.sizes r.u.program.data r.u.seeds r.u.outside.clock r.u.outside.random r.u.outside.inputs r.u.outside.files.data r.u.outside.files.opens r.u.outside.outputs r.u.period r.u.misses r.u.repairs r.u.pages r.u.least r.u.wait r.t.faults r.t.hangs r.t.crashes r.l s hl hr hp h1
theorem c_add (x : scenario) (r : row) (b : Int) (hk : 0 ≤ r.kind ∧ r.kind ≤ 5) (hb : -1 ≤ b ∧ b ≤ 5) (hn : r.numbers.length ≤ 1000000) (h1 : x.t.faults.length ≤ 1000000 ∧ x.t.hangs.length ≤ 1000000 ∧ x.t.crashes.length ≤ 1000000 ∧ x.l.length ≤ 1000000) : mcall X [(0, 16, 99), (0, 17, 103), (0, 18, 105), (0, 19, 57)] 26 20 x.enc [r.enc, .int .i64 b] = some (20, (addX x r b).1.enc, [.bool (addX x r b).2], .bad) :=
  f_add x.u.program.code x.u.program.sizes x.u.program.data x.u.seeds x.u.outside.clock x.u.outside.random x.u.outside.inputs x.u.outside.files.data x.u.outside.files.opens x.u.outside.outputs x.u.period x.u.misses x.u.repairs x.u.pages x.u.least x.u.wait x.t.faults x.t.hangs x.t.crashes x.l r.kind r.numbers b hk hb hn h1
theorem c_formatR (u : Setup) (t : Troubles) (l : List Choice) (h1 : t.faults.length ≤ 1000000 ∧ t.hangs.length ≤ 1000000 ∧ t.crashes.length ≤ 1000000 ∧ l.length ≤ 1000000) (hs : u.seeds.length ≤ 9223372036854775807) (hR : ∀ r ∈ rowsM u t l, ∀ n ∈ r.numbers, inI n) : pcall X 9 [u.enc, t.enc, .sl false (l.map Choice.enc)] = some (.tup [.str (formatM u t l).1, .int .i64 (formatM u t l).2]) :=
  f_ref45_Format u.program.code u.program.sizes u.program.data u.seeds u.outside.clock u.outside.random u.outside.inputs u.outside.files.data u.outside.files.opens u.outside.outputs u.period u.misses u.repairs u.pages u.least u.wait t.faults t.hangs t.crashes l h1 hs hR
theorem c_check (x : scenario) (h1 : x.t.faults.length ≤ 1000000 ∧ x.t.hangs.length ≤ 1000000 ∧ x.t.crashes.length ≤ 1000000 ∧ x.l.length ≤ 1000000) : pcall X 16 [x.enc] = some (.int .i64 (checkM x.u x.t x.l)) :=
  f_text_check x.u.program.code x.u.program.sizes x.u.program.data x.u.seeds x.u.outside.clock x.u.outside.random x.u.outside.inputs x.u.outside.files.data x.u.outside.files.opens x.u.outside.outputs x.u.period x.u.misses x.u.repairs x.u.pages x.u.least x.u.wait x.t.faults x.t.hangs x.t.crashes x.l h1
theorem nums_in {u : Setup} {t : Troubles} {l : List Choice} (h : numsB u t l = true) : ∀ r ∈ rowsM u t l, ∀ n ∈ r.numbers, inI n := by
  intro r hr n hn
  have h2 := List.all_eq_true.1 (List.all_eq_true.1 h r hr) n hn
  simp only [okN, Bool.and_eq_true, decide_eq_true_eq] at h2
  unfold inI
  omega
@[simp] theorem f_ref45_Parse (s : List UInt8) (hl : s.length ≤ 100000) : pcall X 15 [.str s] = some (.tup [.agg [.sl false (((parseM s).u).program.code.map Instr.enc), .sl false (((parseM s).u).program.sizes.map (V.int .i64)), .sl false (((parseM s).u).program.data.map encLU16), .sl false (((parseM s).u).seeds.map (V.int .i64)), .sl false (((parseM s).u).outside.clock.map (V.int .u16)), .sl false (((parseM s).u).outside.random.map (V.int .u16)), .sl false (((parseM s).u).outside.inputs.map encLU16), .sl false (((parseM s).u).outside.files.data.map encLCanon), .sl false (((parseM s).u).outside.files.opens.map Opn.enc), .sl false (((parseM s).u).outside.outputs.map Output.enc), .int .i64 ((parseM s).u).period, .int .i64 ((parseM s).u).misses, .int .i64 ((parseM s).u).repairs, .int .i64 ((parseM s).u).pages, .int .i64 ((parseM s).u).least, .int .i64 ((parseM s).u).wait], .agg [.sl false (((parseM s).t).faults.map Fault.enc), .sl false (((parseM s).t).hangs.map Hang.enc), .sl false (((parseM s).t).crashes.map Crash.enc)], .sl false (((parseM s).l).map Choice.enc), .int .i64 ((parseM s).n), .int .i64 ((parseM s).e)]) := by
  refine pcall_of Tryd.func15 rfl rfl ?_
  have hcut : pcall X 30 [.str s, .int .u8 10] = some (.sl false ((cutL 10 s).map V.str)) := f_ref45_cut s 10 (by omega)
  have hlen := cutL_len 10 s
  have hpos := List.length_pos_iff.2 (cutL_ne 10 s)
  obtain ⟨n, hn⟩ : ∃ n, (cutL 10 s).length = n + 1 := ⟨(cutL 10 s).length - 1, by omega⟩
  have hpf := fun (i : Nat) hi h hs => parse_fail (s := s) (i := i) hn hi h hs
  have hpe := fun h => parse_end (s := s) hn h
  have hfi := fun (i : Nat) h => fine_cut (s := s) (i := i) (by omega) h
  have hpc : ∀ x ∈ cutL 10 s, x.length ≤ 100000 := fun x hx => by have := pieces_len x hx; omega
  generalize parseM s = R at *
  generalize cutL 10 s = LL at *
  have hn' : ((LL.length : Nat) : Int) = (n : Int) + 1 := by omega
  have hwn : IntKind.i64.wrap (n : Int) = n := wrap_i64 (by omega)
  have hnn : (n : Int) < (n : Int) + 1 := by omega
  simp (maxSteps := 10000000) (maxDischargeDepth := 30) (implicitDefEqProofs := false) [hcut, -f_ref45_cut]
  refine Wp_up (fun i S => (S.f 2 = .ptr 2 0 0 ∧ S.h 2 = some ⟨16, [.agg [.sl false (([] : List Instr).map Instr.enc), .sl false (([] : List Int).map (V.int .i64)), .sl false (([] : List (List Int)).map encLU16), .sl false (([] : List Int).map (V.int .i64)), .sl false (([] : List Int).map (V.int .u16)), .sl false (([] : List Int).map (V.int .u16)), .sl false (([] : List (List Int)).map encLU16), .sl false (([] : List (List Canon)).map encLCanon), .sl false (([] : List Opn).map Opn.enc), .sl false (([] : List Output).map Output.enc), .int .i64 0, .int .i64 0, .int .i64 0, .int .i64 0, .int .i64 0, .int .i64 0]], true⟩ ∧ S.f 3 = .ptr 3 0 0 ∧ S.h 3 = some ⟨3, [.agg [.sl false (([] : List Fault).map Fault.enc), .sl false (([] : List Hang).map Hang.enc), .sl false (([] : List Crash).map Crash.enc)]], true⟩ ∧ S.f 7 = .sl false ((LL).map V.str) ∧ S.f 8 = .ptr 8 0 0 ∧ S.h 1000 = some ⟨6, ((readerOf (stAt LL i))).t.faults.map Fault.enc, false⟩ ∧ S.h 1001 = some ⟨3, ((readerOf (stAt LL i))).t.hangs.map Hang.enc, false⟩ ∧ S.h 1002 = some ⟨2, ((readerOf (stAt LL i))).t.crashes.map Crash.enc, false⟩ ∧ S.h 1003 = some ⟨3, ((readerOf (stAt LL i))).l.map Choice.enc, false⟩ ∧ S.h 8 = some ⟨21, [.agg [.int .i64 ((readerOf (stAt LL i))).place, .sl false (((readerOf (stAt LL i))).u.program.code.map Instr.enc), .sl false (((readerOf (stAt LL i))).u.program.sizes.map (V.int .i64)), .sl false (((readerOf (stAt LL i))).u.program.data.map encLU16), .sl false (((readerOf (stAt LL i))).u.seeds.map (V.int .i64)), .sl false (((readerOf (stAt LL i))).u.outside.clock.map (V.int .u16)), .sl false (((readerOf (stAt LL i))).u.outside.random.map (V.int .u16)), .sl false (((readerOf (stAt LL i))).u.outside.inputs.map encLU16), .sl false (((readerOf (stAt LL i))).u.outside.files.data.map encLCanon), .sl false (((readerOf (stAt LL i))).u.outside.files.opens.map Opn.enc), .sl false (((readerOf (stAt LL i))).u.outside.outputs.map Output.enc), .int .i64 ((readerOf (stAt LL i))).u.period, .int .i64 ((readerOf (stAt LL i))).u.misses, .int .i64 ((readerOf (stAt LL i))).u.repairs, .int .i64 ((readerOf (stAt LL i))).u.pages, .int .i64 ((readerOf (stAt LL i))).u.least, .int .i64 ((readerOf (stAt LL i))).u.wait, .hdr 1000 0 (((readerOf (stAt LL i))).t.faults.map Fault.enc).length, .hdr 1001 0 (((readerOf (stAt LL i))).t.hangs.map Hang.enc).length, .hdr 1002 0 (((readerOf (stAt LL i))).t.crashes.map Crash.enc).length, .hdr 1003 0 (((readerOf (stAt LL i))).l.map Choice.enc).length]], true⟩ ∧ S.f 9 = .int .i64 (i : Int) ∧ S.n = 1104) ∧ (okAt LL i)) (n) ?_ 0 (by simp) ?_
  · rintro i S hii ⟨hI0, hP0⟩
    have hwi : IntKind.i64.wrap ((i : Int) + 1) = (i : Int) + 1 := wrap_i64 (by omega)
    by_cases hlti : i < n
    · have hiL : i < LL.length := by omega
      have hgd := getD_at LL [] hiL
      have hF := hfi i hP0
      have hsl := hpc LL[i] (List.getElem_mem hiL)
      have hse := step_eq (stAt LL i) LL[i] hF.kind hF.new
      have hpl : 0 ≤ (readerOf (stAt LL i)).place := by
        have := hF.kind
        simp only [readerOf, placeOf]
        split <;> omega
      have hls : (readerOf (stAt LL i)).t.faults.length ≤ 1000000 ∧ (readerOf (stAt LL i)).t.hangs.length ≤ 1000000 ∧ (readerOf (stAt LL i)).t.crashes.length ≤ 1000000 ∧ (readerOf (stAt LL i)).l.length ≤ 1000000 := by
        obtain ⟨_, _, _, h4, h5, h6, h7, _⟩ := hF
        simp only [readerOf]
        omega
      have hplace : (readerOf (stAt LL i)).place = placeOf (stAt LL i).2 := rfl
      have hno := c_read_no (readerOf (stAt LL i)) LL[i] (by omega)
      have hyes := fun (hr : rejB (readerOf (stAt LL i)).place LL[i] = false) => c_read_yes (readerOf (stAt LL i)) LL[i] (by omega) hr hpl hls
      rw [hplace] at hno hyes
      have hin : (i : Int) < (n : Int) + 1 := by omega
      have hw3 : IntKind.i64.wrap ((i : Int) + 1) = (i : Int) + 1 := wrap_i64 (by omega)
      have hpf' := hpf i hlti hP0
      have hnx := fun q => @okAt_succ LL i hP0 q
      rw [hgd] at hpf' hnx
      cases hst : stepM (stAt LL i) LL[i] with
      | none =>
        rw [hst] at hse
        have hR := hpf' hst
        subst hR
        rcases hse with hr | ⟨hr, hok⟩
        · have hc := hno hr
          generalize readerOf (stAt LL i) = r at *
          simp only [reader.enc_eq] at hc
          simp (maxSteps := 10000000) (maxDischargeDepth := 30) (implicitDefEqProofs := false) [hI0, hii, hwi, hlti, hc, hin, hnn, hn', hwn, hw3, hiL, noSetup, noTroubles]
        · have hc := hyes hr
          rw [hok] at hc
          generalize readerOf (stAt LL i) = r at *
          generalize putR r (kindIx ((cutL 32 LL[i]).headD [])) (valuesM LL[i]) = r2 at *
          simp only [reader.enc_eq] at hc
          simp (maxSteps := 10000000) (maxDischargeDepth := 30) (implicitDefEqProofs := false) [hI0, hii, hwi, hlti, hc, hin, hnn, hn', hwn, hw3, hiL, noSetup, noTroubles]
      | some q =>
        rw [hst] at hse
        obtain ⟨hr, hok, hpu, _⟩ := hse
        have hc := hyes hr
        obtain ⟨ha1, ha2⟩ := hnx q hst
        rw [hok, hpu, ← ha2] at hc
        generalize readerOf (stAt LL i) = r at *
        simp only [reader.enc_eq] at hc
        simp (maxSteps := 10000000) (maxDischargeDepth := 30) (implicitDefEqProofs := false) [hI0, hii, hwi, hlti, hc, hin, hnn, hn', hwn, hw3, hiL, ha1]
    · have hei : n = i := by omega
      subst hei
      have hF := hfi n hP0
      have hR := hpe hP0
      have hiL : n < LL.length := by omega
      have hgd := getD_at LL [] hiL
      rw [hgd] at hR
      have hw1 : IntKind.i64.wrap ((n : Int) + 1) = (n : Int) + 1 := wrap_i64 (by omega)
      obtain ⟨hFk, _, hFn, h4, h5, h6, h7, h8⟩ := hF
      have hc := c_formatR (stAt LL n).1.u (stAt LL n).1.t (stAt LL n).1.l (by omega) (by omega) (nums_in hFn)
      have hpl : (readerOf (stAt LL n)).place = placeOf (stAt LL n).2 := rfl
      have hru : (readerOf (stAt LL n)).u = (stAt LL n).1.u := rfl
      have hrt : (readerOf (stAt LL n)).t = (stAt LL n).1.t := rfl
      have hrl : (readerOf (stAt LL n)).l = (stAt LL n).1.l := rfl
      rw [← hru, ← hrt, ← hrl] at hc hR
      have hfe : (formatM (readerOf (stAt LL n)).u (readerOf (stAt LL n)).t (readerOf (stAt LL n)).l).2 = checkM (readerOf (stAt LL n)).u (readerOf (stAt LL n)).t (readerOf (stAt LL n)).l := by
        unfold formatM
        by_cases h : checkM (readerOf (stAt LL n)).u (readerOf (stAt LL n)).t (readerOf (stAt LL n)).l = 0
        · rw [if_pos h, h]
        · rw [if_neg h]
      have hpb : ((readerOf (stAt LL n)).place < 2) ↔ (stAt LL n).2 < 1 := by
        rw [hpl]
        unfold placeOf
        split <;> omega
      rw [hfe] at hc
      generalize (stAt LL n).2 = b at *
      generalize readerOf (stAt LL n) = r at *
      generalize (formatM r.u r.t r.l).1 = ft at *
      by_cases hz : LL[n] = []
      · rw [if_neg (by simp [hz])] at hR
        have hz' : (LL[n] == []) = true := by simp [hz]
        by_cases hb : b < 1
        · rw [if_pos hb] at hR
          subst hR
          have hp2 := hpb.2 hb
          by_cases h1 : (1 : Int) < (n : Int) + 1
          · have hm : max (n : Int) 1 = n := by omega
            simp (maxSteps := 10000000) (maxDischargeDepth := 30) (implicitDefEqProofs := false) [hI0, hii, hwi, hlti, hz, hp2, h1, hm, hnn, hn', hn, hwn, hw1, hiL, noSetup, noTroubles]
          · have hm : max (n : Int) 1 = n + 1 := by omega
            simp (maxSteps := 10000000) (maxDischargeDepth := 30) (implicitDefEqProofs := false) [hI0, hii, hwi, hlti, hz, hp2, h1, hm, hnn, hn', hn, hwn, hw1, hiL, noSetup, noTroubles]
        · rw [if_neg hb] at hR
          have hp2 : ¬ r.place < 2 := fun h => hb (hpb.1 h)
          generalize checkM r.u r.t r.l = e at *
          simp only [Setup.enc_eq, Troubles.enc_eq] at hc
          by_cases he : e = 0
          · subst he
            rw [if_neg (by simp)] at hR
            subst hR
            simp (maxSteps := 10000000) (maxDischargeDepth := 30) (implicitDefEqProofs := false) [hI0, hii, hwi, hlti, hz, hp2, hc, hnn, hn', hn, hwn, hiL]
          · rw [if_pos he] at hR
            subst hR
            simp (maxSteps := 10000000) (maxDischargeDepth := 30) (implicitDefEqProofs := false) [hI0, hii, hwi, hlti, hz, hp2, hc, he, hnn, hn', hn, hwn, hiL, noSetup, noTroubles]
      · rw [if_pos hz] at hR
        subst hR
        have hz' : (LL[n] == []) = false := by simp [hz]
        simp (maxSteps := 10000000) (maxDischargeDepth := 30) (implicitDefEqProofs := false) [hI0, hii, hwi, hlti, hz, hz', hnn, hn', hn, hwn, hw1, hiL, noSetup, noTroubles]
  · simp (maxSteps := 10000000) (maxDischargeDepth := 30) (implicitDefEqProofs := false) [stAt, readerOf, placeOf, okAt_zero]
end Go.Proofs.YtcfmnogghcjdaaaDoor
namespace Go.Proofs.YtcfmnogghcjdaaaDoor
open Go Go.Abs Go.Abs.Api
theorem readM_some {x : Str} {r : row} (h : readM x = some r) : (0 ≤ r.kind ∧ r.kind ≤ 5) ∧ r.numbers.length ≤ x.length + 1 := by
  obtain ⟨w, L, hwl⟩ := List.exists_cons_of_ne_nil (cutL_ne 32 x)
  have hk := kindIx_range w
  have hl := cutL_len 32 x
  rw [readM_eq hwl] at h
  split at h
  · cases h
  · split at h
    · injection h with h
      subst h
      refine ⟨by simp only; omega, ?_⟩
      simp [valuesM]; omega
    · cases h
@[simp] theorem f_text_Parse (s : List UInt8) (hl : s.length ≤ 100000) : pcall X 10 [.str s] = some (.tup [.agg [.sl false (((parseM s).u).program.code.map Instr.enc), .sl false (((parseM s).u).program.sizes.map (V.int .i64)), .sl false (((parseM s).u).program.data.map encLU16), .sl false (((parseM s).u).seeds.map (V.int .i64)), .sl false (((parseM s).u).outside.clock.map (V.int .u16)), .sl false (((parseM s).u).outside.random.map (V.int .u16)), .sl false (((parseM s).u).outside.inputs.map encLU16), .sl false (((parseM s).u).outside.files.data.map encLCanon), .sl false (((parseM s).u).outside.files.opens.map Opn.enc), .sl false (((parseM s).u).outside.outputs.map Output.enc), .int .i64 ((parseM s).u).period, .int .i64 ((parseM s).u).misses, .int .i64 ((parseM s).u).repairs, .int .i64 ((parseM s).u).pages, .int .i64 ((parseM s).u).least, .int .i64 ((parseM s).u).wait], .agg [.sl false (((parseM s).t).faults.map Fault.enc), .sl false (((parseM s).t).hangs.map Hang.enc), .sl false (((parseM s).t).crashes.map Crash.enc)], .sl false (((parseM s).l).map Choice.enc), .int .i64 ((parseM s).n), .int .i64 ((parseM s).e)]) := by
  refine pcall_of Tryd.func10 rfl rfl ?_
  have hs := p_split s 10 (by omega)
  have hlen := cutL_len 10 s
  have hpos := List.length_pos_iff.2 (cutL_ne 10 s)
  obtain ⟨n, hn⟩ : ∃ n, (cutL 10 s).length = n + 1 := ⟨(cutL 10 s).length - 1, by omega⟩
  have hpf := fun (i : Nat) hi h hs => parse_fail (s := s) (i := i) hn hi h hs
  have hpe := fun h => parse_end (s := s) hn h
  have hfi := fun (i : Nat) h => fine_cut (s := s) (i := i) (by omega) h
  have hpc : ∀ x ∈ cutL 10 s, x.length ≤ 100000 := fun x hx => by have := pieces_len x hx; omega
  generalize parseM s = R at *
  generalize cutL 10 s = LL at *
  have hn' : ((LL.length : Nat) : Int) = (n : Int) + 1 := by omega
  have hwn : IntKind.i64.wrap (n : Int) = n := wrap_i64 (by omega)
  have hnn : (n : Int) < (n : Int) + 1 := by omega
  have hb1 : (n : Int) ≤ (n : Int) + 1 := by omega
  have hb2 : n ≤ LL.length := by omega
  have hmin : min n LL.length = n := by omega
  simp (maxSteps := 10000000) (maxDischargeDepth := 30) (implicitDefEqProofs := false) [hs, hnn, hn', hn, hwn, hb1, hb2, hmin, -p_split]
  refine Wp_up (fun i S => (S.f 2 = .ptr 2 0 0 ∧ S.h 2 = some ⟨16, [.agg [.sl false (([] : List Instr).map Instr.enc), .sl false (([] : List Int).map (V.int .i64)), .sl false (([] : List (List Int)).map encLU16), .sl false (([] : List Int).map (V.int .i64)), .sl false (([] : List Int).map (V.int .u16)), .sl false (([] : List Int).map (V.int .u16)), .sl false (([] : List (List Int)).map encLU16), .sl false (([] : List (List Canon)).map encLCanon), .sl false (([] : List Opn).map Opn.enc), .sl false (([] : List Output).map Output.enc), .int .i64 0, .int .i64 0, .int .i64 0, .int .i64 0, .int .i64 0, .int .i64 0]], true⟩ ∧ S.f 3 = .ptr 3 0 0 ∧ S.h 3 = some ⟨3, [.agg [.sl false (([] : List Fault).map Fault.enc), .sl false (([] : List Hang).map Hang.enc), .sl false (([] : List Crash).map Crash.enc)]], true⟩ ∧ S.f 7 = .sl false ((LL).map V.str) ∧ S.f 8 = .int .i64 ((n : Int)) ∧ S.f 9 = .ptr 9 0 0 ∧ S.h 1000 = some ⟨6, ((stAt LL i).1).t.faults.map Fault.enc, false⟩ ∧ S.h 1001 = some ⟨3, ((stAt LL i).1).t.hangs.map Hang.enc, false⟩ ∧ S.h 1002 = some ⟨2, ((stAt LL i).1).t.crashes.map Crash.enc, false⟩ ∧ S.h 1003 = some ⟨3, ((stAt LL i).1).l.map Choice.enc, false⟩ ∧ S.h 9 = some ⟨20, [.agg [.sl false (((stAt LL i).1).u.program.code.map Instr.enc), .sl false (((stAt LL i).1).u.program.sizes.map (V.int .i64)), .sl false (((stAt LL i).1).u.program.data.map encLU16), .sl false (((stAt LL i).1).u.seeds.map (V.int .i64)), .sl false (((stAt LL i).1).u.outside.clock.map (V.int .u16)), .sl false (((stAt LL i).1).u.outside.random.map (V.int .u16)), .sl false (((stAt LL i).1).u.outside.inputs.map encLU16), .sl false (((stAt LL i).1).u.outside.files.data.map encLCanon), .sl false (((stAt LL i).1).u.outside.files.opens.map Opn.enc), .sl false (((stAt LL i).1).u.outside.outputs.map Output.enc), .int .i64 ((stAt LL i).1).u.period, .int .i64 ((stAt LL i).1).u.misses, .int .i64 ((stAt LL i).1).u.repairs, .int .i64 ((stAt LL i).1).u.pages, .int .i64 ((stAt LL i).1).u.least, .int .i64 ((stAt LL i).1).u.wait, .hdr 1000 0 (((stAt LL i).1).t.faults.map Fault.enc).length, .hdr 1001 0 (((stAt LL i).1).t.hangs.map Hang.enc).length, .hdr 1002 0 (((stAt LL i).1).t.crashes.map Crash.enc).length, .hdr 1003 0 (((stAt LL i).1).l.map Choice.enc).length]], true⟩ ∧ S.f 10 = .int .i64 ((stAt LL i).2) ∧ S.f 23 = .sl false ((LL.take n).map V.str) ∧ S.f 24 = .int .i64 ((n : Int)) ∧ S.f 25 = .int .i64 (i : Int) ∧ S.n = 1104) ∧ (okAt LL i)) (n) ?_ 0 (by simp) ?_
  · rintro i S hii ⟨hI0, hP0⟩
    have hwi : IntKind.i64.wrap ((i : Int) + 1) = (i : Int) + 1 := wrap_i64 (by omega)
    by_cases hlti : i < n
    · have hiL : i < LL.length := by omega
      have hgd := getD_at LL [] hiL
      have hF := hfi i hP0
      have hsl := hpc LL[i] (List.getElem_mem hiL)
      have hread := f_text_read LL[i] (by omega)
      have hin : (i : Int) < (n : Int) + 1 := by omega
      have hw3 : IntKind.i64.wrap ((i : Int) + 1) = (i : Int) + 1 := wrap_i64 (by omega)
      have hpf' := hpf i hlti hP0
      have hnx := fun q => @okAt_succ LL i hP0 q
      rw [hgd] at hpf' hnx
      have hsm : stepM (stAt LL i) LL[i] = match readM LL[i] with
        | none => none
        | some r => match addM (stAt LL i).1 r (stAt LL i).2 with
          | none => none
          | some s => some (s, r.kind) := rfl
      have hti : (LL.take n)[i]? = some LL[i] := by rw [List.getElem?_take_of_lt hlti]; simp
      cases hrd : readM LL[i] with
      | none =>
        rw [hrd] at hsm hread
        have hR := hpf' hsm
        subst hR
        simp only [Option.getD_none, Option.isSome_none] at hread
        generalize stAt LL i = p at *
        obtain ⟨x, b⟩ := p
        simp (maxSteps := 10000000) (maxDischargeDepth := 30) (implicitDefEqProofs := false) [hI0, hii, hwi, hlti, hread, hin, hti, hnn, hn', hn, hwn, hw3, hiL, noSetup, noTroubles, -f_text_read]
      | some r =>
        rw [hrd] at hsm hread
        simp only [Option.getD_some, Option.isSome_some] at hread
        obtain ⟨hk, hnl⟩ := readM_some hrd
        obtain ⟨hFk, _, _, h4, h5, h6, h7, _⟩ := hF
        have hc := c_add (stAt LL i).1 r (stAt LL i).2 hk hFk (by omega) (by omega)
        simp only at hsm
        rw [addM_eq] at hsm
        cases hb : (addX (stAt LL i).1 r (stAt LL i).2).2 with
        | false =>
          rw [hb] at hsm hc
          have hR := hpf' hsm
          subst hR
          generalize (addX (stAt LL i).1 r (stAt LL i).2).1 = x2 at *
          generalize stAt LL i = p at *
          obtain ⟨x, b⟩ := p
          obtain ⟨k, ns⟩ := r
          simp only [scenario.enc_eq, row.enc_eq] at hc hread
          simp (maxSteps := 10000000) (maxDischargeDepth := 30) (implicitDefEqProofs := false) [hI0, hii, hwi, hlti, hread, hc, hin, hti, hnn, hn', hn, hwn, hw3, hiL, noSetup, noTroubles, -f_text_read]
        | true =>
          rw [hb] at hsm hc
          obtain ⟨ha1, ha2⟩ := hnx _ hsm
          generalize (addX (stAt LL i).1 r (stAt LL i).2).1 = x2 at *
          obtain ⟨hp1, hp2⟩ : (stAt LL (i + 1)).1 = x2 ∧ (stAt LL (i + 1)).2 = r.kind := by rw [ha2]; exact ⟨rfl, rfl⟩
          generalize stAt LL i = p at *
          obtain ⟨x, b⟩ := p
          obtain ⟨k, ns⟩ := r
          simp only [scenario.enc_eq, row.enc_eq] at hc hread
          simp (maxSteps := 10000000) (maxDischargeDepth := 30) (implicitDefEqProofs := false) [hI0, hii, hwi, hlti, hread, hc, hin, hti, hnn, hn', hn, hwn, hw3, hiL, ha1, hp1, hp2, -f_text_read]
    · have hei : n = i := by omega
      subst hei
      have hF := hfi n hP0
      have hR := hpe hP0
      have hiL : n < LL.length := by omega
      have hgd := getD_at LL [] hiL
      rw [hgd] at hR
      have hw1 : IntKind.i64.wrap ((n : Int) + 1) = (n : Int) + 1 := wrap_i64 (by omega)
      obtain ⟨hFk, _, _, h4, h5, h6, h7, _⟩ := hF
      have hc := c_check (stAt LL n).1 (by omega)
      generalize stAt LL n = p at *
      obtain ⟨x, b⟩ := p
      simp only at hR hc hFk
      by_cases hz : LL[n] = []
      · rw [if_neg (by simp [hz])] at hR
        by_cases hb : b < 1
        · rw [if_pos hb] at hR
          subst hR
          simp (maxSteps := 10000000) (maxDischargeDepth := 30) (implicitDefEqProofs := false) [hI0, hii, hwi, hlti, hz, hb, hnn, hn', hn, hwn, hw1, hiL, noSetup, noTroubles]
          split <;> omega
        · rw [if_neg hb] at hR
          generalize checkM x.u x.t x.l = e at *
          simp only [scenario.enc_eq] at hc
          by_cases he : e = 0
          · subst he
            rw [if_neg (by simp)] at hR
            subst hR
            simp (maxSteps := 10000000) (maxDischargeDepth := 30) (implicitDefEqProofs := false) [hI0, hii, hwi, hlti, hz, hb, hc, hnn, hn', hn, hwn, hiL]
          · rw [if_pos he] at hR
            subst hR
            simp (maxSteps := 10000000) (maxDischargeDepth := 30) (implicitDefEqProofs := false) [hI0, hii, hwi, hlti, hz, hb, hc, he, hnn, hn', hn, hwn, hiL, noSetup, noTroubles]
      · rw [if_pos hz] at hR
        subst hR
        simp (maxSteps := 10000000) (maxDischargeDepth := 30) (implicitDefEqProofs := false) [hI0, hii, hwi, hlti, hz, hnn, hn', hn, hwn, hw1, hiL, noSetup, noTroubles]
  · simp (maxSteps := 10000000) (maxDischargeDepth := 30) (implicitDefEqProofs := false) [stAt, okAt_zero]
end Go.Proofs.YtcfmnogghcjdaaaDoor
namespace Go.Proofs.YtcfmnogghcjdaaaDoor
open Go Go.Abs Go.Abs.Api
theorem c_parseP (s : Str) (hl : s.length ≤ 100000) : pcall X 10 [.str s] = some (.tup [(parseM s).u.enc, (parseM s).t.enc, .sl false ((parseM s).l.map Choice.enc), .int .i64 (parseM s).n, .int .i64 (parseM s).e]) := f_text_Parse s hl
theorem c_parseR (s : Str) (hl : s.length ≤ 100000) : pcall X 15 [.str s] = some (.tup [(parseM s).u.enc, (parseM s).t.enc, .sl false ((parseM s).l.map Choice.enc), .int .i64 (parseM s).n, .int .i64 (parseM s).e]) := f_ref45_Parse s hl
theorem c_formatP (u : Setup) (t : Troubles) (l : List Choice) (h1 : t.faults.length ≤ 1000000 ∧ t.hangs.length ≤ 1000000 ∧ t.crashes.length ≤ 1000000 ∧ l.length ≤ 1000000) : pcall X 8 [u.enc, t.enc, .sl false (l.map Choice.enc)] = some (.tup [.str (formatM u t l).1, .int .i64 (formatM u t l).2]) :=
  f_text_Format u.program.code u.program.sizes u.program.data u.seeds u.outside.clock u.outside.random u.outside.inputs u.outside.files.data u.outside.files.opens u.outside.outputs u.period u.misses u.repairs u.pages u.least u.wait t.faults t.hangs t.crashes l h1
theorem c_same (a b : Setup) (c d : Troubles) (l m : List Choice) (h1 : c.faults.length ≤ 1000000 ∧ c.hangs.length ≤ 1000000 ∧ c.crashes.length ≤ 1000000 ∧ l.length ≤ 1000000) (h2 : d.faults.length ≤ 1000000 ∧ d.hangs.length ≤ 1000000 ∧ d.crashes.length ≤ 1000000 ∧ m.length ≤ 1000000) (hs1 : a.seeds.length ≤ 9223372036854775807) (hs2 : b.seeds.length ≤ 9223372036854775807) (hR1 : ∀ r ∈ rowsM a c l, ∀ n ∈ r.numbers, inI n) (hR2 : ∀ r ∈ rowsM b d m, ∀ n ∈ r.numbers, inI n) (he : formatM a c l = formatM b d m) : pcall X 11 [a.enc, b.enc, c.enc, d.enc, .sl false (l.map Choice.enc), .sl false (m.map Choice.enc)] = some (.bool true) :=
  f_law45_same a.program.code a.program.sizes a.program.data a.seeds a.outside.clock a.outside.random a.outside.inputs a.outside.files.data a.outside.files.opens a.outside.outputs a.period a.misses a.repairs a.pages a.least a.wait b.program.code b.program.sizes b.program.data b.seeds b.outside.clock b.outside.random b.outside.inputs b.outside.files.data b.outside.files.opens b.outside.outputs b.period b.misses b.repairs b.pages b.least b.wait c.faults c.hangs c.crashes d.faults d.hangs d.crashes l m h1 h2 hs1 hs2 hR1 hR2 he
structure Told (R : Parsed) : Prop where
  nums : numsB R.u R.t R.l = true
  lens : R.t.faults.length ≤ 1000000 ∧ R.t.hangs.length ≤ 1000000 ∧ R.t.crashes.length ≤ 1000000 ∧ R.l.length ≤ 1000000
  seeds : R.u.seeds.length ≤ 9223372036854775807
theorem told_none (n e : Int) : Told ⟨noSetup, noTroubles, [], n, e⟩ :=
  ⟨rfl, ⟨Nat.zero_le _, Nat.zero_le _, Nat.zero_le _, Nat.zero_le _⟩, Nat.zero_le _⟩
theorem go_all : ∀ (ls : List Str) (n : Nat), n ≤ ls.length → okAt ls n ∨ ∃ i, i < n ∧ okAt ls i ∧ stepM (stAt ls i) (ls.getD i []) = none
  | ls, 0, _ => .inl (okAt_zero ls)
  | ls, n + 1, h => by
    rcases go_all ls n (by omega) with h1 | ⟨i, h1, h2, h3⟩
    · cases e : stepM (stAt ls n) (ls.getD n []) with
      | none => exact .inr ⟨n, by omega, h1, e⟩
      | some q => exact .inl (okAt_succ h1 e).1
    · exact .inr ⟨i, by omega, h2, h3⟩
theorem told (s : Str) (hl : s.length ≤ 100000) : Told (parseM s) := by
  have hlen := cutL_len 10 s
  have hpos := List.length_pos_iff.2 (cutL_ne 10 s)
  obtain ⟨n, hn⟩ : ∃ n, (cutL 10 s).length = n + 1 := ⟨(cutL 10 s).length - 1, by omega⟩
  rcases go_all (cutL 10 s) n (by omega) with h | ⟨i, h1, h2, h3⟩
  · obtain ⟨_, _, h3, h4, h5, h6, h7, h8⟩ := fine_cut (by omega) h
    rw [parse_end hn h]
    split
    · exact told_none _ _
    · split
      · exact told_none _ _
      · split
        · exact told_none _ _
        · exact ⟨h3, by simp only; omega, by simp only; omega⟩
  · rw [parse_fail hn h1 h2 h3]
    exact told_none _ _
@[simp] theorem f_law45_agree (s : List UInt8) (hl : s.length ≤ 100000) : pcall X 6 [.str s] = some (.bool true) := by
  refine pcall_of Tryd.func6 rfl rfl ?_
  have h1 := c_parseP s hl
  have h2 := c_parseR s hl
  obtain ⟨t1, t2, t3⟩ := told s hl
  have h3 := c_same (parseM s).u (parseM s).u (parseM s).t (parseM s).t (parseM s).l (parseM s).l t2 t2 t3 t3 (nums_in t1) (nums_in t1) rfl
  generalize parseM s = R at *
  obtain ⟨u, t, l, n, e⟩ := R
  simp only at h1 h2 h3
  simp only [Setup.enc_eq, Troubles.enc_eq] at h1 h2 h3
  simp (maxSteps := 10000000) (maxDischargeDepth := 30) (implicitDefEqProofs := false) [h1, h2, h3, -f_text_Parse, -f_ref45_Parse]
def plainB : Str := [115, 101, 116, 117, 112, 32, 53, 32, 48, 32, 50, 32, 51, 32, 50, 32, 49, 10, 115, 101, 101, 100, 115, 32, 49, 32, 50, 32, 51, 10, 102, 97, 117, 108, 116, 32, 50, 32, 49, 32, 52, 32, 48, 32, 51, 32, 55, 10, 104, 97, 110, 103, 32, 51, 32, 50, 32, 49, 10, 99, 114, 97, 115, 104, 32, 52, 32, 49, 10, 99, 104, 111, 105, 99, 101, 32, 48, 32, 53, 32, 49, 10, 99, 104, 111, 105, 99, 101, 32, 49, 32, 48, 32, 48, 10]
def plainU : Setup := { noSetup with period := 5, misses := 0, repairs := 2, pages := 3, least := 2, wait := 1, seeds := [1, 2, 3] }
def plainT : Troubles := ⟨[⟨2, 1, 4, 0, 3, 7⟩], [⟨3, 2, 1⟩], [⟨4, true⟩]⟩
def plainL : List Choice := [⟨0, 5, true⟩, ⟨1, 0, false⟩]
theorem itoa_one {n : Nat} (h : n < 10) : Lib.itoa (n : Int) = [UInt8.ofNat (48 + n)] := by
  unfold Lib.itoa
  rw [if_neg (by omega), Int.toNat_natCast, Lib.decDigits_one h]
theorem plain_text : textM plainU plainT plainL = plainB := by
  have i0 : Lib.itoa 0 = [48] := itoa_one (n := 0) (by omega)
  have i1 : Lib.itoa 1 = [49] := itoa_one (n := 1) (by omega)
  have i2 : Lib.itoa 2 = [50] := itoa_one (n := 2) (by omega)
  have i3 : Lib.itoa 3 = [51] := itoa_one (n := 3) (by omega)
  have i4 : Lib.itoa 4 = [52] := itoa_one (n := 4) (by omega)
  have i5 : Lib.itoa 5 = [53] := itoa_one (n := 5) (by omega)
  have i7 : Lib.itoa 7 = [55] := itoa_one (n := 7) (by omega)
  simp [textM, rowsM, plainU, plainT, plainL, setupN, faultN, hangN, crashN, choiceN, rowS, b2i, wordsL, wSetup, wSeeds, wFault, wHang, wCrash, wChoice, i0, i1, i2, i3, i4, i5, i7, plainB]
theorem plain_check : checkM plainU plainT plainL = 0 := by decide
theorem plain_parse : parseM plainB = ⟨plainU, plainT, plainL, 0, 0⟩ := by
  rw [← plain_text, parse_text plain_check]
  rfl
theorem plain_event : eventsM [⟨3, 2, 1, 0⟩] = [102, 111, 117, 110, 100, 32, 51, 32, 49, 32, 48, 10] := by
  have i0 : Lib.itoa 0 = [48] := itoa_one (n := 0) (by omega)
  have i1 : Lib.itoa 1 = [49] := itoa_one (n := 1) (by omega)
  have i3 : Lib.itoa 3 = [51] := itoa_one (n := 3) (by omega)
  simp [eventsM, evM, lineS, num, okN, kindsL, kindOf, i0, i1, i3]
@[simp] theorem f_law45_awake : pcall X 7 [] = some (.bool true) := by
  refine pcall_of Tryd.func7 rfl rfl ?_
  have h1 := c_parseP plainB (by decide)
  rw [plain_parse] at h1
  have h2 := c_formatP plainU plainT plainL (by decide)
  have hf : formatM plainU plainT plainL = (plainB, 0) := by
    unfold formatM
    rw [if_pos plain_check, plain_text]
  rw [hf] at h2
  have h3 := p_events [⟨3, 2, 1, 0⟩] (by decide) (by
    intro e he
    simp at he
    subst he
    simp [inEv, inI])
  rw [plain_event] at h3
  have h1' : pcall X 10 [.str plainB] = some (.tup [.agg [.sl false [], .sl false [], .sl false [], .sl false [.int .i64 1, .int .i64 2, .int .i64 3], .sl false [], .sl false [], .sl false [], .sl false [], .sl false [], .sl false [], .int .i64 5, .int .i64 0, .int .i64 2, .int .i64 3, .int .i64 2, .int .i64 1], .agg [.sl false [Fault.enc ⟨2, 1, 4, 0, 3, 7⟩], .sl false [Hang.enc ⟨3, 2, 1⟩], .sl false [Crash.enc ⟨4, true⟩]], .sl false [Choice.enc ⟨0, 5, true⟩, Choice.enc ⟨1, 0, false⟩], .int .i64 0, .int .i64 0]) := h1
  have h2' : pcall X 8 [.agg [.sl false [], .sl false [], .sl false [], .sl false [.int .i64 1, .int .i64 2, .int .i64 3], .sl false [], .sl false [], .sl false [], .sl false [], .sl false [], .sl false [], .int .i64 5, .int .i64 0, .int .i64 2, .int .i64 3, .int .i64 2, .int .i64 1], .agg [.sl false [Fault.enc ⟨2, 1, 4, 0, 3, 7⟩], .sl false [Hang.enc ⟨3, 2, 1⟩], .sl false [Crash.enc ⟨4, true⟩]], .sl false [Choice.enc ⟨0, 5, true⟩, Choice.enc ⟨1, 0, false⟩]] = some (.tup [.str plainB, .int .i64 0]) := h2
  simp only [List.map_cons, List.map_nil, Event.enc_eq] at h3
  simp only [Fault.enc_eq, Hang.enc_eq, Crash.enc_eq, Choice.enc_eq] at h1' h2'
  unfold plainB at h1' h2'
  clear h1 h2
  simp (maxSteps := 10000000) (maxDischargeDepth := 30) (implicitDefEqProofs := false) [h1', h2', h3, -f_text_Parse, -f_text_Format, -p_events]
@[simp] theorem f_law45_TextRaw (s : List UInt8)  : pcall X 3 [.str s] = some (.bool true) := by
  refine pcall_of Tryd.func3 rfl rfl ?_
  have hg := f_law45_agree s
  by_cases h : (2000 : Int) < (s.length : Int)
  · simp (maxSteps := 10000000) (maxDischargeDepth := 30) (implicitDefEqProofs := false) [h]
  · have h' := hg (by omega)
    simp (maxSteps := 10000000) (maxDischargeDepth := 30) (implicitDefEqProofs := false) [h, h', -f_law45_agree]
@[simp] theorem f_law45_TextEvents (l : List Api.Event) (hn : ∀ e ∈ l, inEv e) : pcall X 5 [.sl false (l.map Api.Event.enc)] = some (.bool true) := by
  refine pcall_of Tryd.func5 rfl rfl ?_
  by_cases h : (200 : Int) < (l.length : Int)
  · simp (maxSteps := 10000000) (maxDischargeDepth := 30) (implicitDefEqProofs := false) [h]
  · have h1 := p_events l (by omega) hn
    have h2 := f_ref45_Events l (by omega) hn
    simp (maxSteps := 10000000) (maxDischargeDepth := 30) (implicitDefEqProofs := false) [h, h1, h2, -p_events, -f_ref45_Events]
end Go.Proofs.YtcfmnogghcjdaaaDoor
