/- Part of a proof: S1, S2, S3, S4, S5, S6, S7, S8. -/
import Derived.Test.YtcfmnogghcjdaaaGreatDoorV09
set_option linter.all false
set_option maxRecDepth 100000
set_option maxHeartbeats 20000000
namespace Go.Proofs.YtcfmnogghcjdaaaGreatDoor
open Go Go.Abs Go.Abs.Api
@[simp] theorem p_itoa (n : Int) (h : -9223372036854775808 ≤ n ∧ n ≤ 9223372036854775807) : pcall X 56 [.int .i64 n] = some (.str (Lib.itoa n)) :=
  pcall_prim (pr := itoaP) (v := .str (Lib.itoa n)) rfl (by simp [itoaP, mkPrim, itoaRun, h]) rfl
@[simp] theorem f_ref45_small (n : Int)  : pcall X 19 [.int .i64 n] = some (.bool (okN n)) := by
  refine pcall_of Tryz.func19 rfl rfl ?_
  simp (maxSteps := 10000000) (maxDischargeDepth := 30) (implicitDefEqProofs := false) [okN]
  constructor <;> intros <;> omega
@[simp] theorem f_text_outside (n : Int)  : pcall X 49 [.int .i64 n] = some (.bool (!okN n)) := by
  refine pcall_of Tryz.func49 rfl rfl ?_
  simp (maxSteps := 10000000) (maxDischargeDepth := 30) (implicitDefEqProofs := false) [okN]
  refine ⟨fun h => ?_, fun h => by omega⟩
  by_cases h2 : n ≤ 1099511627776 <;> simp [h, h2] <;> omega
@[simp] theorem f_ref45_bit (b : Bool)  : pcall X 37 [.bool b] = some (.int .i64 (b2i b)) := by
  refine pcall_of Tryz.func37 rfl rfl ?_
  by_cases h : b = true <;> simp (maxSteps := 10000000) (maxDischargeDepth := 30) (implicitDefEqProofs := false) [b2i, h]
@[simp] theorem f_text_truth (b : Bool)  : pcall X 53 [.bool b] = some (.int .i64 (b2i b)) := by
  refine pcall_of Tryz.func53 rfl rfl ?_
  by_cases h : b = true <;> simp (maxSteps := 10000000) (maxDischargeDepth := 30) (implicitDefEqProofs := false) [b2i, h]
@[simp] theorem f_text_kinds : pcall X 35 [] = some (.agg (kindsL.map .str)) := by
  refine pcall_of Tryz.func35 rfl rfl ?_
  simp (maxSteps := 10000000) (maxDischargeDepth := 30) (implicitDefEqProofs := false) [kindsL]
@[simp] theorem f_text_words : pcall X 55 [] = some (.agg (wordsL.map .str)) := by
  refine pcall_of Tryz.func55 rfl rfl ?_
  simp (maxSteps := 10000000) (maxDischargeDepth := 30) (implicitDefEqProofs := false) [wordsL, wSetup, wSeeds, wFault, wHang, wCrash, wChoice]
@[simp] theorem f_report_Number (n : Int) (hn : -9223372036854775808 ≤ n ∧ n ≤ 9223372036854775807) : pcall X 36 [.int .i64 n] = some (.str (num n)) := by
  refine pcall_of Tryz.func36 rfl rfl ?_
  have a1 := hn.1
  have a2 := hn.2
  by_cases h : okN n = true
  · have h' : -1099511627776 ≤ n ∧ n ≤ 1099511627776 := by simpa [okN] using h
    have h3 : ¬ n < -1099511627776 := by omega
    have h4 : ¬ 1099511627776 < n := by omega
    simp (maxSteps := 10000000) (maxDischargeDepth := 30) (implicitDefEqProofs := false) [a1, a2, h3, h4, num, h]
  · have h' : ¬ (-1099511627776 ≤ n ∧ n ≤ 1099511627776) := by simpa [okN] using h
    by_cases h3 : n < -1099511627776
    · simp (maxSteps := 10000000) (maxDischargeDepth := 30) (implicitDefEqProofs := false) [a1, a2, h3, num, h]
    · have h4 : 1099511627776 < n := by omega
      simp (maxSteps := 10000000) (maxDischargeDepth := 30) (implicitDefEqProofs := false) [a1, a2, h3, h4, num, h]
theorem dec_len10 : ∀ k m : Nat, m < 10 ^ (k + 1) → (Lib.decDigits m).length ≤ k + 1 := by
  intro k
  induction k with
  | zero => intro m h; simp [Lib.decDigits_one (show m < 10 by omega)]
  | succ k ih =>
    intro m h
    by_cases h1 : m < 10
    · simp [Lib.decDigits_one h1]
    · have := ih (m / 10) (by rw [Nat.pow_succ] at h; omega)
      rw [Lib.decDigits, dif_neg h1]
      simp
      omega
theorem itoa_len {n : Int} (h : okN n = true) : (Lib.itoa n).length ≤ 14 := by
  have h' : -1099511627776 ≤ n ∧ n ≤ 1099511627776 := by simpa [okN] using h
  unfold Lib.itoa
  split
  · have := dec_len10 12 n.natAbs (by omega)
    simp; omega
  · have := dec_len10 12 n.toNat (by omega)
    omega
theorem num_len (n : Int) : (num n).length ≤ 14 := by
  unfold num
  split
  · exact itoa_len (by assumption)
  · exact itoa_len (n := 0) rfl
theorem lineS_len (w : Str) (ns : List Int) : (lineS w ns).length ≤ w.length + 15 * ns.length := by
  unfold lineS
  induction ns with
  | nil => simp
  | cons n ns ih =>
    have := num_len n
    simp at ih ⊢
    omega
theorem lineS_snoc (w : Str) (ns : List Int) (n : Int) : lineS w (ns ++ [n]) = lineS w ns ++ [32] ++ num n := by simp [lineS]
def inI (n : Int) : Prop := -9223372036854775808 ≤ n ∧ n ≤ 9223372036854775807
theorem dec_len : ∀ m : Nat, (Lib.decDigits m).length ≤ m + 1 := by
  intro m
  induction m using Nat.strongRecOn with
  | _ m ih =>
  by_cases h : m < 10
  · simp [Lib.decDigits_one h]
  · have := ih (m / 10) (by omega)
    rw [Lib.decDigits, dif_neg h]
    simp
    omega
theorem f_dec_nat : ∀ (m : Nat), m ≤ 1099511627776 → pcall X 38 [.int .i64 (m : Int)] = some (.str (Lib.decDigits m)) := by
  intro m
  induction m using Nat.strongRecOn with
  | _ m ih =>
  intro hm
  refine pcall_of Tryz.func38 rfl rfl ?_
  have h1 : ¬ (m : Int) < -1099511627776 := by omega
  have h2 : ¬ (1099511627776 : Int) < m := by omega
  have h3 : ¬ (m : Int) < 0 := by omega
  by_cases h10 : m < 10
  · have h4 : (m : Int) < 10 := by omega
    have w1 : IntKind.i64.wrap (48 + (m : Int)) = 48 + m := wrap_i64 (by omega)
    have w2 : IntKind.u8.wrap (48 + (m : Int)) = 48 + m := wrap_u8 (by omega)
    have w3 : (48 + (m : Int)).toNat = 48 + m := by omega
    simp (maxSteps := 10000000) (maxDischargeDepth := 30) (implicitDefEqProofs := false) [h1, h2, h3, h4, w1, w2, w3, Lib.decDigits_one h10]
  · have h4 : ¬ (m : Int) < 10 := by omega
    have ih' := ih (m / 10) (by omega) (by omega)
    have q : (m : Int).tdiv 10 = ((m / 10 : Nat) : Int) := by rw [Int.tdiv_eq_ediv_of_nonneg (by omega)]; omega
    have r : (m : Int).tmod 10 = ((m % 10 : Nat) : Int) := by rw [Int.tmod_eq_emod_of_nonneg (by omega)]; omega
    have w0 : IntKind.i64.wrap ((m / 10 : Nat) : Int) = ((m / 10 : Nat) : Int) := wrap_i64 (by omega)
    have w00 : IntKind.i64.wrap ((m % 10 : Nat) : Int) = ((m % 10 : Nat) : Int) := wrap_i64 (by omega)
    have w1 : IntKind.i64.wrap (48 + ((m % 10 : Nat) : Int)) = 48 + ((m % 10 : Nat) : Int) := wrap_i64 (by omega)
    have w2 : IntKind.u8.wrap (48 + ((m % 10 : Nat) : Int)) = 48 + ((m % 10 : Nat) : Int) := wrap_u8 (by omega)
    have w3 : (48 + ((m % 10 : Nat) : Int)).toNat = 48 + m % 10 := by omega
    have hd : Lib.decDigits m = Lib.decDigits (m / 10) ++ [UInt8.ofNat (48 + m % 10)] := by rw [Lib.decDigits, dif_neg h10]
    have hl := dec_len (m / 10)
    have hl' : (Lib.decDigits (m / 10)).length ≤ 4611686018427387903 := by omega
    simp (maxSteps := 10000000) (maxDischargeDepth := 30) (implicitDefEqProofs := false) [hl', h1, h2, h3, h4, q, r, w0, w00, w1, w2, w3, ih', hd, -Int.natCast_ediv, -Int.natCast_emod]
@[simp] theorem f_ref42_Decimal (n : Int) (hn : -9223372036854775808 ≤ n ∧ n ≤ 9223372036854775807) : pcall X 38 [.int .i64 n] = some (.str (num n)) := by
  have hz : Lib.decDigits 0 = [48] := by rw [Lib.decDigits_one (by omega)]; rfl
  by_cases h : okN n = true
  · have h' : -1099511627776 ≤ n ∧ n ≤ 1099511627776 := by simpa [okN] using h
    have h3 : ¬ n < -1099511627776 := by omega
    have h4 : ¬ 1099511627776 < n := by omega
    by_cases h0 : n < 0
    · have w : IntKind.i64.wrap (-n) = (n.natAbs : Int) := by rw [wrap_i64 (by omega)]; omega
      have e := f_dec_nat n.natAbs (by omega)
      have hl := dec_len n.natAbs
      have hl' : 1 + (Lib.decDigits n.natAbs).length ≤ 4611686018427387904 := by omega
      have hit : Lib.itoa n = 45 :: Lib.decDigits n.natAbs := by simp [Lib.itoa, h0]
      refine pcall_of Tryz.func38 rfl rfl ?_
      generalize n.natAbs = m at *
      simp (maxSteps := 10000000) (maxDischargeDepth := 30) (implicitDefEqProofs := false) [h3, h4, h0, w, e, num, h, hl', hit]
    · obtain ⟨m, rfl⟩ : ∃ m : Nat, n = m := ⟨n.toNat, by omega⟩
      rw [f_dec_nat m (by omega)]
      simp [num, h, Lib.itoa]
  · have h' : ¬ (-1099511627776 ≤ n ∧ n ≤ 1099511627776) := by simpa [okN] using h
    refine pcall_of Tryz.func38 rfl rfl ?_
    by_cases h3 : n < -1099511627776
    · simp (maxSteps := 10000000) (maxDischargeDepth := 30) (implicitDefEqProofs := false) [h3, num, h, Lib.itoa, hz, wrap_i64, wrap_u8]
    · have h4 : 1099511627776 < n := by omega
      simp (maxSteps := 10000000) (maxDischargeDepth := 30) (implicitDefEqProofs := false) [h3, h4, num, h, Lib.itoa, hz, wrap_i64, wrap_u8]
@[simp] theorem f_ref45_line (word : List UInt8) (n : List Int) (hw : word.length ≤ 1000000000) (hl : n.length ≤ 1000000000) (hn : ∀ x ∈ n, inI x) : pcall X 20 [.str word, .sl false (n.map (V.int .i64))] = some (.str (lineS word n)) := by
  refine pcall_of Tryz.func20 rfl rfl ?_
  simp (maxSteps := 10000000) (maxDischargeDepth := 30) (implicitDefEqProofs := false) []
  refine Wp_up (fun i S => (S.f 0 = .str (lineS word (n.take i)) ∧ S.f 1 = .sl false (n.map (V.int .i64)) ∧ S.f 5 = .int .i64 (i : Int) ∧ S.n = 1100) ∧ True) (n.length) ?_ 0 (by simp) ?_
  · rintro i S hii ⟨hI0, hP0⟩
    have hwi : IntKind.i64.wrap ((i : Int) + 1) = (i : Int) + 1 := wrap_i64 (by omega)
    by_cases hlti : i < n.length
    · have hx := hn _ (List.getElem_mem hlti)
      unfold inI at hx
      have e1 := lineS_len word (n.take i)
      have e2 := num_len n[i]
      rw [List.length_take] at e1
      have e3 : (lineS word (n.take i)).length ≤ 16000000000 := by omega
      have e4 : (lineS word (n.take i)).length + 1 ≤ 4611686018427387904 := by omega
      have e5 : (lineS word (n.take i)).length + 1 + (num n[i]).length ≤ 4611686018427387904 := by omega
      simp (maxSteps := 10000000) (maxDischargeDepth := 30) (implicitDefEqProofs := false) [hI0, hii, hwi, hlti, hx, e4, e5]
      rw [take_snoc hlti, lineS_snoc]
      simp
    · have hei : n.length = i := by omega
      subst hei
      simp (maxSteps := 10000000) (maxDischargeDepth := 30) (implicitDefEqProofs := false) [hI0, hii, hwi, hlti] <;> (
        simp)
  · simp (maxSteps := 10000000) (maxDischargeDepth := 30) (implicitDefEqProofs := false) [] <;> (
      simp [lineS])
end Go.Proofs.YtcfmnogghcjdaaaGreatDoor
namespace Go.Proofs.YtcfmnogghcjdaaaGreatDoor
open Go Go.Abs Go.Abs.Api
def u8s (s : Str) : List Int := s.map fun b => (b.toNat : Int)
theorem u8s_append (a b : Str) : u8s (a ++ b) = u8s a ++ u8s b := by simp [u8s]
@[simp] theorem bytesOf_u8s (s : Str) : bytesOf ((u8s s).map (V.int .u8)) = some s := by rw [u8s, List.map_map]; exact bytesOf_map s
@[simp] theorem take_u8s (s : Str) : List.take s.length ((u8s s).map (V.int .u8)) = (u8s s).map (V.int .u8) := List.take_of_length_le (by simp [u8s])
@[simp] theorem u8s_len (a : Str) : (u8s a).length = a.length := by simp [u8s]
def inEv (e : Api.Event) : Prop := inI e.time ∧ inI e.kind ∧ inI e.replica ∧ inI e.detail
theorem eventsM_snoc (l : List Api.Event) (e : Api.Event) : eventsM (l ++ [e]) = eventsM l ++ evM e := by simp [eventsM]
theorem kindsL_len : ∀ k, (kindsL.getD k []).length ≤ 8 := by
  intro k
  by_cases h : k < 11
  · have : k = 0 ∨ k = 1 ∨ k = 2 ∨ k = 3 ∨ k = 4 ∨ k = 5 ∨ k = 6 ∨ k = 7 ∨ k = 8 ∨ k = 9 ∨ k = 10 := by omega
    rcases this with rfl | rfl | rfl | rfl | rfl | rfl | rfl | rfl | rfl | rfl | rfl <;> decide
  · rw [List.getD_eq_getElem?_getD, List.getElem?_eq_none (by simp [kindsL]; omega)]; simp
theorem evM_len (e : Api.Event) : (evM e).length ≤ 60 := by
  have h := lineS_len (kindsL.getD (kindOf e.kind) []) [e.time, e.replica, e.detail]
  have hk := kindsL_len (kindOf e.kind)
  simp only [List.length_cons, List.length_nil] at h
  unfold evM
  rw [List.length_append]
  simp only [List.length_cons, List.length_nil]
  omega
theorem eventsM_len (l : List Api.Event) : (eventsM l).length ≤ 60 * l.length := by
  unfold eventsM
  induction l with
  | nil => simp
  | cons e l ih =>
    have := evM_len e
    simp at ih ⊢
    omega
theorem evOf_enc (e : Api.Event) : evOf e.enc = some ⟨e.time, e.kind, e.replica, e.detail⟩ := rfl
theorem pc_num {n : Int} (h : inI n) : numO n (callL X) = some (num n) := by
  have h1 := f_report_Number n h
  have h2 : pc (callL X) 36 [.int .i64 n] = some (.str (num n)) := h1
  unfold numO
  rw [h2]; rfl
@[simp] theorem p_events (l : List Api.Event) (hl : l.length ≤ 1000000) (hn : ∀ e ∈ l, inEv e) : pcall X 17 [.sl false (l.map Api.Event.enc)] = some (.str (eventsM l)) := by
  refine pcall_prim (pr := eventsP) (v := .str (eventsM l)) rfl ?_ rfl
  simp only [eventsP, mkPrim]
  have hk : pc (callL X) 35 [] = some (.agg (kindsL.map .str)) := f_text_kinds
  have hlines : mapO evLineO (l.map Api.Event.enc) (callL X) = some (l.map fun e => ((⟨e.time, e.kind, e.replica, e.detail⟩ : Ev), evM e)) := by
    have := mapO_of (f := fun (e : Api.Event) C => evLineO e.enc C) (C := callL X) (g := fun e => ((⟨e.time, e.kind, e.replica, e.detail⟩ : Ev), evM e)) (l := l) (fun e he => by
      have h := hn e he
      show evLineO e.enc (callL X) = _
      unfold evLineO
      rw [evOf_enc, Option.bind_some, pc_num h.1, Option.bind_some, pc_num h.2.2.1, Option.bind_some, pc_num h.2.2.2, Option.bind_some]
      simp [evM, lineS])
    rw [← this]
    clear this hn hl
    induction l with
    | nil => rfl
    | cons e l ih => simp only [List.map_cons, mapO, ih]
  have hf : ((l.map fun e => ((⟨e.time, e.kind, e.replica, e.detail⟩ : Ev), evM e)).map (·.2)).flatten = eventsM l := by
    rw [List.map_map]; rfl
  have hlen := eventsM_len l
  unfold eventsRun
  simp only [List.length_map]
  rw [if_pos (by omega), hk, Option.bind_some, if_pos (by decide), hlines, Option.bind_some, hf, if_pos (by omega)]
end Go.Proofs.YtcfmnogghcjdaaaGreatDoor
namespace Go.Proofs.YtcfmnogghcjdaaaGreatDoor
open Go Go.Abs Go.Abs.Api
def encLI64 (x : List Int) : V := .sl false (x.map (V.int .i64))
theorem encLI64_eq (x : List Int) : encLI64 x = .sl false (x.map (V.int .i64)) := rfl
@[simp] theorem encLI64_cells_eq (x : List Int) : (encLI64 x).cells = [.sl false (x.map (V.int .i64))] := rfl
@[simp] theorem encLI64_dull (x : List Int) : (encLI64 x).dull = encLI64 x := by simp [encLI64_eq, V.dull]
@[simp] theorem dull_LI64 (l : List (List Int)) : dullL (l.map encLI64) = l.map encLI64 := dullL_map (fun x => encLI64_dull x) l
def rowW (r : row) : Str := wordsL.getD r.kind.toNat []
theorem rowsM_f (u : Setup) (fs : List Fault) (f : Fault) : rowsM u ⟨fs ++ [f], [], []⟩ [] = rowsM u ⟨fs, [], []⟩ [] ++ [⟨2, faultN f⟩] := by simp [rowsM]
theorem rowsM_h (u : Setup) (fs : List Fault) (hs : List Hang) (h : Hang) : rowsM u ⟨fs, hs ++ [h], []⟩ [] = rowsM u ⟨fs, hs, []⟩ [] ++ [⟨3, hangN h⟩] := by simp [rowsM]
theorem rowsM_c (u : Setup) (fs : List Fault) (hs : List Hang) (cs : List Crash) (c : Crash) : rowsM u ⟨fs, hs, cs ++ [c]⟩ [] = rowsM u ⟨fs, hs, cs⟩ [] ++ [⟨4, crashN c⟩] := by simp [rowsM]
theorem rowsM_l (u : Setup) (t : Troubles) (l : List Choice) (c : Choice) : rowsM u t (l ++ [c]) = rowsM u t l ++ [⟨5, choiceN c⟩] := by simp [rowsM]
theorem rowsM_len (u : Setup) (t : Troubles) (l : List Choice) : (rowsM u t l).length = 2 + t.faults.length + t.hangs.length + t.crashes.length + l.length := by simp [rowsM]; omega
@[simp] theorem f_ref45_lines (u_program_code : List Instr) (u_program_sizes : List Int) (u_program_data : List (List Int)) (u_seeds : List Int) (u_outside_clock : List Int) (u_outside_random : List Int) (u_outside_inputs : List (List Int)) (u_outside_files_data : List (List Canon)) (u_outside_files_opens : List Opn) (u_outside_outputs : List Output) (u_period : Int) (u_misses : Int) (u_repairs : Int) (u_pages : Int) (u_least : Int) (u_wait : Int) (t_faults : List Fault) (t_hangs : List Hang) (t_crashes : List Crash) (l : List Choice) (h1 : t_faults.length ≤ 1000000 ∧ t_hangs.length ≤ 1000000 ∧ t_crashes.length ≤ 1000000 ∧ l.length ≤ 1000000) : pcall X 18 [.agg [.sl false (u_program_code.map Instr.enc), .sl false (u_program_sizes.map (V.int .i64)), .sl false (u_program_data.map encLU16), .sl false (u_seeds.map (V.int .i64)), .sl false (u_outside_clock.map (V.int .u16)), .sl false (u_outside_random.map (V.int .u16)), .sl false (u_outside_inputs.map encLU16), .sl false (u_outside_files_data.map encLCanon), .sl false (u_outside_files_opens.map Opn.enc), .sl false (u_outside_outputs.map Output.enc), .int .i64 u_period, .int .i64 u_misses, .int .i64 u_repairs, .int .i64 u_pages, .int .i64 u_least, .int .i64 u_wait], .agg [.sl false (t_faults.map Fault.enc), .sl false (t_hangs.map Hang.enc), .sl false (t_crashes.map Crash.enc)], .sl false (l.map Choice.enc)] = some (.tup [.sl false ((((rowsM (Setup.mk (Prog.mk u_program_code u_program_sizes u_program_data) u_seeds (Outs.mk u_outside_clock u_outside_random u_outside_inputs (Files.mk u_outside_files_data u_outside_files_opens) u_outside_outputs) u_period u_misses u_repairs u_pages u_least u_wait) (Troubles.mk t_faults t_hangs t_crashes) l).map rowW)).map V.str), .sl false ((((rowsM (Setup.mk (Prog.mk u_program_code u_program_sizes u_program_data) u_seeds (Outs.mk u_outside_clock u_outside_random u_outside_inputs (Files.mk u_outside_files_data u_outside_files_opens) u_outside_outputs) u_period u_misses u_repairs u_pages u_least u_wait) (Troubles.mk t_faults t_hangs t_crashes) l).map row.numbers)).map encLI64)]) := by
  refine pcall_of Tryz.func18 rfl rfl ?_
  simp (maxSteps := 10000000) (maxDischargeDepth := 30) (implicitDefEqProofs := false) []
  refine Wp_up (fun i S => (S.f 2 = .sl false (l.map Choice.enc) ∧ S.f 4 = .ptr 4 0 0 ∧ S.h 4 = some ⟨3, [.agg [.sl false (t_faults.map Fault.enc), .sl false (t_hangs.map Hang.enc), .sl false (t_crashes.map Crash.enc)]], true⟩ ∧ S.f 8 = .hdr 8 0 (((((rowsM (Setup.mk (Prog.mk u_program_code u_program_sizes u_program_data) u_seeds (Outs.mk u_outside_clock u_outside_random u_outside_inputs (Files.mk u_outside_files_data u_outside_files_opens) u_outside_outputs) u_period u_misses u_repairs u_pages u_least u_wait) ⟨t_faults.take i, [], []⟩ []).map rowW)).map V.str)).length ∧ S.h 8 = some ⟨1, ((((rowsM (Setup.mk (Prog.mk u_program_code u_program_sizes u_program_data) u_seeds (Outs.mk u_outside_clock u_outside_random u_outside_inputs (Files.mk u_outside_files_data u_outside_files_opens) u_outside_outputs) u_period u_misses u_repairs u_pages u_least u_wait) ⟨t_faults.take i, [], []⟩ []).map rowW)).map V.str), false⟩ ∧ S.f 9 = .hdr 9 0 (((((rowsM (Setup.mk (Prog.mk u_program_code u_program_sizes u_program_data) u_seeds (Outs.mk u_outside_clock u_outside_random u_outside_inputs (Files.mk u_outside_files_data u_outside_files_opens) u_outside_outputs) u_period u_misses u_repairs u_pages u_least u_wait) ⟨t_faults.take i, [], []⟩ []).map row.numbers)).map encLI64)).length ∧ S.h 9 = some ⟨1, ((((rowsM (Setup.mk (Prog.mk u_program_code u_program_sizes u_program_data) u_seeds (Outs.mk u_outside_clock u_outside_random u_outside_inputs (Files.mk u_outside_files_data u_outside_files_opens) u_outside_outputs) u_period u_misses u_repairs u_pages u_least u_wait) ⟨t_faults.take i, [], []⟩ []).map row.numbers)).map encLI64), false⟩ ∧ S.f 10 = .int .i64 (i : Int) ∧ S.n = 1100) ∧ True) (t_faults.length) ?_ 0 (by simp) ?_
  · rintro i S hii ⟨hI0, hP0⟩
    have hwi : IntKind.i64.wrap ((i : Int) + 1) = (i : Int) + 1 := wrap_i64 (by omega)
    by_cases hlti : i < t_faults.length
    · generalize hu : (Setup.mk (Prog.mk u_program_code u_program_sizes u_program_data) u_seeds (Outs.mk u_outside_clock u_outside_random u_outside_inputs (Files.mk u_outside_files_data u_outside_files_opens) u_outside_outputs) u_period u_misses u_repairs u_pages u_least u_wait) = uu at *
      have hlen := rowsM_len uu ⟨t_faults.take i, [], []⟩ []
      have hs := rowsM_f uu (t_faults.take i) t_faults[i]
      rw [← take_snoc hlti] at hs
      simp only [List.length_take, List.length_nil] at hlen
      generalize rowsM uu ⟨t_faults.take i, [], []⟩ [] = R at *
      simp (maxSteps := 10000000) (maxDischargeDepth := 30) (implicitDefEqProofs := false) [hI0, hii, hwi, hlti, hs]
      refine ⟨⟨by omega, by omega⟩, fun _ _ => ⟨⟨by omega, by omega⟩, fun _ _ => ⟨rfl, rfl⟩⟩⟩
    · have hei : t_faults.length = i := by omega
      subst hei
      simp (maxSteps := 10000000) (maxDischargeDepth := 30) (implicitDefEqProofs := false) [hI0, hii, hwi, hlti]
      refine Wp_up (fun j S => (S.f 2 = .sl false (l.map Choice.enc) ∧ S.f 4 = .ptr 4 0 0 ∧ S.h 4 = some ⟨3, [.agg [.sl false (t_faults.map Fault.enc), .sl false (t_hangs.map Hang.enc), .sl false (t_crashes.map Crash.enc)]], true⟩ ∧ S.f 8 = .hdr 8 0 (((((rowsM (Setup.mk (Prog.mk u_program_code u_program_sizes u_program_data) u_seeds (Outs.mk u_outside_clock u_outside_random u_outside_inputs (Files.mk u_outside_files_data u_outside_files_opens) u_outside_outputs) u_period u_misses u_repairs u_pages u_least u_wait) ⟨t_faults, t_hangs.take j, []⟩ []).map rowW)).map V.str)).length ∧ S.h 8 = some ⟨1, ((((rowsM (Setup.mk (Prog.mk u_program_code u_program_sizes u_program_data) u_seeds (Outs.mk u_outside_clock u_outside_random u_outside_inputs (Files.mk u_outside_files_data u_outside_files_opens) u_outside_outputs) u_period u_misses u_repairs u_pages u_least u_wait) ⟨t_faults, t_hangs.take j, []⟩ []).map rowW)).map V.str), false⟩ ∧ S.f 9 = .hdr 9 0 (((((rowsM (Setup.mk (Prog.mk u_program_code u_program_sizes u_program_data) u_seeds (Outs.mk u_outside_clock u_outside_random u_outside_inputs (Files.mk u_outside_files_data u_outside_files_opens) u_outside_outputs) u_period u_misses u_repairs u_pages u_least u_wait) ⟨t_faults, t_hangs.take j, []⟩ []).map row.numbers)).map encLI64)).length ∧ S.h 9 = some ⟨1, ((((rowsM (Setup.mk (Prog.mk u_program_code u_program_sizes u_program_data) u_seeds (Outs.mk u_outside_clock u_outside_random u_outside_inputs (Files.mk u_outside_files_data u_outside_files_opens) u_outside_outputs) u_period u_misses u_repairs u_pages u_least u_wait) ⟨t_faults, t_hangs.take j, []⟩ []).map row.numbers)).map encLI64), false⟩ ∧ S.f 12 = .int .i64 (j : Int) ∧ S.n = 1100) ∧ True) (t_hangs.length) ?_ 0 (by simp) ?_
      · rintro j S hij ⟨hI1, hP1⟩
        have hwj : IntKind.i64.wrap ((j : Int) + 1) = (j : Int) + 1 := wrap_i64 (by omega)
        by_cases hltj : j < t_hangs.length
        · generalize hu : (Setup.mk (Prog.mk u_program_code u_program_sizes u_program_data) u_seeds (Outs.mk u_outside_clock u_outside_random u_outside_inputs (Files.mk u_outside_files_data u_outside_files_opens) u_outside_outputs) u_period u_misses u_repairs u_pages u_least u_wait) = uu at *
          have hlen := rowsM_len uu ⟨t_faults, t_hangs.take j, []⟩ []
          have hs := rowsM_h uu t_faults (t_hangs.take j) t_hangs[j]
          rw [← take_snoc hltj] at hs
          simp only [List.length_take, List.length_nil] at hlen
          generalize rowsM uu ⟨t_faults, t_hangs.take j, []⟩ [] = R at *
          simp (maxSteps := 10000000) (maxDischargeDepth := 30) (implicitDefEqProofs := false) [hii, hwi, hlti, hI1, hij, hwj, hltj, hs]
          refine ⟨⟨by omega, by omega⟩, fun _ _ => ⟨⟨by omega, by omega⟩, fun _ _ => ⟨rfl, rfl⟩⟩⟩
        · have hej : t_hangs.length = j := by omega
          subst hej
          simp (maxSteps := 10000000) (maxDischargeDepth := 30) (implicitDefEqProofs := false) [hii, hwi, hlti, hI1, hij, hwj, hltj]
          refine Wp_up (fun k S => (S.f 2 = .sl false (l.map Choice.enc) ∧ S.f 4 = .ptr 4 0 0 ∧ S.h 4 = some ⟨3, [.agg [.sl false (t_faults.map Fault.enc), .sl false (t_hangs.map Hang.enc), .sl false (t_crashes.map Crash.enc)]], true⟩ ∧ S.f 8 = .hdr 8 0 (((((rowsM (Setup.mk (Prog.mk u_program_code u_program_sizes u_program_data) u_seeds (Outs.mk u_outside_clock u_outside_random u_outside_inputs (Files.mk u_outside_files_data u_outside_files_opens) u_outside_outputs) u_period u_misses u_repairs u_pages u_least u_wait) ⟨t_faults, t_hangs, t_crashes.take k⟩ []).map rowW)).map V.str)).length ∧ S.h 8 = some ⟨1, ((((rowsM (Setup.mk (Prog.mk u_program_code u_program_sizes u_program_data) u_seeds (Outs.mk u_outside_clock u_outside_random u_outside_inputs (Files.mk u_outside_files_data u_outside_files_opens) u_outside_outputs) u_period u_misses u_repairs u_pages u_least u_wait) ⟨t_faults, t_hangs, t_crashes.take k⟩ []).map rowW)).map V.str), false⟩ ∧ S.f 9 = .hdr 9 0 (((((rowsM (Setup.mk (Prog.mk u_program_code u_program_sizes u_program_data) u_seeds (Outs.mk u_outside_clock u_outside_random u_outside_inputs (Files.mk u_outside_files_data u_outside_files_opens) u_outside_outputs) u_period u_misses u_repairs u_pages u_least u_wait) ⟨t_faults, t_hangs, t_crashes.take k⟩ []).map row.numbers)).map encLI64)).length ∧ S.h 9 = some ⟨1, ((((rowsM (Setup.mk (Prog.mk u_program_code u_program_sizes u_program_data) u_seeds (Outs.mk u_outside_clock u_outside_random u_outside_inputs (Files.mk u_outside_files_data u_outside_files_opens) u_outside_outputs) u_period u_misses u_repairs u_pages u_least u_wait) ⟨t_faults, t_hangs, t_crashes.take k⟩ []).map row.numbers)).map encLI64), false⟩ ∧ S.f 14 = .int .i64 (k : Int) ∧ S.n = 1100) ∧ True) (t_crashes.length) ?_ 0 (by simp) ?_
          · rintro k S hik ⟨hI2, hP2⟩
            have hwk : IntKind.i64.wrap ((k : Int) + 1) = (k : Int) + 1 := wrap_i64 (by omega)
            by_cases hltk : k < t_crashes.length
            · generalize hu : (Setup.mk (Prog.mk u_program_code u_program_sizes u_program_data) u_seeds (Outs.mk u_outside_clock u_outside_random u_outside_inputs (Files.mk u_outside_files_data u_outside_files_opens) u_outside_outputs) u_period u_misses u_repairs u_pages u_least u_wait) = uu at *
              have hlen := rowsM_len uu ⟨t_faults, t_hangs, t_crashes.take k⟩ []
              have hs := rowsM_c uu t_faults t_hangs (t_crashes.take k) t_crashes[k]
              rw [← take_snoc hltk] at hs
              simp only [List.length_take, List.length_nil] at hlen
              generalize rowsM uu ⟨t_faults, t_hangs, t_crashes.take k⟩ [] = R at *
              simp (maxSteps := 10000000) (maxDischargeDepth := 30) (implicitDefEqProofs := false) [hii, hwi, hlti, hij, hwj, hltj, hI2, hik, hwk, hltk, hs]
              refine ⟨⟨by omega, by omega⟩, fun _ _ => ⟨⟨by omega, by omega⟩, fun _ _ => ⟨rfl, rfl⟩⟩⟩
            · have hek : t_crashes.length = k := by omega
              subst hek
              simp (maxSteps := 10000000) (maxDischargeDepth := 30) (implicitDefEqProofs := false) [hii, hwi, hlti, hij, hwj, hltj, hI2, hik, hwk, hltk]
              refine Wp_up (fun m S => (S.f 2 = .sl false (l.map Choice.enc) ∧ S.f 8 = .hdr 8 0 (((((rowsM (Setup.mk (Prog.mk u_program_code u_program_sizes u_program_data) u_seeds (Outs.mk u_outside_clock u_outside_random u_outside_inputs (Files.mk u_outside_files_data u_outside_files_opens) u_outside_outputs) u_period u_misses u_repairs u_pages u_least u_wait) ⟨t_faults, t_hangs, t_crashes⟩ (l.take m)).map rowW)).map V.str)).length ∧ S.h 8 = some ⟨1, ((((rowsM (Setup.mk (Prog.mk u_program_code u_program_sizes u_program_data) u_seeds (Outs.mk u_outside_clock u_outside_random u_outside_inputs (Files.mk u_outside_files_data u_outside_files_opens) u_outside_outputs) u_period u_misses u_repairs u_pages u_least u_wait) ⟨t_faults, t_hangs, t_crashes⟩ (l.take m)).map rowW)).map V.str), false⟩ ∧ S.f 9 = .hdr 9 0 (((((rowsM (Setup.mk (Prog.mk u_program_code u_program_sizes u_program_data) u_seeds (Outs.mk u_outside_clock u_outside_random u_outside_inputs (Files.mk u_outside_files_data u_outside_files_opens) u_outside_outputs) u_period u_misses u_repairs u_pages u_least u_wait) ⟨t_faults, t_hangs, t_crashes⟩ (l.take m)).map row.numbers)).map encLI64)).length ∧ S.h 9 = some ⟨1, ((((rowsM (Setup.mk (Prog.mk u_program_code u_program_sizes u_program_data) u_seeds (Outs.mk u_outside_clock u_outside_random u_outside_inputs (Files.mk u_outside_files_data u_outside_files_opens) u_outside_outputs) u_period u_misses u_repairs u_pages u_least u_wait) ⟨t_faults, t_hangs, t_crashes⟩ (l.take m)).map row.numbers)).map encLI64), false⟩ ∧ S.f 16 = .int .i64 (m : Int) ∧ S.n = 1100) ∧ True) (l.length) ?_ 0 (by simp) ?_
              · rintro m S him ⟨hI3, hP3⟩
                have hwm : IntKind.i64.wrap ((m : Int) + 1) = (m : Int) + 1 := wrap_i64 (by omega)
                by_cases hltm : m < l.length
                · generalize hu : (Setup.mk (Prog.mk u_program_code u_program_sizes u_program_data) u_seeds (Outs.mk u_outside_clock u_outside_random u_outside_inputs (Files.mk u_outside_files_data u_outside_files_opens) u_outside_outputs) u_period u_misses u_repairs u_pages u_least u_wait) = uu at *
                  have hlen := rowsM_len uu ⟨t_faults, t_hangs, t_crashes⟩ (l.take m)
                  have hs := rowsM_l uu ⟨t_faults, t_hangs, t_crashes⟩ (l.take m) l[m]
                  rw [← take_snoc hltm] at hs
                  simp only [List.length_take, List.length_nil] at hlen
                  generalize rowsM uu ⟨t_faults, t_hangs, t_crashes⟩ (l.take m) = R at *
                  simp (maxSteps := 10000000) (maxDischargeDepth := 30) (implicitDefEqProofs := false) [hii, hwi, hlti, hij, hwj, hltj, hik, hwk, hltk, hI3, him, hwm, hltm, hs]
                  refine ⟨⟨by omega, by omega⟩, fun _ _ => ⟨⟨by omega, by omega⟩, fun _ _ => ⟨rfl, rfl⟩⟩⟩
                · have hem : l.length = m := by omega
                  subst hem
                  simp (maxSteps := 10000000) (maxDischargeDepth := 30) (implicitDefEqProofs := false) [hii, hwi, hlti, hij, hwj, hltj, hik, hwk, hltk, hI3, him, hwm, hltm]
                  exact ⟨dullL_map (fun _ => rfl) _, dullL_map (fun x => encLI64_dull _) _⟩
              · simp (maxSteps := 10000000) (maxDischargeDepth := 30) (implicitDefEqProofs := false) [hii, hwi, hlti, hij, hwj, hltj, hI2, hik, hwk, hltk] <;> (
                  simp)
          · simp (maxSteps := 10000000) (maxDischargeDepth := 30) (implicitDefEqProofs := false) [hii, hwi, hlti, hI1, hij, hwj, hltj] <;> (
              simp)
      · simp (maxSteps := 10000000) (maxDischargeDepth := 30) (implicitDefEqProofs := false) [hI0, hii, hwi, hlti] <;> (
          simp)
  · simp (maxSteps := 10000000) (maxDischargeDepth := 30) (implicitDefEqProofs := false) [] <;> (
      simp [rowsM, rowW, wordsL, wSetup, wSeeds, encLI64, setupN])
end Go.Proofs.YtcfmnogghcjdaaaGreatDoor
namespace Go.Proofs.YtcfmnogghcjdaaaGreatDoor
open Go Go.Abs Go.Abs.Api
def refLine (r : row) : Str := lineS (rowW r) r.numbers ++ [10]
theorem wordsL_len : ∀ k, (wordsL.getD k []).length ≤ 6 := by
  intro k
  by_cases h : k < 6
  · have : k = 0 ∨ k = 1 ∨ k = 2 ∨ k = 3 ∨ k = 4 ∨ k = 5 := by omega
    rcases this with rfl | rfl | rfl | rfl | rfl | rfl <;> decide
  · rw [List.getD_eq_getElem?_getD, List.getElem?_eq_none (by simp [wordsL]; omega)]; simp
theorem rowW_len (r : row) : (rowW r).length ≤ 6 := wordsL_len _
theorem refLine_len {r : row} (h : r.numbers.length ≤ 6) : (refLine r).length ≤ 97 := by
  have := lineS_len (rowW r) r.numbers
  have := rowW_len r
  simp [refLine]
  omega
theorem refLines_len {R : List row} (h : ∀ r ∈ R, r.numbers.length ≤ 6) : ((R.map refLine).flatten).length ≤ 97 * R.length := by
  induction R with
  | nil => simp
  | cons r R ih =>
    have h1 := refLine_len (h r (by simp))
    have h2 := ih fun x hx => h x (by simp [hx])
    simp at h2 ⊢
    omega
theorem rows_nums {u : Setup} {t : Troubles} {l : List Choice} (h : u.seeds.length ≤ 5) : ∀ r ∈ rowsM u t l, r.numbers.length ≤ 6 := by
  intro r hr
  simp only [rowsM, List.mem_append, List.mem_cons, List.mem_map, List.mem_nil_iff, or_false] at hr
  rcases hr with ((((rfl | rfl) | ⟨_, _, rfl⟩) | ⟨_, _, rfl⟩) | ⟨_, _, rfl⟩) | ⟨_, _, rfl⟩
  all_goals first | (simp [setupN, faultN, hangN, crashN, choiceN]; done) | (simp only; omega)
theorem refLine_row {r : row} (h : r.numbers.all okN = true) : refLine r = rowS r := by
  unfold refLine rowS lineS rowW
  congr 2
  congr 1
  apply List.map_congr_left
  intro n hn
  have := List.all_eq_true.1 h n hn
  simp [num, this]
@[simp] theorem f_ref45_Format (u_program_code : List Instr) (u_program_sizes : List Int) (u_program_data : List (List Int)) (u_seeds : List Int) (u_outside_clock : List Int) (u_outside_random : List Int) (u_outside_inputs : List (List Int)) (u_outside_files_data : List (List Canon)) (u_outside_files_opens : List Opn) (u_outside_outputs : List Output) (u_period : Int) (u_misses : Int) (u_repairs : Int) (u_pages : Int) (u_least : Int) (u_wait : Int) (t_faults : List Fault) (t_hangs : List Hang) (t_crashes : List Crash) (l : List Choice) (h1 : t_faults.length ≤ 1000000 ∧ t_hangs.length ≤ 1000000 ∧ t_crashes.length ≤ 1000000 ∧ l.length ≤ 1000000) (hs : u_seeds.length ≤ 9223372036854775807) (hR : ∀ r ∈ rowsM (Setup.mk (Prog.mk u_program_code u_program_sizes u_program_data) u_seeds (Outs.mk u_outside_clock u_outside_random u_outside_inputs (Files.mk u_outside_files_data u_outside_files_opens) u_outside_outputs) u_period u_misses u_repairs u_pages u_least u_wait) (Troubles.mk t_faults t_hangs t_crashes) l, ∀ n ∈ r.numbers, inI n) : pcall X 8 [.agg [.sl false (u_program_code.map Instr.enc), .sl false (u_program_sizes.map (V.int .i64)), .sl false (u_program_data.map encLU16), .sl false (u_seeds.map (V.int .i64)), .sl false (u_outside_clock.map (V.int .u16)), .sl false (u_outside_random.map (V.int .u16)), .sl false (u_outside_inputs.map encLU16), .sl false (u_outside_files_data.map encLCanon), .sl false (u_outside_files_opens.map Opn.enc), .sl false (u_outside_outputs.map Output.enc), .int .i64 u_period, .int .i64 u_misses, .int .i64 u_repairs, .int .i64 u_pages, .int .i64 u_least, .int .i64 u_wait], .agg [.sl false (t_faults.map Fault.enc), .sl false (t_hangs.map Hang.enc), .sl false (t_crashes.map Crash.enc)], .sl false (l.map Choice.enc)] = some (.tup [.str ((formatM (Setup.mk (Prog.mk u_program_code u_program_sizes u_program_data) u_seeds (Outs.mk u_outside_clock u_outside_random u_outside_inputs (Files.mk u_outside_files_data u_outside_files_opens) u_outside_outputs) u_period u_misses u_repairs u_pages u_least u_wait) (Troubles.mk t_faults t_hangs t_crashes) l).1), .int .i64 ((formatM (Setup.mk (Prog.mk u_program_code u_program_sizes u_program_data) u_seeds (Outs.mk u_outside_clock u_outside_random u_outside_inputs (Files.mk u_outside_files_data u_outside_files_opens) u_outside_outputs) u_period u_misses u_repairs u_pages u_least u_wait) (Troubles.mk t_faults t_hangs t_crashes) l).2)]) := by
  refine pcall_of Tryz.func8 rfl rfl ?_
  by_cases hlim : limitsB (Setup.mk (Prog.mk u_program_code u_program_sizes u_program_data) u_seeds (Outs.mk u_outside_clock u_outside_random u_outside_inputs (Files.mk u_outside_files_data u_outside_files_opens) u_outside_outputs) u_period u_misses u_repairs u_pages u_least u_wait) (Troubles.mk t_faults t_hangs t_crashes) l = true
  · have hL := hlim
    simp only [limitsB, Bool.and_eq_true, decide_eq_true_eq] at hL
    obtain ⟨⟨⟨⟨⟨l1, l2⟩, l3⟩, l4⟩, l5⟩, l6⟩ := hL
    have hnum := rows_nums (u := (Setup.mk (Prog.mk u_program_code u_program_sizes u_program_data) u_seeds (Outs.mk u_outside_clock u_outside_random u_outside_inputs (Files.mk u_outside_files_data u_outside_files_opens) u_outside_outputs) u_period u_misses u_repairs u_pages u_least u_wait)) (t := (Troubles.mk t_faults t_hangs t_crashes)) (l := l) l2
    have hlen := rowsM_len (Setup.mk (Prog.mk u_program_code u_program_sizes u_program_data) u_seeds (Outs.mk u_outside_clock u_outside_random u_outside_inputs (Files.mk u_outside_files_data u_outside_files_opens) u_outside_outputs) u_period u_misses u_repairs u_pages u_least u_wait) (Troubles.mk t_faults t_hangs t_crashes) l
    have i1 : (1 : Int) ≤ (u_seeds.length : Int) := by omega
    have i2 : (u_seeds.length : Int) ≤ 5 := by omega
    have i3 : (t_faults.length : Int) ≤ 40 := by omega
    have i4 : (t_hangs.length : Int) ≤ 20 := by omega
    have i5 : (t_crashes.length : Int) ≤ 20 := by omega
    have i6 : (l.length : Int) ≤ 200 := by omega
    have j1 : ¬ (u_seeds.length : Int) < 1 := by omega
    have j2 : ¬ (5 : Int) < (u_seeds.length : Int) := by omega
    have j3 : ¬ (40 : Int) < (t_faults.length : Int) := by omega
    have j4 : ¬ (20 : Int) < (t_hangs.length : Int) := by omega
    have j5 : ¬ (20 : Int) < (t_crashes.length : Int) := by omega
    have j6 : ¬ (200 : Int) < (l.length : Int) := by omega
    have hfm : formatM (Setup.mk (Prog.mk u_program_code u_program_sizes u_program_data) u_seeds (Outs.mk u_outside_clock u_outside_random u_outside_inputs (Files.mk u_outside_files_data u_outside_files_opens) u_outside_outputs) u_period u_misses u_repairs u_pages u_least u_wait) (Troubles.mk t_faults t_hangs t_crashes) l = if (rowsM (Setup.mk (Prog.mk u_program_code u_program_sizes u_program_data) u_seeds (Outs.mk u_outside_clock u_outside_random u_outside_inputs (Files.mk u_outside_files_data u_outside_files_opens) u_outside_outputs) u_period u_misses u_repairs u_pages u_least u_wait) (Troubles.mk t_faults t_hangs t_crashes) l).all (fun r => r.numbers.all okN) = true then (((rowsM (Setup.mk (Prog.mk u_program_code u_program_sizes u_program_data) u_seeds (Outs.mk u_outside_clock u_outside_random u_outside_inputs (Files.mk u_outside_files_data u_outside_files_opens) u_outside_outputs) u_period u_misses u_repairs u_pages u_least u_wait) (Troubles.mk t_faults t_hangs t_crashes) l).map rowS).flatten, 0) else ([], 6) := by
      simp only [formatM, checkM, hlim, numsB, textM]
      by_cases h : (rowsM (Setup.mk (Prog.mk u_program_code u_program_sizes u_program_data) u_seeds (Outs.mk u_outside_clock u_outside_random u_outside_inputs (Files.mk u_outside_files_data u_outside_files_opens) u_outside_outputs) u_period u_misses u_repairs u_pages u_least u_wait) (Troubles.mk t_faults t_hangs t_crashes) l).all (fun r => r.numbers.all okN) = true <;> simp [h]
    generalize formatM (Setup.mk (Prog.mk u_program_code u_program_sizes u_program_data) u_seeds (Outs.mk u_outside_clock u_outside_random u_outside_inputs (Files.mk u_outside_files_data u_outside_files_opens) u_outside_outputs) u_period u_misses u_repairs u_pages u_least u_wait) (Troubles.mk t_faults t_hangs t_crashes) l = F at *
    obtain ⟨R, hRR⟩ : ∃ R, rowsM (Setup.mk (Prog.mk u_program_code u_program_sizes u_program_data) u_seeds (Outs.mk u_outside_clock u_outside_random u_outside_inputs (Files.mk u_outside_files_data u_outside_files_opens) u_outside_outputs) u_period u_misses u_repairs u_pages u_least u_wait) (Troubles.mk t_faults t_hangs t_crashes) l = R := ⟨_, rfl⟩
    simp only [hRR] at hlen hnum hR hfm ⊢
    have hR6 : R.length ≤ 300 := by omega
    simp (maxSteps := 10000000) (maxDischargeDepth := 30) (implicitDefEqProofs := false) [hRR, h1, i1, i2, i3, i4, i5, i6, j1, j2, j3, j4, j5, j6]
    refine Wp_up (fun i S => (S.f 8 = .sl false (((R.map rowW)).map V.str) ∧ S.f 9 = .sl false (((R.map row.numbers)).map encLI64) ∧ S.f 10 = .hdr 10 0 (((u8s (((R.take i).map refLine).flatten)).map (V.int .u8))).length ∧ S.h 10 = some ⟨1, ((u8s (((R.take i).map refLine).flatten)).map (V.int .u8)), false⟩ ∧ S.f 11 = .int .i64 (i : Int) ∧ S.n = 1100) ∧ ((R.take i).all (fun r => r.numbers.all okN) = true)) (R.length) ?_ 0 (by simp) ?_
    · rintro i S hii ⟨hI0, hP0⟩
      have hwi : IntKind.i64.wrap ((i : Int) + 1) = (i : Int) + 1 := wrap_i64 (by omega)
      by_cases hlti : i < R.length
      · have hri : R[i].numbers.length ≤ 6 := hnum _ (List.getElem_mem hlti)
        have hrw := rowW_len R[i]
        have hline := f_ref45_line (rowW R[i]) R[i].numbers (by omega) (by omega) (hR _ (List.getElem_mem hlti))
        have hll := lineS_len (rowW R[i]) R[i].numbers
        have hol : ((((R.take i).map refLine).flatten)).length ≤ 97 * R.length := by
          have := refLines_len (R := R.take i) (fun r hr => hnum r (List.mem_of_mem_take hr))
          rw [List.length_take] at this
          omega
        have hnx : (((R.take (i + 1)).map refLine).flatten) = (((R.take i).map refLine).flatten) ++ (lineS (rowW R[i]) R[i].numbers ++ [10]) := by
          rw [take_snoc hlti, List.map_append, List.flatten_append]; simp only [List.map_cons, List.map_nil, List.flatten_cons, List.flatten_nil, List.append_nil, refLine]
        rw [List.map_take] at hnx
        generalize (((R.take i).map refLine).flatten) = out at *
        have hsum := congrArg List.length hnx
        simp at hsum
        simp (maxSteps := 10000000) (maxDischargeDepth := 30) (implicitDefEqProofs := false) [hI0, hii, hwi, hlti, -List.all_eq_true]
        refine Wp_up (fun k S => (S.f 8 = .sl false (((R.map rowW)).map V.str) ∧ S.f 9 = .sl false (((R.map row.numbers)).map encLI64) ∧ S.f 10 = .hdr 10 0 (((u8s out).map (V.int .u8))).length ∧ S.h 10 = some ⟨1, ((u8s out).map (V.int .u8)), false⟩ ∧ S.f 11 = .int .i64 (i : Int) ∧ S.f 12 = .int .i64 (k : Int) ∧ S.n = 1100) ∧ ((R[i].numbers.take k).all okN = true)) (R[i].numbers.length) ?_ 0 (by simp) ?_
        · rintro k S hik ⟨hI1, hP1⟩
          have hwk : IntKind.i64.wrap ((k : Int) + 1) = (k : Int) + 1 := wrap_i64 (by omega)
          by_cases hltk : k < R[i].numbers.length
          · simp (maxSteps := 10000000) (maxDischargeDepth := 30) (implicitDefEqProofs := false) [hii, hwi, hlti, hI1, hik, hwk, hltk, -List.all_eq_true]
            refine ⟨fun h => ?_, fun h => by rw [all_up hltk, hP1, h]; rfl⟩
            have : ¬ R.all (fun r => r.numbers.all okN) = true := by
              rw [all_at hlti (all_at hltk h)]; simp
            rw [hfm, if_neg this]
            exact ⟨rfl, rfl⟩
          · have hek : R[i].numbers.length = k := by omega
            subst hek
            generalize lineS (rowW R[i]) R[i].numbers = ln at *
            rw [List.take_length] at hP1
            simp (maxSteps := 10000000) (maxDischargeDepth := 30) (implicitDefEqProofs := false) [hii, hwi, hlti, hI1, hik, hwk, hltk, hline, hnx, -List.all_eq_true]
            rw [all_up hlti, hP0, hP1]
            refine ⟨⟨by omega, by omega⟩, fun _ _ => ⟨⟨by omega, by omega⟩, fun _ _ => ⟨⟨by omega, ?_⟩, rfl⟩⟩⟩
            rw [List.take_of_length_le (by simp)]
            simp [u8s, Function.comp_def]
        · simp (maxSteps := 10000000) (maxDischargeDepth := 30) (implicitDefEqProofs := false) [hI0, hii, hwi, hlti] <;> (
            simp)
      · have hei : R.length = i := by omega
        subst hei
        rw [List.take_length] at hP0
        have e : ((R.take R.length).map refLine).flatten = (R.map rowS).flatten := by
          rw [List.take_length]
          congr 1
          exact List.map_congr_left fun r hr => refLine_row (List.all_eq_true.1 hP0 r hr)
        rw [if_pos hP0] at hfm
        rw [e] at hI0
        generalize (R.map rowS).flatten = out at *
        subst hfm
        simp (maxSteps := 10000000) (maxDischargeDepth := 30) (implicitDefEqProofs := false) [hI0, hii, hwi, hlti]
    · simp (maxSteps := 10000000) (maxDischargeDepth := 30) (implicitDefEqProofs := false) [] <;> (
        simp [u8s])
  · have hL : u_seeds.length < 1 ∨ 5 < u_seeds.length ∨ 40 < t_faults.length ∨ 20 < t_hangs.length ∨ 20 < t_crashes.length ∨ 200 < l.length := by
      simp only [limitsB, Bool.and_eq_true, decide_eq_true_eq] at hlim
      omega
    have hF : formatM (Setup.mk (Prog.mk u_program_code u_program_sizes u_program_data) u_seeds (Outs.mk u_outside_clock u_outside_random u_outside_inputs (Files.mk u_outside_files_data u_outside_files_opens) u_outside_outputs) u_period u_misses u_repairs u_pages u_least u_wait) (Troubles.mk t_faults t_hangs t_crashes) l = ([], 3) := by
      simp [formatM, checkM, hlim]
    generalize formatM (Setup.mk (Prog.mk u_program_code u_program_sizes u_program_data) u_seeds (Outs.mk u_outside_clock u_outside_random u_outside_inputs (Files.mk u_outside_files_data u_outside_files_opens) u_outside_outputs) u_period u_misses u_repairs u_pages u_least u_wait) (Troubles.mk t_faults t_hangs t_crashes) l = F at *
    subst hF
    clear hlim
    simp (maxSteps := 10000000) (maxDischargeDepth := 30) (implicitDefEqProofs := false) [h1]
    intros
    exfalso
    omega
end Go.Proofs.YtcfmnogghcjdaaaGreatDoor
namespace Go.Proofs.YtcfmnogghcjdaaaGreatDoor
open Go Go.Abs Go.Abs.Api
@[simp] theorem f_law45_same (a_program_code : List Instr) (a_program_sizes : List Int) (a_program_data : List (List Int)) (a_seeds : List Int) (a_outside_clock : List Int) (a_outside_random : List Int) (a_outside_inputs : List (List Int)) (a_outside_files_data : List (List Canon)) (a_outside_files_opens : List Opn) (a_outside_outputs : List Output) (a_period : Int) (a_misses : Int) (a_repairs : Int) (a_pages : Int) (a_least : Int) (a_wait : Int) (b_program_code : List Instr) (b_program_sizes : List Int) (b_program_data : List (List Int)) (b_seeds : List Int) (b_outside_clock : List Int) (b_outside_random : List Int) (b_outside_inputs : List (List Int)) (b_outside_files_data : List (List Canon)) (b_outside_files_opens : List Opn) (b_outside_outputs : List Output) (b_period : Int) (b_misses : Int) (b_repairs : Int) (b_pages : Int) (b_least : Int) (b_wait : Int) (c_faults : List Fault) (c_hangs : List Hang) (c_crashes : List Crash) (d_faults : List Fault) (d_hangs : List Hang) (d_crashes : List Crash) (l : List Choice) (m : List Choice) (h1 : c_faults.length ≤ 1000000 ∧ c_hangs.length ≤ 1000000 ∧ c_crashes.length ≤ 1000000 ∧ l.length ≤ 1000000) (h2 : d_faults.length ≤ 1000000 ∧ d_hangs.length ≤ 1000000 ∧ d_crashes.length ≤ 1000000 ∧ m.length ≤ 1000000) (hs1 : a_seeds.length ≤ 9223372036854775807) (hs2 : b_seeds.length ≤ 9223372036854775807) (hR1 : ∀ r ∈ rowsM (Setup.mk (Prog.mk a_program_code a_program_sizes a_program_data) a_seeds (Outs.mk a_outside_clock a_outside_random a_outside_inputs (Files.mk a_outside_files_data a_outside_files_opens) a_outside_outputs) a_period a_misses a_repairs a_pages a_least a_wait) (Troubles.mk c_faults c_hangs c_crashes) l, ∀ n ∈ r.numbers, inI n) (hR2 : ∀ r ∈ rowsM (Setup.mk (Prog.mk b_program_code b_program_sizes b_program_data) b_seeds (Outs.mk b_outside_clock b_outside_random b_outside_inputs (Files.mk b_outside_files_data b_outside_files_opens) b_outside_outputs) b_period b_misses b_repairs b_pages b_least b_wait) (Troubles.mk d_faults d_hangs d_crashes) m, ∀ n ∈ r.numbers, inI n) (he : formatM (Setup.mk (Prog.mk a_program_code a_program_sizes a_program_data) a_seeds (Outs.mk a_outside_clock a_outside_random a_outside_inputs (Files.mk a_outside_files_data a_outside_files_opens) a_outside_outputs) a_period a_misses a_repairs a_pages a_least a_wait) (Troubles.mk c_faults c_hangs c_crashes) l = formatM (Setup.mk (Prog.mk b_program_code b_program_sizes b_program_data) b_seeds (Outs.mk b_outside_clock b_outside_random b_outside_inputs (Files.mk b_outside_files_data b_outside_files_opens) b_outside_outputs) b_period b_misses b_repairs b_pages b_least b_wait) (Troubles.mk d_faults d_hangs d_crashes) m) : pcall X 26 [.agg [.sl false (a_program_code.map Instr.enc), .sl false (a_program_sizes.map (V.int .i64)), .sl false (a_program_data.map encLU16), .sl false (a_seeds.map (V.int .i64)), .sl false (a_outside_clock.map (V.int .u16)), .sl false (a_outside_random.map (V.int .u16)), .sl false (a_outside_inputs.map encLU16), .sl false (a_outside_files_data.map encLCanon), .sl false (a_outside_files_opens.map Opn.enc), .sl false (a_outside_outputs.map Output.enc), .int .i64 a_period, .int .i64 a_misses, .int .i64 a_repairs, .int .i64 a_pages, .int .i64 a_least, .int .i64 a_wait], .agg [.sl false (b_program_code.map Instr.enc), .sl false (b_program_sizes.map (V.int .i64)), .sl false (b_program_data.map encLU16), .sl false (b_seeds.map (V.int .i64)), .sl false (b_outside_clock.map (V.int .u16)), .sl false (b_outside_random.map (V.int .u16)), .sl false (b_outside_inputs.map encLU16), .sl false (b_outside_files_data.map encLCanon), .sl false (b_outside_files_opens.map Opn.enc), .sl false (b_outside_outputs.map Output.enc), .int .i64 b_period, .int .i64 b_misses, .int .i64 b_repairs, .int .i64 b_pages, .int .i64 b_least, .int .i64 b_wait], .agg [.sl false (c_faults.map Fault.enc), .sl false (c_hangs.map Hang.enc), .sl false (c_crashes.map Crash.enc)], .agg [.sl false (d_faults.map Fault.enc), .sl false (d_hangs.map Hang.enc), .sl false (d_crashes.map Crash.enc)], .sl false (l.map Choice.enc), .sl false (m.map Choice.enc)] = some (.bool true) := by
  refine pcall_of Tryz.func26 rfl rfl ?_
  have e1 := f_ref45_Format (u_program_code := a_program_code) (u_program_sizes := a_program_sizes) (u_program_data := a_program_data) (u_seeds := a_seeds) (u_outside_clock := a_outside_clock) (u_outside_random := a_outside_random) (u_outside_inputs := a_outside_inputs) (u_outside_files_data := a_outside_files_data) (u_outside_files_opens := a_outside_files_opens) (u_outside_outputs := a_outside_outputs) a_period a_misses a_repairs a_pages a_least a_wait c_faults c_hangs c_crashes l h1 hs1 hR1
  have e2 := f_ref45_Format (u_program_code := b_program_code) (u_program_sizes := b_program_sizes) (u_program_data := b_program_data) (u_seeds := b_seeds) (u_outside_clock := b_outside_clock) (u_outside_random := b_outside_random) (u_outside_inputs := b_outside_inputs) (u_outside_files_data := b_outside_files_data) (u_outside_files_opens := b_outside_files_opens) (u_outside_outputs := b_outside_outputs) b_period b_misses b_repairs b_pages b_least b_wait d_faults d_hangs d_crashes m h2 hs2 hR2
  rw [he] at e1
  generalize formatM (Setup.mk (Prog.mk b_program_code b_program_sizes b_program_data) b_seeds (Outs.mk b_outside_clock b_outside_random b_outside_inputs (Files.mk b_outside_files_data b_outside_files_opens) b_outside_outputs) b_period b_misses b_repairs b_pages b_least b_wait) (Troubles.mk d_faults d_hangs d_crashes) m = F at *
  simp (maxSteps := 10000000) (maxDischargeDepth := 30) (implicitDefEqProofs := false) [e1, e2]
@[simp] theorem c_setup (id i f : Nat) (h : Heap) (k : Nat)  : callL X 51 [.ptr id i f] h k = some (.hdr (k + 19) 0 6, upd h (k + 19) (some ⟨1, [.ptr id i (f + 10), .ptr id i (f + 11), .ptr id i (f + 12), .ptr id i (f + 13), .ptr id i (f + 14), .ptr id i (f + 15)], true⟩), k + 21) := by
  obtain ⟨v, h', n', e1, e2, e3, e4⟩ := callL_of (X := X) (g := 51) (args := [.ptr id i f]) (h := h) (k := k) (K := fun v h' n' => v = .hdr (k + 19) 0 6 ∧ h' = upd h (k + 19) (some ⟨1, [.ptr id i (f + 10), .ptr id i (f + 11), .ptr id i (f + 12), .ptr id i (f + 13), .ptr id i (f + 14), .ptr id i (f + 15)], true⟩) ∧ n' = k + 21) Tryz.func51 rfl rfl (by
    simp (maxSteps := 10000000) (maxDischargeDepth := 30) (implicitDefEqProofs := false) [Nat.add_assoc])
  rw [e1, e2, e3, e4]
@[simp] theorem c_fault (id i f : Nat) (h : Heap) (k : Nat)  : callL X 52 [.ptr id i f] h k = some (.hdr (k + 19) 0 6, upd h (k + 19) (some ⟨1, [.ptr id i f, .ptr id i (f + 1), .ptr id i (f + 2), .ptr id i (f + 3), .ptr id i (f + 4), .ptr id i (f + 5)], true⟩), k + 21) := by
  obtain ⟨v, h', n', e1, e2, e3, e4⟩ := callL_of (X := X) (g := 52) (args := [.ptr id i f]) (h := h) (k := k) (K := fun v h' n' => v = .hdr (k + 19) 0 6 ∧ h' = upd h (k + 19) (some ⟨1, [.ptr id i f, .ptr id i (f + 1), .ptr id i (f + 2), .ptr id i (f + 3), .ptr id i (f + 4), .ptr id i (f + 5)], true⟩) ∧ n' = k + 21) Tryz.func52 rfl rfl (by
    simp (maxSteps := 10000000) (maxDischargeDepth := 30) (implicitDefEqProofs := false) [Nat.add_assoc])
  rw [e1, e2, e3, e4]
end Go.Proofs.YtcfmnogghcjdaaaGreatDoor
namespace Go.Proofs.YtcfmnogghcjdaaaGreatDoor
open Go Go.Abs Go.Abs.Api
@[simp] theorem c_values (a f j kk : Nat) (x0 x1 x2 x3 x4 x5 : Int) (cs : List V) (h : Heap) (k : Nat) (hj : h j = some ⟨1, [.ptr a 0 f, .ptr a 0 (f + 1), .ptr a 0 (f + 2), .ptr a 0 (f + 3), .ptr a 0 (f + 4), .ptr a 0 (f + 5)], true⟩) (ha : h a = some ⟨kk, [.agg cs], true⟩) (hjk : j < k ∧ a < k) (g0 : cs[f]? = some (.int .i64 x0)) (g1 : cs[f + 1]? = some (.int .i64 x1)) (g2 : cs[f + 2]? = some (.int .i64 x2)) (g3 : cs[f + 3]? = some (.int .i64 x3)) (g4 : cs[f + 4]? = some (.int .i64 x4)) (g5 : cs[f + 5]? = some (.int .i64 x5)) : ∃ v h' k', callL X 50 [.hdr j 0 6] h k = some (v, h', k') ∧ v = .hdr (k + 79) 0 6 ∧ h' (k + 79) = some ⟨1, [.int .i64 x0, .int .i64 x1, .int .i64 x2, .int .i64 x3, .int .i64 x4, .int .i64 x5], false⟩ ∧ k' = k + 86 ∧ ∀ x, x < k → h' x = h x := by
  have j0 : ∀ n, (j = k + n) = False := fun n => by simp; omega
  have a0 : ∀ n, (a = k + n) = False := fun n => by simp; omega
  have jk : (j = k) = False := by simp; omega
  have ak : (a = k) = False := by simp; omega
  have w1 : IntKind.i64.wrap 1 = 1 := by decide
  have w2 : IntKind.i64.wrap 2 = 2 := by decide
  have w3 : IntKind.i64.wrap 3 = 3 := by decide
  have w4 : IntKind.i64.wrap 4 = 4 := by decide
  have w5 : IntKind.i64.wrap 5 = 5 := by decide
  have w6 : IntKind.i64.wrap 6 = 6 := by decide
  refine callL_of (X := X) Tryz.func50 rfl rfl ?_
  simp (maxSteps := 10000000) (maxDischargeDepth := 30) (implicitDefEqProofs := false) [Wp_unroll, hj, ha, g0, g1, g2, g3, g4, g5, Nat.add_assoc, j0, a0, jk, ak, w1, w2, w3, w4, w5, w6]
  intro x hx
  have x0 : ∀ n, (x = k + n) = False := fun n => by simp; omega
  simp [x0]
@[simp] theorem f_text_row_write (r_kind : Int) (r_numbers : List Int) (hk : 0 ≤ r_kind ∧ r_kind < 6) (hl : r_numbers.length ≤ 1000000) (hn : ∀ x ∈ r_numbers, okN x = true) : pcall X 30 [.agg [.int .i64 r_kind, .sl false (r_numbers.map (V.int .i64))]] = some (.str (rowS (row.mk r_kind r_numbers))) := by
  refine pcall_of Tryz.func30 rfl rfl ?_
  obtain ⟨q, rfl⟩ : ∃ q : Nat, r_kind = q := ⟨r_kind.toNat, by omega⟩
  have hq1 : q < 6 := by omega
  have hq : wordsL[q]? = some (rowW ⟨q, r_numbers⟩) := by
    simp only [rowW, Int.toNat_natCast, List.getD_eq_getElem?_getD]
    rw [List.getElem?_eq_getElem (by simpa [wordsL] using hq1)]
    rfl
  have hq2 : (q : Int) < 6 := by omega
  have hw := rowW_len ⟨q, r_numbers⟩
  have hrs : rowS ⟨(q : Int), r_numbers⟩ = rowW ⟨q, r_numbers⟩ ++ (r_numbers.map fun n => 32 :: Lib.itoa n).flatten ++ [10] := rfl
  generalize rowW ⟨q, r_numbers⟩ = w at *
  simp (maxSteps := 10000000) (maxDischargeDepth := 30) (implicitDefEqProofs := false) [hq, hq2]
  refine Wp_up (fun i S => (S.f 3 = .str (w ++ ((r_numbers.take i).map fun n => 32 :: Lib.itoa n).flatten) ∧ S.f 11 = .sl false (r_numbers.map (V.int .i64)) ∧ S.f 12 = .int .i64 ((r_numbers).length : Int) ∧ S.f 13 = .int .i64 (i : Int) ∧ S.n = 1100) ∧ ((w ++ ((r_numbers.take i).map fun n => 32 :: Lib.itoa n).flatten).length ≤ 6 + 15 * i)) (r_numbers.length) ?_ 0 (by simp) ?_
  · rintro i S hii ⟨hI0, hP0⟩
    have hwi : IntKind.i64.wrap ((i : Int) + 1) = (i : Int) + 1 := wrap_i64 (by omega)
    by_cases hlti : i < r_numbers.length
    · have hx := hn _ (List.getElem_mem hlti)
      have hx' : -1099511627776 ≤ r_numbers[i] ∧ r_numbers[i] ≤ 1099511627776 := by simpa [okN] using hx
      have hx2 : -9223372036854775808 ≤ r_numbers[i] := by omega
      have hx3 : r_numbers[i] ≤ 9223372036854775807 := by omega
      have hi := itoa_len hx
      have hnx : w ++ ((r_numbers.take (i + 1)).map fun n => 32 :: Lib.itoa n).flatten = w ++ ((r_numbers.take i).map fun n => 32 :: Lib.itoa n).flatten ++ [32] ++ Lib.itoa r_numbers[i] := by
        rw [take_snoc hlti, List.map_append, List.flatten_append]; simp
      obtain ⟨it, hit⟩ : ∃ it, Lib.itoa r_numbers[i] = it := ⟨_, rfl⟩
      rw [hit] at hi hnx
      generalize hol : w ++ ((r_numbers.take i).map fun n => 32 :: Lib.itoa n).flatten = out at *
      simp only [List.map_take] at hnx
      have b1 : 1 + it.length ≤ 4611686018427387904 := by omega
      have b2 : 1 + it.length ≤ 4611686018427387903 := by omega
      have b3 : it.length ≤ 4611686018427387903 := by omega
      have b4 : out.length + (it.length + 1) ≤ 4611686018427387904 := by omega
      have b5 : out.length + (it.length + 1) ≤ 4611686018427387903 := by omega
      simp (maxSteps := 10000000) (maxDischargeDepth := 30) (implicitDefEqProofs := false) [hI0, hii, hwi, hlti, hx2, hx3, hnx, hit, b1, b2, b3, b4, b5]
      omega
    · have hei : r_numbers.length = i := by omega
      subst hei
      rw [List.take_length] at hI0 hP0
      generalize w ++ (r_numbers.map fun n => 32 :: Lib.itoa n).flatten = out at *
      have b1 : out.length ≤ 4611686018427387903 := by omega
      simp (maxSteps := 10000000) (maxDischargeDepth := 30) (implicitDefEqProofs := false) [hI0, hii, hwi, hlti, b1]
      exact hrs.symm
  · simp (maxSteps := 10000000) (maxDischargeDepth := 30) (implicitDefEqProofs := false) [] <;> (
      exact hw)
@[simp] theorem f_ixf (s : List Int) (hl : s.length ≤ 1000000000) : pcall X 70 [.sl false (s.map (V.int .i64)), .fn 49 [] []] = some (.int .i64 (if s.all okN = true then -1 else ((s.findIdx fun n => !okN n : Nat) : Int))) := by
  refine pcall_of Tryz.func70 rfl rfl ?_
  simp (maxSteps := 10000000) (maxDischargeDepth := 30) (implicitDefEqProofs := false) []
  refine Wp_up (fun i S => (S.f 0 = .sl false (s.map (V.int .i64)) ∧ S.f 1 = .fn 49 [] [] ∧ S.f 7 = .int .i64 ((s).length : Int) ∧ S.f 8 = .int .i64 (i : Int) ∧ S.n = 1100) ∧ ((s.take i).all okN = true)) (s.length) ?_ 0 (by simp) ?_
  · rintro i S hii ⟨hI0, hP0⟩
    have hwi : IntKind.i64.wrap ((i : Int) + 1) = (i : Int) + 1 := wrap_i64 (by omega)
    by_cases hlti : i < s.length
    · simp (maxSteps := 10000000) (maxDischargeDepth := 30) (implicitDefEqProofs := false) [hI0, hii, hwi, hlti, -List.all_eq_true]
      refine ⟨fun h => ?_, fun h => by rw [all_up hlti, hP0, h]; rfl⟩
      rw [if_neg (fun hall => by
        have := hall s[i] (List.getElem_mem hlti)
        rw [h] at this; cases this)]
      have e : s.findIdx (fun n => !okN n) = i := by
        rw [List.findIdx_eq hlti]
        refine ⟨by simp [h], fun j hj => ?_⟩
        have := List.all_eq_true.1 hP0 s[j] (List.mem_iff_getElem?.2 ⟨j, by rw [List.getElem?_take_of_lt hj]; simp⟩)
        simp [this]
      rw [e]
    · have hei : s.length = i := by omega
      subst hei
      simp (maxSteps := 10000000) (maxDischargeDepth := 30) (implicitDefEqProofs := false) [hI0, hii, hwi, hlti, -List.all_eq_true]
      intro x hx
      rw [List.take_length] at hP0
      exact List.all_eq_true.1 hP0 x hx
  · simp (maxSteps := 10000000) (maxDischargeDepth := 30) (implicitDefEqProofs := false) []
@[simp] theorem f_ctf (s : List Int) (hl : s.length ≤ 1000000000) : pcall X 48 [.sl false (s.map (V.int .i64)), .fn 49 [] []] = some (.bool (!(s.all okN))) := by
  refine pcall_of Tryz.func48 rfl rfl ?_
  have e := f_ixf s hl
  by_cases h : s.all okN = true
  · rw [if_pos h] at e
    simp (maxSteps := 10000000) (maxDischargeDepth := 30) (implicitDefEqProofs := false) [e, h, -List.all_eq_true]
  · rw [if_neg h] at e
    simp (maxSteps := 10000000) (maxDischargeDepth := 30) (implicitDefEqProofs := false) [e, h, -List.all_eq_true]
end Go.Proofs.YtcfmnogghcjdaaaGreatDoor
namespace Go.Proofs.YtcfmnogghcjdaaaGreatDoor
open Go Go.Abs Go.Abs.Api
@[simp] theorem f_text_rows (s_u_program_code : List Instr) (s_u_program_sizes : List Int) (s_u_program_data : List (List Int)) (s_u_seeds : List Int) (s_u_outside_clock : List Int) (s_u_outside_random : List Int) (s_u_outside_inputs : List (List Int)) (s_u_outside_files_data : List (List Canon)) (s_u_outside_files_opens : List Opn) (s_u_outside_outputs : List Output) (s_u_period : Int) (s_u_misses : Int) (s_u_repairs : Int) (s_u_pages : Int) (s_u_least : Int) (s_u_wait : Int) (s_t_faults : List Fault) (s_t_hangs : List Hang) (s_t_crashes : List Crash) (s_l : List Choice) (h1 : s_t_faults.length ≤ 1000000 ∧ s_t_hangs.length ≤ 1000000 ∧ s_t_crashes.length ≤ 1000000 ∧ s_l.length ≤ 1000000) : pcall X 28 [.agg [.sl false (s_u_program_code.map Instr.enc), .sl false (s_u_program_sizes.map (V.int .i64)), .sl false (s_u_program_data.map encLU16), .sl false (s_u_seeds.map (V.int .i64)), .sl false (s_u_outside_clock.map (V.int .u16)), .sl false (s_u_outside_random.map (V.int .u16)), .sl false (s_u_outside_inputs.map encLU16), .sl false (s_u_outside_files_data.map encLCanon), .sl false (s_u_outside_files_opens.map Opn.enc), .sl false (s_u_outside_outputs.map Output.enc), .int .i64 s_u_period, .int .i64 s_u_misses, .int .i64 s_u_repairs, .int .i64 s_u_pages, .int .i64 s_u_least, .int .i64 s_u_wait, .sl false (s_t_faults.map Fault.enc), .sl false (s_t_hangs.map Hang.enc), .sl false (s_t_crashes.map Crash.enc), .sl false (s_l.map Choice.enc)]] = some (.sl false ((rowsM (scenario.mk (Setup.mk (Prog.mk s_u_program_code s_u_program_sizes s_u_program_data) s_u_seeds (Outs.mk s_u_outside_clock s_u_outside_random s_u_outside_inputs (Files.mk s_u_outside_files_data s_u_outside_files_opens) s_u_outside_outputs) s_u_period s_u_misses s_u_repairs s_u_pages s_u_least s_u_wait) (Troubles.mk s_t_faults s_t_hangs s_t_crashes) s_l).u (scenario.mk (Setup.mk (Prog.mk s_u_program_code s_u_program_sizes s_u_program_data) s_u_seeds (Outs.mk s_u_outside_clock s_u_outside_random s_u_outside_inputs (Files.mk s_u_outside_files_data s_u_outside_files_opens) s_u_outside_outputs) s_u_period s_u_misses s_u_repairs s_u_pages s_u_least s_u_wait) (Troubles.mk s_t_faults s_t_hangs s_t_crashes) s_l).t s_l).map row.enc)) := by
  refine pcall_of Tryz.func28 rfl rfl ?_
  obtain ⟨v, hv, kv, e1, e2, e3, e4, e5⟩ := c_values 0 10 31 20 s_u_period s_u_misses s_u_repairs s_u_pages s_u_least s_u_wait [V.sl false (s_u_program_code.map Instr.enc), V.sl false (s_u_program_sizes.map (V.int .i64)), V.sl false (s_u_program_data.map encLU16), V.sl false (s_u_seeds.map (V.int .i64)), V.sl false (s_u_outside_clock.map (V.int .u16)), V.sl false (s_u_outside_random.map (V.int .u16)), V.sl false (s_u_outside_inputs.map encLU16), V.sl false (s_u_outside_files_data.map encLCanon), V.sl false (s_u_outside_files_opens.map Opn.enc), V.sl false (s_u_outside_outputs.map Output.enc), V.int .i64 s_u_period, V.int .i64 s_u_misses, V.int .i64 s_u_repairs, V.int .i64 s_u_pages, V.int .i64 s_u_least, V.int .i64 s_u_wait, V.sl false (s_t_faults.map Fault.enc), V.sl false (s_t_hangs.map Hang.enc), V.sl false (s_t_crashes.map Crash.enc), V.sl false (s_l.map Choice.enc)] (upd (upd nohp 0 (some ⟨20, [.agg [V.sl false (s_u_program_code.map Instr.enc), V.sl false (s_u_program_sizes.map (V.int .i64)), V.sl false (s_u_program_data.map encLU16), V.sl false (s_u_seeds.map (V.int .i64)), V.sl false (s_u_outside_clock.map (V.int .u16)), V.sl false (s_u_outside_random.map (V.int .u16)), V.sl false (s_u_outside_inputs.map encLU16), V.sl false (s_u_outside_files_data.map encLCanon), V.sl false (s_u_outside_files_opens.map Opn.enc), V.sl false (s_u_outside_outputs.map Output.enc), V.int .i64 s_u_period, V.int .i64 s_u_misses, V.int .i64 s_u_repairs, V.int .i64 s_u_pages, V.int .i64 s_u_least, V.int .i64 s_u_wait, V.sl false (s_t_faults.map Fault.enc), V.sl false (s_t_hangs.map Hang.enc), V.sl false (s_t_crashes.map Crash.enc), V.sl false (s_l.map Choice.enc)]], true⟩)) 31 (some ⟨1, [V.ptr 0 0 10, V.ptr 0 0 11, V.ptr 0 0 12, V.ptr 0 0 13, V.ptr 0 0 14, V.ptr 0 0 15], true⟩)) 33 rfl rfl (by omega) rfl rfl rfl rfl rfl rfl
  subst e2
  subst e4
  have e6 := e5 0 (by omega)
  simp only [upd_apply] at e6
  simp only [Nat.reduceAdd] at e3
  simp (maxSteps := 10000000) (maxDischargeDepth := 30) (implicitDefEqProofs := false) [e1, e3, e6]
  refine Wp_up (fun i S => (S.f 1 = .ptr 1 0 0 ∧ S.h 1 = some ⟨20, [.agg [.sl false (s_u_program_code.map Instr.enc), .sl false (s_u_program_sizes.map (V.int .i64)), .sl false (s_u_program_data.map encLU16), .sl false (s_u_seeds.map (V.int .i64)), .sl false (s_u_outside_clock.map (V.int .u16)), .sl false (s_u_outside_random.map (V.int .u16)), .sl false (s_u_outside_inputs.map encLU16), .sl false (s_u_outside_files_data.map encLCanon), .sl false (s_u_outside_files_opens.map Opn.enc), .sl false (s_u_outside_outputs.map Output.enc), .int .i64 s_u_period, .int .i64 s_u_misses, .int .i64 s_u_repairs, .int .i64 s_u_pages, .int .i64 s_u_least, .int .i64 s_u_wait, .sl false (s_t_faults.map Fault.enc), .sl false (s_t_hangs.map Hang.enc), .sl false (s_t_crashes.map Crash.enc), .sl false (s_l.map Choice.enc)]], true⟩ ∧ S.f 3 = .hdr 3 0 (((rowsM (scenario.mk (Setup.mk (Prog.mk s_u_program_code s_u_program_sizes s_u_program_data) s_u_seeds (Outs.mk s_u_outside_clock s_u_outside_random s_u_outside_inputs (Files.mk s_u_outside_files_data s_u_outside_files_opens) s_u_outside_outputs) s_u_period s_u_misses s_u_repairs s_u_pages s_u_least s_u_wait) (Troubles.mk s_t_faults s_t_hangs s_t_crashes) s_l).u ⟨s_t_faults.take i, [], []⟩ []).map row.enc)).length ∧ S.h 3 = some ⟨2, ((rowsM (scenario.mk (Setup.mk (Prog.mk s_u_program_code s_u_program_sizes s_u_program_data) s_u_seeds (Outs.mk s_u_outside_clock s_u_outside_random s_u_outside_inputs (Files.mk s_u_outside_files_data s_u_outside_files_opens) s_u_outside_outputs) s_u_period s_u_misses s_u_repairs s_u_pages s_u_least s_u_wait) (Troubles.mk s_t_faults s_t_hangs s_t_crashes) s_l).u ⟨s_t_faults.take i, [], []⟩ []).map row.enc), false⟩ ∧ S.f 23 = .sl false (s_t_faults.map Fault.enc) ∧ S.f 24 = .int .i64 ((s_t_faults).length : Int) ∧ S.f 25 = .int .i64 (i : Int) ∧ S.n = 1100) ∧ True) (s_t_faults.length) ?_ 0 (by simp) ?_
  · rintro i S hii ⟨hI0, hP0⟩
    have hwi : IntKind.i64.wrap ((i : Int) + 1) = (i : Int) + 1 := wrap_i64 (by omega)
    by_cases hlti : i < s_t_faults.length
    · obtain ⟨v2, hv2, kv2, q1, q2, q3, q4, q5⟩ := c_values 1103 0 1131 6 s_t_faults[i].time s_t_faults[i].replica s_t_faults[i].kind s_t_faults[i].thread s_t_faults[i].where_ s_t_faults[i].bit [V.int .i64 s_t_faults[i].time, V.int .i64 s_t_faults[i].replica, V.int .i64 s_t_faults[i].kind, V.int .i64 s_t_faults[i].thread, V.int .i64 s_t_faults[i].where_, V.int .i64 s_t_faults[i].bit] (upd (upd (upd S.h 1103 (some ⟨6, [.agg [V.int .i64 0, V.int .i64 0, V.int .i64 0, V.int .i64 0, V.int .i64 0, V.int .i64 0]], true⟩)) 1103 (some ⟨6, [.agg [V.int .i64 s_t_faults[i].time, V.int .i64 s_t_faults[i].replica, V.int .i64 s_t_faults[i].kind, V.int .i64 s_t_faults[i].thread, V.int .i64 s_t_faults[i].where_, V.int .i64 s_t_faults[i].bit]], true⟩)) 1131 (some ⟨1, [V.ptr 1103 0 0, V.ptr 1103 0 1, V.ptr 1103 0 2, V.ptr 1103 0 3, V.ptr 1103 0 4, V.ptr 1103 0 5], true⟩)) 1133 rfl rfl (by omega) rfl rfl rfl rfl rfl rfl
      subst q2
      subst q4
      have q6 := q5 1 (by omega)
      have q7 := q5 3 (by omega)
      simp only [upd_apply] at q6 q7
      simp only [Nat.reduceAdd, Nat.reduceEqDiff, if_false] at q1 q3 q6 q7
      generalize hu : (scenario.mk (Setup.mk (Prog.mk s_u_program_code s_u_program_sizes s_u_program_data) s_u_seeds (Outs.mk s_u_outside_clock s_u_outside_random s_u_outside_inputs (Files.mk s_u_outside_files_data s_u_outside_files_opens) s_u_outside_outputs) s_u_period s_u_misses s_u_repairs s_u_pages s_u_least s_u_wait) (Troubles.mk s_t_faults s_t_hangs s_t_crashes) s_l).u = uu at *
      have hlen := rowsM_len uu ⟨s_t_faults.take i, [], []⟩ []
      have hs := rowsM_f uu (s_t_faults.take i) s_t_faults[i]
      rw [← take_snoc hlti] at hs
      simp only [List.length_take, List.length_nil] at hlen
      generalize rowsM uu ⟨s_t_faults.take i, [], []⟩ [] = R at *
      simp (maxSteps := 10000000) (maxDischargeDepth := 30) (implicitDefEqProofs := false) [hI0, hii, hwi, hlti, q1, q3, q6, q7, hs]
      refine ⟨⟨by omega, by omega⟩, fun _ _ => ?_⟩
      rfl
    · have hei : s_t_faults.length = i := by omega
      subst hei
      simp (maxSteps := 10000000) (maxDischargeDepth := 30) (implicitDefEqProofs := false) [hI0, hii, hwi, hlti]
      refine Wp_up (fun j S => (S.f 1 = .ptr 1 0 0 ∧ S.h 1 = some ⟨20, [.agg [.sl false (s_u_program_code.map Instr.enc), .sl false (s_u_program_sizes.map (V.int .i64)), .sl false (s_u_program_data.map encLU16), .sl false (s_u_seeds.map (V.int .i64)), .sl false (s_u_outside_clock.map (V.int .u16)), .sl false (s_u_outside_random.map (V.int .u16)), .sl false (s_u_outside_inputs.map encLU16), .sl false (s_u_outside_files_data.map encLCanon), .sl false (s_u_outside_files_opens.map Opn.enc), .sl false (s_u_outside_outputs.map Output.enc), .int .i64 s_u_period, .int .i64 s_u_misses, .int .i64 s_u_repairs, .int .i64 s_u_pages, .int .i64 s_u_least, .int .i64 s_u_wait, .sl false (s_t_faults.map Fault.enc), .sl false (s_t_hangs.map Hang.enc), .sl false (s_t_crashes.map Crash.enc), .sl false (s_l.map Choice.enc)]], true⟩ ∧ S.f 3 = .hdr 3 0 (((rowsM (scenario.mk (Setup.mk (Prog.mk s_u_program_code s_u_program_sizes s_u_program_data) s_u_seeds (Outs.mk s_u_outside_clock s_u_outside_random s_u_outside_inputs (Files.mk s_u_outside_files_data s_u_outside_files_opens) s_u_outside_outputs) s_u_period s_u_misses s_u_repairs s_u_pages s_u_least s_u_wait) (Troubles.mk s_t_faults s_t_hangs s_t_crashes) s_l).u ⟨s_t_faults, s_t_hangs.take j, []⟩ []).map row.enc)).length ∧ S.h 3 = some ⟨2, ((rowsM (scenario.mk (Setup.mk (Prog.mk s_u_program_code s_u_program_sizes s_u_program_data) s_u_seeds (Outs.mk s_u_outside_clock s_u_outside_random s_u_outside_inputs (Files.mk s_u_outside_files_data s_u_outside_files_opens) s_u_outside_outputs) s_u_period s_u_misses s_u_repairs s_u_pages s_u_least s_u_wait) (Troubles.mk s_t_faults s_t_hangs s_t_crashes) s_l).u ⟨s_t_faults, s_t_hangs.take j, []⟩ []).map row.enc), false⟩ ∧ S.f 38 = .sl false (s_t_hangs.map Hang.enc) ∧ S.f 39 = .int .i64 ((s_t_hangs).length : Int) ∧ S.f 40 = .int .i64 (j : Int) ∧ S.n = 1100) ∧ True) (s_t_hangs.length) ?_ 0 (by simp) ?_
      · rintro j S hij ⟨hI1, hP1⟩
        have hwj : IntKind.i64.wrap ((j : Int) + 1) = (j : Int) + 1 := wrap_i64 (by omega)
        by_cases hltj : j < s_t_hangs.length
        · generalize hu : (scenario.mk (Setup.mk (Prog.mk s_u_program_code s_u_program_sizes s_u_program_data) s_u_seeds (Outs.mk s_u_outside_clock s_u_outside_random s_u_outside_inputs (Files.mk s_u_outside_files_data s_u_outside_files_opens) s_u_outside_outputs) s_u_period s_u_misses s_u_repairs s_u_pages s_u_least s_u_wait) (Troubles.mk s_t_faults s_t_hangs s_t_crashes) s_l).u = uu at *
          have hlen := rowsM_len uu ⟨s_t_faults, s_t_hangs.take j, []⟩ []
          have hs := rowsM_h uu s_t_faults (s_t_hangs.take j) s_t_hangs[j]
          rw [← take_snoc hltj] at hs
          simp only [List.length_take, List.length_nil] at hlen
          generalize rowsM uu ⟨s_t_faults, s_t_hangs.take j, []⟩ [] = R at *
          simp (maxSteps := 10000000) (maxDischargeDepth := 30) (implicitDefEqProofs := false) [hii, hwi, hlti, hI1, hij, hwj, hltj, hs]
          refine ⟨⟨by omega, by omega⟩, fun _ _ => ?_⟩
          rfl
        · have hej : s_t_hangs.length = j := by omega
          subst hej
          simp (maxSteps := 10000000) (maxDischargeDepth := 30) (implicitDefEqProofs := false) [hii, hwi, hlti, hI1, hij, hwj, hltj]
          refine Wp_up (fun k S => (S.f 1 = .ptr 1 0 0 ∧ S.h 1 = some ⟨20, [.agg [.sl false (s_u_program_code.map Instr.enc), .sl false (s_u_program_sizes.map (V.int .i64)), .sl false (s_u_program_data.map encLU16), .sl false (s_u_seeds.map (V.int .i64)), .sl false (s_u_outside_clock.map (V.int .u16)), .sl false (s_u_outside_random.map (V.int .u16)), .sl false (s_u_outside_inputs.map encLU16), .sl false (s_u_outside_files_data.map encLCanon), .sl false (s_u_outside_files_opens.map Opn.enc), .sl false (s_u_outside_outputs.map Output.enc), .int .i64 s_u_period, .int .i64 s_u_misses, .int .i64 s_u_repairs, .int .i64 s_u_pages, .int .i64 s_u_least, .int .i64 s_u_wait, .sl false (s_t_faults.map Fault.enc), .sl false (s_t_hangs.map Hang.enc), .sl false (s_t_crashes.map Crash.enc), .sl false (s_l.map Choice.enc)]], true⟩ ∧ S.f 3 = .hdr 3 0 (((rowsM (scenario.mk (Setup.mk (Prog.mk s_u_program_code s_u_program_sizes s_u_program_data) s_u_seeds (Outs.mk s_u_outside_clock s_u_outside_random s_u_outside_inputs (Files.mk s_u_outside_files_data s_u_outside_files_opens) s_u_outside_outputs) s_u_period s_u_misses s_u_repairs s_u_pages s_u_least s_u_wait) (Troubles.mk s_t_faults s_t_hangs s_t_crashes) s_l).u ⟨s_t_faults, s_t_hangs, s_t_crashes.take k⟩ []).map row.enc)).length ∧ S.h 3 = some ⟨2, ((rowsM (scenario.mk (Setup.mk (Prog.mk s_u_program_code s_u_program_sizes s_u_program_data) s_u_seeds (Outs.mk s_u_outside_clock s_u_outside_random s_u_outside_inputs (Files.mk s_u_outside_files_data s_u_outside_files_opens) s_u_outside_outputs) s_u_period s_u_misses s_u_repairs s_u_pages s_u_least s_u_wait) (Troubles.mk s_t_faults s_t_hangs s_t_crashes) s_l).u ⟨s_t_faults, s_t_hangs, s_t_crashes.take k⟩ []).map row.enc), false⟩ ∧ S.f 58 = .sl false (s_t_crashes.map Crash.enc) ∧ S.f 59 = .int .i64 ((s_t_crashes).length : Int) ∧ S.f 60 = .int .i64 (k : Int) ∧ S.n = 1100) ∧ True) (s_t_crashes.length) ?_ 0 (by simp) ?_
          · rintro k S hik ⟨hI2, hP2⟩
            have hwk : IntKind.i64.wrap ((k : Int) + 1) = (k : Int) + 1 := wrap_i64 (by omega)
            by_cases hltk : k < s_t_crashes.length
            · generalize hu : (scenario.mk (Setup.mk (Prog.mk s_u_program_code s_u_program_sizes s_u_program_data) s_u_seeds (Outs.mk s_u_outside_clock s_u_outside_random s_u_outside_inputs (Files.mk s_u_outside_files_data s_u_outside_files_opens) s_u_outside_outputs) s_u_period s_u_misses s_u_repairs s_u_pages s_u_least s_u_wait) (Troubles.mk s_t_faults s_t_hangs s_t_crashes) s_l).u = uu at *
              have hlen := rowsM_len uu ⟨s_t_faults, s_t_hangs, s_t_crashes.take k⟩ []
              have hs := rowsM_c uu s_t_faults s_t_hangs (s_t_crashes.take k) s_t_crashes[k]
              rw [← take_snoc hltk] at hs
              simp only [List.length_take, List.length_nil] at hlen
              generalize rowsM uu ⟨s_t_faults, s_t_hangs, s_t_crashes.take k⟩ [] = R at *
              simp (maxSteps := 10000000) (maxDischargeDepth := 30) (implicitDefEqProofs := false) [hii, hwi, hlti, hij, hwj, hltj, hI2, hik, hwk, hltk, hs]
              refine ⟨⟨by omega, by omega⟩, fun _ _ => ?_⟩
              rfl
            · have hek : s_t_crashes.length = k := by omega
              subst hek
              simp (maxSteps := 10000000) (maxDischargeDepth := 30) (implicitDefEqProofs := false) [hii, hwi, hlti, hij, hwj, hltj, hI2, hik, hwk, hltk]
              refine Wp_up (fun m S => (S.f 3 = .hdr 3 0 (((rowsM (scenario.mk (Setup.mk (Prog.mk s_u_program_code s_u_program_sizes s_u_program_data) s_u_seeds (Outs.mk s_u_outside_clock s_u_outside_random s_u_outside_inputs (Files.mk s_u_outside_files_data s_u_outside_files_opens) s_u_outside_outputs) s_u_period s_u_misses s_u_repairs s_u_pages s_u_least s_u_wait) (Troubles.mk s_t_faults s_t_hangs s_t_crashes) s_l).u ⟨s_t_faults, s_t_hangs, s_t_crashes⟩ (s_l.take m)).map row.enc)).length ∧ S.h 3 = some ⟨2, ((rowsM (scenario.mk (Setup.mk (Prog.mk s_u_program_code s_u_program_sizes s_u_program_data) s_u_seeds (Outs.mk s_u_outside_clock s_u_outside_random s_u_outside_inputs (Files.mk s_u_outside_files_data s_u_outside_files_opens) s_u_outside_outputs) s_u_period s_u_misses s_u_repairs s_u_pages s_u_least s_u_wait) (Troubles.mk s_t_faults s_t_hangs s_t_crashes) s_l).u ⟨s_t_faults, s_t_hangs, s_t_crashes⟩ (s_l.take m)).map row.enc), false⟩ ∧ S.f 76 = .sl false (s_l.map Choice.enc) ∧ S.f 77 = .int .i64 ((s_l).length : Int) ∧ S.f 78 = .int .i64 (m : Int) ∧ S.n = 1100) ∧ True) (s_l.length) ?_ 0 (by simp) ?_
              · rintro m S him ⟨hI3, hP3⟩
                have hwm : IntKind.i64.wrap ((m : Int) + 1) = (m : Int) + 1 := wrap_i64 (by omega)
                by_cases hltm : m < s_l.length
                · generalize hu : (scenario.mk (Setup.mk (Prog.mk s_u_program_code s_u_program_sizes s_u_program_data) s_u_seeds (Outs.mk s_u_outside_clock s_u_outside_random s_u_outside_inputs (Files.mk s_u_outside_files_data s_u_outside_files_opens) s_u_outside_outputs) s_u_period s_u_misses s_u_repairs s_u_pages s_u_least s_u_wait) (Troubles.mk s_t_faults s_t_hangs s_t_crashes) s_l).u = uu at *
                  have hlen := rowsM_len uu ⟨s_t_faults, s_t_hangs, s_t_crashes⟩ (s_l.take m)
                  have hs := rowsM_l uu ⟨s_t_faults, s_t_hangs, s_t_crashes⟩ (s_l.take m) s_l[m]
                  rw [← take_snoc hltm] at hs
                  simp only [List.length_take, List.length_nil] at hlen
                  generalize rowsM uu ⟨s_t_faults, s_t_hangs, s_t_crashes⟩ (s_l.take m) = R at *
                  simp (maxSteps := 10000000) (maxDischargeDepth := 30) (implicitDefEqProofs := false) [hii, hwi, hlti, hij, hwj, hltj, hik, hwk, hltk, hI3, him, hwm, hltm, hs]
                  refine ⟨⟨by omega, by omega⟩, fun _ _ => ?_⟩
                  rfl
                · have hem : s_l.length = m := by omega
                  subst hem
                  simp (maxSteps := 10000000) (maxDischargeDepth := 30) (implicitDefEqProofs := false) [hii, hwi, hlti, hij, hwj, hltj, hik, hwk, hltk, hI3, him, hwm, hltm]
              · simp (maxSteps := 10000000) (maxDischargeDepth := 30) (implicitDefEqProofs := false) [hii, hwi, hlti, hij, hwj, hltj, hI2, hik, hwk, hltk] <;> (
                  simp)
          · simp (maxSteps := 10000000) (maxDischargeDepth := 30) (implicitDefEqProofs := false) [hii, hwi, hlti, hI1, hij, hwj, hltj] <;> (
              simp)
      · simp (maxSteps := 10000000) (maxDischargeDepth := 30) (implicitDefEqProofs := false) [hI0, hii, hwi, hlti] <;> (
          simp)
  · simp (maxSteps := 10000000) (maxDischargeDepth := 30) (implicitDefEqProofs := false) [e6, e3, rowsM, setupN]
    exact ⟨rfl, rfl⟩
end Go.Proofs.YtcfmnogghcjdaaaGreatDoor
namespace Go.Proofs.YtcfmnogghcjdaaaGreatDoor
open Go Go.Abs Go.Abs.Api
@[simp] theorem f_text_check (s_u_program_code : List Instr) (s_u_program_sizes : List Int) (s_u_program_data : List (List Int)) (s_u_seeds : List Int) (s_u_outside_clock : List Int) (s_u_outside_random : List Int) (s_u_outside_inputs : List (List Int)) (s_u_outside_files_data : List (List Canon)) (s_u_outside_files_opens : List Opn) (s_u_outside_outputs : List Output) (s_u_period : Int) (s_u_misses : Int) (s_u_repairs : Int) (s_u_pages : Int) (s_u_least : Int) (s_u_wait : Int) (s_t_faults : List Fault) (s_t_hangs : List Hang) (s_t_crashes : List Crash) (s_l : List Choice) (h1 : s_t_faults.length ≤ 1000000 ∧ s_t_hangs.length ≤ 1000000 ∧ s_t_crashes.length ≤ 1000000 ∧ s_l.length ≤ 1000000) : pcall X 27 [.agg [.sl false (s_u_program_code.map Instr.enc), .sl false (s_u_program_sizes.map (V.int .i64)), .sl false (s_u_program_data.map encLU16), .sl false (s_u_seeds.map (V.int .i64)), .sl false (s_u_outside_clock.map (V.int .u16)), .sl false (s_u_outside_random.map (V.int .u16)), .sl false (s_u_outside_inputs.map encLU16), .sl false (s_u_outside_files_data.map encLCanon), .sl false (s_u_outside_files_opens.map Opn.enc), .sl false (s_u_outside_outputs.map Output.enc), .int .i64 s_u_period, .int .i64 s_u_misses, .int .i64 s_u_repairs, .int .i64 s_u_pages, .int .i64 s_u_least, .int .i64 s_u_wait, .sl false (s_t_faults.map Fault.enc), .sl false (s_t_hangs.map Hang.enc), .sl false (s_t_crashes.map Crash.enc), .sl false (s_l.map Choice.enc)]] = some (.int .i64 (checkM (scenario.mk (Setup.mk (Prog.mk s_u_program_code s_u_program_sizes s_u_program_data) s_u_seeds (Outs.mk s_u_outside_clock s_u_outside_random s_u_outside_inputs (Files.mk s_u_outside_files_data s_u_outside_files_opens) s_u_outside_outputs) s_u_period s_u_misses s_u_repairs s_u_pages s_u_least s_u_wait) (Troubles.mk s_t_faults s_t_hangs s_t_crashes) s_l).u (scenario.mk (Setup.mk (Prog.mk s_u_program_code s_u_program_sizes s_u_program_data) s_u_seeds (Outs.mk s_u_outside_clock s_u_outside_random s_u_outside_inputs (Files.mk s_u_outside_files_data s_u_outside_files_opens) s_u_outside_outputs) s_u_period s_u_misses s_u_repairs s_u_pages s_u_least s_u_wait) (Troubles.mk s_t_faults s_t_hangs s_t_crashes) s_l).t s_l)) := by
  refine pcall_of Tryz.func27 rfl rfl ?_
  by_cases hlim : limitsB (scenario.mk (Setup.mk (Prog.mk s_u_program_code s_u_program_sizes s_u_program_data) s_u_seeds (Outs.mk s_u_outside_clock s_u_outside_random s_u_outside_inputs (Files.mk s_u_outside_files_data s_u_outside_files_opens) s_u_outside_outputs) s_u_period s_u_misses s_u_repairs s_u_pages s_u_least s_u_wait) (Troubles.mk s_t_faults s_t_hangs s_t_crashes) s_l).u (scenario.mk (Setup.mk (Prog.mk s_u_program_code s_u_program_sizes s_u_program_data) s_u_seeds (Outs.mk s_u_outside_clock s_u_outside_random s_u_outside_inputs (Files.mk s_u_outside_files_data s_u_outside_files_opens) s_u_outside_outputs) s_u_period s_u_misses s_u_repairs s_u_pages s_u_least s_u_wait) (Troubles.mk s_t_faults s_t_hangs s_t_crashes) s_l).t s_l = true
  · have hL := hlim
    simp only [limitsB, Bool.and_eq_true, decide_eq_true_eq] at hL
    obtain ⟨⟨⟨⟨⟨l1, l2⟩, l3⟩, l4⟩, l5⟩, l6⟩ := hL
    have hnum := rows_nums (u := (scenario.mk (Setup.mk (Prog.mk s_u_program_code s_u_program_sizes s_u_program_data) s_u_seeds (Outs.mk s_u_outside_clock s_u_outside_random s_u_outside_inputs (Files.mk s_u_outside_files_data s_u_outside_files_opens) s_u_outside_outputs) s_u_period s_u_misses s_u_repairs s_u_pages s_u_least s_u_wait) (Troubles.mk s_t_faults s_t_hangs s_t_crashes) s_l).u) (t := (scenario.mk (Setup.mk (Prog.mk s_u_program_code s_u_program_sizes s_u_program_data) s_u_seeds (Outs.mk s_u_outside_clock s_u_outside_random s_u_outside_inputs (Files.mk s_u_outside_files_data s_u_outside_files_opens) s_u_outside_outputs) s_u_period s_u_misses s_u_repairs s_u_pages s_u_least s_u_wait) (Troubles.mk s_t_faults s_t_hangs s_t_crashes) s_l).t) (l := s_l) l2
    have hlen := rowsM_len (scenario.mk (Setup.mk (Prog.mk s_u_program_code s_u_program_sizes s_u_program_data) s_u_seeds (Outs.mk s_u_outside_clock s_u_outside_random s_u_outside_inputs (Files.mk s_u_outside_files_data s_u_outside_files_opens) s_u_outside_outputs) s_u_period s_u_misses s_u_repairs s_u_pages s_u_least s_u_wait) (Troubles.mk s_t_faults s_t_hangs s_t_crashes) s_l).u (scenario.mk (Setup.mk (Prog.mk s_u_program_code s_u_program_sizes s_u_program_data) s_u_seeds (Outs.mk s_u_outside_clock s_u_outside_random s_u_outside_inputs (Files.mk s_u_outside_files_data s_u_outside_files_opens) s_u_outside_outputs) s_u_period s_u_misses s_u_repairs s_u_pages s_u_least s_u_wait) (Troubles.mk s_t_faults s_t_hangs s_t_crashes) s_l).t s_l
    have i1 : (1 : Int) ≤ (s_u_seeds.length : Int) := by omega
    have i2 : (s_u_seeds.length : Int) ≤ 5 := by omega
    have i3 : (s_t_faults.length : Int) ≤ 40 := by omega
    have i4 : (s_t_hangs.length : Int) ≤ 20 := by omega
    have i5 : (s_t_crashes.length : Int) ≤ 20 := by omega
    have i6 : (s_l.length : Int) ≤ 200 := by omega
    have j1 : ¬ (s_u_seeds.length : Int) < 1 := by omega
    have j2 : ¬ (5 : Int) < (s_u_seeds.length : Int) := by omega
    have j3 : ¬ (40 : Int) < (s_t_faults.length : Int) := by omega
    have j4 : ¬ (20 : Int) < (s_t_hangs.length : Int) := by omega
    have j5 : ¬ (20 : Int) < (s_t_crashes.length : Int) := by omega
    have j6 : ¬ (200 : Int) < (s_l.length : Int) := by omega
    have hfm : checkM (scenario.mk (Setup.mk (Prog.mk s_u_program_code s_u_program_sizes s_u_program_data) s_u_seeds (Outs.mk s_u_outside_clock s_u_outside_random s_u_outside_inputs (Files.mk s_u_outside_files_data s_u_outside_files_opens) s_u_outside_outputs) s_u_period s_u_misses s_u_repairs s_u_pages s_u_least s_u_wait) (Troubles.mk s_t_faults s_t_hangs s_t_crashes) s_l).u (scenario.mk (Setup.mk (Prog.mk s_u_program_code s_u_program_sizes s_u_program_data) s_u_seeds (Outs.mk s_u_outside_clock s_u_outside_random s_u_outside_inputs (Files.mk s_u_outside_files_data s_u_outside_files_opens) s_u_outside_outputs) s_u_period s_u_misses s_u_repairs s_u_pages s_u_least s_u_wait) (Troubles.mk s_t_faults s_t_hangs s_t_crashes) s_l).t s_l = if (rowsM (scenario.mk (Setup.mk (Prog.mk s_u_program_code s_u_program_sizes s_u_program_data) s_u_seeds (Outs.mk s_u_outside_clock s_u_outside_random s_u_outside_inputs (Files.mk s_u_outside_files_data s_u_outside_files_opens) s_u_outside_outputs) s_u_period s_u_misses s_u_repairs s_u_pages s_u_least s_u_wait) (Troubles.mk s_t_faults s_t_hangs s_t_crashes) s_l).u (scenario.mk (Setup.mk (Prog.mk s_u_program_code s_u_program_sizes s_u_program_data) s_u_seeds (Outs.mk s_u_outside_clock s_u_outside_random s_u_outside_inputs (Files.mk s_u_outside_files_data s_u_outside_files_opens) s_u_outside_outputs) s_u_period s_u_misses s_u_repairs s_u_pages s_u_least s_u_wait) (Troubles.mk s_t_faults s_t_hangs s_t_crashes) s_l).t s_l).all (fun r => r.numbers.all okN) = true then 0 else 6 := by
      simp only [checkM, hlim, numsB]
      by_cases h : (rowsM (scenario.mk (Setup.mk (Prog.mk s_u_program_code s_u_program_sizes s_u_program_data) s_u_seeds (Outs.mk s_u_outside_clock s_u_outside_random s_u_outside_inputs (Files.mk s_u_outside_files_data s_u_outside_files_opens) s_u_outside_outputs) s_u_period s_u_misses s_u_repairs s_u_pages s_u_least s_u_wait) (Troubles.mk s_t_faults s_t_hangs s_t_crashes) s_l).u (scenario.mk (Setup.mk (Prog.mk s_u_program_code s_u_program_sizes s_u_program_data) s_u_seeds (Outs.mk s_u_outside_clock s_u_outside_random s_u_outside_inputs (Files.mk s_u_outside_files_data s_u_outside_files_opens) s_u_outside_outputs) s_u_period s_u_misses s_u_repairs s_u_pages s_u_least s_u_wait) (Troubles.mk s_t_faults s_t_hangs s_t_crashes) s_l).t s_l).all (fun r => r.numbers.all okN) = true <;> simp [h]
    generalize checkM (scenario.mk (Setup.mk (Prog.mk s_u_program_code s_u_program_sizes s_u_program_data) s_u_seeds (Outs.mk s_u_outside_clock s_u_outside_random s_u_outside_inputs (Files.mk s_u_outside_files_data s_u_outside_files_opens) s_u_outside_outputs) s_u_period s_u_misses s_u_repairs s_u_pages s_u_least s_u_wait) (Troubles.mk s_t_faults s_t_hangs s_t_crashes) s_l).u (scenario.mk (Setup.mk (Prog.mk s_u_program_code s_u_program_sizes s_u_program_data) s_u_seeds (Outs.mk s_u_outside_clock s_u_outside_random s_u_outside_inputs (Files.mk s_u_outside_files_data s_u_outside_files_opens) s_u_outside_outputs) s_u_period s_u_misses s_u_repairs s_u_pages s_u_least s_u_wait) (Troubles.mk s_t_faults s_t_hangs s_t_crashes) s_l).t s_l = F at *
    obtain ⟨R, hRR⟩ : ∃ R, rowsM (scenario.mk (Setup.mk (Prog.mk s_u_program_code s_u_program_sizes s_u_program_data) s_u_seeds (Outs.mk s_u_outside_clock s_u_outside_random s_u_outside_inputs (Files.mk s_u_outside_files_data s_u_outside_files_opens) s_u_outside_outputs) s_u_period s_u_misses s_u_repairs s_u_pages s_u_least s_u_wait) (Troubles.mk s_t_faults s_t_hangs s_t_crashes) s_l).u (scenario.mk (Setup.mk (Prog.mk s_u_program_code s_u_program_sizes s_u_program_data) s_u_seeds (Outs.mk s_u_outside_clock s_u_outside_random s_u_outside_inputs (Files.mk s_u_outside_files_data s_u_outside_files_opens) s_u_outside_outputs) s_u_period s_u_misses s_u_repairs s_u_pages s_u_least s_u_wait) (Troubles.mk s_t_faults s_t_hangs s_t_crashes) s_l).t s_l = R := ⟨_, rfl⟩
    simp only [hRR] at hlen hnum hfm ⊢
    have hR6 : R.length ≤ 300 := by omega
    simp (maxSteps := 10000000) (maxDischargeDepth := 30) (implicitDefEqProofs := false) [hRR, h1, i1, i2, i3, i4, i5, i6, j1, j2, j3, j4, j5, j6]
    refine Wp_up (fun i S => (S.f 45 = .sl false ((R).map row.enc) ∧ S.f 46 = .int .i64 ((R.length : Int)) ∧ S.f 47 = .int .i64 (i : Int) ∧ S.n = 1100) ∧ ((R.take i).all (fun r => r.numbers.all okN) = true)) (R.length) ?_ 0 (by simp) ?_
    · rintro i S hii ⟨hI0, hP0⟩
      have hwi : IntKind.i64.wrap ((i : Int) + 1) = (i : Int) + 1 := wrap_i64 (by omega)
      by_cases hlti : i < R.length
      · have hri : R[i].numbers.length ≤ 6 := hnum _ (List.getElem_mem hlti)
        have hc := f_ctf R[i].numbers (by omega)
        simp (maxSteps := 10000000) (maxDischargeDepth := 30) (implicitDefEqProofs := false) [hI0, hii, hwi, hlti, hc, -List.all_eq_true]
        refine ⟨fun x hx h => ?_, fun h => by rw [all_up hlti, hP0, h]; rfl⟩
        have hno : ¬ R.all (fun r => r.numbers.all okN) = true := by
          intro hall
          have h1 := List.all_eq_true.1 hall _ (List.getElem_mem hlti)
          have h2 := List.all_eq_true.1 h1 x hx
          rw [h] at h2; cases h2
        rw [hfm, if_neg hno]
      · have hei : R.length = i := by omega
        subst hei
        rw [List.take_length] at hP0
        rw [if_pos hP0] at hfm
        subst hfm
        simp (maxSteps := 10000000) (maxDischargeDepth := 30) (implicitDefEqProofs := false) [hI0, hii, hwi, hlti]
    · simp (maxSteps := 10000000) (maxDischargeDepth := 30) (implicitDefEqProofs := false) []
  · have hL : s_u_seeds.length < 1 ∨ 5 < s_u_seeds.length ∨ 40 < s_t_faults.length ∨ 20 < s_t_hangs.length ∨ 20 < s_t_crashes.length ∨ 200 < s_l.length := by
      simp only [limitsB, Bool.and_eq_true, decide_eq_true_eq] at hlim
      omega
    have hF : checkM (scenario.mk (Setup.mk (Prog.mk s_u_program_code s_u_program_sizes s_u_program_data) s_u_seeds (Outs.mk s_u_outside_clock s_u_outside_random s_u_outside_inputs (Files.mk s_u_outside_files_data s_u_outside_files_opens) s_u_outside_outputs) s_u_period s_u_misses s_u_repairs s_u_pages s_u_least s_u_wait) (Troubles.mk s_t_faults s_t_hangs s_t_crashes) s_l).u (scenario.mk (Setup.mk (Prog.mk s_u_program_code s_u_program_sizes s_u_program_data) s_u_seeds (Outs.mk s_u_outside_clock s_u_outside_random s_u_outside_inputs (Files.mk s_u_outside_files_data s_u_outside_files_opens) s_u_outside_outputs) s_u_period s_u_misses s_u_repairs s_u_pages s_u_least s_u_wait) (Troubles.mk s_t_faults s_t_hangs s_t_crashes) s_l).t s_l = 3 := by
      simp [checkM, hlim]
    generalize checkM (scenario.mk (Setup.mk (Prog.mk s_u_program_code s_u_program_sizes s_u_program_data) s_u_seeds (Outs.mk s_u_outside_clock s_u_outside_random s_u_outside_inputs (Files.mk s_u_outside_files_data s_u_outside_files_opens) s_u_outside_outputs) s_u_period s_u_misses s_u_repairs s_u_pages s_u_least s_u_wait) (Troubles.mk s_t_faults s_t_hangs s_t_crashes) s_l).u (scenario.mk (Setup.mk (Prog.mk s_u_program_code s_u_program_sizes s_u_program_data) s_u_seeds (Outs.mk s_u_outside_clock s_u_outside_random s_u_outside_inputs (Files.mk s_u_outside_files_data s_u_outside_files_opens) s_u_outside_outputs) s_u_period s_u_misses s_u_repairs s_u_pages s_u_least s_u_wait) (Troubles.mk s_t_faults s_t_hangs s_t_crashes) s_l).t s_l = F at *
    subst hF
    clear hlim
    simp (maxSteps := 10000000) (maxDischargeDepth := 30) (implicitDefEqProofs := false) [h1]
    intros
    exfalso
    omega
theorem rowsM_kind {u : Setup} {t : Troubles} {l : List Choice} : ∀ r ∈ rowsM u t l, 0 ≤ r.kind ∧ r.kind < 6 := by
  intro r hr
  simp only [rowsM, List.mem_append, List.mem_cons, List.mem_map, List.mem_nil_iff, or_false] at hr
  rcases hr with ((((rfl | rfl) | ⟨_, _, rfl⟩) | ⟨_, _, rfl⟩) | ⟨_, _, rfl⟩) | ⟨_, _, rfl⟩ <;> simp
theorem pc_row {r : row} (hk : 0 ≤ r.kind ∧ r.kind < 6) (hl : r.numbers.length ≤ 1000000) (hn : ∀ x ∈ r.numbers, okN x = true) : rowO r.enc (callL X) = some (rowS r) := by
  have h1 := f_text_row_write r.kind r.numbers hk hl hn
  have h2 : pc (callL X) 30 [.agg [.int .i64 r.kind, .sl false (r.numbers.map (V.int .i64))]] = some (.str (rowS r)) := h1
  show (pc (callL X) 30 [.agg [.int .i64 r.kind, .sl false (r.numbers.map (V.int .i64))]]).bind strOf = _
  rw [h2]; rfl
theorem rowS_len {r : row} (hl : r.numbers.length ≤ 6) (hn : r.numbers.all okN = true) : (rowS r).length ≤ 97 := by
  rw [← refLine_row hn]; exact refLine_len hl
theorem rowsS_len : ∀ {R : List row}, (∀ r ∈ R, r.numbers.length ≤ 6 ∧ r.numbers.all okN = true) → ((R.map rowS).flatten).length ≤ 97 * R.length
  | [], _ => by simp
  | r :: R, h => by
    have h1 := rowS_len (h r (by simp)).1 (h r (by simp)).2
    have h2 := rowsS_len (R := R) fun x hx => h x (by simp [hx])
    simp only [List.map_cons, List.flatten_cons, List.length_append, List.length_cons] at h2 ⊢
    omega
@[simp] theorem f_text_Format (u_program_code : List Instr) (u_program_sizes : List Int) (u_program_data : List (List Int)) (u_seeds : List Int) (u_outside_clock : List Int) (u_outside_random : List Int) (u_outside_inputs : List (List Int)) (u_outside_files_data : List (List Canon)) (u_outside_files_opens : List Opn) (u_outside_outputs : List Output) (u_period : Int) (u_misses : Int) (u_repairs : Int) (u_pages : Int) (u_least : Int) (u_wait : Int) (t_faults : List Fault) (t_hangs : List Hang) (t_crashes : List Crash) (l : List Choice) (h1 : t_faults.length ≤ 1000000 ∧ t_hangs.length ≤ 1000000 ∧ t_crashes.length ≤ 1000000 ∧ l.length ≤ 1000000) : pcall X 15 [.agg [.sl false (u_program_code.map Instr.enc), .sl false (u_program_sizes.map (V.int .i64)), .sl false (u_program_data.map encLU16), .sl false (u_seeds.map (V.int .i64)), .sl false (u_outside_clock.map (V.int .u16)), .sl false (u_outside_random.map (V.int .u16)), .sl false (u_outside_inputs.map encLU16), .sl false (u_outside_files_data.map encLCanon), .sl false (u_outside_files_opens.map Opn.enc), .sl false (u_outside_outputs.map Output.enc), .int .i64 u_period, .int .i64 u_misses, .int .i64 u_repairs, .int .i64 u_pages, .int .i64 u_least, .int .i64 u_wait], .agg [.sl false (t_faults.map Fault.enc), .sl false (t_hangs.map Hang.enc), .sl false (t_crashes.map Crash.enc)], .sl false (l.map Choice.enc)] = some (.tup [.str ((formatM (Setup.mk (Prog.mk u_program_code u_program_sizes u_program_data) u_seeds (Outs.mk u_outside_clock u_outside_random u_outside_inputs (Files.mk u_outside_files_data u_outside_files_opens) u_outside_outputs) u_period u_misses u_repairs u_pages u_least u_wait) (Troubles.mk t_faults t_hangs t_crashes) l).1), .int .i64 ((formatM (Setup.mk (Prog.mk u_program_code u_program_sizes u_program_data) u_seeds (Outs.mk u_outside_clock u_outside_random u_outside_inputs (Files.mk u_outside_files_data u_outside_files_opens) u_outside_outputs) u_period u_misses u_repairs u_pages u_least u_wait) (Troubles.mk t_faults t_hangs t_crashes) l).2)]) := by
  refine pcall_prim (pr := formatP) (v := .tup [.str (formatM (Setup.mk (Prog.mk u_program_code u_program_sizes u_program_data) u_seeds (Outs.mk u_outside_clock u_outside_random u_outside_inputs (Files.mk u_outside_files_data u_outside_files_opens) u_outside_outputs) u_period u_misses u_repairs u_pages u_least u_wait) (Troubles.mk t_faults t_hangs t_crashes) l).1, .int .i64 (formatM (Setup.mk (Prog.mk u_program_code u_program_sizes u_program_data) u_seeds (Outs.mk u_outside_clock u_outside_random u_outside_inputs (Files.mk u_outside_files_data u_outside_files_opens) u_outside_outputs) u_period u_misses u_repairs u_pages u_least u_wait) (Troubles.mk t_faults t_hangs t_crashes) l).2]) rfl ?_ rfl
  simp only [formatP, mkPrim]
  have hc := f_text_check u_program_code u_program_sizes u_program_data u_seeds u_outside_clock u_outside_random u_outside_inputs u_outside_files_data u_outside_files_opens u_outside_outputs u_period u_misses u_repairs u_pages u_least u_wait t_faults t_hangs t_crashes l h1
  have hr := f_text_rows u_program_code u_program_sizes u_program_data u_seeds u_outside_clock u_outside_random u_outside_inputs u_outside_files_data u_outside_files_opens u_outside_outputs u_period u_misses u_repairs u_pages u_least u_wait t_faults t_hangs t_crashes l h1
  have hf : formatM (Setup.mk (Prog.mk u_program_code u_program_sizes u_program_data) u_seeds (Outs.mk u_outside_clock u_outside_random u_outside_inputs (Files.mk u_outside_files_data u_outside_files_opens) u_outside_outputs) u_period u_misses u_repairs u_pages u_least u_wait) (Troubles.mk t_faults t_hangs t_crashes) l = if checkM (Setup.mk (Prog.mk u_program_code u_program_sizes u_program_data) u_seeds (Outs.mk u_outside_clock u_outside_random u_outside_inputs (Files.mk u_outside_files_data u_outside_files_opens) u_outside_outputs) u_period u_misses u_repairs u_pages u_least u_wait) (Troubles.mk t_faults t_hangs t_crashes) l = 0 then (textM (Setup.mk (Prog.mk u_program_code u_program_sizes u_program_data) u_seeds (Outs.mk u_outside_clock u_outside_random u_outside_inputs (Files.mk u_outside_files_data u_outside_files_opens) u_outside_outputs) u_period u_misses u_repairs u_pages u_least u_wait) (Troubles.mk t_faults t_hangs t_crashes) l, 0) else ([], checkM (Setup.mk (Prog.mk u_program_code u_program_sizes u_program_data) u_seeds (Outs.mk u_outside_clock u_outside_random u_outside_inputs (Files.mk u_outside_files_data u_outside_files_opens) u_outside_outputs) u_period u_misses u_repairs u_pages u_least u_wait) (Troubles.mk t_faults t_hangs t_crashes) l) := rfl
  have hk := rowsM_kind (u := (Setup.mk (Prog.mk u_program_code u_program_sizes u_program_data) u_seeds (Outs.mk u_outside_clock u_outside_random u_outside_inputs (Files.mk u_outside_files_data u_outside_files_opens) u_outside_outputs) u_period u_misses u_repairs u_pages u_least u_wait)) (t := (Troubles.mk t_faults t_hangs t_crashes)) (l := l)
  have hn : checkM (Setup.mk (Prog.mk u_program_code u_program_sizes u_program_data) u_seeds (Outs.mk u_outside_clock u_outside_random u_outside_inputs (Files.mk u_outside_files_data u_outside_files_opens) u_outside_outputs) u_period u_misses u_repairs u_pages u_least u_wait) (Troubles.mk t_faults t_hangs t_crashes) l = 0 → ∀ r ∈ rowsM (Setup.mk (Prog.mk u_program_code u_program_sizes u_program_data) u_seeds (Outs.mk u_outside_clock u_outside_random u_outside_inputs (Files.mk u_outside_files_data u_outside_files_opens) u_outside_outputs) u_period u_misses u_repairs u_pages u_least u_wait) (Troubles.mk t_faults t_hangs t_crashes) l, r.numbers.length ≤ 6 ∧ r.numbers.all okN = true := by
    intro h0 r hr
    have hlim : limitsB (Setup.mk (Prog.mk u_program_code u_program_sizes u_program_data) u_seeds (Outs.mk u_outside_clock u_outside_random u_outside_inputs (Files.mk u_outside_files_data u_outside_files_opens) u_outside_outputs) u_period u_misses u_repairs u_pages u_least u_wait) (Troubles.mk t_faults t_hangs t_crashes) l = true := by
      cases h : limitsB (Setup.mk (Prog.mk u_program_code u_program_sizes u_program_data) u_seeds (Outs.mk u_outside_clock u_outside_random u_outside_inputs (Files.mk u_outside_files_data u_outside_files_opens) u_outside_outputs) u_period u_misses u_repairs u_pages u_least u_wait) (Troubles.mk t_faults t_hangs t_crashes) l with
      | true => rfl
      | false => simp [checkM, h] at h0
    have hnum : numsB (Setup.mk (Prog.mk u_program_code u_program_sizes u_program_data) u_seeds (Outs.mk u_outside_clock u_outside_random u_outside_inputs (Files.mk u_outside_files_data u_outside_files_opens) u_outside_outputs) u_period u_misses u_repairs u_pages u_least u_wait) (Troubles.mk t_faults t_hangs t_crashes) l = true := by
      cases h : numsB (Setup.mk (Prog.mk u_program_code u_program_sizes u_program_data) u_seeds (Outs.mk u_outside_clock u_outside_random u_outside_inputs (Files.mk u_outside_files_data u_outside_files_opens) u_outside_outputs) u_period u_misses u_repairs u_pages u_least u_wait) (Troubles.mk t_faults t_hangs t_crashes) l with
      | true => rfl
      | false => simp [checkM, hlim, h] at h0
    refine ⟨rows_nums ?_ r hr, List.all_eq_true.1 hnum r hr⟩
    simp only [limitsB, Bool.and_eq_true, decide_eq_true_eq] at hlim
    exact hlim.1.1.1.1.2
  have hlen := rowsM_len (Setup.mk (Prog.mk u_program_code u_program_sizes u_program_data) u_seeds (Outs.mk u_outside_clock u_outside_random u_outside_inputs (Files.mk u_outside_files_data u_outside_files_opens) u_outside_outputs) u_period u_misses u_repairs u_pages u_least u_wait) (Troubles.mk t_faults t_hangs t_crashes) l
  dsimp only at hlen
  simp only [textM] at hf
  generalize formatM (Setup.mk (Prog.mk u_program_code u_program_sizes u_program_data) u_seeds (Outs.mk u_outside_clock u_outside_random u_outside_inputs (Files.mk u_outside_files_data u_outside_files_opens) u_outside_outputs) u_period u_misses u_repairs u_pages u_least u_wait) (Troubles.mk t_faults t_hangs t_crashes) l = F at *
  generalize checkM (Setup.mk (Prog.mk u_program_code u_program_sizes u_program_data) u_seeds (Outs.mk u_outside_clock u_outside_random u_outside_inputs (Files.mk u_outside_files_data u_outside_files_opens) u_outside_outputs) u_period u_misses u_repairs u_pages u_least u_wait) (Troubles.mk t_faults t_hangs t_crashes) l = e at *
  generalize rowsM (Setup.mk (Prog.mk u_program_code u_program_sizes u_program_data) u_seeds (Outs.mk u_outside_clock u_outside_random u_outside_inputs (Files.mk u_outside_files_data u_outside_files_opens) u_outside_outputs) u_period u_misses u_repairs u_pages u_least u_wait) (Troubles.mk t_faults t_hangs t_crashes) l = R at *
  have hc' : pc (callL X) 27 [.agg ([.sl false (u_program_code.map Instr.enc), .sl false (u_program_sizes.map (V.int .i64)), .sl false (u_program_data.map encLU16), .sl false (u_seeds.map (V.int .i64)), .sl false (u_outside_clock.map (V.int .u16)), .sl false (u_outside_random.map (V.int .u16)), .sl false (u_outside_inputs.map encLU16), .sl false (u_outside_files_data.map encLCanon), .sl false (u_outside_files_opens.map Opn.enc), .sl false (u_outside_outputs.map Output.enc), .int .i64 u_period, .int .i64 u_misses, .int .i64 u_repairs, .int .i64 u_pages, .int .i64 u_least, .int .i64 u_wait] ++ [.sl false (t_faults.map Fault.enc), .sl false (t_hangs.map Hang.enc), .sl false (t_crashes.map Crash.enc)] ++ [.sl false (l.map Choice.enc)])] = some (.int .i64 e) := hc
  have hr' : pc (callL X) 28 [.agg ([.sl false (u_program_code.map Instr.enc), .sl false (u_program_sizes.map (V.int .i64)), .sl false (u_program_data.map encLU16), .sl false (u_seeds.map (V.int .i64)), .sl false (u_outside_clock.map (V.int .u16)), .sl false (u_outside_random.map (V.int .u16)), .sl false (u_outside_inputs.map encLU16), .sl false (u_outside_files_data.map encLCanon), .sl false (u_outside_files_opens.map Opn.enc), .sl false (u_outside_outputs.map Output.enc), .int .i64 u_period, .int .i64 u_misses, .int .i64 u_repairs, .int .i64 u_pages, .int .i64 u_least, .int .i64 u_wait] ++ [.sl false (t_faults.map Fault.enc), .sl false (t_hangs.map Hang.enc), .sl false (t_crashes.map Crash.enc)] ++ [.sl false (l.map Choice.enc)])] = some (.sl false (R.map row.enc)) := hr
  unfold formatRun
  simp only []
  rw [if_pos (by simp), hc', Option.bind_some]
  simp only []
  by_cases h0 : e = 0
  · subst h0
    rw [if_pos rfl] at hf
    subst hf
    have hn' := hn rfl
    have hm : mapO rowO (R.map row.enc) (callL X) = some (R.map rowS) := by
      have hall : ∀ r ∈ R, rowO r.enc (callL X) = some (rowS r) := fun r hr => pc_row (hk r hr) (by have := (hn' r hr).1; omega) (List.all_eq_true.1 (hn' r hr).2)
      clear hlen hk hn hn' hc hr hc' hr'
      induction R with
      | nil => rfl
      | cons r R ih =>
        simp only [List.map_cons, mapO]
        rw [hall r (by simp), Option.bind_some, ih fun x hx => hall x (by simp [hx])]
        rfl
    have hl := rowsS_len hn'
    rw [if_neg (by simp), hr', Option.bind_some]
    simp only [List.length_map]
    rw [if_pos (by omega), hm, Option.bind_some, if_pos (by omega)]
  · rw [if_neg h0] at hf
    subst hf
    rw [if_pos h0]
end Go.Proofs.YtcfmnogghcjdaaaGreatDoor
