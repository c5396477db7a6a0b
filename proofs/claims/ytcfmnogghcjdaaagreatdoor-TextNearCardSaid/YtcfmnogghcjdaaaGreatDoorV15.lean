/- Part of a proof: S11, S11b. -/
import Derived.Test.YtcfmnogghcjdaaaGreatDoorV14
set_option linter.all false
set_option maxRecDepth 100000
set_option maxHeartbeats 20000000
namespace Go.Proofs.YtcfmnogghcjdaaaGreatDoor
open Go Go.Abs Go.Abs.Api
theorem imm_rows {α : Type} {f : α → V} {hx : Heap} (h : ∀ x, toImm hx 12 (f x) = some (f x)) : ∀ l : List α, allSome (l.map (toImm hx 12 ∘ f)) = some (l.map f)
  | [] => rfl
  | a :: l => by simp [allSome, h a, imm_rows h l]
@[simp] theorem fault_rows (hx : Heap) (l : List Fault) : allSome (l.map (toImm hx 12 ∘ Fault.enc)) = some (l.map Fault.enc) := imm_rows (fun _ => rfl) l
@[simp] theorem hang_rows (hx : Heap) (l : List Hang) : allSome (l.map (toImm hx 12 ∘ Hang.enc)) = some (l.map Hang.enc) := imm_rows (fun _ => rfl) l
@[simp] theorem crash_rows (hx : Heap) (l : List Crash) : allSome (l.map (toImm hx 12 ∘ Crash.enc)) = some (l.map Crash.enc) := imm_rows (fun _ => rfl) l
@[simp] theorem choice_rows (hx : Heap) (l : List Choice) : allSome (l.map (toImm hx 12 ∘ Choice.enc)) = some (l.map Choice.enc) := imm_rows (fun _ => rfl) l
theorem f_read_no (r_place : Int) (r_u_program_code : List Instr) (r_u_program_sizes : List Int) (r_u_program_data : List (List Int)) (r_u_seeds : List Int) (r_u_outside_clock : List Int) (r_u_outside_random : List Int) (r_u_outside_inputs : List (List Int)) (r_u_outside_files_data : List (List Canon)) (r_u_outside_files_opens : List Opn) (r_u_outside_outputs : List Output) (r_u_period : Int) (r_u_misses : Int) (r_u_repairs : Int) (r_u_pages : Int) (r_u_least : Int) (r_u_wait : Int) (r_t_faults : List Fault) (r_t_hangs : List Hang) (r_t_crashes : List Crash) (r_l : List Choice) (s : List UInt8) (hl : s.length ≤ 1000000) (hr : rejB r_place s = true) : mcall X [(0, 17, 77), (0, 18, 80), (0, 19, 82), (0, 20, 61)] 47 21 (.agg [.int .i64 r_place, .sl false (r_u_program_code.map Instr.enc), .sl false (r_u_program_sizes.map (V.int .i64)), .sl false (r_u_program_data.map encLU16), .sl false (r_u_seeds.map (V.int .i64)), .sl false (r_u_outside_clock.map (V.int .u16)), .sl false (r_u_outside_random.map (V.int .u16)), .sl false (r_u_outside_inputs.map encLU16), .sl false (r_u_outside_files_data.map encLCanon), .sl false (r_u_outside_files_opens.map Opn.enc), .sl false (r_u_outside_outputs.map Output.enc), .int .i64 r_u_period, .int .i64 r_u_misses, .int .i64 r_u_repairs, .int .i64 r_u_pages, .int .i64 r_u_least, .int .i64 r_u_wait, .sl false (r_t_faults.map Fault.enc), .sl false (r_t_hangs.map Hang.enc), .sl false (r_t_crashes.map Crash.enc), .sl false (r_l.map Choice.enc)]) [.str s] = some (21, .agg [.int .i64 ((reader.mk r_place (Setup.mk (Prog.mk r_u_program_code r_u_program_sizes r_u_program_data) r_u_seeds (Outs.mk r_u_outside_clock r_u_outside_random r_u_outside_inputs (Files.mk r_u_outside_files_data r_u_outside_files_opens) r_u_outside_outputs) r_u_period r_u_misses r_u_repairs r_u_pages r_u_least r_u_wait) (Troubles.mk r_t_faults r_t_hangs r_t_crashes) r_l)).place, .sl false (((reader.mk r_place (Setup.mk (Prog.mk r_u_program_code r_u_program_sizes r_u_program_data) r_u_seeds (Outs.mk r_u_outside_clock r_u_outside_random r_u_outside_inputs (Files.mk r_u_outside_files_data r_u_outside_files_opens) r_u_outside_outputs) r_u_period r_u_misses r_u_repairs r_u_pages r_u_least r_u_wait) (Troubles.mk r_t_faults r_t_hangs r_t_crashes) r_l)).u.program.code.map Instr.enc), .sl false (((reader.mk r_place (Setup.mk (Prog.mk r_u_program_code r_u_program_sizes r_u_program_data) r_u_seeds (Outs.mk r_u_outside_clock r_u_outside_random r_u_outside_inputs (Files.mk r_u_outside_files_data r_u_outside_files_opens) r_u_outside_outputs) r_u_period r_u_misses r_u_repairs r_u_pages r_u_least r_u_wait) (Troubles.mk r_t_faults r_t_hangs r_t_crashes) r_l)).u.program.sizes.map (V.int .i64)), .sl false (((reader.mk r_place (Setup.mk (Prog.mk r_u_program_code r_u_program_sizes r_u_program_data) r_u_seeds (Outs.mk r_u_outside_clock r_u_outside_random r_u_outside_inputs (Files.mk r_u_outside_files_data r_u_outside_files_opens) r_u_outside_outputs) r_u_period r_u_misses r_u_repairs r_u_pages r_u_least r_u_wait) (Troubles.mk r_t_faults r_t_hangs r_t_crashes) r_l)).u.program.data.map encLU16), .sl false (((reader.mk r_place (Setup.mk (Prog.mk r_u_program_code r_u_program_sizes r_u_program_data) r_u_seeds (Outs.mk r_u_outside_clock r_u_outside_random r_u_outside_inputs (Files.mk r_u_outside_files_data r_u_outside_files_opens) r_u_outside_outputs) r_u_period r_u_misses r_u_repairs r_u_pages r_u_least r_u_wait) (Troubles.mk r_t_faults r_t_hangs r_t_crashes) r_l)).u.seeds.map (V.int .i64)), .sl false (((reader.mk r_place (Setup.mk (Prog.mk r_u_program_code r_u_program_sizes r_u_program_data) r_u_seeds (Outs.mk r_u_outside_clock r_u_outside_random r_u_outside_inputs (Files.mk r_u_outside_files_data r_u_outside_files_opens) r_u_outside_outputs) r_u_period r_u_misses r_u_repairs r_u_pages r_u_least r_u_wait) (Troubles.mk r_t_faults r_t_hangs r_t_crashes) r_l)).u.outside.clock.map (V.int .u16)), .sl false (((reader.mk r_place (Setup.mk (Prog.mk r_u_program_code r_u_program_sizes r_u_program_data) r_u_seeds (Outs.mk r_u_outside_clock r_u_outside_random r_u_outside_inputs (Files.mk r_u_outside_files_data r_u_outside_files_opens) r_u_outside_outputs) r_u_period r_u_misses r_u_repairs r_u_pages r_u_least r_u_wait) (Troubles.mk r_t_faults r_t_hangs r_t_crashes) r_l)).u.outside.random.map (V.int .u16)), .sl false (((reader.mk r_place (Setup.mk (Prog.mk r_u_program_code r_u_program_sizes r_u_program_data) r_u_seeds (Outs.mk r_u_outside_clock r_u_outside_random r_u_outside_inputs (Files.mk r_u_outside_files_data r_u_outside_files_opens) r_u_outside_outputs) r_u_period r_u_misses r_u_repairs r_u_pages r_u_least r_u_wait) (Troubles.mk r_t_faults r_t_hangs r_t_crashes) r_l)).u.outside.inputs.map encLU16), .sl false (((reader.mk r_place (Setup.mk (Prog.mk r_u_program_code r_u_program_sizes r_u_program_data) r_u_seeds (Outs.mk r_u_outside_clock r_u_outside_random r_u_outside_inputs (Files.mk r_u_outside_files_data r_u_outside_files_opens) r_u_outside_outputs) r_u_period r_u_misses r_u_repairs r_u_pages r_u_least r_u_wait) (Troubles.mk r_t_faults r_t_hangs r_t_crashes) r_l)).u.outside.files.data.map encLCanon), .sl false (((reader.mk r_place (Setup.mk (Prog.mk r_u_program_code r_u_program_sizes r_u_program_data) r_u_seeds (Outs.mk r_u_outside_clock r_u_outside_random r_u_outside_inputs (Files.mk r_u_outside_files_data r_u_outside_files_opens) r_u_outside_outputs) r_u_period r_u_misses r_u_repairs r_u_pages r_u_least r_u_wait) (Troubles.mk r_t_faults r_t_hangs r_t_crashes) r_l)).u.outside.files.opens.map Opn.enc), .sl false (((reader.mk r_place (Setup.mk (Prog.mk r_u_program_code r_u_program_sizes r_u_program_data) r_u_seeds (Outs.mk r_u_outside_clock r_u_outside_random r_u_outside_inputs (Files.mk r_u_outside_files_data r_u_outside_files_opens) r_u_outside_outputs) r_u_period r_u_misses r_u_repairs r_u_pages r_u_least r_u_wait) (Troubles.mk r_t_faults r_t_hangs r_t_crashes) r_l)).u.outside.outputs.map Output.enc), .int .i64 ((reader.mk r_place (Setup.mk (Prog.mk r_u_program_code r_u_program_sizes r_u_program_data) r_u_seeds (Outs.mk r_u_outside_clock r_u_outside_random r_u_outside_inputs (Files.mk r_u_outside_files_data r_u_outside_files_opens) r_u_outside_outputs) r_u_period r_u_misses r_u_repairs r_u_pages r_u_least r_u_wait) (Troubles.mk r_t_faults r_t_hangs r_t_crashes) r_l)).u.period, .int .i64 ((reader.mk r_place (Setup.mk (Prog.mk r_u_program_code r_u_program_sizes r_u_program_data) r_u_seeds (Outs.mk r_u_outside_clock r_u_outside_random r_u_outside_inputs (Files.mk r_u_outside_files_data r_u_outside_files_opens) r_u_outside_outputs) r_u_period r_u_misses r_u_repairs r_u_pages r_u_least r_u_wait) (Troubles.mk r_t_faults r_t_hangs r_t_crashes) r_l)).u.misses, .int .i64 ((reader.mk r_place (Setup.mk (Prog.mk r_u_program_code r_u_program_sizes r_u_program_data) r_u_seeds (Outs.mk r_u_outside_clock r_u_outside_random r_u_outside_inputs (Files.mk r_u_outside_files_data r_u_outside_files_opens) r_u_outside_outputs) r_u_period r_u_misses r_u_repairs r_u_pages r_u_least r_u_wait) (Troubles.mk r_t_faults r_t_hangs r_t_crashes) r_l)).u.repairs, .int .i64 ((reader.mk r_place (Setup.mk (Prog.mk r_u_program_code r_u_program_sizes r_u_program_data) r_u_seeds (Outs.mk r_u_outside_clock r_u_outside_random r_u_outside_inputs (Files.mk r_u_outside_files_data r_u_outside_files_opens) r_u_outside_outputs) r_u_period r_u_misses r_u_repairs r_u_pages r_u_least r_u_wait) (Troubles.mk r_t_faults r_t_hangs r_t_crashes) r_l)).u.pages, .int .i64 ((reader.mk r_place (Setup.mk (Prog.mk r_u_program_code r_u_program_sizes r_u_program_data) r_u_seeds (Outs.mk r_u_outside_clock r_u_outside_random r_u_outside_inputs (Files.mk r_u_outside_files_data r_u_outside_files_opens) r_u_outside_outputs) r_u_period r_u_misses r_u_repairs r_u_pages r_u_least r_u_wait) (Troubles.mk r_t_faults r_t_hangs r_t_crashes) r_l)).u.least, .int .i64 ((reader.mk r_place (Setup.mk (Prog.mk r_u_program_code r_u_program_sizes r_u_program_data) r_u_seeds (Outs.mk r_u_outside_clock r_u_outside_random r_u_outside_inputs (Files.mk r_u_outside_files_data r_u_outside_files_opens) r_u_outside_outputs) r_u_period r_u_misses r_u_repairs r_u_pages r_u_least r_u_wait) (Troubles.mk r_t_faults r_t_hangs r_t_crashes) r_l)).u.wait, .sl false (((reader.mk r_place (Setup.mk (Prog.mk r_u_program_code r_u_program_sizes r_u_program_data) r_u_seeds (Outs.mk r_u_outside_clock r_u_outside_random r_u_outside_inputs (Files.mk r_u_outside_files_data r_u_outside_files_opens) r_u_outside_outputs) r_u_period r_u_misses r_u_repairs r_u_pages r_u_least r_u_wait) (Troubles.mk r_t_faults r_t_hangs r_t_crashes) r_l)).t.faults.map Fault.enc), .sl false (((reader.mk r_place (Setup.mk (Prog.mk r_u_program_code r_u_program_sizes r_u_program_data) r_u_seeds (Outs.mk r_u_outside_clock r_u_outside_random r_u_outside_inputs (Files.mk r_u_outside_files_data r_u_outside_files_opens) r_u_outside_outputs) r_u_period r_u_misses r_u_repairs r_u_pages r_u_least r_u_wait) (Troubles.mk r_t_faults r_t_hangs r_t_crashes) r_l)).t.hangs.map Hang.enc), .sl false (((reader.mk r_place (Setup.mk (Prog.mk r_u_program_code r_u_program_sizes r_u_program_data) r_u_seeds (Outs.mk r_u_outside_clock r_u_outside_random r_u_outside_inputs (Files.mk r_u_outside_files_data r_u_outside_files_opens) r_u_outside_outputs) r_u_period r_u_misses r_u_repairs r_u_pages r_u_least r_u_wait) (Troubles.mk r_t_faults r_t_hangs r_t_crashes) r_l)).t.crashes.map Crash.enc), .sl false (((reader.mk r_place (Setup.mk (Prog.mk r_u_program_code r_u_program_sizes r_u_program_data) r_u_seeds (Outs.mk r_u_outside_clock r_u_outside_random r_u_outside_inputs (Files.mk r_u_outside_files_data r_u_outside_files_opens) r_u_outside_outputs) r_u_period r_u_misses r_u_repairs r_u_pages r_u_least r_u_wait) (Troubles.mk r_t_faults r_t_hangs r_t_crashes) r_l)).l.map Choice.enc)], [.bool false], .bad) := by
  refine mcall_of Tryz.func47 rfl rfl ?_
  obtain ⟨w, L, hwl⟩ := List.exists_cons_of_ne_nil (cutL_ne 32 s)
  have hcut : pcall X 46 [.str s, .int .u8 32] = some (.sl false ((cutL 32 s).map V.str)) := f_ref45_cut s 32 hl
  have hll := cutL_len 32 s
  have hv := f_ref45_values s hl
  have ho := f_ref45_order w
  have hwlen : w.length ≤ 1000000 := by
    have := join_cutL hwl
    rw [← this] at hl
    simp at hl; omega
  have hline := f_ref45_line w (valuesM s) (by omega) (by simp [valuesM]; omega) (fun x hx => by
    have := values_ok s x hx
    simp [okN] at this
    unfold inI; omega)
  unfold rejB at hr
  rw [hwl, List.headD_cons] at hr
  rw [hwl] at hcut
  have hk := kindIx_range w
  generalize lineS w (valuesM s) = ln at *
  generalize valuesM s = n at *
  generalize manyM (kindIx w) = m at *
  generalize kindIx w = k at *
  simp only [Bool.or_eq_true, Bool.and_eq_true, decide_eq_true_eq] at hr
  have hA : (k < r_place) ∨ (¬ k < r_place ∧ r_place < k ∧ ¬ 1 < k ∧ k < 2 ∧ ¬ k = r_place) ∨ (¬ k < r_place ∧ r_place < k ∧ 1 < k ∧ r_place < 2) ∨ (¬ k < r_place ∧ ¬ r_place < k ∧ k = r_place) ∨ (¬ k < r_place ∧ r_place < k ∧ 1 < k ∧ ¬ r_place < 2 ∧ ¬ k < 2) := by omega
  have hB : (0 ≤ m ∧ ¬ (n.length : Int) = m) ∨ (0 ≤ m ∧ (n.length : Int) = m ∧ n = []) ∨ (¬ 0 ≤ m ∧ n = []) ∨ (0 ≤ m ∧ (n.length : Int) = m ∧ ¬ n = [] ∧ (ln == s) = false ∧ ¬ m = 0) ∨ (¬ 0 ≤ m ∧ ¬ n = [] ∧ (ln == s) = false) ∨ ((¬ 0 ≤ m ∨ (n.length : Int) = m) ∧ ¬ n = [] ∧ ln = s) := by
    by_cases h1 : 0 ≤ m <;> by_cases h2 : (n.length : Int) = m <;> by_cases h3 : n = [] <;> by_cases h4 : ln = s <;> simp [h1, h2, h3, h4] <;> (try have := List.length_pos_iff.2 h3) <;> omega
  rcases hA with q | q | q | q | q
  · simp (maxSteps := 10000000) (maxDischargeDepth := 30) (implicitDefEqProofs := false) [q, hcut, ho, hv, hline, -f_ref45_cut, -f_ref45_order, -f_ref45_values, -f_ref45_line]
  · simp (maxSteps := 10000000) (maxDischargeDepth := 30) (implicitDefEqProofs := false) [q, hcut, ho, hv, hline, -f_ref45_cut, -f_ref45_order, -f_ref45_values, -f_ref45_line]
  · simp (maxSteps := 10000000) (maxDischargeDepth := 30) (implicitDefEqProofs := false) [q, hcut, ho, hv, hline, -f_ref45_cut, -f_ref45_order, -f_ref45_values, -f_ref45_line]
  · obtain ⟨q1, q2, q3⟩ := q
    subst q3
    have q : ¬ k < k := by omega
    rcases hB with p | p | p | p | p | p
    · simp (maxSteps := 10000000) (maxDischargeDepth := 30) (implicitDefEqProofs := false) [p, q, hcut, ho, hv, hline, -f_ref45_cut, -f_ref45_order, -f_ref45_values, -f_ref45_line]
    · obtain ⟨p1, p2, p3⟩ := p
      subst p3 p2
      have p : (0 : Int) ≤ 0 := by omega
      simp only [List.length_nil, List.map_nil, Int.natCast_zero] at hv hline ho
      simp (maxSteps := 10000000) (maxDischargeDepth := 30) (implicitDefEqProofs := false) [p, q, hcut, ho, hv, hline, -f_ref45_cut, -f_ref45_order, -f_ref45_values, -f_ref45_line]
    · obtain ⟨p, p3⟩ := p
      subst p3
      simp only [List.map_nil] at hv hline
      simp (maxSteps := 10000000) (maxDischargeDepth := 30) (implicitDefEqProofs := false) [p, q, hcut, ho, hv, hline, -f_ref45_cut, -f_ref45_order, -f_ref45_values, -f_ref45_line]
    · simp (maxSteps := 10000000) (maxDischargeDepth := 30) (implicitDefEqProofs := false) [p, q, hcut, ho, hv, hline, -f_ref45_cut, -f_ref45_order, -f_ref45_values, -f_ref45_line]
    · simp (maxSteps := 10000000) (maxDischargeDepth := 30) (implicitDefEqProofs := false) [p, q, hcut, ho, hv, hline, -f_ref45_cut, -f_ref45_order, -f_ref45_values, -f_ref45_line]
    · exfalso
      have h0 : n.length ≠ 0 := fun h => p.2.1 (List.length_eq_zero_iff.1 h)
      rcases hr with ((((h | h) | h) | h) | h) | h
      · omega
      · omega
      · omega
      · omega
      · exact h0 h
      · exact h p.2.2
  · skip
    rcases hB with p | p | p | p | p | p
    · simp (maxSteps := 10000000) (maxDischargeDepth := 30) (implicitDefEqProofs := false) [p, q, hcut, ho, hv, hline, -f_ref45_cut, -f_ref45_order, -f_ref45_values, -f_ref45_line]
    · obtain ⟨p1, p2, p3⟩ := p
      subst p3 p2
      have p : (0 : Int) ≤ 0 := by omega
      simp only [List.length_nil, List.map_nil, Int.natCast_zero] at hv hline ho
      simp (maxSteps := 10000000) (maxDischargeDepth := 30) (implicitDefEqProofs := false) [p, q, hcut, ho, hv, hline, -f_ref45_cut, -f_ref45_order, -f_ref45_values, -f_ref45_line]
    · obtain ⟨p, p3⟩ := p
      subst p3
      simp only [List.map_nil] at hv hline
      simp (maxSteps := 10000000) (maxDischargeDepth := 30) (implicitDefEqProofs := false) [p, q, hcut, ho, hv, hline, -f_ref45_cut, -f_ref45_order, -f_ref45_values, -f_ref45_line]
    · simp (maxSteps := 10000000) (maxDischargeDepth := 30) (implicitDefEqProofs := false) [p, q, hcut, ho, hv, hline, -f_ref45_cut, -f_ref45_order, -f_ref45_values, -f_ref45_line]
    · simp (maxSteps := 10000000) (maxDischargeDepth := 30) (implicitDefEqProofs := false) [p, q, hcut, ho, hv, hline, -f_ref45_cut, -f_ref45_order, -f_ref45_values, -f_ref45_line]
    · exfalso
      have h0 : n.length ≠ 0 := fun h => p.2.1 (List.length_eq_zero_iff.1 h)
      rcases hr with ((((h | h) | h) | h) | h) | h
      · omega
      · omega
      · omega
      · omega
      · exact h0 h
      · exact h p.2.2
end Go.Proofs.YtcfmnogghcjdaaaGreatDoor
namespace Go.Proofs.YtcfmnogghcjdaaaGreatDoor
open Go Go.Abs Go.Abs.Api
theorem imm_snoc {α : Type} {f : α → V} {hx : Heap} (h : ∀ x, toImm hx 12 (f x) = some (f x)) (v : V) (l : List α) : allSome (List.take (l.length + 1) (l.map (toImm hx 12 ∘ f) ++ [some v])) = some (l.map f ++ [v]) := by
  rw [List.take_of_length_le (by simp)]
  induction l with
  | nil => rfl
  | cons a l ih => simp [allSome, h a, ih]
@[simp] theorem fault_snoc (hx : Heap) (l : List Fault) (v : V) : allSome (List.take (l.length + 1) (l.map (toImm hx 12 ∘ Fault.enc) ++ [some v])) = some (l.map Fault.enc ++ [v]) := imm_snoc (fun _ => rfl) v l
@[simp] theorem hang_snoc (hx : Heap) (l : List Hang) (v : V) : allSome (List.take (l.length + 1) (l.map (toImm hx 12 ∘ Hang.enc) ++ [some v])) = some (l.map Hang.enc ++ [v]) := imm_snoc (fun _ => rfl) v l
@[simp] theorem crash_snoc (hx : Heap) (l : List Crash) (v : V) : allSome (List.take (l.length + 1) (l.map (toImm hx 12 ∘ Crash.enc) ++ [some v])) = some (l.map Crash.enc ++ [v]) := imm_snoc (fun _ => rfl) v l
@[simp] theorem choice_snoc (hx : Heap) (l : List Choice) (v : V) : allSome (List.take (l.length + 1) (l.map (toImm hx 12 ∘ Choice.enc) ++ [some v])) = some (l.map Choice.enc ++ [v]) := imm_snoc (fun _ => rfl) v l
theorem dullL_app (a b : List V) : dullL (a ++ b) = dullL a ++ dullL b := by
  induction a with
  | nil => rfl
  | cons x a ih => simp [dullL, ih]
@[simp] theorem dflt_code : (default : Setup).program.code = [] := rfl
@[simp] theorem dflt_sizes : (default : Setup).program.sizes = [] := rfl
@[simp] theorem dflt_data : (default : Setup).program.data = [] := rfl
@[simp] theorem dflt_seeds : (default : Setup).seeds = [] := rfl
@[simp] theorem dflt_clock : (default : Setup).outside.clock = [] := rfl
@[simp] theorem dflt_random : (default : Setup).outside.random = [] := rfl
@[simp] theorem dflt_inputs : (default : Setup).outside.inputs = [] := rfl
@[simp] theorem dflt_files : (default : Setup).outside.files.data = [] := rfl
@[simp] theorem dflt_opens : (default : Setup).outside.files.opens = [] := rfl
@[simp] theorem dflt_outputs : (default : Setup).outside.outputs = [] := rfl
theorem f_read_yes (r_place : Int) (r_u_program_code : List Instr) (r_u_program_sizes : List Int) (r_u_program_data : List (List Int)) (r_u_seeds : List Int) (r_u_outside_clock : List Int) (r_u_outside_random : List Int) (r_u_outside_inputs : List (List Int)) (r_u_outside_files_data : List (List Canon)) (r_u_outside_files_opens : List Opn) (r_u_outside_outputs : List Output) (r_u_period : Int) (r_u_misses : Int) (r_u_repairs : Int) (r_u_pages : Int) (r_u_least : Int) (r_u_wait : Int) (r_t_faults : List Fault) (r_t_hangs : List Hang) (r_t_crashes : List Crash) (r_l : List Choice) (s : List UInt8) (hl : s.length ≤ 1000000) (hr : rejB r_place s = false) (hp : 0 ≤ r_place) (h1 : r_t_faults.length ≤ 1000000 ∧ r_t_hangs.length ≤ 1000000 ∧ r_t_crashes.length ≤ 1000000 ∧ r_l.length ≤ 1000000) : mcall X [(0, 17, 77), (0, 18, 80), (0, 19, 82), (0, 20, 61)] 47 21 (.agg [.int .i64 r_place, .sl false (r_u_program_code.map Instr.enc), .sl false (r_u_program_sizes.map (V.int .i64)), .sl false (r_u_program_data.map encLU16), .sl false (r_u_seeds.map (V.int .i64)), .sl false (r_u_outside_clock.map (V.int .u16)), .sl false (r_u_outside_random.map (V.int .u16)), .sl false (r_u_outside_inputs.map encLU16), .sl false (r_u_outside_files_data.map encLCanon), .sl false (r_u_outside_files_opens.map Opn.enc), .sl false (r_u_outside_outputs.map Output.enc), .int .i64 r_u_period, .int .i64 r_u_misses, .int .i64 r_u_repairs, .int .i64 r_u_pages, .int .i64 r_u_least, .int .i64 r_u_wait, .sl false (r_t_faults.map Fault.enc), .sl false (r_t_hangs.map Hang.enc), .sl false (r_t_crashes.map Crash.enc), .sl false (r_l.map Choice.enc)]) [.str s] = some (21, .agg [.int .i64 (putR (reader.mk r_place (Setup.mk (Prog.mk r_u_program_code r_u_program_sizes r_u_program_data) r_u_seeds (Outs.mk r_u_outside_clock r_u_outside_random r_u_outside_inputs (Files.mk r_u_outside_files_data r_u_outside_files_opens) r_u_outside_outputs) r_u_period r_u_misses r_u_repairs r_u_pages r_u_least r_u_wait) (Troubles.mk r_t_faults r_t_hangs r_t_crashes) r_l) (kindIx ((cutL 32 s).headD [])) (valuesM s)).place, .sl false ((putR (reader.mk r_place (Setup.mk (Prog.mk r_u_program_code r_u_program_sizes r_u_program_data) r_u_seeds (Outs.mk r_u_outside_clock r_u_outside_random r_u_outside_inputs (Files.mk r_u_outside_files_data r_u_outside_files_opens) r_u_outside_outputs) r_u_period r_u_misses r_u_repairs r_u_pages r_u_least r_u_wait) (Troubles.mk r_t_faults r_t_hangs r_t_crashes) r_l) (kindIx ((cutL 32 s).headD [])) (valuesM s)).u.program.code.map Instr.enc), .sl false ((putR (reader.mk r_place (Setup.mk (Prog.mk r_u_program_code r_u_program_sizes r_u_program_data) r_u_seeds (Outs.mk r_u_outside_clock r_u_outside_random r_u_outside_inputs (Files.mk r_u_outside_files_data r_u_outside_files_opens) r_u_outside_outputs) r_u_period r_u_misses r_u_repairs r_u_pages r_u_least r_u_wait) (Troubles.mk r_t_faults r_t_hangs r_t_crashes) r_l) (kindIx ((cutL 32 s).headD [])) (valuesM s)).u.program.sizes.map (V.int .i64)), .sl false ((putR (reader.mk r_place (Setup.mk (Prog.mk r_u_program_code r_u_program_sizes r_u_program_data) r_u_seeds (Outs.mk r_u_outside_clock r_u_outside_random r_u_outside_inputs (Files.mk r_u_outside_files_data r_u_outside_files_opens) r_u_outside_outputs) r_u_period r_u_misses r_u_repairs r_u_pages r_u_least r_u_wait) (Troubles.mk r_t_faults r_t_hangs r_t_crashes) r_l) (kindIx ((cutL 32 s).headD [])) (valuesM s)).u.program.data.map encLU16), .sl false ((putR (reader.mk r_place (Setup.mk (Prog.mk r_u_program_code r_u_program_sizes r_u_program_data) r_u_seeds (Outs.mk r_u_outside_clock r_u_outside_random r_u_outside_inputs (Files.mk r_u_outside_files_data r_u_outside_files_opens) r_u_outside_outputs) r_u_period r_u_misses r_u_repairs r_u_pages r_u_least r_u_wait) (Troubles.mk r_t_faults r_t_hangs r_t_crashes) r_l) (kindIx ((cutL 32 s).headD [])) (valuesM s)).u.seeds.map (V.int .i64)), .sl false ((putR (reader.mk r_place (Setup.mk (Prog.mk r_u_program_code r_u_program_sizes r_u_program_data) r_u_seeds (Outs.mk r_u_outside_clock r_u_outside_random r_u_outside_inputs (Files.mk r_u_outside_files_data r_u_outside_files_opens) r_u_outside_outputs) r_u_period r_u_misses r_u_repairs r_u_pages r_u_least r_u_wait) (Troubles.mk r_t_faults r_t_hangs r_t_crashes) r_l) (kindIx ((cutL 32 s).headD [])) (valuesM s)).u.outside.clock.map (V.int .u16)), .sl false ((putR (reader.mk r_place (Setup.mk (Prog.mk r_u_program_code r_u_program_sizes r_u_program_data) r_u_seeds (Outs.mk r_u_outside_clock r_u_outside_random r_u_outside_inputs (Files.mk r_u_outside_files_data r_u_outside_files_opens) r_u_outside_outputs) r_u_period r_u_misses r_u_repairs r_u_pages r_u_least r_u_wait) (Troubles.mk r_t_faults r_t_hangs r_t_crashes) r_l) (kindIx ((cutL 32 s).headD [])) (valuesM s)).u.outside.random.map (V.int .u16)), .sl false ((putR (reader.mk r_place (Setup.mk (Prog.mk r_u_program_code r_u_program_sizes r_u_program_data) r_u_seeds (Outs.mk r_u_outside_clock r_u_outside_random r_u_outside_inputs (Files.mk r_u_outside_files_data r_u_outside_files_opens) r_u_outside_outputs) r_u_period r_u_misses r_u_repairs r_u_pages r_u_least r_u_wait) (Troubles.mk r_t_faults r_t_hangs r_t_crashes) r_l) (kindIx ((cutL 32 s).headD [])) (valuesM s)).u.outside.inputs.map encLU16), .sl false ((putR (reader.mk r_place (Setup.mk (Prog.mk r_u_program_code r_u_program_sizes r_u_program_data) r_u_seeds (Outs.mk r_u_outside_clock r_u_outside_random r_u_outside_inputs (Files.mk r_u_outside_files_data r_u_outside_files_opens) r_u_outside_outputs) r_u_period r_u_misses r_u_repairs r_u_pages r_u_least r_u_wait) (Troubles.mk r_t_faults r_t_hangs r_t_crashes) r_l) (kindIx ((cutL 32 s).headD [])) (valuesM s)).u.outside.files.data.map encLCanon), .sl false ((putR (reader.mk r_place (Setup.mk (Prog.mk r_u_program_code r_u_program_sizes r_u_program_data) r_u_seeds (Outs.mk r_u_outside_clock r_u_outside_random r_u_outside_inputs (Files.mk r_u_outside_files_data r_u_outside_files_opens) r_u_outside_outputs) r_u_period r_u_misses r_u_repairs r_u_pages r_u_least r_u_wait) (Troubles.mk r_t_faults r_t_hangs r_t_crashes) r_l) (kindIx ((cutL 32 s).headD [])) (valuesM s)).u.outside.files.opens.map Opn.enc), .sl false ((putR (reader.mk r_place (Setup.mk (Prog.mk r_u_program_code r_u_program_sizes r_u_program_data) r_u_seeds (Outs.mk r_u_outside_clock r_u_outside_random r_u_outside_inputs (Files.mk r_u_outside_files_data r_u_outside_files_opens) r_u_outside_outputs) r_u_period r_u_misses r_u_repairs r_u_pages r_u_least r_u_wait) (Troubles.mk r_t_faults r_t_hangs r_t_crashes) r_l) (kindIx ((cutL 32 s).headD [])) (valuesM s)).u.outside.outputs.map Output.enc), .int .i64 (putR (reader.mk r_place (Setup.mk (Prog.mk r_u_program_code r_u_program_sizes r_u_program_data) r_u_seeds (Outs.mk r_u_outside_clock r_u_outside_random r_u_outside_inputs (Files.mk r_u_outside_files_data r_u_outside_files_opens) r_u_outside_outputs) r_u_period r_u_misses r_u_repairs r_u_pages r_u_least r_u_wait) (Troubles.mk r_t_faults r_t_hangs r_t_crashes) r_l) (kindIx ((cutL 32 s).headD [])) (valuesM s)).u.period, .int .i64 (putR (reader.mk r_place (Setup.mk (Prog.mk r_u_program_code r_u_program_sizes r_u_program_data) r_u_seeds (Outs.mk r_u_outside_clock r_u_outside_random r_u_outside_inputs (Files.mk r_u_outside_files_data r_u_outside_files_opens) r_u_outside_outputs) r_u_period r_u_misses r_u_repairs r_u_pages r_u_least r_u_wait) (Troubles.mk r_t_faults r_t_hangs r_t_crashes) r_l) (kindIx ((cutL 32 s).headD [])) (valuesM s)).u.misses, .int .i64 (putR (reader.mk r_place (Setup.mk (Prog.mk r_u_program_code r_u_program_sizes r_u_program_data) r_u_seeds (Outs.mk r_u_outside_clock r_u_outside_random r_u_outside_inputs (Files.mk r_u_outside_files_data r_u_outside_files_opens) r_u_outside_outputs) r_u_period r_u_misses r_u_repairs r_u_pages r_u_least r_u_wait) (Troubles.mk r_t_faults r_t_hangs r_t_crashes) r_l) (kindIx ((cutL 32 s).headD [])) (valuesM s)).u.repairs, .int .i64 (putR (reader.mk r_place (Setup.mk (Prog.mk r_u_program_code r_u_program_sizes r_u_program_data) r_u_seeds (Outs.mk r_u_outside_clock r_u_outside_random r_u_outside_inputs (Files.mk r_u_outside_files_data r_u_outside_files_opens) r_u_outside_outputs) r_u_period r_u_misses r_u_repairs r_u_pages r_u_least r_u_wait) (Troubles.mk r_t_faults r_t_hangs r_t_crashes) r_l) (kindIx ((cutL 32 s).headD [])) (valuesM s)).u.pages, .int .i64 (putR (reader.mk r_place (Setup.mk (Prog.mk r_u_program_code r_u_program_sizes r_u_program_data) r_u_seeds (Outs.mk r_u_outside_clock r_u_outside_random r_u_outside_inputs (Files.mk r_u_outside_files_data r_u_outside_files_opens) r_u_outside_outputs) r_u_period r_u_misses r_u_repairs r_u_pages r_u_least r_u_wait) (Troubles.mk r_t_faults r_t_hangs r_t_crashes) r_l) (kindIx ((cutL 32 s).headD [])) (valuesM s)).u.least, .int .i64 (putR (reader.mk r_place (Setup.mk (Prog.mk r_u_program_code r_u_program_sizes r_u_program_data) r_u_seeds (Outs.mk r_u_outside_clock r_u_outside_random r_u_outside_inputs (Files.mk r_u_outside_files_data r_u_outside_files_opens) r_u_outside_outputs) r_u_period r_u_misses r_u_repairs r_u_pages r_u_least r_u_wait) (Troubles.mk r_t_faults r_t_hangs r_t_crashes) r_l) (kindIx ((cutL 32 s).headD [])) (valuesM s)).u.wait, .sl false ((putR (reader.mk r_place (Setup.mk (Prog.mk r_u_program_code r_u_program_sizes r_u_program_data) r_u_seeds (Outs.mk r_u_outside_clock r_u_outside_random r_u_outside_inputs (Files.mk r_u_outside_files_data r_u_outside_files_opens) r_u_outside_outputs) r_u_period r_u_misses r_u_repairs r_u_pages r_u_least r_u_wait) (Troubles.mk r_t_faults r_t_hangs r_t_crashes) r_l) (kindIx ((cutL 32 s).headD [])) (valuesM s)).t.faults.map Fault.enc), .sl false ((putR (reader.mk r_place (Setup.mk (Prog.mk r_u_program_code r_u_program_sizes r_u_program_data) r_u_seeds (Outs.mk r_u_outside_clock r_u_outside_random r_u_outside_inputs (Files.mk r_u_outside_files_data r_u_outside_files_opens) r_u_outside_outputs) r_u_period r_u_misses r_u_repairs r_u_pages r_u_least r_u_wait) (Troubles.mk r_t_faults r_t_hangs r_t_crashes) r_l) (kindIx ((cutL 32 s).headD [])) (valuesM s)).t.hangs.map Hang.enc), .sl false ((putR (reader.mk r_place (Setup.mk (Prog.mk r_u_program_code r_u_program_sizes r_u_program_data) r_u_seeds (Outs.mk r_u_outside_clock r_u_outside_random r_u_outside_inputs (Files.mk r_u_outside_files_data r_u_outside_files_opens) r_u_outside_outputs) r_u_period r_u_misses r_u_repairs r_u_pages r_u_least r_u_wait) (Troubles.mk r_t_faults r_t_hangs r_t_crashes) r_l) (kindIx ((cutL 32 s).headD [])) (valuesM s)).t.crashes.map Crash.enc), .sl false ((putR (reader.mk r_place (Setup.mk (Prog.mk r_u_program_code r_u_program_sizes r_u_program_data) r_u_seeds (Outs.mk r_u_outside_clock r_u_outside_random r_u_outside_inputs (Files.mk r_u_outside_files_data r_u_outside_files_opens) r_u_outside_outputs) r_u_period r_u_misses r_u_repairs r_u_pages r_u_least r_u_wait) (Troubles.mk r_t_faults r_t_hangs r_t_crashes) r_l) (kindIx ((cutL 32 s).headD [])) (valuesM s)).l.map Choice.enc)], [.bool (okR (kindIx ((cutL 32 s).headD [])) (valuesM s))], .bad) := by
  refine mcall_of Tryz.func47 rfl rfl ?_
  obtain ⟨w, L, hwl⟩ := List.exists_cons_of_ne_nil (cutL_ne 32 s)
  have hcut : pcall X 46 [.str s, .int .u8 32] = some (.sl false ((cutL 32 s).map V.str)) := f_ref45_cut s 32 hl
  have hll := cutL_len 32 s
  have hv := f_ref45_values s hl
  have ho := f_ref45_order w
  have hwlen : w.length ≤ 1000000 := by
    have := join_cutL hwl
    rw [← this] at hl
    simp at hl; omega
  have hline := f_ref45_line w (valuesM s) (by omega) (by simp [valuesM]; omega) (fun x hx => by
    have := values_ok s x hx
    simp [okN] at this
    unfold inI; omega)
  unfold rejB at hr
  rw [hwl, List.headD_cons] at hr
  rw [hwl] at hcut
  rw [hwl, List.headD_cons]
  have hk := kindIx_range w
  generalize lineS w (valuesM s) = ln at *
  generalize valuesM s = n at *
  have hm : ∃ m, m = manyM (kindIx w) := ⟨_, rfl⟩
  obtain ⟨m, hm⟩ := hm
  rw [← hm] at hr ho
  generalize kindIx w = k at *
  simp only [Bool.or_eq_false_iff, Bool.and_eq_false_iff, decide_eq_false_iff_not] at hr
  obtain ⟨⟨⟨⟨⟨q1, q2⟩, q3⟩, q4⟩, q5⟩, q6⟩ := hr
  have q6 : ln = s := Classical.byContradiction q6
  have q7 : ¬ n = [] := fun h => q5 (by rw [h]; rfl)
  have b1 : (r_t_faults.length + 1) * 48 ≤ 140737488355328 ∧ r_t_faults.length ≤ 4611686018427387903 := by omega
  have b2 : (r_t_hangs.length + 1) * 24 ≤ 140737488355328 ∧ r_t_hangs.length ≤ 4611686018427387903 := by omega
  have b3 : (r_t_crashes.length + 1) * 16 ≤ 140737488355328 ∧ r_t_crashes.length ≤ 4611686018427387903 := by omega
  have b4 : (r_l.length + 1) * 24 ≤ 140737488355328 ∧ r_l.length ≤ 4611686018427387903 := by omega
  have hkk : k = 0 ∨ k = 1 ∨ k = 2 ∨ k = 3 ∨ k = 4 ∨ k = 5 := by omega
  rcases hkk with rfl | rfl | rfl | rfl | rfl | rfl
  · have hpl : r_place = 0 := by omega
    subst hpl
    have hmm : m = 6 := hm
    subst hmm
    have hn : n.length = 6 := by omega
    obtain ⟨n0, n1, n2, n3, n4, n5, rfl⟩ : ∃ n0 n1 n2 n3 n4 n5, n = [n0, n1, n2, n3, n4, n5] := by
      match n, hn with
      | [n0, n1, n2, n3, n4, n5], _ => exact ⟨n0, n1, n2, n3, n4, n5, rfl⟩
    simp only [List.map_cons, List.map_nil] at hline
    subst q6
    simp (maxSteps := 10000000) (maxDischargeDepth := 30) (implicitDefEqProofs := false) [q7, hcut, ho, hv, hline, putR, okR, dullL_app, Fault.enc_eq, Hang.enc_eq, Crash.enc_eq, Choice.enc_eq, setupOf, fillSetup, faultOf, hangOf, crashOf, choiceOf, b1, b2, b3, b4, h1, -f_ref45_cut, -f_ref45_order, -f_ref45_values, -f_ref45_line]
  · have hpl : r_place = 1 := by omega
    subst hpl
    have hmm : m = -1 := hm
    subst hmm
    subst q6
    simp (maxSteps := 10000000) (maxDischargeDepth := 30) (implicitDefEqProofs := false) [q7, hcut, ho, hv, hline, putR, okR, dullL_app, Fault.enc_eq, Hang.enc_eq, Crash.enc_eq, Choice.enc_eq, setupOf, fillSetup, faultOf, hangOf, crashOf, choiceOf, b1, b2, b3, b4, h1, -f_ref45_cut, -f_ref45_order, -f_ref45_values, -f_ref45_line]
  · have hpl : r_place = 2 := by omega
    subst hpl
    have hmm : m = 6 := hm
    subst hmm
    have hn : n.length = 6 := by omega
    obtain ⟨n0, n1, n2, n3, n4, n5, rfl⟩ : ∃ n0 n1 n2 n3 n4 n5, n = [n0, n1, n2, n3, n4, n5] := by
      match n, hn with
      | [n0, n1, n2, n3, n4, n5], _ => exact ⟨n0, n1, n2, n3, n4, n5, rfl⟩
    simp only [List.map_cons, List.map_nil] at hline
    subst q6
    simp (maxSteps := 10000000) (maxDischargeDepth := 30) (implicitDefEqProofs := false) [q7, hcut, ho, hv, hline, putR, okR, dullL_app, Fault.enc_eq, Hang.enc_eq, Crash.enc_eq, Choice.enc_eq, setupOf, fillSetup, faultOf, hangOf, crashOf, choiceOf, b1, b2, b3, b4, h1, -f_ref45_cut, -f_ref45_order, -f_ref45_values, -f_ref45_line]
  · have q : ¬ (3 : Int) < r_place := by omega
    have hpp : (r_place = 3 ∧ ¬ (r_place < 3)) ∨ (¬ (3 : Int) = r_place ∧ r_place < 3 ∧ ¬ r_place < 2) := by omega
    have hmm : m = 3 := hm
    subst hmm
    have hn : n.length = 3 := by omega
    obtain ⟨n0, n1, n2, rfl⟩ : ∃ n0 n1 n2, n = [n0, n1, n2] := by
      match n, hn with
      | [n0, n1, n2], _ => exact ⟨n0, n1, n2, rfl⟩
    simp only [List.map_cons, List.map_nil] at hline
    subst q6
    rcases hpp with ⟨hpp, hpq⟩ | hpp
    · subst hpp
      simp (maxSteps := 10000000) (maxDischargeDepth := 30) (implicitDefEqProofs := false) [q7, hcut, ho, hv, hline, putR, okR, dullL_app, Fault.enc_eq, Hang.enc_eq, Crash.enc_eq, Choice.enc_eq, setupOf, fillSetup, faultOf, hangOf, crashOf, choiceOf, b1, b2, b3, b4, h1, -f_ref45_cut, -f_ref45_order, -f_ref45_values, -f_ref45_line]
    · simp (maxSteps := 10000000) (maxDischargeDepth := 30) (implicitDefEqProofs := false) [q, hpp, q7, hcut, ho, hv, hline, putR, okR, dullL_app, Fault.enc_eq, Hang.enc_eq, Crash.enc_eq, Choice.enc_eq, setupOf, fillSetup, faultOf, hangOf, crashOf, choiceOf, b1, b2, b3, b4, h1, -f_ref45_cut, -f_ref45_order, -f_ref45_values, -f_ref45_line]
  · have q : ¬ (4 : Int) < r_place := by omega
    have hpp : (r_place = 4 ∧ ¬ (r_place < 4)) ∨ (¬ (4 : Int) = r_place ∧ r_place < 4 ∧ ¬ r_place < 2) := by omega
    have hmm : m = 2 := hm
    subst hmm
    have hn : n.length = 2 := by omega
    obtain ⟨n0, n1, rfl⟩ : ∃ n0 n1, n = [n0, n1] := by
      match n, hn with
      | [n0, n1], _ => exact ⟨n0, n1, rfl⟩
    simp only [List.map_cons, List.map_nil] at hline
    subst q6
    rcases hpp with ⟨hpp, hpq⟩ | hpp
    · subst hpp
      simp (maxSteps := 10000000) (maxDischargeDepth := 30) (implicitDefEqProofs := false) [q7, hcut, ho, hv, hline, putR, okR, dullL_app, Fault.enc_eq, Hang.enc_eq, Crash.enc_eq, Choice.enc_eq, setupOf, fillSetup, faultOf, hangOf, crashOf, choiceOf, b1, b2, b3, b4, h1, -f_ref45_cut, -f_ref45_order, -f_ref45_values, -f_ref45_line]
      exact ⟨fun a b => absurd b a, fun a => .inl a⟩
    · simp (maxSteps := 10000000) (maxDischargeDepth := 30) (implicitDefEqProofs := false) [q, hpp, q7, hcut, ho, hv, hline, putR, okR, dullL_app, Fault.enc_eq, Hang.enc_eq, Crash.enc_eq, Choice.enc_eq, setupOf, fillSetup, faultOf, hangOf, crashOf, choiceOf, b1, b2, b3, b4, h1, -f_ref45_cut, -f_ref45_order, -f_ref45_values, -f_ref45_line]
      exact ⟨fun a b => absurd b a, fun a => .inl a⟩
  · have q : ¬ (5 : Int) < r_place := by omega
    have hpp : (r_place = 5 ∧ ¬ (r_place < 5)) ∨ (¬ (5 : Int) = r_place ∧ r_place < 5 ∧ ¬ r_place < 2) := by omega
    have hmm : m = 3 := hm
    subst hmm
    have hn : n.length = 3 := by omega
    obtain ⟨n0, n1, n2, rfl⟩ : ∃ n0 n1 n2, n = [n0, n1, n2] := by
      match n, hn with
      | [n0, n1, n2], _ => exact ⟨n0, n1, n2, rfl⟩
    simp only [List.map_cons, List.map_nil] at hline
    subst q6
    rcases hpp with ⟨hpp, hpq⟩ | hpp
    · subst hpp
      simp (maxSteps := 10000000) (maxDischargeDepth := 30) (implicitDefEqProofs := false) [q7, hcut, ho, hv, hline, putR, okR, dullL_app, Fault.enc_eq, Hang.enc_eq, Crash.enc_eq, Choice.enc_eq, setupOf, fillSetup, faultOf, hangOf, crashOf, choiceOf, b1, b2, b3, b4, h1, -f_ref45_cut, -f_ref45_order, -f_ref45_values, -f_ref45_line]
      exact ⟨fun a b => absurd b a, fun a => .inl a⟩
    · simp (maxSteps := 10000000) (maxDischargeDepth := 30) (implicitDefEqProofs := false) [q, hpp, q7, hcut, ho, hv, hline, putR, okR, dullL_app, Fault.enc_eq, Hang.enc_eq, Crash.enc_eq, Choice.enc_eq, setupOf, fillSetup, faultOf, hangOf, crashOf, choiceOf, b1, b2, b3, b4, h1, -f_ref45_cut, -f_ref45_order, -f_ref45_values, -f_ref45_line]
      exact ⟨fun a b => absurd b a, fun a => .inl a⟩
end Go.Proofs.YtcfmnogghcjdaaaGreatDoor
