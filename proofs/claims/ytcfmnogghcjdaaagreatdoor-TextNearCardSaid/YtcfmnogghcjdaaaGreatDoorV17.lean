/- Part of a proof: S15, S16, S17. -/
import Derived.Test.YtcfmnogghcjdaaaGreatDoorV16
set_option linter.all false
set_option maxRecDepth 100000
set_option maxHeartbeats 20000000
namespace Go.Proofs.YtcfmnogghcjdaaaGreatDoor
open Go Go.Abs Go.Abs.Api
@[simp] theorem dflt_period : (default : Setup).period = 0 := rfl
@[simp] theorem dflt_misses : (default : Setup).misses = 0 := rfl
@[simp] theorem dflt_repairs : (default : Setup).repairs = 0 := rfl
@[simp] theorem dflt_pages : (default : Setup).pages = 0 := rfl
@[simp] theorem dflt_least : (default : Setup).least = 0 := rfl
@[simp] theorem dflt_wait : (default : Setup).wait = 0 := rfl
@[simp] theorem dflt_faults : (default : Troubles).faults = [] := rfl
@[simp] theorem dflt_hangs : (default : Troubles).hangs = [] := rfl
@[simp] theorem dflt_crashes : (default : Troubles).crashes = [] := rfl
@[simp] theorem dflt_u : (default : scenario).u = default := rfl
@[simp] theorem dflt_t : (default : scenario).t = default := rfl
@[simp] theorem dflt_l : (default : scenario).l = [] := rfl
@[simp] theorem tailV_b (v : V) : tailV .bad [v] = v := rfl
theorem getD_at {α : Type} (l : List α) (d : α) {i : Nat} (h : i < l.length) : l.getD i d = l[i] := by
  rw [List.getD_eq_getElem?_getD, List.getElem?_eq_getElem h]; rfl
theorem parse_fail {s : Str} {n i : Nat} (hn : (cutL 10 s).length = n + 1) (hi : i < n) (h : okAt (cutL 10 s) i) (hs : stepM (stAt (cutL 10 s) i) ((cutL 10 s).getD i []) = none) : parseM s = ⟨noSetup, noTroubles, [], (i : Int) + 1, 36⟩ := by
  unfold parseM
  simp only [List.dropLast_eq_take, hn, Nat.add_sub_cancel]
  rw [go_fail (by omega) hi h hs]
  rfl
theorem parse_end {s : Str} {n : Nat} (hn : (cutL 10 s).length = n + 1) (h : okAt (cutL 10 s) n) : parseM s = if (cutL 10 s).getD n [] ≠ [] then ⟨noSetup, noTroubles, [], (n : Int) + 1, 36⟩
    else if (stAt (cutL 10 s) n).2 < 1 then ⟨noSetup, noTroubles, [], max (n : Int) 1, 36⟩
    else if checkM (stAt (cutL 10 s) n).1.u (stAt (cutL 10 s) n).1.t (stAt (cutL 10 s) n).1.l ≠ 0 then ⟨noSetup, noTroubles, [], 0, checkM (stAt (cutL 10 s) n).1.u (stAt (cutL 10 s) n).1.t (stAt (cutL 10 s) n).1.l⟩
    else ⟨(stAt (cutL 10 s) n).1.u, (stAt (cutL 10 s) n).1.t, (stAt (cutL 10 s) n).1.l, 0, 0⟩ := by
  have hl : (cutL 10 s).getLastD [] = (cutL 10 s).getD n [] := by
    rw [List.getLastD_eq_getLast?, List.getLast?_eq_getElem?, hn, List.getD_eq_getElem?_getD]
    rfl
  unfold parseM
  simp only [List.dropLast_eq_take, hn, Nat.add_sub_cancel]
  rw [go_end (by omega) h, hl]
  have e1 : ((n + 1 : Nat) : Int) = (n : Int) + 1 := by omega
  simp only [e1, Int.add_sub_cancel]
theorem pieces_len {c : UInt8} : ∀ {s : Str}, ∀ x ∈ cutL c s, x.length ≤ s.length := by
  intro s x hx
  obtain ⟨w, L, hwl⟩ := List.exists_cons_of_ne_nil (cutL_ne c s)
  have e := join_cutL hwl
  rw [hwl] at hx
  rw [← e]
  simp only [List.mem_cons] at hx
  simp only [List.length_append, List.length_flatten]
  rcases hx with rfl | hx
  · omega
  · have := len_le_sum (List.mem_map.2 ⟨c :: x, List.mem_map.2 ⟨x, hx, rfl⟩, rfl⟩ : (c :: x).length ∈ ((L.map fun x => c :: x).map List.length))
    simp only [List.length_cons] at this
    omega
theorem fine_cut {s : Str} (hl : s.length ≤ 1000000) {i : Nat} (h : okAt (cutL 10 s) i) : Fine (stAt (cutL 10 s) i) i :=
  fine_at (fun x hx => by have := pieces_len x hx; have := cutL_len 32 x; omega) i h
theorem c_read_no (r : reader) (s : Str) (hl : s.length ≤ 1000000) (hr : rejB r.place s = true) : mcall X [(0, 17, 77), (0, 18, 80), (0, 19, 82), (0, 20, 61)] 47 21 r.enc [.str s] = some (21, r.enc, [.bool false], .bad) :=
  f_read_no r.place r.u.program.code r.u.program.sizes r.u.program.data r.u.seeds r.u.outside.clock r.u.outside.random r.u.outside.inputs r.u.outside.files.data r.u.outside.files.opens r.u.outside.outputs r.u.period r.u.misses r.u.repairs r.u.pages r.u.least r.u.wait r.t.faults r.t.hangs r.t.crashes r.l s hl hr
theorem c_read_yes (r : reader) (s : Str) (hl : s.length ≤ 1000000) (hr : rejB r.place s = false) (hp : 0 ≤ r.place) (h1 : r.t.faults.length ≤ 1000000 ∧ r.t.hangs.length ≤ 1000000 ∧ r.t.crashes.length ≤ 1000000 ∧ r.l.length ≤ 1000000) : mcall X [(0, 17, 77), (0, 18, 80), (0, 19, 82), (0, 20, 61)] 47 21 r.enc [.str s] = some (21, (putR r (kindIx ((cutL 32 s).headD [])) (valuesM s)).enc, [.bool (okR (kindIx ((cutL 32 s).headD [])) (valuesM s))], .bad) :=
  f_read_yes r.place r.u.program.code r.u.program.sizes r.u.program.data r.u.seeds r.u.outside.clock r.u.outside.random r.u.outside.inputs r.u.outside.files.data r.u.outside.files.opens r.u.outside.outputs r.u.period r.u.misses r.u.repairs r.u.pages r.u.least r.u.wait r.t.faults r.t.hangs r.t.crashes r.l s hl hr hp h1
theorem c_add (x : scenario) (r : row) (b : Int) (hk : 0 ≤ r.kind ∧ r.kind ≤ 5) (hb : -1 ≤ b ∧ b ≤ 5) (hn : r.numbers.length ≤ 1000000) (h1 : x.t.faults.length ≤ 1000000 ∧ x.t.hangs.length ≤ 1000000 ∧ x.t.crashes.length ≤ 1000000 ∧ x.l.length ≤ 1000000) : mcall X [(0, 16, 77), (0, 17, 80), (0, 18, 82), (0, 19, 61)] 34 20 x.enc [r.enc, .int .i64 b] = some (20, (addX x r b).1.enc, [.bool (addX x r b).2], .bad) :=
  f_add x.u.program.code x.u.program.sizes x.u.program.data x.u.seeds x.u.outside.clock x.u.outside.random x.u.outside.inputs x.u.outside.files.data x.u.outside.files.opens x.u.outside.outputs x.u.period x.u.misses x.u.repairs x.u.pages x.u.least x.u.wait x.t.faults x.t.hangs x.t.crashes x.l r.kind r.numbers b hk hb hn h1
theorem c_formatR (u : Setup) (t : Troubles) (l : List Choice) (h1 : t.faults.length ≤ 1000000 ∧ t.hangs.length ≤ 1000000 ∧ t.crashes.length ≤ 1000000 ∧ l.length ≤ 1000000) (hs : u.seeds.length ≤ 9223372036854775807) (hR : ∀ r ∈ rowsM u t l, ∀ n ∈ r.numbers, inI n) : pcall X 8 [u.enc, t.enc, .sl false (l.map Choice.enc)] = some (.tup [.str (formatM u t l).1, .int .i64 (formatM u t l).2]) :=
  f_ref45_Format u.program.code u.program.sizes u.program.data u.seeds u.outside.clock u.outside.random u.outside.inputs u.outside.files.data u.outside.files.opens u.outside.outputs u.period u.misses u.repairs u.pages u.least u.wait t.faults t.hangs t.crashes l h1 hs hR
theorem c_check (x : scenario) (h1 : x.t.faults.length ≤ 1000000 ∧ x.t.hangs.length ≤ 1000000 ∧ x.t.crashes.length ≤ 1000000 ∧ x.l.length ≤ 1000000) : pcall X 27 [x.enc] = some (.int .i64 (checkM x.u x.t x.l)) :=
  f_text_check x.u.program.code x.u.program.sizes x.u.program.data x.u.seeds x.u.outside.clock x.u.outside.random x.u.outside.inputs x.u.outside.files.data x.u.outside.files.opens x.u.outside.outputs x.u.period x.u.misses x.u.repairs x.u.pages x.u.least x.u.wait x.t.faults x.t.hangs x.t.crashes x.l h1
theorem nums_in {u : Setup} {t : Troubles} {l : List Choice} (h : numsB u t l = true) : ∀ r ∈ rowsM u t l, ∀ n ∈ r.numbers, inI n := by
  intro r hr n hn
  have h2 := List.all_eq_true.1 (List.all_eq_true.1 h r hr) n hn
  simp only [okN, Bool.and_eq_true, decide_eq_true_eq] at h2
  unfold inI
  omega
@[simp] theorem f_ref45_Parse (s : List UInt8) (hl : s.length ≤ 100000) : pcall X 25 [.str s] = some (.tup [.agg [.sl false (((parseM s).u).program.code.map Instr.enc), .sl false (((parseM s).u).program.sizes.map (V.int .i64)), .sl false (((parseM s).u).program.data.map encLU16), .sl false (((parseM s).u).seeds.map (V.int .i64)), .sl false (((parseM s).u).outside.clock.map (V.int .u16)), .sl false (((parseM s).u).outside.random.map (V.int .u16)), .sl false (((parseM s).u).outside.inputs.map encLU16), .sl false (((parseM s).u).outside.files.data.map encLCanon), .sl false (((parseM s).u).outside.files.opens.map Opn.enc), .sl false (((parseM s).u).outside.outputs.map Output.enc), .int .i64 ((parseM s).u).period, .int .i64 ((parseM s).u).misses, .int .i64 ((parseM s).u).repairs, .int .i64 ((parseM s).u).pages, .int .i64 ((parseM s).u).least, .int .i64 ((parseM s).u).wait], .agg [.sl false (((parseM s).t).faults.map Fault.enc), .sl false (((parseM s).t).hangs.map Hang.enc), .sl false (((parseM s).t).crashes.map Crash.enc)], .sl false (((parseM s).l).map Choice.enc), .int .i64 ((parseM s).n), .int .i64 ((parseM s).e)]) := by
  refine pcall_of Tryz.func25 rfl rfl ?_
  have hcut : pcall X 46 [.str s, .int .u8 10] = some (.sl false ((cutL 10 s).map V.str)) := f_ref45_cut s 10 (by omega)
  have hlen := cutL_len 10 s
  have hpos := List.length_pos_iff.2 (cutL_ne 10 s)
  obtain ⟨n, hn⟩ : ∃ n, (cutL 10 s).length = n + 1 := ⟨(cutL 10 s).length - 1, by omega⟩
  have hpf := fun (i : Nat) hi h hs => parse_fail (s := s) (i := i) hn hi h hs
  have hpe := fun h => parse_end (s := s) hn h
  have hfi := fun (i : Nat) h => fine_cut (s := s) (i := i) (by omega) h
  have hpc : ∀ x ∈ cutL 10 s, x.length ≤ 100000 := fun x hx => by have := pieces_len x hx; omega
  generalize parseM s = R at *
  generalize cutL 10 s = LL at *
  have hn' : ((LL.length : Nat) : Int) = (n : Int) + 1 := by omega
  have hwn : IntKind.i64.wrap (n : Int) = n := wrap_i64 (by omega)
  have hnn : (n : Int) < (n : Int) + 1 := by omega
  simp (maxSteps := 10000000) (maxDischargeDepth := 30) (implicitDefEqProofs := false) [hcut, -f_ref45_cut]
  refine Wp_up (fun i S => (S.f 2 = .ptr 2 0 0 ∧ S.h 2 = some ⟨16, [.agg [.sl false (([] : List Instr).map Instr.enc), .sl false (([] : List Int).map (V.int .i64)), .sl false (([] : List (List Int)).map encLU16), .sl false (([] : List Int).map (V.int .i64)), .sl false (([] : List Int).map (V.int .u16)), .sl false (([] : List Int).map (V.int .u16)), .sl false (([] : List (List Int)).map encLU16), .sl false (([] : List (List Canon)).map encLCanon), .sl false (([] : List Opn).map Opn.enc), .sl false (([] : List Output).map Output.enc), .int .i64 0, .int .i64 0, .int .i64 0, .int .i64 0, .int .i64 0, .int .i64 0]], true⟩ ∧ S.f 3 = .ptr 3 0 0 ∧ S.h 3 = some ⟨3, [.agg [.sl false (([] : List Fault).map Fault.enc), .sl false (([] : List Hang).map Hang.enc), .sl false (([] : List Crash).map Crash.enc)]], true⟩ ∧ S.f 7 = .sl false ((LL).map V.str) ∧ S.f 8 = .ptr 8 0 0 ∧ S.h 1000 = some ⟨6, ((readerOf (stAt LL i))).t.faults.map Fault.enc, false⟩ ∧ S.h 1001 = some ⟨3, ((readerOf (stAt LL i))).t.hangs.map Hang.enc, false⟩ ∧ S.h 1002 = some ⟨2, ((readerOf (stAt LL i))).t.crashes.map Crash.enc, false⟩ ∧ S.h 1003 = some ⟨3, ((readerOf (stAt LL i))).l.map Choice.enc, false⟩ ∧ S.h 8 = some ⟨21, [.agg [.int .i64 ((readerOf (stAt LL i))).place, .sl false (((readerOf (stAt LL i))).u.program.code.map Instr.enc), .sl false (((readerOf (stAt LL i))).u.program.sizes.map (V.int .i64)), .sl false (((readerOf (stAt LL i))).u.program.data.map encLU16), .sl false (((readerOf (stAt LL i))).u.seeds.map (V.int .i64)), .sl false (((readerOf (stAt LL i))).u.outside.clock.map (V.int .u16)), .sl false (((readerOf (stAt LL i))).u.outside.random.map (V.int .u16)), .sl false (((readerOf (stAt LL i))).u.outside.inputs.map encLU16), .sl false (((readerOf (stAt LL i))).u.outside.files.data.map encLCanon), .sl false (((readerOf (stAt LL i))).u.outside.files.opens.map Opn.enc), .sl false (((readerOf (stAt LL i))).u.outside.outputs.map Output.enc), .int .i64 ((readerOf (stAt LL i))).u.period, .int .i64 ((readerOf (stAt LL i))).u.misses, .int .i64 ((readerOf (stAt LL i))).u.repairs, .int .i64 ((readerOf (stAt LL i))).u.pages, .int .i64 ((readerOf (stAt LL i))).u.least, .int .i64 ((readerOf (stAt LL i))).u.wait, .hdr 1000 0 (((readerOf (stAt LL i))).t.faults.map Fault.enc).length, .hdr 1001 0 (((readerOf (stAt LL i))).t.hangs.map Hang.enc).length, .hdr 1002 0 (((readerOf (stAt LL i))).t.crashes.map Crash.enc).length, .hdr 1003 0 (((readerOf (stAt LL i))).l.map Choice.enc).length]], true⟩ ∧ S.f 9 = .int .i64 (i : Int) ∧ S.n = 1104) ∧ (okAt LL i)) (n) ?_ 0 (by simp) ?_
  · rintro i S hii ⟨hI0, hP0⟩
    have hwi : IntKind.i64.wrap ((i : Int) + 1) = (i : Int) + 1 := wrap_i64 (by omega)
    by_cases hlti : i < n
    · have hiL : i < LL.length := by omega
      have hgd := getD_at LL [] hiL
      have hF := hfi i hP0
      have hsl := hpc LL[i] (List.getElem_mem hiL)
      have hse := step_eq (stAt LL i) LL[i] hF.kind hF.new
      have hpl : 0 ≤ (readerOf (stAt LL i)).place := by
        have := hF.kind
        simp only [readerOf, placeOf]
        split <;> omega
      have hls : (readerOf (stAt LL i)).t.faults.length ≤ 1000000 ∧ (readerOf (stAt LL i)).t.hangs.length ≤ 1000000 ∧ (readerOf (stAt LL i)).t.crashes.length ≤ 1000000 ∧ (readerOf (stAt LL i)).l.length ≤ 1000000 := by
        obtain ⟨_, _, _, h4, h5, h6, h7, _⟩ := hF
        simp only [readerOf]
        omega
      have hplace : (readerOf (stAt LL i)).place = placeOf (stAt LL i).2 := rfl
      have hno := c_read_no (readerOf (stAt LL i)) LL[i] (by omega)
      have hyes := fun (hr : rejB (readerOf (stAt LL i)).place LL[i] = false) => c_read_yes (readerOf (stAt LL i)) LL[i] (by omega) hr hpl hls
      rw [hplace] at hno hyes
      have hin : (i : Int) < (n : Int) + 1 := by omega
      have hw3 : IntKind.i64.wrap ((i : Int) + 1) = (i : Int) + 1 := wrap_i64 (by omega)
      have hpf' := hpf i hlti hP0
      have hnx := fun q => @okAt_succ LL i hP0 q
      rw [hgd] at hpf' hnx
      cases hst : stepM (stAt LL i) LL[i] with
      | none =>
        rw [hst] at hse
        have hR := hpf' hst
        subst hR
        rcases hse with hr | ⟨hr, hok⟩
        · have hc := hno hr
          generalize readerOf (stAt LL i) = r at *
          simp only [reader.enc_eq] at hc
          simp (maxSteps := 10000000) (maxDischargeDepth := 30) (implicitDefEqProofs := false) [hI0, hii, hwi, hlti, hc, hin, hnn, hn', hwn, hw3, hiL, noSetup, noTroubles]
        · have hc := hyes hr
          rw [hok] at hc
          generalize readerOf (stAt LL i) = r at *
          generalize putR r (kindIx ((cutL 32 LL[i]).headD [])) (valuesM LL[i]) = r2 at *
          simp only [reader.enc_eq] at hc
          simp (maxSteps := 10000000) (maxDischargeDepth := 30) (implicitDefEqProofs := false) [hI0, hii, hwi, hlti, hc, hin, hnn, hn', hwn, hw3, hiL, noSetup, noTroubles]
      | some q =>
        rw [hst] at hse
        obtain ⟨hr, hok, hpu, _⟩ := hse
        have hc := hyes hr
        obtain ⟨ha1, ha2⟩ := hnx q hst
        rw [hok, hpu, ← ha2] at hc
        generalize readerOf (stAt LL i) = r at *
        simp only [reader.enc_eq] at hc
        simp (maxSteps := 10000000) (maxDischargeDepth := 30) (implicitDefEqProofs := false) [hI0, hii, hwi, hlti, hc, hin, hnn, hn', hwn, hw3, hiL, ha1]
    · have hei : n = i := by omega
      subst hei
      have hF := hfi n hP0
      have hR := hpe hP0
      have hiL : n < LL.length := by omega
      have hgd := getD_at LL [] hiL
      rw [hgd] at hR
      have hw1 : IntKind.i64.wrap ((n : Int) + 1) = (n : Int) + 1 := wrap_i64 (by omega)
      obtain ⟨hFk, _, hFn, h4, h5, h6, h7, h8⟩ := hF
      have hc := c_formatR (stAt LL n).1.u (stAt LL n).1.t (stAt LL n).1.l (by omega) (by omega) (nums_in hFn)
      have hpl : (readerOf (stAt LL n)).place = placeOf (stAt LL n).2 := rfl
      have hru : (readerOf (stAt LL n)).u = (stAt LL n).1.u := rfl
      have hrt : (readerOf (stAt LL n)).t = (stAt LL n).1.t := rfl
      have hrl : (readerOf (stAt LL n)).l = (stAt LL n).1.l := rfl
      rw [← hru, ← hrt, ← hrl] at hc hR
      have hfe : (formatM (readerOf (stAt LL n)).u (readerOf (stAt LL n)).t (readerOf (stAt LL n)).l).2 = checkM (readerOf (stAt LL n)).u (readerOf (stAt LL n)).t (readerOf (stAt LL n)).l := by
        unfold formatM
        by_cases h : checkM (readerOf (stAt LL n)).u (readerOf (stAt LL n)).t (readerOf (stAt LL n)).l = 0
        · rw [if_pos h, h]
        · rw [if_neg h]
      have hpb : ((readerOf (stAt LL n)).place < 2) ↔ (stAt LL n).2 < 1 := by
        rw [hpl]
        unfold placeOf
        split <;> omega
      rw [hfe] at hc
      generalize (stAt LL n).2 = b at *
      generalize readerOf (stAt LL n) = r at *
      generalize (formatM r.u r.t r.l).1 = ft at *
      by_cases hz : LL[n] = []
      · rw [if_neg (by simp [hz])] at hR
        have hz' : (LL[n] == []) = true := by simp [hz]
        by_cases hb : b < 1
        · rw [if_pos hb] at hR
          subst hR
          have hp2 := hpb.2 hb
          by_cases h1 : (1 : Int) < (n : Int) + 1
          · have hm : max (n : Int) 1 = n := by omega
            simp (maxSteps := 10000000) (maxDischargeDepth := 30) (implicitDefEqProofs := false) [hI0, hii, hwi, hlti, hz, hp2, h1, hm, hnn, hn', hn, hwn, hw1, hiL, noSetup, noTroubles]
          · have hm : max (n : Int) 1 = n + 1 := by omega
            simp (maxSteps := 10000000) (maxDischargeDepth := 30) (implicitDefEqProofs := false) [hI0, hii, hwi, hlti, hz, hp2, h1, hm, hnn, hn', hn, hwn, hw1, hiL, noSetup, noTroubles]
        · rw [if_neg hb] at hR
          have hp2 : ¬ r.place < 2 := fun h => hb (hpb.1 h)
          generalize checkM r.u r.t r.l = e at *
          simp only [Setup.enc_eq, Troubles.enc_eq] at hc
          by_cases he : e = 0
          · subst he
            rw [if_neg (by simp)] at hR
            subst hR
            simp (maxSteps := 10000000) (maxDischargeDepth := 30) (implicitDefEqProofs := false) [hI0, hii, hwi, hlti, hz, hp2, hc, hnn, hn', hn, hwn, hiL]
          · rw [if_pos he] at hR
            subst hR
            simp (maxSteps := 10000000) (maxDischargeDepth := 30) (implicitDefEqProofs := false) [hI0, hii, hwi, hlti, hz, hp2, hc, he, hnn, hn', hn, hwn, hiL, noSetup, noTroubles]
      · rw [if_pos hz] at hR
        subst hR
        have hz' : (LL[n] == []) = false := by simp [hz]
        simp (maxSteps := 10000000) (maxDischargeDepth := 30) (implicitDefEqProofs := false) [hI0, hii, hwi, hlti, hz, hz', hnn, hn', hn, hwn, hw1, hiL, noSetup, noTroubles]
  · simp (maxSteps := 10000000) (maxDischargeDepth := 30) (implicitDefEqProofs := false) [stAt, readerOf, placeOf, okAt_zero]
end Go.Proofs.YtcfmnogghcjdaaaGreatDoor
namespace Go.Proofs.YtcfmnogghcjdaaaGreatDoor
open Go Go.Abs Go.Abs.Api
theorem readM_some {x : Str} {r : row} (h : readM x = some r) : (0 ≤ r.kind ∧ r.kind ≤ 5) ∧ r.numbers.length ≤ x.length + 1 := by
  obtain ⟨w, L, hwl⟩ := List.exists_cons_of_ne_nil (cutL_ne 32 x)
  have hk := kindIx_range w
  have hl := cutL_len 32 x
  rw [readM_eq hwl] at h
  split at h
  · cases h
  · split at h
    · injection h with h
      subst h
      refine ⟨by simp only; omega, ?_⟩
      simp [valuesM]; omega
    · cases h
@[simp] theorem f_text_Parse (s : List UInt8) (hl : s.length ≤ 100000) : pcall X 16 [.str s] = some (.tup [.agg [.sl false (((parseM s).u).program.code.map Instr.enc), .sl false (((parseM s).u).program.sizes.map (V.int .i64)), .sl false (((parseM s).u).program.data.map encLU16), .sl false (((parseM s).u).seeds.map (V.int .i64)), .sl false (((parseM s).u).outside.clock.map (V.int .u16)), .sl false (((parseM s).u).outside.random.map (V.int .u16)), .sl false (((parseM s).u).outside.inputs.map encLU16), .sl false (((parseM s).u).outside.files.data.map encLCanon), .sl false (((parseM s).u).outside.files.opens.map Opn.enc), .sl false (((parseM s).u).outside.outputs.map Output.enc), .int .i64 ((parseM s).u).period, .int .i64 ((parseM s).u).misses, .int .i64 ((parseM s).u).repairs, .int .i64 ((parseM s).u).pages, .int .i64 ((parseM s).u).least, .int .i64 ((parseM s).u).wait], .agg [.sl false (((parseM s).t).faults.map Fault.enc), .sl false (((parseM s).t).hangs.map Hang.enc), .sl false (((parseM s).t).crashes.map Crash.enc)], .sl false (((parseM s).l).map Choice.enc), .int .i64 ((parseM s).n), .int .i64 ((parseM s).e)]) := by
  refine pcall_of Tryz.func16 rfl rfl ?_
  have hs := p_split s 10 (by omega)
  have hlen := cutL_len 10 s
  have hpos := List.length_pos_iff.2 (cutL_ne 10 s)
  obtain ⟨n, hn⟩ : ∃ n, (cutL 10 s).length = n + 1 := ⟨(cutL 10 s).length - 1, by omega⟩
  have hpf := fun (i : Nat) hi h hs => parse_fail (s := s) (i := i) hn hi h hs
  have hpe := fun h => parse_end (s := s) hn h
  have hfi := fun (i : Nat) h => fine_cut (s := s) (i := i) (by omega) h
  have hpc : ∀ x ∈ cutL 10 s, x.length ≤ 100000 := fun x hx => by have := pieces_len x hx; omega
  generalize parseM s = R at *
  generalize cutL 10 s = LL at *
  have hn' : ((LL.length : Nat) : Int) = (n : Int) + 1 := by omega
  have hwn : IntKind.i64.wrap (n : Int) = n := wrap_i64 (by omega)
  have hnn : (n : Int) < (n : Int) + 1 := by omega
  have hb1 : (n : Int) ≤ (n : Int) + 1 := by omega
  have hb2 : n ≤ LL.length := by omega
  have hmin : min n LL.length = n := by omega
  simp (maxSteps := 10000000) (maxDischargeDepth := 30) (implicitDefEqProofs := false) [hs, hnn, hn', hn, hwn, hb1, hb2, hmin, -p_split]
  refine Wp_up (fun i S => (S.f 2 = .ptr 2 0 0 ∧ S.h 2 = some ⟨16, [.agg [.sl false (([] : List Instr).map Instr.enc), .sl false (([] : List Int).map (V.int .i64)), .sl false (([] : List (List Int)).map encLU16), .sl false (([] : List Int).map (V.int .i64)), .sl false (([] : List Int).map (V.int .u16)), .sl false (([] : List Int).map (V.int .u16)), .sl false (([] : List (List Int)).map encLU16), .sl false (([] : List (List Canon)).map encLCanon), .sl false (([] : List Opn).map Opn.enc), .sl false (([] : List Output).map Output.enc), .int .i64 0, .int .i64 0, .int .i64 0, .int .i64 0, .int .i64 0, .int .i64 0]], true⟩ ∧ S.f 3 = .ptr 3 0 0 ∧ S.h 3 = some ⟨3, [.agg [.sl false (([] : List Fault).map Fault.enc), .sl false (([] : List Hang).map Hang.enc), .sl false (([] : List Crash).map Crash.enc)]], true⟩ ∧ S.f 7 = .sl false ((LL).map V.str) ∧ S.f 8 = .int .i64 ((n : Int)) ∧ S.f 9 = .ptr 9 0 0 ∧ S.h 1000 = some ⟨6, ((stAt LL i).1).t.faults.map Fault.enc, false⟩ ∧ S.h 1001 = some ⟨3, ((stAt LL i).1).t.hangs.map Hang.enc, false⟩ ∧ S.h 1002 = some ⟨2, ((stAt LL i).1).t.crashes.map Crash.enc, false⟩ ∧ S.h 1003 = some ⟨3, ((stAt LL i).1).l.map Choice.enc, false⟩ ∧ S.h 9 = some ⟨20, [.agg [.sl false (((stAt LL i).1).u.program.code.map Instr.enc), .sl false (((stAt LL i).1).u.program.sizes.map (V.int .i64)), .sl false (((stAt LL i).1).u.program.data.map encLU16), .sl false (((stAt LL i).1).u.seeds.map (V.int .i64)), .sl false (((stAt LL i).1).u.outside.clock.map (V.int .u16)), .sl false (((stAt LL i).1).u.outside.random.map (V.int .u16)), .sl false (((stAt LL i).1).u.outside.inputs.map encLU16), .sl false (((stAt LL i).1).u.outside.files.data.map encLCanon), .sl false (((stAt LL i).1).u.outside.files.opens.map Opn.enc), .sl false (((stAt LL i).1).u.outside.outputs.map Output.enc), .int .i64 ((stAt LL i).1).u.period, .int .i64 ((stAt LL i).1).u.misses, .int .i64 ((stAt LL i).1).u.repairs, .int .i64 ((stAt LL i).1).u.pages, .int .i64 ((stAt LL i).1).u.least, .int .i64 ((stAt LL i).1).u.wait, .hdr 1000 0 (((stAt LL i).1).t.faults.map Fault.enc).length, .hdr 1001 0 (((stAt LL i).1).t.hangs.map Hang.enc).length, .hdr 1002 0 (((stAt LL i).1).t.crashes.map Crash.enc).length, .hdr 1003 0 (((stAt LL i).1).l.map Choice.enc).length]], true⟩ ∧ S.f 10 = .int .i64 ((stAt LL i).2) ∧ S.f 23 = .sl false ((LL.take n).map V.str) ∧ S.f 24 = .int .i64 ((n : Int)) ∧ S.f 25 = .int .i64 (i : Int) ∧ S.n = 1104) ∧ (okAt LL i)) (n) ?_ 0 (by simp) ?_
  · rintro i S hii ⟨hI0, hP0⟩
    have hwi : IntKind.i64.wrap ((i : Int) + 1) = (i : Int) + 1 := wrap_i64 (by omega)
    by_cases hlti : i < n
    · have hiL : i < LL.length := by omega
      have hgd := getD_at LL [] hiL
      have hF := hfi i hP0
      have hsl := hpc LL[i] (List.getElem_mem hiL)
      have hread := f_text_read LL[i] (by omega)
      have hin : (i : Int) < (n : Int) + 1 := by omega
      have hw3 : IntKind.i64.wrap ((i : Int) + 1) = (i : Int) + 1 := wrap_i64 (by omega)
      have hpf' := hpf i hlti hP0
      have hnx := fun q => @okAt_succ LL i hP0 q
      rw [hgd] at hpf' hnx
      have hsm : stepM (stAt LL i) LL[i] = match readM LL[i] with
        | none => none
        | some r => match addM (stAt LL i).1 r (stAt LL i).2 with
          | none => none
          | some s => some (s, r.kind) := rfl
      have hti : (LL.take n)[i]? = some LL[i] := by rw [List.getElem?_take_of_lt hlti]; simp
      cases hrd : readM LL[i] with
      | none =>
        rw [hrd] at hsm hread
        have hR := hpf' hsm
        subst hR
        simp only [Option.getD_none, Option.isSome_none] at hread
        generalize stAt LL i = p at *
        obtain ⟨x, b⟩ := p
        simp (maxSteps := 10000000) (maxDischargeDepth := 30) (implicitDefEqProofs := false) [hI0, hii, hwi, hlti, hread, hin, hti, hnn, hn', hn, hwn, hw3, hiL, noSetup, noTroubles, -f_text_read]
      | some r =>
        rw [hrd] at hsm hread
        simp only [Option.getD_some, Option.isSome_some] at hread
        obtain ⟨hk, hnl⟩ := readM_some hrd
        obtain ⟨hFk, _, _, h4, h5, h6, h7, _⟩ := hF
        have hc := c_add (stAt LL i).1 r (stAt LL i).2 hk hFk (by omega) (by omega)
        simp only at hsm
        rw [addM_eq] at hsm
        cases hb : (addX (stAt LL i).1 r (stAt LL i).2).2 with
        | false =>
          rw [hb] at hsm hc
          have hR := hpf' hsm
          subst hR
          generalize (addX (stAt LL i).1 r (stAt LL i).2).1 = x2 at *
          generalize stAt LL i = p at *
          obtain ⟨x, b⟩ := p
          obtain ⟨k, ns⟩ := r
          simp only [scenario.enc_eq, row.enc_eq] at hc hread
          simp (maxSteps := 10000000) (maxDischargeDepth := 30) (implicitDefEqProofs := false) [hI0, hii, hwi, hlti, hread, hc, hin, hti, hnn, hn', hn, hwn, hw3, hiL, noSetup, noTroubles, -f_text_read]
        | true =>
          rw [hb] at hsm hc
          obtain ⟨ha1, ha2⟩ := hnx _ hsm
          generalize (addX (stAt LL i).1 r (stAt LL i).2).1 = x2 at *
          obtain ⟨hp1, hp2⟩ : (stAt LL (i + 1)).1 = x2 ∧ (stAt LL (i + 1)).2 = r.kind := by rw [ha2]; exact ⟨rfl, rfl⟩
          generalize stAt LL i = p at *
          obtain ⟨x, b⟩ := p
          obtain ⟨k, ns⟩ := r
          simp only [scenario.enc_eq, row.enc_eq] at hc hread
          simp (maxSteps := 10000000) (maxDischargeDepth := 30) (implicitDefEqProofs := false) [hI0, hii, hwi, hlti, hread, hc, hin, hti, hnn, hn', hn, hwn, hw3, hiL, ha1, hp1, hp2, -f_text_read]
    · have hei : n = i := by omega
      subst hei
      have hF := hfi n hP0
      have hR := hpe hP0
      have hiL : n < LL.length := by omega
      have hgd := getD_at LL [] hiL
      rw [hgd] at hR
      have hw1 : IntKind.i64.wrap ((n : Int) + 1) = (n : Int) + 1 := wrap_i64 (by omega)
      obtain ⟨hFk, _, _, h4, h5, h6, h7, _⟩ := hF
      have hc := c_check (stAt LL n).1 (by omega)
      generalize stAt LL n = p at *
      obtain ⟨x, b⟩ := p
      simp only at hR hc hFk
      by_cases hz : LL[n] = []
      · rw [if_neg (by simp [hz])] at hR
        by_cases hb : b < 1
        · rw [if_pos hb] at hR
          subst hR
          simp (maxSteps := 10000000) (maxDischargeDepth := 30) (implicitDefEqProofs := false) [hI0, hii, hwi, hlti, hz, hb, hnn, hn', hn, hwn, hw1, hiL, noSetup, noTroubles]
          split <;> omega
        · rw [if_neg hb] at hR
          generalize checkM x.u x.t x.l = e at *
          simp only [scenario.enc_eq] at hc
          by_cases he : e = 0
          · subst he
            rw [if_neg (by simp)] at hR
            subst hR
            simp (maxSteps := 10000000) (maxDischargeDepth := 30) (implicitDefEqProofs := false) [hI0, hii, hwi, hlti, hz, hb, hc, hnn, hn', hn, hwn, hiL]
          · rw [if_pos he] at hR
            subst hR
            simp (maxSteps := 10000000) (maxDischargeDepth := 30) (implicitDefEqProofs := false) [hI0, hii, hwi, hlti, hz, hb, hc, he, hnn, hn', hn, hwn, hiL, noSetup, noTroubles]
      · rw [if_pos hz] at hR
        subst hR
        simp (maxSteps := 10000000) (maxDischargeDepth := 30) (implicitDefEqProofs := false) [hI0, hii, hwi, hlti, hz, hnn, hn', hn, hwn, hw1, hiL, noSetup, noTroubles]
  · simp (maxSteps := 10000000) (maxDischargeDepth := 30) (implicitDefEqProofs := false) [stAt, okAt_zero]
end Go.Proofs.YtcfmnogghcjdaaaGreatDoor
namespace Go.Proofs.YtcfmnogghcjdaaaGreatDoor
open Go Go.Abs Go.Abs.Api
theorem c_parseP (s : Str) (hl : s.length ≤ 100000) : pcall X 16 [.str s] = some (.tup [(parseM s).u.enc, (parseM s).t.enc, .sl false ((parseM s).l.map Choice.enc), .int .i64 (parseM s).n, .int .i64 (parseM s).e]) := f_text_Parse s hl
theorem c_parseR (s : Str) (hl : s.length ≤ 100000) : pcall X 25 [.str s] = some (.tup [(parseM s).u.enc, (parseM s).t.enc, .sl false ((parseM s).l.map Choice.enc), .int .i64 (parseM s).n, .int .i64 (parseM s).e]) := f_ref45_Parse s hl
theorem c_formatP (u : Setup) (t : Troubles) (l : List Choice) (h1 : t.faults.length ≤ 1000000 ∧ t.hangs.length ≤ 1000000 ∧ t.crashes.length ≤ 1000000 ∧ l.length ≤ 1000000) : pcall X 15 [u.enc, t.enc, .sl false (l.map Choice.enc)] = some (.tup [.str (formatM u t l).1, .int .i64 (formatM u t l).2]) :=
  f_text_Format u.program.code u.program.sizes u.program.data u.seeds u.outside.clock u.outside.random u.outside.inputs u.outside.files.data u.outside.files.opens u.outside.outputs u.period u.misses u.repairs u.pages u.least u.wait t.faults t.hangs t.crashes l h1
theorem c_same (a b : Setup) (c d : Troubles) (l m : List Choice) (h1 : c.faults.length ≤ 1000000 ∧ c.hangs.length ≤ 1000000 ∧ c.crashes.length ≤ 1000000 ∧ l.length ≤ 1000000) (h2 : d.faults.length ≤ 1000000 ∧ d.hangs.length ≤ 1000000 ∧ d.crashes.length ≤ 1000000 ∧ m.length ≤ 1000000) (hs1 : a.seeds.length ≤ 9223372036854775807) (hs2 : b.seeds.length ≤ 9223372036854775807) (hR1 : ∀ r ∈ rowsM a c l, ∀ n ∈ r.numbers, inI n) (hR2 : ∀ r ∈ rowsM b d m, ∀ n ∈ r.numbers, inI n) (he : formatM a c l = formatM b d m) : pcall X 26 [a.enc, b.enc, c.enc, d.enc, .sl false (l.map Choice.enc), .sl false (m.map Choice.enc)] = some (.bool true) :=
  f_law45_same a.program.code a.program.sizes a.program.data a.seeds a.outside.clock a.outside.random a.outside.inputs a.outside.files.data a.outside.files.opens a.outside.outputs a.period a.misses a.repairs a.pages a.least a.wait b.program.code b.program.sizes b.program.data b.seeds b.outside.clock b.outside.random b.outside.inputs b.outside.files.data b.outside.files.opens b.outside.outputs b.period b.misses b.repairs b.pages b.least b.wait c.faults c.hangs c.crashes d.faults d.hangs d.crashes l m h1 h2 hs1 hs2 hR1 hR2 he
structure Told (R : Parsed) : Prop where
  nums : numsB R.u R.t R.l = true
  lens : R.t.faults.length ≤ 1000000 ∧ R.t.hangs.length ≤ 1000000 ∧ R.t.crashes.length ≤ 1000000 ∧ R.l.length ≤ 1000000
  seeds : R.u.seeds.length ≤ 9223372036854775807
theorem told_none (n e : Int) : Told ⟨noSetup, noTroubles, [], n, e⟩ :=
  ⟨rfl, ⟨Nat.zero_le _, Nat.zero_le _, Nat.zero_le _, Nat.zero_le _⟩, Nat.zero_le _⟩
theorem go_all : ∀ (ls : List Str) (n : Nat), n ≤ ls.length → okAt ls n ∨ ∃ i, i < n ∧ okAt ls i ∧ stepM (stAt ls i) (ls.getD i []) = none
  | ls, 0, _ => .inl (okAt_zero ls)
  | ls, n + 1, h => by
    rcases go_all ls n (by omega) with h1 | ⟨i, h1, h2, h3⟩
    · cases e : stepM (stAt ls n) (ls.getD n []) with
      | none => exact .inr ⟨n, by omega, h1, e⟩
      | some q => exact .inl (okAt_succ h1 e).1
    · exact .inr ⟨i, by omega, h2, h3⟩
theorem told (s : Str) (hl : s.length ≤ 100000) : Told (parseM s) := by
  have hlen := cutL_len 10 s
  have hpos := List.length_pos_iff.2 (cutL_ne 10 s)
  obtain ⟨n, hn⟩ : ∃ n, (cutL 10 s).length = n + 1 := ⟨(cutL 10 s).length - 1, by omega⟩
  rcases go_all (cutL 10 s) n (by omega) with h | ⟨i, h1, h2, h3⟩
  · obtain ⟨_, _, h3, h4, h5, h6, h7, h8⟩ := fine_cut (by omega) h
    rw [parse_end hn h]
    split
    · exact told_none _ _
    · split
      · exact told_none _ _
      · split
        · exact told_none _ _
        · exact ⟨h3, by simp only; omega, by simp only; omega⟩
  · rw [parse_fail hn h1 h2 h3]
    exact told_none _ _
@[simp] theorem f_law45_agree (s : List UInt8) (hl : s.length ≤ 100000) : pcall X 14 [.str s] = some (.bool true) := by
  refine pcall_of Tryz.func14 rfl rfl ?_
  have h1 := c_parseP s hl
  have h2 := c_parseR s hl
  obtain ⟨t1, t2, t3⟩ := told s hl
  have h3 := c_same (parseM s).u (parseM s).u (parseM s).t (parseM s).t (parseM s).l (parseM s).l t2 t2 t3 t3 (nums_in t1) (nums_in t1) rfl
  generalize parseM s = R at *
  obtain ⟨u, t, l, n, e⟩ := R
  simp only at h1 h2 h3
  simp only [Setup.enc_eq, Troubles.enc_eq] at h1 h2 h3
  simp (maxSteps := 10000000) (maxDischargeDepth := 30) (implicitDefEqProofs := false) [h1, h2, h3, -f_text_Parse, -f_ref45_Parse]
def plainB : Str := [115, 101, 116, 117, 112, 32, 53, 32, 48, 32, 50, 32, 51, 32, 50, 32, 49, 10, 115, 101, 101, 100, 115, 32, 49, 32, 50, 32, 51, 10, 102, 97, 117, 108, 116, 32, 50, 32, 49, 32, 52, 32, 48, 32, 51, 32, 55, 10, 104, 97, 110, 103, 32, 51, 32, 50, 32, 49, 10, 99, 114, 97, 115, 104, 32, 52, 32, 49, 10, 99, 104, 111, 105, 99, 101, 32, 48, 32, 53, 32, 49, 10, 99, 104, 111, 105, 99, 101, 32, 49, 32, 48, 32, 48, 10]
def plainU : Setup := { noSetup with period := 5, misses := 0, repairs := 2, pages := 3, least := 2, wait := 1, seeds := [1, 2, 3] }
def plainT : Troubles := ⟨[⟨2, 1, 4, 0, 3, 7⟩], [⟨3, 2, 1⟩], [⟨4, true⟩]⟩
def plainL : List Choice := [⟨0, 5, true⟩, ⟨1, 0, false⟩]
theorem itoa_one {n : Nat} (h : n < 10) : Lib.itoa (n : Int) = [UInt8.ofNat (48 + n)] := by
  unfold Lib.itoa
  rw [if_neg (by omega), Int.toNat_natCast, Lib.decDigits_one h]
theorem plain_text : textM plainU plainT plainL = plainB := by
  have i0 : Lib.itoa 0 = [48] := itoa_one (n := 0) (by omega)
  have i1 : Lib.itoa 1 = [49] := itoa_one (n := 1) (by omega)
  have i2 : Lib.itoa 2 = [50] := itoa_one (n := 2) (by omega)
  have i3 : Lib.itoa 3 = [51] := itoa_one (n := 3) (by omega)
  have i4 : Lib.itoa 4 = [52] := itoa_one (n := 4) (by omega)
  have i5 : Lib.itoa 5 = [53] := itoa_one (n := 5) (by omega)
  have i7 : Lib.itoa 7 = [55] := itoa_one (n := 7) (by omega)
  simp [textM, rowsM, plainU, plainT, plainL, setupN, faultN, hangN, crashN, choiceN, rowS, b2i, wordsL, wSetup, wSeeds, wFault, wHang, wCrash, wChoice, i0, i1, i2, i3, i4, i5, i7, plainB]
theorem plain_check : checkM plainU plainT plainL = 0 := by decide
theorem plain_parse : parseM plainB = ⟨plainU, plainT, plainL, 0, 0⟩ := by
  rw [← plain_text, parse_text plain_check]
  rfl
theorem plain_event : eventsM [⟨3, 2, 1, 0⟩] = [102, 111, 117, 110, 100, 32, 51, 32, 49, 32, 48, 10] := by
  have i0 : Lib.itoa 0 = [48] := itoa_one (n := 0) (by omega)
  have i1 : Lib.itoa 1 = [49] := itoa_one (n := 1) (by omega)
  have i3 : Lib.itoa 3 = [51] := itoa_one (n := 3) (by omega)
  simp [eventsM, evM, lineS, num, okN, kindsL, kindOf, i0, i1, i3]
@[simp] theorem f_law45_awake : pcall X 6 [] = some (.bool true) := by
  refine pcall_of Tryz.func6 rfl rfl ?_
  have h1 := c_parseP plainB (by decide)
  rw [plain_parse] at h1
  have h2 := c_formatP plainU plainT plainL (by decide)
  have hf : formatM plainU plainT plainL = (plainB, 0) := by
    unfold formatM
    rw [if_pos plain_check, plain_text]
  rw [hf] at h2
  have h3 := p_events [⟨3, 2, 1, 0⟩] (by decide) (by
    intro e he
    simp at he
    subst he
    simp [inEv, inI])
  rw [plain_event] at h3
  have h1' : pcall X 16 [.str plainB] = some (.tup [.agg [.sl false [], .sl false [], .sl false [], .sl false [.int .i64 1, .int .i64 2, .int .i64 3], .sl false [], .sl false [], .sl false [], .sl false [], .sl false [], .sl false [], .int .i64 5, .int .i64 0, .int .i64 2, .int .i64 3, .int .i64 2, .int .i64 1], .agg [.sl false [Fault.enc ⟨2, 1, 4, 0, 3, 7⟩], .sl false [Hang.enc ⟨3, 2, 1⟩], .sl false [Crash.enc ⟨4, true⟩]], .sl false [Choice.enc ⟨0, 5, true⟩, Choice.enc ⟨1, 0, false⟩], .int .i64 0, .int .i64 0]) := h1
  have h2' : pcall X 15 [.agg [.sl false [], .sl false [], .sl false [], .sl false [.int .i64 1, .int .i64 2, .int .i64 3], .sl false [], .sl false [], .sl false [], .sl false [], .sl false [], .sl false [], .int .i64 5, .int .i64 0, .int .i64 2, .int .i64 3, .int .i64 2, .int .i64 1], .agg [.sl false [Fault.enc ⟨2, 1, 4, 0, 3, 7⟩], .sl false [Hang.enc ⟨3, 2, 1⟩], .sl false [Crash.enc ⟨4, true⟩]], .sl false [Choice.enc ⟨0, 5, true⟩, Choice.enc ⟨1, 0, false⟩]] = some (.tup [.str plainB, .int .i64 0]) := h2
  simp only [List.map_cons, List.map_nil, Event.enc_eq] at h3
  simp only [Fault.enc_eq, Hang.enc_eq, Crash.enc_eq, Choice.enc_eq] at h1' h2'
  unfold plainB at h1' h2'
  clear h1 h2
  simp (maxSteps := 10000000) (maxDischargeDepth := 30) (implicitDefEqProofs := false) [h1', h2', h3, -f_text_Parse, -f_text_Format, -p_events]
end Go.Proofs.YtcfmnogghcjdaaaGreatDoor
