/- Slice literals, append, copy, clone. -/
import Derived.Test.YtcbddnmodlhnaaaA13
set_option linter.unusedVariables false
set_option linter.unusedSimpArgs false
namespace Go.Abs
open Go

theorem flat_set {k : Nat} : ∀ {es : List V} (i : Nat) (v : V), (∀ e ∈ es, e.cells.length = k) → v.cells.length = k → i < es.length → flat (es.set i v) = splice (i * k) v.cells (flat es)
  | [], i, v, _, _, hi => by simp at hi
  | e :: es, 0, v, hk, hv, _ => by
    rw [List.set_cons_zero, flat_cons, flat_cons, Nat.zero_mul]
    have he := hk e (by simp)
    apply List.ext_getElem?
    intro j
    rw [splice_get _ _ _ _ (by rw [List.length_append]; omega)]
    by_cases hj : j < k
    · rw [if_pos (by omega), List.getElem?_append_left (by omega)]; simp
    · rw [if_neg (by omega), List.getElem?_append_right (by omega), List.getElem?_append_right (by omega), hv, he]
  | e :: es, i + 1, v, hk, hv, hi => by
    rw [List.set_cons_succ, flat_cons, flat_cons, flat_set i v (fun x hx => hk x (by simp [hx])) hv (by simpa using hi)]
    have he := hk e (by simp)
    have hfl := flat_length (fun x hx => hk x (by simp [hx]) : ∀ x ∈ es, x.cells.length = k)
    have hik : (i + 1) * k ≤ es.length * k := Nat.mul_le_mul_right _ (by simp at hi; omega)
    rw [Nat.add_mul] at hik
    apply List.ext_getElem?
    intro j
    rw [splice_get _ _ _ _ (by rw [List.length_append, Nat.add_mul]; omega)]
    by_cases hj : j < k
    · rw [List.getElem?_append_left (by omega), if_neg (by rw [Nat.add_mul]; omega), List.getElem?_append_left (by omega)]
    · rw [List.getElem?_append_right (by omega), splice_get _ _ _ _ (by omega), List.getElem?_append_right (by omega), he]
      by_cases h2 : i * k ≤ j - k ∧ j - k < i * k + v.cells.length
      · rw [if_pos h2, if_pos (by rw [Nat.add_mul]; omega)]
        congr 1; rw [Nat.add_mul]; omega
      · rw [if_neg h2, if_neg (by rw [Nat.add_mul]; omega)]

section
variable {w : World} {I : Nat → Prop} {σ : Sig}

theorem fits_len {v : V} {k : Nat} (h : v.fits k = true) : v.cells.length = k := by
  cases v <;> simp_all [V.fits, V.cells]

theorem fillE_sim {k : Nat} (hp : 0 < k) : ∀ {ps : List (Nat × V)} {es es' : List V} {us : Array Value} {ups : List (Nat × Value)}, (∀ e ∈ es, e.cells.length = k) → RepC w I σ (flat es) us.toList →
    RepL w I σ (ps.map (·.2)) (ups.map (·.2)) → ps.map (·.1) = ups.map (·.1) → fillE k es ps = some es' →
      ∃ us' : Array Value, Instr.fill (fun i => some (i * k, k)) us ups = some us' ∧ RepC w I σ (flat es') us'.toList ∧ (∀ e ∈ es', e.cells.length = k) ∧ es'.length = es.length
  | [], es, es', us, ups, hk, hc, hr, hi, hf => by
    simp only [fillE, Option.some.injEq] at hf; subst hf
    cases ups with
    | nil => exact ⟨us, rfl, hc, hk, rfl⟩
    | cons _ _ => simp at hi
  | (i, v) :: ps, es, es', us, ups, hk, hc, hr, hi, hf => by
    cases ups with
    | nil => simp at hi
    | cons p ups =>
      obtain ⟨i', u⟩ := p
      simp only [List.map_cons, List.cons.injEq] at hi
      obtain ⟨rfl, hi⟩ := hi
      simp only [List.map_cons, RepL] at hr
      obtain ⟨u0, r, he, hv, hr⟩ := hr
      simp only [List.cons.injEq] at he
      obtain ⟨rfl, rfl⟩ := he
      simp only [fillE] at hf
      split at hf
      · rename_i hcond
        simp only [Bool.and_eq_true, decide_eq_true_eq] at hcond
        have hcl := hv.cells hcond.1
        have hlen := ((RepC_iff _ _).1 hc).1
        rw [flat_length hk] at hlen
        have hul := ((RepC_iff _ _).1 hcl.2).1
        have husz : u.cells.size = k := by rw [hcl.1] at hul; simpa using hul.symm
        have hsz : us.size = es.length * k := by simpa using hlen.symm
        have hik : (i + 1) * k ≤ es.length * k := Nat.mul_le_mul_right _ hcond.2
        rw [Nat.add_mul] at hik
        have hnew := splice_rep (n := i * k) hc hcl.2 (by rw [flat_length hk, hcl.1]; omega)
        rw [show us.toList.take (i * k) ++ u.cells.toList ++ us.toList.drop (i * k + u.cells.toList.length) = (over us (i * k) u.cells.toList).toList from rfl] at hnew
        rw [← flat_set i v hk hcl.1 hcond.2] at hnew
        have hk' : ∀ e ∈ es.set i v, e.cells.length = k := by
          intro e he
          rcases List.mem_or_eq_of_mem_set he with h | h
          · exact hk e h
          · rw [h]; exact hcl.1
        obtain ⟨us', h1, h2, h3, h4⟩ := fillE_sim hp hk' hnew hr hi hf
        refine ⟨us', ?_, h2, h3, by rw [h4]; simp⟩
        simp only [Instr.fill]
        rw [if_neg]
        · rw [foldl_over' u (i * k) us (by omega)]; exact h1
        · simp only [Bool.or_eq_true, decide_eq_true_eq, not_or]
          exact ⟨by simpa using husz, by omega⟩
      · cases hf

/-- a new block becomes immutable -/
theorem imm_new {h : Heap} (R : Rel w I σ h) (c : Array Value) (el : TypeId) (n : Nat) : Step w I σ h n (w.alloc (.cells c el)) (fun b => I b ∨ b = w.heap.size) σ h n := by
  have E : Ext w I σ (w.alloc (.cells c el)) (fun b => I b ∨ b = w.heap.size) σ :=
    (Ext.alloc R.imm _).trans ⟨fun _ _ => rfl, fun _ c _ fz hh => ⟨c, fz, hh, rfl⟩, fun b hb => .inl hb, fun _ _ hh => hh⟩
  have hOw : ∀ b, Owns σ h b → b < w.heap.size := fun b hb => by
    obtain ⟨_, c, el, hh⟩ := R.owned hb
    exact (Array.getElem?_eq_some_iff.1 hh).1
  refine ⟨E, R.keep E (fun b hb => ?_) (fun b hb => ⟨aold w _ b (hOw b hb), ?_⟩) (fun _ _ => rfl), rfl, rfl, rfl, by rw [alloc_size]; omega, fun b hb _ => aold w _ b hb, fun b hb => .inr hb, fun b hb => ?_, Nat.le_refl _, fun _ _ => rfl, fun _ _ hn => hn⟩
  · rw [alloc_size]
    rcases hb with hb | rfl
    · have := R.imm b hb; omega
    · omega
  · rintro (hi | rfl)
    · exact (R.owned hb).1 hi
    · have := hOw _ hb; omega
  · rcases hb with hb | rfl
    · exact .inl hb
    · exact .inr (.inl (Nat.le_refl _))
end

section
variable {X : Env} {o : Oper} {a : Act} {w : World} {I : Nat → Prop} {σ : Sig} {S S1 : St}

theorem buildSlice_run {t : TypeId} {n : Nat} (hu : X.P.underlying t = some (.slice (X.ti t).elem)) (T : TIOk X.P (X.ti t).elem (X.ti (X.ti t).elem)) (hcap : n * (X.ti (X.ti t).elem).size ≤ 2 ^ 24)
    {ps : List (Nat × V)} {es : List V} {ups : Array (Nat × Value)} {w : World} {J : Nat → Prop} {τ : Sig} (hr : RepL w J τ (ps.map (·.2)) (ups.toList.map (·.2))) (hi : ps.map (·.1) = ups.toList.map (·.1))
    (hf : fillE (X.ti (X.ti t).elem).size (List.replicate n (X.ti (X.ti t).elem).zero) ps = some es) :
    ∃ us : Array Value, (Instr.buildSlice t n ups).run X.P w = .ok (.slice (some ⟨w.heap.size, 0, none⟩) n n) (w.alloc (.cells us (X.ti t).elem)) ∧ RepC w J τ (flat es) us.toList ∧ (∀ e ∈ es, e.cells.length = (X.ti (X.ti t).elem).size) ∧ es.length = n := by
  obtain ⟨z, hz, hzb⟩ := run_zero T w
  have hzc := zero_cells (w := w) (I := J) (σ := τ) T hzb
  have hzsz : z.cells.size = (X.ti (X.ti t).elem).size := by
    have := ((RepC_iff _ _).1 hzc).1
    rw [T.zlen] at this; simpa using this.symm
  have hall : ∀ e ∈ List.replicate n (X.ti (X.ti t).elem).zero, e.cells.length = (X.ti (X.ti t).elem).size := by
    intro e he; rw [List.eq_of_mem_replicate he]; exact T.zlen
  have hrep : RepC w J τ (flat (List.replicate n (X.ti (X.ti t).elem).zero)) ((Array.range (n * (X.ti (X.ti t).elem).size)).map (z.cells[· % z.cells.size]!)).toList := by
    rw [flat_replicate, ← hzsz, made_list z.cells _ _ rfl (by rw [hzsz]; exact T.pos)]
    exact rep_replicate hzc n
  obtain ⟨us, h1, h2, h3, h4⟩ := fillE_sim T.pos hall hrep hr hi hf
  refine ⟨us, ?_, h2, h3, by rw [h4]; simp⟩
  have hc2 : ¬ (2 ^ 24 < n * (X.ti (X.ti t).elem).size) := by omega
  have hp := T.pos
  by_cases h0 : n = 0
  · subst h0
    have h1' : Instr.fill (fun i => some (i * (X.ti (X.ti t).elem).size, (X.ti (X.ti t).elem).size)) #[] ups.toList = some us := by
      simpa [Array.range_zero'] using h1
    simp [Instr.buildSlice, run_underlying hu, run_sizeOf T, newRow, h1', Array.range_zero']
  · have hne : n * (X.ti (X.ti t).elem).size ≠ 0 := by
      have := Nat.mul_pos (Nat.pos_of_ne_zero h0) hp; omega
    have hne2 : ¬ (n = 0 ∨ (X.ti (X.ti t).elem).size = 0) := by omega
    simp [Instr.buildSlice, run_underlying hu, run_sizeOf T, newRow, hc2, hz, h1]
    intro h; exact absurd h hne

theorem sim_buildSlice_keep {t : TypeId} {n : Nat} {ps : Array (Nat × Operand)} {es : List V} (ho : o.op = .buildSlice t n ps) (hu : X.P.underlying t = some (.slice (X.ti t).elem)) (T : TIOk X.P (X.ti t).elem (X.ti (X.ti t).elem)) (hcap : n * (X.ti (X.ti t).elem).size ≤ 2 ^ 24)
    (R : Rel w I σ S.h) (F : FRel w I σ S.f a) (hx : Opds o) (hn : S.h S.n = none) (hsn : σ S.n = none)
    (hf : fillE (X.ti (X.ti t).elem).size (List.replicate n (X.ti (X.ti t).elem).zero) (ps.toList.map fun p => (p.1, S.ev p.2)) = some es)
    (hs : S1 = (S.new ⟨(X.ti (X.ti t).elem).size, es, true⟩).set o.dst (.hdr S.n 0 n)) : Out X o a w I σ S S1 := by
  subst hs
  have hpr := parts_rep F hx ps.toList (by intro y hy; simp only [ho, Op.operands]; exact List.mem_map_of_mem hy)
  obtain ⟨us, hrun, hrep, hk, hlen⟩ := buildSlice_run (ups := ps.map fun p => (p.1, a.eval p.2)) hu T hcap (by simpa using hpr.1) (by simp) hf
  have hsz : us.size = n * (X.ti (X.ti t).elem).size := by
    have := ((RepC_iff _ _).1 hrep).1
    rw [flat_length hk, hlen] at this; simpa using this.symm
  have hnm : n ≤ maxLen := by
    have h1 : n * 1 ≤ n * (X.ti (X.ti t).elem).size := Nat.mul_le_mul_left _ T.pos
    simp only [maxLen]; omega
  refine ⟨_, _, I, _, .slice (some ⟨w.heap.size, 0, none⟩) n n, .hdr S.n 0 n, ?_, .inl rfl, ?_, set_f _ _ _ _ rfl, hdr_rep w I σ (k := (X.ti (X.ti t).elem).size) (c := us) (el := (X.ti t).elem) (Nat.le_refl _) hnm (by omega)⟩
  · simp [execOp, ho, hrun]
  · rw [set_h, set_n]
    exact flat_new R us hn hsn hk (us := us.toList) (by simpa [osig] using hrep) (fun j u hu' => by simpa using hu')

theorem sim_buildSlice {t : TypeId} {n : Nat} {ps : Array (Nat × Operand)} {es : List V} {l : List (Nat × V)} {h : Heap} {th : Bool} (ho : o.op = .buildSlice t n ps) (hu : X.P.underlying t = some (.slice (X.ti t).elem)) (T : TIOk X.P (X.ti t).elem (X.ti (X.ti t).elem)) (hcap : n * (X.ti (X.ti t).elem).size ≤ 2 ^ 24)
    (R : Rel w I σ S.h) (F : FRel w I σ S.f a) (hx : Opds o) (hn : S.h S.n = none) (hsn : σ S.n = none)
    (hg : giveP S.h (ps.toList.map fun p => (p.1, S.ev p.2)) = some (l, h))
    (hf : fillE (X.ti (X.ti t).elem).size (List.replicate n (X.ti (X.ti t).elem).zero) l = some es)
    (hs : S1 = if th then (({ S with h := h } : St).new ⟨(X.ti (X.ti t).elem).size, es, false⟩).set o.dst (.hdr S.n 0 n) else ({ S with h := h } : St).set o.dst (.sl true es)) : Out X o a w I σ S S1 := by
  subst hs
  have hpr := parts_rep F hx ps.toList (by intro y hy; simp only [ho, Op.operands]; exact List.mem_map_of_mem hy)
  obtain ⟨I1, s1, r1, hi1, hsub⟩ := giveP_sim R hpr.1 hg S.n
  obtain ⟨us, hrun, hrep, hk, hlen⟩ := buildSlice_run (ups := ps.map fun p => (p.1, a.eval p.2)) hu T hcap (by simpa using r1) (by rw [hi1]; simp) hf
  have hsz : us.size = n * (X.ti (X.ti t).elem).size := by
    have := ((RepC_iff _ _).1 hrep).1
    rw [flat_length hk, hlen] at this; simpa using this.symm
  have hnm : n ≤ maxLen := by
    have h1 : n * 1 ≤ n * (X.ti (X.ti t).elem).size := Nat.mul_le_mul_left _ T.pos
    simp only [maxLen]; omega
  have hnh : h S.n = none := by
    cases hc : h S.n with
    | none => rfl
    | some ob => rw [hsub _ _ hc] at hn; cases hn
  cases th with
  | true =>
    refine ⟨_, _, I1, _, .slice (some ⟨w.heap.size, 0, none⟩) n n, .hdr S.n 0 n, ?_, .inl rfl, ?_, ?_, hdr_rep w I1 σ (k := (X.ti (X.ti t).elem).size) (c := us) (el := (X.ti t).elem) (Nat.le_refl _) hnm (by omega)⟩
    · simp [execOp, ho, hrun]
    · simp only [if_true]
      rw [set_h, set_n]
      exact s1.trans (flat_new s1.rel us hnh hsn hk (us := us.toList) (by simpa [osig] using hrep) (fun j u hu' => by simpa using hu'))
    · simp only [if_true]; exact set_f _ _ _ _ rfl
  | false =>
    refine ⟨_, w.alloc (.cells us (X.ti t).elem), (fun b => I1 b ∨ b = w.heap.size), σ, .slice (some ⟨w.heap.size, 0, none⟩) n n, .sl true es, ?_, .inl rfl, ?_, ?_, ?_⟩
    · simp [execOp, ho, hrun]
    · simp only [Bool.false_eq_true, if_false]
      rw [set_h, set_n]
      exact s1.trans (imm_new s1.rel us (X.ti t).elem S.n)
    · simp only [Bool.false_eq_true, if_false]; exact set_f _ _ _ _ rfl
    · simp only [Rep]
      refine ⟨_, n, by rw [hlen], by omega, hnm, fun _ => hlen.symm, .inr ⟨w.heap.size, 0, (X.ti (X.ti t).elem).size, rfl, .inr rfl, ?_⟩⟩
      refine flat_row (imm_new s1.rel us (X.ti t).elem S.n).ext.noid hk (us := us.toList) hrep (fun j u hu' => ?_)
      rw [cell_of_row _ _ _ _ _ _ (anew w (.cells us (X.ti t).elem))]
      simpa using hu'

end
end Go.Abs
