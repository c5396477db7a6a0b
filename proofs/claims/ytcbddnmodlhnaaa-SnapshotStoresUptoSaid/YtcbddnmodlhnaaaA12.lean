/- Rows as lists of cells; literals; make; min, max. -/
import Derived.Test.YtcbddnmodlhnaaaA11
import Derived.Deep.AppendSrc
namespace Go.Abs
open Go

def flat (es : List V) : List V := es.flatMap V.cells

theorem flat_cons (e : V) (es : List V) : flat (e :: es) = e.cells ++ flat es := rfl
theorem flat_append (es xs : List V) : flat (es ++ xs) = flat es ++ flat xs := by simp [flat]

theorem flat_length {es : List V} {k : Nat} (h : ∀ e ∈ es, e.cells.length = k) : (flat es).length = es.length * k := by
  induction es with
  | nil => simp [flat]
  | cons e es ih =>
    rw [flat_cons, List.length_append, ih (fun x hx => h x (by simp [hx])), h e (by simp), List.length_cons, Nat.add_mul]
    omega

section
variable {w w' : World} {I I' : Nat → Prop} {σ σ' : Sig}

theorem RepC.append {cs ds : List V} {us vs : List Value} (h1 : RepC w I σ cs us) (h2 : RepC w I σ ds vs) : RepC w I σ (cs ++ ds) (us ++ vs) := by
  induction cs generalizing us with
  | nil => simp only [RepC] at h1; subst h1; simpa using h2
  | cons c cs ih =>
    simp only [RepC] at h1
    obtain ⟨u, r, rfl, h3, h4, h5⟩ := h1
    simp only [List.cons_append, RepC]
    exact ⟨u, r ++ vs, rfl, h3, h4, ih h5⟩

theorem RepC.split {cs ds : List V} {us : List Value} (h : RepC w I σ (cs ++ ds) us) : ∃ us1 us2, us = us1 ++ us2 ∧ RepC w I σ cs us1 ∧ RepC w I σ ds us2 := by
  induction cs generalizing us with
  | nil => exact ⟨[], us, rfl, by simp [RepC], by simpa using h⟩
  | cons c cs ih =>
    simp only [List.cons_append, RepC] at h
    obtain ⟨u, r, rfl, h3, h4, h5⟩ := h
    obtain ⟨us1, us2, rfl, h6, h7⟩ := ih h5
    exact ⟨u :: us1, us2, rfl, by simp only [RepC]; exact ⟨u, us1, rfl, h3, h4, h6⟩, h7⟩

theorem flat_row (E : Ext w I σ w' I' σ') {k b : Nat} : ∀ {es : List V} {us : List Value} {o : Nat}, (∀ e ∈ es, e.cells.length = k) → RepC w I σ (flat es) us → (∀ j u, us[j]? = some u → w'.cell? ⟨b, o + j, none⟩ = some u) → RepRow w' I' σ' es k b o
  | [], _, _, _, _, _ => by simp [RepRow]
  | e :: es, us, o, hk, hr, hc => by
    rw [flat_cons] at hr
    obtain ⟨us1, us2, rfl, h1, h2⟩ := hr.split
    have hl : us1.length = k := by rw [← ((RepC_iff _ _).1 h1).1]; exact hk e (by simp)
    rw [RepRow_cons]
    refine ⟨hk e (by simp), fun j c hj => ?_, flat_row E (fun x hx => hk x (by simp [hx])) h2 (fun j u hu => ?_)⟩
    · obtain ⟨u, hu, h3, h4⟩ := h1.get hj
      have hjl : j < us1.length := (List.getElem?_eq_some_iff.1 hu).1
      exact ⟨u, hc j u (by rw [List.getElem?_append_left hjl]; exact hu), h3, h4.ext E⟩
    · have := hc (k + j) u (by rw [List.getElem?_append_right (by omega), hl]; simpa using hu)
      rwa [show o + (k + j) = o + k + j by omega] at this

theorem row_flat {k b : Nat} : ∀ {es : List V} {o : Nat}, RepRow w I σ es k b o → ∃ us : List Value, us.length = es.length * k ∧ (∀ j u, us[j]? = some u → w.cell? ⟨b, o + j, none⟩ = some u) ∧ RepC w I σ (flat es) us
  | [], o, _ => ⟨[], by simp, by simp, by simp [flat, RepC]⟩
  | e :: es, o, h => by
    rw [RepRow_cons] at h
    obtain ⟨h1, h2, h3⟩ := h
    obtain ⟨us1, hl1, hu1, hr1⟩ := h2.vals
    obtain ⟨us2, hl2, hu2, hr2⟩ := row_flat h3
    refine ⟨us1 ++ us2, by rw [List.length_append, hl1, hl2, h1, List.length_cons, Nat.add_mul]; omega, fun j u hu => ?_, by rw [flat_cons]; exact hr1.append hr2⟩
    by_cases hj : j < us1.length
    · rw [List.getElem?_append_left hj] at hu; exact hu1 j u hu
    · rw [List.getElem?_append_right (by omega)] at hu
      have := hu2 _ u hu
      rwa [show o + k + (j - us1.length) = o + j by omega] at this

theorem RepRow.lens {es : List V} {k b o : Nat} (h : RepRow w I σ es k b o) : ∀ e ∈ es, e.cells.length = k := by
  intro e he
  obtain ⟨i, hi, rfl⟩ := List.mem_iff_getElem.1 he
  exact (h.get (i := i) (by simp)).1

/-- a value repeated -/
theorem flat_replicate (n : Nat) (v : V) : flat (List.replicate n v) = (List.replicate n v.cells).flatten := by
  induction n with
  | zero => rfl
  | succ n ih => rw [List.replicate_succ, flat_cons, ih, List.replicate_succ, List.flatten_cons]

theorem rep_replicate {cs : List V} {us : List Value} (h : RepC w I σ cs us) (n : Nat) : RepC w I σ (List.replicate n cs).flatten (List.replicate n us).flatten := by
  induction n with
  | zero => simp [RepC]
  | succ n ih => rw [List.replicate_succ, List.replicate_succ, List.flatten_cons, List.flatten_cons]; exact h.append ih

theorem flatten_replicate_get {α : Type} (l : List α) (hp : 0 < l.length) : ∀ (n j : Nat), (List.replicate n l).flatten[j]? = if j < n * l.length then l[j % l.length]? else none
  | 0, j => by simp
  | n + 1, j => by
    rw [List.replicate_succ, List.flatten_cons]
    by_cases hj : j < l.length
    · rw [List.getElem?_append_left hj, if_pos (by rw [Nat.add_mul]; omega), Nat.mod_eq_of_lt hj]
    · rw [List.getElem?_append_right (by omega), flatten_replicate_get l hp n (j - l.length)]
      by_cases h2 : j - l.length < n * l.length
      · rw [if_pos h2, if_pos (by rw [Nat.add_mul]; omega), ← Nat.mod_eq_sub_mod (a := j) (b := l.length) (by omega)]
      · rw [if_neg h2, if_neg (by rw [Nat.add_mul]; omega)]

theorem made_list (z : Array Value) (k n : Nat) (hk : z.size = k) (hp : 0 < k) : ((Array.range (n * k)).map (z[· % z.size]!)).toList = (List.replicate n z.toList).flatten := by
  subst hk
  apply List.ext_getElem?
  intro j
  rw [flatten_replicate_get z.toList (by simpa using hp)]
  simp only [Array.length_toList, Array.getElem?_toList, Array.getElem?_map]
  by_cases hj : j < n * z.size
  · rw [if_pos hj]
    have hm : j % z.size < z.size := Nat.mod_lt _ hp
    simp [Array.getElem?_range, hj, hm]
  · rw [if_neg hj]
    simp [Array.getElem?_range, hj]

/-- a value laid over cells -/
theorem splice_rep {n : Nat} {vs xs : List V} {ys us : List Value} (h1 : RepC w I σ xs us) (h2 : RepC w I σ vs ys) (hle : n + vs.length ≤ xs.length) :
    RepC w I σ (splice n vs xs) (us.take n ++ ys ++ us.drop (n + ys.length)) := by
  have l1 := ((RepC_iff _ _).1 h1).1
  have l2 := ((RepC_iff _ _).1 h2).1
  rw [RepC_iff]
  refine ⟨by rw [splice_length]; simp; omega, fun j c u hc hu => ?_⟩
  rw [splice_get _ _ _ _ hle] at hc
  split at hc
  · rename_i hj
    rw [List.getElem?_append_left (by simp; omega), List.getElem?_append_right (by simp; omega)] at hu
    simp only [List.length_take] at hu
    rw [show j - min n us.length = j - n by omega] at hu
    exact ((RepC_iff _ _).1 h2).2 _ c u hc hu
  · rename_i hj
    by_cases hjn : j < n
    · rw [List.append_assoc, List.getElem?_append_left (by simp; omega), List.getElem?_take, if_pos hjn] at hu
      exact ((RepC_iff _ _).1 h1).2 _ c u hc hu
    · rw [List.getElem?_append_right (by simp; omega), List.getElem?_drop] at hu
      simp only [List.length_append, List.length_take] at hu
      rw [show n + ys.length + (j - (min n us.length + ys.length)) = j by omega] at hu
      exact ((RepC_iff _ _).1 h1).2 _ c u hc hu


/-- how the model lays a part over cells -/
theorem foldl_over : ∀ (vs : List Value) (off j0 : Nat) (cs : Array Value), off + j0 + vs.length ≤ cs.size →
    ((vs.zipIdx j0).foldl (fun cs (p : Value × Nat) => cs.setIfInBounds (off + p.2) p.1) cs).toList = cs.toList.take (off + j0) ++ vs ++ cs.toList.drop (off + j0 + vs.length)
  | [], off, j0, cs, h => by simp
  | v :: vs, off, j0, cs, h => by
    simp only [List.zipIdx_cons, List.foldl_cons]
    rw [foldl_over vs off (j0 + 1) (cs.setIfInBounds (off + j0) v) (by simp at h ⊢; omega)]
    have e := list_seg_step cs.toList (off + j0) v vs (by simp at h ⊢; omega)
    simpa [Array.toList_setIfInBounds, Nat.add_assoc] using e

theorem foldl_over' (u : Value) (off : Nat) (cs : Array Value) (h : off + u.cells.size ≤ cs.size) :
    u.cells.zipIdx.foldl (fun cs (p : Value × Nat) => cs.setIfInBounds (off + p.2) p.1) cs = over cs off u.cells.toList := by
  apply Array.ext'
  rw [← Array.foldl_toList]
  have : u.cells.zipIdx.toList = u.cells.toList.zipIdx := by simp
  rw [this]
  have := foldl_over u.cells.toList off 0 cs (by simpa using h)
  simpa [over] using this

theorem over_toList (c : Array Value) (p : Nat) (us : List Value) : (over c p us).toList = c.toList.take p ++ us ++ c.toList.drop (p + us.length) := rfl

theorem fillS_sim {offs : List (Nat × Nat)} {place : Nat → Option (Nat × Nat)} (hp : ∀ (i : Nat) x, offs[i]? = some x → place i = some x) (hpos : ∀ x ∈ offs, 0 < x.2) :
    ∀ {ps : List (Nat × V)} {cs cs' : List V} {us : Array Value} {ups : List (Nat × Value)}, RepC w I σ cs us.toList → RepL w I σ (ps.map (·.2)) (ups.map (·.2)) → ps.map (·.1) = ups.map (·.1) → fillS offs cs ps = some cs' →
      ∃ us' : Array Value, Instr.fill place us ups = some us' ∧ RepC w I σ cs' us'.toList
  | [], cs, cs', us, ups, hc, hr, hi, hf => by
    simp only [fillS, Option.some.injEq] at hf; subst hf
    cases ups with
    | nil => exact ⟨us, rfl, hc⟩
    | cons _ _ => simp at hi
  | (i, v) :: ps, cs, cs', us, ups, hc, hr, hi, hf => by
    cases ups with
    | nil => simp at hi
    | cons p ups =>
      obtain ⟨i', u⟩ := p
      simp only [List.map_cons, List.cons.injEq] at hi
      obtain ⟨rfl, hi⟩ := hi
      simp only [List.map_cons, RepL] at hr
      obtain ⟨u0, r, he, hv, hr⟩ := hr
      simp only [List.cons.injEq] at he
      obtain ⟨rfl, rfl⟩ := he
      simp only [fillS] at hf
      cases ho : offs[i]? with
      | none => simp [ho] at hf
      | some x =>
        obtain ⟨o, k⟩ := x
        simp only [ho] at hf
        split at hf
        · rename_i hcond
          simp only [Bool.and_eq_true, decide_eq_true_eq] at hcond
          have hcl := hv.cells hcond.1
          have hlen := ((RepC_iff _ _).1 hc).1
          have hul := ((RepC_iff _ _).1 hcl.2).1
          have husz : u.cells.size = k := by rw [hcl.1] at hul; simpa using hul.symm
          have hsz : us.size = cs.length := by simpa using hlen.symm
          have hnew := splice_rep (n := o) hc hcl.2 (by omega)
          rw [show us.toList.take o ++ u.cells.toList ++ us.toList.drop (o + u.cells.toList.length) = (over us o u.cells.toList).toList from rfl] at hnew
          obtain ⟨us', h1, h2⟩ := fillS_sim hp hpos hnew hr hi hf
          refine ⟨us', ?_, h2⟩
          simp only [Instr.fill, hp i _ ho]
          rw [if_neg]
          · rw [foldl_over' u o us (by omega)]; exact h1
          · simp only [Bool.or_eq_true, decide_eq_true_eq, not_or]
            exact ⟨by simpa using husz, by omega⟩
        · cases hf
end

section
variable {X : Env} {o : Oper} {a : Act} {w : World} {I : Nat → Prop} {σ : Sig} {S S1 : St}

theorem parts_rep {S : St} {a : Act} {o : Oper} (F : FRel w I σ S.f a) (hx : Opds o) (ps : List (Nat × Operand)) (hq : ∀ y ∈ ps, y.2 ∈ o.op.operands.toList) :
    RepL w I σ ((ps.map fun p => (p.1, S.ev p.2)).map (·.2)) ((ps.map fun p => (p.1, a.eval p.2)).map (·.2)) ∧ (ps.map fun p => (p.1, S.ev p.2)).map (·.1) = (ps.map fun p => (p.1, a.eval p.2)).map (·.1) := by
  refine ⟨?_, by simp⟩
  induction ps with
  | nil => simp [RepL]
  | cons p ps ih =>
    simp only [List.map_cons, RepL]
    exact ⟨_, _, rfl, ev_rep (S := S) F (hx p.2 (hq p (by simp))), ih (fun y hy => hq y (by simp [hy]))⟩

theorem zero_cells {P : Program} {t : TypeId} {x : TI} (T : TIOk P t x) {z : Value} (hz : zeroB x.zero z = true) : RepC w I σ x.zero.cells z.cells.toList := ((zero_rep T hz).cells T.zfit).2

theorem run_cellsOf {P : Program} {t : TypeId} (h : 0 < P.cellsOf t) (w : World) : (sizeOf t).run P w = .ok (P.cellsOf t) w := by
  unfold Program.cellsOf at h ⊢
  cases hi : P.info? t with
  | none => simp [hi] at h
  | some i => simp [sizeOf, typeInfo, hi]

theorem run_fplaces {P : Program} (w : World) : ∀ (fs : List Field), (∀ f ∈ fs, 0 < P.cellsOf f.type) →
    (fs.mapM fun f => Functor.map (Prod.mk f.offset) (sizeOf f.type)).run P w = .ok (fs.map fun f => (f.offset, P.cellsOf f.type)) w
  | [], _ => by simp
  | f :: fs, h => by
    simp [List.mapM_cons, run_cellsOf (h f (by simp)), run_fplaces w fs (fun x hx => h x (by simp [hx]))]

theorem sim_build {t : TypeId} {ps : Array (Nat × Operand)} {cs : List V} (ho : o.op = .build t ps) (T : TIOk X.P t (X.ti t)) (hTe : (X.ti t).arr = none ∨ TIOk X.P (X.ti t).elem (X.ti (X.ti t).elem)) (R : Rel w I σ S.h) (F : FRel w I σ S.f a) (hx : Opds o)
    (hf : ((X.ti t).arr = none ∧ fillS (X.ti t).flds (X.ti t).zero.cells (ps.toList.map fun p => (p.1, S.ev p.2)) = some cs ∧ (X.ti t).flds ≠ []) ∨
      ∃ m, (X.ti t).arr = some m ∧ fillS ((List.range m).map fun i => (i * (X.ti (X.ti t).elem).size, (X.ti (X.ti t).elem).size)) (X.ti t).zero.cells (ps.toList.map fun p => (p.1, S.ev p.2)) = some cs)
    (hs : S1 = S.set o.dst (.agg cs)) : Out X o a w I σ S S1 := by
  obtain ⟨z, hz, hb⟩ := run_zero T w
  have hzc := zero_cells (w := w) (I := I) (σ := σ) T hb
  have hpr := parts_rep F hx ps.toList (by intro y hy; simp only [ho, Op.operands]; exact List.mem_map_of_mem hy)
  obtain ⟨d, hd, hdb⟩ := T.und
  have hparts : (ps.map fun (p : Nat × Operand) => (p.1, a.eval p.2)).toList = ps.toList.map fun p => (p.1, a.eval p.2) := by simp
  rcases hf with ⟨hn, hf, hne⟩ | ⟨m, hm, hf⟩
  · cases d with
    | struct fs =>
      simp only [descB, Bool.and_eq_true, beq_iff_eq] at hdb
      obtain ⟨⟨⟨⟨_, hfl⟩, _⟩, _⟩, hpos⟩ := hdb
      have hpl : ∀ (i : Nat) x, (X.ti t).flds[i]? = some x → ((fs.map fun f => (f.offset, X.P.cellsOf f.type))[·]?) i = some x := by
        intro i x hi
        rw [hfl] at hi
        simpa using hi
      obtain ⟨us', h1, h2⟩ := fillS_sim hpl (fun x hx' => by
        rw [hfl] at hx'
        obtain ⟨f, hfm, rfl⟩ := List.mem_map.1 hx'
        simpa using List.all_eq_true.1 hpos f hfm) hzc hpr.1 hpr.2 hf
      refine Out.pure (u := .agg us') R ?_ (by simp only [Rep]; exact ⟨us', rfl, h2⟩) hs
      have hpm := run_fplaces (P := X.P) w fs.toList (fun f hf => of_decide_eq_true (List.all_eq_true.1 hpos f hf))
      simp only [Array.getElem?_map] at h1
      simp [execOp, ho, Instr.build, hz, run_underlying hd, Array.mapM_eq_mapM_toList, hpm, h1]
    | _ =>
      exfalso
      simp [descB] at hdb
      first
        | exact hne hdb.2
        | (rw [hn] at hdb; simp at hdb)
  · have hu := arr_spec T hm
    have Te := hTe.resolve_left (by rw [hm]; simp)
    obtain ⟨us', h1, h2⟩ := fillS_sim (place := fun i => some (i * (X.ti (X.ti t).elem).size, (X.ti (X.ti t).elem).size)) (fun i x hi => by
      rw [List.getElem?_map] at hi
      cases hr : (List.range m)[i]? with
      | none => simp [hr] at hi
      | some j =>
        have hj : j = i := by
          have := (List.getElem?_eq_some_iff.1 hr).2
          simpa using this.symm
        subst hj
        simpa [hr] using hi) (fun x hx' => by
      obtain ⟨i, _, rfl⟩ := List.mem_map.1 hx'
      exact Te.pos) hzc hpr.1 hpr.2 hf
    refine Out.pure (u := .agg us') R ?_ (by simp only [Rep]; exact ⟨us', rfl, h2⟩) hs
    simp [execOp, ho, Instr.build, hz, run_underlying hu, run_sizeOf Te, h1]

end
end Go.Abs
