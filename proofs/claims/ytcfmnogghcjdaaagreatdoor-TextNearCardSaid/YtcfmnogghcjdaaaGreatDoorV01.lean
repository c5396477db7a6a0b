/- Part of a proof: A6, A7, A8, A9, A10, A11. -/
import Derived.Test.YtcfmnogghcjdaaaGreatDoorV00
set_option linter.all false
set_option maxRecDepth 100000
set_option maxHeartbeats 20000000
namespace Go.Abs
open Go
def cellZ : V → Value → Bool
  | .int k n, .int k' n' => k == k' && n == n'
  | .bool b, .bool b' => b == b'
  | .str [], .string s => s.data.toList.isEmpty
  | .sl true [], .slice none 0 0 => true
  | .nilp, .pointer none => true
  | .ifc false, .nilIface => true
  | .bad, u => u.oneCell'
  | _, _ => false
def cellsZ : List V → List Value → Bool
  | [], [] => true
  | c :: cs, u :: us => cellZ c u && cellsZ cs us
  | _, _ => false
def zeroB : V → Value → Bool
  | .agg cs, .agg us => cellsZ cs us.toList
  | .agg _, _ => false
  | v, u => cellZ v u
def descB (P : Program) (x : TI) : TypeDesc → Bool
  | .struct fs => x.agg && x.flds == (fs.toList.map fun f => (f.offset, P.cellsOf f.type)) && x.arr == none && x.kind == none && fs.toList.all fun f => decide (0 < P.cellsOf f.type)
  | .array n e => x.agg && x.arr == some n && x.elem == e && x.kind == none && x.flds == []
  | .slice e => !x.agg && x.elem == e && x.arr == none && x.kind == none && x.flds == []
  | .int k => !x.agg && x.kind == some k && x.arr == none && x.flds == []
  | _ => !x.agg && x.kind == none && x.arr == none && x.flds == []
def tiB (P : Program) (t : TypeId) (x : TI) : Bool :=
  match P.info? t, P.underlying t with
  | some i, some d => i.size == x.size && i.bytes == x.bytes && decide (0 < x.size) && descB P x d && (match i.zero with
    | some z => zeroB x.zero z && x.zero.cells.length == x.size && x.zero.fits x.size
    | none => false)
  | _, _ => false
structure TIOk (P : Program) (t : TypeId) (x : TI) : Prop where
  info : ∃ i z, P.info? t = some i ∧ i.size = x.size ∧ i.bytes = x.bytes ∧ i.zero = some z ∧ zeroB x.zero z = true
  pos : 0 < x.size
  und : ∃ d, P.underlying t = some d ∧ descB P x d = true
  zlen : x.zero.cells.length = x.size
  zfit : x.zero.fits x.size = true
theorem tiOk {P : Program} {t : TypeId} {x : TI} (h : tiB P t x = true) : TIOk P t x := by
  unfold tiB at h
  split at h
  · rename_i i d hi hd
    cases hz : i.zero with
    | none => simp [hz] at h
    | some z =>
      simp only [hz, Bool.and_eq_true, beq_iff_eq, decide_eq_true_eq] at h
      obtain ⟨⟨⟨⟨h1, h2⟩, h3⟩, h4⟩, ⟨h5, h6⟩, h7⟩ := h
      exact ⟨⟨i, z, hi, h1, h2, hz, h5⟩, h3, ⟨d, hd, h4⟩, h6, h7⟩
  · cases h
section
variable {w : World} {I : Nat → Prop} {σ : Sig}
theorem cellZ_rep {c : V} {u : Value} (h : cellZ c u = true) : u.oneCell' = true ∧ Rep w I σ c u := by
  unfold cellZ at h
  split at h
  · simp only [Bool.and_eq_true, beq_iff_eq] at h; obtain ⟨rfl, rfl⟩ := h; exact ⟨rfl, by simp [Rep]⟩
  · simp only [beq_iff_eq] at h; subst h; exact ⟨rfl, by simp [Rep]⟩
  · rename_i s; exact ⟨rfl, by simp only [Rep]; exact ⟨s, rfl, List.isEmpty_iff.1 h⟩⟩
  · exact ⟨rfl, by simp only [Rep]; exact ⟨none, 0, rfl, Nat.le_refl _, Nat.zero_le _, fun _ => rfl, .inl (by simp)⟩⟩
  · exact ⟨rfl, by simp [Rep]⟩
  · exact ⟨rfl, by simp [Rep, ifcRep]⟩
  · exact ⟨h, by simp [Rep]⟩
  · cases h
theorem cellsZ_rep : ∀ {cs : List V} {us : List Value}, cellsZ cs us = true → RepC w I σ cs us
  | [], [], _ => by simp [RepC]
  | c :: cs, u :: us, h => by
    simp only [cellsZ, Bool.and_eq_true] at h
    have := cellZ_rep (w := w) (I := I) (σ := σ) h.1
    simp only [RepC]
    exact ⟨u, us, rfl, this.1, this.2, cellsZ_rep h.2⟩
  | [], _ :: _, h => by simp [cellsZ] at h
  | _ :: _, [], h => by simp [cellsZ] at h
theorem Rep.cells {v : V} {u : Value} {k : Nat} (hr : Rep w I σ v u) (hf : v.fits k = true) : v.cells.length = k ∧ RepC w I σ v.cells u.cells.toList := by
  cases v with
  | agg cs =>
    simp only [Rep] at hr
    obtain ⟨us, rfl, h⟩ := hr
    exact ⟨by simpa [V.fits, V.cells] using hf, h⟩
  | tup _ => simp [V.fits] at hf
  | bad => simp [V.fits] at hf
  | ifc b =>
    have hk : k = 1 := by simpa [V.fits] using hf
    refine ⟨by simp [V.cells, hk], ?_⟩
    simp only [V.cells, RepC]
    have hr' := hr
    cases b with
    | true => simp only [Rep, ifcRep] at hr'; obtain ⟨x, y, rfl⟩ := hr'; exact ⟨_, _, rfl, rfl, hr, rfl⟩
    | false => simp only [Rep, ifcRep] at hr'; subst hr'; exact ⟨_, _, rfl, rfl, hr, rfl⟩
  | _ =>
    have hk : k = 1 := by simpa [V.fits] using hf
    refine ⟨by simp [V.cells, hk], ?_⟩
    simp only [V.cells, RepC]
    have hr' := hr
    simp only [Rep] at hr'
    first
      | (subst hr'; exact ⟨_, _, rfl, rfl, hr, rfl⟩)
      | (obtain ⟨x, rfl, _⟩ := hr'; exact ⟨_, _, rfl, rfl, hr, rfl⟩)
      | (obtain ⟨x, y, rfl, _⟩ := hr'; exact ⟨_, _, rfl, rfl, hr, rfl⟩)
      | (obtain ⟨x, y, z, _, rfl⟩ := hr'; exact ⟨_, _, rfl, rfl, hr, rfl⟩)
theorem zero_rep {P : Program} {t : TypeId} {x : TI} (T : TIOk P t x) {z : Value} (hz : zeroB x.zero z = true) : Rep w I σ x.zero z := by
  have := T.zfit
  unfold zeroB at hz
  split at hz
  · rename_i cs us h1
    rw [h1]
    simp only [Rep]
    exact ⟨us, rfl, cellsZ_rep hz⟩
  · cases hz
  · exact (cellZ_rep hz).2
end
def FRel (w : World) (I : Nat → Prop) (σ : Sig) (f : Nat → V) (a : Act) : Prop := ∀ t, Rep w I σ (f t) (a.tmps.getD t undef)
theorem FRel.ext {w w' : World} {I I' : Nat → Prop} {σ σ' : Sig} {f : Nat → V} {a : Act} (F : FRel w I σ f a) (E : Ext w I σ w' I' σ') : FRel w' I' σ' f a :=
  fun t => (F t).ext E
theorem FRel.put {w : World} {I : Nat → Prop} {σ : Sig} {f : Nat → V} {a : Act} (F : FRel w I σ f a) {v : V} {u : Value} (hr : Rep w I σ v u) (d : Nat) (hd : d < a.tmps.size) :
    FRel w I σ (upd f d v) (a.put (some d) u) := by
  intro t
  unfold upd
  simp only [Act.put]
  by_cases e : t = d
  · subst e
    simp only [if_true]
    have : (a.tmps.setIfInBounds t u).getD t undef = u := by simp [Array.getD, hd]
    rw [this]; exact hr
  · simp only [e, if_false]
    have : (a.tmps.setIfInBounds d u).getD t undef = a.tmps.getD t undef := by
      simp only [Array.getD, Array.size_setIfInBounds]
      split
      · rename_i ht
        show (a.tmps.setIfInBounds d u)[t]'_ = a.tmps[t]
        rw [Array.getElem_setIfInBounds_ne]
        exact Ne.symm e
      · rfl
    rw [this]; exact F t
def constB : Value → Bool
  | .agg cs => cs.toList.all Value.oneCell'
  | _ => true
def opdB : Operand → Bool
  | .const v => constB v
  | _ => true
theorem ofSc_rep {w : World} {I : Nat → Prop} {σ : Sig} (u : Value) : Rep w I σ (ofSc u) u := by
  unfold ofSc
  split
  · simp [Rep]
  · simp [Rep]
  · simp only [Rep]; exact ⟨_, rfl, rfl⟩
  · simp [Rep]
  · simp [Rep, ifcRep]
  · simp only [Rep]; exact ⟨none, 0, rfl, Nat.le_refl _, Nat.zero_le _, fun _ => rfl, .inl (by simp)⟩
  · simp [Rep]
theorem ofVal_rep {w : World} {I : Nat → Prop} {σ : Sig} {u : Value} (h : constB u = true) : Rep w I σ (ofVal u) u := by
  unfold ofVal
  split
  · rename_i cs
    simp only [Rep]
    refine ⟨cs, rfl, ?_⟩
    rw [RepC_iff]
    refine ⟨by simp, fun j c x hc hx => ?_⟩
    rw [List.getElem?_map, hx] at hc
    simp at hc
    subst hc
    exact ⟨List.all_eq_true.1 h x (List.mem_of_getElem? hx), ofSc_rep x⟩
  · exact ofSc_rep u
theorem ev_rep {w : World} {I : Nat → Prop} {σ : Sig} {S : St} {a : Act} (F : FRel w I σ S.f a) {x : Operand} (hx : opdB x = true) : Rep w I σ (S.ev x) (a.eval x) := by
  cases x with
  | tmp t => exact F t
  | const v => exact ofVal_rep hx
  | global g => simp [St.ev, Rep]
  | func g =>
    simp only [St.ev, Act.eval, Rep]
    exact ⟨#[], #[], rfl, by simp [RepL], by simp [RepL]⟩
theorem run_isAgg {P : Program} {t : TypeId} {x : TI} (T : TIOk P t x) (w : World) : (isAgg t).run P w = .ok x.agg w := by
  obtain ⟨d, hd, hb⟩ := T.und
  unfold isAgg
  rw [Sem.run_bind, run_underlying hd]
  cases d <;> simp_all [descB]
theorem run_sizeOf {P : Program} {t : TypeId} {x : TI} (T : TIOk P t x) (w : World) : (sizeOf t).run P w = .ok x.size w := by
  obtain ⟨i, z, hi, hs, _⟩ := T.info
  simp [sizeOf, typeInfo, hi, hs]
theorem add_at (b o j : Nat) : (⟨b, o, none⟩ : Addr).add j = ⟨b, o + j, none⟩ := by
  unfold Addr.add; split
  · subst_vars; rfl
  · rfl
theorem CAt.vals {w : World} {I : Nat → Prop} {σ : Sig} {cs : List V} {b o : Nat} (h : CAt w I σ cs b o) :
    ∃ us : List Value, us.length = cs.length ∧ (∀ j u, us[j]? = some u → w.cell? ⟨b, o + j, none⟩ = some u) ∧ RepC w I σ cs us := by
  induction cs generalizing o with
  | nil => exact ⟨[], rfl, by simp, by simp [RepC]⟩
  | cons c cs ih =>
    obtain ⟨u, h1, h2, h3⟩ := h 0 c (by simp)
    obtain ⟨us, hl, hu, hr⟩ := ih (o := o + 1) (fun j x hj => by
      have := h (j + 1) x (by simpa using hj)
      rwa [show o + (j + 1) = o + 1 + j by omega] at this)
    refine ⟨u :: us, by simp [hl], fun j x hj => ?_, by simp only [RepC]; exact ⟨u, us, rfl, h2, h3, hr⟩⟩
    cases j with
    | zero => simp at hj; subst hj; simpa using h1
    | succ j =>
      have := hu j x (by simpa using hj)
      rwa [show o + 1 + j = o + (j + 1) by omega] at this
theorem CAt.seg {w : World} {I : Nat → Prop} {σ : Sig} {cs : List V} {b o : Nat} (h : CAt w I σ cs b o) (f n : Nat) : CAt w I σ ((cs.drop f).take n) b (o + f) := by
  intro j c hj
  rw [List.getElem?_take] at hj
  split at hj
  · rw [List.getElem?_drop] at hj
    have := h (f + j) c hj
    rwa [show o + (f + j) = o + f + j by omega] at this
  · cases hj
theorem load_sim {P : Program} {t : TypeId} {x : TI} (T : TIOk P t x) {w : World} {I : Nat → Prop} {σ : Sig} {cs : List V} {b o f : Nat} (h : CAt w I σ cs b o) {v : V} (hv : part x cs f = some v) :
    ∃ u, (loadVar t ⟨b, o + f, none⟩).run P w = .ok u w ∧ Rep w I σ v u := by
  unfold part at hv
  by_cases ha : x.agg = true
  · rw [if_pos ha] at hv
    split at hv
    · rename_i hle
      simp at hv
      subst hv
      obtain ⟨us, hl, hu, hr⟩ := (h.seg f x.size).vals
      have hlen : us.length = x.size := by rw [hl]; simp; omega
      refine ⟨.agg us.toArray, ?_, by simp only [Rep]; exact ⟨us.toArray, rfl, by simpa using hr⟩⟩
      have hld := run_loadCells_list (P := P) w ⟨b, o + f, none⟩ us (fun j u hj => by rw [add_at]; exact hu j u hj)
      rw [hlen] at hld
      simp [loadVar, run_isAgg T, ha, run_sizeOf T, hld]
    · cases hv
  · rw [if_neg ha] at hv
    obtain ⟨u, h1, h2, h3⟩ := h f v hv
    refine ⟨u, ?_, h3⟩
    have ha' : x.agg = false := by simpa using ha
    simp [loadVar, run_isAgg T, ha', h1]
theorem RepC.get {w : World} {I : Nat → Prop} {σ : Sig} {cs : List V} {us : List Value} (h : RepC w I σ cs us) {j : Nat} {c : V} (hc : cs[j]? = some c) :
    ∃ u, us[j]? = some u ∧ u.oneCell' = true ∧ Rep w I σ c u := by
  rw [RepC_iff] at h
  have hj : j < cs.length := (List.getElem?_eq_some_iff.1 hc).1
  have hu : us[j]? = some (us[j]'(by omega)) := by simp
  exact ⟨_, hu, h.2 j c _ hc hu⟩
theorem RepC.ones {w : World} {I : Nat → Prop} {σ : Sig} {cs : List V} {us : List Value} (h : RepC w I σ cs us) : ∀ u ∈ us, u.oneCell' = true := by
  intro u hu
  rw [RepC_iff] at h
  obtain ⟨j, hj, rfl⟩ := List.mem_iff_getElem.1 hu
  have hc : cs[j]? = some (cs[j]'(by omega)) := by simp
  exact (h.2 j _ us[j] hc (by simp)).1
theorem splice_length : ∀ (n : Nat) (cs xs : List V), (splice n cs xs).length = xs.length
  | 0, [], xs => by cases xs <;> simp [splice]
  | 0, c :: cs, x :: xs => by simp [splice, splice_length 0 cs xs]
  | 0, _ :: _, [] => by simp [splice]
  | n + 1, cs, x :: xs => by simp [splice, splice_length n cs xs]
  | n + 1, cs, [] => by simp [splice]
theorem splice_get : ∀ (n : Nat) (cs xs : List V) (j : Nat), n + cs.length ≤ xs.length → (splice n cs xs)[j]? = if n ≤ j ∧ j < n + cs.length then cs[j - n]? else xs[j]?
  | 0, [], xs, j, _ => by
    have : ¬ (0 ≤ j ∧ j < 0 + 0) := by omega
    cases xs <;> simp [splice]
  | 0, c :: cs, x :: xs, j, h => by
    simp only [splice]
    cases j with
    | zero => simp
    | succ j =>
      have := splice_get 0 cs xs j (by simp at h ⊢; omega)
      simp only [List.getElem?_cons_succ, this, List.length_cons]
      by_cases hj : j < cs.length
      · simp [hj]
      · simp [hj]
  | 0, _ :: _, [], j, h => by simp at h
  | n + 1, cs, x :: xs, j, h => by
    simp only [splice]
    cases j with
    | zero => simp
    | succ j =>
      have := splice_get n cs xs j (by simp at h ⊢; omega)
      simp only [List.getElem?_cons_succ, this]
      by_cases hj : n ≤ j ∧ j < n + cs.length
      · rw [if_pos hj, if_pos (by omega)]; congr 1; omega
      · rw [if_neg hj, if_neg (by omega)]
  | n + 1, cs, [], j, h => by simp at h
theorem put_cells {e v : V} {f k : Nat} (hk : 0 < k) (hf : v.fits k = true) (hle : f + k ≤ e.cells.length) : (e.put f v).cells = splice f v.cells e.cells := by
  cases e with
  | agg xs => simp [V.put, V.cells]
  | _ =>
    simp only [V.cells, List.length_cons, List.length_nil] at hle ⊢
    have h0 : f = 0 := by omega
    subst h0
    cases v with
    | agg cs =>
      simp [V.fits] at hf
      rcases cs with _ | ⟨c, cs⟩
      · simp at hf; omega
      · simp at hf
        have : cs = [] := by apply List.eq_nil_of_length_eq_zero; omega
        subst this
        simp [V.put, V.cells, splice]
    | tup _ => simp [V.fits] at hf
    | bad => simp [V.fits] at hf
    | _ => simp [V.put, V.cells, splice]
end Go.Abs
namespace Go.Abs
open Go
theorem Ext.setRow {w : World} {I : Nat → Prop} {σ : Sig} {b : Nat} {c c' : Array Value} {el : TypeId} (hI : ¬ I b) (hb : RowAt w b c el) (hsz : c'.size = c.size) :
    Ext w I σ (w.setRow b c') I σ := by
  refine ⟨fun b' hb' => setRow_other w b b' c' (fun e => hI (e ▸ hb')), fun b' c1 el1 fz hc => ?_, fun _ h => h, fun _ _ h => h⟩
  by_cases e : b' = b
  · subst e
    obtain ⟨fz0, hb0, _⟩ := hb
    rw [hb0] at hc
    simp at hc
    obtain ⟨rfl, rfl, rfl⟩ := hc
    exact ⟨c', _, setRow_heap w b' c c' el _ hb0, hsz⟩
  · exact ⟨c1, fz, by rw [setRow_other w b b' c' e]; exact hc, rfl⟩
def over (c : Array Value) (p : Nat) (us : List Value) : Array Value := (c.toList.take p ++ us ++ c.toList.drop (p + us.length)).toArray
theorem over_size {c : Array Value} {p : Nat} {us : List Value} (h : p + us.length ≤ c.size) : (over c p us).size = c.size := by
  simp [over]; omega
theorem over_get {c : Array Value} {p : Nat} {us : List Value} (h : p + us.length ≤ c.size) (j : Nat) : (over c p us)[j]? = if p ≤ j ∧ j < p + us.length then us[j - p]? else c[j]? := by
  simp only [over, List.getElem?_toArray]
  by_cases h1 : j < p
  · rw [if_neg (by omega), List.append_assoc, List.getElem?_append_left (by simp; omega), List.getElem?_take, if_pos h1]; simp
  · by_cases h2 : j < p + us.length
    · rw [if_pos (by omega), List.getElem?_append_left (by simp; omega), List.getElem?_append_right (by simp; omega)]
      congr 1; simp; omega
    · rw [if_neg (by omega), List.getElem?_append_right (by simp; omega), List.getElem?_drop]
      simp only [List.length_append, List.length_take, Array.length_toList]
      rw [show p + us.length + (j - (min p c.size + us.length)) = j by omega]; simp
theorem store_row {P : Program} {w : World} {b j : Nat} {c : Array Value} {el : TypeId} {v : Value} (h : RowAt w b c el) (hj : j < c.size) (h1 : v.oneCell' = true) :
    (store ⟨b, j, none⟩ v).run P w = .ok () (w.setRow b (c.setIfInBounds j v)) := by
  have hf := h.free hj
  obtain ⟨fz, hb⟩ := h.at
  have e : w.cell? ⟨b, j, none⟩ = some c[j] := by simp [World.cell?, hb, hj]
  rw [run_store P w _ v _ h1, e]
  simp [hf, setCell_eq_setRow w b j c el fz v hb]
theorem over_next {c : Array Value} {p : Nat} {v : Value} {us : List Value} (h : p + (us.length + 1) ≤ c.size) : over (c.setIfInBounds p v) (p + 1) us = over c p (v :: us) := by
  apply Array.ext_getElem?
  intro j
  rw [over_get (by simp; omega), over_get (by simpa using h)]
  by_cases h0 : j = p
  · subst h0
    rw [if_neg (by omega), if_pos (by simp), Nat.sub_self, List.getElem?_cons_zero, Array.getElem?_setIfInBounds_self_of_lt (by omega)]
  · by_cases h2 : p + 1 ≤ j ∧ j < p + 1 + us.length
    · rw [if_pos h2, if_pos (by simp; omega), show j - p = (j - (p + 1)) + 1 by omega, List.getElem?_cons_succ]
    · rw [if_neg h2, if_neg (by simp; omega), Array.getElem?_setIfInBounds_ne (by omega)]
theorem store_rows {P : Program} {b p : Nat} {el : TypeId} : ∀ (vs : List Value) (i : Nat) (c : Array Value) (w : World), RowAt w b c el → p + i + vs.length ≤ c.size → (∀ v ∈ vs, v.oneCell' = true) →
    (storeCells ⟨b, p, none⟩ vs i).run P w = .ok () (w.setRow b (over c (p + i) vs))
  | [], i, c, w, h, _, _ => by
    obtain ⟨fz, hb⟩ := h.at
    have e : over c (p + i) [] = c := by simp [over]
    rw [e, setRow_self w b c el fz hb]
    rfl
  | v :: vs, i, c, w, h, hl, h1 => by
    simp only [List.length_cons] at hl
    have ha : (⟨b, p, none⟩ : Addr).add i = ⟨b, p + i, none⟩ := by simp [Addr.add]
    have hs := store_row (P := P) (v := v) h (show p + i < c.size by omega) (h1 v (by simp))
    have ih := store_rows (P := P) (b := b) (p := p) vs (i + 1) (c.setIfInBounds (p + i) v) (w.setRow b (c.setIfInBounds (p + i) v)) (h.set (by simp)) (by simp; omega) fun x hx => h1 x (by simp [hx])
    rw [← Nat.add_assoc, over_next (by omega), setRow_setRow] at ih
    simp only [storeCells, Sem.run_bind, ha, hs, Result.andThen_ok, ih]
theorem RowAt.cell {w : World} {b : Nat} {c : Array Value} {el : TypeId} (h : RowAt w b c el) {j : Nat} : w.cell? ⟨b, j, none⟩ = c[j]? := by
  obtain ⟨fz, hb⟩ := h.at
  simp [World.cell?, hb]
theorem storeVar_run {P : Program} {t : TypeId} {x : TI} (T : TIOk P t x) {w : World} {b p : Nat} {c : Array Value} {el : TypeId} (hb : RowAt w b c el)
    {u : Value} (hu : u.cells.size = x.size) (h1 : ∀ y ∈ u.cells.toList, y.oneCell' = true) (hle : p + x.size ≤ c.size) :
    (storeVar t ⟨b, p, none⟩ u).run P w = .ok () (w.setRow b (over c p u.cells.toList)) := by
  have hst := store_rows (P := P) (b := b) (p := p) u.cells.toList 0 c w hb (by simp; omega) h1
  simp only [Nat.add_zero] at hst
  simp [storeVar, run_sizeOf T, hu, hst]
theorem RepRow.get {w : World} {I : Nat → Prop} {σ : Sig} {es : List V} {k b o i : Nat} {e : V} (h : RepRow w I σ es k b o) (hi : es[i]? = some e) : e.cells.length = k ∧ CAt w I σ e.cells b (o + i * k) :=
  (RepRow_iff es k b o).1 h i e hi
theorem Rel.at {w : World} {I : Nat → Prop} {σ : Sig} {h : Heap} (R : Rel w I σ h) {id i : Nat} {ob : Ob} {e : V} (ho : h id = some ob) (hi : ob.es[i]? = some e) :
    ∃ b o c el, σ id = some (b, o, ob.k) ∧ ¬ I b ∧ RowAt w b c el ∧ o + ob.es.length * ob.k ≤ c.size ∧ RepRow w I (osig ob.keep σ) ob.es ob.k b o := by
  rcases R.obj id ob ho with ⟨he, _⟩ | h
  · rw [he] at hi; cases hi
  · exact h
theorem mul_lt_seg {i j k p q : Nat} (hp : p < k) (hq : q < k) (h : i * k + p = j * k + q) : i = j := by
  rcases Nat.lt_trichotomy i j with hlt | he | hlt
  · have : (i + 1) * k ≤ j * k := Nat.mul_le_mul_right k hlt
    rw [Nat.add_mul] at this; omega
  · exact he
  · have : (j + 1) * k ≤ i * k := Nat.mul_le_mul_right k hlt
    rw [Nat.add_mul] at this; omega
theorem store_sim {P : Program} {t : TypeId} {x : TI} (T : TIOk P t x) {w : World} {I : Nat → Prop} {σ : Sig} {h : Heap} (R : Rel w I σ h) {id i f : Nat} {ob : Ob} {e v : V} {u : Value}
    (ho : h id = some ob) (hi : ob.es[i]? = some e) (hr : Rep w I (osig ob.keep σ) v u) (hf : v.fits x.size = true) (hle : f + x.size ≤ e.cells.length) (n : Nat)
    {b o k : Nat} (hs : σ id = some (b, o, k)) :
    ∃ w', (storeVar t ⟨b, o + i * k + f, none⟩ u).run P w = .ok () w' ∧ Step w I σ h n w' I σ (upd h id (some { ob with es := ob.es.set i (e.put f v) })) n := by
  obtain ⟨b', o', c, el, hs', hI, hb, hsz, hrow⟩ := R.at ho hi
  obtain ⟨fz, hb0⟩ := hb.at
  rw [hs] at hs'
  simp only [Option.some.injEq, Prod.mk.injEq] at hs'
  obtain ⟨rfl, rfl, rfl⟩ := hs'
  have hel := hrow.get hi
  have hcl := hr.cells hf
  have hil : i < ob.es.length := (List.getElem?_eq_some_iff.1 hi).1
  have hik : (i + 1) * ob.k ≤ ob.es.length * ob.k := Nat.mul_le_mul_right _ hil
  rw [Nat.add_mul] at hik
  have hul : u.cells.size = x.size := by
    have := (RepC_iff _ _).1 hcl.2
    simp at this; omega
  have hfit : o + i * ob.k + f + x.size ≤ c.size := by omega
  have hrun := storeVar_run T (p := o + i * ob.k + f) hb hul hcl.2.ones hfit
  have hov : o + i * ob.k + f + u.cells.toList.length ≤ c.size := by simp; omega
  refine ⟨_, hrun, R.write ho hs hb (over_size hov) (by simpa using hsz) ?_ n⟩
  have E : Ext w I (osig ob.keep σ) (w.setRow b (over c (o + i * ob.k + f) u.cells.toList)) I (osig ob.keep σ) := Ext.setRow hI hb (over_size hov)
  rw [RepRow_iff]
  intro j e' hj
  rw [List.getElem?_set] at hj
  by_cases hij : i = j
  · subst hij
    simp [hil] at hj
    subst hj
    have hpc := put_cells T.pos hf (e := e) (f := f) hle
    refine ⟨by rw [hpc, splice_length]; exact hel.1, ?_⟩
    intro q y hq
    rw [hpc, splice_get _ _ _ _ (by rw [hcl.1]; omega)] at hq
    rw [cell_setRow_same w b _ c _ el fz hb0, over_get hov]
    split at hq
    · rename_i hin
      obtain ⟨u', h1, h2, h3⟩ := hcl.2.get hq
      refine ⟨u', ?_, h2, h3.ext E⟩
      rw [if_pos (by simp; rw [hcl.1] at hin; omega)]
      rw [show o + i * ob.k + q - (o + i * ob.k + f) = q - f by omega]
      exact h1
    · rename_i hin
      obtain ⟨u', h1, h2, h3⟩ := hel.2 q y hq
      refine ⟨u', ?_, h2, h3.ext E⟩
      rw [if_neg (by simp; rw [hcl.1] at hin; omega)]
      rw [cell_of_row w b _ c el fz hb0] at h1
      exact h1
  · rw [if_neg hij] at hj
    have hej := hrow.get hj
    refine ⟨hej.1, ?_⟩
    intro q y hq
    have hqk : q < ob.k := by rw [← hej.1]; exact (List.getElem?_eq_some_iff.1 hq).1
    obtain ⟨u', h1, h2, h3⟩ := hej.2 q y hq
    refine ⟨u', ?_, h2, h3.ext E⟩
    rw [cell_setRow_same w b _ c _ el fz hb0, over_get hov, if_neg ?_]
    · rw [cell_of_row w b _ c el fz hb0] at h1
      exact h1
    · simp only [Array.length_toList]
      intro ⟨ha, hb'⟩
      have hlt : o + j * ob.k + q < o + i * ob.k + ob.k := by omega
      have hge : o + i * ob.k ≤ o + j * ob.k + q := by omega
      apply hij
      exact mul_lt_seg (k := ob.k) (p := j * ob.k + q - i * ob.k) (q := q) (by omega) hqk (by omega)
theorem aold (w : World) (o : Obj) (b : Nat) (h : b < w.heap.size) : (w.alloc o).heap[b]? = w.heap[b]? := by
  show (w.heap.push o)[b]? = w.heap[b]?
  rw [Array.getElem?_push, if_neg (Nat.ne_of_lt h)]
theorem anew (w : World) (o : Obj) : (w.alloc o).heap[w.heap.size]? = some o := by
  show (w.heap.push o)[w.heap.size]? = some o
  simp
theorem Ext.alloc {w : World} {I : Nat → Prop} {σ : Sig} (hI : ∀ b, I b → b < w.heap.size) (ob : Obj) : Ext w I σ (w.alloc ob) I σ :=
  ⟨fun b hb => aold w ob b (hI b hb), fun b c el fz h => ⟨c, fz, by rw [aold w ob b (by have := (Array.getElem?_eq_some_iff.1 h).1; exact this)]; exact h, rfl⟩, fun _ h => h, fun _ _ h => h⟩
theorem alloc_size (w : World) (ob : Obj) : (w.alloc ob).heap.size = w.heap.size + 1 := by
  show (w.heap.push ob).size = _
  simp
theorem Rel.alloc {w : World} {I : Nat → Prop} {σ : Sig} {h : Heap} (R : Rel w I σ h) (ob : Obj) : Rel (w.alloc ob) I σ h := by
  refine R.keep (Ext.alloc R.imm ob) (fun b hb => by rw [alloc_size]; have := R.imm b hb; omega) (fun b hb => ?_) (fun _ _ => rfl)
  obtain ⟨hi, c, el, hh⟩ := R.owned hb
  exact ⟨aold w ob b hh.lt, hi⟩
theorem new_sim {w : World} {I : Nat → Prop} {σ : Sig} {h : Heap} (R : Rel w I σ h) {n k : Nat} {es : List V} {keep : Bool} {el : TypeId} (c : Array Value)
    (hn : h n = none) (hs : σ n = none) (hle : es.length * k ≤ c.size)
    (hr : RepRow (w.alloc (.cells c el)) I (osig keep (upd σ n (some (w.heap.size, 0, k)))) es k w.heap.size 0) :
    Step w I σ h n (w.alloc (.cells c el)) I (upd σ n (some (w.heap.size, 0, k))) (upd h n (some ⟨k, es, keep⟩)) (n + 1) := by
  have hnew := anew w (.cells c el)
  have hnI : ¬ I w.heap.size := fun hi => by have := R.imm _ hi; omega
  have hnO : ¬ Owns σ h w.heap.size := fun ho => by
    obtain ⟨_, c', el', hh⟩ := R.owned ho
    have := hh.lt
    omega
  have R1 := (R.alloc (.cells c el)).adopt (n := n) (b := w.heap.size) (o := 0) (k := k) (es := es) (keep := keep) hn hs (RowAt.zero hnew) hnI hnO (by omega) hr
  refine ⟨(Ext.alloc R.imm _).trans (Ext.sig' hs), R1, rfl, rfl, rfl, by rw [alloc_size]; omega, fun b hb _ => aold w _ b hb, fun b hb => ?_, fun _ hb => .inl hb, by omega, fun id hid => by simp [upd]; omega, fun id hid hnn => by simp [upd, hnn]; omega⟩
  obtain ⟨id, ob, o, k', h1, h2⟩ := hb
  by_cases e : id = n
  · subst e
    simp [upd] at h2
    left; omega
  · right
    exact ⟨id, ob, o, k', by simpa [upd, e] using h1, by simpa [upd, e] using h2⟩
theorem box_row {w : World} {I : Nat → Prop} {σ : Sig} {h : Heap} (R : Rel w I σ h) {n k : Nat} {v : V} {u : Value} {el : TypeId} (hs : σ n = none) (hr : Rep w I σ v u) (hf : v.fits k = true) :
    RepRow (w.alloc (.cells u.cells el)) I (upd σ n (some (w.heap.size, 0, k))) [v] k w.heap.size 0 := by
  have hc := hr.cells hf
  rw [RepRow_cons]
  refine ⟨hc.1, fun j c hj => ?_, by simp [RepRow]⟩
  obtain ⟨u', h1, h2, h3⟩ := hc.2.get hj
  refine ⟨u', ?_, h2, h3.ext ((Ext.alloc R.imm _).trans (Ext.sig' hs))⟩
  rw [cell_of_row _ _ _ _ _ _ (anew w (.cells u.cells el))]
  simpa using h1
end Go.Abs
namespace Go.Abs
open Go
def sliceB (P : Program) (t : TypeId) (x : TI) : Bool :=
  match P.underlying t with
  | some (.slice e) => e == x.elem
  | _ => false
def scalB (P : Program) (t : TypeId) : Bool :=
  match P.underlying t with
  | some .bool | some (.int _) | some .string => true
  | _ => false
def kdB (P : Program) (t : TypeId) (kd : Nat) : Bool :=
  match P.underlying t, kd with
  | some (.int _), 0 => true
  | some .bool, 1 => true
  | some .string, 2 => true
  | _, _ => false
def fldsB (P : Program) : Nat → List Field → List Nat → Bool
  | _, [], [] => true
  | j, f :: fs, k :: ks => f.name != "_" && f.offset == j && kdB P f.type k && fldsB P (j + 1) fs ks
  | _, _, _ => false
def eqB (P : Program) (t : TypeId) (ag : Bool) (shp : List Nat) : Bool :=
  match P.underlying t with
  | some (.struct fs) => ag && (shp == [] || (!(P.stoodInHeld t) && !(P.eqGuardType P.depth t) && fldsB P 0 fs.toList shp))
  | some .bool => !ag && shp == [1]
  | some (.pointer _) => !ag && shp == [3]
  | some (.array _ _) => ag && shp == [9]
  | some (.interface _) => !ag && (shp == [] || shp == [4])
  | _ => !ag && (shp == [] || shp == [0] || shp == [2])
def tB (X : Env) (t : TypeId) : Bool := tiB X.P t (X.ti t)
def opB (X : Env) (nt : Nat) (o : Oper) : Bool :=
  (match o.dst with | some d => decide (d < nt) | none => true) && o.op.operands.toList.all opdB &&
  (match o.op with
  | .alloc t | .box t _ | .load t _ | .fieldAddr t _ _ => tB X t
  | .store t _ _ => tB X t && o.dst == none
  | .build t _ => tB X t && ((X.ti t).arr == none || tB X (X.ti t).elem)
  | .buildSlice t n _ => sliceB X.P t (X.ti t) && tB X (X.ti t).elem && decide (n * (X.ti (X.ti t).elem).size ≤ 2 ^ 24)
  | .makeSlice t _ _ => sliceB X.P t (X.ti t) && tB X (X.ti t).elem
  | .indexAddr t _ _ => (((X.ti t).arr == none && sliceB X.P t (X.ti t)) || (tB X t && (X.ti t).arr != none)) && tB X (X.ti t).elem
  | .index t _ _ => tB X t && ((X.ti t).arr == none || tB X (X.ti t).elem) && ((X.ti t).arr != none || (match X.P.underlying t with | some .string => true | _ => false))
  | .field t _ f => tB X o.type && (match X.P.underlying t with | some (.struct fs) => (match fs[f]?, (X.ti t).flds[f]? with | some fd, some (k, _) => fd.type == o.type && fd.offset == k | _, _ => false) | _ => false)
  | .convert s d _ => tB X d && (X.P.underlying s).isSome && (!(X.ti d).isStr || ((match X.P.underlying d with | some .string => true | _ => false) && (match X.P.underlying s with | some (.slice e) => (match X.P.underlying e with | some (.int .u8) => true | _ => false) | _ => false))) && ((X.ti d).isStr || !((X.ti (X.ti d).elem).kind == some .u8) || (X.ti d).kind.isSome || (sliceB X.P d (X.ti d) && tB X (X.ti d).elem))
  | .binOp .eql t _ y _ | .binOp .neq t _ y _ => eqB X.P t (X.ti t).agg (X.ti t).shp && ((X.ti t).shp != [4] || (match y with | .const _ => true | _ => false))
  | .slice t _ _ _ _ => match X.P.underlying t with | some (.slice e) => !(X.ti t).isStr && e == (X.ti t).elem && tB X e && (X.ti t).arr == none | some .string => (X.ti t).isStr && (X.ti t).arr == none | some (.array n e) => !(X.ti t).isStr && (X.ti t).arr == some n && e == (X.ti t).elem && tB X e && decide (n ≤ 1000) | _ => false
  | .call ⟨.builtin .append, args, tys⟩ => args.size == 2 && (match tys.toList with
      | t :: u :: _ => sliceB X.P t (X.ti t) && tB X (X.ti t).elem && (match X.P.underlying u with
        | some (.slice _) => true
        | some .string => true
        | _ => (X.ti u).kind.isSome)
      | _ => false)
  | .call ⟨.builtin .copy, args, tys⟩ => args.size == 2 && (match tys.toList with
      | t :: u :: _ => sliceB X.P t (X.ti t) && tB X (X.ti t).elem && (match X.P.underlying u with
        | some (.slice _) => true
        | some .string => true
        | _ => false)
      | _ => false)
  | .call ⟨.builtin .len, args, tys⟩ => args.size == 1 && (match tys.toList with
      | t :: _ => (match X.P.underlying t with | some (.slice _) => !(X.ti t).isStr | some .string => (X.ti t).isStr | _ => false)
      | _ => false)
  | _ => true)
def Out (X : Env) (o : Oper) (a : Act) (w : World) (I : Nat → Prop) (σ : Sig) (S S1 : St) : Prop :=
  ∃ nx w' I' σ' u v, (execOp a.eval o).run X.P w = .ok nx w' ∧ (nx = .value u ∨ (nx = .skip ∧ u = undef)) ∧
    Step w I σ S.h S.n w' I' σ' S1.h S1.n ∧ S1.f = (S.set o.dst v).f ∧ Rep w' I' σ' v u
section
variable {X : Env} {o : Oper} {a : Act} {w : World} {I : Nat → Prop} {σ : Sig} {S S1 : St}
theorem set_h (S : St) (d : Option Nat) (v : V) : (S.set d v).h = S.h := by cases d <;> rfl
theorem set_n (S : St) (d : Option Nat) (v : V) : (S.set d v).n = S.n := by cases d <;> rfl
theorem set_f (S S' : St) (d : Option Nat) (v : V) (h : S'.f = S.f) : (S'.set d v).f = (S.set d v).f := by cases d <;> simp [St.set, h]
theorem Out.pure {u : Value} {v : V} (R : Rel w I σ S.h) (h : (execOp a.eval o).run X.P w = .ok (.value u) w) (hr : Rep w I σ v u) (hs : S1 = S.set o.dst v) : Out X o a w I σ S S1 := by
  subst hs
  refine ⟨_, w, I, σ, u, v, h, .inl rfl, ?_, rfl, hr⟩
  rw [set_h, set_n]
  exact Step.refl R _
def Opds (o : Oper) : Prop := ∀ x ∈ o.op.operands.toList, opdB x = true
theorem rep_int {k : IntKind} {n : Int} {u : Value} (h : Rep w I σ (.int k n) u) : u = .int k n := by simpa [Rep] using h
theorem rep_bool {b : Bool} {u : Value} (h : Rep w I σ (.bool b) u) : u = .bool b := by simpa [Rep] using h
theorem sim_pick {c x y : Operand} (ho : o.op = .pick c x y) (R : Rel w I σ S.h) (F : FRel w I σ S.f a) (hx : Opds o) {t : Bool} (hc : S.ev c = .bool t)
    (hs : S1 = S.set o.dst (if t then S.ev x else S.ev y)) : Out X o a w I σ S S1 := by
  have h1 := ev_rep (S := S) F (hx c (by simp [ho, Op.operands]))
  have h2 := ev_rep (S := S) F (hx x (by simp [ho, Op.operands]))
  have h3 := ev_rep (S := S) F (hx y (by simp [ho, Op.operands]))
  rw [hc] at h1
  have hb := rep_bool h1
  refine Out.pure (u := if t then a.eval x else a.eval y) R ?_ ?_ hs
  · simp [execOp, ho, hb, asBool]
  · cases t <;> simp [h2, h3]
theorem sim_move {x : Operand} (ho : o.op = .move x ∨ o.op = .assign x) (R : Rel w I σ S.h) (F : FRel w I σ S.f a) (hx : Opds o) (hs : S1 = S.set o.dst (S.ev x)) : Out X o a w I σ S S1 := by
  have h1 : Rep w I σ (S.ev x) (a.eval x) := ev_rep (S := S) F (hx x (by rcases ho with h | h <;> simp [h, Op.operands]))
  refine Out.pure (u := a.eval x) R ?_ h1 hs
  rcases ho with h | h <;> simp [execOp, h]
theorem run_zero {P : Program} {t : TypeId} {x : TI} (T : TIOk P t x) (w : World) : ∃ z, (zeroValue t).run P w = .ok z w ∧ zeroB x.zero z = true := by
  obtain ⟨i, z, hi, _, _, hz, hb⟩ := T.info
  exact ⟨z, by simp [zeroValue, typeInfo, hi, hz], hb⟩
theorem sim_alloc {t : TypeId} (ho : o.op = .alloc t) (T : TIOk X.P t (X.ti t)) (R : Rel w I σ S.h) (hn : S.h S.n = none) (hsn : σ S.n = none)
    (hs : S1 = (S.new ⟨(X.ti t).size, [(X.ti t).zero], true⟩).set o.dst (.ptr S.n 0 0)) : Out X o a w I σ S S1 := by
  subst hs
  obtain ⟨z, hz, hb⟩ := run_zero T w
  have hrz : Rep w I σ (X.ti t).zero z := zero_rep T hb
  refine ⟨_, w.alloc (.cells z.cells t), I, upd σ S.n (some (w.heap.size, 0, (X.ti t).size)), .pointer (some ⟨w.heap.size, 0, none⟩), .ptr S.n 0 0, ?_, .inl rfl, ?_, ?_, ?_⟩
  · simp [execOp, ho, Instr.alloc, hz, newVar, newRow]
  · rw [set_h, set_n]
    refine new_sim R z.cells hn hsn ?_ (box_row R hsn hrz T.zfit)
    have := (hrz.cells T.zfit)
    have hl := (RepC_iff _ _).1 this.2
    simp at hl ⊢; omega
  · exact set_f _ _ _ _ rfl
  · simp only [Rep]
    exact ⟨w.heap.size, 0, (X.ti t).size, by simp [upd], by simp⟩
theorem sim_box {t : TypeId} {x : Operand} (ho : o.op = .box t x) (R : Rel w I σ S.h) (F : FRel w I σ S.f a) (hx : Opds o) (hn : S.h S.n = none) (hsn : σ S.n = none)
    (hf : (S.ev x).fits (X.ti t).size = true) (hs : S1 = (S.new ⟨(X.ti t).size, [S.ev x], true⟩).set o.dst (.ptr S.n 0 0)) : Out X o a w I σ S S1 := by
  subst hs
  have hrz : Rep w I σ (S.ev x) (a.eval x) := ev_rep (S := S) F (hx x (by simp [ho, Op.operands]))
  refine ⟨_, w.alloc (.cells (a.eval x).cells t), I, upd σ S.n (some (w.heap.size, 0, (X.ti t).size)), .pointer (some ⟨w.heap.size, 0, none⟩), .ptr S.n 0 0, ?_, .inl rfl, ?_, ?_, ?_⟩
  · simp [execOp, ho, Instr.box, newVar, newRow]
  · rw [set_h, set_n]
    refine new_sim R (a.eval x).cells hn hsn ?_ (box_row R hsn hrz hf)
    have := (hrz.cells hf)
    have hl := (RepC_iff _ _).1 this.2
    simp at hl ⊢; omega
  · exact set_f _ _ _ _ rfl
  · simp only [Rep]
    exact ⟨w.heap.size, 0, (X.ti t).size, by simp [upd], by simp⟩
theorem sim_load_ptr {t : TypeId} {x : Operand} (ho : o.op = .load t x) (T : TIOk X.P t (X.ti t)) (R : Rel w I σ S.h) (F : FRel w I σ S.f a) (hx : Opds o)
    {id i f : Nat} {ob : Ob} {e v : V} (he : S.ev x = .ptr id i f) (hob : S.h id = some ob) (hi : ob.es[i]? = some e) (hv : part (X.ti t) e.cells f = some v) (hs : S1 = S.set o.dst v) : Out X o a w I σ S S1 := by
  have h1 : Rep w I σ (S.ev x) (a.eval x) := ev_rep (S := S) F (hx x (by simp [ho, Op.operands]))
  rw [he] at h1
  simp only [Rep] at h1
  obtain ⟨b, of, k, hsg, hu⟩ := h1
  obtain ⟨b', o', c, el, hs', hI, hb, hsz, hrow⟩ := R.at hob hi
  rw [hsg] at hs'
  simp only [Option.some.injEq, Prod.mk.injEq] at hs'
  obtain ⟨rfl, rfl, rfl⟩ := hs'
  have hc := (hrow.get hi).2.ext (Ext.freeOf ob.keep) rfl
  obtain ⟨u, hld, hr⟩ := load_sim T (f := f) hc hv
  refine Out.pure (u := u) R ?_ hr hs
  simp [execOp, ho, hu, Instr.loadAt, Instr.sureAddr, hld]
theorem sim_load_ref {t : TypeId} {x : Operand} (ho : o.op = .load t x) (T : TIOk X.P t (X.ti t)) (R : Rel w I σ S.h) (F : FRel w I σ S.f a) (hx : Opds o)
    {cs : List V} {v : V} (he : S.ev x = .ref cs) (hv : part (X.ti t) cs 0 = some v) (hs : S1 = S.set o.dst v) : Out X o a w I σ S S1 := by
  have h1 : Rep w I σ (S.ev x) (a.eval x) := ev_rep (S := S) F (hx x (by simp [ho, Op.operands]))
  rw [he] at h1
  simp only [Rep] at h1
  obtain ⟨b, of, hu, hI, hc⟩ := h1
  rw [RepAt_iff] at hc
  obtain ⟨u, hld, hr⟩ := load_sim T (f := 0) hc hv
  refine Out.pure (u := u) R ?_ (hr.ext Ext.free) hs
  simp only [Nat.add_zero] at hld
  simp [execOp, ho, hu, Instr.loadAt, Instr.sureAddr, hld]
theorem run_fieldAt {P : Program} {t : TypeId} {x : TI} (T : TIOk P t x) {i off k : Nat} (hf : x.flds[i]? = some (off, k)) (w : World) (b p : Nat) :
    (Instr.fieldAt t (.pointer (some ⟨b, p, none⟩)) i).run P w = .ok (.pointer (some ⟨b, p + off, none⟩)) w := by
  obtain ⟨d, hd, hb⟩ := T.und
  cases d with
  | struct fs =>
    simp only [descB, Bool.and_eq_true, beq_iff_eq] at hb
    obtain ⟨⟨⟨⟨_, hfl⟩, _⟩, _⟩, hpos⟩ := hb
    rw [hfl, List.getElem?_map] at hf
    cases hfi : fs.toList[i]? with
    | none => simp [hfi] at hf
    | some fd =>
      simp [hfi] at hf
      obtain ⟨rfl, rfl⟩ := hf
      have hfa : fs[i]? = some fd := by simpa using hfi
      have hp := List.all_eq_true.1 hpos fd (List.mem_of_getElem? hfi)
      simp at hp
      have hsz : (sizeOf fd.type).run P w = .ok (P.cellsOf fd.type) w := by
        unfold Program.cellsOf at hp ⊢
        cases hi : P.info? fd.type with
        | none => simp [hi] at hp
        | some i => simp [sizeOf, typeInfo, hi]
      simp [Instr.fieldAt, run_underlying hd, hfa, Instr.sureAddr, fieldPlace, hsz, Nat.ne_of_gt hp, add_at]
  | _ =>
    exfalso
    simp [descB] at hb
    simp [hb] at hf
theorem sim_fieldAddr {t : TypeId} {x : Operand} {i : Nat} (ho : o.op = .fieldAddr t x i) (T : TIOk X.P t (X.ti t)) (R : Rel w I σ S.h) (F : FRel w I σ S.f a) (hx : Opds o)
    {off k : Nat} (hf : (X.ti t).flds[i]? = some (off, k)) {v : V} (hv : (∃ id j f, S.ev x = .ptr id j f ∧ v = .ptr id j (f + off)) ∨ (∃ cs, S.ev x = .ref cs ∧ v = .ref (cs.drop off)))
    (hs : S1 = S.set o.dst v) : Out X o a w I σ S S1 := by
  have h1 : Rep w I σ (S.ev x) (a.eval x) := ev_rep (S := S) F (hx x (by simp [ho, Op.operands]))
  rcases hv with ⟨id, j, f, he, rfl⟩ | ⟨cs, he, rfl⟩
  · rw [he] at h1
    simp only [Rep] at h1
    obtain ⟨b, of, k', hsg, hu⟩ := h1
    refine Out.pure (u := .pointer (some ⟨b, of + j * k' + f + off, none⟩)) R ?_ ?_ hs
    · simp [execOp, ho, hu, run_fieldAt T hf]
    · simp only [Rep]
      exact ⟨b, of, k', hsg, by rw [Nat.add_assoc]⟩
  · rw [he] at h1
    simp only [Rep] at h1
    obtain ⟨b, of, hu, hI, hc⟩ := h1
    refine Out.pure (u := .pointer (some ⟨b, of + off, none⟩)) R ?_ ?_ hs
    · simp [execOp, ho, hu, run_fieldAt T hf]
    · simp only [Rep]
      refine ⟨b, of + off, rfl, hI, ?_⟩
      rw [RepAt_iff] at hc ⊢
      intro q c hq
      rw [List.getElem?_drop] at hq
      have := hc (off + q) c hq
      rwa [show of + (off + q) = of + off + q by omega] at this
end
end Go.Abs
namespace Go.Abs
open Go
section
variable {w : World} {I : Nat → Prop} {σ : Sig} {h : Heap}
theorem imm0_rep {v : V} {u : Value} (hv : v.imm0 = true) (hr : Rep w I σ v u) : Rep w I nosig v u := by
  cases v with
  | int k n => simpa [Rep] using hr
  | bool b => simpa [Rep] using hr
  | str s => simpa [Rep] using hr
  | sl c es => simpa only [Rep] using hr
  | nilp => simpa [Rep] using hr
  | ifc b => simpa only [Rep] using hr
  | fn g as bs =>
    cases as with
    | nil => cases bs with
      | nil => simpa [Rep, RepL] using hr
      | cons _ _ => simp [V.imm0] at hv
    | cons _ _ => simp [V.imm0] at hv
  | _ => simp [V.imm0] at hv
def Gone (I : Nat → Prop) (σ : Sig) (h h' : Heap) : Nat → Prop := fun b => I b ∨ (Owns σ h b ∧ ¬ Owns σ h' b)
theorem Owns.of_upd {id b : Nat} (ho : Owns σ (upd h id none) b) : Owns σ h b := by
  obtain ⟨i, ob, o, k, h1, h2⟩ := ho
  by_cases e : i = id
  · subst e; simp [upd] at h1
  · exact ⟨i, ob, o, k, by simpa [upd, e] using h1, h2⟩
theorem Rel.notOwn (R : Rel w I σ h) {id b o k : Nat} {ob : Ob} (h1 : h id = some ob) (h2 : σ id = some (b, o, k)) : ¬ Owns σ (upd h id none) b := by
  rintro ⟨i, ob', o', k', h3, h4⟩
  by_cases e : i = id
  · subst e; simp [upd] at h3
  · exact e (R.apart i id ob' ob b o' k' o k (by simpa [upd, e] using h3) h1 h4 h2)
theorem gone_step (R : Rel w I σ h) {h' : Heap} (hsub : ∀ id ob, h' id = some ob → h id = some ob) (n : Nat) : Step w I σ h n w (Gone I σ h h') σ h' n := by
  have E : Ext w I σ w (Gone I σ h h') σ := ⟨fun _ _ => rfl, fun _ c _ fz hh => ⟨c, fz, hh, rfl⟩, fun b hb => .inl hb, fun _ _ hh => hh⟩
  have hown : ∀ b, Owns σ h' b → Owns σ h b := fun b ⟨i, ob, o, k, h1, h2⟩ => ⟨i, ob, o, k, hsub _ _ h1, h2⟩
  refine ⟨E, (R.sub hsub).keep E (fun b hb => ?_) (fun b hb => ⟨rfl, ?_⟩) (fun _ _ => rfl), rfl, rfl, rfl, Nat.le_refl _, fun _ _ _ => rfl, fun b hb => .inr (hown b hb), fun b hb => ?_, Nat.le_refl _, fun _ _ => rfl, fun id _ hn => ?_⟩
  · rcases hb with hb | hb
    · exact R.imm b hb
    · obtain ⟨_, c, el, hh⟩ := R.owned hb.1
      exact hh.lt
  · rintro (hi | ⟨_, hn⟩)
    · exact (R.owned (hown b hb)).1 hi
    · exact hn hb
  · rcases hb with hb | hb
    · exact .inl hb
    · exact .inr (.inr hb.1)
  · cases hc : h' id with
    | none => rfl
    | some ob => rw [hsub id ob hc] at hn; cases hn
theorem RepRow.seg {es : List V} {k b o : Nat} (hr : RepRow w I σ es k b o) (s l : Nat) : RepRow w I σ ((es.drop s).take l) k b (o + s * k) := by
  rw [RepRow_iff] at hr ⊢
  intro i e hi
  rw [List.getElem?_take] at hi
  split at hi
  · rw [List.getElem?_drop] at hi
    have := hr (s + i) e hi
    rwa [show o + (s + i) * k = o + s * k + i * k by rw [Nat.add_mul]; omega] at this
  · cases hi
theorem row_imm1 {es : List V} {k b o : Nat} (he : es.all V.imm1 = true) (hr : RepRow w I σ es k b o) : RepRow w I nosig es k b o := by
  rw [RepRow_iff] at hr ⊢
  intro i e hi
  obtain ⟨h1, h2⟩ := hr i e hi
  refine ⟨h1, fun j c hj => ?_⟩
  obtain ⟨u, g1, g2, g3⟩ := h2 j c hj
  refine ⟨u, g1, g2, imm0_rep ?_ g3⟩
  have hx : e.imm1 = true := List.all_eq_true.1 he e (List.mem_of_getElem? hi)
  cases e with
  | agg cs => exact List.all_eq_true.1 hx c (List.mem_of_getElem? hj)
  | _ =>
    cases j with
    | zero => simp [V.cells] at hj; subst hj; exact hx
    | succ j => simp [V.cells] at hj
theorem hdr_imm (R : Rel w I σ h) {id s l : Nat} {ob : Ob} {u : Value} (hr : Rep w I σ (.hdr id s l) u) (hob : h id = some ob) (hk : (!ob.keep || ob.es.all V.imm1) = true) (hle : s + l ≤ ob.es.length)
    {J : Nat → Prop} (hIJ : ∀ b, I b → J b) (hJ : ∀ b o k, σ id = some (b, o, k) → J b) : Rep w J nosig (.sl false ((ob.es.drop s).take l)) u := by
  simp only [Rep] at hr ⊢
  obtain ⟨a, cap, rfl, h1, h2, h3⟩ := hr
  have hlen : ((ob.es.drop s).take l).length = l := by simp; omega
  refine ⟨a, cap, by rw [hlen], by omega, h2, fun hc => (by cases hc), ?_⟩
  by_cases hl : l = 0
  · subst hl; left; simp
  · right
    rcases h3 with h3 | ⟨b, of, k, c, el, fz, hs, ha, hb, hcl⟩
    · omega
    · have hi : ob.es[s]? = some (ob.es[s]'(by omega)) := by simp
      obtain ⟨b', o', c', el', hs', hI, hb', hsz, hrow⟩ := R.at hob hi
      rw [hs] at hs'
      simp only [Option.some.injEq, Prod.mk.injEq] at hs'
      obtain ⟨rfl, rfl, rfl⟩ := hs'
      refine ⟨b, of + s * ob.k, ob.k, ha, hJ b of ob.k hs, ?_⟩
      have hrow0 : RepRow w I nosig ob.es ob.k b of := by
        cases hkk : ob.keep with
        | false => rw [hkk] at hrow; exact hrow
        | true =>
          rw [hkk] at hk
          exact row_imm1 (by simpa using hk) hrow
      have hrow' := hrow0.seg s l
      have E : Ext w I nosig w J nosig := ⟨fun _ _ => rfl, fun _ c _ fz hh => ⟨c, fz, hh, rfl⟩, hIJ, fun _ _ hh => hh⟩
      exact hrow'.extRow E rfl
theorem give0_sim (R : Rel w I σ h) {v v' : V} {h' : Heap} {u : Value} (hr : Rep w I σ v u) (hg : give0 h v = some (v', h')) (n : Nat) :
    ∃ I', Step w I σ h n w I' σ h' n ∧ Rep w I' nosig v' u ∧ (∀ id ob, h' id = some ob → h id = some ob) := by
  unfold give0 at hg
  split at hg
  · rename_i id s l
    cases hob : h id with
    | none => simp [hob] at hg
    | some ob =>
      simp only [hob] at hg
      split at hg
      · rename_i hc
        simp only [Bool.and_eq_true, decide_eq_true_eq] at hc
        simp only [Option.some.injEq, Prod.mk.injEq] at hg
        obtain ⟨rfl, rfl⟩ := hg
        have hsub : ∀ i ob', upd h id none i = some ob' → h i = some ob' := by
          intro i ob' hi
          by_cases e : i = id
          · subst e; simp [upd] at hi
          · simpa [upd, e] using hi
        refine ⟨_, gone_step R hsub n, Rep.dull (v := .sl false _) (hdr_imm R hr hob hc.1 hc.2 (fun b hb => .inl hb) (fun b o k hs => .inr ⟨⟨id, ob, o, k, hob, hs⟩, R.notOwn hob hs⟩)), hsub⟩
      · cases hg
  · rename_i hne
    split at hg
    · rename_i hi
      simp only [Option.some.injEq, Prod.mk.injEq] at hg
      obtain ⟨rfl, rfl⟩ := hg
      exact ⟨I, Step.refl R n, (imm0_rep hi hr).dull, fun _ _ hh => hh⟩
    · cases hg
theorem giveL_sim : ∀ {cs cs' : List V} {I : Nat → Prop} {h h' : Heap} {us : List Value}, Rel w I σ h → RepC w I σ cs us → giveL h cs = some (cs', h') → ∀ n : Nat,
    ∃ I', Step w I σ h n w I' σ h' n ∧ RepC w I' nosig cs' us ∧ (∀ id ob, h' id = some ob → h id = some ob)
  | [], cs', I, h, h', us, R, hr, hg, n => by
    simp only [giveL, Option.some.injEq, Prod.mk.injEq] at hg
    obtain ⟨rfl, rfl⟩ := hg
    exact ⟨I, Step.refl R n, by simpa [RepC] using hr, fun _ _ hh => hh⟩
  | c :: cs, cs', I, h, h', us, R, hr, hg, n => by
    simp only [RepC] at hr
    obtain ⟨u, r, rfl, h1, h2, h3⟩ := hr
    simp only [giveL] at hg
    cases hc : give0 h c with
    | none => simp [hc] at hg
    | some x =>
      obtain ⟨c', h1'⟩ := x
      simp only [hc] at hg
      cases hl : giveL h1' cs with
      | none => simp [hl] at hg
      | some y =>
        obtain ⟨cs1, h2'⟩ := y
        simp only [hl, Option.some.injEq, Prod.mk.injEq] at hg
        obtain ⟨rfl, rfl⟩ := hg
        obtain ⟨I1, s1, r1, sub1⟩ := give0_sim R h2 hc n
        have hr3 : RepC w I1 σ cs r := RepC.ext' cs r s1.ext h3
        obtain ⟨I2, s2, r2, sub2⟩ := giveL_sim s1.rel hr3 hl n
        refine ⟨I2, s1.trans s2, ?_, fun id ob hh => sub1 _ _ (sub2 _ _ hh)⟩
        simp only [RepC]
        exact ⟨u, r, rfl, h1, r1.ext s2.ext.noid, r2⟩
theorem give_sim (R : Rel w I σ h) {v v' : V} {h' : Heap} {u : Value} (hr : Rep w I σ v u) (hg : give h v = some (v', h')) (n : Nat) :
    ∃ I', Step w I σ h n w I' σ h' n ∧ Rep w I' nosig v' u ∧ (∀ id ob, h' id = some ob → h id = some ob) := by
  unfold give at hg
  split at hg
  · rename_i cs
    cases hl : giveL h cs with
    | none => simp [hl] at hg
    | some y =>
      obtain ⟨cs', h2⟩ := y
      simp only [hl, Option.some.injEq, Prod.mk.injEq] at hg
      obtain ⟨rfl, rfl⟩ := hg
      simp only [Rep] at hr
      obtain ⟨us, rfl, hc⟩ := hr
      obtain ⟨I1, s1, r1, sub⟩ := giveL_sim R hc hl n
      exact ⟨I1, s1, by simp only [Rep]; exact ⟨us, rfl, r1⟩, sub⟩
  · exact give0_sim R hr hg n
theorem giveP_sim : ∀ {ps ps' : List (Nat × V)} {I : Nat → Prop} {h h' : Heap} {us : List Value}, Rel w I σ h → RepL w I σ (ps.map (·.2)) us → giveP h ps = some (ps', h') → ∀ n : Nat,
    ∃ I', Step w I σ h n w I' σ h' n ∧ RepL w I' nosig (ps'.map (·.2)) us ∧ ps'.map (·.1) = ps.map (·.1) ∧ (∀ id ob, h' id = some ob → h id = some ob)
  | [], ps', I, h, h', us, R, hr, hg, n => by
    simp only [giveP, Option.some.injEq, Prod.mk.injEq] at hg
    obtain ⟨rfl, rfl⟩ := hg
    exact ⟨I, Step.refl R n, by simpa [RepL] using hr, rfl, fun _ _ hh => hh⟩
  | (i, c) :: ps, ps', I, h, h', us, R, hr, hg, n => by
    simp only [List.map_cons, RepL] at hr
    obtain ⟨u, r, rfl, h2, h3⟩ := hr
    simp only [giveP] at hg
    cases hc : give h c with
    | none => simp [hc] at hg
    | some x =>
      obtain ⟨c', h1'⟩ := x
      simp only [hc] at hg
      cases hl : giveP h1' ps with
      | none => simp [hl] at hg
      | some y =>
        obtain ⟨cs1, h2'⟩ := y
        simp only [hl, Option.some.injEq, Prod.mk.injEq] at hg
        obtain ⟨rfl, rfl⟩ := hg
        obtain ⟨I1, s1, r1, sub1⟩ := give_sim R h2 hc n
        have hr3 : RepL w I1 σ (ps.map (·.2)) r := RepL.ext' _ r s1.ext h3
        obtain ⟨I2, s2, r2, e2, sub2⟩ := giveP_sim s1.rel hr3 hl n
        refine ⟨I2, s1.trans s2, ?_, by simp [e2], fun id ob hh => sub1 _ _ (sub2 _ _ hh)⟩
        simp only [List.map_cons, RepL]
        exact ⟨u, r, rfl, r1.ext s2.ext.noid, r2⟩
end
section
variable {X : Env} {o : Oper} {a : Act} {w : World} {I : Nat → Prop} {σ : Sig} {S S1 : St}
theorem sim_store {t : TypeId} {x y : Operand} (ho : o.op = .store t x y) (T : TIOk X.P t (X.ti t)) (R : Rel w I σ S.h) (F : FRel w I σ S.f a) (hx : Opds o)
    {id i f : Nat} {ob0 : Ob} {v : V} {h : Heap} {ob : Ob} {e : V} (he : S.ev x = .ptr id i f) (h0 : S.h id = some ob0)
    (hg : (if ob0.keep then some (S.ev y, S.h) else give S.h (S.ev y)) = some (v, h)) (hob : h id = some ob) (hi : ob.es[i]? = some e)
    (hf : (v.fits (X.ti t).size && decide (f + (X.ti t).size ≤ e.cells.length)) = true) (hd : o.dst = none)
    (hs : S1 = { S with h := upd h id (some { ob with es := ob.es.set i (e.put f v) }) }) : Out X o a w I σ S S1 := by
  subst hs
  have h1 : Rep w I σ (S.ev x) (a.eval x) := ev_rep (S := S) F (hx x (by simp [ho, Op.operands]))
  have h2 : Rep w I σ (S.ev y) (a.eval y) := ev_rep (S := S) F (hx y (by simp [ho, Op.operands]))
  rw [he] at h1
  simp only [Rep] at h1
  obtain ⟨b, of, k, hsg, hu⟩ := h1
  simp only [Bool.and_eq_true, decide_eq_true_eq] at hf
  have key : ∃ I', Step w I σ S.h S.n w I' σ h S.n ∧ Rep w I' (osig ob.keep σ) v (a.eval y) := by
    by_cases hk : ob0.keep = true
    · rw [if_pos hk] at hg
      simp only [Option.some.injEq, Prod.mk.injEq] at hg
      obtain ⟨rfl, rfl⟩ := hg
      rw [h0] at hob
      simp at hob
      subst hob
      exact ⟨I, Step.refl R _, by simpa [osig, hk] using h2⟩
    · rw [if_neg hk] at hg
      obtain ⟨I', s, r, sub⟩ := give_sim R h2 hg S.n
      have := sub id ob hob
      rw [h0] at this
      simp at this
      subst this
      exact ⟨I', s, by simpa [osig, hk] using r⟩
  obtain ⟨I', s, r⟩ := key
  obtain ⟨w', hrun, s'⟩ := store_sim T s.rel hob hi r hf.1 hf.2 S.n hsg
  refine ⟨_, w', I', σ, undef, .bad, ?_, .inr ⟨rfl, rfl⟩, s.trans s', by simp [St.set, hd], by simp [Rep]⟩
  simp [execOp, ho, hu, Instr.storeAt, Instr.sureAddr, hrun]
theorem sim_nilCheck {x : Operand} (ho : o.op = .nilCheck x) (R : Rel w I σ S.h) (F : FRel w I σ S.f a) (hx : Opds o)
    (hv : (∃ id j f, S.ev x = .ptr id j f) ∨ (∃ cs, S.ev x = .ref cs) ∨ (∃ g p q, S.ev x = .fn g p q)) (hs : S1 = S.set o.dst (S.ev x)) : Out X o a w I σ S S1 := by
  have h1 : Rep w I σ (S.ev x) (a.eval x) := ev_rep (S := S) F (hx x (by simp [ho, Op.operands]))
  refine Out.pure (u := a.eval x) R ?_ h1 hs
  rcases hv with ⟨id, j, f, he⟩ | ⟨cs, he⟩ | ⟨g, p, q, he⟩
  · rw [he] at h1; simp only [Rep] at h1; obtain ⟨b, of, k, _, hu⟩ := h1; simp [execOp, ho, hu]
  · rw [he] at h1; simp only [Rep] at h1; obtain ⟨b, of, hu, _⟩ := h1; simp [execOp, ho, hu]
  · rw [he] at h1; simp only [Rep] at h1; obtain ⟨us, vs, hu, _⟩ := h1; simp [execOp, ho, hu]
theorem sim_unOp {op : UnOp} {t : TypeId} {x : Operand} {v : V} (ho : o.op = .unOp op t x) (R : Rel w I σ S.h) (F : FRel w I σ S.f a) (hx : Opds o) (hv : unV op (S.ev x) = some v) (hs : S1 = S.set o.dst v) : Out X o a w I σ S S1 := by
  have h1 : Rep w I σ (S.ev x) (a.eval x) := ev_rep (S := S) F (hx x (by simp [ho, Op.operands]))
  unfold unV at hv
  split at hv
  · rename_i k n he
    rw [he] at h1
    have hu := rep_int h1
    simp only [Option.some.injEq] at hv
    subst hv
    exact Out.pure (u := .int k (k.wrap (0 - n))) R (by simp [execOp, ho, hu, Op.unary, Op.intArith]) (by simp [Rep]) hs
  · rename_i b he
    rw [he] at h1
    have hu := rep_bool h1
    simp only [Option.some.injEq] at hv
    subst hv
    exact Out.pure (u := .bool (!b)) R (by simp [execOp, ho, hu, Op.unary]) (by simp [Rep]) hs
  · cases hv
theorem sim_convert {s d : TypeId} {x : Operand} {k k' : IntKind} {n : Int} (ho : o.op = .convert s d x) (T : TIOk X.P d (X.ti d)) (hsrc : (X.P.underlying s).isSome = true) (R : Rel w I σ S.h) (F : FRel w I σ S.f a) (hx : Opds o)
    (hk : (X.ti d).kind = some k) (he : S.ev x = .int k' n) (hs : S1 = S.set o.dst (.int k (k.wrap n))) : Out X o a w I σ S S1 := by
  have h1 : Rep w I σ (S.ev x) (a.eval x) := ev_rep (S := S) F (hx x (by simp [ho, Op.operands]))
  rw [he] at h1
  have hu := rep_int h1
  obtain ⟨e, hd, hb⟩ := T.und
  have hde : e = .int k := by
    cases e <;> simp_all [descB]
  subst hde
  obtain ⟨ds, hds⟩ := Option.isSome_iff_exists.1 hsrc
  exact Out.pure (u := .int k (k.wrap n)) R (by simp [execOp, ho, hu, convert, run_underlying hds, run_underlying hd, Conv.intToInt]) (by simp [Rep]) hs
theorem sim_makeFunc {g : FuncId} {p q : Array Operand} (ho : o.op = .makeFunc (.func g) p q) (R : Rel w I σ S.h) (F : FRel w I σ S.f a) (hx : Opds o)
    (hs : S1 = S.set o.dst (.fn g (p.toList.map S.ev) (q.toList.map S.ev))) : Out X o a w I σ S S1 := by
  have hl : ∀ (xs : Array Operand), (∀ x ∈ xs.toList, x ∈ o.op.operands.toList) → RepL w I σ (xs.toList.map S.ev) (xs.map a.eval).toList := by
    intro xs hxs
    rw [RepL_iff]
    refine ⟨by simp, fun j c u hc hu => ?_⟩
    rw [List.getElem?_map] at hc
    simp only [Array.toList_map, List.getElem?_map] at hu
    cases hj : xs.toList[j]? with
    | none => simp [hj] at hc
    | some y =>
      simp only [hj, Option.map_some, Option.some.injEq] at hc hu
      subst hc; subst hu
      exact ev_rep (S := S) F (hx y (hxs y (List.mem_of_getElem? hj)))
  refine Out.pure (u := .func (.func g) (p.map a.eval) (q.map a.eval)) R (by simp [execOp, ho, Instr.makeFunc]) ?_ hs
  simp only [Rep]
  exact ⟨_, _, rfl, hl p (by simp [ho, Op.operands]; intro x hx; exact .inl hx), hl q (by simp [ho, Op.operands]; intro x hx; exact .inr hx)⟩
theorem sim_extract {x : Operand} {i : Nat} {vs : List V} {v : V} (ho : o.op = .extract x i) (R : Rel w I σ S.h) (F : FRel w I σ S.f a) (hx : Opds o) (he : S.ev x = .tup vs) (hv : vs[i]? = some v) (hs : S1 = S.set o.dst v) : Out X o a w I σ S S1 := by
  have h1 : Rep w I σ (S.ev x) (a.eval x) := ev_rep (S := S) F (hx x (by simp [ho, Op.operands]))
  rw [he] at h1
  simp only [Rep] at h1
  obtain ⟨us, hu, hr⟩ := h1
  rw [RepL_iff] at hr
  have hi : i < vs.length := (List.getElem?_eq_some_iff.1 hv).1
  have hg : us[i]? = some (us[i]'(by have := hr.1; simp at this; omega)) := by simp
  exact Out.pure (u := us[i]'(by have := hr.1; simp at this; omega)) R (by simp [execOp, ho, hu, Instr.extract, hg]) (hr.2 i v _ hv (by simp)) hs
end
end Go.Abs
namespace Go.Abs
open Go
section
variable {w : World} {I : Nat → Prop} {σ : Sig}
theorem rep_str {s : List UInt8} {u : Value} (h : Rep w I σ (.str s) u) : ∃ x : ByteArray, u = .string x ∧ x.data.toList = s := by simpa only [Rep] using h
theorem toList_eq (x : ByteArray) : x.toList = x.data.toList := by rw [ByteArray.toList_eq]
theorem run_partScal {P : Program} {t : TypeId} {kd : Nat} (hs : kdB P t kd = true) {cs : Array Value} {j : Nat} {u : Value} (hj : cs[j]? = some u) (w : World) : (Go.part t cs j).run P w = .ok u w := by
  unfold kdB at hs
  have : (isAgg t).run P w = .ok false w := by
    unfold isAgg
    split at hs
    · rename_i h; rw [Sem.run_bind, run_underlying h]; rfl
    · rename_i h; rw [Sem.run_bind, run_underlying h]; rfl
    · rename_i h; rw [Sem.run_bind, run_underlying h]; rfl
    · cases hs
  simp [Go.part, this, hj]
theorem run_eqScal {P : Program} {d : Nat} {t : TypeId} {kd : Nat} (hs : kdB P t kd = true) {x y : V} {u v : Value} {r : Bool} (hx : Rep w I σ x u) (hy : Rep w I σ y v) (hr : V.eqv kd x y = some r) (ws : World) :
    (Op.equalIn (d + 1) t u v).run P ws = .ok r ws := by
  unfold V.eqv at hr
  split at hr
  · split at hr
    · rename_i hk
      obtain ⟨rfl, rfl⟩ := hk
      simp only [Option.some.injEq] at hr; subst hr
      rw [rep_int hx, rep_int hy]
      unfold kdB at hs
      split at hs
      · rename_i h _; exact run_equalIn_int ws d t _ _ _ _ h
      · omega
      · omega
      · cases hs
    · cases hr
  · split at hr
    · rename_i hk
      subst hk
      simp only [Option.some.injEq] at hr; subst hr
      rw [rep_bool hx, rep_bool hy]
      unfold kdB at hs
      split at hs
      · omega
      · rename_i h _; exact run_equalIn_bool' ws d t _ _ h
      · omega
      · cases hs
    · cases hr
  · split at hr
    · rename_i hk
      subst hk
      simp only [Option.some.injEq] at hr; subst hr
      obtain ⟨a, rfl, rfl⟩ := rep_str hx
      obtain ⟨b, rfl, rfl⟩ := rep_str hy
      unfold kdB at hs
      split at hs
      · omega
      · omega
      · rename_i h _; rw [run_equalIn_string ws d t _ _ h, toList_eq, toList_eq]
      · cases hs
    · cases hr
  · cases hr
theorem run_eqFields {P : Program} {d : Nat} : ∀ (fs : List Field) (ks : List Nat) (xs ys : List V) (j : Nat) (us vs : Array Value) (r : Bool), fldsB P j fs ks = true → eqvL ks xs ys = some r →
    RepC w I σ xs (us.toList.drop j) → RepC w I σ ys (vs.toList.drop j) → ∀ ws, (Op.eqFields (d + 1) us vs fs).run P ws = .ok r ws
  | [], ks, xs, ys, j, us, vs, r, hf, he, hx, hy, ws => by
    cases ks with
    | nil =>
      cases xs with
      | nil => cases ys with
        | nil => simp only [eqvL, Option.some.injEq] at he; subst he; simp [Op.eqFields]
        | cons _ _ => simp [eqvL] at he
      | cons _ _ => simp [eqvL] at he
    | cons _ _ => simp [fldsB] at hf
  | f :: fs, ks, xs, ys, j, us, vs, r, hf, he, hx, hy, ws => by
    cases ks with
    | nil => simp [fldsB] at hf
    | cons k ks =>
      cases xs with
      | nil => simp [eqvL] at he
      | cons x xs => cases ys with
        | nil => simp [eqvL] at he
        | cons y ys =>
          simp only [fldsB, Bool.and_eq_true, bne_iff_ne, beq_iff_eq] at hf
          obtain ⟨⟨⟨h1, h2⟩, h3⟩, h4⟩ := hf
          simp only [eqvL] at he
          cases e1 : V.eqv k x y with
          | none => simp [e1] at he
          | some p => cases e2 : eqvL ks xs ys with
            | none => simp [e1, e2] at he
            | some q =>
              simp only [e1, e2, Option.some.injEq] at he
              simp only [RepC] at hx hy
              obtain ⟨u, ru, hu, _, hxu, hxr⟩ := hx
              obtain ⟨v, rv, hv, _, hyv, hyr⟩ := hy
              have gu : us[j]? = some u := by
                have := congrArg (fun l : List Value => l[0]?) hu
                simpa [List.getElem?_drop] using this
              have gv : vs[j]? = some v := by
                have := congrArg (fun l : List Value => l[0]?) hv
                simpa [List.getElem?_drop] using this
              have du : us.toList.drop (j + 1) = ru := by
                have := congrArg (List.drop 1) hu
                simpa [List.drop_drop] using this
              have dv : vs.toList.drop (j + 1) = rv := by
                have := congrArg (List.drop 1) hv
                simpa [List.drop_drop] using this
              have ih := run_eqFields (d := d) fs ks xs ys (j + 1) us vs q h4 e2 (by rw [du]; exact hxr) (by rw [dv]; exact hyr) ws
              simp only [Op.eqFields, if_pos h1]
              rw [h2]
              simp only [Sem.run_bind, run_partScal h3 gu, run_partScal h3 gv, Result.andThen_ok, run_eqScal h3 hxu hyv e1]
              cases p
              · simp at he; subst he; simp
              · simp at he; subst he; simp [ih]
end
section
variable {X : Env} {o : Oper} {a : Act} {w : World} {I : Nat → Prop} {σ : Sig} {S S1 : St}
theorem run_equalIn_ptr {P : Program} (w : World) (d : Nat) (t e : TypeId) (p q : Option Addr) (h : P.underlying t = some (.pointer e)) (hn : p = none ∨ q = none) :
    (Op.equalIn (d + 1) t (.pointer p) (.pointer q)).run P w = .ok (p.isNone && q.isNone) w := by
  rcases hn with rfl | rfl
  · simp [Op.equalIn, run_underlying h]
  · cases p <;> simp [Op.equalIn, run_underlying h]
theorem run_eq_ptr {P : Program} (w : World) (t e : TypeId) (p q : Option Addr) (h : P.underlying t = some (.pointer e)) (hn : p = none ∨ q = none) :
    (Op.equal t (.pointer p) (.pointer q)).run P w = .ok (p.isNone && q.isNone) w := run_equalIn_ptr w 9999 t e p q h hn
theorem run_equalIn_ifc {P : Program} (w : World) (d : Nat) (t : TypeId) {ms : Array (String × TypeId)} (h : P.underlying t = some (.interface ms)) {a b : Bool} {u v : Value} (hu : ifcRep a u) (hv : ifcRep b v) (hn : (a && b) = false) :
    (Op.equalIn (d + 1) t u v).run P w = .ok (a == b) w := by
  cases a <;> cases b <;> simp only [ifcRep] at hu hv
  · subst hu; subst hv; simp [Op.equalIn, run_underlying h]
  · obtain ⟨_, _, rfl⟩ := hv; subst hu; simp [Op.equalIn, run_underlying h]
  · obtain ⟨_, _, rfl⟩ := hu; subst hv; simp [Op.equalIn, run_underlying h]
  · simp at hn
theorem run_eq_ifc {P : Program} (w : World) (t : TypeId) {ms : Array (String × TypeId)} (h : P.underlying t = some (.interface ms)) {a b : Bool} {u v : Value} (hu : ifcRep a u) (hv : ifcRep b v) (hn : (a && b) = false) :
    (Op.equal t u v).run P w = .ok (a == b) w := run_equalIn_ifc w 9999 t h hu hv hn
theorem eq_sim {P : Program} {t : TypeId} {ag : Bool} {shp : List Nat} (hB : eqB P t ag shp = true) {x y : V} {u v : Value} {r : Bool} (hx : Rep w I σ x u) (hy : Rep w I σ y v) (hr : eqV ag shp x y = some r) (p q : Operand) (hq : shp = [4] → ∃ z, q = .const z) :
    (eqGuard .eql t p q u v).run P w = .ok () w ∧ (eqGuard .neq t p q u v).run P w = .ok () w ∧ (binOp .eql t u v).run P w = .ok (.bool r) w ∧ (binOp .neq t u v).run P w = .ok (.bool (!r)) w := by
  unfold eqV at hr
  split at hr
  · rename_i xs ys
    split at hr
    · rename_i hag
      simp only [Rep] at hx hy
      obtain ⟨us, rfl, hcx⟩ := hx
      obtain ⟨vs, rfl, hcy⟩ := hy
      have hne : ∃ fs, P.underlying t = some (.struct fs) ∧ (shp = [] ∨ (P.stoodInHeld t = false ∧ P.eqGuardType P.depth t = false ∧ fldsB P 0 fs.toList shp = true)) := by
        unfold eqB at hB
        split at hB
        · rename_i fs h
          simp [hag.1] at hB
          exact ⟨fs, h, hB.imp id fun h => ⟨h.1.1, h.1.2, h.2⟩⟩
        · simp [hag.1] at hB
        · simp [hag.1] at hB
        · simp [hag.1] at hB
          subst hB
          cases xs with
          | nil => simp [eqvL] at hr
          | cons x xs => cases ys with
            | nil => simp [eqvL] at hr
            | cons y ys => cases x <;> cases y <;> simp [eqvL, V.eqv] at hr
        · simp [hag.1] at hB
        · simp [hag.1] at hB
      obtain ⟨fs, hfs, hc⟩ := hne
      rcases hc with h0 | ⟨h1, h2, h3⟩
      · exact absurd h0 hag.2
      · have hF : P.fieldsOf t = fs := by simp [Program.fieldsOf, hfs]
        have he := run_eqFields (d := 9998) fs.toList shp xs ys 0 us vs r h3 hr (by simpa using hcx) (by simpa using hcy) w
        have hst : (Op.equalIn 10000 t (.agg us) (.agg vs)).run P w = .ok r w := by
          rw [run_equalIn_struct w 9999 t us vs (by rw [hF]; exact hfs) h1, hF]
          exact he
        refine ⟨run_eqGuard_agg w .eql t p q us vs h2, run_eqGuard_agg w .neq t p q us vs h2, ?_, ?_⟩
        · rw [run_eql_struct, hst]; rfl
        · rw [run_neq_struct, hst]; rfl
    · cases hr
  · split at hr
    · rename_i hk; subst hk
      simp only [Option.some.injEq] at hr; subst hr
      rw [rep_int hx, rep_int hy]
      refine ⟨by rw [eqGuard_at_int]; rfl, by rw [eqGuard_at_int]; rfl, by rw [binOp_eql]; rfl, by rw [binOp_neq]; rfl⟩
    · cases hr
  · split at hr
    · rename_i hc
      simp only [Option.some.injEq] at hr; subst hr
      rw [rep_bool hx, rep_bool hy]
      have ht : P.underlying t = some .bool := by
        unfold eqB at hB
        split at hB
        · simp [hc] at hB
        · assumption
        · simp [hc] at hB
        · simp [hc] at hB
        · simp [hc] at hB
        · simp [hc] at hB
      refine ⟨by rw [eqGuard_at_bool]; rfl, by rw [eqGuard_at_bool]; rfl, ?_, ?_⟩
      · simp only [binOp, Sem.run_bind]
        rw [show Op.equal t (.bool _) (.bool _) = Op.equalIn (9999 + 1) t (.bool _) (.bool _) from rfl, run_equalIn_bool' w 9999 t _ _ ht]
        rfl
      · simp only [binOp, Sem.run_bind]
        rw [show Op.equal t (.bool _) (.bool _) = Op.equalIn (9999 + 1) t (.bool _) (.bool _) from rfl, run_equalIn_bool' w 9999 t _ _ ht]
        rfl
    · cases hr
  · simp only [Option.some.injEq] at hr; subst hr
    obtain ⟨a, rfl, rfl⟩ := rep_str hx
    obtain ⟨b, rfl, rfl⟩ := rep_str hy
    refine ⟨by rw [eqGuard_at_string]; rfl, by rw [eqGuard_at_string]; rfl, ?_, ?_⟩
    · simp [binOp, Op.stringOp, toList_eq]
    · simp [binOp, Op.stringOp, toList_eq]
  all_goals first | (cases hr; done) | skip
  all_goals
    split at hr
    case isFalse => cases hr
    rename_i hc
    simp only [Option.some.injEq] at hr; subst hr
  case h_8 =>
    have ht : ∃ ms, P.underlying t = some (.interface ms) := by
      unfold eqB at hB
      split at hB
      · simp [hc] at hB
      · simp [hc] at hB
      · simp [hc] at hB
      · simp [hc] at hB
      · rename_i ms h; exact ⟨ms, h⟩
      · simp [hc] at hB
    obtain ⟨ms, ht⟩ := ht
    obtain ⟨z, rfl⟩ := hq hc.2.1
    rename_i a b
    have h3 := hc.2.2
    simp only [Rep] at hx hy
    have hg : ∀ op, (eqGuard op t p (.const z) u v).run P w = .ok () w := fun op => by
      cases a <;> cases b <;> simp only [ifcRep] at hx hy
      · subst hx; subst hy; cases op <;> simp [eqGuard]
      · obtain ⟨_, _, rfl⟩ := hy; subst hx; cases op <;> simp [eqGuard]
      · obtain ⟨_, _, rfl⟩ := hx; subst hy; cases op <;> simp [eqGuard]
      · simp at h3
    have he := run_eq_ifc w t ht hx hy h3
    have hb1 : (binOp .eql t u v).run P w = .ok (.bool (a == b)) w := by
      have : binOp .eql t u v = (do pure (.bool (← Op.equal t u v))) := by
        cases a <;> cases b <;> simp only [ifcRep] at hx hy
        · subst hx; subst hy; rfl
        · obtain ⟨_, _, rfl⟩ := hy; subst hx; rfl
        · obtain ⟨_, _, rfl⟩ := hx; subst hy; rfl
        · simp at h3
      rw [this, Sem.run_bind, he]; rfl
    have hb2 : (binOp .neq t u v).run P w = .ok (.bool (!(a == b))) w := by
      have : binOp .neq t u v = (do pure (.bool (!(← Op.equal t u v)))) := by
        cases a <;> cases b <;> simp only [ifcRep] at hx hy
        · subst hx; subst hy; rfl
        · obtain ⟨_, _, rfl⟩ := hy; subst hx; rfl
        · obtain ⟨_, _, rfl⟩ := hx; subst hy; rfl
        · simp at h3
      rw [this, Sem.run_bind, he]; rfl
    exact ⟨hg _, hg _, hb1, hb2⟩
  all_goals
    have ht : ∃ e, P.underlying t = some (.pointer e) := by
      unfold eqB at hB
      split at hB
      · simp [hc] at hB
      · simp [hc] at hB
      · rename_i e h; exact ⟨e, h⟩
      · simp [hc] at hB
      · simp [hc] at hB
      · simp [hc] at hB
    obtain ⟨e, ht⟩ := ht
    simp only [Rep] at hx hy
    first | (obtain ⟨b, o, k, _, rfl⟩ := hx) | subst hx
    first | (obtain ⟨b, o, k, _, rfl⟩ := hy) | subst hy
    refine ⟨by rw [eqGuard_at_pointer]; rfl, by rw [eqGuard_at_pointer]; rfl, ?_, ?_⟩
    · simp only [binOp, Sem.run_bind]
      rw [run_eq_ptr w t e _ _ ht (by simp)]
      rfl
    · simp only [binOp, Sem.run_bind]
      rw [run_eq_ptr w t e _ _ ht (by simp)]
      rfl
theorem sim_binOp {op : BinOp} {t ty : TypeId} {x y : Operand} {v : V} (ho : o.op = .binOp op t x y ty) (hB : op = .eql ∨ op = .neq → eqB X.P t (X.ti t).agg (X.ti t).shp = true ∧ ((X.ti t).shp = [4] → ∃ z, y = .const z)) (R : Rel w I σ S.h) (F : FRel w I σ S.f a) (hx : Opds o)
    (hv : binV (X.ti t).agg (X.ti t).shp op (S.ev x) (S.ev y) = some v) (hs : S1 = S.set o.dst v) : Out X o a w I σ S S1 := by
  have h1 : Rep w I σ (S.ev x) (a.eval x) := ev_rep (S := S) F (hx x (by simp [ho, Op.operands]))
  have h2 : Rep w I σ (S.ev y) (a.eval y) := ev_rep (S := S) F (hx y (by simp [ho, Op.operands]))
  generalize S.ev x = p at h1 hv
  generalize S.ev y = q at h2 hv
  have ints : ∀ (f : IntKind → Int → Int → Option V), int2 p q f = some v → (∀ k m n, p = .int k m → q = .int k n → f k m n = some v → ∃ u, (binOp op t (.int k m) (.int k n)).run X.P w = .ok u w ∧ Rep w I σ v u) → Out X o a w I σ S S1 := by
    intro f hf hrun
    unfold int2 at hf
    split at hf
    · rename_i k m k' n
      split at hf
      · rename_i hk; subst hk
        obtain ⟨u, hu, hr⟩ := hrun k m n rfl rfl hf
        refine Out.pure (u := u) R ?_ hr hs
        simp [execOp, ho, rep_int h1, rep_int h2, eqGuard_at_int, hu]
      · cases hf
    · cases hf
  cases op with
  | eql =>
    simp only [binV] at hv
    cases he : eqV (X.ti t).agg (X.ti t).shp p q with
    | none => simp [he] at hv
    | some r =>
      simp only [he, Option.some.injEq] at hv; subst hv
      have := eq_sim (hB (.inl rfl)).1 h1 h2 he x y (hB (.inl rfl)).2
      exact Out.pure (u := .bool r) R (by simp [execOp, ho, this.1, this.2.2.1]) (by simp [Rep]) hs
  | neq =>
    simp only [binV] at hv
    cases he : eqV (X.ti t).agg (X.ti t).shp p q with
    | none => simp [he] at hv
    | some r =>
      simp only [he, Option.some.injEq] at hv; subst hv
      have := eq_sim (hB (.inr rfl)).1 h1 h2 he x y (hB (.inr rfl)).2
      exact Out.pure (u := .bool (!r)) R (by simp [execOp, ho, this.2.1, this.2.2.2]) (by simp [Rep]) hs
  | add =>
    simp only [binV] at hv
    split at hv
    · rename_i l m
      split at hv
      · rename_i hle
        simp only [Option.some.injEq] at hv; subst hv
        obtain ⟨b1, e1, rfl⟩ := rep_str h1
        obtain ⟨b2, e2, rfl⟩ := rep_str h2
        refine Out.pure (u := .string (b1 ++ b2)) R ?_ (by simp only [Rep]; exact ⟨_, rfl, by simp⟩) hs
        have hsz : ¬ ((b1.size + b2.size : Nat) : Int) > IntKind.i64.max := by
          have z1 : b1.data.toList.length = b1.size := Array.length_toList
          have z2 : b2.data.toList.length = b2.size := Array.length_toList
          rw [IntKind.max_i64]
          rw [z1, z2] at hle
          omega
        simp only [execOp, ho, e1, e2, eqGuard_at_string, Sem.run_bind, Sem.run_pure, Result.andThen_ok, binOp, Op.stringOp, if_neg hsz]
      · cases hv
    · exact ints _ hv fun k m n _ _ hf => ⟨.int k (k.wrap (m + n)), by rw [binOp_add]; rfl, by simp only [Option.some.injEq] at hf; subst hf; simp [Rep]⟩
  | sub => exact ints _ hv fun k m n _ _ hf => ⟨.int k (k.wrap (m - n)), by rw [binOp_sub]; rfl, by simp only [Option.some.injEq] at hf; subst hf; simp [Rep]⟩
  | mul => exact ints _ hv fun k m n _ _ hf => ⟨.int k (k.wrap (m * n)), by rw [binOp_mul]; rfl, by simp only [Option.some.injEq] at hf; subst hf; simp [Rep]⟩
  | quo =>
    refine ints _ hv fun k m n _ _ hf => ?_
    split at hf
    · cases hf
    · rename_i hn
      simp only [Option.some.injEq] at hf; subst hf
      exact ⟨.int k (k.wrap (m.tdiv n)), by rw [binOp_quo]; simp [Op.intDiv, hn], by simp [Rep]⟩
  | rem =>
    refine ints _ hv fun k m n _ _ hf => ?_
    split at hf
    · cases hf
    · rename_i hn
      simp only [Option.some.injEq] at hf; subst hf
      exact ⟨.int k (m.tmod n), by rw [binOp_rem]; simp [Op.intDiv, hn], by simp [Rep]⟩
  | lss => exact ints _ hv fun k m n _ _ hf => ⟨.bool (decide (m < n)), by rw [binOp_lss]; rfl, by simp only [Option.some.injEq] at hf; subst hf; simp [Rep]⟩
  | leq => exact ints _ hv fun k m n _ _ hf => ⟨.bool (decide (m ≤ n)), by rw [binOp_leq]; rfl, by simp only [Option.some.injEq] at hf; subst hf; simp [Rep]⟩
  | gtr => exact ints _ hv fun k m n _ _ hf => ⟨.bool (decide (n < m)), by rw [binOp_gtr]; rfl, by simp only [Option.some.injEq] at hf; subst hf; simp [Rep]⟩
  | geq => exact ints _ hv fun k m n _ _ hf => ⟨.bool (decide (n ≤ m)), by rw [binOp_geq]; rfl, by simp only [Option.some.injEq] at hf; subst hf; simp [Rep]⟩
  | shl =>
    simp only [binV] at hv
    split at hv
    · rename_i k m k' n
      split at hv
      · cases hv
      · rename_i hn
        simp only [Option.some.injEq] at hv; subst hv
        refine Out.pure (u := .int k (k.wrap (m * 2 ^ (min n.toNat k.bits)))) R ?_ (by simp [Rep]) hs
        simp [execOp, ho, rep_int h1, rep_int h2, eqGuard_at_int, binOp, Op.shift, hn]
    · cases hv
  | shr =>
    simp only [binV] at hv
    split at hv
    · rename_i k m k' n
      split at hv
      · cases hv
      · rename_i hn
        simp only [Option.some.injEq] at hv; subst hv
        refine Out.pure (u := .int k (m.fdiv (2 ^ (min n.toNat k.bits)))) R ?_ (by simp [Rep]) hs
        simp [execOp, ho, rep_int h1, rep_int h2, eqGuard_at_int, binOp, Op.shift, hn]
    · cases hv
  | and => exact ints _ hv fun k m n _ _ hf => ⟨.int k (bits k .and m n), by rw [binOp_and]; rfl, by simp only [Option.some.injEq] at hf; subst hf; simp [Rep]⟩
  | or => exact ints _ hv fun k m n _ _ hf => ⟨.int k (bits k .or m n), by rw [binOp_or]; rfl, by simp only [Option.some.injEq] at hf; subst hf; simp [Rep]⟩
  | xor => exact ints _ hv fun k m n _ _ hf => ⟨.int k (bits k .xor m n), by rw [binOp_xor]; rfl, by simp only [Option.some.injEq] at hf; subst hf; simp [Rep]⟩
  | andNot => exact ints _ hv fun k m n _ _ hf => ⟨.int k (bits k .andNot m n), by rw [binOp_andNot]; rfl, by simp only [Option.some.injEq] at hf; subst hf; simp [Rep]⟩
end
end Go.Abs
namespace Go.Abs
open Go
theorem sliceB_spec {P : Program} {t : TypeId} {x : TI} (h : sliceB P t x = true) : P.underlying t = some (.slice x.elem) := by
  unfold sliceB at h
  split at h
  · rename_i e he
    have := beq_iff_eq.1 h
    rw [he, this]
  · cases h
section
variable {X : Env} {o : Oper} {a : Act} {w : World} {I : Nat → Prop} {σ : Sig} {S S1 : St}
theorem sim_index_sl {t : TypeId} {x ix : Operand} (ho : o.op = .indexAddr t x ix) (hu : X.P.underlying t = some (.slice (X.ti t).elem)) (T : TIOk X.P (X.ti t).elem (X.ti (X.ti t).elem)) (R : Rel w I σ S.h) (F : FRel w I σ S.f a) (hx : Opds o)
    {c : Bool} {es : List V} {k : IntKind} {n : Int} {e : V} (he : S.ev x = .sl c es) (hi : S.ev ix = .int k n) (h0 : 0 ≤ n ∧ n < es.length) (hg : es[n.toNat]? = some e) (hk : e.cells.length = (X.ti (X.ti t).elem).size)
    (hs : S1 = S.set o.dst (.ref e.cells)) : Out X o a w I σ S S1 := by
  have h1 : Rep w I σ (S.ev x) (a.eval x) := ev_rep (S := S) F (hx x (by simp [ho, Op.operands]))
  have h2 : Rep w I σ (S.ev ix) (a.eval ix) := ev_rep (S := S) F (hx ix (by simp [ho, Op.operands]))
  rw [he] at h1; rw [hi] at h2
  have hi2 := rep_int h2
  simp only [Rep] at h1
  obtain ⟨ad, cap, hsl, _, _, _, hr⟩ := h1
  rcases hr with hr | ⟨b, of, kk, rfl, hI, hrow⟩
  · subst hr; simp at hg
  · have hgk := hrow.get hg
    have hkk : kk = (X.ti (X.ti t).elem).size := by rw [← hk]; exact hgk.1.symm
    refine Out.pure (u := .pointer (some ⟨b, of + n.toNat * (X.ti (X.ti t).elem).size, none⟩)) R ?_ ?_ hs
    · simp [execOp, ho, hsl, hi2, Instr.indexAt, run_underlying hu, asIntOf, h0, run_sizeOf T, add_at]
    · simp only [Rep]
      exact ⟨b, _, rfl, hI, by rw [RepAt_iff, ← hkk]; exact hgk.2⟩
theorem sim_index_hdr {t : TypeId} {x ix : Operand} (ho : o.op = .indexAddr t x ix) (hu : X.P.underlying t = some (.slice (X.ti t).elem)) (T : TIOk X.P (X.ti t).elem (X.ti (X.ti t).elem)) (R : Rel w I σ S.h) (F : FRel w I σ S.f a) (hx : Opds o)
    {id s l : Nat} {k : IntKind} {n : Int} {ob : Ob} (he : S.ev x = .hdr id s l) (hi : S.ev ix = .int k n) (h0 : 0 ≤ n ∧ n < l) (hg : S.h id = some ob) (hk : ob.k = (X.ti (X.ti t).elem).size)
    (hs : S1 = S.set o.dst (.ptr id (s + n.toNat) 0)) : Out X o a w I σ S S1 := by
  have h1 : Rep w I σ (S.ev x) (a.eval x) := ev_rep (S := S) F (hx x (by simp [ho, Op.operands]))
  have h2 : Rep w I σ (S.ev ix) (a.eval ix) := ev_rep (S := S) F (hx ix (by simp [ho, Op.operands]))
  rw [he] at h1; rw [hi] at h2
  have hi2 := rep_int h2
  simp only [Rep] at h1
  obtain ⟨ad, cap, hsl, hlc, _, hr⟩ := h1
  rcases hr with hr | ⟨b, of, kk, c, el, fz, hsg, rfl, hb, _⟩
  · omega
  · have hkk : kk = ob.k := by
      rcases R.obj id ob hg with ⟨_, hn⟩ | ⟨b', o', c', el', hs', _⟩
      · rw [hn] at hsg; cases hsg
      · rw [hs'] at hsg; simp at hsg; exact hsg.2.2.symm
    refine Out.pure (u := .pointer (some ⟨b, of + s * kk + n.toNat * kk, none⟩)) R ?_ ?_ hs
    · simp [execOp, ho, hsl, hi2, Instr.indexAt, run_underlying hu, asIntOf, h0, run_sizeOf T, add_at, hkk, hk]
    · simp only [Rep]
      exact ⟨b, of, kk, hsg, by rw [Nat.add_mul]; simp [Nat.add_assoc]⟩
theorem arr_spec {P : Program} {t : TypeId} {x : TI} (T : TIOk P t x) {m : Nat} (h : x.arr = some m) : P.underlying t = some (.array m x.elem) := by
  obtain ⟨d, hd, hb⟩ := T.und
  rw [hd]
  cases d <;> simp_all [descB]
theorem sim_index_arr {t : TypeId} {x ix : Operand} (ho : o.op = .indexAddr t x ix) (T0 : TIOk X.P t (X.ti t)) (T : TIOk X.P (X.ti t).elem (X.ti (X.ti t).elem)) (R : Rel w I σ S.h) (F : FRel w I σ S.f a) (hx : Opds o)
    {id j f m : Nat} {k : IntKind} {n : Int} (he : S.ev x = .ptr id j f) (hi : S.ev ix = .int k n) (hm : (X.ti t).arr = some m) (h0 : 0 ≤ n ∧ n < m)
    (hs : S1 = S.set o.dst (.ptr id j (f + n.toNat * (X.ti (X.ti t).elem).size))) : Out X o a w I σ S S1 := by
  have h1 : Rep w I σ (S.ev x) (a.eval x) := ev_rep (S := S) F (hx x (by simp [ho, Op.operands]))
  have h2 : Rep w I σ (S.ev ix) (a.eval ix) := ev_rep (S := S) F (hx ix (by simp [ho, Op.operands]))
  rw [he] at h1; rw [hi] at h2
  have hi2 := rep_int h2
  simp only [Rep] at h1
  obtain ⟨b, of, kk, hsg, hp⟩ := h1
  have hu := arr_spec T0 hm
  refine Out.pure (u := .pointer (some ⟨b, of + j * kk + f + n.toNat * (X.ti (X.ti t).elem).size, none⟩)) R ?_ ?_ hs
  · simp [execOp, ho, hp, hi2, Instr.indexAt, run_underlying hu, asIntOf, h0, run_sizeOf T, add_at, Instr.sureAddr]
  · simp only [Rep]
    exact ⟨b, of, kk, hsg, by simp [Nat.add_assoc]⟩
theorem run_part {P : Program} {t : TypeId} {x : TI} (T : TIOk P t x) {cs : List V} {us : Array Value} (hc : RepC w I σ cs us.toList) {f : Nat} {v : V} (hv : part x cs f = some v) :
    ∃ u, (Go.part t us f).run P w = .ok u w ∧ Rep w I σ v u := by
  have hl := ((RepC_iff _ _).1 hc).1
  unfold part at hv
  by_cases ha : x.agg = true
  · rw [if_pos ha] at hv
    split at hv
    · rename_i hle
      simp only [Option.some.injEq] at hv; subst hv
      refine ⟨.agg (us.extract f (f + x.size)), by simp [Go.part, run_isAgg T, ha, run_sizeOf T], ?_⟩
      simp only [Rep]
      refine ⟨_, rfl, ?_⟩
      rw [RepC_iff]
      refine ⟨by simp at hl ⊢; omega, fun j c u hcj huj => ?_⟩
      rw [List.getElem?_take] at hcj
      split at hcj
      · rename_i hj
        rw [List.getElem?_drop] at hcj
        have huj' : us.toList[f + j]? = some u := by
          simp only [Array.toList_extract, List.extract_eq_take_drop, List.getElem?_take, List.getElem?_drop] at huj
          split at huj
          · exact huj
          · cases huj
        exact ((RepC_iff _ _).1 hc).2 (f + j) c u hcj huj'
      · cases hcj
    · cases hv
  · rw [if_neg ha] at hv
    have ha' : x.agg = false := by simpa using ha
    obtain ⟨u, h1, _, h3⟩ := hc.get hv
    exact ⟨u, by have h1' : us[f]? = some u := by simpa using h1
                 simp [Go.part, run_isAgg T, ha', h1'], h3⟩
theorem sim_index_agg {t : TypeId} {x ix : Operand} (ho : o.op = .index t x ix) (T0 : TIOk X.P t (X.ti t)) (T : TIOk X.P (X.ti t).elem (X.ti (X.ti t).elem)) (R : Rel w I σ S.h) (F : FRel w I σ S.f a) (hx : Opds o)
    {cs : List V} {m : Nat} {k : IntKind} {n : Int} {v : V} (he : S.ev x = .agg cs) (hi : S.ev ix = .int k n) (hm : (X.ti t).arr = some m) (h0 : 0 ≤ n ∧ n < m)
    (hv : part (X.ti (X.ti t).elem) cs (n.toNat * (X.ti (X.ti t).elem).size) = some v) (hs : S1 = S.set o.dst v) : Out X o a w I σ S S1 := by
  have h1 : Rep w I σ (S.ev x) (a.eval x) := ev_rep (S := S) F (hx x (by simp [ho, Op.operands]))
  have h2 : Rep w I σ (S.ev ix) (a.eval ix) := ev_rep (S := S) F (hx ix (by simp [ho, Op.operands]))
  rw [he] at h1; rw [hi] at h2
  have hi2 := rep_int h2
  simp only [Rep] at h1
  obtain ⟨us, hp, hc⟩ := h1
  have hu := arr_spec T0 hm
  obtain ⟨u, hrun, hr⟩ := run_part T hc hv
  refine Out.pure (u := u) R ?_ hr hs
  simp [execOp, ho, hp, hi2, Instr.index, run_underlying hu, asIntOf, h0, run_sizeOf T, hrun]
theorem sim_field {t : TypeId} {x : Operand} {f : Nat} {fs : Array Field} {fd : Field} (ho : o.op = .field t x f) (hu : X.P.underlying t = some (.struct fs)) (hf : fs[f]? = some fd) (T : TIOk X.P fd.type (X.ti fd.type)) (R : Rel w I σ S.h) (F : FRel w I σ S.f a) (hx : Opds o)
    {cs : List V} {v : V} (he : S.ev x = .agg cs) (hv : part (X.ti fd.type) cs fd.offset = some v) (hs : S1 = S.set o.dst v) : Out X o a w I σ S S1 := by
  have h1 : Rep w I σ (S.ev x) (a.eval x) := ev_rep (S := S) F (hx x (by simp [ho, Op.operands]))
  rw [he] at h1
  simp only [Rep] at h1
  obtain ⟨us, hp, hc⟩ := h1
  obtain ⟨u, hrun, hr⟩ := run_part T hc hv
  refine Out.pure (u := u) R ?_ hr hs
  simp [execOp, ho, hp, Instr.field, asAgg, run_underlying hu, hf, hrun]
theorem sim_index_str {t : TypeId} {x ix : Operand} (ho : o.op = .index t x ix) (hu : X.P.underlying t = some .string) (R : Rel w I σ S.h) (F : FRel w I σ S.f a) (hx : Opds o)
    {s : List UInt8} {k : IntKind} {n : Int} {b : UInt8} (he : S.ev x = .str s) (hi : S.ev ix = .int k n) (h0 : 0 ≤ n) (hg : s[n.toNat]? = some b) (hs : S1 = S.set o.dst (.int .u8 b.toNat)) : Out X o a w I σ S S1 := by
  have h1 : Rep w I σ (S.ev x) (a.eval x) := ev_rep (S := S) F (hx x (by simp [ho, Op.operands]))
  have h2 : Rep w I σ (S.ev ix) (a.eval ix) := ev_rep (S := S) F (hx ix (by simp [ho, Op.operands]))
  rw [he] at h1; rw [hi] at h2
  have hi2 := rep_int h2
  obtain ⟨bs, hb, rfl⟩ := rep_str h1
  have hg' : bs[n.toNat]? = some b := by
    have hl : n.toNat < bs.data.toList.length := (List.getElem?_eq_some_iff.1 hg).1
    have hl' : n.toNat < bs.size := by simpa using hl
    rw [getElem?_pos bs n.toNat hl']
    have := (List.getElem?_eq_some_iff.1 hg).2
    simp at this
    rw [← this]; rfl
  refine Out.pure (u := .int .u8 b.toNat) R ?_ (by simp [Rep]) hs
  simp [execOp, ho, hb, hi2, Instr.index, run_underlying hu, asIntOf, h0, hg']
theorem sim_len {args : Array Operand} {tys : Array TypeId} {x : Operand} {m : Nat} (ho : o.op = .call ⟨.builtin .len, args, tys⟩) (ha : args.toList = [x]) {t : TypeId} (ht : tys[0]? = some t)
    (hu : ((∃ e, X.P.underlying t = some (.slice e)) ∧ (X.ti t).isStr = false) ∨ (X.P.underlying t = some .string ∧ (X.ti t).isStr = true)) (R : Rel w I σ S.h) (F : FRel w I σ S.f a) (hx : Opds o)
    (hst : (S.ev x).isStr = (X.ti t).isStr) (hl : lenV (S.ev x) = some m) (hs : S1 = S.set o.dst (.int .i64 m)) : Out X o a w I σ S S1 := by
  have harg : args = #[x] := by rw [← ha]
  have h1 : Rep w I σ (S.ev x) (a.eval x) := ev_rep (S := S) F (hx x (by simp [ho, Op.operands, Call.operands, harg]))
  refine Out.pure (u := .int .i64 m) R ?_ (by simp [Rep]) hs
  have hrun : (Builtin.len_ tys o.type #[a.eval x]).run X.P w = .ok (.int .i64 m) w := by
    rcases hu with ⟨⟨e, hu⟩, hn⟩ | ⟨hu, hn⟩
    · unfold lenV at hl
      split at hl
      · rename_i c es he
        rw [he] at h1; simp only [Rep] at h1
        obtain ⟨ad, cap, hv, _⟩ := h1
        simp only [Option.some.injEq] at hl; subst hl
        simp [Builtin.len_, ht, hv, run_underlying hu, goInt]
      · rename_i id s l he
        rw [he] at h1; simp only [Rep] at h1
        obtain ⟨ad, cap, hv, _⟩ := h1
        simp only [Option.some.injEq] at hl; subst hl
        simp [Builtin.len_, ht, hv, run_underlying hu, goInt]
      · rename_i s he; rw [he, hn] at hst; cases hst
      · cases hl
    · cases he : S.ev x with
      | str s =>
        rw [he] at h1 hl
        obtain ⟨bs, hb, rfl⟩ := rep_str h1
        simp only [lenV, Option.some.injEq] at hl; subst hl
        have : bs.data.toList.length = bs.size := Array.length_toList
        rw [this]
        simp [Builtin.len_, ht, hb, run_underlying hu, goInt]
      | _ => rw [he, hn] at hst; cases hst
  simp [execOp, ho, harg, resolve, invoke, builtin, hrun]
theorem bnd_spec {d m q : Nat} {v : Option V} (h : bnd d v m = some q) : (v = none ∧ q = d) ∨ ∃ k n, v = some (.int k n) ∧ 0 ≤ n ∧ n ≤ m ∧ q = n.toNat := by
  unfold bnd at h
  split at h
  · simp only [Option.some.injEq] at h; exact .inl ⟨rfl, h.symm⟩
  · rename_i k n
    split at h
    · rename_i hn
      simp only [Option.some.injEq] at h
      exact .inr ⟨k, n, rfl, hn.1, hn.2, h.symm⟩
    · cases h
  · cases h
theorem bounds_run {P : Program} {isS : Bool} {lo hi : Option V} {ulo uhi : Option Value} {n cap l h : Nat} (hb : bounds lo hi n = some (l, h)) (hn : n ≤ cap) (w : World)
    (hlo : ∀ v, lo = some v → ∃ u, ulo = some u ∧ Rep w I σ v u) (hlo' : lo = none → ulo = none) (hhi : ∀ v, hi = some v → ∃ u, uhi = some u ∧ Rep w I σ v u) (hhi' : hi = none → uhi = none) :
    (Instr.sliceBounds isS n cap ulo uhi none).run P w = .ok (l, h, cap) w ∧ l ≤ h ∧ h ≤ n := by
  unfold bounds at hb
  cases h1 : bnd n hi n with
  | none => simp [h1] at hb
  | some q =>
    simp only [h1] at hb
    cases h2 : bnd 0 lo q with
    | none => simp [h2] at hb
    | some p =>
      simp only [h2, Option.some.injEq, Prod.mk.injEq] at hb
      obtain ⟨rfl, rfl⟩ := hb
      rcases bnd_spec h1 with ⟨rfl, rfl⟩ | ⟨k, m, rfl, ha, hb', rfl⟩
      · rw [hhi' rfl]
        rcases bnd_spec h2 with ⟨rfl, rfl⟩ | ⟨k, m, rfl, ha, hb', rfl⟩
        · rw [hlo' rfl]
          exact ⟨by simp [Instr.sliceBounds], by omega, by omega⟩
        · obtain ⟨u, rfl, hr⟩ := hlo _ rfl
          rw [rep_int hr]
          exact ⟨by simp [Instr.sliceBounds, Instr.sliceBound, asIntOf, ha, hb'], by omega, by omega⟩
      · obtain ⟨u, rfl, hr⟩ := hhi _ rfl
        rw [rep_int hr]
        have hc : m ≤ (cap : Int) := by omega
        rcases bnd_spec h2 with ⟨rfl, rfl⟩ | ⟨k', m', rfl, ha', hb2, rfl⟩
        · rw [hlo' rfl]
          exact ⟨by simp [Instr.sliceBounds, Instr.sliceBound, asIntOf, ha, hc], by omega, by omega⟩
        · obtain ⟨u, rfl, hr⟩ := hlo _ rfl
          rw [rep_int hr]
          have hb3 : m' ≤ max m 0 := by omega
          exact ⟨by simp [Instr.sliceBounds, Instr.sliceBound, asIntOf, ha, hc, ha', hb3], by omega, by omega⟩
theorem bounds3_run {P : Program} {isS : Bool} {lo hi : Option V} {k1 k2 : IntKind} {q : Int} {ulo : Option Value} {n cap l h : Nat} (hb : bounds lo hi n = some (l, h)) (hh : hi = some (.int k2 q)) (hn : n ≤ cap) (w : World)
    (hlo : ∀ v, lo = some v → ∃ u, ulo = some u ∧ Rep w I σ v u) (hlo' : lo = none → ulo = none) :
    (Instr.sliceBounds isS n cap ulo (some (.int k2 q)) (some (.int k1 q))).run P w = .ok (l, h, h) w ∧ l ≤ h ∧ h ≤ n := by
  unfold bounds at hb
  cases h1 : bnd n hi n with
  | none => simp [h1] at hb
  | some z =>
    simp only [h1] at hb
    cases h2 : bnd 0 lo z with
    | none => simp [h2] at hb
    | some p =>
      simp only [h2, Option.some.injEq, Prod.mk.injEq] at hb
      obtain ⟨rfl, rfl⟩ := hb
      rcases bnd_spec h1 with ⟨h0, _⟩ | ⟨k, m, h0, ha, hb', rfl⟩
      · rw [hh] at h0; cases h0
      · rw [hh] at h0
        simp only [Option.some.injEq, V.int.injEq] at h0
        obtain ⟨rfl, rfl⟩ := h0
        have hc : q ≤ (cap : Int) := by omega
        have hq : q ≤ max q 0 := by omega
        rcases bnd_spec h2 with ⟨rfl, rfl⟩ | ⟨k', m', rfl, ha', hb2, rfl⟩
        · rw [hlo' rfl]
          exact ⟨by simp [Instr.sliceBounds, Instr.sliceBound, asIntOf, ha, hc, hq], by omega, by omega⟩
        · obtain ⟨u, rfl, hr⟩ := hlo _ rfl
          rw [rep_int hr]
          have hb3 : m' ≤ max q 0 := by omega
          exact ⟨by simp [Instr.sliceBounds, Instr.sliceBound, asIntOf, ha, hc, hq, ha', hb3], by omega, by omega⟩
theorem cut_sl {c : Bool} {es : List V} {u : Value} {kk l h m : Nat} (h1 : Rep w I σ (.sl c es) u) (hall : es.all (fun e => e.cells.length == kk) = true) (hlh : l ≤ h) (hhn : h ≤ es.length) (c' : Bool) (hm : h ≤ m) (hc' : c' = true → m = h) :
    ∃ ad cap, u = .slice ad es.length cap ∧ es.length ≤ cap ∧ (m ≤ cap → Rep w I σ (.sl c' ((es.take h).drop l)) (.slice (if m = l then ad else ad.map (·.add (l * kk))) (h - l) (m - l))) := by
  simp only [Rep] at h1
  obtain ⟨ad, cap, hsl, hle, hmx, _, hr⟩ := h1
  refine ⟨ad, cap, hsl, hle, fun hmc => ?_⟩
  simp only [Rep]
  have hlen : ((es.take h).drop l).length = h - l := by simp; omega
  refine ⟨_, _, by rw [hlen], by omega, by omega, fun hc => by have := hc' hc; omega, ?_⟩
  by_cases he : h = l
  · left; subst he; simp
  · right
    have hne : es ≠ [] := by intro h0; subst h0; simp at hhn; omega
    rcases hr with hr | ⟨b, of, k, rfl, hI, hrow⟩
    · exact absurd hr hne
    · have hk : k = kk := by
        cases es with
        | nil => exact absurd rfl hne
        | cons e es =>
          have := (hrow.get (i := 0) (e := e) (by simp)).1
          have h2 := List.all_eq_true.1 hall e (by simp)
          simp at h2
          omega
      subst hk
      have hrow' := hrow.seg l (h - l)
      refine ⟨b, of + l * k, k, ?_, hI, by rw [List.drop_take]; exact hrow'⟩
      rw [if_neg (by omega)]
      simp [add_at]
theorem opt_rep {S : St} {a : Act} {o : Oper} (F : FRel w I σ S.f a) (hx : Opds o) (q : Option Operand) (hq : ∀ y, q = some y → y ∈ o.op.operands.toList) :
    (∀ v, q.map S.ev = some v → ∃ u, q.map a.eval = some u ∧ Rep w I σ v u) ∧ (q.map S.ev = none → q.map a.eval = none) := by
  cases q with
  | none => simp
  | some y =>
    refine ⟨fun v hv => ⟨a.eval y, rfl, ?_⟩, by simp⟩
    simp at hv; subst hv
    exact ev_rep (S := S) F (hx y (hq y rfl))
theorem sim_slice_sl {t : TypeId} {x : Operand} {lo hi : Option Operand} (ho : o.op = .slice t x lo hi none) (R : Rel w I σ S.h) (F : FRel w I σ S.f a) (hx : Opds o)
    (hu : X.P.underlying t = some (.slice (X.ti t).elem)) (T : TIOk X.P (X.ti t).elem (X.ti (X.ti t).elem)) {c : Bool} {es : List V} {l h : Nat} (he : S.ev x = .sl c es)
    (hall : es.all (fun e => e.cells.length == (X.ti (X.ti t).elem).size) = true) (hb : bounds (lo.map S.ev) (hi.map S.ev) es.length = some (l, h)) (hs : S1 = S.set o.dst (.sl false ((es.take h).drop l))) : Out X o a w I σ S S1 := by
  have h1 : Rep w I σ (S.ev x) (a.eval x) := ev_rep (S := S) F (hx x (by simp [ho, Op.operands]))
  have olo := opt_rep F hx lo (by intro y hy; subst hy; simp [ho, Op.operands])
  have ohi := opt_rep F hx hi (by intro y hy; subst hy; simp [ho, Op.operands])
  rw [he] at h1
  have hcap : ∃ ad cap, a.eval x = .slice ad es.length cap ∧ es.length ≤ cap := by
    simp only [Rep] at h1; obtain ⟨ad, cap, e1, e2, _⟩ := h1; exact ⟨ad, cap, e1, e2⟩
  obtain ⟨ad, cap, hsl, hle⟩ := hcap
  have hbr := bounds_run (isS := true) (P := X.P) hb hle w olo.1 olo.2 ohi.1 ohi.2
  obtain ⟨ad', cap', e1, e2, e3⟩ := cut_sl h1 hall hbr.2.1 hbr.2.2 false (m := cap) (by omega) (by simp)
  rw [hsl] at e1; simp at e1; obtain ⟨rfl, rfl⟩ := e1
  refine Out.pure (u := _) R ?_ (e3 (Nat.le_refl _)) hs
  simp [execOp, ho, hsl, Instr.sliceAt, Instr.slice, run_underlying hu, hbr.1, run_sizeOf T]
theorem sim_slice3_sl {t : TypeId} {x m : Operand} {lo hi : Option Operand} (ho : o.op = .slice t x lo hi (some m)) (R : Rel w I σ S.h) (F : FRel w I σ S.f a) (hx : Opds o)
    (hu : X.P.underlying t = some (.slice (X.ti t).elem)) (T : TIOk X.P (X.ti t).elem (X.ti (X.ti t).elem)) {c : Bool} {es : List V} {l h : Nat} {k1 k2 : IntKind} {q : Int} (he : S.ev x = .sl c es)
    (hall : es.all (fun e => e.cells.length == (X.ti (X.ti t).elem).size) = true) (hm : S.ev m = .int k1 q) (hh : hi.map S.ev = some (.int k2 q)) (hb : bounds (lo.map S.ev) (hi.map S.ev) es.length = some (l, h))
    (hs : S1 = S.set o.dst (.sl true ((es.take h).drop l))) : Out X o a w I σ S S1 := by
  have h1 : Rep w I σ (S.ev x) (a.eval x) := ev_rep (S := S) F (hx x (by simp [ho, Op.operands]))
  have h2 : Rep w I σ (S.ev m) (a.eval m) := ev_rep (S := S) F (hx m (by simp [ho, Op.operands]))
  have olo := opt_rep F hx lo (by intro y hy; subst hy; simp [ho, Op.operands])
  have ohi := opt_rep F hx hi (by intro y hy; subst hy; simp [ho, Op.operands])
  rw [he] at h1
  rw [hm] at h2
  have hm2 := rep_int h2
  obtain ⟨uh, hu1, hu2⟩ := ohi.1 _ hh
  have hu3 := rep_int hu2
  subst hu3
  have hcap : ∃ ad cap, a.eval x = .slice ad es.length cap ∧ es.length ≤ cap := by
    simp only [Rep] at h1; obtain ⟨ad, cap, e1, e2, _⟩ := h1; exact ⟨ad, cap, e1, e2⟩
  obtain ⟨ad, cap, hsl, hle⟩ := hcap
  have hbr := bounds3_run (isS := true) (P := X.P) (k1 := k1) (k2 := k2) (q := q) hb hh hle w olo.1 olo.2
  obtain ⟨ad', cap', e1, e2, e3⟩ := cut_sl h1 hall hbr.2.1 hbr.2.2 true (m := h) (Nat.le_refl _) (by simp)
  rw [hsl] at e1; simp at e1; obtain ⟨rfl, rfl⟩ := e1
  refine Out.pure (u := _) R ?_ (e3 (by omega)) hs
  simp [execOp, ho, hsl, Instr.sliceAt, Instr.slice, run_underlying hu, hm2, hu1, hbr.1, run_sizeOf T]
theorem cut_hdr {h : Heap} (R : Rel w I σ h) {id s n : Nat} {u : Value} {kk l hh m : Nat} {ob : Ob} (h1 : Rep w I σ (.hdr id s n) u) (hob : h id = some ob) (hk : ob.k = kk) (hlh : l ≤ hh) (hhn : hh ≤ n) (hm : hh ≤ m) :
    ∃ ad cap, u = .slice ad n cap ∧ n ≤ cap ∧ (m ≤ cap → Rep w I σ (.hdr id (s + l) (hh - l)) (.slice (if m = l then ad else ad.map (·.add (l * kk))) (hh - l) (m - l))) := by
  simp only [Rep] at h1
  obtain ⟨ad, cap, hsl, hle, hmx, hr⟩ := h1
  refine ⟨ad, cap, hsl, hle, fun hmc => ?_⟩
  simp only [Rep]
  refine ⟨_, _, rfl, by omega, by omega, ?_⟩
  by_cases he : m = l
  · left; omega
  · right
    rcases hr with hr | ⟨b, of, k, c, el, fz, hsg, rfl, hb, hcl⟩
    · omega
    · have hkk : k = ob.k := by
        rcases R.obj id ob hob with ⟨_, hn⟩ | ⟨b', o', c', el', hs', _⟩
        · rw [hn] at hsg; cases hsg
        · rw [hs'] at hsg; simp at hsg; exact hsg.2.2.symm
      refine ⟨b, of, k, c, el, fz, hsg, ?_, hb, ?_⟩
      · rw [if_neg he, ← hk, ← hkk]
        simp [add_at, Nat.add_mul, Nat.add_assoc]
      · have : (s + l + (m - l)) * k ≤ (s + cap) * k := Nat.mul_le_mul_right _ (by omega)
        omega
theorem sim_slice_hdr {t : TypeId} {x : Operand} {lo hi : Option Operand} (ho : o.op = .slice t x lo hi none) (R : Rel w I σ S.h) (F : FRel w I σ S.f a) (hx : Opds o)
    (hu : X.P.underlying t = some (.slice (X.ti t).elem)) (T : TIOk X.P (X.ti t).elem (X.ti (X.ti t).elem)) {id s n l h : Nat} {ob : Ob} (he : S.ev x = .hdr id s n) (hob : S.h id = some ob) (hk : ob.k = (X.ti (X.ti t).elem).size)
    (hb : bounds (lo.map S.ev) (hi.map S.ev) n = some (l, h)) (hs : S1 = S.set o.dst (.hdr id (s + l) (h - l))) : Out X o a w I σ S S1 := by
  have h1 : Rep w I σ (S.ev x) (a.eval x) := ev_rep (S := S) F (hx x (by simp [ho, Op.operands]))
  have olo := opt_rep F hx lo (by intro y hy; subst hy; simp [ho, Op.operands])
  have ohi := opt_rep F hx hi (by intro y hy; subst hy; simp [ho, Op.operands])
  rw [he] at h1
  have hcap : ∃ ad cap, a.eval x = .slice ad n cap ∧ n ≤ cap := by
    simp only [Rep] at h1; obtain ⟨ad, cap, e1, e2, _⟩ := h1; exact ⟨ad, cap, e1, e2⟩
  obtain ⟨ad, cap, hsl, hle⟩ := hcap
  have hbr := bounds_run (isS := true) (P := X.P) hb hle w olo.1 olo.2 ohi.1 ohi.2
  obtain ⟨ad', cap', e1, e2, e3⟩ := cut_hdr R h1 hob hk hbr.2.1 hbr.2.2 (m := cap) (by omega)
  rw [hsl] at e1; simp at e1; obtain ⟨rfl, rfl⟩ := e1
  refine Out.pure (u := _) R ?_ (e3 (Nat.le_refl _)) hs
  simp [execOp, ho, hsl, Instr.sliceAt, Instr.slice, run_underlying hu, hbr.1, run_sizeOf T]
theorem sim_slice3_hdr {t : TypeId} {x m : Operand} {lo hi : Option Operand} (ho : o.op = .slice t x lo hi (some m)) (R : Rel w I σ S.h) (F : FRel w I σ S.f a) (hx : Opds o)
    (hu : X.P.underlying t = some (.slice (X.ti t).elem)) (T : TIOk X.P (X.ti t).elem (X.ti (X.ti t).elem)) {id s n l h : Nat} {ob : Ob} {k1 k2 : IntKind} {q : Int} (he : S.ev x = .hdr id s n) (hob : S.h id = some ob) (hk : ob.k = (X.ti (X.ti t).elem).size)
    (hm : S.ev m = .int k1 q) (hh : hi.map S.ev = some (.int k2 q)) (hb : bounds (lo.map S.ev) (hi.map S.ev) n = some (l, h)) (hs : S1 = S.set o.dst (.hdr id (s + l) (h - l))) : Out X o a w I σ S S1 := by
  have h1 : Rep w I σ (S.ev x) (a.eval x) := ev_rep (S := S) F (hx x (by simp [ho, Op.operands]))
  have h2 : Rep w I σ (S.ev m) (a.eval m) := ev_rep (S := S) F (hx m (by simp [ho, Op.operands]))
  have olo := opt_rep F hx lo (by intro y hy; subst hy; simp [ho, Op.operands])
  have ohi := opt_rep F hx hi (by intro y hy; subst hy; simp [ho, Op.operands])
  rw [he] at h1
  rw [hm] at h2
  have hm2 := rep_int h2
  obtain ⟨uh, hu1, hu2⟩ := ohi.1 _ hh
  have hu3 := rep_int hu2
  subst hu3
  have hcap : ∃ ad cap, a.eval x = .slice ad n cap ∧ n ≤ cap := by
    simp only [Rep] at h1; obtain ⟨ad, cap, e1, e2, _⟩ := h1; exact ⟨ad, cap, e1, e2⟩
  obtain ⟨ad, cap, hsl, hle⟩ := hcap
  have hbr := bounds3_run (isS := true) (P := X.P) (k1 := k1) (k2 := k2) (q := q) hb hh hle w olo.1 olo.2
  obtain ⟨ad', cap', e1, e2, e3⟩ := cut_hdr R h1 hob hk hbr.2.1 hbr.2.2 (m := h) (Nat.le_refl _)
  rw [hsl] at e1; simp at e1; obtain ⟨rfl, rfl⟩ := e1
  refine Out.pure (u := _) R ?_ (e3 (by omega)) hs
  simp [execOp, ho, hsl, Instr.sliceAt, Instr.slice, run_underlying hu, hm2, hu1, hbr.1, run_sizeOf T]
theorem sim_slice_str {t : TypeId} {x : Operand} {lo hi : Option Operand} (ho : o.op = .slice t x lo hi none) (R : Rel w I σ S.h) (F : FRel w I σ S.f a) (hx : Opds o)
    (hu : X.P.underlying t = some .string) {s : List UInt8} {l h : Nat} (he : S.ev x = .str s) (hb : bounds (lo.map S.ev) (hi.map S.ev) s.length = some (l, h)) (hs : S1 = S.set o.dst (.str ((s.take h).drop l))) : Out X o a w I σ S S1 := by
  have h1 : Rep w I σ (S.ev x) (a.eval x) := ev_rep (S := S) F (hx x (by simp [ho, Op.operands]))
  have olo := opt_rep F hx lo (by intro y hy; subst hy; simp [ho, Op.operands])
  have ohi := opt_rep F hx hi (by intro y hy; subst hy; simp [ho, Op.operands])
  rw [he] at h1
  obtain ⟨bs, hbs, rfl⟩ := rep_str h1
  have hl : bs.data.toList.length = bs.size := Array.length_toList
  rw [hl] at hb
  have hbr := bounds_run (isS := false) (P := X.P) hb (Nat.le_refl _) w olo.1 olo.2 ohi.1 ohi.2
  refine Out.pure (u := .string (bs.extract l h)) R ?_ ?_ hs
  · simp [execOp, ho, hbs, Instr.sliceAt, Instr.slice, run_underlying hu, hbr.1]
  · simp only [Rep]
    exact ⟨_, rfl, by simp [ByteArray.data_extract, List.extract_eq_take_drop, List.drop_take]⟩
end
end Go.Abs
