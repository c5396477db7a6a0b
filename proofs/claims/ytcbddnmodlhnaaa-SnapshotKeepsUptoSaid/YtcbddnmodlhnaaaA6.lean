/- Types, frames, loads and stores. -/
import Derived.Test.YtcbddnmodlhnaaaA5
set_option linter.unusedVariables false
set_option linter.unusedSimpArgs false
namespace Go.Abs
open Go

/- what the table says of a type -/
def cellZ : V → Value → Bool
  | .int k n, .int k' n' => k == k' && n == n'
  | .bool b, .bool b' => b == b'
  | .str [], .string s => s.data.toList.isEmpty
  | .sl true [], .slice none 0 0 => true
  | .nilp, .pointer none => true
  | .bad, u => u.oneCell'
  | _, _ => false
def cellsZ : List V → List Value → Bool
  | [], [] => true
  | c :: cs, u :: us => cellZ c u && cellsZ cs us
  | _, _ => false
def zeroB : V → Value → Bool
  | .agg cs, .agg us => cellsZ cs us.toList
  | .agg _, _ => false
  | v, u => cellZ v u

def descB (P : Program) (x : TI) : TypeDesc → Bool
  | .struct fs => x.agg && x.flds == (fs.toList.map fun f => (f.offset, P.cellsOf f.type)) && x.arr == none && x.kind == none && fs.toList.all fun f => decide (0 < P.cellsOf f.type)
  | .array n e => x.agg && x.arr == some n && x.elem == e && x.kind == none && x.flds == []
  | .slice e => !x.agg && x.elem == e && x.arr == none && x.kind == none && x.flds == []
  | .int k => !x.agg && x.kind == some k && x.arr == none && x.flds == []
  | _ => !x.agg && x.kind == none && x.arr == none && x.flds == []

def tiB (P : Program) (t : TypeId) (x : TI) : Bool :=
  match P.info? t, P.underlying t with
  | some i, some d => i.size == x.size && i.bytes == x.bytes && decide (0 < x.size) && descB P x d && (match i.zero with
    | some z => zeroB x.zero z && x.zero.cells.length == x.size && x.zero.fits x.size
    | none => false)
  | _, _ => false

structure TIOk (P : Program) (t : TypeId) (x : TI) : Prop where
  info : ∃ i z, P.info? t = some i ∧ i.size = x.size ∧ i.bytes = x.bytes ∧ i.zero = some z ∧ zeroB x.zero z = true
  pos : 0 < x.size
  und : ∃ d, P.underlying t = some d ∧ descB P x d = true
  zlen : x.zero.cells.length = x.size
  zfit : x.zero.fits x.size = true

theorem tiOk {P : Program} {t : TypeId} {x : TI} (h : tiB P t x = true) : TIOk P t x := by
  unfold tiB at h
  split at h
  · rename_i i d hi hd
    cases hz : i.zero with
    | none => simp [hz] at h
    | some z =>
      simp only [hz, Bool.and_eq_true, beq_iff_eq, decide_eq_true_eq] at h
      obtain ⟨⟨⟨⟨h1, h2⟩, h3⟩, h4⟩, ⟨h5, h6⟩, h7⟩ := h
      exact ⟨⟨i, z, hi, h1, h2, hz, h5⟩, h3, ⟨d, hd, h4⟩, h6, h7⟩
  · cases h

section
variable {w : World} {I : Nat → Prop} {σ : Sig}

theorem cellZ_rep {c : V} {u : Value} (h : cellZ c u = true) : u.oneCell' = true ∧ Rep w I σ c u := by
  unfold cellZ at h
  split at h
  · simp only [Bool.and_eq_true, beq_iff_eq] at h; obtain ⟨rfl, rfl⟩ := h; exact ⟨rfl, by simp [Rep]⟩
  · simp only [beq_iff_eq] at h; subst h; exact ⟨rfl, by simp [Rep]⟩
  · rename_i s; exact ⟨rfl, by simp only [Rep]; exact ⟨s, rfl, List.isEmpty_iff.1 h⟩⟩
  · exact ⟨rfl, by simp only [Rep]; exact ⟨none, 0, rfl, Nat.le_refl _, Nat.zero_le _, fun _ => rfl, .inl (by simp)⟩⟩
  · exact ⟨rfl, by simp [Rep]⟩
  · exact ⟨h, by simp [Rep]⟩
  · cases h

theorem cellsZ_rep : ∀ {cs : List V} {us : List Value}, cellsZ cs us = true → RepC w I σ cs us
  | [], [], _ => by simp [RepC]
  | c :: cs, u :: us, h => by
    simp only [cellsZ, Bool.and_eq_true] at h
    have := cellZ_rep (w := w) (I := I) (σ := σ) h.1
    simp only [RepC]
    exact ⟨u, us, rfl, this.1, this.2, cellsZ_rep h.2⟩
  | [], _ :: _, h => by simp [cellsZ] at h
  | _ :: _, [], h => by simp [cellsZ] at h

/-- the cells of a value that fits -/
theorem Rep.cells {v : V} {u : Value} {k : Nat} (hr : Rep w I σ v u) (hf : v.fits k = true) : v.cells.length = k ∧ RepC w I σ v.cells u.cells.toList := by
  cases v with
  | agg cs =>
    simp only [Rep] at hr
    obtain ⟨us, rfl, h⟩ := hr
    exact ⟨by simpa [V.fits, V.cells] using hf, h⟩
  | tup _ => simp [V.fits] at hf
  | bad => simp [V.fits] at hf
  | _ =>
    have hk : k = 1 := by simpa [V.fits] using hf
    refine ⟨by simp [V.cells, hk], ?_⟩
    simp only [V.cells, RepC]
    have hr' := hr
    simp only [Rep] at hr'
    first
      | (subst hr'; exact ⟨_, _, rfl, rfl, hr, rfl⟩)
      | (obtain ⟨x, rfl, _⟩ := hr'; exact ⟨_, _, rfl, rfl, hr, rfl⟩)
      | (obtain ⟨x, y, rfl, _⟩ := hr'; exact ⟨_, _, rfl, rfl, hr, rfl⟩)
      | (obtain ⟨x, y, z, _, rfl⟩ := hr'; exact ⟨_, _, rfl, rfl, hr, rfl⟩)

theorem zero_rep {P : Program} {t : TypeId} {x : TI} (T : TIOk P t x) {z : Value} (hz : zeroB x.zero z = true) : Rep w I σ x.zero z := by
  have := T.zfit
  unfold zeroB at hz
  split at hz
  · rename_i cs us h1
    rw [h1]
    simp only [Rep]
    exact ⟨us, rfl, cellsZ_rep hz⟩
  · cases hz
  · exact (cellZ_rep hz).2
end

/-- the frame's slots hold what the abstract ones say -/
def FRel (w : World) (I : Nat → Prop) (σ : Sig) (f : Nat → V) (a : Act) : Prop := ∀ t, Rep w I σ (f t) (a.tmps.getD t undef)

theorem FRel.ext {w w' : World} {I I' : Nat → Prop} {σ σ' : Sig} {f : Nat → V} {a : Act} (F : FRel w I σ f a) (E : Ext w I σ w' I' σ') : FRel w' I' σ' f a :=
  fun t => (F t).ext E

theorem FRel.put {w : World} {I : Nat → Prop} {σ : Sig} {f : Nat → V} {a : Act} (F : FRel w I σ f a) {v : V} {u : Value} (hr : Rep w I σ v u) (d : Nat) (hd : d < a.tmps.size) :
    FRel w I σ (upd f d v) (a.put (some d) u) := by
  intro t
  unfold upd
  simp only [Act.put]
  by_cases e : t = d
  · subst e
    simp only [if_true]
    have : (a.tmps.setIfInBounds t u).getD t undef = u := by simp [Array.getD, hd]
    rw [this]; exact hr
  · simp only [e, if_false]
    have : (a.tmps.setIfInBounds d u).getD t undef = a.tmps.getD t undef := by
      simp only [Array.getD, Array.size_setIfInBounds]
      split
      · rename_i ht
        show (a.tmps.setIfInBounds d u)[t]'_ = a.tmps[t]
        rw [Array.getElem_setIfInBounds_ne]
        exact Ne.symm e
      · rfl
    rw [this]; exact F t

/-- constants that may stand in code -/
def constB : Value → Bool
  | .agg cs => cs.toList.all Value.oneCell'
  | _ => true

def opdB : Operand → Bool
  | .const v => constB v
  | _ => true

theorem ofSc_rep {w : World} {I : Nat → Prop} {σ : Sig} (u : Value) : Rep w I σ (ofSc u) u := by
  unfold ofSc
  split
  · simp [Rep]
  · simp [Rep]
  · simp only [Rep]; exact ⟨_, rfl, rfl⟩
  · simp [Rep]
  · simp only [Rep]; exact ⟨none, 0, rfl, Nat.le_refl _, Nat.zero_le _, fun _ => rfl, .inl (by simp)⟩
  · simp [Rep]

theorem ofVal_rep {w : World} {I : Nat → Prop} {σ : Sig} {u : Value} (h : constB u = true) : Rep w I σ (ofVal u) u := by
  unfold ofVal
  split
  · rename_i cs
    simp only [Rep]
    refine ⟨cs, rfl, ?_⟩
    rw [RepC_iff]
    refine ⟨by simp, fun j c x hc hx => ?_⟩
    rw [List.getElem?_map, hx] at hc
    simp at hc
    subst hc
    exact ⟨List.all_eq_true.1 h x (List.mem_of_getElem? hx), ofSc_rep x⟩
  · exact ofSc_rep u

theorem ev_rep {w : World} {I : Nat → Prop} {σ : Sig} {S : St} {a : Act} (F : FRel w I σ S.f a) {x : Operand} (hx : opdB x = true) : Rep w I σ (S.ev x) (a.eval x) := by
  cases x with
  | tmp t => exact F t
  | const v => exact ofVal_rep hx
  | global g => simp [St.ev, Rep]
  | func g =>
    simp only [St.ev, Act.eval, Rep]
    exact ⟨#[], #[], rfl, by simp [RepL], by simp [RepL]⟩

/- loads -/
theorem run_isAgg {P : Program} {t : TypeId} {x : TI} (T : TIOk P t x) (w : World) : (isAgg t).run P w = .ok x.agg w := by
  obtain ⟨d, hd, hb⟩ := T.und
  unfold isAgg
  rw [Sem.run_bind, run_underlying hd]
  cases d <;> simp_all [descB]

theorem run_sizeOf {P : Program} {t : TypeId} {x : TI} (T : TIOk P t x) (w : World) : (sizeOf t).run P w = .ok x.size w := by
  obtain ⟨i, z, hi, hs, _⟩ := T.info
  simp [sizeOf, typeInfo, hi, hs]

theorem add_at (b o j : Nat) : (⟨b, o, none⟩ : Addr).add j = ⟨b, o + j, none⟩ := by
  unfold Addr.add; split
  · subst_vars; rfl
  · rfl

/-- the values that lie in some cells -/
theorem CAt.vals {w : World} {I : Nat → Prop} {σ : Sig} {cs : List V} {b o : Nat} (h : CAt w I σ cs b o) :
    ∃ us : List Value, us.length = cs.length ∧ (∀ j u, us[j]? = some u → w.cell? ⟨b, o + j, none⟩ = some u) ∧ RepC w I σ cs us := by
  induction cs generalizing o with
  | nil => exact ⟨[], rfl, by simp, by simp [RepC]⟩
  | cons c cs ih =>
    obtain ⟨u, h1, h2, h3⟩ := h 0 c (by simp)
    obtain ⟨us, hl, hu, hr⟩ := ih (o := o + 1) (fun j x hj => by
      have := h (j + 1) x (by simpa using hj)
      rwa [show o + (j + 1) = o + 1 + j by omega] at this)
    refine ⟨u :: us, by simp [hl], fun j x hj => ?_, by simp only [RepC]; exact ⟨u, us, rfl, h2, h3, hr⟩⟩
    cases j with
    | zero => simp at hj; subst hj; simpa using h1
    | succ j =>
      have := hu j x (by simpa using hj)
      rwa [show o + 1 + j = o + (j + 1) by omega] at this

theorem CAt.seg {w : World} {I : Nat → Prop} {σ : Sig} {cs : List V} {b o : Nat} (h : CAt w I σ cs b o) (f n : Nat) : CAt w I σ ((cs.drop f).take n) b (o + f) := by
  intro j c hj
  rw [List.getElem?_take] at hj
  split at hj
  · rw [List.getElem?_drop] at hj
    have := h (f + j) c hj
    rwa [show o + (f + j) = o + f + j by omega] at this
  · cases hj

theorem load_sim {P : Program} {t : TypeId} {x : TI} (T : TIOk P t x) {w : World} {I : Nat → Prop} {σ : Sig} {cs : List V} {b o f : Nat} (h : CAt w I σ cs b o) {v : V} (hv : part x cs f = some v) :
    ∃ u, (loadVar t ⟨b, o + f, none⟩).run P w = .ok u w ∧ Rep w I σ v u := by
  unfold part at hv
  by_cases ha : x.agg = true
  · rw [if_pos ha] at hv
    split at hv
    · rename_i hle
      simp at hv
      subst hv
      obtain ⟨us, hl, hu, hr⟩ := (h.seg f x.size).vals
      have hlen : us.length = x.size := by rw [hl]; simp; omega
      refine ⟨.agg us.toArray, ?_, by simp only [Rep]; exact ⟨us.toArray, rfl, by simpa using hr⟩⟩
      have hld := run_loadCells_list (P := P) w ⟨b, o + f, none⟩ us (fun j u hj => by rw [add_at]; exact hu j u hj)
      rw [hlen] at hld
      simp [loadVar, run_isAgg T, ha, run_sizeOf T, hld]
    · cases hv
  · rw [if_neg ha] at hv
    obtain ⟨u, h1, h2, h3⟩ := h f v hv
    refine ⟨u, ?_, h3⟩
    have ha' : x.agg = false := by simpa using ha
    simp [loadVar, run_isAgg T, ha', h1]

/- stores -/
theorem RepC.get {w : World} {I : Nat → Prop} {σ : Sig} {cs : List V} {us : List Value} (h : RepC w I σ cs us) {j : Nat} {c : V} (hc : cs[j]? = some c) :
    ∃ u, us[j]? = some u ∧ u.oneCell' = true ∧ Rep w I σ c u := by
  rw [RepC_iff] at h
  have hj : j < cs.length := (List.getElem?_eq_some_iff.1 hc).1
  have hu : us[j]? = some (us[j]'(by omega)) := by simp
  exact ⟨_, hu, h.2 j c _ hc hu⟩

theorem RepC.ones {w : World} {I : Nat → Prop} {σ : Sig} {cs : List V} {us : List Value} (h : RepC w I σ cs us) : ∀ u ∈ us, u.oneCell' = true := by
  intro u hu
  rw [RepC_iff] at h
  obtain ⟨j, hj, rfl⟩ := List.mem_iff_getElem.1 hu
  have hc : cs[j]? = some (cs[j]'(by omega)) := by simp
  exact (h.2 j _ us[j] hc (by simp)).1

theorem splice_length : ∀ (n : Nat) (cs xs : List V), (splice n cs xs).length = xs.length
  | 0, [], xs => by cases xs <;> simp [splice]
  | 0, c :: cs, x :: xs => by simp [splice, splice_length 0 cs xs]
  | 0, _ :: _, [] => by simp [splice]
  | n + 1, cs, x :: xs => by simp [splice, splice_length n cs xs]
  | n + 1, cs, [] => by simp [splice]

theorem splice_get : ∀ (n : Nat) (cs xs : List V) (j : Nat), n + cs.length ≤ xs.length → (splice n cs xs)[j]? = if n ≤ j ∧ j < n + cs.length then cs[j - n]? else xs[j]?
  | 0, [], xs, j, _ => by
    have : ¬ (0 ≤ j ∧ j < 0 + 0) := by omega
    cases xs <;> simp [splice]
  | 0, c :: cs, x :: xs, j, h => by
    simp only [splice]
    cases j with
    | zero => simp
    | succ j =>
      have := splice_get 0 cs xs j (by simp at h ⊢; omega)
      simp only [List.getElem?_cons_succ, this, List.length_cons]
      by_cases hj : j < cs.length
      · simp [hj]
      · simp [hj]
  | 0, _ :: _, [], j, h => by simp at h
  | n + 1, cs, x :: xs, j, h => by
    simp only [splice]
    cases j with
    | zero => simp
    | succ j =>
      have := splice_get n cs xs j (by simp at h ⊢; omega)
      simp only [List.getElem?_cons_succ, this]
      by_cases hj : n ≤ j ∧ j < n + cs.length
      · rw [if_pos hj, if_pos (by omega)]; congr 1; omega
      · rw [if_neg hj, if_neg (by omega)]
  | n + 1, cs, [], j, h => by simp at h

theorem put_cells {e v : V} {f k : Nat} (hk : 0 < k) (hf : v.fits k = true) (hle : f + k ≤ e.cells.length) : (e.put f v).cells = splice f v.cells e.cells := by
  cases e with
  | agg xs => simp [V.put, V.cells]
  | _ =>
    simp only [V.cells, List.length_cons, List.length_nil] at hle ⊢
    have h0 : f = 0 := by omega
    subst h0
    cases v with
    | agg cs =>
      simp [V.fits] at hf
      rcases cs with _ | ⟨c, cs⟩
      · simp at hf; omega
      · simp at hf
        have : cs = [] := by apply List.eq_nil_of_length_eq_zero; omega
        subst this
        simp [V.put, V.cells, splice]
    | tup _ => simp [V.fits] at hf
    | bad => simp [V.fits] at hf
    | _ => simp [V.put, V.cells, splice]

end Go.Abs
