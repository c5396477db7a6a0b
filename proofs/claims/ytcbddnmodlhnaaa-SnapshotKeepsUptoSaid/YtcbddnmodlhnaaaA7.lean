/- Stores, new objects, and what a value is as an immutable one. -/
import Derived.Test.YtcbddnmodlhnaaaA6
set_option linter.unusedVariables false
set_option linter.unusedSimpArgs false
namespace Go.Abs
open Go

theorem Ext.setRow {w : World} {I : Nat → Prop} {σ : Sig} {b : Nat} {c c' : Array Value} {el : TypeId} (hI : ¬ I b) (hb : w.heap[b]? = some (Obj.cells c el (0, 0))) (hsz : c'.size = c.size) :
    Ext w I σ (w.setRow b c') I σ := by
  refine ⟨fun b' hb' => setRow_other w b b' c' (fun e => hI (e ▸ hb')), fun b' c1 el1 fz hc => ?_, fun _ h => h, fun _ _ h => h⟩
  by_cases e : b' = b
  · subst e
    rw [hb] at hc
    simp at hc
    obtain ⟨rfl, rfl, rfl⟩ := hc
    exact ⟨c', (0, 0), setRow_heap w b' c c' el (0, 0) hb, hsz⟩
  · exact ⟨c1, fz, by rw [setRow_other w b b' c' e]; exact hc, rfl⟩

/-- a row with values written over a part -/
def over (c : Array Value) (p : Nat) (us : List Value) : Array Value := (c.toList.take p ++ us ++ c.toList.drop (p + us.length)).toArray

theorem over_size {c : Array Value} {p : Nat} {us : List Value} (h : p + us.length ≤ c.size) : (over c p us).size = c.size := by
  simp [over]; omega

theorem over_get {c : Array Value} {p : Nat} {us : List Value} (h : p + us.length ≤ c.size) (j : Nat) : (over c p us)[j]? = if p ≤ j ∧ j < p + us.length then us[j - p]? else c[j]? := by
  simp only [over, List.getElem?_toArray]
  by_cases h1 : j < p
  · rw [if_neg (by omega), List.append_assoc, List.getElem?_append_left (by simp; omega), List.getElem?_take, if_pos h1]; simp
  · by_cases h2 : j < p + us.length
    · rw [if_pos (by omega), List.getElem?_append_left (by simp; omega), List.getElem?_append_right (by simp; omega)]
      congr 1; simp; omega
    · rw [if_neg (by omega), List.getElem?_append_right (by simp; omega), List.getElem?_drop]
      simp only [List.length_append, List.length_take, Array.length_toList]
      rw [show p + us.length + (j - (min p c.size + us.length)) = j by omega]; simp

theorem storeVar_run {P : Program} {t : TypeId} {x : TI} (T : TIOk P t x) {w : World} {b p : Nat} {c : Array Value} {el : TypeId} (hb : w.heap[b]? = some (Obj.cells c el (0, 0)))
    {u : Value} (hu : u.cells.size = x.size) (h1 : ∀ y ∈ u.cells.toList, y.oneCell' = true) (hle : p + x.size ≤ c.size) :
    (storeVar t ⟨b, p, none⟩ u).run P w = .ok () (w.setRow b (over c p u.cells.toList)) := by
  have hst := run_storeCells_at P b p el u.cells.toList 0 c w hb (by simp; omega) h1
  simp only [Nat.add_zero] at hst
  simp [storeVar, run_sizeOf T, hu, hst, over]

theorem RepRow.get {w : World} {I : Nat → Prop} {σ : Sig} {es : List V} {k b o i : Nat} {e : V} (h : RepRow w I σ es k b o) (hi : es[i]? = some e) : e.cells.length = k ∧ CAt w I σ e.cells b (o + i * k) :=
  (RepRow_iff es k b o).1 h i e hi

/-- an object that has an element has a block -/
theorem Rel.at {w : World} {I : Nat → Prop} {σ : Sig} {h : Heap} (R : Rel w I σ h) {id i : Nat} {ob : Ob} {e : V} (ho : h id = some ob) (hi : ob.es[i]? = some e) :
    ∃ b o c el, σ id = some (b, o, ob.k) ∧ ¬ I b ∧ w.heap[b]? = some (Obj.cells c el (0, 0)) ∧ o + ob.es.length * ob.k ≤ c.size ∧ RepRow w I (osig ob.keep σ) ob.es ob.k b o := by
  rcases R.obj id ob ho with ⟨he, _⟩ | h
  · rw [he] at hi; cases hi
  · exact h

theorem mul_lt_seg {i j k p q : Nat} (hp : p < k) (hq : q < k) (h : i * k + p = j * k + q) : i = j := by
  rcases Nat.lt_trichotomy i j with hlt | he | hlt
  · have : (i + 1) * k ≤ j * k := Nat.mul_le_mul_right k hlt
    rw [Nat.add_mul] at this; omega
  · exact he
  · have : (j + 1) * k ≤ i * k := Nat.mul_le_mul_right k hlt
    rw [Nat.add_mul] at this; omega

theorem store_sim {P : Program} {t : TypeId} {x : TI} (T : TIOk P t x) {w : World} {I : Nat → Prop} {σ : Sig} {h : Heap} (R : Rel w I σ h) {id i f : Nat} {ob : Ob} {e v : V} {u : Value}
    (ho : h id = some ob) (hi : ob.es[i]? = some e) (hr : Rep w I (osig ob.keep σ) v u) (hf : v.fits x.size = true) (hle : f + x.size ≤ e.cells.length) (n : Nat)
    {b o k : Nat} (hs : σ id = some (b, o, k)) :
    ∃ w', (storeVar t ⟨b, o + i * k + f, none⟩ u).run P w = .ok () w' ∧ Step w I σ h n w' I σ (upd h id (some { ob with es := ob.es.set i (e.put f v) })) n := by
  obtain ⟨b', o', c, el, hs', hI, hb, hsz, hrow⟩ := R.at ho hi
  rw [hs] at hs'
  simp only [Option.some.injEq, Prod.mk.injEq] at hs'
  obtain ⟨rfl, rfl, rfl⟩ := hs'
  have hel := hrow.get hi
  have hcl := hr.cells hf
  have hil : i < ob.es.length := (List.getElem?_eq_some_iff.1 hi).1
  have hik : (i + 1) * ob.k ≤ ob.es.length * ob.k := Nat.mul_le_mul_right _ hil
  rw [Nat.add_mul] at hik
  have hul : u.cells.size = x.size := by
    have := (RepC_iff _ _).1 hcl.2
    simp at this; omega
  have hfit : o + i * ob.k + f + x.size ≤ c.size := by omega
  have hrun := storeVar_run T (p := o + i * ob.k + f) hb hul hcl.2.ones hfit
  have hov : o + i * ob.k + f + u.cells.toList.length ≤ c.size := by simp; omega
  refine ⟨_, hrun, R.write ho hs hb (over_size hov) (by simpa using hsz) ?_ n⟩
  have E : Ext w I (osig ob.keep σ) (w.setRow b (over c (o + i * ob.k + f) u.cells.toList)) I (osig ob.keep σ) := Ext.setRow hI hb (over_size hov)
  rw [RepRow_iff]
  intro j e' hj
  rw [List.getElem?_set] at hj
  by_cases hij : i = j
  · subst hij
    simp [hil] at hj
    subst hj
    have hpc := put_cells T.pos hf (e := e) (f := f) hle
    refine ⟨by rw [hpc, splice_length]; exact hel.1, ?_⟩
    intro q y hq
    rw [hpc, splice_get _ _ _ _ (by rw [hcl.1]; omega)] at hq
    rw [cell_setRow_same w b _ c _ el (0, 0) hb, over_get hov]
    split at hq
    · rename_i hin
      obtain ⟨u', h1, h2, h3⟩ := hcl.2.get hq
      refine ⟨u', ?_, h2, h3.ext E⟩
      rw [if_pos (by simp; rw [hcl.1] at hin; omega)]
      rw [show o + i * ob.k + q - (o + i * ob.k + f) = q - f by omega]
      exact h1
    · rename_i hin
      obtain ⟨u', h1, h2, h3⟩ := hel.2 q y hq
      refine ⟨u', ?_, h2, h3.ext E⟩
      rw [if_neg (by simp; rw [hcl.1] at hin; omega)]
      rw [cell_of_row w b _ c el (0, 0) hb] at h1
      exact h1
  · rw [if_neg hij] at hj
    have hej := hrow.get hj
    refine ⟨hej.1, ?_⟩
    intro q y hq
    have hqk : q < ob.k := by rw [← hej.1]; exact (List.getElem?_eq_some_iff.1 hq).1
    obtain ⟨u', h1, h2, h3⟩ := hej.2 q y hq
    refine ⟨u', ?_, h2, h3.ext E⟩
    rw [cell_setRow_same w b _ c _ el (0, 0) hb, over_get hov, if_neg ?_]
    · rw [cell_of_row w b _ c el (0, 0) hb] at h1
      exact h1
    · simp only [Array.length_toList]
      intro ⟨ha, hb'⟩
      have hlt : o + j * ob.k + q < o + i * ob.k + ob.k := by omega
      have hge : o + i * ob.k ≤ o + j * ob.k + q := by omega
      apply hij
      exact mul_lt_seg (k := ob.k) (p := j * ob.k + q - i * ob.k) (q := q) (by omega) hqk (by omega)

/- new objects -/
theorem aold (w : World) (o : Obj) (b : Nat) (h : b < w.heap.size) : (w.alloc o).heap[b]? = w.heap[b]? := by
  show (w.heap.push o)[b]? = w.heap[b]?
  rw [Array.getElem?_push, if_neg (Nat.ne_of_lt h)]

theorem anew (w : World) (o : Obj) : (w.alloc o).heap[w.heap.size]? = some o := by
  show (w.heap.push o)[w.heap.size]? = some o
  simp

theorem Ext.alloc {w : World} {I : Nat → Prop} {σ : Sig} (hI : ∀ b, I b → b < w.heap.size) (ob : Obj) : Ext w I σ (w.alloc ob) I σ :=
  ⟨fun b hb => aold w ob b (hI b hb), fun b c el fz h => ⟨c, fz, by rw [aold w ob b (by have := (Array.getElem?_eq_some_iff.1 h).1; exact this)]; exact h, rfl⟩, fun _ h => h, fun _ _ h => h⟩

theorem alloc_size (w : World) (ob : Obj) : (w.alloc ob).heap.size = w.heap.size + 1 := by
  show (w.heap.push ob).size = _
  simp

/-- a world that only has more blocks -/
theorem Rel.alloc {w : World} {I : Nat → Prop} {σ : Sig} {h : Heap} (R : Rel w I σ h) (ob : Obj) : Rel (w.alloc ob) I σ h := by
  refine R.keep (Ext.alloc R.imm ob) (fun b hb => by rw [alloc_size]; have := R.imm b hb; omega) (fun b hb => ?_) (fun _ _ => rfl)
  obtain ⟨hi, c, el, hh⟩ := R.owned hb
  exact ⟨aold w ob b ((Array.getElem?_eq_some_iff.1 hh).1), hi⟩

/-- a new block becomes a new object -/
theorem new_sim {w : World} {I : Nat → Prop} {σ : Sig} {h : Heap} (R : Rel w I σ h) {n k : Nat} {es : List V} {keep : Bool} {el : TypeId} (c : Array Value)
    (hn : h n = none) (hs : σ n = none) (hle : es.length * k ≤ c.size)
    (hr : RepRow (w.alloc (.cells c el)) I (osig keep (upd σ n (some (w.heap.size, 0, k)))) es k w.heap.size 0) :
    Step w I σ h n (w.alloc (.cells c el)) I (upd σ n (some (w.heap.size, 0, k))) (upd h n (some ⟨k, es, keep⟩)) (n + 1) := by
  have hnew := anew w (.cells c el)
  have hnI : ¬ I w.heap.size := fun hi => by have := R.imm _ hi; omega
  have hnO : ¬ Owns σ h w.heap.size := fun ho => by
    obtain ⟨_, c', el', hh⟩ := R.owned ho
    have := (Array.getElem?_eq_some_iff.1 hh).1
    omega
  have R1 := (R.alloc (.cells c el)).adopt (n := n) (b := w.heap.size) (o := 0) (k := k) (es := es) (keep := keep) hn hs hnew hnI hnO (by omega) hr
  refine ⟨(Ext.alloc R.imm _).trans (Ext.sig' hs), R1, rfl, rfl, rfl, by rw [alloc_size]; omega, fun b hb _ => aold w _ b hb, fun b hb => ?_, fun _ hb => .inl hb, by omega, fun id hid => by simp [upd]; omega, fun id hid hnn => by simp [upd, hnn]; omega⟩
  obtain ⟨id, ob, o, k', h1, h2⟩ := hb
  by_cases e : id = n
  · subst e
    simp [upd] at h2
    left; omega
  · right
    exact ⟨id, ob, o, k', by simpa [upd, e] using h1, by simpa [upd, e] using h2⟩

/-- values laid into a new block, as one element -/
theorem box_row {w : World} {I : Nat → Prop} {σ : Sig} {h : Heap} (R : Rel w I σ h) {n k : Nat} {v : V} {u : Value} {el : TypeId} (hs : σ n = none) (hr : Rep w I σ v u) (hf : v.fits k = true) :
    RepRow (w.alloc (.cells u.cells el)) I (upd σ n (some (w.heap.size, 0, k))) [v] k w.heap.size 0 := by
  have hc := hr.cells hf
  rw [RepRow_cons]
  refine ⟨hc.1, fun j c hj => ?_, by simp [RepRow]⟩
  obtain ⟨u', h1, h2, h3⟩ := hc.2.get hj
  refine ⟨u', ?_, h2, h3.ext ((Ext.alloc R.imm _).trans (Ext.sig' hs))⟩
  rw [cell_of_row _ _ _ _ _ _ (anew w (.cells u.cells el))]
  simpa using h1

end Go.Abs
