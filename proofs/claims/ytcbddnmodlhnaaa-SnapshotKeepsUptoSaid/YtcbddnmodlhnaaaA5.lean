/- A world, what is immutable in it, and the objects that the call owns. -/
import Derived.Test.YtcbddnmodlhnaaaA4
set_option linter.unusedVariables false
set_option linter.unusedSimpArgs false
namespace Go.Abs
open Go

/-- cells in memory, place by place -/
def CAt (w : World) (I : Nat → Prop) (σ : Sig) (cs : List V) (b o : Nat) : Prop :=
  ∀ j c, cs[j]? = some c → ∃ u, w.cell? ⟨b, o + j, none⟩ = some u ∧ u.oneCell' = true ∧ Rep w I σ c u

section
variable {w w' : World} {I I' : Nat → Prop} {σ σ' : Sig}

theorem RepAt_iff : ∀ (cs : List V) (b o : Nat), RepAt w I σ cs b o ↔ CAt w I σ cs b o
  | [], b, o => by simp [RepAt, CAt]
  | c :: cs, b, o => by
    simp only [RepAt]
    rw [RepAt_iff cs b (o + 1)]
    constructor
    · rintro ⟨h1, h2⟩ j x hj
      cases j with
      | zero => simp at hj; subst hj; simpa using h1
      | succ j =>
        have := h2 j x (by simpa using hj)
        rwa [show o + 1 + j = o + (j + 1) by omega] at this
    · intro h
      refine ⟨by simpa using h 0 c (by simp), fun j x hj => ?_⟩
      have := h (j + 1) x (by simpa using hj)
      rwa [show o + (j + 1) = o + 1 + j by omega] at this

theorem RepRow_cons (e : V) (es : List V) (k b o : Nat) : RepRow w I σ (e :: es) k b o ↔ e.cells.length = k ∧ CAt w I σ e.cells b o ∧ RepRow w I σ es k b (o + k) := by
  cases e with
  | agg cs => simp only [RepRow, V.cells, RepAt_iff]
  | _ =>
    simp only [RepRow, V.cells, ← RepAt_iff, RepAt, List.length_cons, List.length_nil, and_true]
    constructor <;> rintro ⟨h1, h2, h3⟩ <;> exact ⟨by omega, h2, h3⟩

theorem RepRow_iff : ∀ (es : List V) (k b o : Nat), RepRow w I σ es k b o ↔ ∀ i e, es[i]? = some e → e.cells.length = k ∧ CAt w I σ e.cells b (o + i * k)
  | [], k, b, o => by simp [RepRow]
  | e :: es, k, b, o => by
    rw [RepRow_cons, RepRow_iff es k b (o + k)]
    constructor
    · rintro ⟨h1, h2, h3⟩ i x hi
      cases i with
      | zero => simp at hi; subst hi; simpa using ⟨h1, h2⟩
      | succ i =>
        have := h3 i x (by simpa using hi)
        rwa [show o + k + i * k = o + (i + 1) * k by rw [Nat.add_mul]; omega] at this
    · intro h
      have h0 := h 0 e (by simp)
      refine ⟨h0.1, by simpa using h0.2, fun i x hi => ?_⟩
      have := h (i + 1) x (by simpa using hi)
      rwa [show o + (i + 1) * k = o + k + i * k by rw [Nat.add_mul]; omega] at this

theorem RepL_iff : ∀ (cs : List V) (us : List Value), RepL w I σ cs us ↔ cs.length = us.length ∧ ∀ (j : Nat) c u, cs[j]? = some c → us[j]? = some u → Rep w I σ c u
  | [], us => by
    simp only [RepL]
    constructor
    · rintro rfl; simp
    · rintro ⟨h, _⟩; exact List.eq_nil_of_length_eq_zero (by simpa using h.symm)
  | c :: cs, us => by
    simp only [RepL]
    constructor
    · rintro ⟨u, r, rfl, h1, h2⟩
      rw [RepL_iff cs r] at h2
      refine ⟨by simp [h2.1], fun j x y hx hy => ?_⟩
      cases j with
      | zero => simp at hx hy; subst hx; subst hy; exact h1
      | succ j => exact h2.2 j x y (by simpa using hx) (by simpa using hy)
    · rintro ⟨hl, h⟩
      cases us with
      | nil => simp at hl
      | cons u r =>
        exact ⟨u, r, rfl, h 0 c u (by simp) (by simp), (RepL_iff cs r).2 ⟨by simpa using hl, fun j x y hx hy => h (j + 1) x y (by simpa using hx) (by simpa using hy)⟩⟩

theorem RepC_iff : ∀ (cs : List V) (us : List Value), RepC w I σ cs us ↔ cs.length = us.length ∧ ∀ (j : Nat) c u, cs[j]? = some c → us[j]? = some u → u.oneCell' = true ∧ Rep w I σ c u
  | [], us => by
    simp only [RepC]
    constructor
    · rintro rfl; simp
    · rintro ⟨h, _⟩; exact List.eq_nil_of_length_eq_zero (by simpa using h.symm)
  | c :: cs, us => by
    simp only [RepC]
    constructor
    · rintro ⟨u, r, rfl, h0, h1, h2⟩
      rw [RepC_iff cs r] at h2
      refine ⟨by simp [h2.1], fun j x y hx hy => ?_⟩
      cases j with
      | zero => simp at hx hy; subst hx; subst hy; exact ⟨h0, h1⟩
      | succ j => exact h2.2 j x y (by simpa using hx) (by simpa using hy)
    · rintro ⟨hl, h⟩
      cases us with
      | nil => simp at hl
      | cons u r =>
        have := h 0 c u (by simp) (by simp)
        exact ⟨u, r, rfl, this.1, this.2, (RepC_iff cs r).2 ⟨by simpa using hl, fun j x y hx hy => h (j + 1) x y (by simpa using hx) (by simpa using hy)⟩⟩

theorem CAt.ext (E : Ext w I σ w' I' σ') {cs : List V} {b o : Nat} (h : CAt w I σ cs b o) (hb : w'.heap[b]? = w.heap[b]?) : CAt w' I' σ' cs b o := by
  intro j c hj
  obtain ⟨u, h1, h2, h3⟩ := h j c hj
  exact ⟨u, by rw [World.cell?_of_block hb]; exact h1, h2, h3.ext E⟩

theorem RepRow.extRow (E : Ext w I σ w' I' σ') {es : List V} {k b o : Nat} (h : RepRow w I σ es k b o) (hb : w'.heap[b]? = w.heap[b]?) : RepRow w' I' σ' es k b o := by
  rw [RepRow_iff] at h ⊢
  intro i e hi
  exact ⟨(h i e hi).1, (h i e hi).2.ext E hb⟩
end

/-- what an object's values may speak of -/
def osig (keep : Bool) (σ : Sig) : Sig := if keep then σ else nosig

theorem Ext.ofKeep {w w' : World} {I I' : Nat → Prop} {σ σ' : Sig} (E : Ext w I σ w' I' σ') (keep : Bool) : Ext w I (osig keep σ) w' I' (osig keep σ') := by
  cases keep
  · exact E.noid
  · exact E

/-- what speaks of no object holds under every placing -/
theorem Ext.free {w : World} {I : Nat → Prop} {σ : Sig} : Ext w I nosig w I σ :=
  ⟨fun _ _ => rfl, fun _ c _ fz h => ⟨c, fz, h, rfl⟩, fun _ h => h, fun id x h => by cases h⟩

theorem Ext.freeOf {w : World} {I : Nat → Prop} {σ : Sig} (keep : Bool) : Ext w I (osig keep σ) w I σ := by
  cases keep
  · exact Ext.free
  · exact .refl w I σ

def ObRel (w : World) (I : Nat → Prop) (σ : Sig) (id : Nat) (ob : Ob) : Prop :=
  (ob.es = [] ∧ σ id = none) ∨
  ∃ b o c el, σ id = some (b, o, ob.k) ∧ ¬ I b ∧ w.heap[b]? = some (Obj.cells c el (0, 0)) ∧ o + ob.es.length * ob.k ≤ c.size ∧ RepRow w I (osig ob.keep σ) ob.es ob.k b o

/-- the block belongs to an object -/
def Owns (σ : Sig) (h : Heap) (b : Nat) : Prop := ∃ id ob o k, h id = some ob ∧ σ id = some (b, o, k)

structure Rel (w : World) (I : Nat → Prop) (σ : Sig) (h : Heap) : Prop where
  imm : ∀ b, I b → b < w.heap.size
  obj : ∀ id ob, h id = some ob → ObRel w I σ id ob
  apart : ∀ id id' ob ob' b o k o' k', h id = some ob → h id' = some ob' → σ id = some (b, o, k) → σ id' = some (b, o', k') → id = id'

section
variable {w w' : World} {I I' : Nat → Prop} {σ σ' : Sig} {h h' : Heap}

theorem Rel.owned (R : Rel w I σ h) {b : Nat} (hb : Owns σ h b) : ¬ I b ∧ ∃ c el, w.heap[b]? = some (Obj.cells c el (0, 0)) := by
  obtain ⟨id, ob, o, k, h1, h2⟩ := hb
  rcases R.obj id ob h1 with ⟨_, hn⟩ | ⟨b', o', c, el, hs, hi, hh, _⟩
  · rw [hn] at h2; cases h2
  · rw [hs] at h2; simp at h2; obtain ⟨rfl, _⟩ := h2; exact ⟨hi, c, el, hh⟩

theorem Rel.keep (R : Rel w I σ h) (E : Ext w I σ w' I' σ') (hI : ∀ b, I' b → b < w'.heap.size)
    (hb : ∀ b, Owns σ h b → w'.heap[b]? = w.heap[b]? ∧ ¬ I' b) (hs : ∀ id, h id ≠ none → σ' id = σ id) : Rel w' I' σ' h := by
  refine ⟨hI, fun id ob ho => ?_, fun id id' ob ob' b o k o' k' h1 h2 h3 h4 => ?_⟩
  · have hsid := hs id (by rw [ho]; simp)
    rcases R.obj id ob ho with ⟨he, hn⟩ | ⟨b, o, c, el, hsg, hi, hh, hle, hr⟩
    · exact .inl ⟨he, by rw [hsid]; exact hn⟩
    · have := hb b ⟨id, ob, o, ob.k, ho, hsg⟩
      exact .inr ⟨b, o, c, el, by rw [hsid]; exact hsg, this.2, by rw [this.1]; exact hh, hle, hr.extRow (E.ofKeep _) this.1⟩
  · rw [hs id (by rw [h1]; simp)] at h3
    rw [hs id' (by rw [h2]; simp)] at h4
    exact R.apart id id' ob ob' b o k o' k' h1 h2 h3 h4

theorem Rel.sub (R : Rel w I σ h) (hh : ∀ id ob, h' id = some ob → h id = some ob) : Rel w I σ h' :=
  ⟨R.imm, fun id ob ho => R.obj id ob (hh id ob ho), fun id id' ob ob' b o k o' k' h1 h2 => R.apart id id' ob ob' b o k o' k' (hh _ _ h1) (hh _ _ h2)⟩

theorem Rel.kill (R : Rel w I σ h) (id : Nat) : Rel w I σ (upd h id none) :=
  R.sub fun i ob hi => by unfold upd at hi; split at hi; · cases hi
                          · exact hi

theorem Ext.sig' {n : Nat} {x : Nat × Nat × Nat} (hn : σ n = none) : Ext w I σ w I (upd σ n (some x)) :=
  ⟨fun _ _ => rfl, fun _ c _ fz h => ⟨c, fz, h, rfl⟩, fun _ h => h, fun id y hy => by
    unfold upd; split
    · rename_i e; subst e; rw [hn] at hy; cases hy
    · exact hy⟩

/-- a block that nobody owns becomes an object -/
theorem Rel.adopt (R : Rel w I σ h) {n b o k : Nat} {es : List V} {keep : Bool} {c : Array Value} {el : TypeId} (hn : h n = none) (hs : σ n = none)
    (hb : w.heap[b]? = some (Obj.cells c el (0, 0))) (hi : ¬ I b) (ho : ¬ Owns σ h b) (hle : o + es.length * k ≤ c.size)
    (hr : RepRow w I (osig keep (upd σ n (some (b, o, k)))) es k b o) : Rel w I (upd σ n (some (b, o, k))) (upd h n (some ⟨k, es, keep⟩)) := by
  have E : Ext w I σ w I (upd σ n (some (b, o, k))) := Ext.sig' hs
  have hid : ∀ id, h id ≠ none → upd σ n (some (b, o, k)) id = σ id := by
    intro id hid
    unfold upd
    split
    · rename_i e; subst e; exact absurd hn hid
    · rfl
  refine ⟨R.imm, fun id ob hob => ?_, fun id id' ob ob' b1 o1 k1 o2 k2 h1 h2 h3 h4 => ?_⟩
  · unfold upd at hob
    split at hob
    · rename_i e; subst e
      simp at hob; subst hob
      exact .inr ⟨b, o, c, el, by simp [upd], hi, hb, hle, hr⟩
    · rename_i e
      have := hid id (by rw [hob]; simp)
      rcases R.obj id ob hob with ⟨he, hnn⟩ | ⟨b', o', c', el', hsg, hi', hh, hle', hr'⟩
      · exact .inl ⟨he, by rw [this]; exact hnn⟩
      · exact .inr ⟨b', o', c', el', by rw [this]; exact hsg, hi', hh, hle', hr'.extRow (E.ofKeep _) rfl⟩
  · have key : ∀ id ob, upd h n (some (⟨k, es, keep⟩ : Ob)) id = some ob → id ≠ n → h id = some ob := by
      intro id ob hx hne; simpa [upd, hne] using hx
    by_cases e1 : id = n
    · by_cases e2 : id' = n
      · rw [e1, e2]
      · exfalso
        subst e1
        have h2' := key id' ob' h2 e2
        rw [hid id' (by rw [h2']; simp)] at h4
        simp [upd] at h3
        obtain ⟨rfl, _⟩ := h3
        exact ho ⟨id', ob', o2, k2, h2', h4⟩
    · have h1' := key id ob h1 e1
      rw [hid id (by rw [h1']; simp)] at h3
      by_cases e2 : id' = n
      · exfalso
        subst e2
        simp [upd] at h4
        obtain ⟨rfl, _⟩ := h4
        exact ho ⟨id, ob, o1, k1, h1', h3⟩
      · have h2' := key id' ob' h2 e2
        rw [hid id' (by rw [h2']; simp)] at h4
        exact R.apart id id' ob ob' b1 o1 k1 o2 k2 h1' h2' h3 h4

/-- an empty object that has no block -/
theorem Rel.adoptNil (R : Rel w I σ h) {n k : Nat} {keep : Bool} (hn : h n = none) (hs : σ n = none) : Rel w I σ (upd h n (some ⟨k, [], keep⟩)) := by
  refine ⟨R.imm, fun id ob hob => ?_, fun id id' ob ob' b o k o' k' h1 h2 h3 h4 => ?_⟩
  · unfold upd at hob
    split at hob
    · rename_i e; subst e; simp at hob; subst hob; exact .inl ⟨rfl, hs⟩
    · exact R.obj id ob hob
  · by_cases e1 : id = n
    · subst e1; rw [hs] at h3; cases h3
    · by_cases e2 : id' = n
      · subst e2; rw [hs] at h4; cases h4
      · exact R.apart id id' ob ob' b o k o' k' (by simpa [upd, e1] using h1) (by simpa [upd, e2] using h2) h3 h4
end

/-- what a piece of a run makes of a world and its objects -/
structure Step (w : World) (I : Nat → Prop) (σ : Sig) (h : Heap) (n : Nat) (w' : World) (I' : Nat → Prop) (σ' : Sig) (h' : Heap) (n' : Nat) : Prop where
  ext : Ext w I σ w' I' σ'
  rel : Rel w' I' σ' h'
  os : w'.os = w.os
  tape : w'.tape = w.tape
  output : w'.output = w.output
  size : w.heap.size ≤ w'.heap.size
  frame : ∀ b, b < w.heap.size → ¬ Owns σ h b → w'.heap[b]? = w.heap[b]?
  own : ∀ b, Owns σ' h' b → w.heap.size ≤ b ∨ Owns σ h b
  inew : ∀ b, I' b → I b ∨ w.heap.size ≤ b ∨ Owns σ h b
  le : n ≤ n'
  sigs : ∀ id, id < n ∨ n' ≤ id → σ' id = σ id
  news : ∀ id, id < n ∨ n' ≤ id → h id = none → h' id = none

section
variable {w w1 w2 : World} {I I1 I2 : Nat → Prop} {σ σ1 σ2 : Sig} {h h1 h2 : Heap} {n n1 n2 : Nat}

theorem Step.refl (R : Rel w I σ h) (n : Nat) : Step w I σ h n w I σ h n :=
  ⟨.refl w I σ, R, rfl, rfl, rfl, Nat.le_refl _, fun _ _ _ => rfl, fun _ hb => .inr hb, fun _ hb => .inl hb, Nat.le_refl _, fun _ _ => rfl, fun _ _ h => h⟩

theorem Step.trans (s : Step w I σ h n w1 I1 σ1 h1 n1) (s' : Step w1 I1 σ1 h1 n1 w2 I2 σ2 h2 n2) : Step w I σ h n w2 I2 σ2 h2 n2 where
  ext := s.ext.trans s'.ext
  rel := s'.rel
  os := s'.os.trans s.os
  tape := s'.tape.trans s.tape
  output := s'.output.trans s.output
  size := Nat.le_trans s.size s'.size
  frame := fun b hb ho => (s'.frame b (Nat.lt_of_lt_of_le hb s.size) (fun hx => by
    rcases s.own b hx with hx | hx
    · omega
    · exact ho hx)).trans (s.frame b hb ho)
  own := fun b hb => by
    rcases s'.own b hb with hx | hx
    · exact .inl (Nat.le_trans s.size hx)
    · exact s.own b hx
  inew := fun b hb => by
    rcases s'.inew b hb with hx | hx | hx
    · exact s.inew b hx
    · exact .inr (.inl (Nat.le_trans s.size hx))
    · exact .inr (s.own b hx)
  le := Nat.le_trans s.le s'.le
  sigs := fun id hid => by
    have l1 := s.le; have l2 := s'.le
    rw [s'.sigs id (by omega), s.sigs id (by omega)]
  news := fun id hid hn => by
    have l1 := s.le; have l2 := s'.le
    exact s'.news id (by omega) (s.news id (by omega) hn)
end

/-- a row of an object written over -/
theorem Rel.write {w : World} {I : Nat → Prop} {σ : Sig} {h : Heap} (R : Rel w I σ h) {id b o k : Nat} {ob : Ob} {es : List V} {keep : Bool} {c c' : Array Value} {el : TypeId}
    (ho : h id = some ob) (hs : σ id = some (b, o, k)) (hb : w.heap[b]? = some (Obj.cells c el (0, 0))) (hsz : c'.size = c.size) (hle : o + es.length * k ≤ c.size)
    (hr : RepRow (w.setRow b c') I (osig keep σ) es k b o) (n : Nat) : Step w I σ h n (w.setRow b c') I σ (upd h id (some ⟨k, es, keep⟩)) n := by
  have hown : Owns σ h b := ⟨id, ob, o, k, ho, hs⟩
  have hI : ¬ I b := (R.owned hown).1
  have E : Ext w I σ (w.setRow b c') I σ := by
    refine ⟨fun b' hb' => setRow_other w b b' c' (fun e => hI (e ▸ hb')), fun b' c1 el1 fz hc => ?_, fun _ h => h, fun _ _ h => h⟩
    by_cases e : b' = b
    · subst e
      rw [hb] at hc
      simp at hc
      obtain ⟨rfl, rfl, rfl⟩ := hc
      exact ⟨c', (0, 0), setRow_heap w b' c c' el (0, 0) hb, hsz⟩
    · exact ⟨c1, fz, by rw [setRow_other w b b' c' e]; exact hc, rfl⟩
  have key : ∀ i x, upd h id (some (⟨k, es, keep⟩ : Ob)) i = some x → i ≠ id → h i = some x := by
    intro i x hx hne; simpa [upd, hne] using hx
  refine ⟨E, ⟨fun b' hb' => by simpa using R.imm b' hb', fun i x hx => ?_, fun i i' x x' b1 o1 k1 o2 k2 h1 h2 h3 h4 => ?_⟩, rfl, rfl, rfl, by simp, fun b' _ ho' => setRow_other w b b' c' (fun e => ho' (e ▸ hown)),
    fun b' hb' => .inr ?_, fun _ h => .inl h, Nat.le_refl _, fun _ _ => rfl, fun i hi hni => by
      have : i ≠ id := fun e => by rw [e, ho] at hni; cases hni
      simp [upd, this, hni]⟩
  · by_cases e : i = id
    · subst e
      simp [upd] at hx; subst hx
      exact .inr ⟨b, o, c', el, hs, hI, setRow_heap w b c c' el (0, 0) hb, by rw [hsz]; exact hle, hr⟩
    · have hx' := key i x hx e
      rcases R.obj i x hx' with ⟨he, hnn⟩ | ⟨b', o', c1, el1, hsg, hi', hh, hle', hr'⟩
      · exact .inl ⟨he, hnn⟩
      · have hne : b' ≠ b := fun e' => e (R.apart i id x ob b o' x.k o k hx' ho (e' ▸ hsg) hs)
        have hsame := setRow_other w b b' c' hne
        exact .inr ⟨b', o', c1, el1, hsg, hi', by rw [hsame]; exact hh, hle', hr'.extRow (E.ofKeep _) hsame⟩
  · by_cases e1 : i = id
    · by_cases e2 : i' = id
      · rw [e1, e2]
      · subst e1; exact R.apart i i' ob x' b1 o1 k1 o2 k2 ho (key i' x' h2 e2) h3 h4
    · by_cases e2 : i' = id
      · subst e2; exact R.apart i i' x ob b1 o1 k1 o2 k2 (key i x h1 e1) ho h3 h4
      · exact R.apart i i' x x' b1 o1 k1 o2 k2 (key i x h1 e1) (key i' x' h2 e2) h3 h4
  · obtain ⟨i, x, o1, k1, h1, h2⟩ := hb'
    by_cases e : i = id
    · subst e; exact ⟨i, ob, o1, k1, ho, h2⟩
    · exact ⟨i, x, o1, k1, key i x h1 e, h2⟩

end Go.Abs
