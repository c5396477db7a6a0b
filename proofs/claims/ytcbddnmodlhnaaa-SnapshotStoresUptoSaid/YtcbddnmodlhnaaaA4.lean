/- What an abstract value says of a value in a world. -/
import Derived.Test.YtcbddnmodlhnaaaA2
import Derived.WalkKit
namespace Go.Abs
open Go

/-- where an object lies: block, offset, cells of an element -/
abbrev Sig := Nat → Option (Nat × Nat × Nat)


/-- no object at all -/
def nosig : Sig := fun _ => none

mutual
def Rep (w : World) (I : Nat → Prop) (σ : Sig) : V → Value → Prop
  | .int k n, u => u = .int k n
  | .bool b, u => u = .bool b
  | .str s, u => ∃ x : ByteArray, u = .string x ∧ x.data.toList = s
  | .agg cs, u => ∃ us, u = .agg us ∧ RepC w I σ cs us.toList
  | .tup cs, u => ∃ us, u = .tuple us ∧ RepL w I σ cs us.toList
  | .sl c es, u => ∃ a cap, u = .slice a es.length cap ∧ es.length ≤ cap ∧ cap ≤ maxLen ∧ (c = true → cap = es.length) ∧
      (es = [] ∨ ∃ b o k, a = some ⟨b, o, none⟩ ∧ I b ∧ RepRow w I nosig es k b o)
  | .ref cs, u => ∃ b o, u = .pointer (some ⟨b, o, none⟩) ∧ I b ∧ RepAt w I nosig cs b o
  | .hdr id s l, u => ∃ a cap, u = .slice a l cap ∧ l ≤ cap ∧ cap ≤ maxLen ∧
      (cap = 0 ∨ ∃ b o k c el fz, σ id = some (b, o, k) ∧ a = some ⟨b, o + s * k, none⟩ ∧ w.heap[b]? = some (.cells c el fz) ∧ o + (s + cap) * k ≤ c.size)
  | .ptr id i f, u => ∃ b o k, σ id = some (b, o, k) ∧ u = .pointer (some ⟨b, o + i * k + f, none⟩)
  | .nilp, u => u = .pointer none
  | .fn g as bs, u => ∃ us vs, u = .func (.func g) us vs ∧ RepL w I σ as us.toList ∧ RepL w I σ bs vs.toList
  | .bad, _ => True
/-- cells, one value each -/
def RepC (w : World) (I : Nat → Prop) (σ : Sig) : List V → List Value → Prop
  | [], us => us = []
  | c :: cs, us => ∃ u r, us = u :: r ∧ u.oneCell' = true ∧ Rep w I σ c u ∧ RepC w I σ cs r
/-- values -/
def RepL (w : World) (I : Nat → Prop) (σ : Sig) : List V → List Value → Prop
  | [], us => us = []
  | c :: cs, us => ∃ u r, us = u :: r ∧ Rep w I σ c u ∧ RepL w I σ cs r
/-- cells in memory -/
def RepAt (w : World) (I : Nat → Prop) (σ : Sig) : List V → Nat → Nat → Prop
  | [], _, _ => True
  | c :: cs, b, o => (∃ u, w.cell? ⟨b, o, none⟩ = some u ∧ u.oneCell' = true ∧ Rep w I σ c u) ∧ RepAt w I σ cs b (o + 1)
/-- elements in memory -/
def RepRow (w : World) (I : Nat → Prop) (σ : Sig) : List V → Nat → Nat → Nat → Prop
  | [], _, _, _ => True
  | .agg cs :: es, k, b, o => cs.length = k ∧ RepAt w I σ cs b o ∧ RepRow w I σ es k b (o + k)
  | e :: es, k, b, o => k = 1 ∧ (∃ u, w.cell? ⟨b, o, none⟩ = some u ∧ u.oneCell' = true ∧ Rep w I σ e u) ∧ RepRow w I σ es k b (o + k)
end

structure Ext (w : World) (I : Nat → Prop) (σ : Sig) (w' : World) (I' : Nat → Prop) (σ' : Sig) : Prop where
  blk : ∀ b, I b → w'.heap[b]? = w.heap[b]?
  grow : ∀ (b : Nat) c el fz, w.heap[b]? = some (Obj.cells c el fz) → ∃ c' fz', w'.heap[b]? = some (Obj.cells c' el fz') ∧ c'.size = c.size
  imp : ∀ b, I b → I' b
  sig : ∀ id x, σ id = some x → σ' id = some x

theorem Ext.refl (w : World) (I : Nat → Prop) (σ : Sig) : Ext w I σ w I σ :=
  ⟨fun _ _ => rfl, fun _ c _ fz h => ⟨c, fz, h, rfl⟩, fun _ h => h, fun _ _ h => h⟩

theorem Ext.trans {w w1 w2 : World} {I I1 I2 : Nat → Prop} {σ σ1 σ2 : Sig} (h : Ext w I σ w1 I1 σ1) (h' : Ext w1 I1 σ1 w2 I2 σ2) : Ext w I σ w2 I2 σ2 :=
  ⟨fun b hb => (h'.blk b (h.imp b hb)).trans (h.blk b hb),
   fun b c el fz hb => by
    obtain ⟨c1, fz1, h1, e1⟩ := h.grow b c el fz hb
    obtain ⟨c2, fz2, h2, e2⟩ := h'.grow b c1 el fz1 h1
    exact ⟨c2, fz2, h2, e2.trans e1⟩,
   fun b hb => h'.imp b (h.imp b hb), fun id x hx => h'.sig id x (h.sig id x hx)⟩

theorem Ext.noid {w w' : World} {I I' : Nat → Prop} {σ σ' : Sig} (E : Ext w I σ w' I' σ') : Ext w I nosig w' I' nosig :=
  ⟨E.blk, E.grow, E.imp, fun _ _ h => h⟩

section
variable {w w' : World} {I I' : Nat → Prop}

mutual
theorem Rep.ext' : ∀ (v : V) (u : Value) {σ σ' : Sig}, Ext w I σ w' I' σ' → Rep w I σ v u → Rep w' I' σ' v u
  | .int k n, u, σ, σ', E, h => by simpa [Rep] using h
  | .bool b, u, σ, σ', E, h => by simpa [Rep] using h
  | .str s, u, σ, σ', E, h => by simpa [Rep] using h
  | .agg cs, u, σ, σ', E, h => by
    simp only [Rep] at h ⊢
    obtain ⟨us, e, hr⟩ := h
    exact ⟨us, e, RepC.ext' cs us.toList E hr⟩
  | .tup cs, u, σ, σ', E, h => by
    simp only [Rep] at h ⊢
    obtain ⟨us, e, hr⟩ := h
    exact ⟨us, e, RepL.ext' cs us.toList E hr⟩
  | .sl c es, u, σ, σ', E, h => by
    simp only [Rep] at h ⊢
    obtain ⟨a, cap, e, h1, h2, h3, h4⟩ := h
    refine ⟨a, cap, e, h1, h2, h3, ?_⟩
    rcases h4 with h4 | ⟨b, o, k, ha, hI, hr⟩
    · exact .inl h4
    · exact .inr ⟨b, o, k, ha, E.imp b hI, RepRow.ext' es k b o E.noid hI hr⟩
  | .ref cs, u, σ, σ', E, h => by
    simp only [Rep] at h ⊢
    obtain ⟨b, o, e, hI, hr⟩ := h
    exact ⟨b, o, e, E.imp b hI, RepAt.ext' cs b o E.noid hI hr⟩
  | .hdr id s l, u, σ, σ', E, h => by
    simp only [Rep] at h ⊢
    obtain ⟨a, cap, e, h1, h2, h3⟩ := h
    refine ⟨a, cap, e, h1, h2, ?_⟩
    rcases h3 with h3 | ⟨b, o, k, c, el, fz, hs, ha, hb, hle⟩
    · exact .inl h3
    · obtain ⟨c', fz', hb', hc⟩ := E.grow b c el fz hb
      exact .inr ⟨b, o, k, c', el, fz', E.sig _ _ hs, ha, hb', by omega⟩
  | .ptr id i f, u, σ, σ', E, h => by
    simp only [Rep] at h ⊢
    obtain ⟨b, o, k, hs, e⟩ := h
    exact ⟨b, o, k, E.sig _ _ hs, e⟩
  | .nilp, u, σ, σ', E, h => by simpa [Rep] using h
  | .fn g as bs, u, σ, σ', E, h => by
    simp only [Rep] at h ⊢
    obtain ⟨us, vs, e, h1, h2⟩ := h
    exact ⟨us, vs, e, RepL.ext' as us.toList E h1, RepL.ext' bs vs.toList E h2⟩
  | .bad, u, σ, σ', E, h => by simp [Rep]
theorem RepC.ext' : ∀ (cs : List V) (us : List Value) {σ σ' : Sig}, Ext w I σ w' I' σ' → RepC w I σ cs us → RepC w' I' σ' cs us
  | [], us, σ, σ', E, h => by simpa [RepC] using h
  | c :: cs, us, σ, σ', E, h => by
    simp only [RepC] at h ⊢
    obtain ⟨u, r, e, h1, h2, h3⟩ := h
    exact ⟨u, r, e, h1, Rep.ext' c u E h2, RepC.ext' cs r E h3⟩
theorem RepL.ext' : ∀ (cs : List V) (us : List Value) {σ σ' : Sig}, Ext w I σ w' I' σ' → RepL w I σ cs us → RepL w' I' σ' cs us
  | [], us, σ, σ', E, h => by simpa [RepL] using h
  | c :: cs, us, σ, σ', E, h => by
    simp only [RepL] at h ⊢
    obtain ⟨u, r, e, h2, h3⟩ := h
    exact ⟨u, r, e, Rep.ext' c u E h2, RepL.ext' cs r E h3⟩
theorem RepAt.ext' : ∀ (cs : List V) (b o : Nat) {σ σ' : Sig}, Ext w I σ w' I' σ' → I b → RepAt w I σ cs b o → RepAt w' I' σ' cs b o
  | [], b, o, σ, σ', E, hI, h => by simp [RepAt]
  | c :: cs, b, o, σ, σ', E, hI, h => by
    simp only [RepAt] at h ⊢
    obtain ⟨⟨u, h1, h2, h3⟩, h4⟩ := h
    exact ⟨⟨u, by rw [World.cell?_of_block (E.blk b hI)]; exact h1, h2, Rep.ext' c u E h3⟩, RepAt.ext' cs b (o + 1) E hI h4⟩
theorem RepRow.ext' : ∀ (es : List V) (k b o : Nat) {σ σ' : Sig}, Ext w I σ w' I' σ' → I b → RepRow w I σ es k b o → RepRow w' I' σ' es k b o
  | [], k, b, o, σ, σ', E, hI, h => by simp [RepRow]
  | .agg cs :: es, k, b, o, σ, σ', E, hI, h => by
    simp only [RepRow] at h ⊢
    exact ⟨h.1, RepAt.ext' cs b o E hI h.2.1, RepRow.ext' es k b (o + k) E hI h.2.2⟩
  | .int _ _ :: es, k, b, o, σ, σ', E, hI, h | .bool _ :: es, k, b, o, σ, σ', E, hI, h | .str _ :: es, k, b, o, σ, σ', E, hI, h | .tup _ :: es, k, b, o, σ, σ', E, hI, h
  | .sl _ _ :: es, k, b, o, σ, σ', E, hI, h | .ref _ :: es, k, b, o, σ, σ', E, hI, h | .hdr _ _ _ :: es, k, b, o, σ, σ', E, hI, h | .ptr _ _ _ :: es, k, b, o, σ, σ', E, hI, h
  | .nilp :: es, k, b, o, σ, σ', E, hI, h | .fn _ _ _ :: es, k, b, o, σ, σ', E, hI, h | .bad :: es, k, b, o, σ, σ', E, hI, h => by
    simp only [RepRow] at h ⊢
    obtain ⟨hk, ⟨u, h1, h2, h3⟩, h4⟩ := h
    exact ⟨hk, ⟨u, by rw [World.cell?_of_block (E.blk b hI)]; exact h1, h2, Rep.ext' _ u E h3⟩, RepRow.ext' es k b (o + k) E hI h4⟩
end
theorem dullL_length : ∀ l : List V, (dullL l).length = l.length
  | [] => rfl
  | c :: cs => by simp [dullL, dullL_length cs]

mutual
theorem Rep.dull' : ∀ (v : V) (u : Value) {σ : Sig}, Rep w I σ v u → Rep w I σ v.dull u
  | .int k n, u, σ, h => h
  | .bool b, u, σ, h => h
  | .str s, u, σ, h => h
  | .agg cs, u, σ, h => by
    simp only [Rep, V.dull] at h ⊢
    obtain ⟨us, e, hr⟩ := h
    exact ⟨us, e, RepC.dull' cs us.toList hr⟩
  | .tup cs, u, σ, h => by
    simp only [Rep, V.dull] at h ⊢
    obtain ⟨us, e, hr⟩ := h
    exact ⟨us, e, RepL.dull' cs us.toList hr⟩
  | .sl c es, u, σ, h => by
    simp only [Rep, V.dull] at h ⊢
    obtain ⟨a, cap, e, h1, h2, h3, h4⟩ := h
    rw [dullL_length]
    refine ⟨a, cap, e, h1, h2, (fun hh => by cases hh), ?_⟩
    rcases h4 with h4 | ⟨b, o, k, ha, hI, hr⟩
    · subst h4; exact .inl rfl
    · exact .inr ⟨b, o, k, ha, hI, RepRow.dull' es k b o hr⟩
  | .ref cs, u, σ, h => h
  | .hdr id s l, u, σ, h => h
  | .ptr id i f, u, σ, h => h
  | .nilp, u, σ, h => h
  | .fn g as bs, u, σ, h => h
  | .bad, u, σ, h => h
theorem RepC.dull' : ∀ (cs : List V) (us : List Value) {σ : Sig}, RepC w I σ cs us → RepC w I σ (dullL cs) us
  | [], us, σ, h => h
  | c :: cs, us, σ, h => by
    simp only [RepC, dullL] at h ⊢
    obtain ⟨u, r, e, h1, h2, h3⟩ := h
    exact ⟨u, r, e, h1, Rep.dull' c u h2, RepC.dull' cs r h3⟩
theorem RepL.dull' : ∀ (cs : List V) (us : List Value) {σ : Sig}, RepL w I σ cs us → RepL w I σ (dullL cs) us
  | [], us, σ, h => h
  | c :: cs, us, σ, h => by
    simp only [RepL, dullL] at h ⊢
    obtain ⟨u, r, e, h2, h3⟩ := h
    exact ⟨u, r, e, Rep.dull' c u h2, RepL.dull' cs r h3⟩
theorem RepAt.dull' : ∀ (cs : List V) (b o : Nat) {σ : Sig}, RepAt w I σ cs b o → RepAt w I σ (dullL cs) b o
  | [], b, o, σ, h => h
  | c :: cs, b, o, σ, h => by
    simp only [RepAt, dullL] at h ⊢
    obtain ⟨⟨u, h1, h2, h3⟩, h4⟩ := h
    exact ⟨⟨u, h1, h2, Rep.dull' c u h3⟩, RepAt.dull' cs b (o + 1) h4⟩
theorem RepRow.dull' : ∀ (es : List V) (k b o : Nat) {σ : Sig}, RepRow w I σ es k b o → RepRow w I σ (dullL es) k b o
  | [], k, b, o, σ, h => h
  | .agg cs :: es, k, b, o, σ, h => by
    simp only [RepRow, dullL, V.dull] at h ⊢
    exact ⟨by rw [dullL_length]; exact h.1, RepAt.dull' cs b o h.2.1, RepRow.dull' es k b (o + k) h.2.2⟩
  | .sl c cs :: es, k, b, o, σ, h => by
    simp only [RepRow, dullL] at h ⊢
    obtain ⟨hk, ⟨u, h1, h2, h3⟩, h4⟩ := h
    have := Rep.dull' (.sl c cs) u h3
    simp only [V.dull, RepRow] at this ⊢
    exact ⟨hk, ⟨u, h1, h2, this⟩, RepRow.dull' es k b (o + k) h4⟩
  | .tup cs :: es, k, b, o, σ, h => by
    simp only [RepRow, dullL] at h ⊢
    obtain ⟨hk, ⟨u, h1, h2, h3⟩, h4⟩ := h
    have := Rep.dull' (.tup cs) u h3
    simp only [V.dull, RepRow] at this ⊢
    exact ⟨hk, ⟨u, h1, h2, this⟩, RepRow.dull' es k b (o + k) h4⟩
  | .int _ _ :: es, k, b, o, σ, h | .bool _ :: es, k, b, o, σ, h | .str _ :: es, k, b, o, σ, h
  | .ref _ :: es, k, b, o, σ, h | .hdr _ _ _ :: es, k, b, o, σ, h | .ptr _ _ _ :: es, k, b, o, σ, h
  | .nilp :: es, k, b, o, σ, h | .fn _ _ _ :: es, k, b, o, σ, h | .bad :: es, k, b, o, σ, h => by
    simp only [RepRow, dullL, V.dull] at h ⊢
    exact ⟨h.1, h.2.1, RepRow.dull' es k b (o + k) h.2.2⟩
end
theorem Rep.dull {σ : Sig} {v : V} {u : Value} (h : Rep w I σ v u) : Rep w I σ v.dull u := Rep.dull' v u h

theorem Rep.ext {σ σ' : Sig} (E : Ext w I σ w' I' σ') {v : V} {u : Value} (h : Rep w I σ v u) : Rep w' I' σ' v u := Rep.ext' v u E h
end

end Go.Abs
