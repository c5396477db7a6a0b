/- append and copy. -/
import Derived.Test.YtcbddnmodlhnaaaA14
set_option linter.unusedVariables false
set_option linter.unusedSimpArgs false
namespace Go.Abs
open Go

section
variable {w w' : World} {I I' : Nat → Prop} {σ σ' : Sig} {h : Heap}

theorem osig_le {k1 k2 : Bool} (hk : k1 = true → k2 = true) : Ext w I (osig k1 σ) w I (osig k2 σ) := by
  cases k1
  · cases k2
    · exact .refl _ _ _
    · exact Ext.free
  · rw [hk rfl]; exact .refl _ _ _

theorem Ext.heap (hh : w'.heap = w.heap) : Ext w I σ w' I σ :=
  ⟨fun b _ => by rw [hh], fun b c el fz h => ⟨c, fz, by rw [hh]; exact h, rfl⟩, fun _ h => h, fun _ _ h => h⟩

/-- a draw from the tape -/
theorem Step.drew (R : Rel w I σ h) (n : Nat) : Step w I σ h n w.drew I σ h n :=
  ⟨Ext.heap rfl, R.keep (Ext.heap rfl) (fun b hb => R.imm b hb) (fun b hb => ⟨rfl, (R.owned hb).1⟩) (fun _ _ => rfl), rfl, rfl, rfl, Nat.le_refl _, fun _ _ _ => rfl, fun _ hb => .inr hb, fun _ hb => .inl hb, Nat.le_refl _, fun _ _ => rfl, fun _ _ hn => hn⟩

theorem Step.kill (R : Rel w I σ h) (id n : Nat) : Step w I σ h n w I σ (upd h id none) n :=
  ⟨.refl _ _ _, R.kill id, rfl, rfl, rfl, Nat.le_refl _, fun _ _ _ => rfl, fun _ hb => .inr hb.of_upd, fun _ hb => .inl hb, Nat.le_refl _, fun _ _ => rfl, fun i _ hn => by unfold upd; split <;> simp_all⟩

theorem Step.nil (R : Rel w I σ h) {n k : Nat} {keep : Bool} (hn : h n = none) (hs : σ n = none) : Step w I σ h n w I σ (upd h n (some ⟨k, [], keep⟩)) (n + 1) :=
  ⟨.refl _ _ _, R.adoptNil hn hs, rfl, rfl, rfl, Nat.le_refl _, fun _ _ _ => rfl, fun b hb => by
    obtain ⟨id, ob, o, k', h1, h2⟩ := hb
    by_cases e : id = n
    · subst e; rw [hs] at h2; cases h2
    · exact .inr ⟨id, ob, o, k', by simpa [upd, e] using h1, h2⟩, fun _ hb => .inl hb, by omega, fun _ _ => rfl, fun id hid hnn => by simp [upd, hnn]; omega⟩

/-- an object under another number, from one of its elements on -/
theorem Step.rebase (R : Rel w I σ h) {id n b o s : Nat} {ob : Ob} {kp : Bool} (hob : h id = some ob) (hsg : σ id = some (b, o, ob.k)) (hn : h n = none) (hs : σ n = none) (hk : ob.keep = true → kp = true) {c : Array Value} {el : TypeId}
    (hb : w.heap[b]? = some (Obj.cells c el (0, 0))) (hle : o + ob.es.length * ob.k ≤ c.size) (hrow : RepRow w I (osig ob.keep σ) ob.es ob.k b o) (hsl : s ≤ ob.es.length) :
    Step w I σ h n w I (upd σ n (some (b, o + s * ob.k, ob.k))) (upd (upd h id none) n (some ⟨ob.k, ob.es.drop s, kp⟩)) (n + 1) := by
  have hown : Owns σ h b := ⟨id, ob, o, ob.k, hob, hsg⟩
  have hne : n ≠ id := fun e => by rw [e, hob] at hn; cases hn
  have hn' : upd h id none n = none := by simp [upd, hne, hn]
  have hseg := hrow.seg s (ob.es.length - s)
  rw [List.take_of_length_le (by simp)] at hseg
  have E : Ext w I σ w I (upd σ n (some (b, o + s * ob.k, ob.k))) := Ext.sig' hs
  have hsz : o + s * ob.k + (ob.es.drop s).length * ob.k ≤ c.size := by
    have : s * ob.k + (ob.es.length - s) * ob.k = ob.es.length * ob.k := by rw [← Nat.add_mul]; congr 1; omega
    simp; omega
  have R1 := (R.kill id).adopt (n := n) (b := b) (o := o + s * ob.k) (k := ob.k) (es := ob.es.drop s) (keep := kp) hn' hs hb (R.owned hown).1 (R.notOwn hob hsg) hsz
    ((hseg.extRow (E.ofKeep ob.keep) rfl).extRow (osig_le hk) rfl)
  refine ⟨E, R1, rfl, rfl, rfl, Nat.le_refl _, fun _ _ _ => rfl, fun b' hb' => ?_, fun _ hb => .inl hb, by omega, fun i hi => by simp [upd]; omega, fun i hi hin => by
    have : i ≠ n := by omega
    simp only [upd, this, if_false]
    split
    · rfl
    · exact hin⟩
  obtain ⟨i, ob', o', k', h1, h2⟩ := hb'
  by_cases e : i = n
  · subst e
    simp [upd] at h2
    obtain ⟨rfl, _⟩ := h2
    exact .inr hown
  · have h1' : upd h id none i = some ob' := by simpa [upd, e] using h1
    have h2' : σ i = some (b', o', k') := by simpa [upd, e] using h2
    exact .inr (Owns.of_upd ⟨i, ob', o', k', h1', h2'⟩)

theorem row_append {es xs : List V} {k b o : Nat} (h1 : RepRow w I σ es k b o) (h2 : RepRow w I σ xs k b (o + es.length * k)) : RepRow w I σ (es ++ xs) k b o := by
  rw [RepRow_iff] at h1 h2 ⊢
  intro i e hi
  by_cases hl : i < es.length
  · rw [List.getElem?_append_left hl] at hi; exact h1 i e hi
  · rw [List.getElem?_append_right (by omega)] at hi
    have := h2 _ e hi
    rwa [show o + es.length * k + (i - es.length) * k = o + i * k by rw [Nat.add_assoc, ← Nat.add_mul]; congr 2; omega] at this

/-- what the second argument of an append yields -/
theorem src_sim {P : Program} {tx : TypeId} (hk : (∃ e', P.underlying tx = some (.slice e')) ∨ P.underlying tx = some .string) (R : Rel w I σ h) {x : V} {u : Value} {xs : List V} {kx : Bool} (hr : Rep w I σ x u) (he : elems h x = some (xs, kx))
    {k : Nat} (hl : ∀ e ∈ xs, e.cells.length = k) (hsg : ∀ id s l, x = .hdr id s l → ∃ ob, h id = some ob ∧ (xs ≠ [] → ob.k = k)) :
    ∃ news, Src P k tx u xs.length news w ∧ RepC w I (osig kx σ) (flat xs) news := by
  have flen := flat_length hl
  have mk : ∀ {ad : Addr} {cap : Nat} {b o : Nat} {τ : Sig}, ad = ⟨b, o, none⟩ → RepRow w I τ xs k b o → ∃ news, Src P k tx (.slice (some ad) xs.length cap) xs.length news w ∧ RepC w I τ (flat xs) news := by
    intro ad cap b o τ had hrow
    subst had
    obtain ⟨us, h1, h2, h3⟩ := row_flat hrow
    refine ⟨us, ⟨hk, fun _ => rfl, run_firstCells_some w k xs.length _ _ cap us h1 (fun j v hv => by rw [add_at]; exact h2 j v hv), run_firstCells_some w.drew k xs.length _ _ cap us h1 (fun j v hv => by rw [add_at]; simpa using h2 j v hv), h1, h3.ones⟩, h3⟩
  have mk0 : ∀ {ad : Option Addr} {cap : Nat}, xs = [] → ∃ news, Src P k tx (.slice ad 0 cap) xs.length news w ∧ RepC w I (osig kx σ) (flat xs) news := by
    intro ad cap h0
    subst h0
    refine ⟨[], ⟨hk, fun _ => rfl, ?_, ?_, by simp, by simp⟩, by simp [flat, RepC]⟩
    · cases ad <;> simp [Builtin.firstCells, loadCells, loadCellsFrom]
    · cases ad <;> simp [Builtin.firstCells, loadCells, loadCellsFrom]
  cases x with
  | sl c es =>
    simp only [elems, Option.some.injEq, Prod.mk.injEq] at he
    obtain ⟨rfl, rfl⟩ := he
    simp only [Rep] at hr
    obtain ⟨ad, cap, rfl, _, _, _, h4⟩ := hr
    rcases h4 with h4 | ⟨b, o, k', rfl, hI, hrow⟩
    · subst h4; exact mk0 rfl
    · by_cases h0 : es = []
      · subst h0; exact mk0 rfl
      · have hkk : k' = k := by
          obtain ⟨e, he⟩ := List.exists_mem_of_ne_nil es h0
          rw [← hrow.lens e he]; exact hl e he
        subst hkk
        exact mk rfl hrow
  | hdr id s l =>
    obtain ⟨ob, hob, hkk⟩ := hsg id s l rfl
    simp only [elems, hob] at he
    split at he
    · rename_i hle
      simp only [Option.some.injEq, Prod.mk.injEq] at he
      obtain ⟨rfl, rfl⟩ := he
      have hxl : ((ob.es.drop s).take l).length = l := by simp; omega
      simp only [Rep] at hr
      obtain ⟨ad, cap, rfl, h1, _, h3⟩ := hr
      by_cases h0 : l = 0
      · subst h0; exact mk0 (by simp)
      · rcases h3 with h3 | ⟨b, o, k', c, el, fz, hs, rfl, _⟩
        · omega
        · have hi : ob.es[s]? = some (ob.es[s]'(by omega)) := by simp
          obtain ⟨b', o', c', el', hs', _, _, _, hrow⟩ := R.at hob hi
          rw [hs] at hs'
          simp only [Option.some.injEq, Prod.mk.injEq] at hs'
          obtain ⟨rfl, rfl, rfl⟩ := hs'
          have hne : (ob.es.drop s).take l ≠ [] := by intro hh; rw [hh] at hxl; simp at hxl; omega
          have hko := hkk hne
          have hseg := hrow.seg s l
          rw [hko] at hseg
          have := mk (ad := ⟨b, o + s * ob.k, none⟩) (cap := cap) (by rw [hko]) hseg
          rwa [hxl] at this ⊢
    · cases he
  | str s =>
    simp only [elems, Option.some.injEq, Prod.mk.injEq] at he
    obtain ⟨rfl, rfl⟩ := he
    obtain ⟨bs, rfl, rfl⟩ := rep_str hr
    have hsz : bs.data.toList.length = bs.size := Array.length_toList
    by_cases h0 : bs.data.toList = []
    · rw [h0]
      have hz : bs.size = 0 := by rw [← hsz, h0]; rfl
      have hex : bs.extract 0 0 = ByteArray.empty := by
        apply ByteArray.ext; simp [ByteArray.data_extract]
      refine ⟨[], ⟨hk, fun _ => by simp [Builtin.lenOf, hz], ?_, ?_, by simp, by simp⟩, by simp [flat, RepC]⟩
      · simp [Builtin.firstCells, hex]
      · simp [Builtin.firstCells, hex]
    · have hk1 : k = 1 := by
        obtain ⟨e, he⟩ := List.exists_mem_of_ne_nil _ h0
        have := hl (.int .u8 e.toNat) (List.mem_map.2 ⟨e, he, rfl⟩)
        simpa [V.cells] using this.symm
      subst hk1
      refine ⟨byteCells bs, ⟨hk, fun _ => by simp [Builtin.lenOf, hsz], ?_, ?_, ?_, ?_⟩, ?_⟩
      · rw [List.length_map, hsz]; exact firstCells_string bs w
      · rw [List.length_map, hsz]; exact firstCells_string bs w.drew
      · rw [byteCells_length, List.length_map, hsz, Nat.mul_one]
      · intro u hu
        obtain ⟨_, _, rfl⟩ := List.mem_map.1 hu
        rfl
      · rw [RepC_iff]
        have hfl : flat (bs.data.toList.map fun b => V.int .u8 b.toNat) = bs.data.toList.map fun b => V.int .u8 b.toNat := by
          generalize bs.data.toList = l
          induction l with
          | nil => rfl
          | cons b l ih => rw [List.map_cons, flat_cons, ih]; rfl
        rw [hfl]
        refine ⟨by rw [byteCells_length, List.length_map, hsz], fun j c u hc hu => ?_⟩
        unfold byteCells at hu
        rw [List.getElem?_map] at hc hu
        cases hb : bs.data.toList[j]? with
        | none => simp [hb] at hc
        | some b =>
          simp only [hb, Option.map_some, Option.some.injEq] at hc hu
          subst hc; subst hu
          exact ⟨rfl, by simp [Rep]⟩
  | _ => simp [elems] at he

theorem run_append_zero {P : Program} (t tx ty e : TypeId) (i : TypeInfo) (ht : P.underlying t = some (.slice e)) (hi : P.info? e = some i) (base : Option Addr) (sLen sCap : Nat) (hle : sLen ≤ sCap) (x : Value) (hs : Src P i.size tx x 0 [] w) :
    (Builtin.append_ #[t, tx] ty #[.slice base sLen sCap, x]).run P w = .ok (.slice base sLen sCap) w := by
  have hc := hs.cells
  cases base <;> rcases hs.kind with ⟨e', hk⟩ | hk <;> simp [Builtin.append_, run_underlying ht, run_underlying hk, sizeOf, typeInfo, hi, hs.len, hle, hc, storeCells]

theorem run_append_in {P : Program} (t tx ty e : TypeId) (i : TypeInfo) (ht : P.underlying t = some (.slice e)) (hi : P.info? e = some i) {b p sLen sCap : Nat} {x : Value} {n : Nat} {news : List Value} (hs : Src P i.size tx x n news w)
    (hroom : sLen + n ≤ sCap) {c : Array Value} {el : TypeId} (hb : w.heap[b]? = some (Obj.cells c el (0, 0))) (hfit : p + sLen * i.size + news.length ≤ c.size) :
    (Builtin.append_ #[t, tx] ty #[.slice (some ⟨b, p, none⟩) sLen sCap, x]).run P w = .ok (.slice (some ⟨b, p, none⟩) (sLen + n) sCap) (w.setRow b (over c (p + sLen * i.size) news)) := by
  have hst := run_storeCells_at P b (p + sLen * i.size) el news 0 c w hb (by simpa using hfit) hs.one
  simp only [Nat.add_zero] at hst
  rcases hs.kind with ⟨e', hk⟩ | hk <;> simp [Builtin.append_, run_underlying ht, run_underlying hk, sizeOf, typeInfo, hi, hs.len, hroom, hs.cells, Addr.add_lit, hst, over]
end
end Go.Abs
