/- From the reading of arguments to abstract values, and from a call to a statement. -/
import Derived.Test.YtcbddnmodlhnaaaC1
import Derived.Carry
import Derived.ProofKit
import Derived.ChangeSame
namespace Go.Abs
open Go Go.ChangeShapes Go.RowKit

/-- what a cell of an argument may hold -/
inductive CS where
  | int (k : IntKind)
  | bool
  | str
  | sl (ag : Bool) (cs : List CS)
  deriving Inhabited

mutual
def okC : CS → V → Prop
  | .int k, v => ∃ n, v = .int k n ∧ k.min ≤ n ∧ n ≤ k.max
  | .bool, v => ∃ b, v = .bool b
  | .str, v => ∃ s, v = .str s ∧ s.length ≤ maxLen
  | .sl ag cs, v => ∃ es, v = .sl false es ∧ es.length ≤ maxLen ∧ ∀ e ∈ es, ∃ xs, e = (if ag then .agg xs else xs.headD .bad) ∧ okL cs xs
def okL : List CS → List V → Prop
  | [], vs => vs = []
  | c :: cs, vs => ∃ v r, vs = v :: r ∧ okC c v ∧ okL cs r
end

mutual
/-- the cells of a type -/
def csOf (P : Program) : Nat → TypeId → Option (Bool × List CS)
  | 0, _ => none
  | d + 1, t => match P.underlying t with
    | some .bool => some (false, [.bool])
    | some (.int k) => some (false, [.int k])
    | some .string => some (false, [.str])
    | some (.slice e) => match csOf P d e with
      | some (ag, l) => if P.cellsOf e = l.length ∧ 0 < l.length ∧ (ag = false → l.length = 1) then some (false, [.sl ag l]) else none
      | none => none
    | some (.struct fs) => match csFs P d 0 fs.toList with
      | some l => if P.cellsOf t = l.length then some (true, l) else none
      | none => none
    | _ => none
def csFs (P : Program) : Nat → Nat → List Field → Option (List CS)
  | 0, _, _ => none
  | _ + 1, _, [] => some []
  | d + 1, o, f :: fs => match csOf P d f.type, csFs P d (o + P.cellsOf f.type) fs with
    | some (_, l), some r => if f.offset = o ∧ P.cellsOf f.type = l.length then some (l ++ r) else none
    | _, _ => none
end

/-- a value of a type out of its cells -/
def ofCells (ag : Bool) (xs : List V) : V := if ag then .agg xs else xs.headD .bad

theorem okL_length : ∀ {cs : List CS} {vs : List V}, okL cs vs → vs.length = cs.length
  | [], vs, h => by simp only [okL] at h; subst h; rfl
  | c :: cs, vs, h => by
    simp only [okL] at h
    obtain ⟨v, r, rfl, _, h2⟩ := h
    simp [okL_length h2]

theorem okL_append : ∀ {cs cs' : List CS} {vs vs' : List V}, okL cs vs → okL cs' vs' → okL (cs ++ cs') (vs ++ vs')
  | [], cs', vs, vs', h, h' => by simp only [okL] at h; subst h; simpa using h'
  | c :: cs, cs', vs, vs', h, h' => by
    simp only [okL] at h
    obtain ⟨v, r, rfl, h1, h2⟩ := h
    simp only [List.cons_append, okL]
    exact ⟨v, r ++ vs', rfl, h1, okL_append h2 h'⟩

mutual
/-- how much a value holds -/
def vsz : V → Nat
  | .sl _ es => vszL es + 1
  | .agg cs => vszL cs
  | .str s => s.length + 1
  | _ => 1
def vszL : List V → Nat
  | [] => 0
  | c :: cs => vsz c + vszL cs
end

theorem vszL_append : ∀ a b : List V, vszL (a ++ b) = vszL a + vszL b
  | [], b => by simp [vszL]
  | c :: a, b => by simp only [List.cons_append, vszL, vszL_append a b]; omega

theorem vszL_le : ∀ (vs : List V) (ys : List Nat), vs.length = ys.length → (∀ (i : Nat) v y, vs[i]? = some v → ys[i]? = some y → vsz v ≤ y) → vszL vs ≤ ys.sum
  | [], _, _, _ => by simp [vszL]
  | v :: vs, [], h, _ => by simp at h
  | v :: vs, y :: ys, h, hi => by
    have h0 := hi 0 v y rfl rfl
    have := vszL_le vs ys (by simpa using h) fun i v' y' h1 h2 => hi (i + 1) v' y' (by simpa using h1) (by simpa using h2)
    simp only [vszL, List.sum_cons]; omega

theorem vszL_map {α : Type} (f : α → V) (l : List α) : vszL (l.map f) = (l.map fun x => vsz (f x)).sum := by
  induction l with
  | nil => rfl
  | cons x l ih => simp only [List.map_cons, vszL, ih, List.sum_cons]

/-- a measure of readings -/
structure Bulk {H : Type} (bulk : DataW H → Nat) : Prop where
  one : ∀ d, 1 ≤ bulk d
  slice : ∀ els sp, (els.map bulk).sum + 1 ≤ bulk (.slice els sp)
  agg : ∀ ps, (ps.map bulk).sum ≤ bulk (.agg ps)
  str : ∀ b, b.length + 1 ≤ bulk (.lit (.string b))

theorem vsz_ofCells {ag : Bool} {cs : List CS} {xs : List V} (h : okL cs xs) (h1 : ag = false → cs.length = 1) : vsz (ofCells ag xs) = vszL xs := by
  cases ag with
  | true => rfl
  | false =>
    have hl := okL_length h
    rw [h1 rfl] at hl
    match xs, hl with
    | [x], _ => simp [ofCells, vszL]

section
variable {H : Type} {enc : TypeId × Value → H} {P : Program} {w : World} {spare : Nat → Bool} {held : Bool} {bulk : DataW H → Nat}

def oldB (w : World) : Nat → Prop := fun b => b < w.heap.size

theorem RepC_one {I : Nat → Prop} {v : V} {u : Value} (h1 : u.oneCell' = true) (h : Rep w I nosig v u) : RepC w I nosig [v] [u] := by
  simp only [RepC]
  exact ⟨u, [], rfl, h1, h, rfl⟩

theorem RepC_app {I : Nat → Prop} : ∀ {vs vs' : List V} {us us' : List Value}, RepC w I nosig vs us → RepC w I nosig vs' us' → RepC w I nosig (vs ++ vs') (us ++ us')
  | [], vs', us, us', h, h' => by simp only [RepC] at h; subst h; simpa using h'
  | v :: vs, vs', us, us', h, h' => by
    simp only [RepC] at h
    obtain ⟨u, r, rfl, h1, h2, h3⟩ := h
    simp only [List.cons_append, RepC]
    exact ⟨u, _, rfl, h1, h2, RepC_app h3 h'⟩

theorem ofCells_cells {ag : Bool} {cs : List CS} {xs : List V} (h : okL cs xs) (h1 : ag = false → cs.length = 1) (hne : ag = false → ∀ x ∈ xs, ∀ l, x ≠ .agg l) : (ofCells ag xs).cells = xs := by
  cases ag with
  | true => rfl
  | false =>
    have hl := okL_length h
    rw [h1 rfl] at hl
    match xs, hl, hne with
    | [x], _, hne =>
      have := hne rfl x (by simp)
      cases x <;> first | rfl | exact absurd rfl (this _)

theorem okC_noagg {c : CS} {v : V} (h : okC c v) : ∀ l, v ≠ .agg l := by
  intro l e
  subst e
  cases c <;> simp [okC] at h

theorem okL_noagg : ∀ {cs : List CS} {vs : List V}, okL cs vs → ∀ x ∈ vs, ∀ l, x ≠ .agg l
  | [], vs, h, x, hx => by simp only [okL] at h; subst h; cases hx
  | c :: cs, vs, h, x, hx => by
    simp only [okL] at h
    obtain ⟨v, r, rfl, h1, h2⟩ := h
    rcases List.mem_cons.1 hx with rfl | hx
    · exact okC_noagg h1
    · exact okL_noagg h2 x hx

mutual
theorem trod_cs (hB : Bulk bulk) : ∀ (n fuel : Nat) (t : TypeId) (cs : List Value) (x : DataW H × List MemPlace) (ag : Bool) (l : List CS), csOf P n t = some (ag, l) → DataW.trod enc P w 0 spare held fuel t cs = some x →
    ∃ vs, RepC w (oldB w) nosig vs cs ∧ okL l vs ∧ vszL vs ≤ bulk x.1
  | 0, _, _, _, _, _, _, h, _ => by simp [csOf] at h
  | n + 1, fuel, t, cs, x, ag, l, h, hx => by
    unfold csOf at h
    split at h
    · rename_i hu
      simp only [Option.some.injEq, Prod.mk.injEq] at h
      obtain ⟨rfl, rfl⟩ := h
      obtain ⟨b, rfl, rfl⟩ := DataW.trod_bool hu hx
      exact ⟨[.bool b], RepC_one rfl (by simp [Rep]), by simp [okL, okC], by simpa [vszL, vsz] using hB.one _⟩
    · rename_i k hu
      simp only [Option.some.injEq, Prod.mk.injEq] at h
      obtain ⟨rfl, rfl⟩ := h
      obtain ⟨m, rfl, rfl, hw⟩ := DataW.trod_int hu hx
      simp only [Lit.wf, Bool.and_eq_true, decide_eq_true_eq] at hw
      exact ⟨[.int k m], RepC_one rfl (by simp [Rep]), by simp [okL, okC, hw], by simpa [vszL, vsz] using hB.one _⟩
    · rename_i hu
      simp only [Option.some.injEq, Prod.mk.injEq] at h
      obtain ⟨rfl, rfl⟩ := h
      obtain ⟨s, rfl, rfl, hw⟩ := DataW.trod_string hu hx
      exact ⟨[.str s.data.toList], RepC_one rfl (by simp [Rep]), by simp only [okL, okC]; exact ⟨_, _, rfl, ⟨_, rfl, by simpa using hw⟩, rfl⟩, by simpa [vszL, vsz] using hB.str s.data.toList⟩
    · rename_i e hu
      split at h
      case h_2 => cases h
      rename_i age le hce
      split at h
      case isFalse => cases h
      rename_i hle
      simp only [Option.some.injEq, Prod.mk.injEq] at h
      obtain ⟨rfl, rfl⟩ := h
      rcases DataW.trod_slice hu hx with ⟨rfl, rfl⟩ | ⟨a, len, cap, els, rest, m, _, rfl, rfl, hb, hl, hm, hlen, hel, _, _⟩
      · refine ⟨[.sl false []], RepC_one rfl ?_, ?_, by simpa [vszL, vsz] using hB.one _⟩
        · simp only [Rep]
          exact ⟨none, 0, rfl, by simp, by simp [maxLen], (fun hh => by cases hh), .inl trivial⟩
        · simp only [okL, okC]
          exact ⟨_, _, rfl, ⟨[], rfl, by simp, by simp⟩, rfl⟩
      · have key : ∀ i, i < len → ∃ vs us, w.cells? 0 (a.add (i * P.cellsOf e)) (P.cellsOf e) = some us ∧ RepC w (oldB w) nosig vs us ∧ okL le vs ∧ ∀ y, els[i]? = some y → vszL vs ≤ bulk y.1 := by
          intro i hi
          have := hel i hi
          have hs : ∃ y, els[i]? = some y := ⟨els[i], by simp⟩
          obtain ⟨y, hy⟩ := hs
          rw [hy] at this
          cases hc : w.cells? 0 (a.add (i * P.cellsOf e)) (P.cellsOf e) with
          | none => simp [hc] at this
          | some us =>
            simp only [hc, Option.bind_some] at this
            obtain ⟨vs, h1, h2, h3⟩ := trod_cs hB n m e us y age le hce this
            exact ⟨vs, us, rfl, h1, h2, fun y' hy' => by rw [hy] at hy'; cases hy'; exact h3⟩
        let f : Nat → V := fun i => if hi : i < len then ofCells age (Classical.choose (key i hi)) else .bad
        have hf : ∀ i (hi : i < len), f i = ofCells age (Classical.choose (key i hi)) := fun i hi => by simp [f, hi]
        have hgl : ((List.range len).map f).length = len := by simp
        refine ⟨[.sl false ((List.range len).map f)], RepC_one rfl ?_, ?_, ?_⟩
        · simp only [Rep]
          refine ⟨some a, cap, by rw [hgl], by rw [hgl]; exact hl, hm, (fun hh => by cases hh), ?_⟩
          by_cases h0 : len = 0
          · subst h0; exact .inl (by simp)
          · have c0 : ∃ u, w.cell? a = some u := by
              obtain ⟨vs, us, hc, h1, h2, _⟩ := key 0 (by omega)
              obtain ⟨_, hul, hcell⟩ := World.cells?_some hc
              have := hcell 0 (by omega)
              simp only [Nat.zero_mul] at this
              rw [show (a.add 0).add 0 = a by simp [Addr.add]] at this
              have hpos : 0 < us.length := by omega
              exact ⟨us[0], by rw [this]; simp [hpos]⟩
            obtain ⟨u0, hu0⟩ := c0
            have hsp : a.spot = none := by
              unfold World.cell? at hu0
              split at hu0
              · split at hu0
                · cases hu0
                · rename_i hs; simpa using hs
              · cases hu0
            have hblk : a.block < w.heap.size := by
              unfold World.cell? at hu0
              split at hu0
              · rename_i hh; exact (Array.getElem?_eq_some_iff.1 hh).1
              · cases hu0
            obtain ⟨ab, ao, asp⟩ := a
            simp only at hsp hblk
            subst hsp
            refine .inr ⟨ab, ao, le.length, rfl, hblk, ?_⟩
            rw [RepRow_iff]
            intro i v hv
            have hi : i < len := by
              have := (List.getElem?_eq_some_iff.1 hv).1
              simpa using this
            have hv' : v = f i := by
              simp only [List.getElem?_map, List.getElem?_range hi, Option.map_some, Option.some.injEq] at hv
              exact hv.symm
            obtain ⟨us, hc, h1, h2, _⟩ := Classical.choose_spec (key i hi)
            have hcs : v.cells = Classical.choose (key i hi) := by
              rw [hv', hf i hi]
              exact ofCells_cells h2 hle.2.2 (fun _ => okL_noagg h2)
            rw [hcs]
            refine ⟨okL_length h2, ?_⟩
            intro j c hj
            rw [RepC_iff] at h1
            obtain ⟨_, hul, hcell⟩ := World.cells?_some hc
            have hjl : j < us.length := by
              have := (List.getElem?_eq_some_iff.1 hj).1
              omega
            have hcj := hcell j (by omega)
            have hus : us[j]? = some us[j] := by simp
            refine ⟨us[j], ?_, h1.2 j c _ hj hus⟩
            rw [← hus, ← hcj, add_at, add_at, hle.1]
        · simp only [okL, okC]
          refine ⟨_, _, rfl, ⟨_, rfl, by rw [hgl]; omega, ?_⟩, rfl⟩
          intro v hv
          obtain ⟨i, hi, rfl⟩ := List.mem_map.1 hv
          have hi' : i < len := by simpa using hi
          obtain ⟨us, hc, h1, h2, _⟩ := Classical.choose_spec (key i hi')
          exact ⟨_, hf i hi', h2⟩
        · have hsum : vszL ((List.range len).map f) ≤ ((els.map (·.1)).map bulk).sum := by
            refine vszL_le _ _ (by simp [hlen]) fun i v y hv hy => ?_
            have hi : i < len := by
              have := (List.getElem?_eq_some_iff.1 hv).1
              simpa using this
            have hv' : v = f i := by
              simp only [List.getElem?_map, List.getElem?_range hi, Option.map_some, Option.some.injEq] at hv
              exact hv.symm
            obtain ⟨us, hc, h1, h2, h3⟩ := Classical.choose_spec (key i hi)
            rw [hv', hf i hi, vsz_ofCells h2 hle.2.2]
            have he : els[i]? = some (els[i]'(by omega)) := by simp [hlen, hi]
            rw [List.getElem?_map, List.getElem?_map, he] at hy
            simp only [Option.map_some, Option.some.injEq] at hy
            subst hy
            exact h3 _ he
          have := hB.slice (els.map (·.1)) (rest.map (·.1))
          simp only [vszL, vsz]
          omega
    · rename_i fs hu
      split at h
      case h_2 => cases h
      rename_i lf hlf
      split at h
      case isFalse => cases h
      rename_i hcl
      simp only [Option.some.injEq, Prod.mk.injEq] at h
      obtain ⟨rfl, rfl⟩ := h
      obtain ⟨xs, m, _, rfl, hlen, _, hfs⟩ := DataW.trod_struct hu hx
      obtain ⟨vs, h1, h2, h3⟩ := trod_fs hB n m cs xs 0 0 fs.toList lf hlf (by
        intro i f hf
        have := hfs i f (by simpa using hf)
        simpa using this) (by
        intro i hi
        have hfi : fs[i]? = some fs[i] := by simp at hi; simp [hi]
        have : i < xs.length := by simp at hi; omega
        simp [this])
      have hll := okL_length h2
      rw [List.drop_zero, ← hll] at h1
      rw [show vs.length = cs.length by omega, List.take_length] at h1
      refine ⟨vs, h1, h2, Nat.le_trans h3 (Nat.le_trans ?_ (hB.agg _))⟩
      simp [List.map_map, Function.comp_def]
    · cases h
theorem trod_fs (hB : Bulk bulk) : ∀ (n m : Nat) (cs : List Value) (xs : List (DataW H × List MemPlace)) (o k : Nat) (fs : List Field) (l : List CS), csFs P n o fs = some l →
    (∀ (i : Nat) (f : Field), fs[i]? = some f → DataW.trod enc P w 0 spare held m f.type ((cs.drop f.offset).take (P.cellsOf f.type)) = xs[k + i]?) → (∀ i, i < fs.length → (xs[k + i]?).isSome = true) →
    ∃ vs, RepC w (oldB w) nosig vs ((cs.drop o).take l.length) ∧ okL l vs ∧ vszL vs ≤ ((xs.drop k).map fun y => bulk y.1).sum
  | 0, _, _, _, _, _, _, _, h, _, _ => by simp [csFs] at h
  | n + 1, m, cs, xs, o, k, [], l, h, _, _ => by
    simp only [csFs, Option.some.injEq] at h
    subst h
    exact ⟨[], by simp [RepC], rfl, by simp [vszL]⟩
  | n + 1, m, cs, xs, o, k, f :: fs, l, h, hf, hs => by
    simp only [csFs] at h
    split at h
    case h_2 => cases h
    rename_i ag l1 r hc hr
    split at h
    case isFalse => cases h
    rename_i hcond
    simp only [Option.some.injEq] at h
    subst h
    have h0 := hf 0 f (by simp)
    have hs0 := hs 0 (by simp)
    rw [Nat.add_zero] at h0 hs0
    obtain ⟨y, hy⟩ := Option.isSome_iff_exists.1 hs0
    rw [hy] at h0
    obtain ⟨vs, h1, h2, h5⟩ := trod_cs hB n m f.type _ y ag l1 hc h0
    obtain ⟨vs', h3, h4, h6⟩ := trod_fs hB n m cs xs (o + P.cellsOf f.type) (k + 1) fs r hr (by
      intro i g hg
      have := hf (i + 1) g (by simpa using hg)
      rw [this]; congr 1; omega) (by
      intro i hi
      have := hs (i + 1) (by simpa using hi)
      rw [show k + 1 + i = k + (i + 1) by omega]; exact this)
    have hd : xs.drop k = y :: xs.drop (k + 1) := by
      obtain ⟨hk, rfl⟩ := List.getElem?_eq_some_iff.1 hy
      exact List.drop_eq_getElem_cons hk
    refine ⟨vs ++ vs', ?_, okL_append h2 h4, by rw [vszL_append, hd, List.map_cons, List.sum_cons]; omega⟩
    rw [hcond.1, hcond.2] at h1
    rw [hcond.2] at h3
    have : (cs.drop o).take (l1 ++ r).length = (cs.drop o).take l1.length ++ (cs.drop (o + l1.length)).take r.length := by
      rw [List.length_append, List.take_add, List.drop_drop]
    rw [this]
    exact RepC_app h1 h3
end
end

end Go.Abs
