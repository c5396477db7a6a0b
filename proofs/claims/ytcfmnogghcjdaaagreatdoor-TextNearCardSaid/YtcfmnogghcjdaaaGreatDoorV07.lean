/- Part of a proof: L1, L2, A3, W. -/
import Derived.Test.YtcfmnogghcjdaaaGreatDoorV06
import Derived.Carry
import Derived.ChangeSame
import Derived.OpenShut
import Derived.ProofKit
set_option linter.all false
set_option maxRecDepth 100000
set_option maxHeartbeats 20000000
namespace Go.Abs
open Go Go.ChangeShapes Go.RowKit
inductive CS where
  | int (k : IntKind)
  | bool
  | str
  | sl (ag : Bool) (cs : List CS)
  deriving Inhabited
mutual
def okC : CS → V → Prop
  | .int k, v => ∃ n, v = .int k n ∧ k.min ≤ n ∧ n ≤ k.max
  | .bool, v => ∃ b, v = .bool b
  | .str, v => ∃ s, v = .str s ∧ s.length ≤ maxLen
  | .sl ag cs, v => ∃ es, v = .sl false es ∧ es.length ≤ maxLen ∧ ∀ e ∈ es, ∃ xs, e = (if ag then .agg xs else xs.headD .bad) ∧ okL cs xs
def okL : List CS → List V → Prop
  | [], vs => vs = []
  | c :: cs, vs => ∃ v r, vs = v :: r ∧ okC c v ∧ okL cs r
end
mutual
def csOf (P : Program) : Nat → TypeId → Option (Bool × List CS)
  | 0, _ => none
  | d + 1, t => match P.underlying t with
    | some .bool => some (false, [.bool])
    | some (.int k) => some (false, [.int k])
    | some .string => some (false, [.str])
    | some (.slice e) => match csOf P d e with
      | some (ag, l) => if P.cellsOf e = l.length ∧ 0 < l.length ∧ (ag = false → l.length = 1) then some (false, [.sl ag l]) else none
      | none => none
    | some (.struct fs) => match csFs P d 0 fs.toList with
      | some l => if P.cellsOf t = l.length then some (true, l) else none
      | none => none
    | _ => none
def csFs (P : Program) : Nat → Nat → List Field → Option (List CS)
  | 0, _, _ => none
  | _ + 1, _, [] => some []
  | d + 1, o, f :: fs => match csOf P d f.type, csFs P d (o + P.cellsOf f.type) fs with
    | some (_, l), some r => if f.offset = o ∧ P.cellsOf f.type = l.length then some (l ++ r) else none
    | _, _ => none
end
def ofCells (ag : Bool) (xs : List V) : V := if ag then .agg xs else xs.headD .bad
theorem okL_length : ∀ {cs : List CS} {vs : List V}, okL cs vs → vs.length = cs.length
  | [], vs, h => by simp only [okL] at h; subst h; rfl
  | c :: cs, vs, h => by
    simp only [okL] at h
    obtain ⟨v, r, rfl, _, h2⟩ := h
    simp [okL_length h2]
theorem okL_append : ∀ {cs cs' : List CS} {vs vs' : List V}, okL cs vs → okL cs' vs' → okL (cs ++ cs') (vs ++ vs')
  | [], cs', vs, vs', h, h' => by simp only [okL] at h; subst h; simpa using h'
  | c :: cs, cs', vs, vs', h, h' => by
    simp only [okL] at h
    obtain ⟨v, r, rfl, h1, h2⟩ := h
    simp only [List.cons_append, okL]
    exact ⟨v, r ++ vs', rfl, h1, okL_append h2 h'⟩
mutual
def vsz : V → Nat
  | .sl _ es => vszL es + 1
  | .agg cs => vszL cs
  | .str s => s.length + 1
  | _ => 1
def vszL : List V → Nat
  | [] => 0
  | c :: cs => vsz c + vszL cs
end
theorem vszL_append : ∀ a b : List V, vszL (a ++ b) = vszL a + vszL b
  | [], b => by simp [vszL]
  | c :: a, b => by simp only [List.cons_append, vszL, vszL_append a b]; omega
theorem vszL_le : ∀ (vs : List V) (ys : List Nat), vs.length = ys.length → (∀ (i : Nat) v y, vs[i]? = some v → ys[i]? = some y → vsz v ≤ y) → vszL vs ≤ ys.sum
  | [], _, _, _ => by simp [vszL]
  | v :: vs, [], h, _ => by simp at h
  | v :: vs, y :: ys, h, hi => by
    have h0 := hi 0 v y rfl rfl
    have := vszL_le vs ys (by simpa using h) fun i v' y' h1 h2 => hi (i + 1) v' y' (by simpa using h1) (by simpa using h2)
    simp only [vszL, List.sum_cons]; omega
theorem vszL_map {α : Type} (f : α → V) (l : List α) : vszL (l.map f) = (l.map fun x => vsz (f x)).sum := by
  induction l with
  | nil => rfl
  | cons x l ih => simp only [List.map_cons, vszL, ih, List.sum_cons]
structure Bulk {H : Type} (bulk : DataW H → Nat) : Prop where
  one : ∀ d, 1 ≤ bulk d
  slice : ∀ els sp, (els.map bulk).sum + 1 ≤ bulk (.slice els sp)
  agg : ∀ ps, (ps.map bulk).sum ≤ bulk (.agg ps)
  str : ∀ b, b.length + 1 ≤ bulk (.lit (.string b))
theorem vsz_ofCells {ag : Bool} {cs : List CS} {xs : List V} (h : okL cs xs) (h1 : ag = false → cs.length = 1) : vsz (ofCells ag xs) = vszL xs := by
  cases ag with
  | true => rfl
  | false =>
    have hl := okL_length h
    rw [h1 rfl] at hl
    match xs, hl with
    | [x], _ => simp [ofCells, vszL]
section
variable {H : Type} {enc : TypeId × Value → H} {P : Program} {w : World} {spare : Nat → Bool} {held : Bool} {bulk : DataW H → Nat}
def oldB (w : World) : Nat → Prop := fun b => b < w.heap.size
theorem RepC_one {I : Nat → Prop} {v : V} {u : Value} (h1 : u.oneCell' = true) (h : Rep w I nosig v u) : RepC w I nosig [v] [u] := by
  simp only [RepC]
  exact ⟨u, [], rfl, h1, h, rfl⟩
theorem RepC_app {I : Nat → Prop} : ∀ {vs vs' : List V} {us us' : List Value}, RepC w I nosig vs us → RepC w I nosig vs' us' → RepC w I nosig (vs ++ vs') (us ++ us')
  | [], vs', us, us', h, h' => by simp only [RepC] at h; subst h; simpa using h'
  | v :: vs, vs', us, us', h, h' => by
    simp only [RepC] at h
    obtain ⟨u, r, rfl, h1, h2, h3⟩ := h
    simp only [List.cons_append, RepC]
    exact ⟨u, _, rfl, h1, h2, RepC_app h3 h'⟩
theorem ofCells_cells {ag : Bool} {cs : List CS} {xs : List V} (h : okL cs xs) (h1 : ag = false → cs.length = 1) (hne : ag = false → ∀ x ∈ xs, ∀ l, x ≠ .agg l) : (ofCells ag xs).cells = xs := by
  cases ag with
  | true => rfl
  | false =>
    have hl := okL_length h
    rw [h1 rfl] at hl
    match xs, hl, hne with
    | [x], _, hne =>
      have := hne rfl x (by simp)
      cases x <;> first | rfl | exact absurd rfl (this _)
theorem okC_noagg {c : CS} {v : V} (h : okC c v) : ∀ l, v ≠ .agg l := by
  intro l e
  subst e
  cases c <;> simp [okC] at h
theorem okL_noagg : ∀ {cs : List CS} {vs : List V}, okL cs vs → ∀ x ∈ vs, ∀ l, x ≠ .agg l
  | [], vs, h, x, hx => by simp only [okL] at h; subst h; cases hx
  | c :: cs, vs, h, x, hx => by
    simp only [okL] at h
    obtain ⟨v, r, rfl, h1, h2⟩ := h
    rcases List.mem_cons.1 hx with rfl | hx
    · exact okC_noagg h1
    · exact okL_noagg h2 x hx
mutual
theorem trod_cs (hB : Bulk bulk) : ∀ (n fuel : Nat) (t : TypeId) (cs : List Value) (x : DataW H × List MemPlace) (ag : Bool) (l : List CS), csOf P n t = some (ag, l) → DataW.trod enc P w 0 spare held fuel t cs = some x →
    ∃ vs, RepC w (oldB w) nosig vs cs ∧ okL l vs ∧ vszL vs ≤ bulk x.1
  | 0, _, _, _, _, _, _, h, _ => by simp [csOf] at h
  | n + 1, fuel, t, cs, x, ag, l, h, hx => by
    unfold csOf at h
    split at h
    · rename_i hu
      simp only [Option.some.injEq, Prod.mk.injEq] at h
      obtain ⟨rfl, rfl⟩ := h
      obtain ⟨b, rfl, rfl⟩ := DataW.trod_bool hu hx
      exact ⟨[.bool b], RepC_one rfl (by simp [Rep]), by simp [okL, okC], by simpa [vszL, vsz] using hB.one _⟩
    · rename_i k hu
      simp only [Option.some.injEq, Prod.mk.injEq] at h
      obtain ⟨rfl, rfl⟩ := h
      obtain ⟨m, rfl, rfl, hw⟩ := DataW.trod_int hu hx
      simp only [Lit.wf, Bool.and_eq_true, decide_eq_true_eq] at hw
      exact ⟨[.int k m], RepC_one rfl (by simp [Rep]), by simp [okL, okC, hw], by simpa [vszL, vsz] using hB.one _⟩
    · rename_i hu
      simp only [Option.some.injEq, Prod.mk.injEq] at h
      obtain ⟨rfl, rfl⟩ := h
      obtain ⟨s, rfl, rfl, hw⟩ := DataW.trod_string hu hx
      exact ⟨[.str s.data.toList], RepC_one rfl (by simp [Rep]), by simp only [okL, okC]; exact ⟨_, _, rfl, ⟨_, rfl, by simpa using hw⟩, rfl⟩, by simpa [vszL, vsz] using hB.str s.data.toList⟩
    · rename_i e hu
      split at h
      case h_2 => cases h
      rename_i age le hce
      split at h
      case isFalse => cases h
      rename_i hle
      simp only [Option.some.injEq, Prod.mk.injEq] at h
      obtain ⟨rfl, rfl⟩ := h
      rcases DataW.trod_slice hu hx with ⟨rfl, rfl⟩ | ⟨a, len, cap, els, rest, m, _, rfl, rfl, hb, hl, hm, hlen, hel, _, _⟩
      · refine ⟨[.sl false []], RepC_one rfl ?_, ?_, by simpa [vszL, vsz] using hB.one _⟩
        · simp only [Rep]
          exact ⟨none, 0, rfl, by simp, by simp [maxLen], (fun hh => by cases hh), .inl trivial⟩
        · simp only [okL, okC]
          exact ⟨_, _, rfl, ⟨[], rfl, by simp, by simp⟩, rfl⟩
      · have key : ∀ i, i < len → ∃ vs us, w.cells? 0 (a.add (i * P.cellsOf e)) (P.cellsOf e) = some us ∧ RepC w (oldB w) nosig vs us ∧ okL le vs ∧ ∀ y, els[i]? = some y → vszL vs ≤ bulk y.1 := by
          intro i hi
          have := hel i hi
          have hs : ∃ y, els[i]? = some y := ⟨els[i], by simp⟩
          obtain ⟨y, hy⟩ := hs
          rw [hy] at this
          cases hc : w.cells? 0 (a.add (i * P.cellsOf e)) (P.cellsOf e) with
          | none => simp [hc] at this
          | some us =>
            simp only [hc, Option.bind_some] at this
            obtain ⟨vs, h1, h2, h3⟩ := trod_cs hB n m e us y age le hce this
            exact ⟨vs, us, rfl, h1, h2, fun y' hy' => by rw [hy] at hy'; cases hy'; exact h3⟩
        let f : Nat → V := fun i => if hi : i < len then ofCells age (Classical.choose (key i hi)) else .bad
        have hf : ∀ i (hi : i < len), f i = ofCells age (Classical.choose (key i hi)) := fun i hi => by simp [f, hi]
        have hgl : ((List.range len).map f).length = len := by simp
        refine ⟨[.sl false ((List.range len).map f)], RepC_one rfl ?_, ?_, ?_⟩
        · simp only [Rep]
          refine ⟨some a, cap, by rw [hgl], by rw [hgl]; exact hl, hm, (fun hh => by cases hh), ?_⟩
          by_cases h0 : len = 0
          · subst h0; exact .inl (by simp)
          · have c0 : ∃ u, w.cell? a = some u := by
              obtain ⟨vs, us, hc, h1, h2, _⟩ := key 0 (by omega)
              obtain ⟨_, hul, hcell⟩ := World.cells?_some hc
              have := hcell 0 (by omega)
              simp only [Nat.zero_mul] at this
              rw [show (a.add 0).add 0 = a by simp [Addr.add]] at this
              have hpos : 0 < us.length := by omega
              exact ⟨us[0], by rw [this]; simp [hpos]⟩
            obtain ⟨u0, hu0⟩ := c0
            have hsp : a.spot = none := by
              unfold World.cell? at hu0
              split at hu0
              · split at hu0
                · cases hu0
                · rename_i hs; simpa using hs
              · cases hu0
            have hblk : a.block < w.heap.size := by
              unfold World.cell? at hu0
              split at hu0
              · rename_i hh; exact (Array.getElem?_eq_some_iff.1 hh).1
              · cases hu0
            obtain ⟨ab, ao, asp⟩ := a
            simp only at hsp hblk
            subst hsp
            refine .inr ⟨ab, ao, le.length, rfl, hblk, ?_⟩
            rw [RepRow_iff]
            intro i v hv
            have hi : i < len := by
              have := (List.getElem?_eq_some_iff.1 hv).1
              simpa using this
            have hv' : v = f i := by
              simp only [List.getElem?_map, List.getElem?_range hi, Option.map_some, Option.some.injEq] at hv
              exact hv.symm
            obtain ⟨us, hc, h1, h2, _⟩ := Classical.choose_spec (key i hi)
            have hcs : v.cells = Classical.choose (key i hi) := by
              rw [hv', hf i hi]
              exact ofCells_cells h2 hle.2.2 (fun _ => okL_noagg h2)
            rw [hcs]
            refine ⟨okL_length h2, ?_⟩
            intro j c hj
            rw [RepC_iff] at h1
            obtain ⟨_, hul, hcell⟩ := World.cells?_some hc
            have hjl : j < us.length := by
              have := (List.getElem?_eq_some_iff.1 hj).1
              omega
            have hcj := hcell j (by omega)
            have hus : us[j]? = some us[j] := by simp
            refine ⟨us[j], ?_, h1.2 j c _ hj hus⟩
            rw [← hus, ← hcj, add_at, add_at, hle.1]
        · simp only [okL, okC]
          refine ⟨_, _, rfl, ⟨_, rfl, by rw [hgl]; omega, ?_⟩, rfl⟩
          intro v hv
          obtain ⟨i, hi, rfl⟩ := List.mem_map.1 hv
          have hi' : i < len := by simpa using hi
          obtain ⟨us, hc, h1, h2, _⟩ := Classical.choose_spec (key i hi')
          exact ⟨_, hf i hi', h2⟩
        · have hsum : vszL ((List.range len).map f) ≤ ((els.map (·.1)).map bulk).sum := by
            refine vszL_le _ _ (by simp [hlen]) fun i v y hv hy => ?_
            have hi : i < len := by
              have := (List.getElem?_eq_some_iff.1 hv).1
              simpa using this
            have hv' : v = f i := by
              simp only [List.getElem?_map, List.getElem?_range hi, Option.map_some, Option.some.injEq] at hv
              exact hv.symm
            obtain ⟨us, hc, h1, h2, h3⟩ := Classical.choose_spec (key i hi)
            rw [hv', hf i hi, vsz_ofCells h2 hle.2.2]
            have he : els[i]? = some (els[i]'(by omega)) := by simp [hlen, hi]
            rw [List.getElem?_map, List.getElem?_map, he] at hy
            simp only [Option.map_some, Option.some.injEq] at hy
            subst hy
            exact h3 _ he
          have := hB.slice (els.map (·.1)) (rest.map (·.1))
          simp only [vszL, vsz]
          omega
    · rename_i fs hu
      split at h
      case h_2 => cases h
      rename_i lf hlf
      split at h
      case isFalse => cases h
      rename_i hcl
      simp only [Option.some.injEq, Prod.mk.injEq] at h
      obtain ⟨rfl, rfl⟩ := h
      obtain ⟨xs, m, _, rfl, hlen, _, hfs⟩ := DataW.trod_struct hu hx
      obtain ⟨vs, h1, h2, h3⟩ := trod_fs hB n m cs xs 0 0 fs.toList lf hlf (by
        intro i f hf
        have := hfs i f (by simpa using hf)
        simpa using this) (by
        intro i hi
        have hfi : fs[i]? = some fs[i] := by simp at hi; simp [hi]
        have : i < xs.length := by simp at hi; omega
        simp [this])
      have hll := okL_length h2
      rw [List.drop_zero, ← hll] at h1
      rw [show vs.length = cs.length by omega, List.take_length] at h1
      refine ⟨vs, h1, h2, Nat.le_trans h3 (Nat.le_trans ?_ (hB.agg _))⟩
      simp [List.map_map, Function.comp_def]
    · cases h
theorem trod_fs (hB : Bulk bulk) : ∀ (n m : Nat) (cs : List Value) (xs : List (DataW H × List MemPlace)) (o k : Nat) (fs : List Field) (l : List CS), csFs P n o fs = some l →
    (∀ (i : Nat) (f : Field), fs[i]? = some f → DataW.trod enc P w 0 spare held m f.type ((cs.drop f.offset).take (P.cellsOf f.type)) = xs[k + i]?) → (∀ i, i < fs.length → (xs[k + i]?).isSome = true) →
    ∃ vs, RepC w (oldB w) nosig vs ((cs.drop o).take l.length) ∧ okL l vs ∧ vszL vs ≤ ((xs.drop k).map fun y => bulk y.1).sum
  | 0, _, _, _, _, _, _, _, h, _, _ => by simp [csFs] at h
  | n + 1, m, cs, xs, o, k, [], l, h, _, _ => by
    simp only [csFs, Option.some.injEq] at h
    subst h
    exact ⟨[], by simp [RepC], rfl, by simp [vszL]⟩
  | n + 1, m, cs, xs, o, k, f :: fs, l, h, hf, hs => by
    simp only [csFs] at h
    split at h
    case h_2 => cases h
    rename_i ag l1 r hc hr
    split at h
    case isFalse => cases h
    rename_i hcond
    simp only [Option.some.injEq] at h
    subst h
    have h0 := hf 0 f (by simp)
    have hs0 := hs 0 (by simp)
    rw [Nat.add_zero] at h0 hs0
    obtain ⟨y, hy⟩ := Option.isSome_iff_exists.1 hs0
    rw [hy] at h0
    obtain ⟨vs, h1, h2, h5⟩ := trod_cs hB n m f.type _ y ag l1 hc h0
    obtain ⟨vs', h3, h4, h6⟩ := trod_fs hB n m cs xs (o + P.cellsOf f.type) (k + 1) fs r hr (by
      intro i g hg
      have := hf (i + 1) g (by simpa using hg)
      rw [this]; congr 1; omega) (by
      intro i hi
      have := hs (i + 1) (by simpa using hi)
      rw [show k + 1 + i = k + (i + 1) by omega]; exact this)
    have hd : xs.drop k = y :: xs.drop (k + 1) := by
      obtain ⟨hk, rfl⟩ := List.getElem?_eq_some_iff.1 hy
      exact List.drop_eq_getElem_cons hk
    refine ⟨vs ++ vs', ?_, okL_append h2 h4, by rw [vszL_append, hd, List.map_cons, List.sum_cons]; omega⟩
    rw [hcond.1, hcond.2] at h1
    rw [hcond.2] at h3
    have : (cs.drop o).take (l1 ++ r).length = (cs.drop o).take l1.length ++ (cs.drop (o + l1.length)).take r.length := by
      rw [List.length_append, List.take_add, List.drop_drop]
    rw [this]
    exact RepC_app h1 h3
end
end
end Go.Abs
namespace Go.Abs
open Go Go.ChangeShapes Go.RowKit
def okArgs : List (Bool × List CS) → List V → Prop
  | [], as => as = []
  | s :: ss, as => ∃ xs r, as = ofCells s.1 xs :: r ∧ okL s.2 xs ∧ okArgs ss r
def parsOf (P : Program) : List TypeId → Option (List (Bool × List CS))
  | [] => some []
  | t :: ts => match csOf P 80 t, parsOf P ts with
    | some s, some r => some (s :: r)
    | _, _ => none
def readB (P : Program) (t : TypeId) : Bool := P.readableRec t && decide (t < P.types.size)
section
variable {H : Type} {enc : TypeId × Value → H} {P : Program} {w : World}
theorem csOf_one {n : Nat} {t : TypeId} {l : List CS} (h : csOf P n t = some (false, l)) {base : Nat} {v : Value} (hv : Value.okWide P w .any base t v) : v.cells.toList = [v] ∧ l.length = 1 := by
  cases n with
  | zero => simp [csOf] at h
  | succ n =>
    unfold csOf at h
    unfold Value.okWide at hv
    split at h
    · rename_i hu
      simp only [hu] at hv
      simp only [Option.some.injEq, Prod.mk.injEq, true_and] at h
      subst h
      cases v <;> first | exact ⟨rfl, rfl⟩ | simp [Cell.okWide, Cell.ok, hu] at hv
    · rename_i k hu
      simp only [hu] at hv
      simp only [Option.some.injEq, Prod.mk.injEq, true_and] at h
      subst h
      cases v <;> first | exact ⟨rfl, rfl⟩ | simp [Cell.okWide, Cell.ok, hu] at hv
    · rename_i hu
      simp only [hu] at hv
      simp only [Option.some.injEq, Prod.mk.injEq, true_and] at h
      subst h
      cases v <;> first | exact ⟨rfl, rfl⟩ | simp [Cell.okWide, Cell.ok, hu] at hv
    · rename_i e hu
      simp only [hu] at hv
      split at h
      case h_2 => cases h
      split at h
      case isFalse => cases h
      simp only [Option.some.injEq, Prod.mk.injEq, true_and] at h
      subst h
      cases v <;> first | exact ⟨rfl, rfl⟩ | simp [Cell.okWide, Cell.ok, hu] at hv
    · split at h
      case h_2 => cases h
      split at h
      case isFalse => cases h
      simp at h
    · cases h
theorem csOf_agg {n : Nat} {t : TypeId} {l : List CS} (h : csOf P n t = some (true, l)) {base : Nat} {v : Value} (hv : Value.okWide P w .any base t v) : ∃ us, v = .agg us := by
  cases n with
  | zero => simp [csOf] at h
  | succ n =>
    unfold csOf at h
    unfold Value.okWide at hv
    split at h
    · simp at h
    · simp at h
    · simp at h
    · split at h
      case h_2 => cases h
      split at h
      case isFalse => cases h
      simp at h
    · rename_i fs hu
      simp only [hu] at hv
      obtain ⟨cs, rfl, _⟩ := hv
      exact ⟨cs, rfl⟩
    · cases h
theorem args_rep {bulk : DataW H → Nat} (hB : Bulk bulk) {held : Bool} : ∀ (ts : List TypeId) (vs : List Value) (ds : List (DataW H)) (ps : List MemPlace) (ss : List (Bool × List CS)) (base : Nat), parsOf P ts = some ss →
    (∀ (j : Nat) t v, ts[j]? = some t → vs[j]? = some v → Value.okWide P w .any base t v) → DataW.TrodAll enc P w 0 (fun _ => true) held ts vs ds ps →
    ∃ as, RepL w (oldB w) nosig as vs ∧ okArgs ss as ∧ vszL as ≤ (ds.map bulk).sum
  | [], vs, ds, ps, ss, base, h, _, hA => by
    obtain ⟨rfl, rfl, _⟩ := trodAll_nil hA
    simp only [parsOf, Option.some.injEq] at h
    subst h
    exact ⟨[], by simp [RepL], rfl, by simp [vszL]⟩
  | t :: ts, vs, ds, ps, ss, base, h, hv, hA => by
    obtain ⟨v, vs', d, ds', p, q, rfl, rfl, rfl, h0, hr⟩ := trodAll_cons hA
    simp only [parsOf] at h
    split at h
    case h_2 => cases h
    rename_i s r hs hpr
    simp only [Option.some.injEq] at h
    subst h
    obtain ⟨as, ha, hoa, hsa⟩ := args_rep hB ts vs' ds' q r base hpr (fun j t' v' h1 h2 => hv (j + 1) t' v' (by simpa using h1) (by simpa using h2)) hr
    obtain ⟨fuel, hf⟩ := h0
    have hok := hv 0 t v rfl rfl
    obtain ⟨ag, l⟩ := s
    obtain ⟨xs, h1, h2, h3⟩ := trod_cs hB 80 fuel t _ _ ag l hs hf
    have hz : vsz (ofCells ag xs) = vszL xs := vsz_ofCells h2 fun e => by subst e; exact (csOf_one hs hok).2
    refine ⟨ofCells ag xs :: as, ?_, by simp only [okArgs]; exact ⟨xs, as, rfl, h2, hoa⟩, by simp only [vszL, List.map_cons, List.sum_cons, hz]; simp only at h3; omega⟩
    simp only [RepL]
    refine ⟨v, vs', rfl, ?_, ha⟩
    cases ag with
    | true =>
      obtain ⟨us, rfl⟩ := csOf_agg hs hok
      simp only [ofCells, if_true, Rep]
      exact ⟨us, rfl, h1⟩
    | false =>
      obtain ⟨hc, hl⟩ := csOf_one hs hok
      rw [hc] at h1
      have hx := okL_length h2
      rw [hl] at hx
      match xs, hx with
      | [x], _ =>
        simp only [RepC] at h1
        obtain ⟨u, r', he, _, hr', _⟩ := h1
        simp only [List.cons.injEq] at he
        obtain ⟨rfl, _⟩ := he
        exact hr'
theorem trod_stays (hl : laidOutB P = true) {W W' : World} (hb : Below W.heap.size W W') {sp : Nat → Bool} : ∀ (ts : List TypeId) (vs : List Value) (ds : List (DataW H)) (ps : List MemPlace), ts.all (readB P) = true →
    DataW.TrodAll enc P W 0 (fun _ => true) true ts vs ds ps → (∀ p ∈ ps, p.block < W.heap.size) → (∀ p ∈ ps, sp p.block = true) → DataW.TrodAll enc P W' 0 sp true ts vs ds ps
  | [], vs, ds, ps, _, hA, _, _ => by
    obtain ⟨rfl, rfl, rfl⟩ := trodAll_nil hA
    exact rfl
  | t :: ts, vs, ds, ps, hB, hA, hlt, hsp => by
    obtain ⟨v, vs', d, ds', p, q, rfl, rfl, rfl, h0, hr⟩ := trodAll_cons hA
    simp only [List.all_cons, readB, Bool.and_eq_true, decide_eq_true_eq] at hB
    refine ⟨p, q, WideElems.Trod_stays hl hB.1.1 hB.1.2 h0 (fun x hx => hb.same (hlt x (by simp [hx]))) (fun x hx => hsp x (by simp [hx])), trod_stays hl hb ts vs' ds' q (by simpa [readB] using hB.2) hr (fun x hx => hlt x (by simp [hx])) (fun x hx => hsp x (by simp [hx])), rfl⟩
end
structure LawOk (P : Program) (f : Func) (ss : List (Bool × List CS)) (tb : TypeId) : Prop where
  laid : laidOutB P = true
  read : f.params.toList.all (readB P) = true
  pars : parsOf P f.params.toList = some ss
  res : f.resultTypes = #[tb]
  bool : P.underlying tb = some .bool
theorem contract {X : Env} (hC : CallOk X (callL X)) {g : FuncId} {f : Func} {ss : List (Bool × List CS)} {tb : TypeId} (L : LawOk X.P f ss tb) {s : ChangeSpec} (hv : s.vars = [])
    (hs : ∀ (H : Type) (ds : List (DataW H)), ds.length = f.params.size → s.fn H ds = { results := [.lit (.bool true)], args := ds })
    (H : Type) (bulk : DataW H → Nat) (hB : Bulk bulk) (enc : TypeId × Value → H) (W : World) (base : Nat) (args : Array Value) (ds gs : List (DataW H)) (before : List MemPlace)
    (hval : ∀ (j : Nat) t v, f.params[j]? = some t → args[j]? = some v → Value.okWide X.P W .any base t v)
    (hW : DataW.Whole enc X.P f.params.toList s.vars false W args.toList ds gs before) (hG : Glob W (oldB W))
    (hlaw : ∀ as, okArgs ss as → vszL as ≤ (ds.map bulk).sum → ∃ h k, callL X g as noheap 0 = some (.bool true, h, k)) :
    Calls X.P g args W fun e W' => ∃ v, e = .returned v ∧ s.post enc X.P f false true false false W args v W' := by
  have hlt := hW.lt
  have hW' := hW
  obtain ⟨p, q, hA, hV, rfl, hfz, hnd⟩ := hW
  rw [hv] at hV
  have hq : gs = [] ∧ q = [] := by
    cases gs with
    | nil => exact ⟨rfl, hV⟩
    | cons _ _ => simp [DataW.TrodVars] at hV
  obtain ⟨rfl, rfl⟩ := hq
  obtain ⟨as, hrep, hok, hsz⟩ := args_rep hB f.params.toList args.toList ds p ss base L.pars (fun j t v h1 h2 => hval j t v (by simpa using h1) (by simpa using h2)) hA
  obtain ⟨h', k', hcall⟩ := hlaw as hok hsz
  refine (hC g as noheap 0 (.bool true) h' k' hcall W (oldB W) nosig args (Rel.noheap (fun b hb => hb) hG) (fun _ _ => ⟨rfl, rfl⟩) hrep).mono fun e W' hh => ?_
  obtain ⟨u, I', σ', rfl, hle0, st0, hfr0, hr⟩ := hh
  rw [lim_zero] at hle0 st0
  have st := st0.step (fun _ _ => ⟨rfl, rfl⟩) hfr0 hle0
  simp only [Rep] at hr
  subst hr
  have hbelow : Below W.heap.size W W' := ⟨st.os, st.tape, st.output, st.size, fun b hb => st.frame b hb noOwns⟩
  have hdl : ∀ (ts : List TypeId) (vs : List Value) (ds : List (DataW H)) (ps : List MemPlace), DataW.TrodAll enc X.P W 0 (fun _ => true) true ts vs ds ps → ds.length = ts.length := by
    intro ts
    induction ts with
    | nil =>
      intro vs ds ps h
      obtain ⟨_, rfl, _⟩ := trodAll_nil h
      rfl
    | cons t ts ih =>
      intro vs ds ps h
      obtain ⟨v, vs', d, ds', p, q, rfl, rfl, rfl, _, hr⟩ := trodAll_cons h
      simp [ih _ _ _ hr]
  have hlen : ds.length = f.params.size := by rw [hdl _ _ _ _ hA]; simp
  have hfn := hs H (ds ++ []) (by simpa using hlen)
  have hold : ∀ p' ∈ p ++ [], (fun b => decide (b < W.heap.size)) p'.block = true := fun p' hp => by simpa using hlt p' hp
  refine ⟨_, rfl, ds, [], p ++ [], [], p, [], hW', ?_, ?_, ?_, World.keptBut_mono (fun p' hp => ⟨hp, .inr (.inl (by simpa using hp))⟩) (hbelow.frame (· ∈ p ++ [])), fun h => by cases h⟩
  · rw [hfn, L.res]
    exact trodAll_cons_mk (shut_bool L.bool _) trodAll_mk0
  · rw [hfn]
    simp only [List.append_nil] at hlt hold ⊢
    exact trod_stays L.laid hbelow _ _ _ _ L.read hA hlt hold
  · rw [hfn, hv]
    rfl
end Go.Abs
namespace Go.Abs
open Go
section
variable (X : Env) (f : FuncId) (S : St)
theorem ev_skip : ev X f .skip S = some (.normal, S) := by rw [ev_eq]; rfl
theorem ev_exit (id : Nat) : ev X f (.exit id) S = some (.exit id, S) := by rw [ev_eq]; rfl
theorem ev_ret : ev X f .ret S = some (.ret, S) := by rw [ev_eq]; rfl
open Classical in
theorem ev_region (id : Nat) (ops : Array Oper) (d : Bool) : ev X f (.region id ops d) S =
    (match normS X f (2 * id) S with
    | some S => (match evOps X (callL X) f (ops.toList.map (·.dst)) S.n 0 ops.toList { S with n := S.n + ops.size } with
      | some S1 => if Stable X (callL X) f ops.toList S.n { S with n := S.n + ops.size } S1 (X.exc f id) then some (.normal, S1) else none
      | none => none)
    | none => none) := by rw [ev_eq]; rfl
theorem ev_seq (a b : Code) : ev X f (.seq a b) S = (match ev X f a S with | some (.normal, S1) => ev X f b S1 | r => r) := by rw [ev_eq]; rfl
theorem ev_cond (x : Operand) (a b : Code) : ev X f (.cond x a b) S = (match S.ev x with | .bool t => if t then ev X f a S else ev X f b S | _ => none) := by rw [ev_eq]; rfl
theorem ev_block (id : Nat) (b : Code) : ev X f (.block id b) S = (match ev X f b S with | some (.exit i, S1) => if i = id then some (.normal, S1) else some (.exit i, S1) | r => r) := by rw [ev_eq]; rfl
theorem ev_loop (b : Code) : ev X f (.loop b) S = (match normS X f (2 * codeFirst b + 1) S with | some S => (match ev X f b S with | some (.normal, S1) => ev X f (.loop b) S1 | r => r) | none => none) := by rw [ev_eq]; rfl
end
def andThen (r : Option (Ex × St)) (k : Ex → St → Option (Ex × St)) : Option (Ex × St) :=
  match r with
  | some (e, S) => k e S
  | none => none
theorem stable_nil (X : Env) (call : CallT) (fid : FuncId) (ops : List Oper) (n0 : Nat) (S0 S1 : St) : Stable X call fid ops n0 S0 S1 [] = True := by
  simp [Stable]
theorem upd_same {α : Type} (f : Nat → α) (t : Nat) (v : α) : upd f t v t = v := by simp [upd]
theorem upd_apply {α : Type} (f : Nat → α) (t : Nat) (v : α) (u : Nat) : upd f t v u = if u = t then v else f u := rfl
theorem callL_eq {X : Env} {g : FuncId} {fn : Func} {b : Code} (hf : X.P.funcs[g]? = some fn) (hb : fn.body = some b) (args : List V) (h : Heap) (k : Nat) (hp : X.prim g = none := by rfl) :
    callL X g args h k = retV X fn.results.toList (ev X g b ⟨enterF args, h, k⟩) := by
  unfold callL callWith
  simp only [hp, hf, hb]
theorem cells_agg (cs : List V) : (V.agg cs).cells = cs := rfl
theorem cells_int (k : IntKind) (n : Int) : (V.int k n).cells = [.int k n] := rfl
theorem cells_bool (b : Bool) : (V.bool b).cells = [.bool b] := rfl
theorem cells_str (s : List UInt8) : (V.str s).cells = [.str s] := rfl
theorem cells_sl (c : Bool) (es : List V) : (V.sl c es).cells = [.sl c es] := rfl
theorem cells_hdr (i s l : Nat) : (V.hdr i s l).cells = [.hdr i s l] := rfl
theorem cells_ptr (i s l : Nat) : (V.ptr i s l).cells = [.ptr i s l] := rfl
theorem cells_nilp : V.nilp.cells = [.nilp] := rfl
theorem cells_ifc (b : Bool) : (V.ifc b).cells = [.ifc b] := rfl
theorem cells_ref (cs : List V) : (V.ref cs).cells = [.ref cs] := rfl
theorem cells_fn (g : FuncId) (a b : List V) : (V.fn g a b).cells = [.fn g a b] := rfl
attribute [simp] cells_agg cells_int cells_bool cells_str cells_sl cells_hdr cells_ptr cells_nilp cells_ifc cells_ref cells_fn
attribute [simp] stable_nil
theorem enterF_eq (args : List V) (t : Nat) : enterF args t = (match args[t]? with | some v => v | none => .bad) := rfl
attribute [simp] upd_apply enterF_eq St.new.eq_1 ofVal.eq_1 ofVal.eq_2 ofSc.eq_1 ofSc.eq_2 ofSc.eq_3 ofSc.eq_4 ofSc.eq_5 ofSc.eq_6 ofSc.eq_7 Go.Abs.part.eq_1 lenV.eq_1 lenV.eq_2 lenV.eq_3 lenV.eq_4 elems.eq_1 elems.eq_2 elems.eq_3 elems.eq_4 binV.eq_1 binV.eq_2 binV.eq_3 binV.eq_4 binV.eq_5 binV.eq_6 binV.eq_7 binV.eq_8 binV.eq_9 binV.eq_10 binV.eq_11 binV.eq_12 binV.eq_13 binV.eq_14 binV.eq_15 binV.eq_16 binV.eq_17 int2.eq_1 int2.eq_2 unV.eq_1 unV.eq_2 unV.eq_3 eqV.eq_1 eqV.eq_2 eqV.eq_3 eqV.eq_4 eqV.eq_5 eqV.eq_6 eqV.eq_7 eqV.eq_8 eqV.eq_9 V.eqv.eq_1 V.eqv.eq_2 V.eqv.eq_3 V.eqv.eq_4 eqvL.eq_1 eqvL.eq_2 eqvL.eq_3 V.put.eq_1 V.put.eq_2 splice.eq_1 splice.eq_2 splice.eq_3 splice.eq_4 splice.eq_5 fillS.eq_1 fillS.eq_2 fillE.eq_1 fillE.eq_2 V.fits.eq_1 V.fits.eq_2 V.fits.eq_3 V.fits.eq_4 give.eq_1 give.eq_2 giveL.eq_1 giveL.eq_2 give0.eq_1 give0.eq_2 giveP.eq_1 giveP.eq_2 V.imm0.eq_1 V.imm0.eq_2 V.imm0.eq_3 V.imm0.eq_4 V.imm0.eq_5 V.imm0.eq_6 V.imm0.eq_7 V.imm0.eq_8 V.isPtr.eq_1 V.isPtr.eq_2 V.isStr.eq_1 V.isStr.eq_2 TI.isStr.eq_1 allSome.eq_1 allSome.eq_2 allSome.eq_3 resultsV.eq_1 retV.eq_1 retV.eq_2 retV.eq_3 bnd.eq_1 bnd.eq_2 bnd.eq_3 bounds.eq_1 nat?.eq_1 nat?.eq_2
theorem bytesOf_nil : bytesOf [] = some [] := rfl
theorem bytesOf_eq (v : V) (l : List V) : bytesOf (v :: l) = (match byteOf v with | some b => (match bytesOf l with | some s => some (b :: s) | none => none) | none => none) := by
  unfold bytesOf
  simp only [List.map_cons]
  cases byteOf v with
  | none => rfl
  | some b => simp only [allSome]; cases allSome (l.map byteOf) <;> rfl
theorem bytesOf_cons (n : Int) (l : List V) : bytesOf (.int .u8 n :: l) = (match bytesOf l with | some s => some (UInt8.ofNat n.toNat :: s) | none => none) := bytesOf_eq _ _
theorem bytesOf_map : ∀ l : List UInt8, bytesOf (l.map fun b => V.int .u8 b.toNat) = some l
  | [] => rfl
  | b :: l => by simp only [List.map_cons]; rw [bytesOf_cons, bytesOf_map l]; simp
theorem bytesOf_append : ∀ (a b : List V), bytesOf (a ++ b) = (match bytesOf a, bytesOf b with | some x, some y => some (x ++ y) | _, _ => none)
  | [], b => by
    simp only [List.nil_append, bytesOf_nil]
    cases bytesOf b <;> rfl
  | c :: a, b => by
    rw [List.cons_append, bytesOf_eq, bytesOf_eq, bytesOf_append a b]
    cases byteOf c with
    | none => rfl
    | some x => cases bytesOf a <;> cases bytesOf b <;> rfl
attribute [simp] bytesOf_map bytesOf_nil bytesOf_cons bytesOf_append
end Go.Abs
namespace Go.Abs
open Go
def mark {α : Type} (x : α) : α := x
theorem mark_eq {α : Type} (x : α) : mark x = x := rfl
def Wp (X : Env) (f : FuncId) (c : Code) (S : St) (Q : Ex → St → Prop) : Prop := ∃ e S1, ev X f c S = some (e, S1) ∧ Q e S1
def seqQ (X : Env) (f : FuncId) (b : Code) (Q : Ex → St → Prop) : Ex → St → Prop
  | .normal, S => Wp X f b S Q
  | e, S => Q e S
def blkQ (id : Nat) (Q : Ex → St → Prop) : Ex → St → Prop
  | .exit i, S => if i = id then Q .normal S else Q (.exit i) S
  | e, S => Q e S
def bindP (r : Option St) (K : St → Prop) : Prop :=
  match r with
  | some S => K S
  | none => False
def loopQ (X : Env) (f : FuncId) (key : Nat) (Inv : Nat → St → Prop) (i N : Nat) (Q : Ex → St → Prop) : Ex → St → Prop
  | .normal, S => i < N ∧ bindP (mark (normS X f key S)) (Inv (i + 1))
  | e, S => Q e S
section
variable {X : Env} {f : FuncId} {S : St} {Q : Ex → St → Prop}
theorem seqQ_normal (b : Code) : seqQ X f b Q .normal S = Wp X f b S Q := rfl
theorem seqQ_exit (b : Code) (i : Nat) : seqQ X f b Q (.exit i) S = Q (.exit i) S := rfl
theorem seqQ_ret (b : Code) : seqQ X f b Q .ret S = Q .ret S := rfl
theorem blkQ_normal (id : Nat) : blkQ id Q .normal S = Q .normal S := rfl
theorem blkQ_exit (id i : Nat) : blkQ id Q (.exit i) S = (if i = id then Q .normal S else Q (.exit i) S) := rfl
theorem blkQ_ret (id : Nat) : blkQ id Q .ret S = Q .ret S := rfl
theorem loopQ_normal (key : Nat) (Inv : Nat → St → Prop) (i N : Nat) : loopQ X f key Inv i N Q .normal S = (i < N ∧ bindP (mark (normS X f key S)) (Inv (i + 1))) := rfl
theorem loopQ_exit (key : Nat) (Inv : Nat → St → Prop) (i N k : Nat) : loopQ X f key Inv i N Q (.exit k) S = Q (.exit k) S := rfl
theorem loopQ_ret (key : Nat) (Inv : Nat → St → Prop) (i N : Nat) : loopQ X f key Inv i N Q .ret S = Q .ret S := rfl
theorem bindP_some (K : St → Prop) : bindP (some S) K = K S := rfl
theorem bindP_none (K : St → Prop) : bindP none K = False := rfl
theorem bindP_ite (c : Prop) [Decidable c] (a b : Option St) (K : St → Prop) : bindP (if c then a else b) K = if c then bindP (mark a) K else bindP (mark b) K := by split <;> rfl
theorem bindP_need (c : Prop) [Decidable c] (a : Option St) (K : St → Prop) : bindP (if c then a else none) K = (c ∧ (c → bindP (mark a) K)) := by
  by_cases h : c <;> simp [h, bindP, mark]
theorem bindP_needn (c : Prop) [Decidable c] (a : Option St) (K : St → Prop) : bindP (if c then none else a) K = (¬ c ∧ (¬ c → bindP (mark a) K)) := by
  by_cases h : c <;> simp [h, bindP, mark]
def OpsP (X : Env) (fid : FuncId) (dsts : List (Option Nat)) (n0 k : Nat) (ops : List Oper) (S : St) (K : St → Prop) : Prop := bindP (evOps X (callL X) fid dsts n0 k ops S) K
def gcase (v : V) (want : Bool) (ff : Nat → V) (_dj : Nat) (p q : (Nat → V) → Prop) : Prop :=
  match v with
  | .bool b => if b = want then p ff else q ff
  | .tup [] => q ff
  | _ => False
theorem gcase_yes (ff : Nat → V) (dj : Nat) (p q : (Nat → V) → Prop) : gcase (.bool true) true ff dj p q = p ff := by simp [gcase]
theorem gcase_no (ff : Nat → V) (dj : Nat) (p q : (Nat → V) → Prop) : gcase (.bool false) true ff dj p q = q ff := by simp [gcase]
theorem gcase_yes' (ff : Nat → V) (dj : Nat) (p q : (Nat → V) → Prop) : gcase (.bool false) false ff dj p q = p ff := by simp [gcase]
theorem gcase_no' (ff : Nat → V) (dj : Nat) (p q : (Nat → V) → Prop) : gcase (.bool true) false ff dj p q = q ff := by simp [gcase]
theorem gcase_skip (w : Bool) (ff : Nat → V) (dj : Nat) (p q : (Nat → V) → Prop) : gcase (.tup []) w ff dj p q = q ff := rfl
theorem upd_self {ff : Nat → V} {dj : Nat} {v : V} (h : ff dj = v) : upd ff dj v = ff := by
  funext u; unfold upd; split
  · rename_i e; rw [e, h]
  · rfl
theorem gcase_bool {b : Bool} {ff : Nat → V} {dj : Nat} {p q : (Nat → V) → Prop} (h : ff dj = .bool b) : gcase (.bool b) true ff dj p q = ((b = true → p (upd ff dj (.bool true))) ∧ (b = false → q (upd ff dj (.bool false)))) := by
  cases b <;> rw [upd_self h] <;> simp [gcase]
theorem gcase_bool' {b : Bool} {ff : Nat → V} {dj : Nat} {p q : (Nat → V) → Prop} (h : ff dj = .bool b) : gcase (.bool b) false ff dj p q = ((b = false → p (upd ff dj (.bool false))) ∧ (b = true → q (upd ff dj (.bool true)))) := by
  cases b <;> rw [upd_self h] <;> simp [gcase]
theorem OpsP_nil (dsts : List (Option Nat)) (n0 k : Nat) (K : St → Prop) : OpsP X f dsts n0 k [] S K = K S := rfl
theorem OpsP_cons (dsts : List (Option Nat)) (n0 k : Nat) (o : Oper) (r : List Oper) (K : St → Prop) : OpsP X f dsts n0 k (o :: r) S K =
    match o.guard with
    | none => bindP (stepOp X (callL X) f n0 k o S) fun S1 => OpsP X f dsts n0 (k + 1) r S1 K
    | some (j, want) => match dsts[j]? with
      | some (some d) => gcase (S.f d) want S.f d (fun _ => bindP (stepOp X (callL X) f n0 k o S) fun S1 => OpsP X f dsts n0 (k + 1) r S1 K) (fun _ => OpsP X f dsts n0 (k + 1) r (S.set o.dst (.tup [])) K)
      | _ => False := by
  unfold OpsP
  rw [evOps]
  cases o.guard with
  | none => simp only; cases stepOp X (callL X) f n0 k o S <;> rfl
  | some p =>
    obtain ⟨j, want⟩ := p
    simp only
    cases dsts[j]? with
    | none => rfl
    | some x =>
      cases x with
      | none => rfl
      | some d =>
        simp only
        cases hv : S.f d with
        | bool b =>
          simp only [gcase]
          split
          · cases stepOp X (callL X) f n0 k o S <;> rfl
          · rfl
        | tup l => cases l <;> rfl
        | _ => rfl
theorem Wp_of_eq {c : Code} {e : Ex} {S1 : St} (h : ev X f c S = some (e, S1)) : Wp X f c S Q = Q e S1 := by
  apply propext
  constructor
  · rintro ⟨e', S', h', hq⟩
    rw [h] at h'
    simp only [Option.some.injEq, Prod.mk.injEq] at h'
    obtain ⟨rfl, rfl⟩ := h'
    exact hq
  · intro hq; exact ⟨e, S1, h, hq⟩
theorem Wp_skip : Wp X f .skip S Q = Q .normal S := Wp_of_eq (ev_skip X f S)
theorem Wp_exit (id : Nat) : Wp X f (.exit id) S Q = Q (.exit id) S := Wp_of_eq (ev_exit X f S id)
theorem Wp_ret : Wp X f .ret S Q = Q .ret S := Wp_of_eq (ev_ret X f S)
theorem Wp_seq (a b : Code) : Wp X f (.seq a b) S Q = Wp X f a S (seqQ X f b Q) := by
  apply propext
  unfold Wp
  rw [ev_seq]
  constructor
  · rintro ⟨e, S1, h, hq⟩
    cases ha : ev X f a S with
    | none => simp [ha] at h
    | some x =>
      obtain ⟨e2, S2⟩ := x
      rw [ha] at h
      refine ⟨e2, S2, rfl, ?_⟩
      cases e2 with
      | normal => exact ⟨e, S1, h, hq⟩
      | exit i =>
        simp only [Option.some.injEq, Prod.mk.injEq] at h
        obtain ⟨rfl, rfl⟩ := h; exact hq
      | ret =>
        simp only [Option.some.injEq, Prod.mk.injEq] at h
        obtain ⟨rfl, rfl⟩ := h; exact hq
  · rintro ⟨e, S1, h, hq⟩
    rw [h]
    cases e with
    | normal =>
      obtain ⟨e2, S2, h2, hq2⟩ := hq
      exact ⟨e2, S2, h2, hq2⟩
    | exit i => exact ⟨_, _, rfl, hq⟩
    | ret => exact ⟨_, _, rfl, hq⟩
def evF (f : Nat → V) : Operand → V
  | .tmp t => f t
  | .const v => ofVal v
  | .func g => .fn g [] []
  | .global _ => .bad
theorem evF_eq (S : St) : evF S.f = S.ev := by funext x; cases x <;> rfl
def choose (v : V) (p q : Prop) : Prop :=
  match v with
  | .bool true => p
  | .bool false => q
  | _ => False
theorem choose_true (p q : Prop) : choose (.bool true) p q = p := rfl
theorem choose_false (p q : Prop) : choose (.bool false) p q = q := rfl
theorem choose_bool (b : Bool) (p q : Prop) : choose (.bool b) p q = ((b = true → p) ∧ (b = false → q)) := by cases b <;> simp [choose]
theorem Wp_cond (x : Operand) (a b : Code) : Wp X f (.cond x a b) S Q = choose (mark (evF S.f x)) (Wp X f a S Q) (Wp X f b S Q) := by
  rw [evF_eq]
  show (Wp X f (.cond x a b) S Q) = choose (S.ev x) (Wp X f a S Q) (Wp X f b S Q)
  unfold Wp
  rw [ev_cond]
  cases S.ev x with
  | bool t => cases t <;> simp [choose]
  | _ => simp [choose]
theorem Wp_block (id : Nat) (b : Code) : Wp X f (.block id b) S Q = Wp X f b S (blkQ id Q) := by
  apply propext
  unfold Wp
  rw [ev_block]
  constructor
  · rintro ⟨e, S1, h, hq⟩
    cases hb : ev X f b S with
    | none => simp [hb] at h
    | some x =>
      obtain ⟨e2, S2⟩ := x
      rw [hb] at h
      refine ⟨e2, S2, rfl, ?_⟩
      cases e2 with
      | normal =>
        simp only [Option.some.injEq, Prod.mk.injEq] at h
        obtain ⟨rfl, rfl⟩ := h; exact hq
      | exit i =>
        simp only at h
        simp only [blkQ]
        split at h <;> rename_i hi <;> simp only [Option.some.injEq, Prod.mk.injEq] at h <;> obtain ⟨rfl, rfl⟩ := h <;> simp only [hi, if_true, if_false] <;> exact hq
      | ret =>
        simp only [Option.some.injEq, Prod.mk.injEq] at h
        obtain ⟨rfl, rfl⟩ := h; exact hq
  · rintro ⟨e, S1, h, hq⟩
    rw [h]
    cases e with
    | normal => exact ⟨_, _, rfl, hq⟩
    | exit i =>
      simp only [blkQ] at hq
      simp only
      split at hq <;> rename_i hi <;> simp only [hi, if_true, if_false] <;> exact ⟨_, _, rfl, hq⟩
    | ret => exact ⟨_, _, rfl, hq⟩
def stb (l : List (Nat × Nat)) (p : List (Nat × Nat) → Prop) : Prop := p l
theorem Wp_region (id : Nat) (ops : Array Oper) (d : Bool) : Wp X f (.region id ops d) S Q =
    bindP (mark (normS X f (2 * id) S)) fun S => OpsP X f (ops.toList.map (·.dst)) S.n 0 ops.toList ⟨S.f, S.h, S.n + ops.size⟩ fun S1 => stb (mark (X.exc f id)) (Stable X (callL X) f ops.toList S.n { S with n := S.n + ops.size } S1) ∧ Q .normal S1 := by
  show _ = bindP (normS X f (2 * id) S) fun S => OpsP X f (ops.toList.map (·.dst)) S.n 0 ops.toList { S with n := S.n + ops.size } fun S1 => Stable X (callL X) f ops.toList S.n { S with n := S.n + ops.size } S1 (X.exc f id) ∧ Q .normal S1
  unfold Wp OpsP
  rw [ev_region]
  cases hn : normS X f (2 * id) S with
  | none => simp [bindP]
  | some S =>
  simp only [bindP]
  cases h : evOps X (callL X) f (ops.toList.map (·.dst)) S.n 0 ops.toList { S with n := S.n + ops.size } with
  | none => simp
  | some S1 =>
    by_cases hs : Stable X (callL X) f ops.toList S.n { S with n := S.n + ops.size } S1 (X.exc f id)
    · simp only [hs, if_true, true_and]
      apply propext
      constructor
      · rintro ⟨e, S2, he, hq⟩
        simp only [Option.some.injEq, Prod.mk.injEq] at he
        obtain ⟨rfl, rfl⟩ := he; exact hq
      · intro hq; exact ⟨_, _, rfl, hq⟩
    · simp [hs]
theorem Wp_ops (id : Nat) (l : List Oper) (d : Bool) : Wp X f (.region id l.toArray d) S Q =
    bindP (mark (normS X f (2 * id) S)) fun S => OpsP X f (l.map (·.dst)) S.n 0 l ⟨S.f, S.h, S.n + l.length⟩ fun S1 => stb (mark (X.exc f id)) (Stable X (callL X) f l S.n { S with n := S.n + l.length } S1) ∧ Q .normal S1 := by
  rw [Wp_region]
  simp only [List.size_toArray]
theorem Wp_up {b : Code} (Inv : Nat → St → Prop) (N : Nat) (step : ∀ i S, i ≤ N → Inv i S → Wp X f b S (loopQ X f (2 * codeFirst b + 1) Inv i N Q)) : ∀ (i : Nat) {S : St}, i ≤ N → bindP (mark (normS X f (2 * codeFirst b + 1) S)) (Inv i) → Wp X f (.loop b) S Q := by
  suffices h : ∀ (k i : Nat) {S : St}, N - i = k → i ≤ N → bindP (normS X f (2 * codeFirst b + 1) S) (Inv i) → Wp X f (.loop b) S Q from fun i S hi h0 => h (N - i) i rfl hi h0
  intro k
  induction k with
  | zero =>
    intro i S hk hi h0
    cases hn : normS X f (2 * codeFirst b + 1) S with
    | none => rw [hn] at h0; exact absurd h0 (fun h => h)
    | some S0 =>
    rw [hn] at h0
    obtain ⟨e, S1, h, hq⟩ := step i S0 hi h0
    refine ⟨e, S1, ?_, ?_⟩
    · rw [ev_loop, hn]
      simp only
      rw [h]
      cases e with
      | normal => exact absurd hq.1 (by omega)
      | exit i => rfl
      | ret => rfl
    · cases e with
      | normal => exact absurd hq.1 (by omega)
      | exit i => exact hq
      | ret => exact hq
  | succ k ih =>
    intro i S hk hi h0
    cases hn : normS X f (2 * codeFirst b + 1) S with
    | none => rw [hn] at h0; exact absurd h0 (fun h => h)
    | some S0 =>
    rw [hn] at h0
    obtain ⟨e, S1, h, hq⟩ := step i S0 hi h0
    unfold Wp
    rw [ev_loop, hn]
    simp only
    rw [h]
    cases e with
    | normal =>
      obtain ⟨hlt, hinv⟩ := hq
      exact ih (i + 1) (by omega) hlt hinv
    | exit i => exact ⟨_, _, rfl, hq⟩
    | ret => exact ⟨_, _, rfl, hq⟩
theorem Wp_mono {c : Code} {Q' : Ex → St → Prop} (h : Wp X f c S Q) (hq : ∀ e S, Q e S → Q' e S) : Wp X f c S Q' := by
  obtain ⟨e, S1, h1, h2⟩ := h
  exact ⟨e, S1, h1, hq _ _ h2⟩
end
theorem Wp_congr {X : Env} {f : FuncId} {c : Code} {S S' : St} {Q : Ex → St → Prop} (h : S = S') : Wp X f c S Q = Wp X f c S' Q := by rw [h]
theorem bindP_congr {r r' : Option St} {K : St → Prop} (h : r = r') : bindP r K = bindP r' K := by rw [h]
theorem OpsP_congr {X : Env} {fid : FuncId} {dsts : List (Option Nat)} {n0 k : Nat} {ops : List Oper} {S S' : St} {K : St → Prop} (h : S = S') : OpsP X fid dsts n0 k ops S K = OpsP X fid dsts n0 k ops S' K := by rw [h]
theorem gcase_congr {v v' : V} {w : Bool} {ff : Nat → V} {dj : Nat} {p q : (Nat → V) → Prop} (h : v = v') : gcase v w ff dj p q = gcase v' w ff dj p q := by rw [h]
theorem choose_congr {v v' : V} {p q : Prop} (h : v = v') : choose v p q = choose v' p q := by rw [h]
attribute [congr] Wp_congr bindP_congr choose_congr OpsP_congr gcase_congr
theorem beq_int (a b : Int) : (a == b) = decide (a = b) := rfl
def endQ (X : Env) (rs : List ResultVar) (K : V → Heap → Nat → Prop) : Ex → St → Prop
  | .exit _, _ => False
  | _, S => match resultsV X rs S with | some v => K v S.h S.n | none => False
section
variable {X : Env} {S : St} {rs : List ResultVar} {K : V → Heap → Nat → Prop}
theorem endQ_normal : endQ X rs K .normal S = (match resultsV X rs S with | some v => K v S.h S.n | none => False) := rfl
theorem endQ_ret : endQ X rs K .ret S = (match resultsV X rs S with | some v => K v S.h S.n | none => False) := rfl
theorem endQ_exit (i : Nat) : endQ X rs K (.exit i) S = False := rfl
end
theorem callL_of {X : Env} {g : FuncId} {fn : Func} {b : Code} {rs : List ResultVar} (hf : X.P.funcs[g]? = some fn) (hb : fn.body = some b) (hr : fn.results = ⟨rs⟩) {args : List V} {h : Heap} {k : Nat} {K : V → Heap → Nat → Prop}
    (hw : Wp X g b ⟨enterF args, h, k⟩ (endQ X rs K)) (hp : X.prim g = none := by rfl) : ∃ v h' k', callL X g args h k = some (v, h', k') ∧ K v h' k' := by
  have hr' : rs = fn.results.toList := by rw [hr]
  rw [hr'] at hw
  rw [callL_eq hf hb (hp := hp)]
  obtain ⟨e, S1, h1, h2⟩ := hw
  rw [h1]
  cases e with
  | exit i => exact absurd h2 (fun h => h)
  | normal =>
    unfold retV
    cases hr : resultsV X fn.results.toList S1 with
    | none => rw [endQ_normal, hr] at h2; exact absurd h2 (fun h => h)
    | some v => rw [endQ_normal, hr] at h2; exact ⟨v, S1.h, S1.n, by simp only [hr], h2⟩
  | ret =>
    unfold retV
    cases hr : resultsV X fn.results.toList S1 with
    | none => rw [endQ_ret, hr] at h2; exact absurd h2 (fun h => h)
    | some v => rw [endQ_ret, hr] at h2; exact ⟨v, S1.h, S1.n, by simp only [hr], h2⟩
def nohp : Heap := fun _ => none
theorem pcall_of {X : Env} {g : FuncId} {fn : Func} {b : Code} {rs : List ResultVar} (hf : X.P.funcs[g]? = some fn) (hb : fn.body = some b) (hr : fn.results = ⟨rs⟩) {args : List V} {r : V}
    (hw : Wp X g b ⟨enterF args, nohp, 0⟩ (endQ X rs fun v h _ => (toImm h depth v).map V.dull = some r)) (hp : X.prim g = none := by rfl) : pcall X g args = some r := by
  obtain ⟨v, h, k, h1, h2⟩ := callL_of hf hb hr hw hp
  unfold pcall primC
  simp only [hp]
  have h1' : callL X g args (fun _ => none) 0 = some (v, h, k) := h1
  rw [h1']
  exact h2
theorem pcall_prim {X : Env} {g : FuncId} {pr : Prim} (hp : X.prim g = some pr) {args : List V} {v r : V} (hv : pr.run (callL X) args = some v) (hr : (toImm nohp depth v).map V.dull = some r) : pcall X g args = some r := by
  unfold pcall primC
  simp only [hp, hv]
  exact hr
theorem dullL_eq : ∀ l : List V, dullL l = l.map V.dull
  | [] => rfl
  | c :: cs => by simp [dullL, dullL_eq cs]
theorem leaf_dull {v : V} (h : v.leaf = true) : v.dull = v := by cases v <;> first | rfl | simp [V.leaf] at h
theorem leafL_dull : ∀ {l : List V}, l.all V.leaf = true → dullL l = l
  | [], _ => rfl
  | v :: l, h => by
    simp only [List.all_cons, Bool.and_eq_true] at h
    simp [dullL, leaf_dull h.1, leafL_dull h.2]
noncomputable def tcall (X : Env) (m : Mask) (g : FuncId) (args : List V) : Option V :=
  match callL X g args nohp 0 with
  | some (v, h, _) => ownR X h v m
  | none => none
theorem tcall_of {X : Env} {m : Mask} {g : FuncId} {fn : Func} {b : Code} {rs : List ResultVar} (hf : X.P.funcs[g]? = some fn) (hb : fn.body = some b) (hr : fn.results = ⟨rs⟩) {args : List V} {r : V}
    (hw : Wp X g b ⟨enterF args, nohp, 0⟩ (endQ X rs fun v h _ => ownR X h v m = some r)) (hp : X.prim g = none := by rfl) : tcall X m g args = some r := by
  obtain ⟨v, h, k, h1, h2⟩ := callL_of hf hb hr hw hp
  unfold tcall
  rw [h1]
  exact h2
def shapeV : V → V
  | .tup _ => .tup []
  | _ => .bad
theorem shapeV_tup (l : List V) : shapeV (.tup l) = .tup [] := rfl
theorem shapeV_int (k : IntKind) (n : Int) : shapeV (.int k n) = .bad := rfl
theorem shapeV_bool (b : Bool) : shapeV (.bool b) = .bad := rfl
theorem shapeV_str (l : List UInt8) : shapeV (.str l) = .bad := rfl
theorem shapeV_agg (l : List V) : shapeV (.agg l) = .bad := rfl
theorem shapeV_sl (c : Bool) (l : List V) : shapeV (.sl c l) = .bad := rfl
theorem shapeV_hdr (a b c : Nat) : shapeV (.hdr a b c) = .bad := rfl
theorem shapeV_ptr (a b c : Nat) : shapeV (.ptr a b c) = .bad := rfl
theorem shapeV_nilp : shapeV .nilp = .bad := rfl
theorem shapeV_ifc (b : Bool) : shapeV (.ifc b) = .bad := rfl
theorem tailV_shape (v : V) (vs : List V) : tailV (shapeV v) vs = tailV v vs := by cases v <;> rfl
noncomputable def mcall (X : Env) (M : Mask) (g : FuncId) (k : Nat) (R : V) (args : List V) : Option (Nat × V × List V × V) :=
  match callL X g (.ptr 0 0 0 :: args) (ioStart X g k R) (1 + (X.omask g).length) with
  | some (v, h, _) => match ioEnd X M v h with
    | some (k', r, rs) => some (k', r, rs, shapeV v)
    | none => none
  | none => none
theorem evMask_eq (X : Env) (fid : FuncId) (dst : Option Nat) (g : FuncId) (args : List V) (S : St) : evMask X (callL X) fid dst g args S =
    match giveA S.h args with
    | some (as, h1) =>
      match tcall X (dst.elim [] (X.mask fid)) g as with
      | some r => some ((⟨S.f, hdrH X (X.keepT fid) r S.n (dst.elim [] (X.mask fid)) h1, S.n + (dst.elim [] (X.mask fid)).length⟩ : St).set dst (hdrV S.n (dst.elim [] (X.mask fid)) r))
      | none => none
    | none => none := by
  unfold evMask tcall nohp
  cases giveA S.h args with
  | none => rfl
  | some x =>
    obtain ⟨as, h1⟩ := x
    simp only
    cases callL X g as (fun _ => none) 0 with
    | none => rfl
    | some x => rfl
theorem evIo_eq (X : Env) (fid : FuncId) (dst : Option Nat) (g : FuncId) (id : Nat) (rest : List V) (S : St) : evIo X (callL X) fid dst g (.ptr id 0 0 :: rest) S =
    match S.h id with
    | some ob =>
      match ob.es with
      | [e] =>
        if ob.keep = true then
          match ownX X (upd S.h id none) (fun _ => none) e (X.omask g) with
          | some R =>
            match giveA (killL (upd S.h id none) (maskSrc e (X.omask g))) rest with
            | some (as, h1) =>
              match mcall X (ioMask X fid dst g) g ob.k R as with
              | some (k', r, rs, v) =>
                some ((⟨S.f, hdrH X (X.keepT fid) (.tup (r :: rs)) S.n (ioMask X fid dst g) (upd h1 id (some ⟨k', [headV (hdrV S.n (ioMask X fid dst g) (.tup (r :: rs)))], true⟩)), S.n + (ioMask X fid dst g).length⟩ : St).set dst
                    (tailV v (restV (hdrV S.n (ioMask X fid dst g) (.tup (r :: rs))))))
              | none => none
            | none => none
          | none => none
        else none
      | _ => none
    | none => none := by
  rw [evIo.eq_1]
  cases S.h id with
  | none => rfl
  | some ob =>
    simp only
    cases hes : ob.es with
    | nil => rfl
    | cons e t =>
      cases t with
      | cons _ _ => rfl
      | nil =>
        simp only
        cases ob.keep with
        | false => rfl
        | true =>
          simp only [if_true]
          cases ownX X (upd S.h id none) (fun _ => none) e (X.omask g) with
          | none => rfl
          | some R =>
            simp only
            cases giveA (killL (upd S.h id none) (maskSrc e (X.omask g))) rest with
            | none => rfl
            | some x =>
              obtain ⟨as, h1⟩ := x
              simp only
              unfold mcall
              cases callL X g (V.ptr 0 0 0 :: as) (ioStart X g ob.k R) (1 + (X.omask g).length) with
              | none => rfl
              | some x =>
                obtain ⟨v, h, n⟩ := x
                simp only
                cases ioEnd X (ioMask X fid dst g) v h with
                | none => rfl
                | some y =>
                  obtain ⟨k', r, rs⟩ := y
                  simp only [tailV_shape]
theorem mcall_of {X : Env} {M : Mask} {g : FuncId} {fn : Func} {b : Code} {rs : List ResultVar} (hf : X.P.funcs[g]? = some fn) (hb : fn.body = some b) (hr : fn.results = ⟨rs⟩) {k : Nat} {R : V} {args : List V} {k' : Nat} {r v : V} {rl : List V}
    (hw : Wp X g b ⟨enterF (.ptr 0 0 0 :: args), ioStart X g k R, 1 + (X.omask g).length⟩ (endQ X rs fun v' h _ => ioEnd X M v' h = some (k', r, rl) ∧ shapeV v' = v)) (hp : X.prim g = none := by rfl) :
    mcall X M g k R args = some (k', r, rl, v) := by
  obtain ⟨v', h, n, h1, h2, rfl⟩ := callL_of hf hb hr hw hp
  unfold mcall
  simp only [h1, h2]
theorem evCall_eq (X : Env) (fid : FuncId) (dst : Option Nat) (g : FuncId) (args : List V) (S : St) : evCall X (callL X) fid dst g args S =
    match X.clone g with
    | some t =>
      match args with
      | [s] => match elems S.h s with
        | some (es, kx) => if s.isStr || (kx && !X.keepT fid (X.ti t).elem) || !(es.all fun v => v.cells.length == (X.ti (X.ti t).elem).size) || !decide (es.length * (X.ti (X.ti t).elem).bytes ≤ 2 ^ 47 ∧ es.length ≤ 2 ^ 62) then none else some ((S.new ⟨(X.ti (X.ti t).elem).size, es, X.keepT fid (X.ti t).elem⟩).set dst (.hdr S.n 0 es.length))
        | none => none
      | _ => none
    | none =>
    if (X.byref g && !X.low g) = true then
      match callL X g args S.h S.n with
      | some (v, h, n) => some (({ S with h := h, n := n } : St).set dst v)
      | none => none
    else if X.inout g = true then evIo X (callL X) fid dst g args S
    else if (!(dst.elim [] (X.mask fid)).isEmpty) = true then evMask X (callL X) fid dst g args S
    else
      match allSome (args.map (toImm S.h depth)) with
      | some as =>
        if (dst.any (X.thaw fid) && !X.low g) = true then
          match callL X g (dullL as) nohp S.n with
          | some (v, h, n) => if (args.any V.own1 && !v.pu) = true then none else some (({ S with h := fun id => if id < S.n then S.h id else if args.any V.own1 = true then pureOb (h id) else h id, n := n } : St).set dst v)
          | none => none
        else
          match pcall X g (dullL as) with
          | some v => if (args.any V.own1 && !v.scalar) = true then none else some (S.set dst v)
          | none => none
      | none => none := by
  have key : ∀ v : V, v.dull.scalar = v.scalar := by
    intro v
    have l0 : ∀ v : V, v.dull.leaf = v.leaf := fun v => by cases v <;> rfl
    have ll : ∀ l : List V, (dullL l).all V.leaf = l.all V.leaf := by
      intro l; induction l with
      | nil => rfl
      | cons c l ih => simp [dullL, l0, ih]
    have l1 : ∀ v : V, v.dull.leaf1 = v.leaf1 := fun v => by
      cases v with
      | agg cs => simp [V.dull, V.leaf1, ll]
      | _ => rfl
    have ll1 : ∀ l : List V, (dullL l).all V.leaf1 = l.all V.leaf1 := by
      intro l; induction l with
      | nil => rfl
      | cons c l ih => simp [dullL, l1, ih]
    cases v with
    | tup cs => simp [V.dull, V.scalar, ll1]
    | agg cs => simp [V.dull, V.scalar, V.leaf1, ll]
    | _ => rfl
  unfold evCall pcall
  cases X.clone g with
  | some t => rfl
  | none =>
    by_cases hb : (X.byref g && !X.low g) = true
    · simp only [hb, if_true]
      rfl
    · simp only [hb, if_false, Bool.false_eq_true]
      by_cases hio : X.inout g = true
      · simp only [hio, if_true]
      simp only [hio, if_false, Bool.false_eq_true]
      by_cases hmk : (!(dst.elim [] (X.mask fid)).isEmpty) = true
      · simp only [hmk, if_true]
      simp only [hmk, if_false, Bool.false_eq_true]
      cases allSome (args.map (toImm S.h depth)) with
      | none => rfl
      | some as =>
        simp only
        by_cases ht : (dst.any (X.thaw fid) && !X.low g) = true
        · simp only [ht, if_true]
          rfl
        · simp only [ht, if_false, Bool.false_eq_true]
          cases hc : primC X (callL X) g (dullL as) with
          | none => rfl
          | some x =>
            obtain ⟨v, h, n⟩ := x
            simp only
            cases toImm h depth v with
            | none => rfl
            | some v' => simp only [Option.map_some, key]
theorem stable_cons (X : Env) (call : CallT) (fid : FuncId) (ops : List Oper) (n0 : Nat) (S0 S1 : St) (q : Nat × Nat) (l : List (Nat × Nat)) : Stable X call fid ops n0 S0 S1 (q :: l) =
    (((∃ o, ops[q.1]? = some o ∧ skips (ops.map (·.dst)) o S1) ∨ (∃ o T v, ops[q.1]? = some o ∧ evOps X call fid (ops.map (·.dst)) n0 0 (ops.take q.2) S0 = some T ∧
    evCore X fid o S1.ev T.h (n0 + q.1) = some (v, T.h, n0 + q.1) ∧ ∀ d, o.dst = some d → S1.f d = v)) ∧ Stable X call fid ops n0 S0 S1 l) := by
  simp only [Stable, List.forall_mem_cons]
def coreP (r : Option (V × Heap × Nat)) (K : V → Heap → Prop) : Prop :=
  match r with
  | some (v, h, _) => K v h
  | none => False
theorem coreP_some (v : V) (h : Heap) (n : Nat) (K : V → Heap → Prop) : coreP (some (v, h, n)) K = K v h := rfl
theorem coreP_none (K : V → Heap → Prop) : coreP none K = False := rfl
theorem coreP_need (c : Prop) [Decidable c] (a : Option (V × Heap × Nat)) (K : V → Heap → Prop) : coreP (if c then a else none) K = (c ∧ (c → coreP (mark a) K)) := by
  by_cases h : c <;> simp [h, coreP, mark]
theorem coreP_needn (c : Prop) [Decidable c] (a : Option (V × Heap × Nat)) (K : V → Heap → Prop) : coreP (if c then none else a) K = (¬ c ∧ (¬ c → coreP (mark a) K)) := by
  by_cases h : c <;> simp [h, coreP, mark]
theorem coreP_congr {r r' : Option (V × Heap × Nat)} {K : V → Heap → Prop} (h : r = r') : coreP r K = coreP r' K := by rw [h]
theorem stb_congr {l l' : List (Nat × Nat)} {p : List (Nat × Nat) → Prop} (h : l = l') : stb l p = stb l' p := by rw [h]
attribute [congr] coreP_congr stb_congr
theorem stb_nil (X : Env) (call : CallT) (fid : FuncId) (ops : List Oper) (n0 : Nat) (S0 S1 : St) : stb [] (Stable X call fid ops n0 S0 S1) = True := stable_nil ..
def rdP (X : Env) (fid : FuncId) (o : Option Oper) (S1 T : St) (m : Nat) : Prop := ∃ o' v, o = some o' ∧ evCore X fid o' S1.ev T.h m = some (v, T.h, m) ∧ ∀ d, o'.dst = some d → S1.f d = v
def bindL (l : List Oper) (K : List Oper → Prop) : Prop := K l
theorem bindL_cons (o : Oper) (l : List Oper) (K : List Oper → Prop) : bindL (o :: l) K = K (o :: l) := rfl
theorem bindL_nil (K : List Oper → Prop) : bindL [] K = K [] := rfl
theorem bindL_congr {l l' : List Oper} {K : List Oper → Prop} (h : l = l') : bindL l K = bindL l' K := by rw [h]
theorem rdP_congr {X : Env} {fid : FuncId} {o o' : Option Oper} {S1 T : St} {m : Nat} (h : o = o') : rdP X fid o S1 T m = rdP X fid o' S1 T m := by rw [h]
attribute [congr] bindL_congr rdP_congr
def skP (o : Option Oper) (dsts : List (Option Nat)) (S1 : St) : Prop := ∃ o', o = some o' ∧ skips dsts o' S1
theorem skP_none (dsts : List (Option Nat)) (d : Option Nat) (op : Op) (ty : TypeId) (ps : String) (af : Array Edge) (S1 : St) : skP (some ⟨d, op, ty, ps, af, none⟩) dsts S1 = False := by
  simp [skP, skips]
theorem skP_some (dsts : List (Option Nat)) (d : Option Nat) (op : Op) (ty : TypeId) (ps : String) (af : Array Edge) (j : Nat) (want : Bool) (S1 : St) : skP (some ⟨d, op, ty, ps, af, some (j, want)⟩) dsts S1 =
    (match dsts[j]? with | some (some d) => S1.f d = .tup [] ∨ S1.f d = .bool (!want) | _ => False) := by
  simp only [skP, skips, Option.some.injEq, exists_eq_left']
  rfl
theorem skP_congr {o o' : Option Oper} {dsts : List (Option Nat)} {S1 : St} (h : o = o') : skP o dsts S1 = skP o' dsts S1 := by rw [h]
attribute [congr] skP_congr
theorem stb_cons (X : Env) (fid : FuncId) (ops : List Oper) (n0 : Nat) (S0 S1 : St) (j p : Nat) (l : List (Nat × Nat)) : stb ((j, p) :: l) (Stable X (callL X) fid ops n0 S0 S1) =
    ((skP (mark ops[j]?) (ops.map (·.dst)) S1 ∨ bindL (mark (ops.take p)) fun ops' => OpsP X fid (ops.map (·.dst)) n0 0 ops' S0 fun T => rdP X fid (mark ops[j]?) S1 T (n0 + j)) ∧ stb l (Stable X (callL X) fid ops n0 S0 S1)) := by
  unfold stb
  rw [stable_cons]
  congr 1
  unfold skP
  congr 1
  unfold bindL mark OpsP rdP
  apply propext
  constructor
  · rintro ⟨o, T, v, h1, h2, h3, h4⟩
    simp only at h2
    simp only [h2]
    exact ⟨o, v, h1, h3, h4⟩
  · intro h
    cases hT : evOps X (callL X) fid (ops.map (·.dst)) n0 0 (ops.take p) S0 with
    | none => simp only [hT] at h; exact absurd h (fun h => h)
    | some T =>
      simp only [hT] at h
      obtain ⟨o, v, h1, h3, h4⟩ := h
      exact ⟨o, T, v, h1, rfl, h3, h4⟩
theorem rd_load (X : Env) (fid : FuncId) (d : Nat) (t : TypeId) (a : Operand) (ty : TypeId) (ps : String) (af : Array Edge) (g : Option (Nat × Bool)) (S1 T : St) (m : Nat) : rdP X fid (some ⟨some d, .load t a, ty, ps, af, g⟩) S1 T m =
    ∃ v, (match evF S1.f a with
      | .ptr id i f => match T.h id with
        | some ob => match ob.es[i]? with
          | some e => match part (X.ti t) e.cells f with | some v => some (v, T.h, m) | none => none
          | none => none
        | none => none
      | .ref cs => match part (X.ti t) cs 0 with | some v => some (v, T.h, m) | none => none
      | _ => none) = some (v, T.h, m) ∧ S1.f d = v := by
  unfold rdP
  rw [evF_eq]
  apply propext
  constructor
  · rintro ⟨o, v, h, h1, h2⟩
    simp only [Option.some.injEq] at h
    subst h
    exact ⟨v, h1, h2 d rfl⟩
  · rintro ⟨v, h1, h2⟩
    refine ⟨_, v, rfl, h1, fun d' h => ?_⟩
    simp only [Option.some.injEq] at h
    subst h; exact h2
def gval (dsts : List (Option Nat)) (f : Nat → V) (j : Nat) : V :=
  match dsts[j]? with
  | some (some d) => f d
  | _ => .bad
def gdst (dsts : List (Option Nat)) (j : Nat) : Nat :=
  match dsts[j]? with
  | some (some d) => d
  | _ => 0
section
variable {X : Env} {fx : FuncId} {dsts : List (Option Nat)} {n0 kk n : Nat} {r : List Oper} {ff : Nat → V} {hp : Heap} {K : St → Prop} {d : Nat} {ty : TypeId} {ps : String} {af : Array Edge}
theorem OpsP_core' {o : Oper} {S : St} (hs : stepOp X (callL X) fx n0 kk o S = match evCore X fx o S.ev S.h (n0 + kk) with
    | some (v, h, _) => some (({ S with h := h } : St).set o.dst v)
    | none => none) (hg : o.guard = none) : OpsP X fx dsts n0 kk (o :: r) S K = coreP (evCore X fx o S.ev S.h (n0 + kk)) fun v h => OpsP X fx dsts n0 (kk + 1) r ((⟨S.f, h, S.n⟩ : St).set o.dst v) K := by
  rw [OpsP_cons, hg, hs]
  cases evCore X fx o S.ev S.h (n0 + kk) with
  | none => rfl
  | some x => obtain ⟨v, h, n⟩ := x; rfl
theorem OpsP_core {o : Oper} (hs : ∀ S, stepOp X (callL X) fx n0 kk o S = match evCore X fx o S.ev S.h (n0 + kk) with
    | some (v, h, _) => some (({ S with h := h } : St).set o.dst v)
    | none => none) (hg : o.guard = none) {d : Option Nat} (hd : o.dst = d) : OpsP X fx dsts n0 kk (o :: r) ⟨ff, hp, n⟩ K = coreP (mark (evCore X fx o (evF ff) hp (n0 + kk))) fun v h => OpsP X fx dsts n0 (kk + 1) r ((⟨ff, h, n⟩ : St).set d v) K := by
  rw [show evF ff = (⟨ff, hp, n⟩ : St).ev from evF_eq ⟨ff, hp, n⟩]
  subst hd
  exact OpsP_core' (hs _) hg
theorem ops_guard (d : Nat) (op : Op) (j : Nat) (w : Bool) : OpsP X fx dsts n0 kk (⟨some d, op, ty, ps, af, some (j, w)⟩ :: r) ⟨ff, hp, n⟩ K =
    gcase (mark (gval dsts ff j)) w ff (gdst dsts j) (fun ff => OpsP X fx dsts n0 kk (⟨some d, op, ty, ps, af, none⟩ :: r) ⟨ff, hp, n⟩ K) (fun ff => OpsP X fx dsts n0 (kk + 1) r ⟨upd ff d (.tup []), hp, n⟩ K) := by
  have key : ∀ ff : Nat → V, OpsP X fx dsts n0 kk (⟨some d, op, ty, ps, af, none⟩ :: r) ⟨ff, hp, n⟩ K = bindP (stepOp X (callL X) fx n0 kk ⟨some d, op, ty, ps, af, some (j, w)⟩ ⟨ff, hp, n⟩) fun S1 => OpsP X fx dsts n0 (kk + 1) r S1 K := fun ff => by rw [OpsP_cons]; rfl
  simp only [key]
  rw [OpsP_cons]
  unfold gval mark gdst
  simp only
  cases dsts[j]? with
  | none => rfl
  | some x =>
    cases x with
    | none => rfl
    | some x =>
      unfold gcase
      rfl
theorem ops_call (d : Option Nat) (g : FuncId) (args : Array Operand) (tys : Array TypeId) : OpsP X fx dsts n0 kk (⟨d, .call ⟨.value (.func g), args, tys⟩, ty, ps, af, none⟩ :: r) ⟨ff, hp, n⟩ K =
    bindP (mark (evCall X (callL X) fx d g (args.toList.map (evF ff)) ⟨ff, hp, n⟩)) fun S1 => OpsP X fx dsts n0 (kk + 1) r ⟨S1.f, S1.h, S1.n⟩ K := by
  rw [OpsP_cons, show evF ff = (⟨ff, hp, n⟩ : St).ev from evF_eq ⟨ff, hp, n⟩]
  show bindP (evCall X (callL X) fx d g ([] ++ args.toList.map (⟨ff, hp, n⟩ : St).ev ++ []) ⟨ff, hp, n⟩) _ = _
  rw [List.nil_append, List.append_nil]
  rfl
theorem ops_move (x') : OpsP X fx dsts n0 kk (⟨(some d), .move x', ty, ps, af, none⟩ :: r) ⟨ff, hp, n⟩ K =
    coreP (mark (some (((evF ff) x'), hp, (n0 + kk)))) fun v h' => OpsP X fx dsts n0 (kk + 1) r ⟨upd ff d v, h', n⟩ K := OpsP_core (fun _ => rfl) rfl rfl
theorem ops_assign (x') : OpsP X fx dsts n0 kk (⟨(some d), .assign x', ty, ps, af, none⟩ :: r) ⟨ff, hp, n⟩ K =
    coreP (mark (some (((evF ff) x'), hp, (n0 + kk)))) fun v h' => OpsP X fx dsts n0 (kk + 1) r ⟨upd ff d v, h', n⟩ K := OpsP_core (fun _ => rfl) rfl rfl
theorem ops_pick (c') (a') (b') : OpsP X fx dsts n0 kk (⟨(some d), .pick c' a' b', ty, ps, af, none⟩ :: r) ⟨ff, hp, n⟩ K =
    coreP (mark (match (evF ff) c' with | .bool t => some ((if t then (evF ff) a' else (evF ff) b'), hp, (n0 + kk)) | _ => none)) fun v h' => OpsP X fx dsts n0 (kk + 1) r ⟨upd ff d v, h', n⟩ K := OpsP_core (fun _ => rfl) rfl rfl
theorem ops_alloc (t') : OpsP X fx dsts n0 kk (⟨(some d), .alloc t', ty, ps, af, none⟩ :: r) ⟨ff, hp, n⟩ K =
    coreP (mark (some ((.ptr (n0 + kk) 0 0), upd hp (n0 + kk) (some ⟨(X.ti t').size, [(X.ti t').zero], true⟩), (n0 + kk) + 1))) fun v h' => OpsP X fx dsts n0 (kk + 1) r ⟨upd ff d v, h', n⟩ K := OpsP_core (fun _ => rfl) rfl rfl
theorem ops_box (t') (x') : OpsP X fx dsts n0 kk (⟨(some d), .box t' x', ty, ps, af, none⟩ :: r) ⟨ff, hp, n⟩ K =
    coreP (mark (if ((evF ff) x').fits (X.ti t').size then some ((.ptr (n0 + kk) 0 0), upd hp (n0 + kk) (some ⟨(X.ti t').size, [(evF ff) x'], true⟩), (n0 + kk) + 1) else none)) fun v h' => OpsP X fx dsts n0 (kk + 1) r ⟨upd ff d v, h', n⟩ K := OpsP_core (fun _ => rfl) rfl rfl
theorem ops_build (t') (ps') : OpsP X fx dsts n0 kk (⟨(some d), .build t' ps', ty, ps, af, none⟩ :: r) ⟨ff, hp, n⟩ K =
    coreP (mark (match (X.ti t').arr with
    | none => if (X.ti t').flds = [] then none else match fillS (X.ti t').flds (X.ti t').zero.cells (ps'.toList.map fun p => (p.1, (evF ff) p.2)) with
      | some cs => some ((.agg cs), hp, (n0 + kk))
      | none => none
    | some m => match fillS ((List.range m).map fun i => (i * (X.ti (X.ti t').elem).size, (X.ti (X.ti t').elem).size)) (X.ti t').zero.cells (ps'.toList.map fun p => (p.1, (evF ff) p.2)) with
      | some cs => some ((.agg cs), hp, (n0 + kk))
      | none => none)) fun v h' => OpsP X fx dsts n0 (kk + 1) r ⟨upd ff d v, h', n⟩ K := OpsP_core (fun _ => rfl) rfl rfl
theorem ops_buildSlice (t') (n') (ps') : OpsP X fx dsts n0 kk (⟨(some d), .buildSlice t' n' ps', ty, ps, af, none⟩ :: r) ⟨ff, hp, n⟩ K =
    coreP (mark (let e := (X.ti t').elem
    if X.keepT fx e then
      match fillE (X.ti e).size (List.replicate n' (X.ti e).zero) (ps'.toList.map fun p => (p.1, (evF ff) p.2)) with
      | some es => some ((.hdr (n0 + kk) 0 n'), upd hp (n0 + kk) (some ⟨(X.ti e).size, es, true⟩), (n0 + kk) + 1)
      | none => none
    else if (some d).any (X.flat fx) then
      match giveP (fun _ => none) (ps'.toList.map fun p => (p.1, (evF ff) p.2)) with
      | some (l, _) => match fillE (X.ti e).size (List.replicate n' (X.ti e).zero) l with
        | some es => some ((.sl true es), hp, (n0 + kk))
        | none => none
      | none => none
    else
    match giveP hp (ps'.toList.map fun p => (p.1, (evF ff) p.2)) with
    | some (l, h) =>
      match fillE (X.ti e).size (List.replicate n' (X.ti e).zero) l with
      | some es =>
        if (some d).any (X.thaw fx) then some ((.hdr (n0 + kk) 0 n'), upd (h) (n0 + kk) (some ⟨(X.ti e).size, es, false⟩), (n0 + kk) + 1)
        else some ((.sl true es), h, (n0 + kk))
      | none => none
    | none => none)) fun v h' => OpsP X fx dsts n0 (kk + 1) r ⟨upd ff d v, h', n⟩ K := OpsP_core (fun _ => rfl) rfl rfl
theorem ops_load (t') (a') : OpsP X fx dsts n0 kk (⟨(some d), .load t' a', ty, ps, af, none⟩ :: r) ⟨ff, hp, n⟩ K =
    coreP (mark (match (evF ff) a' with
    | .ptr id i f => match hp id with
      | some ob => match ob.es[i]? with
        | some e => match part (X.ti t') e.cells f with | some v => some (v, hp, (n0 + kk)) | none => none
        | none => none
      | none => none
    | .ref cs => match part (X.ti t') cs 0 with | some v => some (v, hp, (n0 + kk)) | none => none
    | _ => none)) fun v h' => OpsP X fx dsts n0 (kk + 1) r ⟨upd ff d v, h', n⟩ K := OpsP_core (fun _ => rfl) rfl rfl
theorem ops_store (t') (a') (x') : OpsP X fx dsts n0 kk (⟨none, .store t' a' x', ty, ps, af, none⟩ :: r) ⟨ff, hp, n⟩ K =
    coreP (mark (match (evF ff) a' with
    | .ptr id i f => match hp id with
      | some ob =>
        match (if ob.keep then some ((evF ff) x', hp) else give hp ((evF ff) x')) with
        | some (v, h) => match h id with
          | some ob => match ob.es[i]? with
            | some e => if v.fits (X.ti t').size && decide (f + (X.ti t').size ≤ e.cells.length) then some (.bad, upd h id (some { ob with es := ob.es.set i (e.put f v) }), (n0 + kk)) else none
            | none => none
          | none => none
        | none => none
      | none => none
    | _ => none)) fun v h' => OpsP X fx dsts n0 (kk + 1) r ⟨ff, h', n⟩ K := OpsP_core (fun _ => rfl) rfl rfl
theorem ops_nilCheck (x') : OpsP X fx dsts n0 kk (⟨(some d), .nilCheck x', ty, ps, af, none⟩ :: r) ⟨ff, hp, n⟩ K =
    coreP (mark (match (evF ff) x' with
    | .ptr id i f => some ((.ptr id i f), hp, (n0 + kk))
    | .ref cs => some ((.ref cs), hp, (n0 + kk))
    | .fn g a b => some ((.fn g a b), hp, (n0 + kk))
    | _ => none)) fun v h' => OpsP X fx dsts n0 (kk + 1) r ⟨upd ff d v, h', n⟩ K := OpsP_core (fun _ => rfl) rfl rfl
theorem ops_binOp (op') (t') (x') (y') (u0') : OpsP X fx dsts n0 kk (⟨(some d), .binOp op' t' x' y' u0', ty, ps, af, none⟩ :: r) ⟨ff, hp, n⟩ K =
    coreP (mark (match binV (X.ti t').agg (X.ti t').shp op' ((evF ff) x') ((evF ff) y') with | some v => some (v, hp, (n0 + kk)) | none => none)) fun v h' => OpsP X fx dsts n0 (kk + 1) r ⟨upd ff d v, h', n⟩ K := OpsP_core (fun _ => rfl) rfl rfl
theorem ops_unOp (op') (u0') (x') : OpsP X fx dsts n0 kk (⟨(some d), .unOp op' u0' x', ty, ps, af, none⟩ :: r) ⟨ff, hp, n⟩ K =
    coreP (mark (match unV op' ((evF ff) x') with | some v => some (v, hp, (n0 + kk)) | none => none)) fun v h' => OpsP X fx dsts n0 (kk + 1) r ⟨upd ff d v, h', n⟩ K := OpsP_core (fun _ => rfl) rfl rfl
theorem ops_convert (u0') (d') (x') : OpsP X fx dsts n0 kk (⟨(some d), .convert u0' d' x', ty, ps, af, none⟩ :: r) ⟨ff, hp, n⟩ K =
    coreP (mark (match (X.ti d').kind, (evF ff) x' with
    | some k, .int _ n => some ((.int k (k.wrap n)), hp, (n0 + kk))
    | none, v => if (X.ti d').isStr = true ∧ v.isStr = false then (match elems hp v with
      | some (es, _) => match bytesOf es with
        | some s => some (.str s, hp, (n0 + kk))
        | none => none
      | none => none) else convB (X.ti d').isStr (X.ti (X.ti d').elem).kind hp (n0 + kk) v
    | _, _ => none)) fun v h' => OpsP X fx dsts n0 (kk + 1) r ⟨upd ff d v, h', n⟩ K := OpsP_core (fun _ => rfl) rfl rfl
theorem ops_makeFunc (g') (a') (b') : OpsP X fx dsts n0 kk (⟨(some d), .makeFunc (.func g') a' b', ty, ps, af, none⟩ :: r) ⟨ff, hp, n⟩ K =
    coreP (mark (some ((.fn g' (a'.toList.map (evF ff)) (b'.toList.map (evF ff))), hp, (n0 + kk)))) fun v h' => OpsP X fx dsts n0 (kk + 1) r ⟨upd ff d v, h', n⟩ K := OpsP_core (fun _ => rfl) rfl rfl
theorem ops_makeSlice (t') (l') (c') : OpsP X fx dsts n0 kk (⟨(some d), .makeSlice t' l' c', ty, ps, af, none⟩ :: r) ⟨ff, hp, n⟩ K =
    coreP (mark (match (evF ff) l', (evF ff) c' with
    | .int _ n, .int _ m => if 0 ≤ n ∧ n ≤ m ∧ m * (X.ti (X.ti t').elem).bytes ≤ 2 ^ 47 ∧ m ≤ 2 ^ 62 then
        some ((.hdr (n0 + kk) 0 n.toNat), upd hp (n0 + kk) (some ⟨(X.ti (X.ti t').elem).size, List.replicate n.toNat (X.ti (X.ti t').elem).zero, X.keepT fx (X.ti t').elem⟩), (n0 + kk) + 1) else none
    | _, _ => none)) fun v h' => OpsP X fx dsts n0 (kk + 1) r ⟨upd ff d v, h', n⟩ K := OpsP_core (fun _ => rfl) rfl rfl
theorem ops_slice (t') (x') (lo') (hi') (mx') : OpsP X fx dsts n0 kk (⟨(some d), .slice t' x' lo' hi' mx', ty, ps, af, none⟩ :: r) ⟨ff, hp, n⟩ K =
    coreP (mark (if ((evF ff) x').isStr = (X.ti t').isStr ∧ ((evF ff) x').isPtr = (X.ti t').arr.isSome then
      match (evF ff) x' with
      | .sl _ es =>
        if es.all (fun e => e.cells.length == (X.ti (X.ti t').elem).size) then
          match mx' with
          | none => match bounds (lo'.map (evF ff)) (hi'.map (evF ff)) es.length with | some (l, h) => some ((.sl false ((es.take h).drop l)), hp, (n0 + kk)) | none => none
          | some m => match (evF ff) m, hi'.map (evF ff) with
            | .int _ p, some (.int _ q) => if p = q then (match bounds (lo'.map (evF ff)) (hi'.map (evF ff)) es.length with | some (l, h) => some ((.sl true ((es.take h).drop l)), hp, (n0 + kk)) | none => none) else none
            | _, _ => none
        else none
      | .hdr id s n =>
        match mx', hp id with
        | none, some ob => if ob.k = (X.ti (X.ti t').elem).size then (match bounds (lo'.map (evF ff)) (hi'.map (evF ff)) n with | some (l, h) => some ((.hdr id (s + l) (h - l)), hp, (n0 + kk)) | none => none) else none
        | some m, some ob => if ob.k = (X.ti (X.ti t').elem).size then (match (evF ff) m, hi'.map (evF ff) with
            | .int _ p, some (.int _ q) => if p = q then (match bounds (lo'.map (evF ff)) (hi'.map (evF ff)) n with | some (l, h) => some ((.hdr id (s + l) (h - l)), hp, (n0 + kk)) | none => none) else none
            | _, _ => none) else none
        | _, none => none
      | .str s => match mx' with
        | none => match bounds (lo'.map (evF ff)) (hi'.map (evF ff)) s.length with | some (l, h) => some ((.str ((s.take h).drop l)), hp, (n0 + kk)) | none => none
        | some _ => none
      | .ptr id 0 0 => match mx', lo', hi', (X.ti t').arr, hp id with
        | none, none, none, some m, some ob => match ob.es with
          | [e] => if e.cells.all V.imm0 = true ∧ e.cells.length = m ∧ (X.ti (X.ti t').elem).size = 1 ∧ 0 < m then some (.sl true e.cells, upd hp id none, (n0 + kk)) else none
          | _ => none
        | _, _, _, _, _ => none
      | _ => none
    else none)) fun v h' => OpsP X fx dsts n0 (kk + 1) r ⟨upd ff d v, h', n⟩ K := OpsP_core (fun _ => rfl) rfl rfl
theorem ops_fieldAddr (t') (x') (i') : OpsP X fx dsts n0 kk (⟨(some d), .fieldAddr t' x' i', ty, ps, af, none⟩ :: r) ⟨ff, hp, n⟩ K =
    coreP (mark (match (X.ti t').flds[i']? with
    | some (off, _) => match (evF ff) x' with
      | .ptr id j f => some ((.ptr id j (f + off)), hp, (n0 + kk))
      | .ref cs => some ((.ref (cs.drop off)), hp, (n0 + kk))
      | _ => none
    | none => none)) fun v h' => OpsP X fx dsts n0 (kk + 1) r ⟨upd ff d v, h', n⟩ K := OpsP_core (fun _ => rfl) rfl rfl
theorem ops_indexAddr (t') (x') (ix') : OpsP X fx dsts n0 kk (⟨(some d), .indexAddr t' x' ix', ty, ps, af, none⟩ :: r) ⟨ff, hp, n⟩ K =
    coreP (mark (match (evF ff) ix' with
    | .int _ n => match (evF ff) x' with
      | .sl _ es => if (0 ≤ n ∧ n < es.length) ∧ (X.ti t').arr = none then (match es[n.toNat]? with | some e => if e.cells.length = (X.ti (X.ti t').elem).size then some ((.ref e.cells), hp, (n0 + kk)) else none | none => none) else none
      | .hdr id s l => if (0 ≤ n ∧ n < l) ∧ (X.ti t').arr = none then (match hp id with | some ob => if ob.k = (X.ti (X.ti t').elem).size then some ((.ptr id (s + n.toNat) 0), hp, (n0 + kk)) else none | none => none) else none
      | .ptr id j f => match (X.ti t').arr with
        | some m => if 0 ≤ n ∧ n < m then some ((.ptr id j (f + n.toNat * (X.ti (X.ti t').elem).size)), hp, (n0 + kk)) else none
        | none => none
      | _ => none
    | _ => none)) fun v h' => OpsP X fx dsts n0 (kk + 1) r ⟨upd ff d v, h', n⟩ K := OpsP_core (fun _ => rfl) rfl rfl
theorem ops_index (t') (x') (ix') : OpsP X fx dsts n0 kk (⟨(some d), .index t' x' ix', ty, ps, af, none⟩ :: r) ⟨ff, hp, n⟩ K =
    coreP (mark (match (evF ff) ix' with
    | .int _ n => match (evF ff) x' with
      | .str s => if 0 ≤ n ∧ (X.ti t').arr = none then (match s[n.toNat]? with | some b => some ((.int .u8 b.toNat), hp, (n0 + kk)) | none => none) else none
      | .agg cs => match (X.ti t').arr with
        | some m => if 0 ≤ n ∧ n < m then (match part (X.ti (X.ti t').elem) cs (n.toNat * (X.ti (X.ti t').elem).size) with | some v => some (v, hp, (n0 + kk)) | none => none) else none
        | none => none
      | _ => none
    | _ => none)) fun v h' => OpsP X fx dsts n0 (kk + 1) r ⟨upd ff d v, h', n⟩ K := OpsP_core (fun _ => rfl) rfl rfl
theorem ops_field (t') (x') (f') : OpsP X fx dsts n0 kk (⟨(some d), .field t' x' f', ty, ps, af, none⟩ :: r) ⟨ff, hp, n⟩ K =
    coreP (mark (match (evF ff) x' with
    | .agg cs => match (X.ti t').flds[f']? with
      | some (k, _) => match part (X.ti ty) cs k with | some v => some (v, hp, (n0 + kk)) | none => none
      | none => none
    | _ => none)) fun v h' => OpsP X fx dsts n0 (kk + 1) r ⟨upd ff d v, h', n⟩ K := OpsP_core (fun _ => rfl) rfl rfl
theorem ops_extract (x') (i') : OpsP X fx dsts n0 kk (⟨(some d), .extract x' i', ty, ps, af, none⟩ :: r) ⟨ff, hp, n⟩ K =
    coreP (mark (match (evF ff) x' with
    | .tup vs => match vs[i']? with | some v => some (v, hp, (n0 + kk)) | none => none
    | _ => none)) fun v h' => OpsP X fx dsts n0 (kk + 1) r ⟨upd ff d v, h', n⟩ K := OpsP_core (fun _ => rfl) rfl rfl
theorem ops_call_len (args') (tys') : OpsP X fx dsts n0 kk (⟨(some d), .call ⟨.builtin .len, args', tys'⟩, ty, ps, af, none⟩ :: r) ⟨ff, hp, n⟩ K =
    coreP (mark (match args'.toList.map (evF ff) with
    | [x] => if x.isStr = (X.ti (tys'.getD 0 0)).isStr then (match lenV x with | some n => some ((.int .i64 n), hp, (n0 + kk)) | none => none) else none
    | _ => none)) fun v h' => OpsP X fx dsts n0 (kk + 1) r ⟨upd ff d v, h', n⟩ K := OpsP_core (fun _ => rfl) rfl rfl
theorem ops_call_min (args') (u0') : OpsP X fx dsts n0 kk (⟨(some d), .call ⟨.builtin .min, args', u0'⟩, ty, ps, af, none⟩ :: r) ⟨ff, hp, n⟩ K =
    coreP (mark (match args'.toList.map (evF ff) with
    | [.int k a, .int k' b] => if k = k' then some ((.int k (if b < a then b else a)), hp, (n0 + kk)) else none
    | _ => none)) fun v h' => OpsP X fx dsts n0 (kk + 1) r ⟨upd ff d v, h', n⟩ K := OpsP_core (fun _ => rfl) rfl rfl
theorem ops_call_max (args') (u0') : OpsP X fx dsts n0 kk (⟨(some d), .call ⟨.builtin .max, args', u0'⟩, ty, ps, af, none⟩ :: r) ⟨ff, hp, n⟩ K =
    coreP (mark (match args'.toList.map (evF ff) with
    | [.int k a, .int k' b] => if k = k' then some ((.int k (if b > a then b else a)), hp, (n0 + kk)) else none
    | _ => none)) fun v h' => OpsP X fx dsts n0 (kk + 1) r ⟨upd ff d v, h', n⟩ K := OpsP_core (fun _ => rfl) rfl rfl
theorem ops_call_append (args') (tys') : OpsP X fx dsts n0 kk (⟨(some d), .call ⟨.builtin .append, args', tys'⟩, ty, ps, af, none⟩ :: r) ⟨ff, hp, n⟩ K =
    coreP (mark (match args'.toList.map (evF ff) with
    | [s, x] => match elems hp s, elems hp x with
      | some (es, kb), some (xs, kx) =>
        let e := (X.ti (tys'.getD 0 0)).elem
        let kp := X.keepT fx e
        if ((kb || kx) && !kp) || !(xs.all fun v => v.cells.length == (X.ti e).size) || (X.ti (tys'.getD 1 0)).kind.isSome then none else
        if (es.length + xs.length) * (X.ti e).bytes ≤ 2 ^ 47 ∧ es.length + xs.length ≤ 2 ^ 62 then
          match s with
          | .sl true [] => some ((.hdr (n0 + kk) 0 xs.length), upd hp (n0 + kk) (some ⟨(X.ti e).size, xs, kp⟩), (n0 + kk) + 1)
          | .sl true _ => if kx || !(es.all fun v => v.cells.length == (X.ti e).size) then none else some ((.sl false (es ++ xs)), hp, (n0 + kk))
          | .hdr id _ _ => match hp id with
            | some ob => if ob.k = (X.ti e).size then some ((.hdr (n0 + kk) 0 (es.length + xs.length)), upd (upd hp id none) (n0 + kk) (some ⟨(X.ti e).size, es ++ xs, kp⟩), (n0 + kk) + 1) else none
            | none => none
          | _ => none
        else none
      | _, _ => none
    | _ => none)) fun v h' => OpsP X fx dsts n0 (kk + 1) r ⟨upd ff d v, h', n⟩ K := OpsP_core (fun _ => rfl) rfl rfl
theorem ops_call_copy (args') (tys') : OpsP X fx dsts n0 kk (⟨(some d), .call ⟨.builtin .copy, args', tys'⟩, ty, ps, af, none⟩ :: r) ⟨ff, hp, n⟩ K =
    coreP (mark (match args'.toList.map (evF ff) with
    | [.hdr id s l, x] => match hp id, elems hp x with
      | some ob, some (xs, kx) =>
        if x.isStr || (kx && !ob.keep) || !(xs.all fun v => v.cells.length == ob.k) then none else
        if s + l ≤ ob.es.length ∧ ob.k = (X.ti (X.ti (tys'.getD 0 0)).elem).size then
          some ((.int .i64 (min xs.length l : Nat)), upd hp id (some { ob with es := ob.es.take s ++ xs.take (min xs.length l) ++ ob.es.drop (s + min xs.length l) }), (n0 + kk))
        else none
      | _, _ => none
    | _ => none)) fun v h' => OpsP X fx dsts n0 (kk + 1) r ⟨upd ff d v, h', n⟩ K := OpsP_core (fun _ => rfl) rfl rfl
theorem ev_tmp (t : Nat) : evF ff (.tmp t) = ff t := rfl
theorem ev_const (v : Value) : evF ff (.const v) = ofVal v := rfl
theorem ev_fn (g : FuncId) : evF ff (.func g) = .fn g [] [] := rfl
theorem set_some (S : St) (t : Nat) (v : V) : S.set (some t) v = ⟨upd S.f t v, S.h, S.n⟩ := rfl
theorem set_none (S : St) (v : V) : S.set none v = S := rfl
end
theorem normS_eq (X : Env) (f key : Nat) (S : St) : normS X f key S = match X.norm f key with | some N => N.run S | none => some S := rfl
theorem virt_nil (n : Nat) (w : V) : virt (some n) (.sl true []) w = .hdr n 0 0 := rfl
theorem virt_none (v w : V) : virt none v w = w := by unfold virt; split <;> rfl
theorem virt_sl (o : Option Nat) (es : List V) (w : V) : virt o (.sl false es) w = w := rfl
theorem virt_int (o : Option Nat) (k : IntKind) (n : Int) (w : V) : virt o (.int k n) w = w := rfl
theorem virt_bool (o : Option Nat) (b : Bool) (w : V) : virt o (.bool b) w = w := rfl
theorem virt_str (o : Option Nat) (b : List UInt8) (w : V) : virt o (.str b) w = w := rfl
theorem virt_hdr (o : Option Nat) (i s l : Nat) (w : V) : virt o (.hdr i s l) w = w := rfl
theorem virt_ptr (o : Option Nat) (i s l : Nat) (w : V) : virt o (.ptr i s l) w = w := rfl
theorem virt_agg (o : Option Nat) (cs : List V) (w : V) : virt o (.agg cs) w = w := rfl
theorem virt_tup (o : Option Nat) (cs : List V) (w : V) : virt o (.tup cs) w = w := rfl
theorem virt_nilp (o : Option Nat) (w : V) : virt o .nilp w = w := rfl
theorem virt_ifc (o : Option Nat) (b : Bool) (w : V) : virt o (.ifc b) w = w := rfl
theorem virt_fn (o : Option Nat) (g : FuncId) (a b : List V) (w : V) : virt o (.fn g a b) w = w := rfl
theorem virt_ref (o : Option Nat) (a : List V) (w : V) : virt o (.ref a) w = w := rfl
theorem virt_bad (o : Option Nat) (w : V) : virt o .bad w = w := rfl
section
variable (S : St) (N : Norm) (hx : Heap)
theorem fixT_int (k : IntKind) (n : Int) : fixT S N hx (.int k n) = .int k n := rfl
theorem fixT_bool (b : Bool) : fixT S N hx (.bool b) = .bool b := rfl
theorem fixT_str (b : List UInt8) : fixT S N hx (.str b) = .str b := rfl
theorem fixT_sl (c : Bool) (es : List V) : fixT S N hx (.sl c es) = .sl false es := rfl
theorem fixT_nilp : fixT S N hx .nilp = .nilp := rfl
theorem fixT_ifc (b : Bool) : fixT S N hx (.ifc b) = .ifc b := rfl
theorem fixT_agg (cs : List V) : fixT S N hx (.agg cs) = .agg (cs.map (fixC S N hx)) := rfl
theorem fixT_tup (cs : List V) : fixT S N hx (.tup cs) = .tup (cs.map (fix1 S N hx)) := rfl
theorem fixT_fn (g : FuncId) (a b : List V) : fixT S N hx (.fn g a b) = .fn g (a.map (fix1 S N hx)) (b.map (fix1 S N hx)) := rfl
theorem fixT_ref (cs : List V) : fixT S N hx (.ref cs) = .ref cs := rfl
theorem fixT_bad : fixT S N hx .bad = .bad := rfl
theorem fixT_hdr (i s l : Nat) : fixT S N hx (.hdr i s l) = fixC S N hx (.hdr i s l) := rfl
theorem fixT_ptr (i s l : Nat) : fixT S N hx (.ptr i s l) = fixC S N hx (.ptr i s l) := rfl
theorem fix1_agg (cs : List V) : fix1 S N hx (.agg cs) = .agg (cs.map (fixC S N hx)) := rfl
theorem fix1_int (k : IntKind) (n : Int) : fix1 S N hx (.int k n) = .int k n := rfl
theorem fix1_bool (b : Bool) : fix1 S N hx (.bool b) = .bool b := rfl
theorem fix1_str (b : List UInt8) : fix1 S N hx (.str b) = .str b := rfl
theorem fix1_sl (c : Bool) (es : List V) : fix1 S N hx (.sl c es) = .sl false es := rfl
theorem fix1_nilp : fix1 S N hx .nilp = .nilp := rfl
theorem fix1_ifc (b : Bool) : fix1 S N hx (.ifc b) = .ifc b := rfl
theorem fix1_hdr (i s l : Nat) : fix1 S N hx (.hdr i s l) = fixC S N hx (.hdr i s l) := rfl
theorem fix1_ptr (i s l : Nat) : fix1 S N hx (.ptr i s l) = fixC S N hx (.ptr i s l) := rfl
theorem fixC_int (k : IntKind) (n : Int) : fixC S N hx (.int k n) = .int k n := rfl
theorem fixC_bool (b : Bool) : fixC S N hx (.bool b) = .bool b := rfl
theorem fixC_str (b : List UInt8) : fixC S N hx (.str b) = .str b := rfl
theorem fixC_sl (c : Bool) (es : List V) : fixC S N hx (.sl c es) = .sl false es := rfl
theorem fixC_nilp : fixC S N hx .nilp = .nilp := rfl
theorem fixC_ifc (b : Bool) : fixC S N hx (.ifc b) = .ifc b := rfl
theorem fixC_bad : fixC S N hx .bad = .bad := rfl
theorem fixC_fn (g : FuncId) : fixC S N hx (.fn g [] []) = .fn g [] [] := rfl
theorem fixC_hdr (id s l : Nat) : fixC S N hx (.hdr id s l) = match look S id N.roots with
    | some j => .hdr j s l
    | none => match toImm hx depth (.hdr id s l) with
      | some v => v
      | none => .bad := rfl
theorem fixC_ptr (id i f : Nat) : fixC S N hx (.ptr id i f) = match look S id N.roots with
    | some j => .ptr j i f
    | none => .bad := rfl
theorem fixOb_some (id : Nat) (ob : Ob) : fixOb S N hx id (some ob) = if ob.keep = true then
      match ob.es with
      | [e] => some ⟨ob.k, [fixE S N hx id e], true⟩
      | es => if es.all V.imm1 = true then some ob else none
    else some ob := rfl
theorem fixOb_none (id : Nat) : fixOb S N hx id none = none := rfl
end
theorem first_no (t : List Nat) (r : List Gr) (n : Nat) (S : St) : (⟨t, r, false, n⟩ : Norm).first S = true := rfl
theorem first_yes (t : List Nat) (a : Gr) (r : List Gr) (n : Nat) (S : St) : (⟨t, a :: r, true, n⟩ : Norm).first S = (a.new == 0 && (a.loc.val S).root == some 0) := rfl
theorem root_hdr (i s l : Nat) : (V.hdr i s l).root = some i := rfl
theorem root_ptr (i : Nat) : (V.ptr i 0 0).root = some i := rfl
theorem root_sl (c : Bool) (es : List V) : (V.sl c es).root = none := rfl
theorem boxed_ptr (i : Nat) : (V.ptr i 0 0).boxed = some i := rfl
theorem val_box (S : St) (t : Nat) : (Loc.box t).val S = S.f t := rfl
theorem val_slot (S : St) (t : Nat) : (Loc.slot t).val S = S.f t := rfl
theorem val_cell (S : St) (t j : Nat) : (Loc.cell t j).val S = match S.f t with
    | .ptr id 0 0 => match S.h id with
      | some ob => match ob.es with
        | [e] => e.cells.getD j .bad
        | _ => .bad
      | none => .bad
    | _ => .bad := rfl
theorem look_nil (S : St) (id : Nat) : look S id [] = none := rfl
theorem look_cons (S : St) (id : Nat) (a : Gr) (r : List Gr) : look S id (a :: r) = if (a.loc.val S).root = some id then some a.new else look S id r := rfl
theorem slotAcc_nil (t : Nat) : slotAcc t [] = none := rfl
theorem slotAcc_cons (t : Nat) (a : Gr) (r : List Gr) : slotAcc t (a :: r) = if a.loc = .slot t then some a.new else slotAcc t r := rfl
theorem cellAcc_nil (S : St) (id j : Nat) : cellAcc S id j [] = none := rfl
theorem cellAcc_box (S : St) (id j t n k : Nat) (kp : Bool) (r : List Gr) : cellAcc S id j (⟨.box t, n, k, kp⟩ :: r) = cellAcc S id j r := rfl
theorem cellAcc_slot (S : St) (id j t n k : Nat) (kp : Bool) (r : List Gr) : cellAcc S id j (⟨.slot t, n, k, kp⟩ :: r) = cellAcc S id j r := rfl
theorem cellAcc_cell (S : St) (id j t j' n k : Nat) (kp : Bool) (r : List Gr) : cellAcc S id j (⟨.cell t j', n, k, kp⟩ :: r) = if j' = j ∧ (S.f t).boxed = some id then some n else cellAcc S id j r := rfl
theorem killL_nil (h : Heap) : killL h [] = h := rfl
theorem killL_some (h : Heap) (id : Nat) (r : List (Option Nat)) : killL h (some id :: r) = upd (killL h r) id none := rfl
theorem killL_none (h : Heap) (r : List (Option Nat)) : killL h (none :: r) = killL h r := rfl
theorem first_region (id : Nat) (ops : Array Oper) (d : Bool) : codeFirst (.region id ops d) = id := rfl
theorem first_seq (a b : Code) : codeFirst (.seq a b) = codeFirst a := rfl
theorem first_block (id : Nat) (b : Code) : codeFirst (.block id b) = codeFirst b := rfl
theorem first_loop (b : Code) : codeFirst (.loop b) = codeFirst b := rfl
theorem giveA_nil (h : Heap) : giveA h [] = some ([], h) := rfl
theorem giveA_cons (h : Heap) (v : V) (r : List V) : giveA h (v :: r) = match give h v with
    | some (v', h1) => match giveA h1 r with
      | some (r', h2) => some (v' :: r', h2)
      | none => none
    | none => none := rfl
theorem imm1_agg (cs : List V) : (V.agg cs).imm1 = cs.all V.imm0 := rfl
theorem hdrV_eq (n : Nat) (m : Mask) (v : V) : hdrV n m v = mapV (fun i j c => match maskNo n m i j with
  | some (q, _) => match c with
    | .sl _ es => .hdr q 0 es.length
    | _ => .bad
  | none => c) v := rfl
theorem mapV_tup' (F : Nat → Nat → V → V) (vs : List V) : mapV F (.tup vs) = .tup (mapC (fun i v => map1 (F i) v) 0 vs) := rfl
theorem mapV_agg (F : Nat → Nat → V → V) (vs : List V) : mapV F (.agg vs) = .agg (mapC (F 0) 0 vs) := rfl
theorem mapV_sl (F : Nat → Nat → V → V) (c : Bool) (es : List V) : mapV F (.sl c es) = F 0 0 (.sl c es) := rfl
theorem mapV_hdr (F : Nat → Nat → V → V) (i s l : Nat) : mapV F (.hdr i s l) = F 0 0 (.hdr i s l) := rfl
theorem mapV_int (F : Nat → Nat → V → V) (k : IntKind) (n : Int) : mapV F (.int k n) = F 0 0 (.int k n) := rfl
theorem mapV_bool (F : Nat → Nat → V → V) (b : Bool) : mapV F (.bool b) = F 0 0 (.bool b) := rfl
theorem mapV_str (F : Nat → Nat → V → V) (b : List UInt8) : mapV F (.str b) = F 0 0 (.str b) := rfl
theorem map1_agg' (F : Nat → V → V) (vs : List V) : map1 F (.agg vs) = .agg (mapC F 0 vs) := rfl
theorem map1_sl (F : Nat → V → V) (c : Bool) (es : List V) : map1 F (.sl c es) = F 0 (.sl c es) := rfl
theorem map1_hdr (F : Nat → V → V) (i s l : Nat) : map1 F (.hdr i s l) = F 0 (.hdr i s l) := rfl
theorem map1_int (F : Nat → V → V) (k : IntKind) (n : Int) : map1 F (.int k n) = F 0 (.int k n) := rfl
theorem map1_bool (F : Nat → V → V) (b : Bool) : map1 F (.bool b) = F 0 (.bool b) := rfl
theorem map1_str (F : Nat → V → V) (b : List UInt8) : map1 F (.str b) = F 0 (.str b) := rfl
theorem mapC_nil (F : Nat → V → V) (n : Nat) : mapC F n [] = [] := rfl
theorem mapC_cons (F : Nat → V → V) (n : Nat) (c : V) (cs : List V) : mapC F n (c :: cs) = F n c :: mapC F (n + 1) cs := rfl
theorem maskNo_nil (n i j : Nat) : maskNo n [] i j = none := rfl
theorem maskNo_cons (n i j a b : Nat) (t : TypeId) (r : Mask) : maskNo n ((a, b, t) :: r) i j = if a = i ∧ b = j then some (n, t) else maskNo (n + 1) r i j := rfl
theorem cellAt_tup (vs : List V) (i j : Nat) : (V.tup vs).cellAt i j = (vs.getD i .bad).cells.getD j .bad := rfl
theorem cellAt_agg (vs : List V) (i j : Nat) : (V.agg vs).cellAt i j = if i = 0 then vs.getD j .bad else .bad := rfl
theorem cellAt_sl (c : Bool) (es : List V) (i j : Nat) : (V.sl c es).cellAt i j = if i = 0 then [V.sl c es].getD j .bad else .bad := rfl
theorem cellAt_hdr (a b c i j : Nat) : (V.hdr a b c).cellAt i j = if i = 0 then [V.hdr a b c].getD j .bad else .bad := rfl
theorem ownR_eq (X : Env) (h : Heap) (v : V) (m : Mask) : ownR X h v m = ownX X h (killL h (maskSrc v m)) v m := rfl
theorem ownX_eq (X : Env) (h hx : Heap) (v : V) (m : Mask) : ownX X h hx v m = if (apartL (maskSrc v m) && m.all (fun q => (rowAt X h hx q.2.2 (v.cellAt q.1 q.2.1)).isSome)) = true then some (mapV (ownCell X h hx m) v) else none := rfl
theorem ioStart_eq (X : Env) (g : FuncId) (k : Nat) (R : V) : ioStart X g k R = hdrH X (X.keepT g) R 1 (X.omask g) (upd (fun _ => none) 0 (some ⟨k, [hdrV 1 (X.omask g) R], true⟩)) := rfl
theorem ioEnd_eq (X : Env) (M : Mask) (v : V) (h : Heap) : ioEnd X M v h = match h 0 with
  | some ob' =>
    match ob'.es with
    | [e'] => if ob'.keep then
        match ownR X (upd h 0 none) (consV e' v) M with
        | some (.tup (r :: rs)) => some (ob'.k, r, rs)
        | _ => none
      else none
    | _ => none
  | none => none := rfl
theorem consV_tup (e : V) (vs : List V) : consV e (.tup vs) = .tup (e :: vs) := rfl
theorem consV_agg (e : V) (vs : List V) : consV e (.agg vs) = .tup [e, .agg vs] := rfl
theorem consV_int (e : V) (k : IntKind) (n : Int) : consV e (.int k n) = .tup [e, .int k n] := rfl
theorem consV_bool (e : V) (b : Bool) : consV e (.bool b) = .tup [e, .bool b] := rfl
theorem consV_str (e : V) (b : List UInt8) : consV e (.str b) = .tup [e, .str b] := rfl
theorem consV_sl (e : V) (c : Bool) (es : List V) : consV e (.sl c es) = .tup [e, .sl c es] := rfl
theorem consV_hdr (e : V) (i s l : Nat) : consV e (.hdr i s l) = .tup [e, .hdr i s l] := rfl
theorem tailV_tup (a vs : List V) : tailV (.tup a) vs = .tup vs := rfl
theorem tailV_agg (a vs : List V) : tailV (.agg a) vs = vs.headD .bad := rfl
theorem tailV_int (k : IntKind) (n : Int) (vs : List V) : tailV (.int k n) vs = vs.headD .bad := rfl
theorem tailV_bool (b : Bool) (vs : List V) : tailV (.bool b) vs = vs.headD .bad := rfl
theorem tailV_str (b : List UInt8) (vs : List V) : tailV (.str b) vs = vs.headD .bad := rfl
theorem tailV_sl (c : Bool) (es vs : List V) : tailV (.sl c es) vs = vs.headD .bad := rfl
theorem tailV_hdr (i s l : Nat) (vs : List V) : tailV (.hdr i s l) vs = vs.headD .bad := rfl
theorem headV_cons (v : V) (vs : List V) : headV (.tup (v :: vs)) = v := rfl
theorem restV_cons (v : V) (vs : List V) : restV (.tup (v :: vs)) = vs := rfl
theorem ioMask_eq (X : Env) (fid : FuncId) (dst : Option Nat) (g : FuncId) : ioMask X fid dst g = X.omask g ++ (dst.elim [] (X.mask fid)).map fun q => (q.1 + 1, q.2.1, q.2.2) := rfl
theorem maskSrc_eq (v : V) (m : Mask) : maskSrc v m = m.map fun q => (v.cellAt q.1 q.2.1).src := rfl
theorem ownCell_eq (X : Env) (h hx : Heap) (m : Mask) (i j : Nat) (c : V) : ownCell X h hx m i j c = match maskNo 0 m i j with
  | some (_, t) => match rowAt X h hx t c with
    | some es => .sl false es
    | none => .bad
  | none => match toImm hx depth c with
    | some c' => c'.dull
    | none => .bad := rfl
theorem rowAt_nil (X : Env) (h hx : Heap) (t : TypeId) : rowAt X h hx t (.sl true []) = some [] := rfl
theorem rowAt_hdr (X : Env) (h hx : Heap) (t : TypeId) (id s l : Nat) : rowAt X h hx t (.hdr id s l) = match h id with
    | some ob => if ob.k = (X.ti t).size ∧ s + l ≤ ob.es.length then match allSome (((ob.es.drop s).take l).map (toImm hx depth)) with
        | some es => some (dullL es)
        | none => none
      else none
    | none => none := rfl
theorem src_hdr (i s l : Nat) : (V.hdr i s l).src = some i := rfl
theorem src_sl (c : Bool) (es : List V) : (V.sl c es).src = none := rfl
theorem Gr.ob_eq (S : St) (N : Norm) (hx : Heap) (loc : Loc) (new k : Nat) (keep : Bool) : (⟨loc, new, k, keep⟩ : Gr).ob S N hx = grOb S N hx k keep (loc.val S) := rfl
theorem grOb_nil (S : St) (N : Norm) (hx : Heap) (k : Nat) (keep : Bool) : grOb S N hx k keep (.sl true []) = some ⟨k, [], keep⟩ := rfl
theorem grOb_hdr (S : St) (N : Norm) (hx : Heap) (k : Nat) (keep : Bool) (id s l : Nat) : grOb S N hx k keep (.hdr id s l) = fixOb S N hx id (S.h id) := rfl
theorem grOb_ptr (S : St) (N : Norm) (hx : Heap) (k : Nat) (keep : Bool) (id : Nat) : grOb S N hx k keep (.ptr id 0 0) = fixOb S N hx id (S.h id) := rfl
theorem apartL_nil : apartL [] = true := rfl
theorem apartL_cons (a : Option Nat) (r : List (Option Nat)) : apartL (a :: r) = (r.all (differ a) && apartL r) := rfl
theorem differ_some (a b : Nat) : differ (some a) (some b) = (a != b) := rfl
theorem differ_none (b : Option Nat) : differ none b = true := rfl
theorem differ_none' (b : Option Nat) : differ b none = true := by cases b <;> rfl
attribute [simp ↓] seqQ_normal seqQ_exit seqQ_ret blkQ_normal blkQ_exit blkQ_ret loopQ_normal loopQ_exit loopQ_ret endQ_normal endQ_ret endQ_exit Wp_skip Wp_exit Wp_ret Wp_seq Wp_cond Wp_block Wp_ops OpsP_nil ops_guard ops_call ops_move ops_assign ops_pick ops_alloc ops_box ops_build ops_buildSlice ops_load ops_store ops_nilCheck ops_binOp ops_unOp ops_convert ops_makeFunc ops_makeSlice ops_slice ops_fieldAddr ops_indexAddr ops_index ops_field ops_extract ops_call_len ops_call_min ops_call_max ops_call_append ops_call_copy
attribute [simp ↓] rd_load
attribute [simp] shapeV_tup shapeV_int shapeV_bool shapeV_str shapeV_agg shapeV_sl shapeV_hdr shapeV_ptr shapeV_nilp shapeV_ifc skP_none skP_some stb_nil stb_cons bindL_cons bindL_nil rd_load bindP_some bindP_none choose_true choose_false gcase_skip gcase_yes gcase_yes' gcase_no gcase_no' beq_int evCall_eq evIo_eq
attribute [simp] V.own1.eq_1 V.own1.eq_2 V.own1.eq_3 V.own0.eq_1 V.own0.eq_2 V.scalar.eq_1 V.scalar.eq_2 V.leaf1.eq_1 V.leaf1.eq_2 V.leaf.eq_1 V.leaf.eq_2 V.leaf.eq_3 V.leaf.eq_4 V.leaf.eq_5 V.leaf.eq_6 toImm.eq_1 toImm.eq_2 toImm.eq_3 toImm.eq_4 toImm.eq_5 toImm.eq_6 toImm.eq_7 toImm.eq_8 toImm.eq_9 toImm.eq_10 toImm.eq_11 dullL.eq_1 dullL.eq_2 V.dull.eq_1 V.dull.eq_2 V.dull.eq_3 V.dull.eq_4 gval.eq_1 gdst.eq_1 depth.eq_1
attribute [simp] normS_eq virt_nil virt_none virt_sl virt_int virt_bool virt_str virt_hdr virt_ptr virt_agg virt_tup virt_nilp virt_ifc virt_fn virt_ref virt_bad fixT_int fixT_bool fixT_str fixT_sl fixT_nilp fixT_ifc fixT_agg fixT_tup fixT_fn fixT_ref fixT_bad fixT_hdr fixT_ptr fix1_agg fix1_int fix1_bool fix1_str fix1_sl fix1_nilp fix1_ifc fix1_hdr fix1_ptr fixC_int fixC_bool fixC_str fixC_sl fixC_nilp fixC_ifc fixC_bad fixC_fn fixC_hdr fixC_ptr fixOb_some fixOb_none Gr.ob_eq grOb_nil grOb_hdr grOb_ptr apartL_nil apartL_cons differ_some differ_none differ_none' Norm.run.eq_1 Norm.srcs.eq_1 first_no first_yes fixF.eq_1 fixF.eq_2 fixH.eq_1 fixH.eq_2 fixE.eq_1 fixCs.eq_1 fixCs.eq_2 root_hdr root_ptr root_sl boxed_ptr val_box val_slot val_cell look_nil look_cons slotAcc_nil slotAcc_cons cellAcc_nil cellAcc_box cellAcc_slot cellAcc_cell killL_nil killL_some killL_none first_region first_seq first_block first_loop giveA_nil giveA_cons imm1_agg hdrV_eq hdrH.eq_1 hdrH.eq_2 hdrO.eq_1 mapV_tup' mapV_agg mapV_sl mapV_hdr mapV_int mapV_bool mapV_str map1_agg' map1_sl map1_hdr map1_int map1_bool map1_str mapC_nil mapC_cons maskNo_nil maskNo_cons cellAt_tup cellAt_agg cellAt_sl cellAt_hdr ownR_eq ownX_eq ioStart_eq ioEnd_eq consV_tup consV_agg consV_int consV_bool consV_str consV_sl consV_hdr tailV_tup tailV_agg tailV_int tailV_bool tailV_str tailV_sl tailV_hdr headV_cons restV_cons ioMask_eq maskSrc_eq ownCell_eq rowAt_nil rowAt_hdr src_hdr src_sl evMask_eq
attribute [simp] mark_eq coreP_some coreP_none ev_tmp ev_const ev_fn set_some set_none
attribute [simp 700] bindP_need bindP_needn coreP_need coreP_needn
attribute [simp 500] bindP_ite choose_bool gcase_bool gcase_bool'
end Go.Abs
