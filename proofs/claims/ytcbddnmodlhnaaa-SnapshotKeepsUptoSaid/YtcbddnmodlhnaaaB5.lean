/- The check of a region whose operations stand in any order. -/
import Derived.Test.YtcbddnmodlhnaaaB4
import Derived.Orders
set_option linter.unusedVariables false
set_option linter.unusedSimpArgs false
namespace Go.Abs
open Go

/-- what must stand before each operation -/
def ancs (L : List Oper) : List (List Nat) :=
  L.foldl (fun acc o => acc ++ [((o.after.toList.filter (Region.binds .any)).flatMap fun e => e.on :: acc.getD e.on []).eraseDups]) []

def wr (cl : List Nat) (p : Nat) : Bool := cl.getD p 0 == 3

/-- may p operations stand before the read j as far as the writes go? -/
def feasB (cl : List Nat) (B : List (List Nat)) (j p : Nat) : Bool :=
  (List.range cl.length).all fun w => !wr cl w || ((!(B.getD j []).contains w || decide (w < p)) && (!(B.getD w []).contains j || decide (p ≤ w)))

/-- is p where the read stands in the text? -/
def natB (cl : List Nat) (B : List (List Nat)) (j p : Nat) : Bool :=
  decide (p ≤ j) && (List.range cl.length).all fun w => (!wr cl w || (decide (w < j) == decide (w < p))) && (!(cl.getD w 0 == 2 && decide (p ≤ w) && decide (w < j)) || (B.getD j []).contains w)

def drawB (X : Env) (fid : FuncId) (id : Nat) (ops : Array Oper) : Bool :=
  let L := ops.toList
  let B := ancs L
  let cl := L.map (cls X fid)
  let ds := L.map (·.dst)
  X.P.follows .mixedOrders &&
  (List.range L.length).all fun j =>
    match L[j]? with
    | none => true
    | some o =>
      let bj := B.getD j []
      (o.after.toList.all fun e => !Region.binds .any e || decide (e.on < j)) &&
      (bj.all fun i => decide (i < j) && o.after.toList.any fun e => Region.binds .any e && (e.on == i || (B.getD e.on []).contains i)) &&
      ((List.range j).all fun i => (ds.getD i none == none || ds.getD i none != o.dst) &&
        (!((wr cl j && decide (2 ≤ cl.getD i 0)) || (wr cl i && cl.getD j 0 == 2)) || bj.contains i)) &&
      ((o.looksAt ops).all fun t => (List.range L.length).all fun k => ds.getD k none != some t || bj.contains k || ((B.getD k []).contains j && !(X.exc fid id).any fun q => q.1 == j)) &&
      (!(cl.getD j 0 == 1) || (List.range (L.length + 1)).all fun p => !(p == 0 || wr cl (p - 1)) || !feasB cl B j p || natB cl B j p || (X.exc fid id).contains (j, p))

/-- what the check says -/
structure DrawP (X : Env) (fid : FuncId) (id : Nat) (ops : Array Oper) (B : Nat → List Nat) : Prop where
  mixed : X.P.follows .mixedOrders = true
  edge : ∀ j o e, ops.toList[j]? = some o → e ∈ o.after → Region.binds .any e = true → e.on < j
  lt : ∀ j i, j < ops.size → i ∈ B j → i < j
  bef : ∀ j o i, ops.toList[j]? = some o → i ∈ B j → ∃ e ∈ o.after, Region.binds .any e = true ∧ (e.on = i ∨ i ∈ B e.on)
  dst : ∀ (i j : Nat) oi oj t, i < j → ops.toList[i]? = some oi → ops.toList[j]? = some oj → oi.dst = some t → oj.dst ≠ some t
  looks : ∀ (j k : Nat) o ok t, ops.toList[j]? = some o → ops.toList[k]? = some ok → ok.dst = some t → t ∈ o.looksAt ops → k ∈ B j ∨ (j ∈ B k ∧ ∀ p, (j, p) ∉ X.exc fid id)
  ww : ∀ (i j : Nat) oi oj, i < j → ops.toList[i]? = some oi → ops.toList[j]? = some oj → cls X fid oj = 3 → 2 ≤ cls X fid oi → i ∈ B j
  wk : ∀ (i j : Nat) oi oj, i < j → ops.toList[i]? = some oi → ops.toList[j]? = some oj → cls X fid oi = 3 → cls X fid oj = 2 → i ∈ B j
  reads : ∀ (j p : Nat) o, ops.toList[j]? = some o → cls X fid o = 1 → p ≤ ops.size → (p = 0 ∨ ∃ ow, ops.toList[p - 1]? = some ow ∧ cls X fid ow = 3) →
    (∀ (w : Nat) ow, ops.toList[w]? = some ow → cls X fid ow = 3 → (w ∈ B j → w < p) ∧ (j ∈ B w → p ≤ w)) →
    (p ≤ j ∧ ∀ (w : Nat) ow, ops.toList[w]? = some ow → (cls X fid ow = 3 → (w < j ↔ w < p)) ∧ (cls X fid ow = 2 → p ≤ w → w < j → w ∈ B j)) ∨ (j, p) ∈ X.exc fid id

theorem cl_get {X : Env} {fid : FuncId} {L : List Oper} {j : Nat} {o : Oper} (h : L[j]? = some o) : (L.map (cls X fid)).getD j 0 = cls X fid o := by
  simp [List.getD_eq_getElem?_getD, h]

theorem ds_get {L : List Oper} {j : Nat} {o : Oper} (h : L[j]? = some o) : (L.map (·.dst)).getD j none = o.dst := by
  simp [List.getD_eq_getElem?_getD, h]

theorem drawB_spec {X : Env} {fid : FuncId} {id : Nat} {ops : Array Oper} (h : drawB X fid id ops = true) : DrawP X fid id ops (fun j => (ancs ops.toList).getD j []) := by
  unfold drawB at h
  simp only [Bool.and_eq_true] at h
  obtain ⟨hm, h⟩ := h
  generalize ancs ops.toList = B at *
  have hj : ∀ (j : Nat) o, ops.toList[j]? = some o → _ := fun j o ho => by
    have hlt : j < ops.toList.length := (List.getElem?_eq_some_iff.1 ho).1
    have := List.all_eq_true.1 h j (List.mem_range.2 hlt)
    simp only [ho, Bool.and_eq_true] at this
    exact this
  have hlen : ops.toList.length = ops.size := Array.length_toList
  refine ⟨hm, fun j o e ho he hb => ?_, fun j i hjs hi => ?_, fun j o i ho hi => ?_, fun i j oi oj t hij hoi hoj hdi hdj => ?_, fun j k o ok t ho hok hd hl => ?_, fun i j oi oj hij hoi hoj h3 h2 => ?_, fun i j oi oj hij hoi hoj h3 h2 => ?_, fun j p o ho hc hp hw hf => ?_⟩
  · have := List.all_eq_true.1 (hj j o ho).1.1.1.1 e (by simpa using he)
    simpa [hb] using this
  · have ho : ops.toList[j]? = some ops.toList[j] := List.getElem?_eq_getElem (by omega)
    have := List.all_eq_true.1 (hj j _ ho).1.1.1.2 i hi
    simp only [Bool.and_eq_true, decide_eq_true_eq] at this
    exact this.1
  · have := List.all_eq_true.1 (hj j o ho).1.1.1.2 i hi
    simp only [Bool.and_eq_true, decide_eq_true_eq, List.any_eq_true, Bool.or_eq_true, beq_iff_eq, List.contains_iff_mem] at this
    obtain ⟨_, e, he, hb, hor⟩ := this
    exact ⟨e, by simpa using he, hb, hor⟩
  · have := List.all_eq_true.1 (hj j oj hoj).1.1.2 i (List.mem_range.2 hij)
    simp only [Bool.and_eq_true, ds_get hoi] at this
    have h1 := this.1
    rw [hdi, hdj] at h1
    simp at h1
  · have hk : k < ops.toList.length := (List.getElem?_eq_some_iff.1 hok).1
    have := List.all_eq_true.1 (List.all_eq_true.1 (hj j o ho).1.2 t hl) k (List.mem_range.2 hk)
    rw [ds_get hok, hd] at this
    simp only [bne_self_eq_false, Bool.false_or, Bool.or_eq_true, Bool.and_eq_true, Bool.not_eq_true', List.contains_iff_mem, List.any_eq_false, beq_iff_eq] at this
    rcases this with h1 | ⟨h1, h2⟩
    · exact .inl h1
    · exact .inr ⟨h1, fun p hp => h2 (j, p) hp rfl⟩
  · have := List.all_eq_true.1 (hj j oj hoj).1.1.2 i (List.mem_range.2 hij)
    simp only [Bool.and_eq_true, wr, cl_get hoi, cl_get hoj, h3] at this
    have h1 := this.2
    simpa [h2] using h1
  · have := List.all_eq_true.1 (hj j oj hoj).1.1.2 i (List.mem_range.2 hij)
    simp only [Bool.and_eq_true, wr, cl_get hoi, cl_get hoj, h3, h2] at this
    have h1 := this.2
    simpa using h1
  · have := (hj j o ho).2
    simp only [cl_get ho, hc, beq_self_eq_true, Bool.not_true, Bool.false_or] at this
    have := List.all_eq_true.1 this p (List.mem_range.2 (by omega))
    simp only [Bool.or_eq_true, Bool.not_eq_true', List.contains_iff_mem] at this
    rcases this with ((h1 | h1) | h1) | h1
    · exfalso
      rw [Bool.or_eq_false_iff] at h1
      rcases hw with rfl | ⟨ow, how, h3⟩
      · simp at h1
      · have := h1.2
        unfold wr at this
        rw [cl_get how, h3] at this
        cases this
    · exfalso
      rw [← Bool.not_eq_true] at h1
      apply h1
      unfold feasB
      rw [List.all_eq_true]
      intro w hwr
      rw [List.mem_range, List.length_map] at hwr
      have how : ops.toList[w]? = some ops.toList[w] := List.getElem?_eq_getElem hwr
      have hfw := hf w _ how
      simp only [wr, cl_get how, Bool.or_eq_true, Bool.not_eq_true', beq_eq_false_iff_ne, Bool.and_eq_true, decide_eq_true_eq]
      by_cases hc3 : cls X fid ops.toList[w] = 3
      · right
        obtain ⟨g1, g2⟩ := hfw hc3
        refine ⟨?_, ?_⟩
        · by_cases hm' : w ∈ B.getD j []
          · exact .inr (g1 hm')
          · left; simpa [List.contains_iff_mem] using hm'
        · by_cases hm' : j ∈ B.getD w []
          · exact .inr (g2 hm')
          · left; simpa [List.contains_iff_mem] using hm'
      · left; exact hc3
    · left
      unfold natB at h1
      simp only [Bool.and_eq_true, decide_eq_true_eq] at h1
      refine ⟨h1.1, fun w ow how => ?_⟩
      have hwl : w < ops.toList.length := (List.getElem?_eq_some_iff.1 how).1
      have := List.all_eq_true.1 h1.2 w (List.mem_range.2 (by simpa using hwl))
      simp only [Bool.and_eq_true, wr, cl_get how, Bool.or_eq_true, Bool.not_eq_true'] at this
      refine ⟨fun h3 => ?_, fun h2 hp1 hp2 => ?_⟩
      · have := this.1
        simp only [h3, beq_self_eq_true, Bool.true_eq_false, false_or, beq_iff_eq, decide_eq_decide] at this
        exact this
      · have := this.2
        simpa [h2, hp1, hp2] using this
    · exact .inr h1

end Go.Abs
