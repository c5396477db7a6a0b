/- A law that the evaluator answers with true, at whatever arguments: its contract. -/
import Derived.Test.YtcbddnmodlhnaaaL1
import Derived.OpenShut
namespace Go.Abs
open Go Go.ChangeShapes Go.RowKit

/-- arguments of these shapes -/
def okArgs : List (Bool × List CS) → List V → Prop
  | [], as => as = []
  | s :: ss, as => ∃ xs r, as = ofCells s.1 xs :: r ∧ okL s.2 xs ∧ okArgs ss r

/-- the shapes of the parameters -/
def parsOf (P : Program) : List TypeId → Option (List (Bool × List CS))
  | [] => some []
  | t :: ts => match csOf P 80 t, parsOf P ts with
    | some s, some r => some (s :: r)
    | _, _ => none

def readB (P : Program) (t : TypeId) : Bool := P.readableRec t && decide (t < P.types.size)

section
variable {H : Type} {enc : TypeId × Value → H} {P : Program} {w : World}

theorem csOf_one {n : Nat} {t : TypeId} {l : List CS} (h : csOf P n t = some (false, l)) {base : Nat} {v : Value} (hv : Value.okWide P w .any base t v) : v.cells.toList = [v] ∧ l.length = 1 := by
  cases n with
  | zero => simp [csOf] at h
  | succ n =>
    unfold csOf at h
    unfold Value.okWide at hv
    split at h
    · rename_i hu
      simp only [hu] at hv
      simp only [Option.some.injEq, Prod.mk.injEq, true_and] at h
      subst h
      cases v <;> first | exact ⟨rfl, rfl⟩ | simp [Cell.okWide, Cell.ok, hu] at hv
    · rename_i k hu
      simp only [hu] at hv
      simp only [Option.some.injEq, Prod.mk.injEq, true_and] at h
      subst h
      cases v <;> first | exact ⟨rfl, rfl⟩ | simp [Cell.okWide, Cell.ok, hu] at hv
    · rename_i hu
      simp only [hu] at hv
      simp only [Option.some.injEq, Prod.mk.injEq, true_and] at h
      subst h
      cases v <;> first | exact ⟨rfl, rfl⟩ | simp [Cell.okWide, Cell.ok, hu] at hv
    · rename_i e hu
      simp only [hu] at hv
      split at h
      case h_2 => cases h
      split at h
      case isFalse => cases h
      simp only [Option.some.injEq, Prod.mk.injEq, true_and] at h
      subst h
      cases v <;> first | exact ⟨rfl, rfl⟩ | simp [Cell.okWide, Cell.ok, hu] at hv
    · split at h
      case h_2 => cases h
      split at h
      case isFalse => cases h
      simp at h
    · cases h

theorem csOf_agg {n : Nat} {t : TypeId} {l : List CS} (h : csOf P n t = some (true, l)) {base : Nat} {v : Value} (hv : Value.okWide P w .any base t v) : ∃ us, v = .agg us := by
  cases n with
  | zero => simp [csOf] at h
  | succ n =>
    unfold csOf at h
    unfold Value.okWide at hv
    split at h
    · simp at h
    · simp at h
    · simp at h
    · split at h
      case h_2 => cases h
      split at h
      case isFalse => cases h
      simp at h
    · rename_i fs hu
      simp only [hu] at hv
      obtain ⟨cs, rfl, _⟩ := hv
      exact ⟨cs, rfl⟩
    · cases h

theorem args_rep {bulk : DataW H → Nat} (hB : Bulk bulk) {held : Bool} : ∀ (ts : List TypeId) (vs : List Value) (ds : List (DataW H)) (ps : List MemPlace) (ss : List (Bool × List CS)) (base : Nat), parsOf P ts = some ss →
    (∀ (j : Nat) t v, ts[j]? = some t → vs[j]? = some v → Value.okWide P w .any base t v) → DataW.TrodAll enc P w 0 (fun _ => true) held ts vs ds ps →
    ∃ as, RepL w (oldB w) nosig as vs ∧ okArgs ss as ∧ vszL as ≤ (ds.map bulk).sum
  | [], vs, ds, ps, ss, base, h, _, hA => by
    obtain ⟨rfl, rfl, _⟩ := trodAll_nil hA
    simp only [parsOf, Option.some.injEq] at h
    subst h
    exact ⟨[], by simp [RepL], rfl, by simp [vszL]⟩
  | t :: ts, vs, ds, ps, ss, base, h, hv, hA => by
    obtain ⟨v, vs', d, ds', p, q, rfl, rfl, rfl, h0, hr⟩ := trodAll_cons hA
    simp only [parsOf] at h
    split at h
    case h_2 => cases h
    rename_i s r hs hpr
    simp only [Option.some.injEq] at h
    subst h
    obtain ⟨as, ha, hoa, hsa⟩ := args_rep hB ts vs' ds' q r base hpr (fun j t' v' h1 h2 => hv (j + 1) t' v' (by simpa using h1) (by simpa using h2)) hr
    obtain ⟨fuel, hf⟩ := h0
    have hok := hv 0 t v rfl rfl
    obtain ⟨ag, l⟩ := s
    obtain ⟨xs, h1, h2, h3⟩ := trod_cs hB 80 fuel t _ _ ag l hs hf
    have hz : vsz (ofCells ag xs) = vszL xs := vsz_ofCells h2 fun e => by subst e; exact (csOf_one hs hok).2
    refine ⟨ofCells ag xs :: as, ?_, by simp only [okArgs]; exact ⟨xs, as, rfl, h2, hoa⟩, by simp only [vszL, List.map_cons, List.sum_cons, hz]; simp only at h3; omega⟩
    simp only [RepL]
    refine ⟨v, vs', rfl, ?_, ha⟩
    cases ag with
    | true =>
      obtain ⟨us, rfl⟩ := csOf_agg hs hok
      simp only [ofCells, if_true, Rep]
      exact ⟨us, rfl, h1⟩
    | false =>
      obtain ⟨hc, hl⟩ := csOf_one hs hok
      rw [hc] at h1
      have hx := okL_length h2
      rw [hl] at hx
      match xs, hx with
      | [x], _ =>
        simp only [RepC] at h1
        obtain ⟨u, r', he, _, hr', _⟩ := h1
        simp only [List.cons.injEq] at he
        obtain ⟨rfl, _⟩ := he
        exact hr'

theorem trod_stays (hl : laidOutB P = true) {W W' : World} (hb : Below W.heap.size W W') {sp : Nat → Bool} : ∀ (ts : List TypeId) (vs : List Value) (ds : List (DataW H)) (ps : List MemPlace), ts.all (readB P) = true →
    DataW.TrodAll enc P W 0 (fun _ => true) true ts vs ds ps → (∀ p ∈ ps, p.block < W.heap.size) → (∀ p ∈ ps, sp p.block = true) → DataW.TrodAll enc P W' 0 sp true ts vs ds ps
  | [], vs, ds, ps, _, hA, _, _ => by
    obtain ⟨rfl, rfl, rfl⟩ := trodAll_nil hA
    exact rfl
  | t :: ts, vs, ds, ps, hB, hA, hlt, hsp => by
    obtain ⟨v, vs', d, ds', p, q, rfl, rfl, rfl, h0, hr⟩ := trodAll_cons hA
    simp only [List.all_cons, readB, Bool.and_eq_true, decide_eq_true_eq] at hB
    refine ⟨p, q, WideElems.Trod_stays hl hB.1.1 hB.1.2 h0 (fun x hx => hb.same (hlt x (by simp [hx]))) (fun x hx => hsp x (by simp [hx])), trod_stays hl hb ts vs' ds' q (by simpa [readB] using hB.2) hr (fun x hx => hlt x (by simp [hx])) (fun x hx => hsp x (by simp [hx])), rfl⟩
end

/-- the checks of a law's function, by the kernel -/
structure LawOk (P : Program) (f : Func) (ss : List (Bool × List CS)) (tb : TypeId) : Prop where
  laid : laidOutB P = true
  read : f.params.toList.all (readB P) = true
  pars : parsOf P f.params.toList = some ss
  res : f.resultTypes = #[tb]
  bool : P.underlying tb = some .bool

theorem contract {X : Env} (hC : CallOk X (callL X)) {g : FuncId} {f : Func} {ss : List (Bool × List CS)} {tb : TypeId} (L : LawOk X.P f ss tb) {s : ChangeSpec} (hv : s.vars = [])
    (hs : ∀ (H : Type) (ds : List (DataW H)), ds.length = f.params.size → s.fn H ds = { results := [.lit (.bool true)], args := ds })
    {B : Nat} (hlaw : ∀ as, okArgs ss as → vszL as ≤ B → ∃ h k, callL X g as noheap 0 = some (.bool true, h, k))
    (H : Type) (bulk : DataW H → Nat) (hB : Bulk bulk) (enc : TypeId × Value → H) (W : World) (base : Nat) (args : Array Value) (ds gs : List (DataW H)) (before : List MemPlace)
    (hval : ∀ (j : Nat) t v, f.params[j]? = some t → args[j]? = some v → Value.okWide X.P W .any base t v)
    (hW : DataW.Whole enc X.P f.params.toList s.vars false W args.toList ds gs before) (hk : (ds.map bulk).sum ≤ B) :
    Calls X.P g args W fun e W' => ∃ v, e = .returned v ∧ s.post enc X.P f false true false false W args v W' := by
  have hlt := hW.lt
  have hW' := hW
  obtain ⟨p, q, hA, hV, rfl, hfz, hnd⟩ := hW
  rw [hv] at hV
  have hq : gs = [] ∧ q = [] := by
    cases gs with
    | nil => exact ⟨rfl, hV⟩
    | cons _ _ => simp [DataW.TrodVars] at hV
  obtain ⟨rfl, rfl⟩ := hq
  obtain ⟨as, hrep, hok, hsz⟩ := args_rep hB f.params.toList args.toList ds p ss base L.pars (fun j t v h1 h2 => hval j t v (by simpa using h1) (by simpa using h2)) hA
  obtain ⟨h', k', hcall⟩ := hlaw as hok (Nat.le_trans hsz hk)
  refine (hC g as noheap 0 (.bool true) h' k' hcall W (oldB W) nosig args (Rel.noheap fun b hb => hb) (fun _ _ => ⟨rfl, rfl⟩) hrep).mono fun e W' hh => ?_
  obtain ⟨u, I', σ', rfl, st, hr⟩ := hh
  simp only [Rep] at hr
  subst hr
  have hbelow : Below W.heap.size W W' := ⟨st.os, st.tape, st.output, st.size, fun b hb => st.frame b hb noOwns⟩
  have hdl : ∀ (ts : List TypeId) (vs : List Value) (ds : List (DataW H)) (ps : List MemPlace), DataW.TrodAll enc X.P W 0 (fun _ => true) true ts vs ds ps → ds.length = ts.length := by
    intro ts
    induction ts with
    | nil =>
      intro vs ds ps h
      obtain ⟨_, rfl, _⟩ := trodAll_nil h
      rfl
    | cons t ts ih =>
      intro vs ds ps h
      obtain ⟨v, vs', d, ds', p, q, rfl, rfl, rfl, _, hr⟩ := trodAll_cons h
      simp [ih _ _ _ hr]
  have hlen : ds.length = f.params.size := by rw [hdl _ _ _ _ hA]; simp
  have hfn := hs H (ds ++ []) (by simpa using hlen)
  have hold : ∀ p' ∈ p ++ [], (fun b => decide (b < W.heap.size)) p'.block = true := fun p' hp => by simpa using hlt p' hp
  refine ⟨_, rfl, ds, [], p ++ [], [], p, [], hW', ?_, ?_, ?_, World.keptBut_mono (fun p' hp => ⟨hp, .inr (.inl (by simpa using hp))⟩) (hbelow.frame (· ∈ p ++ [])), fun h => by cases h⟩
  · rw [hfn, L.res]
    exact trodAll_cons_mk (shut_bool L.bool _) trodAll_mk0
  · rw [hfn]
    simp only [List.append_nil] at hlt hold ⊢
    exact trod_stays L.laid hbelow _ _ _ _ L.read hA hlt hold
  · rw [hfn, hv]
    rfl

end Go.Abs
