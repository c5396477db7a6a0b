/- Part of a proof: Z0. -/
import Derived.Test.YtcfmnogghcjdaaaGreatDoorV20
import Derived.Test.YtcfmnogghcjdaaaGreatDoorV19
import Derived.Test.YtcfmnogghcjdaaaGreatDoorRows
import Derived.Test.YtcfmnogghcjdaaaGreatDoorCards
import Derived.Test.YtcfmnogghcjdaaaGreatDoorTie
import Derived.WalkKit
import Derived.ProofKit
import Derived.OpenShut
import Derived.JoinedCond
import Derived.Deep.DeepHandedRow
import Derived.Lib.LaidTab
import Derived.Lay
import Derived.LaidMore
import Derived.Stop.LaidErr
import Derived.Shelf.Vars
import Derived.SevenTiedAt
set_option linter.all false
set_option maxRecDepth 100000
set_option maxHeartbeats 20000000
namespace Go.Proofs.YtcfmnogghcjdaaaGreatDoor
open Go hiding Event
open Go.Abs Go.Abs.Api Go.ChangeShapes Go.WideShapes Go.ChangeAt Go.RowKit
theorem own : ownKnob Tryz.prog.godebug = none := by kernel_rfl
theorem gES : Tryz.prog.globalNamed "strconv.ErrSyntax" = some 1 := by kernel_rfl
theorem gESType : (Tryz.prog.globals[1]?).map (·.type) = some 95 := by kernel_rfl
theorem gER : Tryz.prog.globalNamed "strconv.ErrRange" = some 2 := by kernel_rfl
theorem gERType : (Tryz.prog.globals[2]?).map (·.type) = some 95 := by kernel_rfl
theorem gPT : Tryz.prog.globalNamed "internal/strconv.uint64pow10" = some 3 := by kernel_rfl
theorem gPTType : (Tryz.prog.globals[3]?).map (·.type) = some 188 := by kernel_rfl
theorem cells162 : Tryz.prog.cellsOf 201 = 1 := by kernel_rfl
theorem cells9 : Tryz.prog.cellsOf 9 = 1 := by kernel_rfl
theorem cells136 : Tryz.prog.cellsOf 176 = 1 := by kernel_rfl
theorem cells149 : Tryz.prog.cellsOf 188 = 20 := by kernel_rfl
theorem star : "*" ++ "errors.errorString" = "*errors.errorString" := by decide
theorem row160 (u : TypeId) (h : Tryz.prog.typeName? 3 u = some "*errors.errorString") : u = 199 :=
  typeName_ptr_named (nm := "errors.errorString") (by rw [star]; kernel_rfl) (by kernel_rfl) (by decide) u (by rw [star]; exact h)
theorem var_inv {P : Program} {w : World} {n : String} {g : Nat} {cs : Array Value} (hg : P.globalNamed n = some g) (h : w.var? P n = some cs) : ∃ t fz, w.heap[g]? = some (.cells cs t fz) := by
  unfold World.var? at h
  rw [hg, Option.bind_some] at h
  split at h
  · rename_i c t fz hc
    injection h with h
    subst h
    exact ⟨t, fz, hc⟩
  · cases h
theorem cell_inv {w : World} {g : Nat} {v : Value} (h : w.cell? ⟨g, 0, none⟩ = some v) : ∃ cs t fz, w.heap[g]? = some (.cells cs t fz) ∧ cs[0]? = some v := by
  unfold World.cell? at h
  simp only at h
  split at h
  · rename_i c t fz hc
    exact ⟨c, t, fz, hc, h⟩
  · cases h
theorem lt_of_at {w : World} {b : Nat} {ob : Obj} (h : w.heap[b]? = some ob) : oldB w b := (Array.getElem?_eq_some_iff.1 h).1
theorem globO {W : World} (hL : laidMetH Tryz.prog Rows.textNearRow.laid W) (hS : W.ShapedOpen Tryz.prog) : Glob W (oldB W) := by
  rw [MakeChecks.laidMetH_plain _ _ _ (by kernel_rfl)] at hL
  have hL : laidMet Tryz.prog [("math/bits.deBruijn32tab", Rows.laid_math_bits_deBruijn32tab), ("math/bits.deBruijn64tab", Rows.laid_math_bits_deBruijn64tab), ("internal/strconv.uint64pow10", Rows.laid_internal_strconv_uint64pow10), ("unicode/utf8.acceptRanges", Rows.laid_unicode_utf8_acceptRanges), ("strconv.ErrRange", Rows.laid_strconv_ErrRange), ("strconv.ErrSyntax", Rows.laid_strconv_ErrSyntax), ("unicode/utf8.first", Rows.laid_unicode_utf8_first)] W := hL
  have h3 := Lib.tabIs_of_head (k := .u64) (zs := Lib.pow10Tab) gPT gPTType Tryz.underlying188 Tryz.underlying176 cells136 cells149 hL.tail.tail
  obtain ⟨a2, s2, h2, -, -, -⟩ := laid_sentinel hL.tail.tail.tail.tail gER gERType Tryz.underlying95 row160 Tryz.underlying199 Tryz.underlying201 rfl rfl Tryz.underlying9 cells162 cells9
  obtain ⟨a1, s1, h1, -, -, -⟩ := laid_sentinel hL.tail.tail.tail.tail.tail gES gESType Tryz.underlying95 row160 Tryz.underlying199 Tryz.underlying201 rfl rfl Tryz.underlying9 cells162 cells9
  obtain ⟨m, h0⟩ := cell_of_shapedOpen_int (g := 0) (t := 3) (k := .i64) (zero := #[.int .i64 0]) hS (of_decide_eq_true (by kernel_rfl)) (by kernel_rfl) rfl (by kernel_rfl) (by kernel_rfl) Tryz.underlying3
  intro b p hb
  match b with
  | 0 =>
    simp only [gtab, Option.some.injEq] at hb
    subst hb
    obtain ⟨cs, t, fz, e1, e2⟩ := cell_inv h0
    exact ⟨lt_of_at e1, _, e1, cs, t, fz, m, rfl, e2⟩
  | 1 =>
    simp only [gtab, Option.some.injEq] at hb
    subst hb
    obtain ⟨t, fz, e1⟩ := var_inv gES h1
    exact ⟨lt_of_at e1, _, e1, _, t, fz, _, rfl, rfl, .inr ⟨_, _, rfl⟩⟩
  | 2 =>
    simp only [gtab, Option.some.injEq] at hb
    subst hb
    obtain ⟨t, fz, e1⟩ := var_inv gER h2
    exact ⟨lt_of_at e1, _, e1, _, t, fz, _, rfl, rfl, .inr ⟨_, _, rfl⟩⟩
  | 3 =>
    simp only [gtab, Option.some.injEq] at hb
    subst hb
    obtain ⟨t, fz, e1⟩ := var_inv gPT h3
    exact ⟨lt_of_at e1, _, e1, t, fz, rfl⟩
  | b + 4 => simp [gtab] at hb
noncomputable def laidWorld (os : Os) : World := World.laidAll Tryz.prog os Rows.textNearRow.laid
theorem law_of {g : FuncId} {args : List V} (hp : X.prim g = none) (h : pcall X g args = some (.bool true)) : ∃ h k, callL X g args noheap 0 = some (.bool true, h, k) := by
  unfold pcall primC at h
  rw [hp] at h
  simp only at h
  cases hc : callL X g args noheap 0 with
  | none =>
    have hc' : callL X g args (fun _ => none) 0 = none := hc
    rw [hc'] at h
    cases h
  | some r =>
    have hc' : callL X g args (fun _ => none) 0 = some r := hc
    rw [hc'] at h
    obtain ⟨v, hx, k⟩ := r
    simp only [Option.map_eq_some_iff] at h
    obtain ⟨u, h1, h2⟩ := h
    have hv : v = .bool true := by
      unfold depth at h1
      unfold toImm at h1
      split at h1
      all_goals (repeat' split at h1)
      all_goals first
        | (cases h1; done)
        | (simp only [Option.some.injEq] at h1; subst h1; simp only [V.dull] at h2; first | (cases h2; done) | exact h2)
    subst hv
    exact ⟨hx, k, rfl⟩
theorem dec_map {α : Type} {enc : α → V} {p : α → Prop} : ∀ {es : List V}, (∀ e ∈ es, ∃ x, e = enc x ∧ p x) → ∃ l : List α, es = l.map enc ∧ ∀ x ∈ l, p x
  | [], _ => ⟨[], rfl, fun x hx => by cases hx⟩
  | e :: es, h => by
    obtain ⟨x, hx, hp⟩ := h e (by simp)
    obtain ⟨l, hl, hpl⟩ := dec_map (es := es) fun y hy => h y (by simp [hy])
    refine ⟨x :: l, by rw [hx, hl]; rfl, fun y hy => ?_⟩
    simp only [List.mem_cons] at hy
    rcases hy with rfl | hy
    · exact hp
    · exact hpl y hy
theorem in_of {n : Int} (h : IntKind.i64.min ≤ n ∧ n ≤ IntKind.i64.max) : inI n := by
  have h1 : IntKind.i64.min = -9223372036854775808 := by decide
  have h2 : IntKind.i64.max = 9223372036854775807 := by decide
  rw [h1, h2] at h
  exact h
theorem bulk_ok (H : Type) : Bulk (H := H) Rows.uptoBulk where
  one d := by
    cases d with
    | lit l => cases l <;> simp [Rows.uptoBulk]
    | _ => simp [Rows.uptoBulk]
  slice els sp := by
    have : ∀ l : List (DataW H), (l.map Rows.uptoBulk).sum = Rows.uptoBulkAll l := by
      intro l
      induction l with
      | nil => simp [Rows.uptoBulkAll]
      | cons x l ih => simp [Rows.uptoBulkAll, ih]
    simp only [Rows.uptoBulk, this]; omega
  agg ps := by
    have : ∀ l : List (DataW H), (l.map Rows.uptoBulk).sum = Rows.uptoBulkAll l := by
      intro l
      induction l with
      | nil => simp [Rows.uptoBulkAll]
      | cons x l ih => simp [Rows.uptoBulkAll, ih]
    simp only [Rows.uptoBulk, this]; omega
  str b := by simp [Rows.uptoBulk]
theorem and_mk {a b : Bool} (h : a = true) (h' : b = true) : (a && b) = true := by rw [h, h']; rfl
theorem laidO : laidOutB Tryz.prog = true := by kernel_rfl
end Go.Proofs.YtcfmnogghcjdaaaGreatDoor
