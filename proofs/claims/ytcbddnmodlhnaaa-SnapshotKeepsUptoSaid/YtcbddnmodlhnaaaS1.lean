/- What the functions of the store answer. -/
import Derived.Test.YtcbddnmodlhnaaaT1
set_option linter.unusedVariables false
set_option linter.unusedSimpArgs false
namespace Go.Proofs.Ytcbddnmodlhnaaa
open Go Go.Abs

structure Canon where
  tag : Int
  val : Int
  region : Int
  off : Int
  deriving DecidableEq
def Canon.enc (c : Canon) : V := .agg [.int .u8 c.tag, .int .u16 c.val, .int .i64 c.region, .int .i64 c.off]
structure View where
  state : Int
  pc : Int
  count : Int
  handler : Int
  saved : Int
  trap : Int
  code : Int
  regs : List Canon
  deriving DecidableEq
def View.enc (v : View) : V := .agg [.int .i64 v.state, .int .i64 v.pc, .int .i64 v.count, .int .i64 v.handler, .int .i64 v.saved, .int .i64 v.trap, .int .u16 v.code, .sl false (v.regs.map Canon.enc)]
def encR (r : List Canon) : V := .sl false (r.map Canon.enc)
structure State where
  regions : List (List Canon)
  threads : List View
  deriving DecidableEq
theorem Canon.enc_eq (c : Canon) : c.enc = .agg [.int .u8 c.tag, .int .u16 c.val, .int .i64 c.region, .int .i64 c.off] := rfl
theorem View.enc_eq (v : View) : v.enc = .agg [.int .i64 v.state, .int .i64 v.pc, .int .i64 v.count, .int .i64 v.handler, .int .i64 v.saved, .int .i64 v.trap, .int .u16 v.code, .sl false (v.regs.map Canon.enc)] := rfl
theorem encR_eq (r : List Canon) : encR r = .sl false (r.map Canon.enc) := rfl
def State.enc (s : State) : V := .agg [.sl false (s.regions.map encR), .sl false (s.threads.map View.enc)]
structure Snap where
  time : Int
  regions : List (List Canon)
  threads : List View
  deriving DecidableEq
def Snap.enc (s : Snap) : V := .agg [.int .i64 s.time, .sl false (s.regions.map encR), .sl false (s.threads.map View.enc)]

theorem Snap.enc_eq (s : Snap) : s.enc = .agg [.int .i64 s.time, .sl false (s.regions.map encR), .sl false (s.threads.map View.enc)] := rfl

theorem dullL_map {α : Type} {f : α → V} (h : ∀ x, (f x).dull = f x) (l : List α) : dullL (l.map f) = l.map f := by
  rw [dullL_eq, List.map_map]
  exact List.map_congr_left fun x _ => h x
@[simp] theorem dull_canon (l : List Canon) : dullL (l.map Canon.enc) = l.map Canon.enc := dullL_map (fun _ => rfl) l
@[simp] theorem dull_view (l : List View) : dullL (l.map View.enc) = l.map View.enc := dullL_map (fun x => by simp [View.enc_eq]) l
@[simp] theorem dull_encR (l : List (List Canon)) : dullL (l.map encR) = l.map encR := dullL_map (fun x => by simp [encR_eq]) l
@[simp] theorem dull_snap (l : List Snap) : dullL (l.map Snap.enc) = l.map Snap.enc := dullL_map (fun x => by simp [Snap.enc_eq]) l

@[simp] theorem Canon.enc_cells (c : Canon) : c.enc.cells.length = 4 := rfl
@[simp] theorem View.enc_cells (c : View) : c.enc.cells.length = 8 := rfl
@[simp] theorem encR_cells (c : List Canon) : (encR c).cells.length = 1 := rfl
@[simp] theorem Snap.enc_cells (c : Snap) : c.enc.cells.length = 3 := rfl

def entry (n : Int) : Bool := decide (0 ≤ n) && decide (n ≤ 200)

theorem wrap_i64 {n : Int} (h : -9223372036854775808 ≤ n ∧ n ≤ 9223372036854775807) : IntKind.i64.wrap n = n := by
  simp only [IntKind.wrap, IntKind.signed, IntKind.bits, Bool.true_and]
  split <;> rename_i hc <;> simp at hc <;> omega

@[simp] theorem s16 (n : Int) : pcall X 16 [.int .i64 n] = some (.bool (entry n)) := by
  refine pcall_of Try.func16 rfl rfl ?_
  simp (implicitDefEqProofs := false) [entry]
  by_cases h : 0 ≤ n <;> simp [h] <;> omega

@[simp] theorem s18 (n : Int) : pcall X 18 [.int .i64 n] = some (.bool (entry n)) := by
  refine pcall_of Try.func18 rfl rfl ?_
  simp (implicitDefEqProofs := false) [entry]
  by_cases h : 0 ≤ n <;> simp [h] <;> omega

theorem take_up {α : Type} {a b : List α} {i : Nat} (h1 : i < a.length) (h2 : i < b.length) (h : a.take i = b.take i) (he : a[i] = b[i]) : a.take (i + 1) = b.take (i + 1) := by
  rw [List.take_add_one, List.take_add_one, h]
  simp [h1, h2, he]
theorem take_all {α : Type} {a b : List α} {i : Nat} (h1 : ¬ i < a.length) (h2 : a.length = b.length) (h : a.take i = b.take i) : a = b := by
  rwa [List.take_of_length_le (by omega), List.take_of_length_le (by omega)] at h

@[simp] theorem s25 (a b : List Canon) (hm : a.length ≤ 1000000000) : pcall X 25 [.sl false (a.map Canon.enc), .sl false (b.map Canon.enc)] = some (.bool (decide (a = b))) := by
  refine pcall_of Try.func25 rfl rfl ?_
  simp (implicitDefEqProofs := false) 
  refine ⟨fun h e => h (by rw [e]), fun hl => ?_⟩
  · have hl : a.length = b.length := by omega
    refine Wp_up (fun i S => S.f 0 = .sl false (a.map Canon.enc) ∧ S.f 1 = .sl false (b.map Canon.enc) ∧ S.f 5 = .int .i64 i ∧ a.take i = b.take i) a.length ?_ 0 (by simp) (by simp)
    rintro i S hi ⟨h0, h1, h5, heq⟩
    by_cases hlt : i < a.length
    · have hlt' : i < b.length := by omega
      simp (implicitDefEqProofs := false) [h0, h1, h5, exc, hlt, hlt', Canon.enc_eq]
      rw [wrap_i64 (by omega)]
      refine ⟨fun h e => by subst e; simp at h, fun e1 e2 e3 e4 => ⟨rfl, take_up hlt hlt' heq ?_⟩⟩
      cases ha : a[i]; cases hb : b[i]
      simp_all
    · simp (implicitDefEqProofs := false) [h0, h5, exc, hlt]
      exact take_all hlt hl heq

set_option maxRecDepth 20000 in
@[simp] theorem s26 (a1 a2 a3 a4 a5 a6 a7 b1 b2 b3 b4 b5 b6 b7 : Int) (a b : List Canon) (hm : a.length ≤ 1000000000) :
    pcall X 26 [.agg [.int .i64 a1, .int .i64 a2, .int .i64 a3, .int .i64 a4, .int .i64 a5, .int .i64 a6, .int .u16 a7, .sl false (a.map Canon.enc)], .agg [.int .i64 b1, .int .i64 b2, .int .i64 b3, .int .i64 b4, .int .i64 b5, .int .i64 b6, .int .u16 b7, .sl false (b.map Canon.enc)]] =
      some (.bool (decide (View.mk a1 a2 a3 a4 a5 a6 a7 a = View.mk b1 b2 b3 b4 b5 b6 b7 b))) := by
  refine pcall_of Try.func26 rfl rfl ?_
  simp (maxSteps := 5000000) (implicitDefEqProofs := false) [hm]
  simp +contextual

theorem s26' (v u : View) (hm : v.regs.length ≤ 1000000000) : pcall X 26 [v.enc, u.enc] = some (.bool (decide (v = u))) := by
  cases v; cases u; exact s26 _ _ _ _ _ _ _ _ _ _ _ _ _ _ _ _ hm

def SmallR (r : List (List Canon)) : Prop := r.length ≤ 1000000000 ∧ ∀ x ∈ r, x.length ≤ 1000000000
def SmallT (t : List View) : Prop := t.length ≤ 1000000000 ∧ ∀ x ∈ t, x.regs.length ≤ 1000000000

set_option maxRecDepth 20000 in
@[simp] theorem s21 (ra rb : List (List Canon)) (ta tb : List View) (hr : SmallR ra) (ht : SmallT ta) :
    pcall X 21 [.agg [.sl false (ra.map encR), .sl false (ta.map View.enc)], .agg [.sl false (rb.map encR), .sl false (tb.map View.enc)]] = some (.bool (decide (ra = rb ∧ ta = tb))) := by
  refine pcall_of Try.func21 rfl rfl ?_
  simp (implicitDefEqProofs := false)
  refine ⟨fun e => ⟨fun h _ h2 => h (by rw [h2]), fun e2 => ?_⟩, fun h h1 _ => h (by rw [h1])⟩
  have e : ra.length = rb.length := by omega
  have e2 : ta.length = tb.length := by omega
  refine Wp_up (fun i S => S.f 2 = .ptr 0 0 0 ∧ S.f 3 = .ptr 1 0 0 ∧ S.h 0 = some ⟨2, [.agg [.sl false (ra.map encR), .sl false (ta.map View.enc)]], true⟩ ∧
    S.h 1 = some ⟨2, [.agg [.sl false (rb.map encR), .sl false (tb.map View.enc)]], true⟩ ∧ S.f 5 = .int .i64 i ∧ ra.take i = rb.take i) ra.length ?_ 0 (by simp) (by simp)
  rintro i S hi ⟨f2, f3, h0, h1, f5, heq⟩
  have hri := hr.1
  by_cases hlt : i < ra.length
  · have hlt' : i < rb.length := by omega
    have hs := hr.2 ra[i] (List.getElem_mem hlt)
    simp (implicitDefEqProofs := false) [f2, f3, h0, h1, f5, hlt, hlt', encR_eq, hs]
    rw [wrap_i64 (by omega)]
    refine ⟨fun h e _ => by subst e; simp at h, fun e1 => ⟨rfl, take_up hlt hlt' heq e1⟩⟩
  · simp (implicitDefEqProofs := false) [f2, f3, h0, h1, f5, hlt]
    have hra := take_all hlt e heq
    refine Wp_up (fun i S => S.f 2 = .ptr 0 0 0 ∧ S.f 3 = .ptr 1 0 0 ∧ S.h 0 = some ⟨2, [.agg [.sl false (ra.map encR), .sl false (ta.map View.enc)]], true⟩ ∧
      S.h 1 = some ⟨2, [.agg [.sl false (rb.map encR), .sl false (tb.map View.enc)]], true⟩ ∧ S.f 6 = .int .i64 i ∧ ta.take i = tb.take i) ta.length ?_ 0 (by simp) (by simp [f2, f3, h0, h1])
    rintro i S hi ⟨f2, f3, h0, h1, f6, heq⟩
    have hti := ht.1
    by_cases hlt : i < ta.length
    · have hlt' : i < tb.length := by omega
      have hs := ht.2 ta[i] (List.getElem_mem hlt)
      have hc := s26' ta[i] tb[i] hs
      simp only [View.enc_eq] at hc
      simp (implicitDefEqProofs := false) [f2, f3, h0, h1, f6, hlt, hlt', View.enc_eq, hc]
      rw [wrap_i64 (by omega)]
      refine ⟨fun h _ e => by subst e; simp at h, fun e1 => ⟨rfl, take_up hlt hlt' heq e1⟩⟩
    · simp (implicitDefEqProofs := false) [f2, f3, h0, h1, f6, hlt]
      exact ⟨hra, take_all hlt e2 heq⟩

end Go.Proofs.Ytcbddnmodlhnaaa
