/-
  SnapshotStores (second form): where what it reads is of bulk at most 1048576, the law answers true and its input reads as before.
-/
import Derived.Test.YtcbddnmodlhnaaaRows
import Derived.Test.YtcbddnmodlhnaaaS6
import Derived.Test.YtcbddnmodlhnaaaL2
import Derived.WalkKit
import Derived.ProofKit
import Derived.OpenShut
import Derived.JoinedCond
set_option linter.unusedVariables false
set_option linter.unusedSimpArgs false
namespace Go.Proofs.Ytcbddnmodlhnaaa
open Go Go.Abs

theorem bulk_ok (H : Type) : Bulk (H := H) Rows.uptoBulk where
  one d := by
    cases d with
    | lit l => cases l <;> simp [Rows.uptoBulk]
    | _ => simp [Rows.uptoBulk]
  slice els sp := by
    have : ∀ l : List (DataW H), (l.map Rows.uptoBulk).sum = Rows.uptoBulkAll l := by
      intro l
      induction l with
      | nil => simp [Rows.uptoBulkAll]
      | cons x l ih => simp [Rows.uptoBulkAll, ih]
    simp only [Rows.uptoBulk, this]; omega
  agg ps := by
    have : ∀ l : List (DataW H), (l.map Rows.uptoBulk).sum = Rows.uptoBulkAll l := by
      intro l
      induction l with
      | nil => simp [Rows.uptoBulkAll]
      | cons x l ih => simp [Rows.uptoBulkAll, ih]
    simp only [Rows.uptoBulk, this]; omega
  str b := by simp [Rows.uptoBulk]

theorem bulk_all {H : Type} (l : List (DataW H)) : (l.map Rows.uptoBulk).sum = Rows.uptoBulkAll l := by
  induction l with
  | nil => simp [Rows.uptoBulkAll]
  | cons x l ih => simp [Rows.uptoBulkAll, ih]

theorem bulk_le {H : Type} {l : List (DataW H)} (h : Rows.uptoSmall H l = true) : (l.map Rows.uptoBulk).sum ≤ 1048576 := by
  rw [bulk_all]
  exact of_decide_eq_true h

theorem list_dec {α : Type} (f : α → V) : ∀ {es : List V}, (∀ e ∈ es, ∃ a, e = f a) → ∃ l : List α, es = l.map f
  | [], _ => ⟨[], rfl⟩
  | e :: es, h => by
    obtain ⟨a, ha⟩ := h e (by simp)
    obtain ⟨l, hl⟩ := list_dec f (es := es) fun x hx => h x (by simp [hx])
    exact ⟨a :: l, by rw [ha, hl]; rfl⟩

def canonCS : List CS := [.int .u8, .int .u16, .int .i64, .int .i64]
def viewCS : List CS := [.int .i64, .int .i64, .int .i64, .int .i64, .int .i64, .int .i64, .int .u16, .sl true canonCS]
def snapCS : List CS := [.int .i64, .sl false [.sl true canonCS], .sl true viewCS]

theorem canon_dec {xs : List V} (h : okL canonCS xs) : ∃ c : Canon, V.agg xs = c.enc := by
  simp only [canonCS, okL, okC] at h
  obtain ⟨_, _, rfl, ⟨a, rfl, _⟩, _, _, rfl, ⟨b, rfl, _⟩, _, _, rfl, ⟨c, rfl, _⟩, _, _, rfl, ⟨d, rfl, _⟩, rfl⟩ := h
  exact ⟨⟨a, b, c, d⟩, rfl⟩
theorem canons_dec {es : List V} (h : ∀ e ∈ es, ∃ xs, e = (if true then .agg xs else xs.headD .bad) ∧ okL canonCS xs) : ∃ l : List Canon, es = l.map Canon.enc :=
  list_dec Canon.enc fun e he => by
    obtain ⟨xs, rfl, hx⟩ := h e he
    exact canon_dec hx
theorem view_dec {xs : List V} (h : okL viewCS xs) : ∃ v : View, V.agg xs = v.enc := by
  simp only [viewCS, okL] at h
  obtain ⟨_, _, rfl, ha, _, _, rfl, hb, _, _, rfl, hc, _, _, rfl, hd, _, _, rfl, he, _, _, rfl, hf, _, _, rfl, hg, _, _, rfl, hh, rfl⟩ := h
  simp only [okC] at ha hb hc hd he hf hg hh
  obtain ⟨a, rfl, _⟩ := ha
  obtain ⟨b, rfl, _⟩ := hb
  obtain ⟨c, rfl, _⟩ := hc
  obtain ⟨d, rfl, _⟩ := hd
  obtain ⟨e, rfl, _⟩ := he
  obtain ⟨f, rfl, _⟩ := hf
  obtain ⟨g, rfl, _⟩ := hg
  obtain ⟨es, rfl, _, hes⟩ := hh
  obtain ⟨l, rfl⟩ := canons_dec hes
  exact ⟨⟨a, b, c, d, e, f, g, l⟩, rfl⟩
theorem snap_dec {xs : List V} (h : okL snapCS xs) : ∃ s : Snap, V.agg xs = s.enc := by
  simp only [snapCS, okL] at h
  obtain ⟨_, _, rfl, ha, _, _, rfl, hb, _, _, rfl, hc, rfl⟩ := h
  simp only [okC] at ha hb hc
  obtain ⟨a, rfl, _⟩ := ha
  obtain ⟨rs, rfl, _, hrs⟩ := hb
  obtain ⟨ts, rfl, _, hts⟩ := hc
  obtain ⟨l, rfl⟩ := list_dec encR (es := rs) fun e he => by
    obtain ⟨xs, rfl, hx⟩ := hrs e he
    simp only [okL, okC] at hx
    obtain ⟨_, _, rfl, ⟨es, rfl, _, hes⟩, rfl⟩ := hx
    obtain ⟨l, rfl⟩ := canons_dec hes
    exact ⟨l, rfl⟩
  obtain ⟨m, rfl⟩ := list_dec View.enc (es := ts) fun e he => by
    obtain ⟨xs, rfl, hx⟩ := hts e he
    exact view_dec hx
  exact ⟨⟨a, l, m⟩, rfl⟩
theorem snaps_dec {es : List V} (h : ∀ e ∈ es, ∃ xs, e = (if true then .agg xs else xs.headD .bad) ∧ okL snapCS xs) : ∃ l : List Snap, es = l.map Snap.enc :=
  list_dec Snap.enc fun e he => by
    obtain ⟨xs, rfl, hx⟩ := h e he
    exact snap_dec hx

theorem sz_canons (l : List Canon) : vszL (l.map Canon.enc) = 4 * l.length := by
  induction l with
  | nil => rfl
  | cons c l ih => simp only [List.map_cons, vszL, ih, Canon.enc, vsz, List.length_cons]; omega
theorem sz_R (rs : List (List Canon)) : wR rs ≤ 4 * vszL (rs.map encR) := by
  induction rs with
  | nil => simp [wR]
  | cons r rs ih =>
    have h1 : wR (r :: rs) = 4 + r.length + wR rs := by simp [wR]
    simp only [List.map_cons, vszL, encR, vsz, sz_canons]
    omega
theorem sz_T (ts : List View) : wT ts ≤ 4 * vszL (ts.map View.enc) := by
  induction ts with
  | nil => simp [wT]
  | cons r rs ih =>
    have h1 : wT (r :: rs) = 10 + r.regs.length + wT rs := by simp [wT]
    simp only [List.map_cons, vszL, View.enc, vsz, sz_canons]
    omega
theorem sz_snap (s : Snap) : wR s.regions + wT s.threads ≤ 4 * vsz s.enc := by
  have h1 := sz_R s.regions
  have h2 := sz_T s.threads
  simp only [Snap.enc, vsz, vszL]
  omega
theorem sz_snaps (l : List Snap) : ∀ x ∈ l, vsz x.enc ≤ vszL (l.map Snap.enc) := by
  intro x hx
  rw [vszL_map]
  exact le_sum (fun x : Snap => vsz x.enc) l x hx
theorem len_snaps (l : List Snap) : l.length ≤ vszL (l.map Snap.enc) := by
  rw [vszL_map]
  exact len_sum (fun x : Snap => vsz x.enc) (fun x => by simp only [Snap.enc, vsz, vszL]; omega) l

namespace stores
theorem own : ownKnob Try.prog.godebug = none := by kernel_rfl

theorem lawOk : LawOk X.P Try.f3 [(false, [.sl true snapCS]), (true, snapCS), (false, [.int .i64])] 4 :=
  ⟨by kernel_rfl, by kernel_rfl, by kernel_rfl, rfl, rfl⟩

theorem lawAt (vs : List V) (h : okArgs [(false, [.sl true snapCS]), (true, snapCS), (false, [.int .i64])] vs) (hb : vszL vs ≤ 1048576) : ∃ h k, callL X 3 vs noheap 0 = some (.bool true, h, k) := by
  simp only [okArgs, okL, okC] at h
  obtain ⟨_, _, rfl, ⟨_, _, rfl, ⟨es, rfl, _, hes⟩, rfl⟩, xs, _, rfl, hxs, _, _, rfl, ⟨_, _, rfl, ⟨n, rfl, _⟩, rfl⟩, rfl⟩ := h
  obtain ⟨l, rfl⟩ := snaps_dec hes
  obtain ⟨s, hs⟩ := snap_dec hxs
  have e0 : ofCells true xs = s.enc := hs
  rw [e0] at hb ⊢
  have q1 := sz_snap s
  have q2 := len_snaps l
  have e1 : ofCells false [V.sl false (l.map Snap.enc)] = .sl false (l.map Snap.enc) := rfl
  have e2 : ofCells false [V.int .i64 n] = .int .i64 n := rfl
  rw [e1, e2] at hb ⊢
  simp only [vszL] at hb
  have e3 : vsz (.sl false (l.map Snap.enc)) = vszL (l.map Snap.enc) + 1 := rfl
  rw [e3] at hb
  obtain ⟨v, h, k, h1, rfl⟩ := law3 l s n (by omega) (fun x hx => by have := sz_snap x; have := sz_snaps l x hx; omega) (by omega)
  exact ⟨h, k, h1⟩

set_option maxRecDepth 100000 in
theorem lifted (os : Os) (started : os.Started) (H : Type) (enc : TypeId × Value → H) (F : Stop.Interp) :
    ReturnsInHanded {} Try.checked os 3 .any ((Rows.OpenSpec.upto Rows.snapshotStoresSpec).pre6 enc Try.prog Try.f3 Rows.snapshotStoresUptoRow.domain false) (((Rows.OpenSpec.upto Rows.snapshotStoresSpec).at F).post enc Try.prog Try.f3 false true false false) := by
  refine returnsInHanded_of_cond (C := Try.checked) (s := Rows.OpenSpec.upto Rows.snapshotStoresSpec) (k := Rows.uptoSmall) rfl own started (by kernel_rfl) Try.func3
    (OpenSpec.witness (enc := enc) (C := Try.checked) (s := Rows.OpenSpec.upto Rows.snapshotStoresSpec) (k := Rows.uptoSmall) rfl false ⟨#[], #[.slice none 0 0, .agg #[.int .i64 0, .slice none 0 0, .slice none 0 0], .int .i64 0], []⟩ 8 (by kernel_rfl) (by kernel_rfl) (by kernel_rfl)
      (x := ([.nil, .agg [.lit (.int .i64 0), .agg [.nil, .nil]], .lit (.int .i64 0)], [], [])) (by kernel_rfl) rfl (by kernel_rfl)) ?_
  intro W base args ds gs before hval hW _ hk _
  have hgs : gs = [] := by
    obtain ⟨p, q, _, hV, _⟩ := hW
    cases gs with
    | nil => rfl
    | cons _ _ => simp [DataW.TrodVars, Rows.snapshotStoresSpec, Rows.OpenSpec.upto, OpenSpec.ofChange] at hV
  subst hgs
  rw [List.append_nil] at hk
  exact contract callOk lawOk (s := Rows.snapshotStoresSpec) rfl (fun H ds hl => by
    match ds, hl with
    | [a, b, c], _ => rfl) lawAt H Rows.uptoBulk (bulk_ok H) enc W base args ds [] before hval hW (bulk_le hk)

theorem over : Rows.snapshotStoresUptoRow.holds Try.pinned (Rows.OpenSpec.upto Rows.snapshotStoresSpec) :=
  OpenClaim.holds_of_cond 3 Try.f3 rfl rfl rfl rfl rfl rfl rfl ⟨rfl, rfl, rfl, rfl, rfl⟩ rfl rfl rfl rfl rfl (by kernel_rfl) Try.func3 (by kernel_rfl)
    (of_decide_eq_true (by kernel_rfl)) (by unfold Func.isWrapper; first | (rw [if_pos (by decide +kernel)]; kernel_rfl) | (rw [if_neg (by decide +kernel)]; exact ⟨rfl, rfl⟩))
    (fun os started H enc _ F => lifted os started H enc F)
end stores

theorem snapshotStores : Rows.SnapshotStoresUptoSaid :=
  stores.over

end Go.Proofs.Ytcbddnmodlhnaaa
