/- TextRaw: whatever the text, the law answers true and its input reads as before. -/
import Derived.Test.YtcfmnogghcjdaaaDoorM15
set_option linter.all false
set_option maxRecDepth 100000
set_option maxHeartbeats 20000000
namespace Go.Proofs.YtcfmnogghcjdaaaDoor
open Go hiding Event
open Go.Abs Go.Abs.Api
namespace raw
def pars : List (Bool × List CS) := [(false, [.str])]
theorem read : Tryd.f3.params.toList.all (readB X.P) = true := by kernel_rfl
theorem parsO : parsOf X.P Tryd.f3.params.toList = some pars := by kernel_rfl
theorem lawOk : LawOk X.P Tryd.f3 pars 4 := ⟨laidO, read, parsO, rfl, rfl⟩
theorem lawAt (vs : List V) (h : okArgs pars vs) : ∃ h k, callL X 3 vs noheap 0 = some (.bool true, h, k) := by
  simp only [pars, okArgs, okL, okC] at h
  obtain ⟨_, _, rfl, ⟨_, _, rfl, ⟨s, rfl, hs⟩, rfl⟩, rfl⟩ := h
  exact law_of rfl (f_law45_TextRaw s)
theorem laid_met (os : Os) : laidMet Tryd.prog Rows.textRawRow.laid ((laidWorld os).forCall (fun _ _ => 0) ⟨#[], #[.string ⟨#[]⟩], []⟩).memory :=
  laidMet_laidAll (P := Tryd.prog) (os := os) (laid := Rows.textRawRow.laid) _ (by kernel_rfl) (by kernel_rfl)
theorem reads (os : Os) {H : Type} (enc : TypeId × Value → H) : ∃ places, DataW.whole enc Tryd.prog ((laidWorld os).forCall (fun _ _ => 0) ⟨#[], #[.string ⟨#[]⟩], []⟩).memory Tryd.f3.params.toList Rows.textRawSpec.vars false (#[.string ⟨#[]⟩] : Array Value).toList 8 = some ([.lit (.string [])], [], places) :=
  ⟨[], by kernel_rfl⟩
theorem lifted (os : Os) (started : os.Started) (H : Type) (enc : TypeId × Value → H) (F : Stop.Interp) :
    ReturnsInHanded {} Tryd.checked os 3 .any ((OpenSpec.ofChange Rows.textRawSpec).preRow enc Tryd.prog Tryd.f3 Rows.textRawRow.domain false Rows.textRawRow.laid) (((OpenSpec.ofChange Rows.textRawSpec).at F).post enc Tryd.prog Tryd.f3 false true false false) := by
  obtain ⟨places, hx⟩ := reads os enc
  refine returnsInHanded_of_row (C := Tryd.checked) (s := OpenSpec.ofChange Rows.textRawSpec) own started (by kernel_rfl) Tryd.func3
    (witness_row_at (enc := enc) (C := Tryd.checked) false (laidWorld os) #[.string ⟨#[]⟩] (World.laidAll_os _ _ _) (by kernel_rfl) (by kernel_rfl) (by kernel_rfl)
      (OpenSpec.preRow_of_cond 8 hx (by kernel_rfl) (fun k hk => by cases hk) (by kernel_rfl) (laid_met os))) ?_
  intro W base args ds gs before hval hW _ _ _ hL hS _
  have hgs : gs = [] := by
    obtain ⟨p, q, _, hV, _⟩ := hW
    cases gs with
    | nil => rfl
    | cons _ _ => simp [DataW.TrodVars, Rows.textRawSpec, OpenSpec.ofChange] at hV
  subst hgs
  exact contract callOk lawOk (s := Rows.textRawSpec) rfl (fun H ds hl => by
    match ds, hl with
    | [a], _ => rfl) H Rows.uptoBulk (bulk_ok H) enc W base args ds [] before hval hW (globO hL hS) (fun vs ha _ => lawAt vs ha)
theorem said : Rows.TextRawSaid :=
  OpenClaim.holds_of_cond 3 Tryd.f3 rfl rfl rfl rfl rfl rfl rfl ⟨rfl, rfl, rfl, rfl, rfl⟩ rfl rfl rfl rfl rfl (by kernel_rfl) Tryd.func3 (by kernel_rfl)
    (of_decide_eq_true (by kernel_rfl)) (by unfold Func.isWrapper; first | (rw [if_pos (by decide +kernel)]; kernel_rfl) | (rw [if_neg (by decide +kernel)]; exact ⟨rfl, rfl⟩))
    (fun os started H enc _ F => by rw [OpenClaim.pre_eq_preRow]; exact lifted os started H enc F)
theorem plain (f : FuncId) (fn : Func) (hf : Tryd.pinned.checked.prog.funcNamed "redundancy/redundancylaw45.TextRaw" = some f) (hfn : Tryd.pinned.checked.prog.funcs[f]? = some fn) :
    true = Tryd.pinned.checked.prog.looks [] ∧ ∀ (j : Nat) t, fn.params[j]? = some t → Tryd.pinned.checked.prog.wantsStandIn t = false := by
  obtain rfl : f = 3 := Option.some.inj ((show Tryd.prog.funcNamed "redundancy/redundancylaw45.TextRaw" = some 3 by kernel_rfl).symm.trans hf) |>.symm
  obtain rfl : fn = Tryd.f3 := (Option.some.inj (Tryd.func3.symm.trans hfn)).symm
  refine ⟨by kernel_rfl, fun j t ht => ?_⟩
  rw [Tryd.params3] at ht
  have hm : t ∈ ([9] : List Nat) := by simpa using Array.mem_of_getElem? ht
  have hall : (([9] : List Nat).all fun u => !Tryd.prog.wantsStandIn u) = true := by kernel_rfl
  exact (show Tryd.prog.wantsStandIn t = false by simpa using List.all_eq_true.1 hall t hm)
end raw
theorem textRaw : Rows.TextRawCardSaid :=
  Claim7.holds_tied_plain_at .later [] _ _ _ _ raw.said (fun _ h => by cases h) (by kernel_rfl) (fun _ h => by cases h) textRaw_row_tie rfl ⟨rfl, rfl⟩ (by kernel_rfl) rfl raw.plain (by kernel_rfl)
#print axioms textRaw
end Go.Proofs.YtcfmnogghcjdaaaDoor
