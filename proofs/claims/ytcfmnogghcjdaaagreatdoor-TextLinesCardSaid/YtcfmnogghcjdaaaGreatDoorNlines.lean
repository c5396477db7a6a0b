/- TextLines: whatever the numbers, the law answers true and its input reads as before. -/
import Derived.Test.YtcfmnogghcjdaaaGreatDoorM20
set_option linter.all false
set_option maxRecDepth 100000
set_option maxHeartbeats 20000000
namespace Go.Proofs.YtcfmnogghcjdaaaGreatDoor
open Go hiding Event
open Go.Abs Go.Abs.Api
namespace lines
def pars : List (Bool × List CS) := [(false, [.sl false [.int .i64]])]
theorem read : Tryz.f4.params.toList.all (readB X.P) = true := by kernel_rfl
theorem parsO : parsOf X.P Tryz.f4.params.toList = some pars := by kernel_rfl
theorem lawOk : LawOk X.P Tryz.f4 pars 4 := ⟨laidO, read, parsO, rfl, rfl⟩
theorem lawAt (vs : List V) (h : okArgs pars vs) : ∃ h k, callL X 4 vs noheap 0 = some (.bool true, h, k) := by
  simp only [pars, okArgs, okL, okC] at h
  obtain ⟨_, _, rfl, ⟨_, _, rfl, ⟨es, rfl, hlen, hes⟩, rfl⟩, rfl⟩ := h
  obtain ⟨l, rfl, _⟩ := dec_map (enc := V.int .i64) (p := fun _ => True) (es := es) fun e he => by
    obtain ⟨xs, hx, _, _, rfl, ⟨a, rfl, ha⟩, rfl⟩ := hes e he
    exact ⟨a, hx, trivial⟩
  exact law_of rfl (f_law45_TextLines l)
theorem laid_met (os : Os) : laidMet Tryz.prog Rows.textLinesRow.laid ((laidWorld os).forCall (fun _ _ => 0) ⟨#[], #[.slice none 0 0], []⟩).memory :=
  laidMet_laidAll (P := Tryz.prog) (os := os) (laid := Rows.textLinesRow.laid) _ (by kernel_rfl) (by kernel_rfl)
theorem reads (os : Os) {H : Type} (enc : TypeId × Value → H) : ∃ places, DataW.whole enc Tryz.prog ((laidWorld os).forCall (fun _ _ => 0) ⟨#[], #[.slice none 0 0], []⟩).memory Tryz.f4.params.toList Rows.textLinesSpec.vars false (#[.slice none 0 0] : Array Value).toList 8 = some ([.nil], [], places) :=
  ⟨[], by kernel_rfl⟩
theorem lifted (os : Os) (started : os.Started) (H : Type) (enc : TypeId × Value → H) (F : Stop.Interp) :
    ReturnsInHanded {} Tryz.checked os 4 .any ((OpenSpec.ofChange Rows.textLinesSpec).preRow enc Tryz.prog Tryz.f4 Rows.textLinesRow.domain false Rows.textLinesRow.laid) (((OpenSpec.ofChange Rows.textLinesSpec).at F).post enc Tryz.prog Tryz.f4 false true false false) := by
  obtain ⟨places, hx⟩ := reads os enc
  refine returnsInHanded_of_row (C := Tryz.checked) (s := OpenSpec.ofChange Rows.textLinesSpec) own started (by kernel_rfl) Tryz.func4
    (witness_row_at (enc := enc) (C := Tryz.checked) false (laidWorld os) #[.slice none 0 0] (World.laidAll_os _ _ _) (by kernel_rfl) (by kernel_rfl) (by kernel_rfl)
      (OpenSpec.preRow_of_cond 8 hx (by kernel_rfl) (fun k hk => by cases hk) (by kernel_rfl) (laid_met os))) ?_
  intro W base args ds gs before hval hW _ _ _ hL hS _
  have hgs : gs = [] := by
    obtain ⟨p, q, _, hV, _⟩ := hW
    cases gs with
    | nil => rfl
    | cons _ _ => simp [DataW.TrodVars, Rows.textLinesSpec, OpenSpec.ofChange] at hV
  subst hgs
  exact contract callOk lawOk (s := Rows.textLinesSpec) rfl (fun H ds hl => by
    match ds, hl with
    | [a], _ => rfl) H Rows.uptoBulk (bulk_ok H) enc W base args ds [] before hval hW (globO hL hS) (fun vs ha _ => lawAt vs ha)
theorem said : Rows.TextLinesSaid :=
  OpenClaim.holds_of_cond 4 Tryz.f4 rfl rfl rfl rfl rfl rfl rfl ⟨rfl, rfl, rfl, rfl, rfl⟩ rfl rfl rfl rfl rfl (by kernel_rfl) Tryz.func4 (by kernel_rfl)
    (of_decide_eq_true (by kernel_rfl)) (by unfold Func.isWrapper; first | (rw [if_pos (by decide +kernel)]; kernel_rfl) | (rw [if_neg (by decide +kernel)]; exact ⟨rfl, rfl⟩))
    (fun os started H enc _ F => by rw [OpenClaim.pre_eq_preRow]; exact lifted os started H enc F)
theorem plain (f : FuncId) (fn : Func) (hf : Tryz.pinned.checked.prog.funcNamed "redundancy/redundancylaw45.TextLines" = some f) (hfn : Tryz.pinned.checked.prog.funcs[f]? = some fn) :
    true = Tryz.pinned.checked.prog.looks [] ∧ ∀ (j : Nat) t, fn.params[j]? = some t → Tryz.pinned.checked.prog.wantsStandIn t = false := by
  obtain rfl : f = 4 := Option.some.inj ((show Tryz.prog.funcNamed "redundancy/redundancylaw45.TextLines" = some 4 by kernel_rfl).symm.trans hf) |>.symm
  obtain rfl : fn = Tryz.f4 := (Option.some.inj (Tryz.func4.symm.trans hfn)).symm
  refine ⟨by kernel_rfl, fun j t ht => ?_⟩
  rw [Tryz.params4] at ht
  have hm : t ∈ ([22] : List Nat) := by simpa using Array.mem_of_getElem? ht
  have hall : (([22] : List Nat).all fun u => !Tryz.prog.wantsStandIn u) = true := by kernel_rfl
  exact (show Tryz.prog.wantsStandIn t = false by simpa using List.all_eq_true.1 hall t hm)
end lines
theorem textLines : Rows.TextLinesCardSaid :=
  Claim7.holds_tied_plain_at .later [] _ _ _ _ lines.said (fun _ h => by cases h) (by kernel_rfl) (fun _ h => by cases h) textLines_row_tie rfl ⟨rfl, rfl⟩ (by kernel_rfl) rfl lines.plain (by kernel_rfl)
#print axioms textLines
end Go.Proofs.YtcfmnogghcjdaaaGreatDoor
