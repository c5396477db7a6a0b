/- TextEvents: whatever the events, the law answers true and its input reads as before. -/
import Derived.Test.YtcfmnogghcjdaaaDoorM15
set_option linter.all false
set_option maxRecDepth 100000
set_option maxHeartbeats 20000000
namespace Go.Proofs.YtcfmnogghcjdaaaDoor
open Go hiding Event
open Go.Abs Go.Abs.Api
namespace events
def pars : List (Bool × List CS) := [(false, [.sl true [.int .i64, .int .i64, .int .i64, .int .i64]])]
theorem read : Tryd.f5.params.toList.all (readB X.P) = true := by kernel_rfl
theorem parsO : parsOf X.P Tryd.f5.params.toList = some pars := by kernel_rfl
theorem lawOk : LawOk X.P Tryd.f5 pars 4 := ⟨laidO, read, parsO, rfl, rfl⟩
theorem lawAt (vs : List V) (h : okArgs pars vs) : ∃ h k, callL X 5 vs noheap 0 = some (.bool true, h, k) := by
  simp only [pars, okArgs, okL, okC] at h
  obtain ⟨_, _, rfl, ⟨_, _, rfl, ⟨es, rfl, _, hes⟩, rfl⟩, rfl⟩ := h
  obtain ⟨l, rfl, hl⟩ := dec_map (enc := Api.Event.enc) (p := inEv) (es := es) fun e he => by
    obtain ⟨xs, hx, _, _, rfl, ⟨a, rfl, ha⟩, _, _, rfl, ⟨b, rfl, hb⟩, _, _, rfl, ⟨c, rfl, hc⟩, _, _, rfl, ⟨d, rfl, hd⟩, rfl⟩ := hes e he
    exact ⟨⟨a, b, c, d⟩, hx, in_of ha, in_of hb, in_of hc, in_of hd⟩
  exact law_of rfl (f_law45_TextEvents l hl)
theorem laid_met (os : Os) : laidMet Tryd.prog Rows.textEventsRow.laid ((laidWorld os).forCall (fun _ _ => 0) ⟨#[], #[.slice none 0 0], []⟩).memory :=
  laidMet_laidAll (P := Tryd.prog) (os := os) (laid := Rows.textRawRow.laid) _ (by kernel_rfl) (by kernel_rfl)
theorem reads (os : Os) {H : Type} (enc : TypeId × Value → H) : ∃ places, DataW.whole enc Tryd.prog ((laidWorld os).forCall (fun _ _ => 0) ⟨#[], #[.slice none 0 0], []⟩).memory Tryd.f5.params.toList Rows.textEventsSpec.vars false (#[.slice none 0 0] : Array Value).toList 8 = some ([.nil], [], places) :=
  ⟨[], by kernel_rfl⟩
theorem lifted (os : Os) (started : os.Started) (H : Type) (enc : TypeId × Value → H) (F : Stop.Interp) :
    ReturnsInHanded {} Tryd.checked os 5 .any ((OpenSpec.ofChange Rows.textEventsSpec).preRow enc Tryd.prog Tryd.f5 Rows.textEventsRow.domain false Rows.textEventsRow.laid) (((OpenSpec.ofChange Rows.textEventsSpec).at F).post enc Tryd.prog Tryd.f5 false true false false) := by
  obtain ⟨places, hx⟩ := reads os enc
  refine returnsInHanded_of_row (C := Tryd.checked) (s := OpenSpec.ofChange Rows.textEventsSpec) own started (by kernel_rfl) Tryd.func5
    (witness_row_at (enc := enc) (C := Tryd.checked) false (laidWorld os) #[.slice none 0 0] (World.laidAll_os _ _ _) (by kernel_rfl) (by kernel_rfl) (by kernel_rfl)
      (OpenSpec.preRow_of_cond 8 hx (by kernel_rfl) (fun k hk => by cases hk) (by kernel_rfl) (laid_met os))) ?_
  intro W base args ds gs before hval hW _ _ _ hL hS _
  have hgs : gs = [] := by
    obtain ⟨p, q, _, hV, _⟩ := hW
    cases gs with
    | nil => rfl
    | cons _ _ => simp [DataW.TrodVars, Rows.textEventsSpec, OpenSpec.ofChange] at hV
  subst hgs
  exact contract callOk lawOk (s := Rows.textEventsSpec) rfl (fun H ds hl => by
    match ds, hl with
    | [a], _ => rfl) H Rows.uptoBulk (bulk_ok H) enc W base args ds [] before hval hW (globO hL hS) (fun vs ha _ => lawAt vs ha)
theorem said : Rows.TextEventsSaid :=
  OpenClaim.holds_of_cond 5 Tryd.f5 rfl rfl rfl rfl rfl rfl rfl ⟨rfl, rfl, rfl, rfl, rfl⟩ rfl rfl rfl rfl rfl (by kernel_rfl) Tryd.func5 (by kernel_rfl)
    (of_decide_eq_true (by kernel_rfl)) (by unfold Func.isWrapper; first | (rw [if_pos (by decide +kernel)]; kernel_rfl) | (rw [if_neg (by decide +kernel)]; exact ⟨rfl, rfl⟩))
    (fun os started H enc _ F => by rw [OpenClaim.pre_eq_preRow]; exact lifted os started H enc F)
theorem plain (f : FuncId) (fn : Func) (hf : Tryd.pinned.checked.prog.funcNamed "redundancy/redundancylaw45.TextEvents" = some f) (hfn : Tryd.pinned.checked.prog.funcs[f]? = some fn) :
    true = Tryd.pinned.checked.prog.looks [] ∧ ∀ (j : Nat) t, fn.params[j]? = some t → Tryd.pinned.checked.prog.wantsStandIn t = false := by
  obtain rfl : f = 5 := Option.some.inj ((show Tryd.prog.funcNamed "redundancy/redundancylaw45.TextEvents" = some 5 by kernel_rfl).symm.trans hf) |>.symm
  obtain rfl : fn = Tryd.f5 := (Option.some.inj (Tryd.func5.symm.trans hfn)).symm
  refine ⟨by kernel_rfl, fun j t ht => ?_⟩
  rw [Tryd.params5] at ht
  have hm : t ∈ ([53] : List Nat) := by simpa using Array.mem_of_getElem? ht
  have hall : (([53] : List Nat).all fun u => !Tryd.prog.wantsStandIn u) = true := by kernel_rfl
  exact (show Tryd.prog.wantsStandIn t = false by simpa using List.all_eq_true.1 hall t hm)
end events
theorem textEvents : Rows.TextEventsCardSaid :=
  Claim7.holds_tied_plain_at .later [] _ _ _ _ events.said (fun _ h => by cases h) (by kernel_rfl) (fun _ h => by cases h) textEvents_row_tie rfl ⟨rfl, rfl⟩ (by kernel_rfl) rfl events.plain (by kernel_rfl)
#print axioms textEvents
end Go.Proofs.YtcfmnogghcjdaaaDoor
