/- TextNear: whatever the numbers, the law answers true and its input reads as before. -/
import Derived.Test.YtcfmnogghcjdaaaGreatDoorV21
set_option linter.all false
set_option maxRecDepth 100000
set_option maxHeartbeats 20000000
namespace Go.Proofs.YtcfmnogghcjdaaaGreatDoor
open Go hiding Event
open Go.Abs Go.Abs.Api
namespace near
def pars : List (Bool × List CS) := [(false, [.sl false [.int .i64]]), (false, [.int .i64]), (false, [.int .i64]), (false, [.int .u8]), (false, [.int .u8])]
theorem read : Tryz.f3.params.toList.all (readB X.P) = true := by kernel_rfl
theorem parsO : parsOf X.P Tryz.f3.params.toList = some pars := by kernel_rfl
theorem lawOk : LawOk X.P Tryz.f3 pars 4 := ⟨laidO, read, parsO, rfl, rfl⟩
theorem lawAt (vs : List V) (h : okArgs pars vs) : ∃ h k, callL X 3 vs noheap 0 = some (.bool true, h, k) := by
  simp only [pars, okArgs, okL, okC] at h
  obtain ⟨_, _, rfl, ⟨_, _, rfl, ⟨es, rfl, hlen, hes⟩, rfl⟩, _, _, rfl, ⟨_, _, rfl, ⟨a1, rfl, h1⟩, rfl⟩, _, _, rfl, ⟨_, _, rfl, ⟨a2, rfl, h2⟩, rfl⟩, _, _, rfl, ⟨_, _, rfl, ⟨a3, rfl, h3⟩, rfl⟩, _, _, rfl, ⟨_, _, rfl, ⟨a4, rfl, h4⟩, rfl⟩, rfl⟩ := h
  obtain ⟨l, rfl, _⟩ := dec_map (enc := V.int .i64) (p := fun _ => True) (es := es) fun e he => by
    obtain ⟨xs, hx, _, _, rfl, ⟨a, rfl, ha⟩, rfl⟩ := hes e he
    exact ⟨a, hx, trivial⟩
  exact law_of rfl (f_law45_TextNear l a1 a2 a3 a4)
theorem laid_met (os : Os) : laidMet Tryz.prog Rows.textNearRow.laid ((laidWorld os).forCall (fun _ _ => 0) ⟨#[], #[.slice none 0 0, .int .i64 0, .int .i64 0, .int .u8 0, .int .u8 0], []⟩).memory :=
  laidMet_laidAll (P := Tryz.prog) (os := os) (laid := Rows.textNearRow.laid) _ (by kernel_rfl) (by kernel_rfl)
theorem reads (os : Os) {H : Type} (enc : TypeId × Value → H) : ∃ places, DataW.whole enc Tryz.prog ((laidWorld os).forCall (fun _ _ => 0) ⟨#[], #[.slice none 0 0, .int .i64 0, .int .i64 0, .int .u8 0, .int .u8 0], []⟩).memory Tryz.f3.params.toList Rows.textNearSpec.vars false (#[.slice none 0 0, .int .i64 0, .int .i64 0, .int .u8 0, .int .u8 0] : Array Value).toList 8 = some ([.nil, .lit (.int .i64 0), .lit (.int .i64 0), .lit (.int .u8 0), .lit (.int .u8 0)], [], places) :=
  ⟨[], by kernel_rfl⟩
theorem lifted (os : Os) (started : os.Started) (H : Type) (enc : TypeId × Value → H) (F : Stop.Interp) :
    ReturnsInHanded {} Tryz.checked os 3 .any ((OpenSpec.ofChange Rows.textNearSpec).preRow enc Tryz.prog Tryz.f3 Rows.textNearRow.domain false Rows.textNearRow.laid) (((OpenSpec.ofChange Rows.textNearSpec).at F).post enc Tryz.prog Tryz.f3 false true false false) := by
  obtain ⟨places, hx⟩ := reads os enc
  refine returnsInHanded_of_row (C := Tryz.checked) (s := OpenSpec.ofChange Rows.textNearSpec) own started (by kernel_rfl) Tryz.func3
    (witness_row_at (enc := enc) (C := Tryz.checked) false (laidWorld os) #[.slice none 0 0, .int .i64 0, .int .i64 0, .int .u8 0, .int .u8 0] (World.laidAll_os _ _ _) (by kernel_rfl) (by kernel_rfl) (by kernel_rfl)
      (OpenSpec.preRow_of_cond 8 hx (by kernel_rfl) (fun k hk => by cases hk) (by kernel_rfl) (laid_met os))) ?_
  intro W base args ds gs before hval hW _ _ _ hL hS _
  have hgs : gs = [] := by
    obtain ⟨p, q, _, hV, _⟩ := hW
    cases gs with
    | nil => rfl
    | cons _ _ => simp [DataW.TrodVars, Rows.textNearSpec, OpenSpec.ofChange] at hV
  subst hgs
  exact contract callOk lawOk (s := Rows.textNearSpec) rfl (fun H ds hl => by
    match ds, hl with
    | [a, b, c, d, e], _ => rfl) H Rows.uptoBulk (bulk_ok H) enc W base args ds [] before hval hW (globO hL hS) (fun vs ha _ => lawAt vs ha)
theorem said : Rows.TextNearSaid :=
  OpenClaim.holds_of_cond 3 Tryz.f3 rfl rfl rfl rfl rfl rfl rfl ⟨rfl, rfl, rfl, rfl, rfl⟩ rfl rfl rfl rfl rfl (by kernel_rfl) Tryz.func3 (by kernel_rfl)
    (of_decide_eq_true (by kernel_rfl)) (by unfold Func.isWrapper; first | (rw [if_pos (by decide +kernel)]; kernel_rfl) | (rw [if_neg (by decide +kernel)]; exact ⟨rfl, rfl⟩))
    (fun os started H enc _ F => by rw [OpenClaim.pre_eq_preRow]; exact lifted os started H enc F)
theorem plain (f : FuncId) (fn : Func) (hf : Tryz.pinned.checked.prog.funcNamed "redundancy/redundancylaw45.TextNear" = some f) (hfn : Tryz.pinned.checked.prog.funcs[f]? = some fn) :
    true = Tryz.pinned.checked.prog.looks [] ∧ ∀ (j : Nat) t, fn.params[j]? = some t → Tryz.pinned.checked.prog.wantsStandIn t = false := by
  obtain rfl : f = 3 := Option.some.inj ((show Tryz.prog.funcNamed "redundancy/redundancylaw45.TextNear" = some 3 by kernel_rfl).symm.trans hf) |>.symm
  obtain rfl : fn = Tryz.f3 := (Option.some.inj (Tryz.func3.symm.trans hfn)).symm
  refine ⟨by kernel_rfl, fun j t ht => ?_⟩
  rw [Tryz.params3] at ht
  have hm : t ∈ ([22, 3, 3, 5, 5] : List Nat) := by simpa using Array.mem_of_getElem? ht
  have hall : (([22, 3, 3, 5, 5] : List Nat).all fun u => !Tryz.prog.wantsStandIn u) = true := by kernel_rfl
  exact (show Tryz.prog.wantsStandIn t = false by simpa using List.all_eq_true.1 hall t hm)
end near
theorem textNear : Rows.TextNearCardSaid :=
  Claim7.holds_tied_plain_at .later [] _ _ _ _ near.said (fun _ h => by cases h) (by kernel_rfl) (fun _ h => by cases h) textNear_row_tie rfl ⟨rfl, rfl⟩ (by kernel_rfl) rfl near.plain (by kernel_rfl)
#print axioms textNear
end Go.Proofs.YtcfmnogghcjdaaaGreatDoor
