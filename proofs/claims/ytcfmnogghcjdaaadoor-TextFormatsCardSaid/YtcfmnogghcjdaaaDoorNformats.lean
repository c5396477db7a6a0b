/- TextFormats: whatever the scenario, the law answers true and its input reads as before. -/
import Derived.Test.YtcfmnogghcjdaaaDoorM15
set_option linter.all false
set_option maxRecDepth 100000
set_option maxHeartbeats 20000000
namespace Go.Proofs.YtcfmnogghcjdaaaDoor
open Go hiding Event
open Go.Abs Go.Abs.Api
namespace formats
def pars : List (Bool × List CS) := [(true, [.sl true [.int .i64, .int .i64, .int .i64, .int .i64, .int .i64], .sl false [.int .i64], .sl false [.sl false [.int .u16]], .sl false [.int .i64], .sl false [.int .u16], .sl false [.int .u16], .sl false [.sl false [.int .u16]], .sl false [.sl true [.int .u8, .int .u16, .int .i64, .int .i64]], .sl true [.int .i64, .int .i64, .bool], .sl true [.int .i64, .int .i64, .sl true [.int .u8, .int .u16, .int .i64, .int .i64]], .int .i64, .int .i64, .int .i64, .int .i64, .int .i64, .int .i64]), (true, [.sl true [.int .i64, .int .i64, .int .i64, .int .i64, .int .i64, .int .i64], .sl true [.int .i64, .int .i64, .int .i64], .sl true [.int .i64, .bool]]), (false, [.sl true [.int .i64, .int .i64, .bool]])]
theorem read : Tryd.f4.params.toList.all (readB X.P) = true := by kernel_rfl
theorem parsO : parsOf X.P Tryd.f4.params.toList = some pars := by kernel_rfl
theorem lawOk : LawOk X.P Tryd.f4 pars 4 := ⟨laidO, read, parsO, rfl, rfl⟩
theorem lawAt (vs : List V) (h : okArgs pars vs) : ∃ h k, callL X 4 vs noheap 0 = some (.bool true, h, k) := by
  simp only [pars, okArgs, okL, okC] at h
  obtain ⟨_, _, rfl, ⟨_, _, rfl, ⟨e1, rfl, _, k1⟩, _, _, rfl, ⟨e2, rfl, _, k2⟩, _, _, rfl, ⟨e3, rfl, _, k3⟩, _, _, rfl, ⟨e4, rfl, _, k4⟩, _, _, rfl, ⟨e5, rfl, _, k5⟩, _, _, rfl, ⟨e6, rfl, _, k6⟩, _, _, rfl, ⟨e7, rfl, _, k7⟩, _, _, rfl, ⟨e8, rfl, _, k8⟩, _, _, rfl, ⟨e9, rfl, _, k9⟩, _, _, rfl, ⟨e10, rfl, _, k10⟩, _, _, rfl, ⟨n1, rfl, h1⟩, _, _, rfl, ⟨n2, rfl, h2⟩, _, _, rfl, ⟨n3, rfl, h3⟩, _, _, rfl, ⟨n4, rfl, h4⟩, _, _, rfl, ⟨n5, rfl, h5⟩, _, _, rfl, ⟨n6, rfl, h6⟩, rfl⟩, _, _, rfl, ⟨_, _, rfl, ⟨t1, rfl, _, m1⟩, _, _, rfl, ⟨t2, rfl, _, m2⟩, _, _, rfl, ⟨t3, rfl, _, m3⟩, rfl⟩, _, _, rfl, ⟨_, _, rfl, ⟨l1, rfl, _, m4⟩, rfl⟩, rfl⟩ := h
  obtain ⟨c1, rfl, _⟩ := dec_map (enc := Instr.enc) (p := fun _ => True) (es := e1) fun e he => by
    obtain ⟨xs, hx, _, _, rfl, ⟨a, rfl, ha⟩, _, _, rfl, ⟨b, rfl, hb⟩, _, _, rfl, ⟨c, rfl, hc⟩, _, _, rfl, ⟨d, rfl, hd⟩, _, _, rfl, ⟨f, rfl, hf⟩, rfl⟩ := k1 e he
    exact ⟨⟨a, b, c, d, f⟩, hx, trivial⟩
  obtain ⟨c2, rfl, _⟩ := dec_map (enc := V.int .i64) (p := fun _ => True) (es := e2) fun e he => by
    obtain ⟨xs, hx, _, _, rfl, ⟨a, rfl, ha⟩, rfl⟩ := k2 e he
    exact ⟨a, hx, trivial⟩
  obtain ⟨c3, rfl, _⟩ := dec_map (enc := encLU16) (p := fun _ => True) (es := e3) fun e he => by
    obtain ⟨xs, hx, _, _, rfl, ⟨es, rfl, _, hes⟩, rfl⟩ := k3 e he
    obtain ⟨l, rfl, _⟩ := dec_map (enc := V.int .u16) (p := fun _ => True) (es := es) fun e he => by
      obtain ⟨xs, hx, _, _, rfl, ⟨a, rfl, ha⟩, rfl⟩ := hes e he
      exact ⟨a, hx, trivial⟩
    exact ⟨l, hx, trivial⟩
  obtain ⟨c4, rfl, p4⟩ := dec_map (enc := V.int .i64) (p := inI) (es := e4) fun e he => by
    obtain ⟨xs, hx, _, _, rfl, ⟨a, rfl, ha⟩, rfl⟩ := k4 e he
    exact ⟨a, hx, in_of ha⟩
  obtain ⟨c5, rfl, _⟩ := dec_map (enc := V.int .u16) (p := fun _ => True) (es := e5) fun e he => by
    obtain ⟨xs, hx, _, _, rfl, ⟨a, rfl, ha⟩, rfl⟩ := k5 e he
    exact ⟨a, hx, trivial⟩
  obtain ⟨c6, rfl, _⟩ := dec_map (enc := V.int .u16) (p := fun _ => True) (es := e6) fun e he => by
    obtain ⟨xs, hx, _, _, rfl, ⟨a, rfl, ha⟩, rfl⟩ := k6 e he
    exact ⟨a, hx, trivial⟩
  obtain ⟨c7, rfl, _⟩ := dec_map (enc := encLU16) (p := fun _ => True) (es := e7) fun e he => by
    obtain ⟨xs, hx, _, _, rfl, ⟨es, rfl, _, hes⟩, rfl⟩ := k7 e he
    obtain ⟨l, rfl, _⟩ := dec_map (enc := V.int .u16) (p := fun _ => True) (es := es) fun e he => by
      obtain ⟨xs, hx, _, _, rfl, ⟨a, rfl, ha⟩, rfl⟩ := hes e he
      exact ⟨a, hx, trivial⟩
    exact ⟨l, hx, trivial⟩
  obtain ⟨c8, rfl, _⟩ := dec_map (enc := encLCanon) (p := fun _ => True) (es := e8) fun e he => by
    obtain ⟨xs, hx, _, _, rfl, ⟨es, rfl, _, hes⟩, rfl⟩ := k8 e he
    obtain ⟨l, rfl, _⟩ := dec_map (enc := Canon.enc) (p := fun _ => True) (es := es) fun e he => by
      obtain ⟨xs, hx, _, _, rfl, ⟨a, rfl, ha⟩, _, _, rfl, ⟨b, rfl, hb⟩, _, _, rfl, ⟨c, rfl, hc⟩, _, _, rfl, ⟨d, rfl, hd⟩, rfl⟩ := hes e he
      exact ⟨⟨a, b, c, d⟩, hx, trivial⟩
    exact ⟨l, hx, trivial⟩
  obtain ⟨c9, rfl, _⟩ := dec_map (enc := Opn.enc) (p := fun _ => True) (es := e9) fun e he => by
    obtain ⟨xs, hx, _, _, rfl, ⟨a, rfl, ha⟩, _, _, rfl, ⟨b, rfl, hb⟩, _, _, rfl, ⟨g, rfl⟩, rfl⟩ := k9 e he
    exact ⟨⟨a, b, g⟩, hx, trivial⟩
  obtain ⟨c10, rfl, _⟩ := dec_map (enc := Output.enc) (p := fun _ => True) (es := e10) fun e he => by
    obtain ⟨xs, hx, _, _, rfl, ⟨a, rfl, ha⟩, _, _, rfl, ⟨b, rfl, hb⟩, _, _, rfl, ⟨es, rfl, _, hes⟩, rfl⟩ := k10 e he
    obtain ⟨l, rfl, _⟩ := dec_map (enc := Canon.enc) (p := fun _ => True) (es := es) fun e he => by
      obtain ⟨xs, hx, _, _, rfl, ⟨a, rfl, ha⟩, _, _, rfl, ⟨b, rfl, hb⟩, _, _, rfl, ⟨c, rfl, hc⟩, _, _, rfl, ⟨d, rfl, hd⟩, rfl⟩ := hes e he
      exact ⟨⟨a, b, c, d⟩, hx, trivial⟩
    exact ⟨⟨a, b, l⟩, hx, trivial⟩
  obtain ⟨f1, rfl, q1⟩ := dec_map (enc := Fault.enc) (p := fun x => ∀ n ∈ faultN x, inI n) (es := t1) fun e he => by
    obtain ⟨xs, hx, _, _, rfl, ⟨a, rfl, ha⟩, _, _, rfl, ⟨b, rfl, hb⟩, _, _, rfl, ⟨c, rfl, hc⟩, _, _, rfl, ⟨d, rfl, hd⟩, _, _, rfl, ⟨f, rfl, hf⟩, _, _, rfl, ⟨i, rfl, hi⟩, rfl⟩ := m1 e he
    refine ⟨⟨a, b, c, d, f, i⟩, hx, fun n hn => ?_⟩
    simp only [faultN, List.mem_cons, List.mem_nil_iff, or_false] at hn
    rcases hn with rfl | rfl | rfl | rfl | rfl | rfl <;> exact in_of (by assumption)
  obtain ⟨f2, rfl, q2⟩ := dec_map (enc := Hang.enc) (p := fun x => ∀ n ∈ hangN x, inI n) (es := t2) fun e he => by
    obtain ⟨xs, hx, _, _, rfl, ⟨a, rfl, ha⟩, _, _, rfl, ⟨b, rfl, hb⟩, _, _, rfl, ⟨c, rfl, hc⟩, rfl⟩ := m2 e he
    refine ⟨⟨a, b, c⟩, hx, fun n hn => ?_⟩
    simp only [hangN, List.mem_cons, List.mem_nil_iff, or_false] at hn
    rcases hn with rfl | rfl | rfl <;> exact in_of (by assumption)
  have hb2i : ∀ b, inI (b2i b) := fun b => by cases b <;> simp [b2i, inI]
  obtain ⟨f3, rfl, q3⟩ := dec_map (enc := Crash.enc) (p := fun x => ∀ n ∈ crashN x, inI n) (es := t3) fun e he => by
    obtain ⟨xs, hx, _, _, rfl, ⟨a, rfl, ha⟩, _, _, rfl, ⟨g, rfl⟩, rfl⟩ := m3 e he
    refine ⟨⟨a, g⟩, hx, fun n hn => ?_⟩
    simp only [crashN, List.mem_cons, List.mem_nil_iff, or_false] at hn
    rcases hn with rfl | rfl
    · exact in_of ha
    · exact hb2i _
  obtain ⟨l, rfl, q4⟩ := dec_map (enc := Choice.enc) (p := fun x => ∀ n ∈ choiceN x, inI n) (es := l1) fun e he => by
    obtain ⟨xs, hx, _, _, rfl, ⟨a, rfl, ha⟩, _, _, rfl, ⟨b, rfl, hb⟩, _, _, rfl, ⟨g, rfl⟩, rfl⟩ := m4 e he
    refine ⟨⟨a, b, g⟩, hx, fun n hn => ?_⟩
    simp only [choiceN, List.mem_cons, List.mem_nil_iff, or_false] at hn
    rcases hn with rfl | rfl | rfl
    · exact in_of ha
    · exact in_of hb
    · exact hb2i _
  refine law_of rfl (f_law45_TextFormats c1 c2 c3 c4 c5 c6 c7 c8 c9 c10 n1 n2 n3 n4 n5 n6 f1 f2 f3 l fun r hr => ?_)
  simp only [rowsM, List.mem_append, List.mem_cons, List.mem_map, List.mem_nil_iff, or_false] at hr
  rcases hr with ((((rfl | rfl) | ⟨x, hx, rfl⟩) | ⟨x, hx, rfl⟩) | ⟨x, hx, rfl⟩) | ⟨x, hx, rfl⟩
  · intro n hn
    simp only [setupN, List.mem_cons, List.mem_nil_iff, or_false] at hn
    rcases hn with rfl | rfl | rfl | rfl | rfl | rfl <;> exact in_of (by assumption)
  · exact p4
  · exact q1 x hx
  · exact q2 x hx
  · exact q3 x hx
  · exact q4 x hx
theorem laid_met (os : Os) : laidMet Tryd.prog Rows.textFormatsRow.laid ((laidWorld os).forCall (fun _ _ => 0) ⟨#[], #[.agg #[.slice none 0 0, .slice none 0 0, .slice none 0 0, .slice none 0 0, .slice none 0 0, .slice none 0 0, .slice none 0 0, .slice none 0 0, .slice none 0 0, .slice none 0 0, .int .i64 0, .int .i64 0, .int .i64 0, .int .i64 0, .int .i64 0, .int .i64 0], .agg #[.slice none 0 0, .slice none 0 0, .slice none 0 0], .slice none 0 0], []⟩).memory :=
  laidMet_laidAll (P := Tryd.prog) (os := os) (laid := Rows.textRawRow.laid) _ (by kernel_rfl) (by kernel_rfl)
theorem reads (os : Os) {H : Type} (enc : TypeId × Value → H) : ∃ places, DataW.whole enc Tryd.prog ((laidWorld os).forCall (fun _ _ => 0) ⟨#[], #[.agg #[.slice none 0 0, .slice none 0 0, .slice none 0 0, .slice none 0 0, .slice none 0 0, .slice none 0 0, .slice none 0 0, .slice none 0 0, .slice none 0 0, .slice none 0 0, .int .i64 0, .int .i64 0, .int .i64 0, .int .i64 0, .int .i64 0, .int .i64 0], .agg #[.slice none 0 0, .slice none 0 0, .slice none 0 0], .slice none 0 0], []⟩).memory Tryd.f4.params.toList Rows.textFormatsSpec.vars false (#[.agg #[.slice none 0 0, .slice none 0 0, .slice none 0 0, .slice none 0 0, .slice none 0 0, .slice none 0 0, .slice none 0 0, .slice none 0 0, .slice none 0 0, .slice none 0 0, .int .i64 0, .int .i64 0, .int .i64 0, .int .i64 0, .int .i64 0, .int .i64 0], .agg #[.slice none 0 0, .slice none 0 0, .slice none 0 0], .slice none 0 0] : Array Value).toList 8 = some ([.agg [.agg [.nil, .nil, .nil], .nil, .agg [.nil, .nil, .nil, .agg [.nil, .nil], .nil], .lit (.int .i64 0), .lit (.int .i64 0), .lit (.int .i64 0), .lit (.int .i64 0), .lit (.int .i64 0), .lit (.int .i64 0)], .agg [.nil, .nil, .nil], .nil], [], places) :=
  ⟨[], by kernel_rfl⟩
theorem lifted (os : Os) (started : os.Started) (H : Type) (enc : TypeId × Value → H) (F : Stop.Interp) :
    ReturnsInHanded {} Tryd.checked os 4 .any ((OpenSpec.ofChange Rows.textFormatsSpec).preRow enc Tryd.prog Tryd.f4 Rows.textFormatsRow.domain false Rows.textFormatsRow.laid) (((OpenSpec.ofChange Rows.textFormatsSpec).at F).post enc Tryd.prog Tryd.f4 false true false false) := by
  obtain ⟨places, hx⟩ := reads os enc
  refine returnsInHanded_of_row (C := Tryd.checked) (s := OpenSpec.ofChange Rows.textFormatsSpec) own started (by kernel_rfl) Tryd.func4
    (witness_row_at (enc := enc) (C := Tryd.checked) false (laidWorld os) #[.agg #[.slice none 0 0, .slice none 0 0, .slice none 0 0, .slice none 0 0, .slice none 0 0, .slice none 0 0, .slice none 0 0, .slice none 0 0, .slice none 0 0, .slice none 0 0, .int .i64 0, .int .i64 0, .int .i64 0, .int .i64 0, .int .i64 0, .int .i64 0], .agg #[.slice none 0 0, .slice none 0 0, .slice none 0 0], .slice none 0 0] (World.laidAll_os _ _ _) (by kernel_rfl) (by kernel_rfl) (by kernel_rfl)
      (OpenSpec.preRow_of_cond 8 hx (by kernel_rfl) (fun k hk => by cases hk) (by kernel_rfl) (laid_met os))) ?_
  intro W base args ds gs before hval hW _ _ _ hL hS _
  have hgs : gs = [] := by
    obtain ⟨p, q, _, hV, _⟩ := hW
    cases gs with
    | nil => rfl
    | cons _ _ => simp [DataW.TrodVars, Rows.textFormatsSpec, OpenSpec.ofChange] at hV
  subst hgs
  exact contract callOk lawOk (s := Rows.textFormatsSpec) rfl (fun H ds hl => by
    match ds, hl with
    | [a, b, c], _ => rfl) H Rows.uptoBulk (bulk_ok H) enc W base args ds [] before hval hW (globO hL hS) (fun vs ha _ => lawAt vs ha)
theorem said : Rows.TextFormatsSaid :=
  OpenClaim.holds_of_cond 4 Tryd.f4 rfl rfl rfl rfl rfl rfl rfl ⟨rfl, rfl, rfl, rfl, rfl⟩ rfl rfl rfl rfl rfl (by kernel_rfl) Tryd.func4 (by kernel_rfl)
    (of_decide_eq_true (by kernel_rfl)) (by unfold Func.isWrapper; first | (rw [if_pos (by decide +kernel)]; kernel_rfl) | (rw [if_neg (by decide +kernel)]; exact ⟨rfl, rfl⟩))
    (fun os started H enc _ F => by rw [OpenClaim.pre_eq_preRow]; exact lifted os started H enc F)
theorem plain (f : FuncId) (fn : Func) (hf : Tryd.pinned.checked.prog.funcNamed "redundancy/redundancylaw45.TextFormats" = some f) (hfn : Tryd.pinned.checked.prog.funcs[f]? = some fn) :
    true = Tryd.pinned.checked.prog.looks [] ∧ ∀ (j : Nat) t, fn.params[j]? = some t → Tryd.pinned.checked.prog.wantsStandIn t = false := by
  obtain rfl : f = 4 := Option.some.inj ((show Tryd.prog.funcNamed "redundancy/redundancylaw45.TextFormats" = some 4 by kernel_rfl).symm.trans hf) |>.symm
  obtain rfl : fn = Tryd.f4 := (Option.some.inj (Tryd.func4.symm.trans hfn)).symm
  refine ⟨by kernel_rfl, fun j t ht => ?_⟩
  rw [Tryd.params4] at ht
  have hm : t ∈ ([38, 43, 44] : List Nat) := by simpa using Array.mem_of_getElem? ht
  have hall : (([38, 43, 44] : List Nat).all fun u => !Tryd.prog.wantsStandIn u) = true := by kernel_rfl
  exact (show Tryd.prog.wantsStandIn t = false by simpa using List.all_eq_true.1 hall t hm)
end formats
theorem textFormats : Rows.TextFormatsCardSaid :=
  Claim7.holds_tied_plain_at .later [] _ _ _ _ formats.said (fun _ h => by cases h) (by kernel_rfl) (fun _ h => by cases h) textFormats_row_tie rfl ⟨rfl, rfl⟩ (by kernel_rfl) rfl formats.plain (by kernel_rfl)
#print axioms textFormats
end Go.Proofs.YtcfmnogghcjdaaaDoor
