/- Part of a proof: A18, A19. -/
import Derived.Test.YtcfmnogghcjdaaaGreatDoorV02
set_option linter.all false
set_option maxRecDepth 100000
set_option maxHeartbeats 20000000
namespace Go.Abs
open Go
section
variable {X : Env} {o : Oper} {a : Act} {w : World} {I : Nat → Prop} {σ : Sig} {S S1 : St}
theorem tB_ok {t : TypeId} (h : tB X t = true) : TIOk X.P t (X.ti t) := tiOk h
theorem sim_slice_arr {t : TypeId} {x : Operand} (ho : o.op = .slice t x none none none) (R : Rel w I σ S.h) (F : FRel w I σ S.f a) (hx : Opds o)
    {m : Nat} (hu : X.P.underlying t = some (.array m (X.ti t).elem)) (T : TIOk X.P (X.ti t).elem (X.ti (X.ti t).elem)) {id : Nat} {ob : Ob} {e : V} (he : S.ev x = .ptr id 0 0) (hob : S.h id = some ob) (hes : ob.es = [e])
    (himm : e.cells.all V.imm0 = true) (hlen : e.cells.length = m) (hsz : (X.ti (X.ti t).elem).size = 1) (hm : 0 < m) (hm2 : m ≤ 1000) (hs : S1 = ({ S with h := upd S.h id none } : St).set o.dst (.sl true e.cells)) : Out X o a w I σ S S1 := by
  have h1 : Rep w I σ (S.ev x) (a.eval x) := ev_rep (S := S) F (hx x (by simp [ho, Op.operands]))
  rw [he] at h1
  simp only [Rep] at h1
  obtain ⟨b, of, k, hsg, hv⟩ := h1
  rcases R.obj id ob hob with ⟨hn, _⟩ | ⟨b', o', c, el, hs', hi, hh, hle, hr⟩
  · rw [hes] at hn; cases hn
  rw [hs'] at hsg
  simp only [Option.some.injEq, Prod.mk.injEq] at hsg
  obtain ⟨rfl, rfl, rfl⟩ := hsg
  rw [hes, RepRow_cons] at hr
  obtain ⟨hk, hc, _⟩ := hr
  have hsub : ∀ i y, upd S.h id none i = some y → S.h i = some y := fun i y hi => by
    unfold upd at hi; split at hi; · cases hi
    · exact hi
  have st := gone_step R hsub S.n
  have hgone : Gone I σ S.h (upd S.h id none) b' := .inr ⟨⟨id, ob, o', ob.k, hob, hs'⟩, R.notOwn hob hs'⟩
  subst hs
  have hrun : (execOp a.eval o).run X.P w = .ok (.value (.slice (some ⟨b', o', none⟩) m m)) w := by
    simp [execOp, ho, hv, Instr.sliceAt, run_underlying hu, Instr.sliceBounds, Instr.sureAddr, run_sizeOf T, if_neg (show ¬ m = 0 by omega), hsz, add_at]
  refine ⟨_, w, Gone I σ S.h (upd S.h id none), σ, _, .sl true e.cells, hrun, .inl rfl, ?_, set_f _ _ _ _ rfl, ?_⟩
  · rw [set_h, set_n]; exact st
  · simp only [Rep]
    refine ⟨_, _, by rw [hlen], by omega, by simp only [maxLen]; omega, fun _ => hlen.symm, .inr ⟨b', o', 1, rfl, hgone, ?_⟩⟩
    rw [RepRow_iff]
    intro i v hi
    have hv0 : v.imm0 = true := List.all_eq_true.1 himm v (List.mem_of_getElem? hi)
    have hcl : v.cells = [v] := by
      cases v <;> first | rfl | (simp [V.imm0] at hv0)
    refine ⟨by rw [hcl]; rfl, ?_⟩
    rw [hcl]
    intro j y hj
    cases j with
    | succ j => simp at hj
    | zero =>
      simp only [List.getElem?_cons_zero, Option.some.injEq] at hj
      subst hj
      obtain ⟨u, g1, g2, g3⟩ := hc i v hi
      refine ⟨u, by simpa using g1, g2, ?_⟩
      have g4 : Rep w I nosig v u := imm0_rep (σ := osig ob.keep σ) hv0 g3
      exact g4.ext st.ext.noid
theorem sim_op {nt : Nat} (hB : opB X nt o = true) (R : Rel w I σ S.h) (F : FRel w I σ S.f a) (hn : S.h S.n = none) (hsn : σ S.n = none) (fid : FuncId) (he : evOp X fid o S = some S1) : Out X o a w I σ S S1 := by
  unfold evOp at he
  split at he
  case h_2 => cases he
  rename_i v0 hh0 nn0 hc0
  have hs1 : S1 = ({ S with h := hh0, n := nn0 } : St).set o.dst v0 := by simpa using he.symm
  clear he
  have he := hc0
  unfold opB at hB
  rw [Bool.and_eq_true, Bool.and_eq_true] at hB
  obtain ⟨⟨_, hx⟩, hB⟩ := hB
  have hx : Opds o := fun x hm => List.all_eq_true.1 hx x hm
  cases hop : o.op with
  | move x =>
    simp only [evCore, hop, Option.some.injEq, Prod.mk.injEq] at he
    obtain ⟨rfl, rfl, rfl⟩ := he
    exact sim_move (.inl hop) R F hx hs1
  | assign x =>
    simp only [evCore, hop, Option.some.injEq, Prod.mk.injEq] at he
    obtain ⟨rfl, rfl, rfl⟩ := he
    exact sim_move (.inr hop) R F hx hs1
  | pick c p q =>
    simp only [evCore, hop] at he
    split at he
    · rename_i t hc
      simp only [Option.some.injEq, Prod.mk.injEq] at he
      obtain ⟨rfl, rfl, rfl⟩ := he
      exact sim_pick hop R F hx hc hs1
    · cases he
  | alloc t =>
    simp only [evCore, hop, Option.some.injEq, Prod.mk.injEq] at he
    obtain ⟨rfl, rfl, rfl⟩ := he
    simp only [hop] at hB
    exact sim_alloc hop (tB_ok hB) R hn hsn hs1
  | box t x =>
    simp only [evCore, hop] at he
    split at he
    · rename_i hf
      simp only [Option.some.injEq, Prod.mk.injEq] at he
      obtain ⟨rfl, rfl, rfl⟩ := he
      exact sim_box hop R F hx hn hsn hf hs1
    · cases he
  | build t ps =>
    simp only [evCore, hop] at he
    simp only [hop, Bool.and_eq_true, Bool.or_eq_true, beq_iff_eq] at hB
    have T := tB_ok hB.1
    have hTe : (X.ti t).arr = none ∨ TIOk X.P (X.ti t).elem (X.ti (X.ti t).elem) := hB.2.imp_right tB_ok
    split at he
    · rename_i ha
      split at he
      · cases he
      · rename_i hf0
        split at he
        · rename_i cs hf
          simp only [Option.some.injEq, Prod.mk.injEq] at he
          obtain ⟨rfl, rfl, rfl⟩ := he
          exact sim_build hop T hTe R F hx (.inl ⟨ha, hf, hf0⟩) hs1
        · cases he
    · rename_i m ha
      split at he
      · rename_i cs hf
        simp only [Option.some.injEq, Prod.mk.injEq] at he
        obtain ⟨rfl, rfl, rfl⟩ := he
        exact sim_build hop T hTe R F hx (.inr ⟨m, ha, hf⟩) hs1
      · cases he
  | buildSlice t n ps =>
    simp only [evCore, hop] at he
    simp only [hop, Bool.and_eq_true, decide_eq_true_eq] at hB
    obtain ⟨⟨h1, h2⟩, h3⟩ := hB
    split at he
    · split at he
      · rename_i es hf
        simp only [Option.some.injEq, Prod.mk.injEq] at he
        obtain ⟨rfl, rfl, rfl⟩ := he
        exact sim_buildSlice_keep hop (sliceB_spec h1) (tB_ok h2) h3 R F hx hn hsn hf hs1
      · cases he
    · split at he
      · split at he
        case h_2 => cases he
        rename_i l h hg
        split at he
        case h_2 => cases he
        rename_i es hf
        simp only [Option.some.injEq, Prod.mk.injEq] at he
        obtain ⟨rfl, rfl, rfl⟩ := he
        exact sim_buildSlice (th := false) hop (sliceB_spec h1) (tB_ok h2) h3 R F hx hn hsn (giveP_none hg) hf (by simpa using hs1)
      split at he
      · rename_i l h hg
        split at he
        · rename_i es hf
          split at he
          · simp only [Option.some.injEq, Prod.mk.injEq] at he
            obtain ⟨rfl, rfl, rfl⟩ := he
            exact sim_buildSlice (th := true) hop (sliceB_spec h1) (tB_ok h2) h3 R F hx hn hsn hg hf (by rw [if_pos rfl]; exact hs1)
          · simp only [Option.some.injEq, Prod.mk.injEq] at he
            obtain ⟨rfl, rfl, rfl⟩ := he
            exact sim_buildSlice (th := false) hop (sliceB_spec h1) (tB_ok h2) h3 R F hx hn hsn hg hf (by simpa using hs1)
        · cases he
      · cases he
  | load t x =>
    simp only [evCore, hop] at he
    simp only [hop] at hB
    split at he
    · rename_i id i f hp
      split at he
      · rename_i ob hob
        split at he
        · rename_i e hi
          split at he
          · rename_i v hv
            simp only [Option.some.injEq, Prod.mk.injEq] at he
            obtain ⟨rfl, rfl, rfl⟩ := he
            exact sim_load_ptr hop (tB_ok hB) R F hx hp hob hi hv hs1
          · cases he
        · cases he
      · cases he
    · rename_i cs hp
      split at he
      · rename_i v hv
        simp only [Option.some.injEq, Prod.mk.injEq] at he
        obtain ⟨rfl, rfl, rfl⟩ := he
        exact sim_load_ref hop (tB_ok hB) R F hx hp hv hs1
      · cases he
    · cases he
  | store t x y =>
    simp only [evCore, hop] at he
    simp only [hop, Bool.and_eq_true, beq_iff_eq] at hB
    split at he
    · rename_i id i f hp
      split at he
      · rename_i ob0 h0
        split at he
        · rename_i v h hg
          split at he
          · rename_i ob hob
            split at he
            · rename_i e hi
              split at he
              · rename_i hf
                simp only [Option.some.injEq, Prod.mk.injEq] at he
                obtain ⟨rfl, rfl, rfl⟩ := he
                exact sim_store hop (tB_ok hB.1) R F hx hp h0 hg hob hi hf hB.2 (by rw [hs1, hB.2]; rfl)
              · cases he
            · cases he
          · cases he
        · cases he
      · cases he
    · cases he
  | nilCheck x =>
    simp only [evCore, hop] at he
    split at he
    · rename_i id i f hp
      simp only [Option.some.injEq, Prod.mk.injEq] at he
      obtain ⟨rfl, rfl, rfl⟩ := he
      exact sim_nilCheck hop R F hx (.inl ⟨id, i, f, hp⟩) (by rw [hp]; exact hs1)
    · rename_i cs hp
      simp only [Option.some.injEq, Prod.mk.injEq] at he
      obtain ⟨rfl, rfl, rfl⟩ := he
      exact sim_nilCheck hop R F hx (.inr (.inl ⟨cs, hp⟩)) (by rw [hp]; exact hs1)
    · rename_i g p q hp
      simp only [Option.some.injEq, Prod.mk.injEq] at he
      obtain ⟨rfl, rfl, rfl⟩ := he
      exact sim_nilCheck hop R F hx (.inr (.inr ⟨g, p, q, hp⟩)) (by rw [hp]; exact hs1)
    · cases he
  | binOp op t x y ty =>
    simp only [evCore, hop] at he
    simp only [hop] at hB
    split at he
    · rename_i v hv
      simp only [Option.some.injEq, Prod.mk.injEq] at he
      obtain ⟨rfl, rfl, rfl⟩ := he
      refine sim_binOp hop (fun h => ?_) R F hx hv hs1
      rcases h with rfl | rfl
      all_goals
        simp only [Bool.and_eq_true] at hB
        refine ⟨hB.1, fun h4 => ?_⟩
        have := hB.2
        simp only [h4] at this
        cases y with
        | const z => exact ⟨z, rfl⟩
        | _ => simp at this
    · cases he
  | unOp op t x =>
    simp only [evCore, hop] at he
    split at he
    · rename_i v hv
      simp only [Option.some.injEq, Prod.mk.injEq] at he
      obtain ⟨rfl, rfl, rfl⟩ := he
      exact sim_unOp hop R F hx hv hs1
    · cases he
  | convert s d x =>
    simp only [evCore, hop] at he
    simp only [hop, Bool.and_eq_true] at hB
    split at he
    · rename_i k k' n hk hv
      simp only [Option.some.injEq, Prod.mk.injEq] at he
      obtain ⟨rfl, rfl, rfl⟩ := he
      exact sim_convert hop (tB_ok hB.1.1.1) hB.1.1.2 R F hx hk hv hs1
    · rename_i v hk hv
      split at he
      case isFalse =>
        obtain ⟨hb1, hb2, s1, hv1, hl, rfl, rfl, rfl⟩ := convB_some he
        have hB3 := hB.2
        have hk0 : (X.ti d).kind = none := by assumption
        simp only [hb1, hb2, hk0, beq_self_eq_true, Bool.not_true, Bool.or_false, Bool.false_or, Option.isSome_none, Bool.and_eq_true] at hB3
        exact sim_tobytes hop hB.1.1.2 (sliceB_spec hB3.1) (tB_ok hB3.2) hb2 R F hx hn hsn hv1 hl hs1
      rename_i hst
      split at he
      case h_2 => cases he
      rename_i es kx hel
      split at he
      case h_2 => cases he
      rename_i bs hbs
      simp only [Option.some.injEq, Prod.mk.injEq] at he
      obtain ⟨rfl, rfl, rfl⟩ := he
      have hB2 := hB.1.2
      simp only [hst.1, Bool.not_true, Bool.false_or, Bool.and_eq_true] at hB2
      have hd : X.P.underlying d = some .string := by
        have := hB2.1
        split at this
        · assumption
        · cases this
      obtain ⟨e, hse, hue⟩ : ∃ e, X.P.underlying s = some (.slice e) ∧ X.P.underlying e = some (.int .u8) := by
        have := hB2.2
        split at this
        · rename_i e h1
          split at this
          · rename_i h2; exact ⟨e, h1, h2⟩
          · cases this
        · cases this
      exact sim_bytes hop hse hue hd R F hx hel hst.2 hbs hs1
    · cases he
  | makeFunc c p q =>
    cases c with
    | func g =>
      simp only [evCore, hop, Option.some.injEq, Prod.mk.injEq] at he
      obtain ⟨rfl, rfl, rfl⟩ := he
      exact sim_makeFunc hop R F hx hs1
    | _ => simp [evCore, hop] at he
  | makeSlice t l c =>
    simp only [evCore, hop] at he
    simp only [hop, Bool.and_eq_true] at hB
    split at he
    · rename_i n m hl hc
      split at he
      · rename_i hb
        simp only [Option.some.injEq, Prod.mk.injEq] at he
        obtain ⟨rfl, rfl, rfl⟩ := he
        exact sim_makeSlice hop (sliceB_spec hB.1) (tB_ok hB.2) R F hx hn hsn hl hc hb hs1
      · cases he
    · cases he
  | slice t x lo hi mx =>
    simp only [evCore, hop] at he
    simp only [hop] at hB
    split at he
    case isFalse => cases he
    rename_i hstr
    split at he
    · 
      rename_i c es hv
      have hns : (X.ti t).isStr = false := by rw [← hstr.1, hv]; rfl
      have hu : X.P.underlying t = some (.slice (X.ti t).elem) ∧ tB X (X.ti t).elem = true := by
        split at hB
        · rename_i e hu
          simp only [Bool.and_eq_true, beq_iff_eq] at hB
          obtain ⟨⟨⟨_, rfl⟩, h3⟩, _⟩ := hB
          exact ⟨hu, h3⟩
        · rw [hns] at hB; simp at hB
        · have := hstr.2; rw [hv] at this; simp only [V.isPtr] at this; simp [← this] at hB; simp_all
        · cases hB
      split at he
      case isFalse => cases he
      rename_i hall
      cases mx with
      | none =>
        simp only at he
        split at he
        · rename_i l h hb
          simp only [Option.some.injEq, Prod.mk.injEq] at he
          obtain ⟨rfl, rfl, rfl⟩ := he
          exact sim_slice_sl hop R F hx hu.1 (tB_ok hu.2) hv hall hb hs1
        · cases he
      | some m =>
        simp only at he
        split at he
        · rename_i k1 p k2 q hm hh
          split at he
          · rename_i hpq
            subst hpq
            split at he
            · rename_i l h hb
              simp only [Option.some.injEq, Prod.mk.injEq] at he
              obtain ⟨rfl, rfl, rfl⟩ := he
              exact sim_slice3_sl hop R F hx hu.1 (tB_ok hu.2) hv hall hm hh hb hs1
            · cases he
          · cases he
        · cases he
    · rename_i id s n hv
      have hns : (X.ti t).isStr = false := by rw [← hstr.1, hv]; rfl
      have hu : X.P.underlying t = some (.slice (X.ti t).elem) ∧ tB X (X.ti t).elem = true := by
        split at hB
        · rename_i e hu
          simp only [Bool.and_eq_true, beq_iff_eq] at hB
          obtain ⟨⟨⟨_, rfl⟩, h3⟩, _⟩ := hB
          exact ⟨hu, h3⟩
        · rw [hns] at hB; simp at hB
        · have := hstr.2; rw [hv] at this; simp only [V.isPtr] at this; simp [← this] at hB; simp_all
        · cases hB
      split at he
      · rename_i ob hob
        split at he
        case isFalse => cases he
        rename_i hk
        split at he
        · rename_i l h hb
          simp only [Option.some.injEq, Prod.mk.injEq] at he
          obtain ⟨rfl, rfl, rfl⟩ := he
          exact sim_slice_hdr hop R F hx hu.1 (tB_ok hu.2) hv hob hk hb hs1
        · cases he
      · rename_i m ob hob
        split at he
        case isFalse => cases he
        rename_i hk
        split at he
        · rename_i k1 p k2 q hm hh
          split at he
          · rename_i hpq
            subst hpq
            split at he
            · rename_i l h hb
              simp only [Option.some.injEq, Prod.mk.injEq] at he
              obtain ⟨rfl, rfl, rfl⟩ := he
              exact sim_slice3_hdr hop R F hx hu.1 (tB_ok hu.2) hv hob hk hm hh hb hs1
            · cases he
          · cases he
        · cases he
      · cases he
    · rename_i s hv
      have hns : (X.ti t).isStr = true := by rw [← hstr.1, hv]; rfl
      have hu : X.P.underlying t = some .string := by
        split at hB
        · rename_i e hu
          rw [hns] at hB; simp at hB
        · rename_i hu; exact hu
        · rw [hns] at hB; simp at hB
        · cases hB
      cases mx with
      | none =>
        simp only at he
        split at he
        · rename_i l h hb
          simp only [Option.some.injEq, Prod.mk.injEq] at he
          obtain ⟨rfl, rfl, rfl⟩ := he
          exact sim_slice_str hop R F hx hu hv hb hs1
        · cases he
      | some m => cases he
    · rename_i id hv
      split at he
      case h_2 => cases he
      rename_i m ob ham hob
      split at he
      case h_2 => cases he
      rename_i e hes
      split at he
      case isFalse => cases he
      rename_i hc
      simp only [Option.some.injEq, Prod.mk.injEq] at he
      obtain ⟨rfl, rfl, rfl⟩ := he
      have hns : (X.ti t).isStr = false := by rw [← hstr.1, hv]; rfl
      have hu : X.P.underlying t = some (.array m (X.ti t).elem) ∧ tB X (X.ti t).elem = true ∧ m ≤ 1000 := by
        split at hB
        · simp only [Bool.and_eq_true, beq_iff_eq] at hB; rw [ham] at hB; simp at hB
        · rw [hns] at hB; simp at hB
        · rename_i n e' hu
          simp only [Bool.and_eq_true, beq_iff_eq, decide_eq_true_eq] at hB
          obtain ⟨⟨⟨⟨_, h2⟩, h3⟩, h4⟩, h5⟩ := hB
          rw [ham] at h2
          simp only [Option.some.injEq] at h2
          subst h2; subst h3
          exact ⟨hu, h4, h5⟩
        · cases hB
      exact sim_slice_arr hop R F hx hu.1 (tB_ok hu.2.1) hv hob hes hc.1 hc.2.1 hc.2.2.1 hc.2.2.2 hu.2.2 hs1
    · cases he
  | fieldAddr t x i =>
    simp only [evCore, hop] at he
    simp only [hop] at hB
    split at he
    · rename_i off k hf
      split at he
      · rename_i id j f hv
        simp only [Option.some.injEq, Prod.mk.injEq] at he
        obtain ⟨rfl, rfl, rfl⟩ := he
        exact sim_fieldAddr hop (tB_ok hB) R F hx hf (.inl ⟨id, j, f, hv, rfl⟩) hs1
      · rename_i cs hv
        simp only [Option.some.injEq, Prod.mk.injEq] at he
        obtain ⟨rfl, rfl, rfl⟩ := he
        exact sim_fieldAddr hop (tB_ok hB) R F hx hf (.inr ⟨cs, hv, rfl⟩) hs1
      · cases he
    · cases he
  | indexAddr t x ix =>
    simp only [evCore, hop] at he
    simp only [hop, Bool.and_eq_true, Bool.or_eq_true, beq_iff_eq, bne_iff_ne] at hB
    split at he
    · rename_i k n hi
      split at he
      · rename_i c es hv
        split at he
        · rename_i h0
          split at he
          · rename_i e hg
            split at he
            · rename_i hk
              simp only [Option.some.injEq, Prod.mk.injEq] at he
              obtain ⟨rfl, rfl, rfl⟩ := he
              rcases hB.1 with hb | hb
              · exact sim_index_sl hop (sliceB_spec hb.2) (tB_ok hB.2) R F hx hv hi h0.1 hg hk hs1
              · exact absurd h0.2 hb.2
            · cases he
          · cases he
        · cases he
      · rename_i id s l hv
        split at he
        · rename_i h0
          split at he
          · rename_i ob hg
            split at he
            · rename_i hk
              simp only [Option.some.injEq, Prod.mk.injEq] at he
              obtain ⟨rfl, rfl, rfl⟩ := he
              rcases hB.1 with hb | hb
              · exact sim_index_hdr hop (sliceB_spec hb.2) (tB_ok hB.2) R F hx hv hi h0.1 hg hk hs1
              · exact absurd h0.2 hb.2
            · cases he
          · cases he
        · cases he
      · rename_i id j f hv
        split at he
        · rename_i m hm
          split at he
          · rename_i h0
            simp only [Option.some.injEq, Prod.mk.injEq] at he
            obtain ⟨rfl, rfl, rfl⟩ := he
            rcases hB.1 with hb | hb
            · rw [hm] at hb; exact absurd hb.1 (by simp)
            · exact sim_index_arr hop (tB_ok hb.1) (tB_ok hB.2) R F hx hv hi hm h0 hs1
          · cases he
        · cases he
      · cases he
    · cases he
  | index t x ix =>
    simp only [evCore, hop] at he
    simp only [hop, Bool.and_eq_true, Bool.or_eq_true, beq_iff_eq, bne_iff_ne] at hB
    obtain ⟨⟨h1, h2⟩, h3⟩ := hB
    split at he
    · rename_i k n hi
      split at he
      · rename_i s hv
        split at he
        · rename_i h0
          split at he
          · rename_i b hg
            simp only [Option.some.injEq, Prod.mk.injEq] at he
            obtain ⟨rfl, rfl, rfl⟩ := he
            have hu : X.P.underlying t = some .string := by
              rcases h3 with h3 | h3
              · exact absurd h0.2 h3
              · split at h3
                · assumption
                · cases h3
            exact sim_index_str hop hu R F hx hv hi h0.1 hg hs1
          · cases he
        · cases he
      · rename_i cs hv
        split at he
        · rename_i m hm
          split at he
          · rename_i h0
            split at he
            · rename_i v hvv
              simp only [Option.some.injEq, Prod.mk.injEq] at he
              obtain ⟨rfl, rfl, rfl⟩ := he
              have hTe : tB X (X.ti t).elem = true := by
                rcases h2 with h2 | h2
                · rw [hm] at h2; cases h2
                · exact h2
              exact sim_index_agg hop (tB_ok h1) (tB_ok hTe) R F hx hv hi hm h0 hvv hs1
            · cases he
          · cases he
        · cases he
      · cases he
    · cases he
  | field t x f =>
    simp only [evCore, hop] at he
    simp only [hop, Bool.and_eq_true] at hB
    obtain ⟨hT, hB⟩ := hB
    split at he
    · rename_i cs hv
      split at he
      · rename_i k z hk
        split at he
        · rename_i v hp
          simp only [Option.some.injEq, Prod.mk.injEq] at he
          obtain ⟨rfl, rfl, rfl⟩ := he
          split at hB
          · rename_i fs hu
            split at hB
            · rename_i fd k' z' hf hk'
              rw [hk] at hk'
              simp only [Option.some.injEq, Prod.mk.injEq] at hk'
              simp only [Bool.and_eq_true, beq_iff_eq] at hB
              obtain ⟨e1, e2⟩ := hB
              exact sim_field hop hu hf (by rw [e1]; exact tB_ok hT) R F hx hv (by rw [e1, e2, ← hk'.1]; exact hp) hs1
            · cases hB
          · cases hB
        · cases he
      · cases he
    · cases he
  | extract x i =>
    simp only [evCore, hop] at he
    split at he
    · rename_i vs hv
      split at he
      · rename_i v hi
        simp only [Option.some.injEq, Prod.mk.injEq] at he
        obtain ⟨rfl, rfl, rfl⟩ := he
        exact sim_extract hop R F hx hv hi hs1
      · cases he
    · cases he
  | call c =>
    obtain ⟨cal, args, tys⟩ := c
    cases cal with
    | builtin b =>
      cases b with
      | len =>
        simp only [evCore, hop] at he
        simp only [hop, Bool.and_eq_true] at hB
        split at he
        · rename_i x hargs
          cases hal : args.toList with
          | nil => simp [hal] at hargs
          | cons p q =>
          cases q with
          | cons _ _ => simp [hal] at hargs
          | nil =>
          simp only [hal, List.map_cons, List.map_nil, List.cons.injEq, and_true] at hargs
          subst hargs
          cases htl : tys.toList with
          | nil => simp [htl] at hB
          | cons t r =>
          have ht0 : tys[0]? = some t := by rw [← Array.getElem?_toList, htl]; rfl
          have htd : tys.getD 0 0 = t := by simp [Array.getD_eq_getD_getElem?, ht0]
          rw [htd] at he
          split at he
          · rename_i hst
            split at he
            · rename_i n hl
              simp only [Option.some.injEq, Prod.mk.injEq] at he
              obtain ⟨rfl, rfl, rfl⟩ := he
              refine sim_len hop hal ht0 ?_ R F hx hst hl hs1
              have hB2 := hB.2
              simp only [htl] at hB2
              split at hB2
              · rename_i e hu
                exact .inl ⟨⟨e, hu⟩, by simpa using hB2⟩
              · rename_i hu
                exact .inr ⟨hu, hB2⟩
              · cases hB2
            · cases he
          · cases he
        · cases he
      | min =>
        simp only [evCore, hop] at he
        split at he
        · rename_i k p k' q hargs
          split at he
          · rename_i hk
            subst hk
            simp only [Option.some.injEq, Prod.mk.injEq] at he
            obtain ⟨rfl, rfl, rfl⟩ := he
            cases hal : args.toList with
            | nil => simp [hal] at hargs
            | cons p q =>
            cases q with
            | nil => simp [hal] at hargs
            | cons q q2 =>
            cases q2 with
            | cons _ _ => simp [hal] at hargs
            | nil =>
            simp only [hal, List.map_cons, List.map_nil, List.cons.injEq, and_true] at hargs
            exact sim_min false hop hal R F hx hargs.1 hargs.2 (by simpa using hs1)
          · cases he
        · cases he
      | max =>
        simp only [evCore, hop] at he
        split at he
        · rename_i k p k' q hargs
          split at he
          · rename_i hk
            subst hk
            simp only [Option.some.injEq, Prod.mk.injEq] at he
            obtain ⟨rfl, rfl, rfl⟩ := he
            cases hal : args.toList with
            | nil => simp [hal] at hargs
            | cons p q =>
            cases q with
            | nil => simp [hal] at hargs
            | cons q q2 =>
            cases q2 with
            | cons _ _ => simp [hal] at hargs
            | nil =>
            simp only [hal, List.map_cons, List.map_nil, List.cons.injEq, and_true] at hargs
            exact sim_min true hop hal R F hx hargs.1 hargs.2 (by simpa using hs1)
          · cases he
        · cases he
      | append =>
        simp only [hop, Bool.and_eq_true] at hB
        cases htl : tys.toList with
        | nil => simp [htl] at hB
        | cons t r =>
        cases r with
        | nil => simp [htl] at hB
        | cons u r =>
        have hB2 := hB.2
        simp only [htl, Bool.and_eq_true] at hB2
        refine sim_append hop htl (sliceB_spec hB2.1.1) (tB_ok hB2.1.2) ?_ R F hx hn hsn fid hc0 hs1
        have h3 := hB2.2
        split at h3
        · rename_i e hu; exact .inl (.inl ⟨e, hu⟩)
        · rename_i hu; exact .inl (.inr hu)
        · exact .inr h3
      | copy =>
        simp only [hop, Bool.and_eq_true] at hB
        cases htl : tys.toList with
        | nil => simp [htl] at hB
        | cons t r =>
        cases r with
        | nil => simp [htl] at hB
        | cons u r =>
        have hB2 := hB.2
        simp only [htl, Bool.and_eq_true] at hB2
        exact sim_copy hop htl (sliceB_spec hB2.1.1) (tB_ok hB2.1.2) R F hx fid hc0 hs1
      | _ => simp [evCore, hop] at he
    | _ => simp [evCore, hop] at he
  | _ => simp [evCore, hop] at he
end
end Go.Abs
namespace Go.Abs
open Go
theorem allSome_map {α β : Type} (f : α → Option β) : ∀ {l : List α} {r : List β}, allSome (l.map f) = some r → l.length = r.length ∧ ∀ (j : Nat) x y, l[j]? = some x → r[j]? = some y → f x = some y
  | [], r, h => by
    simp only [List.map_nil, allSome, Option.some.injEq] at h
    subst h; simp
  | x :: l, r, h => by
    simp only [List.map_cons] at h
    cases hx : f x with
    | none => simp [allSome, hx] at h
    | some y =>
      simp only [allSome, hx] at h
      split at h
      · rename_i l' hl
        simp only [Option.some.injEq] at h
        subst h
        obtain ⟨h1, h2⟩ := allSome_map f hl
        refine ⟨by simp [h1], fun j a b ha hb => ?_⟩
        cases j with
        | zero => simp at ha hb; subst ha; subst hb; exact hx
        | succ j => exact h2 j a b (by simpa using ha) (by simpa using hb)
      · cases h
section
variable {w : World} {I J : Nat → Prop} {σ : Sig} {h : Heap}
theorem toImm_agg {d : Nat} {cs : List V} {v' : V} (ht : toImm h (d + 1) (.agg cs) = some v') : ∃ l, v' = .agg l ∧ allSome (cs.map (toImm h d)) = some l := by
  simp only [toImm] at ht
  split at ht
  · rename_i l hl
    simp only [Option.some.injEq] at ht
    exact ⟨l, ht.symm, hl⟩
  · cases ht
theorem toImm_tup {d : Nat} {cs : List V} {v' : V} (ht : toImm h (d + 1) (.tup cs) = some v') : ∃ l, v' = .tup l ∧ allSome (cs.map (toImm h d)) = some l := by
  simp only [toImm] at ht
  split at ht
  · rename_i l hl
    simp only [Option.some.injEq] at ht
    exact ⟨l, ht.symm, hl⟩
  · cases ht
theorem toImm_one {d : Nat} {v v' : V} (ht : toImm h d v = some v') (hv : ∀ cs, v ≠ .agg cs) : ∀ cs, v' ≠ .agg cs := by
  intro cs e
  subst e
  cases v with
  | agg cs' => exact hv cs' rfl
  | tup cs' =>
    cases d with
    | zero => simp [toImm] at ht
    | succ d => obtain ⟨l, h1, _⟩ := toImm_tup ht; cases h1
  | hdr id s l =>
    cases d with
    | zero => simp [toImm] at ht
    | succ d =>
      simp only [toImm] at ht
      split at ht
      · split at ht
        · split at ht
          · split at ht
            · cases ht
            · cases ht
          · cases ht
        · cases ht
      · cases ht
  | fn g a b => cases a <;> cases b <;> cases d <;> simp [toImm] at ht
  | _ => cases d <;> simp [toImm] at ht
theorem cells_one {v : V} (hv : ∀ cs, v ≠ .agg cs) : v.cells = [v] := by
  cases v with
  | agg cs => exact absurd rfl (hv cs)
  | _ => rfl
theorem toImm_up : ∀ {d : Nat} {v v' : V}, toImm h d v = some v' → toImm h (d + 1) v = some v'
  | 0, v, v', ht => by
    cases v with
    | fn g a b => cases a <;> cases b <;> simp_all [toImm]
    | _ => first | (simp [toImm] at ht; done) | (simpa [toImm] using ht)
  | d + 1, v, v', ht => by
    have key : ∀ {cs l : List V}, allSome (cs.map (toImm h d)) = some l → allSome (cs.map (toImm h (d + 1))) = some l := by
      intro cs
      induction cs with
      | nil => intro l hl; exact hl
      | cons c cs ih =>
        intro l hl
        simp only [List.map_cons] at hl ⊢
        cases hc : toImm h d c with
        | none => simp [hc, allSome] at hl
        | some c' =>
          simp only [hc, allSome] at hl
          split at hl
          · rename_i l' hl'
            simp only [allSome, toImm_up hc, ih hl']
            exact hl
          · cases hl
    cases v with
    | agg cs =>
      obtain ⟨l, rfl, hl⟩ := toImm_agg ht
      rw [toImm]
      simp only [key hl]
    | tup cs =>
      obtain ⟨l, rfl, hl⟩ := toImm_tup ht
      rw [toImm]
      simp only [key hl]
    | hdr id s l =>
      rw [toImm] at ht ⊢
      split at ht
      · split at ht
        · rename_i hle
          simp only [hle, if_true]
          split at ht
          · rename_i hk
            simp only [hk, if_true]
            split at ht
            · rename_i l' hl'
              simp only [key hl']; exact ht
            · cases ht
          · rename_i hk
            simp only [hk, if_false]; exact ht
        · cases ht
      · cases ht
    | fn g a b => cases a <;> cases b <;> simp_all [toImm]
    | _ => first | (simp [toImm] at ht; done) | (simpa [toImm] using ht)
theorem imm_rep (R : Rel w I σ h) (hIJ : ∀ b, I b → J b) (hJ : ∀ b, Owns σ h b → J b) : ∀ (d : Nat) (v v' : V) (u : Value), toImm h d v = some v' → Rep w I σ v u → Rep w J nosig v' u := by
  have EJ : Ext w I nosig w J nosig := ⟨fun _ _ => rfl, fun _ c _ fz hh => ⟨c, fz, hh, rfl⟩, hIJ, fun _ _ hh => hh⟩
  intro d
  induction d with
  | zero =>
    intro v v' u ht hr
    have hv : v.imm0 = true ∧ v' = v := by
      cases v with
      | fn g a b => cases a <;> cases b <;> simp [toImm] at ht ⊢ <;> simp_all [V.imm0]
      | _ => simp [toImm] at ht ⊢ <;> simp_all [V.imm0]
    rw [hv.2]
    exact (imm0_rep hv.1 hr).ext EJ
  | succ d ih =>
    intro v v' u ht hr
    by_cases hi : v.imm0 = true
    · have hv : v' = v := by
        cases v with
        | fn g a b => cases a <;> cases b <;> simp [toImm] at ht ⊢ <;> simp_all [V.imm0]
        | _ => first | (simp [toImm] at ht ⊢; simp_all [V.imm0]; done) | (simp [V.imm0] at hi)
      rw [hv]
      exact (imm0_rep hi hr).ext EJ
    · cases v with
      | agg cs =>
        obtain ⟨l, rfl, hl⟩ := toImm_agg ht
        obtain ⟨h1, h2⟩ := allSome_map _ hl
        simp only [Rep] at hr ⊢
        obtain ⟨us, rfl, hc⟩ := hr
        rw [RepC_iff] at hc
        refine ⟨us, rfl, ?_⟩
        rw [RepC_iff]
        refine ⟨by rw [← h1]; exact hc.1, fun j c' u' hc' hu' => ?_⟩
        have hj : j < cs.length := by rw [h1]; exact (List.getElem?_eq_some_iff.1 hc').1
        have hcj : cs[j]? = some cs[j] := by simp
        have := hc.2 j _ u' hcj hu'
        exact ⟨this.1, ih _ _ _ (h2 j _ _ hcj hc') this.2⟩
      | tup cs =>
        obtain ⟨l, rfl, hl⟩ := toImm_tup ht
        obtain ⟨h1, h2⟩ := allSome_map _ hl
        simp only [Rep] at hr ⊢
        obtain ⟨us, rfl, hc⟩ := hr
        rw [RepL_iff] at hc
        refine ⟨us, rfl, ?_⟩
        rw [RepL_iff]
        refine ⟨by rw [← h1]; exact hc.1, fun j c' u' hc' hu' => ?_⟩
        have hj : j < cs.length := by rw [h1]; exact (List.getElem?_eq_some_iff.1 hc').1
        have hcj : cs[j]? = some cs[j] := by simp
        exact ih _ _ _ (h2 j _ _ hcj hc') (hc.2 j _ u' hcj hu')
      | hdr id s l =>
        simp only [toImm] at ht
        cases hob : h id with
        | none => simp [hob] at ht
        | some ob =>
        simp only [hob] at ht
        split at ht
        case isFalse => cases ht
        rename_i hsl
        have hJid : ∀ b o k, σ id = some (b, o, k) → J b := fun b o k hs => hJ b ⟨id, ob, o, k, hob, hs⟩
        by_cases hk : ob.keep = true
        · simp only [hk, if_true] at ht
          split at ht
          case h_2 => cases ht
          rename_i es' hl
          simp only [Option.some.injEq] at ht
          subst ht
          obtain ⟨h1, h2⟩ := allSome_map _ hl
          have hlen : ((ob.es.drop s).take l).length = l := by simp; omega
          obtain ⟨ad, cap, rfl, B⟩ := based R hr hob
          simp only [Rep]
          refine ⟨ad, cap, by rw [← h1, hlen], by rw [← h1, hlen]; exact B.le, B.max, fun hh => (by cases hh), ?_⟩
          rcases B.place with hp | ⟨b, o, c, el, hs, had, hb, _, _, hrow⟩
          · left
            have := B.le
            apply List.eq_nil_of_length_eq_zero
            rw [← h1, hlen]; omega
          · right
            refine ⟨b, o + s * ob.k, ob.k, had, hJid b o ob.k hs, ?_⟩
            have hseg := hrow.seg s l
            rw [hk] at hseg
            simp only [osig, if_true] at hseg
            rw [RepRow_iff] at hseg ⊢
            intro i e' hi'
            have hil : i < ((ob.es.drop s).take l).length := by rw [h1]; exact (List.getElem?_eq_some_iff.1 hi').1
            have hie : ((ob.es.drop s).take l)[i]? = some ((ob.es.drop s).take l)[i] := List.getElem?_eq_getElem hil
            have hte := h2 i _ _ hie hi'
            obtain ⟨hcl, hca⟩ := hseg i _ hie
            generalize ((ob.es.drop s).take l)[i] = e at hte hcl hca
            by_cases hag : ∃ cs, e = .agg cs
            · obtain ⟨cs, rfl⟩ := hag
              cases d with
              | zero => simp [toImm] at hte
              | succ d =>
                obtain ⟨cs', rfl, hl'⟩ := toImm_agg hte
                obtain ⟨g1, g2⟩ := allSome_map _ hl'
                refine ⟨by simpa [V.cells, ← g1] using hcl, fun j c' hj' => ?_⟩
                have hjl : j < cs.length := by rw [g1]; exact (List.getElem?_eq_some_iff.1 hj').1
                have hjc : cs[j]? = some cs[j] := by simp
                obtain ⟨u, hu1, hu2, hu3⟩ := hca j _ hjc
                refine ⟨u, hu1, hu2, ?_⟩
                have hagg : toImm h (d + 1) cs[j] = some c' := by
                  have := g2 j _ _ hjc hj'
                  exact toImm_up this
                exact ih _ _ _ hagg hu3
            · have hne : ∀ cs, e ≠ .agg cs := fun cs hh => hag ⟨cs, hh⟩
              have hne' := toImm_one hte hne
              rw [cells_one hne] at hcl hca
              rw [cells_one hne']
              refine ⟨hcl, fun j c' hj' => ?_⟩
              cases j with
              | zero =>
                simp at hj'; subst hj'
                obtain ⟨u, hu1, hu2, hu3⟩ := hca 0 e (by simp)
                exact ⟨u, hu1, hu2, ih _ _ _ hte hu3⟩
              | succ j => simp at hj'
        · simp only [hk, Bool.false_eq_true, if_false, Option.some.injEq] at ht
          subst ht
          exact hdr_imm R hr hob (by simp [hk]) hsl hIJ hJid
      | fn g a b => cases a <;> cases b <;> simp_all [toImm, V.imm0]
      | _ => first | (simp [V.imm0] at hi; done) | (simp [toImm] at ht)
end
end Go.Abs
