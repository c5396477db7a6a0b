/- Every operation but the calls of Go functions. -/
import Derived.Test.YtcbddnmodlhnaaaA17
set_option linter.unusedVariables false
set_option linter.unusedSimpArgs false
namespace Go.Abs
open Go

section
variable {X : Env} {o : Oper} {a : Act} {w : World} {I : Nat → Prop} {σ : Sig} {S S1 : St}

theorem tB_ok {t : TypeId} (h : tB X t = true) : TIOk X.P t (X.ti t) := tiOk h

theorem sim_op {nt : Nat} (hB : opB X nt o = true) (R : Rel w I σ S.h) (F : FRel w I σ S.f a) (hn : S.h S.n = none) (hsn : σ S.n = none) (fid : FuncId) (he : evOp X fid o S = some S1) : Out X o a w I σ S S1 := by
  unfold evOp at he
  split at he
  case h_2 => cases he
  rename_i v0 hh0 nn0 hc0
  have hs1 : S1 = ({ S with h := hh0, n := nn0 } : St).set o.dst v0 := by simpa using he.symm
  clear he
  have he := hc0
  unfold opB at hB
  rw [Bool.and_eq_true, Bool.and_eq_true] at hB
  obtain ⟨⟨_, hx⟩, hB⟩ := hB
  have hx : Opds o := fun x hm => List.all_eq_true.1 hx x hm
  cases hop : o.op with
  | move x =>
    simp only [evCore, hop, Option.some.injEq, Prod.mk.injEq] at he
    obtain ⟨rfl, rfl, rfl⟩ := he
    exact sim_move (.inl hop) R F hx hs1
  | assign x =>
    simp only [evCore, hop, Option.some.injEq, Prod.mk.injEq] at he
    obtain ⟨rfl, rfl, rfl⟩ := he
    exact sim_move (.inr hop) R F hx hs1
  | pick c p q =>
    simp only [evCore, hop] at he
    split at he
    · rename_i t hc
      simp only [Option.some.injEq, Prod.mk.injEq] at he
      obtain ⟨rfl, rfl, rfl⟩ := he
      exact sim_pick hop R F hx hc hs1
    · cases he
  | alloc t =>
    simp only [evCore, hop, Option.some.injEq, Prod.mk.injEq] at he
    obtain ⟨rfl, rfl, rfl⟩ := he
    simp only [hop] at hB
    exact sim_alloc hop (tB_ok hB) R hn hsn hs1
  | box t x =>
    simp only [evCore, hop] at he
    split at he
    · rename_i hf
      simp only [Option.some.injEq, Prod.mk.injEq] at he
      obtain ⟨rfl, rfl, rfl⟩ := he
      exact sim_box hop R F hx hn hsn hf hs1
    · cases he
  | build t ps =>
    simp only [evCore, hop] at he
    simp only [hop, Bool.and_eq_true, Bool.or_eq_true, beq_iff_eq] at hB
    have T := tB_ok hB.1
    have hTe : (X.ti t).arr = none ∨ TIOk X.P (X.ti t).elem (X.ti (X.ti t).elem) := hB.2.imp_right tB_ok
    split at he
    · rename_i ha
      split at he
      · cases he
      · rename_i hf0
        split at he
        · rename_i cs hf
          simp only [Option.some.injEq, Prod.mk.injEq] at he
          obtain ⟨rfl, rfl, rfl⟩ := he
          exact sim_build hop T hTe R F hx (.inl ⟨ha, hf, hf0⟩) hs1
        · cases he
    · rename_i m ha
      split at he
      · rename_i cs hf
        simp only [Option.some.injEq, Prod.mk.injEq] at he
        obtain ⟨rfl, rfl, rfl⟩ := he
        exact sim_build hop T hTe R F hx (.inr ⟨m, ha, hf⟩) hs1
      · cases he
  | buildSlice t n ps =>
    simp only [evCore, hop] at he
    simp only [hop, Bool.and_eq_true, decide_eq_true_eq] at hB
    obtain ⟨⟨h1, h2⟩, h3⟩ := hB
    split at he
    · split at he
      · rename_i es hf
        simp only [Option.some.injEq, Prod.mk.injEq] at he
        obtain ⟨rfl, rfl, rfl⟩ := he
        exact sim_buildSlice_keep hop (sliceB_spec h1) (tB_ok h2) h3 R F hx hn hsn hf hs1
      · cases he
    · split at he
      · rename_i l h hg
        split at he
        · rename_i es hf
          split at he
          · simp only [Option.some.injEq, Prod.mk.injEq] at he
            obtain ⟨rfl, rfl, rfl⟩ := he
            exact sim_buildSlice (th := true) hop (sliceB_spec h1) (tB_ok h2) h3 R F hx hn hsn hg hf (by rw [if_pos rfl]; exact hs1)
          · simp only [Option.some.injEq, Prod.mk.injEq] at he
            obtain ⟨rfl, rfl, rfl⟩ := he
            exact sim_buildSlice (th := false) hop (sliceB_spec h1) (tB_ok h2) h3 R F hx hn hsn hg hf (by simpa using hs1)
        · cases he
      · cases he
  | load t x =>
    simp only [evCore, hop] at he
    simp only [hop] at hB
    split at he
    · rename_i id i f hp
      split at he
      · rename_i ob hob
        split at he
        · rename_i e hi
          split at he
          · rename_i v hv
            simp only [Option.some.injEq, Prod.mk.injEq] at he
            obtain ⟨rfl, rfl, rfl⟩ := he
            exact sim_load_ptr hop (tB_ok hB) R F hx hp hob hi hv hs1
          · cases he
        · cases he
      · cases he
    · rename_i cs hp
      split at he
      · rename_i v hv
        simp only [Option.some.injEq, Prod.mk.injEq] at he
        obtain ⟨rfl, rfl, rfl⟩ := he
        exact sim_load_ref hop (tB_ok hB) R F hx hp hv hs1
      · cases he
    · cases he
  | store t x y =>
    simp only [evCore, hop] at he
    simp only [hop, Bool.and_eq_true, beq_iff_eq] at hB
    split at he
    · rename_i id i f hp
      split at he
      · rename_i ob0 h0
        split at he
        · rename_i v h hg
          split at he
          · rename_i ob hob
            split at he
            · rename_i e hi
              split at he
              · rename_i hf
                simp only [Option.some.injEq, Prod.mk.injEq] at he
                obtain ⟨rfl, rfl, rfl⟩ := he
                exact sim_store hop (tB_ok hB.1) R F hx hp h0 hg hob hi hf hB.2 (by rw [hs1, hB.2]; rfl)
              · cases he
            · cases he
          · cases he
        · cases he
      · cases he
    · cases he
  | nilCheck x =>
    simp only [evCore, hop] at he
    split at he
    · rename_i id i f hp
      simp only [Option.some.injEq, Prod.mk.injEq] at he
      obtain ⟨rfl, rfl, rfl⟩ := he
      exact sim_nilCheck hop R F hx (.inl ⟨id, i, f, hp⟩) (by rw [hp]; exact hs1)
    · rename_i cs hp
      simp only [Option.some.injEq, Prod.mk.injEq] at he
      obtain ⟨rfl, rfl, rfl⟩ := he
      exact sim_nilCheck hop R F hx (.inr (.inl ⟨cs, hp⟩)) (by rw [hp]; exact hs1)
    · rename_i g p q hp
      simp only [Option.some.injEq, Prod.mk.injEq] at he
      obtain ⟨rfl, rfl, rfl⟩ := he
      exact sim_nilCheck hop R F hx (.inr (.inr ⟨g, p, q, hp⟩)) (by rw [hp]; exact hs1)
    · cases he
  | binOp op t x y ty =>
    simp only [evCore, hop] at he
    simp only [hop] at hB
    split at he
    · rename_i v hv
      simp only [Option.some.injEq, Prod.mk.injEq] at he
      obtain ⟨rfl, rfl, rfl⟩ := he
      refine sim_binOp hop (fun h => ?_) R F hx hv hs1
      rcases h with rfl | rfl <;> exact hB
    · cases he
  | unOp op t x =>
    simp only [evCore, hop] at he
    split at he
    · rename_i v hv
      simp only [Option.some.injEq, Prod.mk.injEq] at he
      obtain ⟨rfl, rfl, rfl⟩ := he
      exact sim_unOp hop R F hx hv hs1
    · cases he
  | convert s d x =>
    simp only [evCore, hop] at he
    simp only [hop, Bool.and_eq_true] at hB
    split at he
    · rename_i k k' n hk hv
      simp only [Option.some.injEq, Prod.mk.injEq] at he
      obtain ⟨rfl, rfl, rfl⟩ := he
      exact sim_convert hop (tB_ok hB.1) hB.2 R F hx hk hv hs1
    · cases he
  | makeFunc c p q =>
    cases c with
    | func g =>
      simp only [evCore, hop, Option.some.injEq, Prod.mk.injEq] at he
      obtain ⟨rfl, rfl, rfl⟩ := he
      exact sim_makeFunc hop R F hx hs1
    | _ => simp [evCore, hop] at he
  | makeSlice t l c =>
    simp only [evCore, hop] at he
    simp only [hop, Bool.and_eq_true] at hB
    split at he
    · rename_i n m hl hc
      split at he
      · rename_i hb
        simp only [Option.some.injEq, Prod.mk.injEq] at he
        obtain ⟨rfl, rfl, rfl⟩ := he
        exact sim_makeSlice hop (sliceB_spec hB.1) (tB_ok hB.2) R F hx hn hsn hl hc hb hs1
      · cases he
    · cases he
  | slice t x lo hi mx =>
    simp only [evCore, hop] at he
    simp only [hop] at hB
    split at he
    case isFalse => cases he
    rename_i hstr
    split at he
    · -- immutable
      rename_i c es hv
      have hns : (X.ti t).isStr = false := by rw [← hstr, hv]; rfl
      have hu : X.P.underlying t = some (.slice (X.ti t).elem) ∧ tB X (X.ti t).elem = true := by
        split at hB
        · rename_i e hu
          simp only [Bool.and_eq_true, beq_iff_eq] at hB
          obtain ⟨⟨_, rfl⟩, h3⟩ := hB
          exact ⟨hu, h3⟩
        · rw [hns] at hB; cases hB
        · cases hB
      split at he
      case isFalse => cases he
      rename_i hall
      cases mx with
      | none =>
        simp only at he
        split at he
        · rename_i l h hb
          simp only [Option.some.injEq, Prod.mk.injEq] at he
          obtain ⟨rfl, rfl, rfl⟩ := he
          exact sim_slice_sl hop R F hx hu.1 (tB_ok hu.2) hv hall hb hs1
        · cases he
      | some m =>
        simp only at he
        split at he
        · rename_i k1 p k2 q hm hh
          split at he
          · rename_i hpq
            subst hpq
            split at he
            · rename_i l h hb
              simp only [Option.some.injEq, Prod.mk.injEq] at he
              obtain ⟨rfl, rfl, rfl⟩ := he
              exact sim_slice3_sl hop R F hx hu.1 (tB_ok hu.2) hv hall hm hh hb hs1
            · cases he
          · cases he
        · cases he
    · rename_i id s n hv
      have hns : (X.ti t).isStr = false := by rw [← hstr, hv]; rfl
      have hu : X.P.underlying t = some (.slice (X.ti t).elem) ∧ tB X (X.ti t).elem = true := by
        split at hB
        · rename_i e hu
          simp only [Bool.and_eq_true, beq_iff_eq] at hB
          obtain ⟨⟨_, rfl⟩, h3⟩ := hB
          exact ⟨hu, h3⟩
        · rw [hns] at hB; cases hB
        · cases hB
      split at he
      · rename_i ob hob
        split at he
        case isFalse => cases he
        rename_i hk
        split at he
        · rename_i l h hb
          simp only [Option.some.injEq, Prod.mk.injEq] at he
          obtain ⟨rfl, rfl, rfl⟩ := he
          exact sim_slice_hdr hop R F hx hu.1 (tB_ok hu.2) hv hob hk hb hs1
        · cases he
      · rename_i m ob hob
        split at he
        case isFalse => cases he
        rename_i hk
        split at he
        · rename_i k1 p k2 q hm hh
          split at he
          · rename_i hpq
            subst hpq
            split at he
            · rename_i l h hb
              simp only [Option.some.injEq, Prod.mk.injEq] at he
              obtain ⟨rfl, rfl, rfl⟩ := he
              exact sim_slice3_hdr hop R F hx hu.1 (tB_ok hu.2) hv hob hk hm hh hb hs1
            · cases he
          · cases he
        · cases he
      · cases he
    · rename_i s hv
      have hns : (X.ti t).isStr = true := by rw [← hstr, hv]; rfl
      have hu : X.P.underlying t = some .string := by
        split at hB
        · rename_i e hu
          rw [hns] at hB; simp at hB
        · rename_i hu; exact hu
        · cases hB
      cases mx with
      | none =>
        simp only at he
        split at he
        · rename_i l h hb
          simp only [Option.some.injEq, Prod.mk.injEq] at he
          obtain ⟨rfl, rfl, rfl⟩ := he
          exact sim_slice_str hop R F hx hu hv hb hs1
        · cases he
      | some m => cases he
    · cases he
  | fieldAddr t x i =>
    simp only [evCore, hop] at he
    simp only [hop] at hB
    split at he
    · rename_i off k hf
      split at he
      · rename_i id j f hv
        simp only [Option.some.injEq, Prod.mk.injEq] at he
        obtain ⟨rfl, rfl, rfl⟩ := he
        exact sim_fieldAddr hop (tB_ok hB) R F hx hf (.inl ⟨id, j, f, hv, rfl⟩) hs1
      · rename_i cs hv
        simp only [Option.some.injEq, Prod.mk.injEq] at he
        obtain ⟨rfl, rfl, rfl⟩ := he
        exact sim_fieldAddr hop (tB_ok hB) R F hx hf (.inr ⟨cs, hv, rfl⟩) hs1
      · cases he
    · cases he
  | indexAddr t x ix =>
    simp only [evCore, hop] at he
    simp only [hop, Bool.and_eq_true, Bool.or_eq_true, beq_iff_eq, bne_iff_ne] at hB
    split at he
    · rename_i k n hi
      split at he
      · rename_i c es hv
        split at he
        · rename_i h0
          split at he
          · rename_i e hg
            split at he
            · rename_i hk
              simp only [Option.some.injEq, Prod.mk.injEq] at he
              obtain ⟨rfl, rfl, rfl⟩ := he
              rcases hB.1 with hb | hb
              · exact sim_index_sl hop (sliceB_spec hb.2) (tB_ok hB.2) R F hx hv hi h0.1 hg hk hs1
              · exact absurd h0.2 hb.2
            · cases he
          · cases he
        · cases he
      · rename_i id s l hv
        split at he
        · rename_i h0
          split at he
          · rename_i ob hg
            split at he
            · rename_i hk
              simp only [Option.some.injEq, Prod.mk.injEq] at he
              obtain ⟨rfl, rfl, rfl⟩ := he
              rcases hB.1 with hb | hb
              · exact sim_index_hdr hop (sliceB_spec hb.2) (tB_ok hB.2) R F hx hv hi h0.1 hg hk hs1
              · exact absurd h0.2 hb.2
            · cases he
          · cases he
        · cases he
      · rename_i id j f hv
        split at he
        · rename_i m hm
          split at he
          · rename_i h0
            simp only [Option.some.injEq, Prod.mk.injEq] at he
            obtain ⟨rfl, rfl, rfl⟩ := he
            rcases hB.1 with hb | hb
            · rw [hm] at hb; exact absurd hb.1 (by simp)
            · exact sim_index_arr hop (tB_ok hb.1) (tB_ok hB.2) R F hx hv hi hm h0 hs1
          · cases he
        · cases he
      · cases he
    · cases he
  | index t x ix =>
    simp only [evCore, hop] at he
    simp only [hop, Bool.and_eq_true, Bool.or_eq_true, beq_iff_eq, bne_iff_ne] at hB
    obtain ⟨⟨h1, h2⟩, h3⟩ := hB
    split at he
    · rename_i k n hi
      split at he
      · rename_i s hv
        split at he
        · rename_i h0
          split at he
          · rename_i b hg
            simp only [Option.some.injEq, Prod.mk.injEq] at he
            obtain ⟨rfl, rfl, rfl⟩ := he
            have hu : X.P.underlying t = some .string := by
              rcases h3 with h3 | h3
              · exact absurd h0.2 h3
              · split at h3
                · assumption
                · cases h3
            exact sim_index_str hop hu R F hx hv hi h0.1 hg hs1
          · cases he
        · cases he
      · rename_i cs hv
        split at he
        · rename_i m hm
          split at he
          · rename_i h0
            split at he
            · rename_i v hvv
              simp only [Option.some.injEq, Prod.mk.injEq] at he
              obtain ⟨rfl, rfl, rfl⟩ := he
              have hTe : tB X (X.ti t).elem = true := by
                rcases h2 with h2 | h2
                · rw [hm] at h2; cases h2
                · exact h2
              exact sim_index_agg hop (tB_ok h1) (tB_ok hTe) R F hx hv hi hm h0 hvv hs1
            · cases he
          · cases he
        · cases he
      · cases he
    · cases he
  | extract x i =>
    simp only [evCore, hop] at he
    split at he
    · rename_i vs hv
      split at he
      · rename_i v hi
        simp only [Option.some.injEq, Prod.mk.injEq] at he
        obtain ⟨rfl, rfl, rfl⟩ := he
        exact sim_extract hop R F hx hv hi hs1
      · cases he
    · cases he
  | call c =>
    obtain ⟨cal, args, tys⟩ := c
    cases cal with
    | builtin b =>
      cases b with
      | len =>
        simp only [evCore, hop] at he
        simp only [hop, Bool.and_eq_true] at hB
        split at he
        · rename_i x hargs
          cases hal : args.toList with
          | nil => simp [hal] at hargs
          | cons p q =>
          cases q with
          | cons _ _ => simp [hal] at hargs
          | nil =>
          simp only [hal, List.map_cons, List.map_nil, List.cons.injEq, and_true] at hargs
          subst hargs
          cases htl : tys.toList with
          | nil => simp [htl] at hB
          | cons t r =>
          have ht0 : tys[0]? = some t := by rw [← Array.getElem?_toList, htl]; rfl
          have htd : tys.getD 0 0 = t := by simp [Array.getD_eq_getD_getElem?, ht0]
          rw [htd] at he
          split at he
          · rename_i hst
            split at he
            · rename_i n hl
              simp only [Option.some.injEq, Prod.mk.injEq] at he
              obtain ⟨rfl, rfl, rfl⟩ := he
              refine sim_len hop hal ht0 ?_ R F hx hst hl hs1
              have hB2 := hB.2
              simp only [htl] at hB2
              split at hB2
              · rename_i e hu
                exact .inl ⟨⟨e, hu⟩, by simpa using hB2⟩
              · rename_i hu
                exact .inr ⟨hu, hB2⟩
              · cases hB2
            · cases he
          · cases he
        · cases he
      | min =>
        simp only [evCore, hop] at he
        split at he
        · rename_i k p k' q hargs
          split at he
          · rename_i hk
            subst hk
            simp only [Option.some.injEq, Prod.mk.injEq] at he
            obtain ⟨rfl, rfl, rfl⟩ := he
            cases hal : args.toList with
            | nil => simp [hal] at hargs
            | cons p q =>
            cases q with
            | nil => simp [hal] at hargs
            | cons q q2 =>
            cases q2 with
            | cons _ _ => simp [hal] at hargs
            | nil =>
            simp only [hal, List.map_cons, List.map_nil, List.cons.injEq, and_true] at hargs
            exact sim_min false hop hal R F hx hargs.1 hargs.2 (by simpa using hs1)
          · cases he
        · cases he
      | max =>
        simp only [evCore, hop] at he
        split at he
        · rename_i k p k' q hargs
          split at he
          · rename_i hk
            subst hk
            simp only [Option.some.injEq, Prod.mk.injEq] at he
            obtain ⟨rfl, rfl, rfl⟩ := he
            cases hal : args.toList with
            | nil => simp [hal] at hargs
            | cons p q =>
            cases q with
            | nil => simp [hal] at hargs
            | cons q q2 =>
            cases q2 with
            | cons _ _ => simp [hal] at hargs
            | nil =>
            simp only [hal, List.map_cons, List.map_nil, List.cons.injEq, and_true] at hargs
            exact sim_min true hop hal R F hx hargs.1 hargs.2 (by simpa using hs1)
          · cases he
        · cases he
      | append =>
        simp only [hop, Bool.and_eq_true] at hB
        cases htl : tys.toList with
        | nil => simp [htl] at hB
        | cons t r =>
        cases r with
        | nil => simp [htl] at hB
        | cons u r =>
        have hB2 := hB.2
        simp only [htl, Bool.and_eq_true] at hB2
        refine sim_append hop htl (sliceB_spec hB2.1.1) (tB_ok hB2.1.2) ?_ R F hx hn hsn fid hc0 hs1
        have h3 := hB2.2
        split at h3
        · rename_i e hu; exact .inl ⟨e, hu⟩
        · rename_i hu; exact .inr hu
        · cases h3
      | copy =>
        simp only [hop, Bool.and_eq_true] at hB
        cases htl : tys.toList with
        | nil => simp [htl] at hB
        | cons t r =>
        cases r with
        | nil => simp [htl] at hB
        | cons u r =>
        have hB2 := hB.2
        simp only [htl, Bool.and_eq_true] at hB2
        exact sim_copy hop htl (sliceB_spec hB2.1.1) (tB_ok hB2.1.2) R F hx fid hc0 hs1
      | _ => simp [evCore, hop] at he
    | _ => simp [evCore, hop] at he
  | _ => simp [evCore, hop] at he

end
end Go.Abs
