/- append and copy, as operations. -/
import Derived.Test.YtcbddnmodlhnaaaA16
set_option linter.unusedVariables false
set_option linter.unusedSimpArgs false
namespace Go.Abs
open Go

section
variable {X : Env} {o : Oper} {a : Act} {w : World} {I : Nat → Prop} {σ : Sig} {S S1 : St}

theorem all_len {xs : List V} {k : Nat} (h : (xs.all fun v => v.cells.length == k) = true) : ∀ v ∈ xs, v.cells.length = k := by
  intro v hv
  simpa using List.all_eq_true.1 h v hv

theorem sim_append {args : Array Operand} {tys : Array TypeId} (ho : o.op = .call ⟨.builtin .append, args, tys⟩) {t u : TypeId} {r : List TypeId} (hty : tys.toList = t :: u :: r)
    (hu : X.P.underlying t = some (.slice (X.ti t).elem)) (T : TIOk X.P (X.ti t).elem (X.ti (X.ti t).elem)) (huk : (∃ e', X.P.underlying u = some (.slice e')) ∨ X.P.underlying u = some .string)
    (R : Rel w I σ S.h) (F : FRel w I σ S.f a) (hx : Opds o) (hn : S.h S.n = none) (hsn : σ S.n = none) (fid : FuncId) {v0 : V} {hh0 : Heap} {nn0 : Nat} (he : evCore X fid o S.ev S.h S.n = some (v0, hh0, nn0)) (hs1 : S1 = ({ S with h := hh0, n := nn0 } : St).set o.dst v0) : Out X o a w I σ S S1 := by
  have ht0 : tys.getD 0 0 = t := by
    have := (tys2 hty).1
    simp [Array.getD_eq_getD_getElem?, this]
  simp only [evCore, ho, ht0] at he
  split at he
  case h_2 => cases he
  rename_i s x hargs
  cases hal : args.toList with
  | nil => simp [hal] at hargs
  | cons p q =>
  cases q with
  | nil => simp [hal] at hargs
  | cons q q2 =>
  cases q2 with
  | cons _ _ => simp [hal] at hargs
  | nil =>
  simp only [hal, List.map_cons, List.map_nil, List.cons.injEq, and_true] at hargs
  obtain ⟨rfl, rfl⟩ := hargs
  have harg := list2 hal
  have r1 : Rep w I σ (S.ev p) (a.eval p) := ev_rep (S := S) F (hx p (by simp [ho, Op.operands, Call.operands, harg]))
  have r2 : Rep w I σ (S.ev q) (a.eval q) := ev_rep (S := S) F (hx q (by simp [ho, Op.operands, Call.operands, harg]))
  have hrun : ∀ {v : Value} {w' : World}, (Builtin.append_ #[t, u] o.type #[a.eval p, a.eval q]).run X.P w = .ok v w' → (execOp a.eval o).run X.P w = .ok (.value v) w' := by
    intro v w' hh
    simp [execOp, ho, harg, resolve, invoke, builtin, append_tys hty, hh]
  cases he1 : elems S.h (S.ev p) with
  | none => simp [he1] at he
  | some y1 =>
  obtain ⟨es, kb⟩ := y1
  cases he2 : elems S.h (S.ev q) with
  | none => simp [he1, he2] at he
  | some y2 =>
  obtain ⟨xs, kx⟩ := y2
  simp only [he1, he2] at he
  split at he
  · cases he
  rename_i hc1
  simp only [Bool.or_eq_true, Bool.and_eq_true, Bool.not_eq_true', not_or, not_and, Bool.not_eq_false] at hc1
  obtain ⟨hc1, hlen⟩ := hc1
  have hxl := all_len hlen
  split at he
  case isFalse => cases he
  rename_i hfit
  have hkb : kb = true → X.keepT (X.ti t).elem = true := fun h => hc1 (.inl h)
  have hkx : kx = true → X.keepT (X.ti t).elem = true := fun h => hc1 (.inr h)
  obtain ⟨news, hsrc, hnr⟩ := src_sim huk R r2 he2 hxl (src_own he2 R hxl)
  split at he
  · -- nothing
    rename_i hp
    simp only [Option.some.injEq, Prod.mk.injEq] at he
    obtain ⟨rfl, rfl, rfl⟩ := he
    subst hs1
    rw [hp] at r1
    have h0 : es = [] := by rw [hp] at he1; simp only [elems, Option.some.injEq, Prod.mk.injEq] at he1; exact he1.1.symm
    subst h0
    obtain ⟨v, w', σ', h1, h2, h3⟩ := append_nothing (ty := o.type) R hu T r1 hkx hxl hsrc hnr hn hsn (by simpa using hfit.1) (by simpa using hfit.2)
    refine ⟨_, w', I, σ', v, _, hrun h1, .inl rfl, ?_, set_f _ _ _ _ rfl, h3⟩
    rw [set_h, set_n]; exact h2
  · rename_i es' hne hp
    split at he
    · cases he
    rename_i hc2
    simp only [Bool.or_eq_true, Bool.not_eq_true', not_or, Bool.not_eq_true, Bool.not_eq_false] at hc2
    simp only [Option.some.injEq, Prod.mk.injEq] at he
    obtain ⟨rfl, rfl, rfl⟩ := he
    subst hs1
    rw [hp] at r1
    have h0 : es = es' ∧ kb = false := by rw [hp] at he1; simp only [elems, Option.some.injEq, Prod.mk.injEq] at he1; exact ⟨he1.1.symm, he1.2.symm⟩
    obtain ⟨rfl, _⟩ := h0
    rw [hc2.1] at hnr
    obtain ⟨v, w', I', h1, h2, h3⟩ := append_imm (ty := o.type) R hu T r1 (all_len hc2.2) hxl hsrc hnr S.n hfit.1 hfit.2
    refine ⟨_, w', I', σ, v, _, hrun h1, .inl rfl, ?_, rfl, h3⟩
    rw [set_h, set_n]; exact h2
  · rename_i id s l hp
    split at he
    case h_2 => cases he
    rename_i ob hob
    split at he
    case isFalse => cases he
    rename_i hk
    simp only [Option.some.injEq, Prod.mk.injEq] at he
    obtain ⟨rfl, rfl, rfl⟩ := he
    subst hs1
    rw [hp] at r1
    rw [hp] at he1
    simp only [elems, hob] at he1
    split at he1
    case isFalse => cases he1
    rename_i hsl
    simp only [Option.some.injEq, Prod.mk.injEq] at he1
    obtain ⟨rfl, rfl⟩ := he1
    have hseglen : ((ob.es.drop s).take l).length = l := by simp; omega
    rw [hseglen] at hfit ⊢
    obtain ⟨v, w', σ', h1, h2, h3⟩ := append_hdr (ty := o.type) R hu T r1 hob hk hsl hkx hkb hxl hsrc hnr hn hsn hfit.1 hfit.2
    refine ⟨_, w', I, σ', v, _, hrun h1, .inl rfl, ?_, set_f _ _ _ _ rfl, h3⟩
    rw [set_h, set_n]; exact h2
  · cases he

/-- the first cells of a slice -/
theorem first_sim {P : Program} {h : Heap} (R : Rel w I σ h) {x : V} {u : Value} {xs : List V} {kx : Bool} (hr : Rep w I σ x u) (he : elems h x = some (xs, kx)) (hns : x.isStr = false)
    {k : Nat} (hl : ∀ e ∈ xs, e.cells.length = k) (m : Nat) (hm : m ≤ xs.length) :
    (∀ w', (Builtin.lenOf u).run P w' = .ok xs.length w') ∧ ∃ news : List Value, news.length = m * k ∧ (Builtin.firstCells k m u).run P w = .ok news.toArray w ∧ RepC w I (osig kx σ) (flat (xs.take m)) news := by
  have mk : ∀ {ad : Addr} {n cap : Nat} {b o : Nat} {τ : Sig}, ad = ⟨b, o, none⟩ → RepRow w I τ xs k b o → ∃ news : List Value, news.length = m * k ∧ (Builtin.firstCells k m (.slice (some ad) n cap)).run P w = .ok news.toArray w ∧ RepC w I τ (flat (xs.take m)) news := by
    intro ad n cap b o τ had hrow
    subst had
    have hs := hrow.seg 0 m
    simp only [List.drop_zero, Nat.zero_mul, Nat.add_zero] at hs
    obtain ⟨us, h1, h2, h3⟩ := row_flat hs
    have : (xs.take m).length = m := by simp; omega
    rw [this] at h1
    exact ⟨us, h1, run_firstCells_some w k m _ _ cap us h1 (fun j v hv => by rw [add_at]; exact h2 j v hv), h3⟩
  have mk0 : ∀ {ad : Option Addr} {n cap : Nat}, xs = [] → ∃ news : List Value, news.length = m * k ∧ (Builtin.firstCells k m (.slice ad n cap)).run P w = .ok news.toArray w ∧ RepC w I (osig kx σ) (flat (xs.take m)) news := by
    intro ad n cap h0
    subst h0
    have : m = 0 := by simpa using hm
    subst this
    refine ⟨[], by simp, ?_, by simp [flat, RepC]⟩
    cases ad <;> simp [Builtin.firstCells, loadCells, loadCellsFrom]
  cases x with
  | sl c es =>
    simp only [elems, Option.some.injEq, Prod.mk.injEq] at he
    obtain ⟨rfl, rfl⟩ := he
    simp only [Rep] at hr
    obtain ⟨ad, cap, rfl, _, _, _, h4⟩ := hr
    refine ⟨fun w' => by simp [Builtin.lenOf], ?_⟩
    rcases h4 with h4 | ⟨b, o, k', rfl, hI, hrow⟩
    · exact mk0 h4
    · by_cases h0 : es = []
      · exact mk0 h0
      · have hkk : k' = k := by
          obtain ⟨e, he⟩ := List.exists_mem_of_ne_nil es h0
          rw [← hrow.lens e he]; exact hl e he
        subst hkk
        exact mk rfl hrow
  | hdr id s l =>
    have hso := src_own (h := h) (v := .hdr id s l) he R hl id s l rfl
    obtain ⟨ob, hob, hko⟩ := hso
    simp only [elems, hob] at he
    split at he
    case isFalse => cases he
    rename_i hsl
    simp only [Option.some.injEq, Prod.mk.injEq] at he
    obtain ⟨rfl, rfl⟩ := he
    obtain ⟨ad, cap, rfl, B⟩ := based R hr hob
    have hln : ((ob.es.drop s).take l).length = l := by simp; omega
    refine ⟨fun w' => by rw [hln]; simp [Builtin.lenOf], ?_⟩
    by_cases h0 : (ob.es.drop s).take l = []
    · exact mk0 h0
    · rcases B.place with hp | ⟨b, o, c, el, hs, rfl, hb, hle, hle2, hrow⟩
      · exfalso
        have := B.le
        rw [hp] at this
        apply h0
        have : l = 0 := by omega
        subst this; simp
      · have hk' := hko h0
        have := hrow.seg s l
        rw [hk'] at this
        exact mk (by rw [hk']) this
  | str s => cases hns
  | _ => simp [elems] at he

theorem sim_copy {args : Array Operand} {tys : Array TypeId} (ho : o.op = .call ⟨.builtin .copy, args, tys⟩) {t u : TypeId} {r : List TypeId} (hty : tys.toList = t :: u :: r)
    (hu : X.P.underlying t = some (.slice (X.ti t).elem)) (T : TIOk X.P (X.ti t).elem (X.ti (X.ti t).elem))
    (R : Rel w I σ S.h) (F : FRel w I σ S.f a) (hx : Opds o) (fid : FuncId) {v0 : V} {hh0 : Heap} {nn0 : Nat} (he : evCore X fid o S.ev S.h S.n = some (v0, hh0, nn0)) (hs1 : S1 = ({ S with h := hh0, n := nn0 } : St).set o.dst v0) : Out X o a w I σ S S1 := by
  have ht0 : tys.getD 0 0 = t := by
    have := (tys2 hty).1
    simp [Array.getD_eq_getD_getElem?, this]
  simp only [evCore, ho, ht0] at he
  split at he
  case h_2 => cases he
  rename_i id s l x hargs
  cases hal : args.toList with
  | nil => simp [hal] at hargs
  | cons p q =>
  cases q with
  | nil => simp [hal] at hargs
  | cons q q2 =>
  cases q2 with
  | cons _ _ => simp [hal] at hargs
  | nil =>
  simp only [hal, List.map_cons, List.map_nil, List.cons.injEq, and_true] at hargs
  obtain ⟨hp, rfl⟩ := hargs
  have harg := list2 hal
  have r1 : Rep w I σ (S.ev p) (a.eval p) := ev_rep (S := S) F (hx p (by simp [ho, Op.operands, Call.operands, harg]))
  have r2 : Rep w I σ (S.ev q) (a.eval q) := ev_rep (S := S) F (hx q (by simp [ho, Op.operands, Call.operands, harg]))
  rw [hp] at r1
  cases hob : S.h id with
  | none => simp [hob] at he
  | some ob =>
  cases he2 : elems S.h (S.ev q) with
  | none => simp [hob, he2] at he
  | some y2 =>
  obtain ⟨xs, kx⟩ := y2
  simp only [hob, he2] at he
  split at he
  · cases he
  rename_i hc1
  simp only [Bool.or_eq_true, Bool.and_eq_true, Bool.not_eq_true', not_or, not_and, Bool.not_eq_false, Bool.not_eq_true] at hc1
  obtain ⟨⟨hns, hkx⟩, hlen⟩ := hc1
  have hxl := all_len hlen
  split at he
  case isFalse => cases he
  rename_i hfit
  simp only [Option.some.injEq, Prod.mk.injEq] at he
  obtain ⟨rfl, rfl, rfl⟩ := he
  subst hs1
  obtain ⟨hln, news, hnl, hfc, hnr⟩ := first_sim (P := X.P) R r2 he2 hns hxl (min xs.length l) (Nat.min_le_left _ _)
  obtain ⟨ad, cap, hpv, B⟩ := based R r1 hob
  have hrun : ∀ {v : Value} {w' : World}, (Builtin.copy_ #[t, u] o.type #[a.eval p, a.eval q]).run X.P w = .ok v w' → (execOp a.eval o).run X.P w = .ok (.value v) w' := by
    intro v w' hh
    simp [execOp, ho, harg, resolve, invoke, builtin, copy_tys hty, hh]
  have hmin : Nat.min xs.length l = min xs.length l := rfl
  have hsz := run_sizeOf T w
  by_cases h0 : min xs.length l = 0
  · refine ⟨.value (.int .i64 ((min xs.length l : Nat) : Int)), w, I, σ, _, .int .i64 ((min xs.length l : Nat) : Int), ?_, .inl rfl, ?_, set_f _ _ _ _ rfl, by simp [Rep]⟩
    · have hnews : news = [] := by
        rw [h0] at hnl; simpa using hnl
      subst hnews
      rw [h0] at hfc ⊢
      apply hrun
      cases ad with
      | none => simp [Builtin.copy_, run_underlying hu, hpv, hln, hmin, h0, hsz, ← hfit.2, hfc, goInt]
      | some ad => simp [Builtin.copy_, run_underlying hu, hpv, hln, hmin, h0, hsz, ← hfit.2, hfc, goInt, storeCells]
    · rw [set_h, set_n]
      have : upd S.h id (some { ob with es := ob.es.take s ++ xs.take (min xs.length l) ++ ob.es.drop (s + min xs.length l) }) = S.h := by
        funext i
        simp only [upd, h0, List.take_zero, List.append_nil, Nat.add_zero, List.take_append_drop]
        split
        · rename_i e; subst e; exact hob.symm
        · rfl
      rw [this]
      exact Step.refl R _
  · have hle := B.le
    rcases B.place with hp0 | ⟨b, of, c, el, hsg, rfl, hbl, hle1, hle2, hrow⟩
    · omega
    · generalize hm : min xs.length l = m at *
      have hml : m ≤ l := by omega
      have hmx : m ≤ xs.length := by omega
      have hI : ¬ I b := (R.owned ⟨id, ob, of, ob.k, hob, hsg⟩).1
      have hmul : (s + l) * ob.k ≤ ob.es.length * ob.k := Nat.mul_le_mul_right _ hfit.1
      have hmul2 : m * ob.k ≤ l * ob.k := Nat.mul_le_mul_right _ hml
      rw [Nat.add_mul] at hmul
      have hfit2 : of + s * ob.k + news.length ≤ c.size := by rw [hnl]; omega
      have E : Ext w I σ (w.setRow b (over c (of + s * ob.k) news)) I σ := Ext.setRow hI hbl (over_size hfit2)
      have hset := setRow_heap w b c (over c (of + s * ob.k) news) el (0, 0) hbl
      have hst := run_storeCells_at X.P b (of + s * ob.k) el news 0 c w hbl (by simpa using hfit2) hnr.ones
      simp only [Nat.add_zero] at hst
      obtain ⟨us, hul, huc, hur⟩ := row_flat hrow
      have hrow' : RepRow (w.setRow b (over c (of + s * ob.k) news)) I (osig ob.keep σ) (ob.es.take s ++ xs.take m ++ ob.es.drop (s + m)) ob.k b of := by
        have hA := hrow.seg 0 s
        simp only [List.drop_zero, Nat.zero_mul, Nat.add_zero] at hA
        obtain ⟨ua, hual, huac, huar⟩ := row_flat hA
        have hC := hrow.seg (s + m) (ob.es.length - (s + m))
        rw [List.take_of_length_le (by simp)] at hC
        obtain ⟨uc, hucl, hucc, hucr⟩ := row_flat hC
        have htl : (ob.es.take s).length = s := by simp; omega
        have hdl : (ob.es.drop (s + m)).length = ob.es.length - (s + m) := by simp
        rw [htl] at hual
        rw [hdl] at hucl
        have hsplit : (s + m) * ob.k = s * ob.k + m * ob.k := Nat.add_mul ..
        refine flat_row (E.ofKeep ob.keep) (us := ua ++ news ++ uc) (fun v hv => ?_) ?_ (fun j v hv => ?_)
        · rcases List.mem_append.1 hv with hv | hv
          · rcases List.mem_append.1 hv with hv | hv
            · exact hrow.lens v (List.mem_of_mem_take hv)
            · exact hxl v (List.mem_of_mem_take hv)
          · exact hrow.lens v (List.mem_of_mem_drop hv)
        · rw [flat_append, flat_append]
          exact (huar.append (RepC.ext' _ _ (osig_le hkx) hnr)).append hucr
        · rw [cell_of_row _ _ _ _ _ _ hset, over_get hfit2]
          have hjl := (List.getElem?_eq_some_iff.1 hv).1
          rw [List.length_append, List.length_append] at hjl
          by_cases hj : j < ua.length
          · rw [List.append_assoc, List.getElem?_append_left hj] at hv
            rw [if_neg (by omega)]
            have := huac j v hv
            rwa [cell_of_row _ _ _ _ _ _ hbl] at this
          · by_cases hj2 : j < (ua ++ news).length
            · rw [List.getElem?_append_left hj2, List.getElem?_append_right (by omega)] at hv
              rw [List.length_append] at hj2
              rw [if_pos (by omega), show of + j - (of + s * ob.k) = j - ua.length by omega]
              exact hv
            · rw [List.getElem?_append_right (by omega), List.length_append] at hv
              rw [List.length_append] at hj2
              rw [if_neg (by omega)]
              have := hucc _ v hv
              rw [cell_of_row _ _ _ _ _ _ hbl] at this
              rwa [show of + (s + m) * ob.k + (j - (ua.length + news.length)) = of + j by omega] at this
      have hlen2 : (ob.es.take s ++ xs.take m ++ ob.es.drop (s + m)).length = ob.es.length := by simp; omega
      have s1 := R.write (keep := ob.keep) hob hsg hbl (over_size hfit2) (by rw [hlen2]; exact hle1) hrow' S.n
      refine ⟨.value (.int .i64 ((m : Nat) : Int)), w.setRow b (over c (of + s * ob.k) news), I, σ, _, .int .i64 ((m : Nat) : Int), ?_, .inl rfl, ?_, set_f _ _ _ _ rfl, by simp [Rep]⟩
      rotate_left
      · rw [set_h, set_n]; exact s1
      · apply hrun
        simp [Builtin.copy_, run_underlying hu, hpv, hln, hmin, hm, hsz, ← hfit.2, hfc, goInt, hst, over]

end
end Go.Abs
