/- slices.Clone. -/
import Derived.Test.YtcbddnmodlhnaaaB8
import Derived.Lib.SliceRun
set_option linter.unusedVariables false
set_option linter.unusedSimpArgs false
namespace Go.Abs
open Go

/-- an operation without a guard, by destination and kind -/
structure Is (o : Oper) (d : Nat) (op : Op) : Prop where
  dst : o.dst = some d
  op : o.op = op
  guard : o.guard = none

def cloneCode (i0 i1 i2 i3 : Nat) (a b c d e f g h : Oper) : Code :=
  .seq (.region i0 #[a] false) (.seq (.seq (.region i1 #[b, c] false) (.cond (.tmp 4) (.seq (.region i2 #[d] false) .ret) .skip)) (.seq (.region i3 #[e, f, g, h] false) .ret))

/-- a function that is slices.Clone at a slice type -/
structure IsClone (X : Env) (g : FuncId) (t : TypeId) : Prop where
  slice : X.P.underlying t = some (.slice (X.ti t).elem)
  elem : tB X (X.ti t).elem = true
  body : ∃ fn ty ty1 i0 i1 i2 i3 oa ob oc od oe of og oh, X.P.funcs[g]? = some fn ∧ fn.body = some (cloneCode i0 i1 i2 i3 oa ob oc od oe of og oh) ∧ fn.ntmps = 8 ∧ fn.results = #[.tmp 2] ∧ (fn.name == "runtime.NumGoroutine") = false ∧
    Is oa 2 (.assign (.const (.slice none 0 0))) ∧ Is ob 3 (.move (.tmp 0)) ∧ Is oc 4 (.binOp .eql t (.tmp 3) (.const (.slice none 0 0)) ty) ∧ Is od 2 (.assign (.const (.slice none 0 0))) ∧
    Is oe 5 (.buildSlice t 0 #[]) ∧ Is of 6 (.move (.tmp 0)) ∧ Is og 7 (.call ⟨.builtin .append, #[.tmp 5, .tmp 6], #[t, ty1]⟩) ∧ ty1 = t ∧ Is oh 2 (.assign (.tmp 7))

theorem wpOps_value {P : Program} {ops : Array Oper} {Q : Exit → Act → World → Prop} {i d : Nat} {rest : List Nat} {a : Act} {w w' : World} {o : Oper} {op : Op} {v : Value} (ho : Is o d op) (hi : ops[i]? = some o)
    (hr : (execOp a.eval o).run P w = .ok (.value v) w') (hn : wpOps P ops Q rest (a.put (some d) v) w') : wpOps P ops Q (i :: rest) a w := by
  simp only [wpOps, hi, Region.wanted, ho.guard, if_true]
  left
  unfold Oper.wp
  rw [hr]
  simp only [Oper.upon, ho.dst]
  exact hn

/-- a block that nobody speaks of -/
theorem Step.alloc {w : World} {I : Nat → Prop} {σ : Sig} {h : Heap} (R : Rel w I σ h) (ob : Obj) (n : Nat) : Step w I σ h n (w.alloc ob) I σ h n :=
  ⟨Ext.alloc R.imm ob, R.alloc ob, rfl, rfl, rfl, by rw [alloc_size]; omega, fun b hb _ => aold w ob b hb, fun _ hb => .inr hb, fun _ hb => .inl hb, Nat.le_refl _, fun _ _ => rfl, fun _ _ hn => hn⟩

theorem clone_ok {X : Env} (hcl : ∀ g t, X.clone g = some t → IsClone X g t) : CloneOk X := by
  intro g t hg w I σ h n s u es kx R hn hs hr he hns hkx hl hb hm
  obtain ⟨hu, hT, fn, ty, ty1, i0, i1, i2, i3, oa, ob, oc, od, oe, of, og, oh, hf, hbody, hnt, hres, _, ha, hb', hc, hd, hee, hff, hgg, rfl, hh⟩ := hcl g t hg
  have T := tB_ok hT
  -- what the argument is
  have hval : ∃ ad l cap, u = .slice ad l cap ∧ l = es.length ∧ (ad = none → es = []) := by
    cases s with
    | sl c es' =>
      simp only [elems, Option.some.injEq, Prod.mk.injEq] at he
      obtain ⟨rfl, _⟩ := he
      simp only [Rep] at hr
      obtain ⟨ad, cap, rfl, _, _, _, h4⟩ := hr
      refine ⟨ad, _, cap, rfl, rfl, fun h => ?_⟩
      rcases h4 with h4 | ⟨b, o, k, ha', _⟩
      · exact h4
      · rw [h] at ha'; cases ha'
    | hdr id st l =>
      simp only [elems] at he
      cases hob : h id with
      | none => simp [hob] at he
      | some ob' =>
        simp only [hob] at he
        split at he
        case isFalse => cases he
        rename_i hsl
        simp only [Option.some.injEq, Prod.mk.injEq] at he
        obtain ⟨rfl, _⟩ := he
        have hlen : ((ob'.es.drop st).take l).length = l := by simp; omega
        obtain ⟨ad, cap, rfl, B⟩ := based R hr hob
        refine ⟨ad, l, cap, rfl, hlen.symm, fun h => ?_⟩
        rcases B.place with hp | ⟨b, o, c, el, _, ha', _⟩
        · apply List.eq_nil_of_length_eq_zero
          rw [hlen]; have := B.le; omega
        · rw [h] at ha'; cases ha'
    | str x => cases hns
    | _ => simp [elems] at he
  obtain ⟨ad, l, cap, rfl, rfl, hnil⟩ := hval
  have hxi := src_own (h := h) (v := s) he R hl
  have huk : (∃ e', X.P.underlying ty1 = some (.slice e')) ∨ X.P.underlying ty1 = some .string := .inl ⟨_, hu⟩
  refine calls_of_wp hf hbody ?_
  rw [hnt]
  have h0 : (#[Value.slice ad es.length cap] ++ Array.replicate (8 - #[Value.slice ad es.length cap].size) undef) = #[.slice ad es.length cap, undef, undef, undef, undef, undef, undef, undef] := rfl
  rw [h0]
  refine wp_seq (wp_region ?_)
  refine wpOps_value (i := 0) ha rfl (v := .slice none 0 0) (w' := w) (by simp [execOp, ha.op, Act.eval]) ?_
  refine wp_seq (wp_seq (wp_region ?_))
  refine wpOps_value (i := 0) hb' rfl (v := .slice ad es.length cap) (w' := w) (by simp [execOp, hb'.op, Act.eval, Act.put, ha.dst]) ?_
  refine wpOps_value (i := 1) hc rfl (v := .bool ad.isNone) (w' := w) ?_ ?_
  · have h1 := Go.Lib.run_eql_slice_nil (P := X.P) w ty1 _ ad es.length cap 0 0 hu
    simp [execOp, hc.op, Act.eval, Act.put, eqGuard, h1]
  show Code.wp _ _ _ _ _
  cases ad with
  | none =>
    have hes := hnil rfl
    subst hes
    refine wp_cond_true (by simp [Act.eval, Act.put]) ?_
    refine wp_seq (wp_region ?_)
    refine wpOps_value (i := 0) hd rfl (v := .slice none 0 0) (w' := w) (by simp [execOp, hd.op, Act.eval]) ?_
    refine wp_ret ?_
    refine ⟨rfl, .slice none 0 0, ?_, .slice none 0 0, σ, rfl, Step.nil R hn hs, ?_⟩
    · simp [results, hres, Act.put]
    · simp only [Rep]
      exact ⟨none, 0, rfl, by simp, by simp [maxLen], .inl rfl⟩
  | some ad =>
    refine wp_cond_false (by simp [Act.eval, Act.put]) ?_
    refine wp_skip ?_
    refine wp_seq (wp_region ?_)
    obtain ⟨us, hbs, _, _, _⟩ := buildSlice_run (X := X) (t := ty1) (n := 0) hu T (by simp) (ps := []) (es := []) (ups := #[]) (w := w) (J := I) (τ := σ) (by simp [RepL]) (by simp) (by simp [fillE])
    refine wpOps_value (i := 0) hee rfl (v := .slice (some ⟨w.heap.size, 0, none⟩) 0 0) (w' := w.alloc (.cells us (X.ti ty1).elem)) (by simp [execOp, hee.op, hbs]) ?_
    refine wpOps_value (i := 1) hff rfl (v := .slice (some ad) es.length cap) (w' := w.alloc (.cells us (X.ti ty1).elem)) (by simp [execOp, hff.op, Act.eval, Act.put]) ?_
    have s1 := Step.alloc R (.cells us (X.ti ty1).elem) n
    obtain ⟨news, hsrc, hnr⟩ := src_sim huk s1.rel (hr.ext s1.ext) he hl hxi
    have hb0 : Rep (w.alloc (.cells us (X.ti ty1).elem)) I σ (.sl true []) (.slice (some ⟨w.heap.size, 0, none⟩) 0 0) := by
      simp only [Rep]
      exact ⟨some ⟨w.heap.size, 0, none⟩, 0, rfl, by simp, by simp [maxLen], fun _ => rfl, .inl trivial⟩
    obtain ⟨v, w', σ', h1, h2, h3⟩ := append_nothing (ty := og.type) (kp := X.keepT (X.ti ty1).elem) s1.rel hu T hb0 hkx hl hsrc hnr hn hs hb hm
    refine wpOps_value (i := 2) hgg rfl (v := v) (w' := w') (by simp [execOp, hgg.op, Act.eval, Act.put, hee.dst, hff.dst, resolve, invoke, builtin, h1]) ?_
    refine wpOps_value (i := 3) hh rfl (v := v) (w' := w') (by simp [execOp, hh.op, Act.eval, Act.put]) ?_
    refine wp_ret ?_
    refine ⟨rfl, v, ?_, v, σ', rfl, s1.trans h2, h3⟩
    simp [results, hres, Act.put]

theorem clone_good {X : Env} (hcl : ∀ g t, X.clone g = some t → IsClone X g t) : ∀ g t, X.clone g = some t → GoodF X g := by
  intro g t hg
  obtain ⟨_, _, fn, ty, ty1, i0, i1, i2, i3, oa, ob, oc, od, oe, of, og, oh, hf, hbody, _, _, hname, _⟩ := hcl g t hg
  exact ⟨fn, _, hf, hbody, by simpa using hname⟩

/-- the check of the functions from a number on -/
def okB (X : Env) (a n : Nat) : Bool := (List.range' a n).all fun g => match X.P.funcs[g]? with | some fn => fnB X (drawB X) g fn | none => true

theorem okB_use {X : Env} {a n g : Nat} {fn : Func} (h : okB X a n = true) (h1 : a ≤ g) (h2 : g < a + n) (hf : X.P.funcs[g]? = some fn) : fnB X (drawB X) g fn = true := by
  have := List.all_eq_true.1 h g (List.mem_range'_1.2 ⟨h1, h2⟩)
  simpa [hf] using this

theorem callOk_of {X : Env} (hA : AllOk X (drawB X)) (hcl : ∀ g t, X.clone g = some t → IsClone X g t) : CallOk X (callL X) :=
  callL_ok hA (clone_ok hcl) (clone_good hcl) (drawOk X)

end Go.Abs
