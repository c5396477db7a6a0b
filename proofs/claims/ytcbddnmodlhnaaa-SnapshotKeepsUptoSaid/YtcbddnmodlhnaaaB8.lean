/- Regions in any order. -/
import Derived.Test.YtcbddnmodlhnaaaB7
set_option linter.unusedVariables false
set_option linter.unusedSimpArgs false
namespace Go.Abs
open Go

section
variable {X : Env} {C : CallT} {fid : FuncId} {id nt : Nat} {ops : Array Oper} {S F : St} {T : Nat → St} {B : Nat → List Nat}

theorem all_done (t : Tr X C fid id ops S F T B) {E : Nat → Prop} {p : Nat} (g : Stg X fid ops B E p) (hall : ∀ k, k < ops.size → E k) : SE X fid ops S F T E p = F := by
  obtain ⟨q1, q2, q3⟩ := t.quiet ops.size g.le (Nat.le_refl _) fun k ok h1 h2 hok h3 => by
    have := (g.iff k ok hok h3).1 (hall k h2)
    omega
  rw [t.tN] at q1 q2 q3
  refine st_ext ?_ ?_ ?_
  · funext x
    simp only [SE]
    split
    · rfl
    · rename_i hx
      have := t.f_init (x := x) (fun k o h1 h2 => hx ⟨k, o, hall k (op_lt h1), h1, h2⟩) ops.size (Nat.le_refl _)
      rw [t.tN] at this
      exact this.symm
  · funext i
    simp only [SE]
    split
    · rename_i hx
      obtain ⟨k, ok, rfl, hok, h2, hE, hpk⟩ := hx
      rw [show S.n + k - S.n + 1 = k + 1 by omega, ← q3 k ok hpk (op_lt hok) hok h2]
    · rename_i hx
      rw [q2 i fun k ok h1 h2 hok h3 e => hx ⟨k, ok, e, hok, h3, hall k h2, h1⟩]
  · exact q1.symm

theorem any_run (hC : CallOk X C) (hK : CloneOk X) (hG : ∀ fid dst g args S S1, evCall X C fid dst g args S = some S1 → GoodF X g) (hB : ∀ o ∈ ops.toList, opB X nt o = true) (t : Tr X C fid id ops S F T B)
    {Q : Exit → Act → World → Prop} {w : World} {I : Nat → Prop} {σ : Sig} (hQ : ∀ a' w', PostOf nt S.n w I σ S.h F a' w' → Q .normal a' w') :
    ∀ (fuel : Nat) (listed : Array Bool) (E : Nat → Prop) (p : Nat) (U : List Nat) (a' : Act) (w' : World) (I' : Nat → Prop) (σ' : Sig), listed.size = ops.size → (∀ k, E k ↔ listed.getD k false = true) → Stg X fid ops B E p →
      U.Nodup → U.length = fuel → (∀ k, k < ops.size → (¬ E k ↔ k ∈ U)) →
      Step w I σ S.h S.n w' I' σ' (SE X fid ops S F T E p).h (SE X fid ops S F T E p).n → FRel w' I' σ' (SE X fid ops S F T E p).f a' → Fresh σ' (SE X fid ops S F T E p).h (SE X fid ops S F T E p).n → nt ≤ a'.tmps.size → a'.defers = [] →
      (∀ q, q < ops.size → ¬ E q → (SE X fid ops S F T E p).h (S.n + q) = none ∧ σ' (S.n + q) = none) →
      wpAny X.P .any ops Q fuel listed a' w' := by
  have nready : ∀ {listed : Array Bool} {E : Nat → Prop}, listed.size = ops.size → (∀ k, E k ↔ listed.getD k false = true) → Region.ready .any ops listed = [] → ∀ k, k < ops.size → E k := by
    intro listed E hs hE hr k
    induction k using Nat.strongRecOn with
    | _ k ih =>
      intro hk
      by_cases hEk : E k
      · exact hEk
      · exfalso
        have ho := op_at (ops := ops) hk
        have hmem : k ∈ Region.ready .any ops listed := by
          rw [mem_ready]
          have hl : listed.getD k false = false := by
            have := mt (hE k).2 hEk
            simpa using this
          refine ⟨?_, ops.toList[k], by rw [← Array.getElem?_toList]; exact ho, fun e he hb => ?_⟩
          · rw [Array.getD_eq_getD_getElem?] at hl ⊢
            have : listed[k]? = some (listed[k]'(by omega)) := by simp [hs, hk]
            rw [this] at hl ⊢
            exact hl
          · have hlt := t.draw.edge k _ e ho he hb
            exact (hE e.on).1 (ih e.on hlt (by omega))
        rw [hr] at hmem
        cases hmem
  have fin : ∀ {E : Nat → Prop} {p : Nat} {a' : Act} {w' : World} {I' : Nat → Prop} {σ' : Sig}, Stg X fid ops B E p → (∀ k, k < ops.size → E k) → Step w I σ S.h S.n w' I' σ' (SE X fid ops S F T E p).h (SE X fid ops S F T E p).n → FRel w' I' σ' (SE X fid ops S F T E p).f a' →
      Fresh σ' (SE X fid ops S F T E p).h (SE X fid ops S F T E p).n → nt ≤ a'.tmps.size → a'.defers = [] → Q .normal a' w' := by
    intro E p a' w' I' σ' g hall hst hF hfr hs hd
    rw [all_done t g hall] at hst hF hfr
    exact hQ a' w' ⟨I', σ', hst.le, hst, hF, hfr, hs, hd⟩
  intro fuel
  induction fuel with
  | zero =>
    intro listed E p U a' w' I' σ' hls hE g hnd hU hUE hst hF hfr hs hd hq
    have hall : ∀ k, k < ops.size → E k := fun k hk => by
      have : U = [] := List.eq_nil_of_length_eq_zero hU
      by_cases h : E k
      · exact h
      · have := (hUE k hk).1 h
        simp_all
    refine ⟨?_, fin g hall hst hF hfr hs hd⟩
    cases hr : Region.ready .any ops listed with
    | nil => rfl
    | cons k r =>
      exfalso
      have hm : k ∈ Region.ready .any ops listed := by rw [hr]; simp
      rw [mem_ready] at hm
      obtain ⟨h1, o, h2, _⟩ := hm
      have hk : k < ops.size := (Array.getElem?_eq_some_iff.1 h2).1
      have := (hE k).1 (hall k hk)
      rw [Array.getD_eq_getD_getElem?] at h1 this
      have h3 : listed[k]? = some (listed[k]'(by omega)) := by simp [hls, hk]
      rw [h3] at h1 this
      simp at h1 this
      rw [h1] at this; cases this
  | succ fuel ih =>
    intro listed E p U a' w' I' σ' hls hE g hnd hU hUE hst hF hfr hs hd hq
    refine ⟨fun hr => fin g (nready hls hE hr) hst hF hfr hs hd, fun j hj => ?_⟩
    rw [mem_ready] at hj
    obtain ⟨h1, o, hoa, hedges⟩ := hj
    have hjl : j < ops.size := (Array.getElem?_eq_some_iff.1 hoa).1
    have ho : ops.toList[j]? = some o := by rw [Array.getElem?_toList]; exact hoa
    have hlj : listed[j]? = some (listed[j]'(by omega)) := by simp [hls, hjl]
    have hEj : ¬ E j := fun h => by
      have := (hE j).1 h
      rw [Array.getD_eq_getD_getElem?] at h1 this
      rw [hlj] at h1 this
      simp at h1 this
      rw [h1] at this; cases this
    have hb : ∀ i ∈ B j, E i := fun i hi => by
      obtain ⟨e, he, hbn, hor⟩ := t.draw.bef j o i ho hi
      have hEe := (hE e.on).2 (hedges e he hbn)
      rcases hor with rfl | hor
      · exact hEe
      · exact g.closed _ hEe i hor
    obtain ⟨p', g', hstep⟩ := adv t g ho hEj hb
    have hoB : opB X nt o = true := hB o (by
      have := Array.mem_of_getElem? hoa
      simpa using this)
    have hdst : ∀ x, o.dst = some x → x < a'.tmps.size := fun x hx => Nat.lt_of_lt_of_le (opB_dst hoB x hx) hs
    have hE' : ∀ k, (E k ∨ k = j) ↔ (listed.setIfInBounds j true).getD k false = true := by
      intro k
      rw [Array.getD_eq_getD_getElem?]
      by_cases hkj : k = j
      · subst hkj
        simp [hls, hjl]
      · have := hE k
        rw [Array.getD_eq_getD_getElem?] at this
        rw [Array.getElem?_setIfInBounds_ne (Ne.symm hkj), ← this]
        simp [hkj]
    have hjU : j ∈ U := (hUE j hjl).1 hEj
    have hUE' : ∀ k, k < ops.size → (¬ (E k ∨ k = j) ↔ k ∈ U.erase j) := by
      intro k hk
      rw [hnd.mem_erase_iff, ← hUE k hk]
      constructor
      · intro h; exact ⟨fun e => h (.inr e), fun e => h (.inl e)⟩
      · rintro ⟨h1, h2⟩ (h | h)
        · exact h2 h
        · exact h1 h
    have hnn : S.n + ops.size ≤ (SE X fid ops S F T E p).n := t.n_le p g.le
    have next : ∀ (a2 : Act) (w2 : World) (I2 : Nat → Prop) (σ2 : Sig), Step w I σ S.h S.n w2 I2 σ2 (SE X fid ops S F T (fun k => E k ∨ k = j) p').h (SE X fid ops S F T (fun k => E k ∨ k = j) p').n → FRel w2 I2 σ2 (SE X fid ops S F T (fun k => E k ∨ k = j) p').f a2 →
        Fresh σ2 (SE X fid ops S F T (fun k => E k ∨ k = j) p').h (SE X fid ops S F T (fun k => E k ∨ k = j) p').n → nt ≤ a2.tmps.size → a2.defers = [] →
        (∀ q, q < ops.size → ¬ (E q ∨ q = j) → (SE X fid ops S F T (fun k => E k ∨ k = j) p').h (S.n + q) = none ∧ σ2 (S.n + q) = none) → wpAny X.P .any ops Q fuel (listed.setIfInBounds j true) a2 w2 :=
      fun a2 w2 I2 σ2 k1 k2 k3 k4 k5 k6 => ih _ _ p' (U.erase j) a2 w2 I2 σ2 (by simp [hls]) hE' g' (hnd.erase j) (by rw [List.length_erase_of_mem hjU, hU]; rfl) hUE' k1 k2 k3 k4 k5 k6
    generalize SE X fid ops S F T (fun k => E k ∨ k = j) p' = Z at *
    generalize SE X fid ops S F T E p = A at *
    unfold wpOp
    simp only [hoa]
    have run : stepOp X C fid S.n j o A = some Z → o.wp X.P a' w' (wpAny X.P .any ops Q fuel (listed.setIfInBounds j true)) Q := by
      intro hs1
      refine Oper.wp_mono (fun a2 w2 hh => ?_) (sim_step hC hK hG hoB hs1 hst.rel hF hfr (hq j hjl hEj).1 (hq j hjl hEj).2 (by omega) Q)
      obtain ⟨u, v, I2, σ2, rfl, hrep, hf, hst2, hle, hfr2, hfresh⟩ := hh
      exact next _ _ I2 σ2 (hst.join hst2 (Nat.le_refl _) hle) ((hF.ext hst2.ext).putd hrep o.dst hdst hf) hfr2 (by rw [put_size]; exact hs) (by rw [put_defers]; exact hd)
        fun q hq1 hq2 => hfresh q (fun e => hq2 (.inr e)) (by omega) (hq q hq1 fun e => hq2 (.inl e)).1 (hq q hq1 fun e => hq2 (.inl e)).2
    have skip : A.set o.dst (.tup []) = Z → wpAny X.P .any ops Q fuel (listed.setIfInBounds j true) (a'.put o.dst undef) w' := by
      intro hs1
      subst hs1
      refine next _ _ I' σ' (by rw [set_h, set_n]; exact hst) (hF.putd undef_rep o.dst hdst rfl) (by rw [set_h, set_n]; exact hfr) (by rw [put_size]; exact hs) (by rw [put_defers]; exact hd) fun q hq1 hq2 => ?_
      rw [set_h]; exact hq q hq1 fun e => hq2 (.inl e)
    unfold stepG at hstep
    split at hstep
    · rename_i hg
      have hw : Region.wanted o (yielded ops a'.tmps) = true := by simp [Region.wanted, hg]
      simp only [hw, if_true]
      exact .inl (run hstep)
    · rename_i i want hg
      split at hstep
      case h_2 => cases hstep
      rename_i d hd'
      have hwr := wanted_rep hF hg hd'
      split at hstep
      · rename_i b hbb
        have hw := hwr.1 b hbb
        split at hstep
        · rename_i hbw
          subst hbw
          rw [beq_self_eq_true] at hw
          simp only [hw, if_true]
          exact .inl (run hstep)
        · rename_i hbw
          have : (b == want) = false := by simpa using hbw
          rw [this] at hw
          simp only [hw, Bool.false_eq_true, if_false]
          exact skip (by simpa using hstep)
      · rename_i hbb
        have hw := hwr.2 hbb
        simp only [hw, Bool.false_eq_true, if_false]
        exact skip (by simpa using hstep)
      · cases hstep

theorem drawOk (X : Env) : DrawOk X (drawB X) := by
  intro C hC hN hK hG fid id nt ops S F hB hdr hev hstab a w I σ R hF hfr hs hd Q hQ
  obtain ⟨T, h0, hn, hpre, hst⟩ := trace hev
  have hlen : ops.toList.length = ops.size := Array.length_toList
  have t : Tr X C fid id ops S F T (fun j => (ancs ops.toList).getD j []) :=
    ⟨drawB_spec hdr, hN, h0, by rw [← hlen]; exact hn, hst, fun p hp => hpre p (by omega), hstab, fun i hi => (hfr i hi).1⟩
  refine wp_region_any t.draw.mixed ?_
  have g : Stg X fid ops (fun j => (ancs ops.toList).getD j []) (fun _ => False) 0 := ⟨fun _ h => h.elim, fun _ h => h.elim, by omega, .inl rfl, fun w o _ _ => ⟨fun h => h.elim, fun h => by omega⟩⟩
  have hSE : SE X fid ops S F T (fun _ => False) 0 = { S with n := S.n + ops.size } := by
    refine st_ext ?_ ?_ ?_
    · funext x
      simp only [SE]
      rw [if_neg (fun ⟨_, _, h, _⟩ => h)]
    · funext i
      simp only [SE]
      rw [if_neg (fun ⟨_, _, _, _, _, h, _⟩ => h), h0]
    · simp only [SE]; rw [h0]
  have hdrew := Step.drew R S.n
  refine any_run hC hK hG hB t (w := w) (I := I) (σ := σ) hQ ops.size _ (fun _ => False) 0 (List.range ops.size) a w.drew I σ (by simp) (fun k => ?_) g List.nodup_range (by simp) (fun k hk => by simp [hk]) ?_ ?_ ?_ hs hd ?_
  · constructor
    · intro h; exact h.elim
    · intro h
      rw [Array.getD_eq_getD_getElem?, Array.getElem?_replicate] at h
      split at h <;> simp at h
  · rw [hSE]; exact hdrew.widen (Nat.le_refl _) (by simp)
  · rw [hSE]; exact hF.ext hdrew.ext
  · rw [hSE]; exact fun i hi => hfr i (by simp only at hi; omega)
  · intro q _ _
    rw [hSE]
    exact hfr _ (by omega)
end
end Go.Abs
