/- A value of the call's own, handed to another as an immutable one. -/
import Derived.Test.YtcbddnmodlhnaaaA18
set_option linter.unusedVariables false
set_option linter.unusedSimpArgs false
namespace Go.Abs
open Go

theorem allSome_map {α β : Type} (f : α → Option β) : ∀ {l : List α} {r : List β}, allSome (l.map f) = some r → l.length = r.length ∧ ∀ (j : Nat) x y, l[j]? = some x → r[j]? = some y → f x = some y
  | [], r, h => by
    simp only [List.map_nil, allSome, Option.some.injEq] at h
    subst h; simp
  | x :: l, r, h => by
    simp only [List.map_cons] at h
    cases hx : f x with
    | none => simp [allSome, hx] at h
    | some y =>
      simp only [allSome, hx] at h
      split at h
      · rename_i l' hl
        simp only [Option.some.injEq] at h
        subst h
        obtain ⟨h1, h2⟩ := allSome_map f hl
        refine ⟨by simp [h1], fun j a b ha hb => ?_⟩
        cases j with
        | zero => simp at ha hb; subst ha; subst hb; exact hx
        | succ j => exact h2 j a b (by simpa using ha) (by simpa using hb)
      · cases h

section
variable {w : World} {I J : Nat → Prop} {σ : Sig} {h : Heap}

theorem toImm_agg {d : Nat} {cs : List V} {v' : V} (ht : toImm h (d + 1) (.agg cs) = some v') : ∃ l, v' = .agg l ∧ allSome (cs.map (toImm h d)) = some l := by
  simp only [toImm] at ht
  split at ht
  · rename_i l hl
    simp only [Option.some.injEq] at ht
    exact ⟨l, ht.symm, hl⟩
  · cases ht

theorem toImm_tup {d : Nat} {cs : List V} {v' : V} (ht : toImm h (d + 1) (.tup cs) = some v') : ∃ l, v' = .tup l ∧ allSome (cs.map (toImm h d)) = some l := by
  simp only [toImm] at ht
  split at ht
  · rename_i l hl
    simp only [Option.some.injEq] at ht
    exact ⟨l, ht.symm, hl⟩
  · cases ht

/-- what is no aggregate is none afterwards either -/
theorem toImm_one {d : Nat} {v v' : V} (ht : toImm h d v = some v') (hv : ∀ cs, v ≠ .agg cs) : ∀ cs, v' ≠ .agg cs := by
  intro cs e
  subst e
  cases v with
  | agg cs' => exact hv cs' rfl
  | tup cs' =>
    cases d with
    | zero => simp [toImm] at ht
    | succ d => obtain ⟨l, h1, _⟩ := toImm_tup ht; cases h1
  | hdr id s l =>
    cases d with
    | zero => simp [toImm] at ht
    | succ d =>
      simp only [toImm] at ht
      split at ht
      · split at ht
        · split at ht
          · split at ht
            · cases ht
            · cases ht
          · cases ht
        · cases ht
      · cases ht
  | fn g a b => cases a <;> cases b <;> cases d <;> simp [toImm] at ht
  | _ => cases d <;> simp [toImm] at ht

theorem cells_one {v : V} (hv : ∀ cs, v ≠ .agg cs) : v.cells = [v] := by
  cases v with
  | agg cs => exact absurd rfl (hv cs)
  | _ => rfl

/-- more depth does no harm -/
theorem toImm_up : ∀ {d : Nat} {v v' : V}, toImm h d v = some v' → toImm h (d + 1) v = some v'
  | 0, v, v', ht => by
    cases v with
    | fn g a b => cases a <;> cases b <;> simp_all [toImm]
    | _ => first | (simp [toImm] at ht; done) | (simpa [toImm] using ht)
  | d + 1, v, v', ht => by
    have key : ∀ {cs l : List V}, allSome (cs.map (toImm h d)) = some l → allSome (cs.map (toImm h (d + 1))) = some l := by
      intro cs
      induction cs with
      | nil => intro l hl; exact hl
      | cons c cs ih =>
        intro l hl
        simp only [List.map_cons] at hl ⊢
        cases hc : toImm h d c with
        | none => simp [hc, allSome] at hl
        | some c' =>
          simp only [hc, allSome] at hl
          split at hl
          · rename_i l' hl'
            simp only [allSome, toImm_up hc, ih hl']
            exact hl
          · cases hl
    cases v with
    | agg cs =>
      obtain ⟨l, rfl, hl⟩ := toImm_agg ht
      rw [toImm]
      simp only [key hl]
    | tup cs =>
      obtain ⟨l, rfl, hl⟩ := toImm_tup ht
      rw [toImm]
      simp only [key hl]
    | hdr id s l =>
      rw [toImm] at ht ⊢
      split at ht
      · split at ht
        · rename_i hle
          simp only [hle, if_true]
          split at ht
          · rename_i hk
            simp only [hk, if_true]
            split at ht
            · rename_i l' hl'
              simp only [key hl']; exact ht
            · cases ht
          · rename_i hk
            simp only [hk, if_false]; exact ht
        · cases ht
      · cases ht
    | fn g a b => cases a <;> cases b <;> simp_all [toImm]
    | _ => first | (simp [toImm] at ht; done) | (simpa [toImm] using ht)

theorem imm_rep (R : Rel w I σ h) (hIJ : ∀ b, I b → J b) (hJ : ∀ b, Owns σ h b → J b) : ∀ (d : Nat) (v v' : V) (u : Value), toImm h d v = some v' → Rep w I σ v u → Rep w J nosig v' u := by
  have EJ : Ext w I nosig w J nosig := ⟨fun _ _ => rfl, fun _ c _ fz hh => ⟨c, fz, hh, rfl⟩, hIJ, fun _ _ hh => hh⟩
  intro d
  induction d with
  | zero =>
    intro v v' u ht hr
    have hv : v.imm0 = true ∧ v' = v := by
      cases v with
      | fn g a b => cases a <;> cases b <;> simp [toImm] at ht ⊢ <;> simp_all [V.imm0]
      | _ => simp [toImm] at ht ⊢ <;> simp_all [V.imm0]
    rw [hv.2]
    exact (imm0_rep hv.1 hr).ext EJ
  | succ d ih =>
    intro v v' u ht hr
    by_cases hi : v.imm0 = true
    · have hv : v' = v := by
        cases v with
        | fn g a b => cases a <;> cases b <;> simp [toImm] at ht ⊢ <;> simp_all [V.imm0]
        | _ => first | (simp [toImm] at ht ⊢; simp_all [V.imm0]; done) | (simp [V.imm0] at hi)
      rw [hv]
      exact (imm0_rep hi hr).ext EJ
    · cases v with
      | agg cs =>
        obtain ⟨l, rfl, hl⟩ := toImm_agg ht
        obtain ⟨h1, h2⟩ := allSome_map _ hl
        simp only [Rep] at hr ⊢
        obtain ⟨us, rfl, hc⟩ := hr
        rw [RepC_iff] at hc
        refine ⟨us, rfl, ?_⟩
        rw [RepC_iff]
        refine ⟨by rw [← h1]; exact hc.1, fun j c' u' hc' hu' => ?_⟩
        have hj : j < cs.length := by rw [h1]; exact (List.getElem?_eq_some_iff.1 hc').1
        have hcj : cs[j]? = some cs[j] := by simp
        have := hc.2 j _ u' hcj hu'
        exact ⟨this.1, ih _ _ _ (h2 j _ _ hcj hc') this.2⟩
      | tup cs =>
        obtain ⟨l, rfl, hl⟩ := toImm_tup ht
        obtain ⟨h1, h2⟩ := allSome_map _ hl
        simp only [Rep] at hr ⊢
        obtain ⟨us, rfl, hc⟩ := hr
        rw [RepL_iff] at hc
        refine ⟨us, rfl, ?_⟩
        rw [RepL_iff]
        refine ⟨by rw [← h1]; exact hc.1, fun j c' u' hc' hu' => ?_⟩
        have hj : j < cs.length := by rw [h1]; exact (List.getElem?_eq_some_iff.1 hc').1
        have hcj : cs[j]? = some cs[j] := by simp
        exact ih _ _ _ (h2 j _ _ hcj hc') (hc.2 j _ u' hcj hu')
      | hdr id s l =>
        simp only [toImm] at ht
        cases hob : h id with
        | none => simp [hob] at ht
        | some ob =>
        simp only [hob] at ht
        split at ht
        case isFalse => cases ht
        rename_i hsl
        have hJid : ∀ b o k, σ id = some (b, o, k) → J b := fun b o k hs => hJ b ⟨id, ob, o, k, hob, hs⟩
        by_cases hk : ob.keep = true
        · simp only [hk, if_true] at ht
          split at ht
          case h_2 => cases ht
          rename_i es' hl
          simp only [Option.some.injEq] at ht
          subst ht
          obtain ⟨h1, h2⟩ := allSome_map _ hl
          have hlen : ((ob.es.drop s).take l).length = l := by simp; omega
          obtain ⟨ad, cap, rfl, B⟩ := based R hr hob
          simp only [Rep]
          refine ⟨ad, cap, by rw [← h1, hlen], by rw [← h1, hlen]; exact B.le, B.max, fun hh => (by cases hh), ?_⟩
          rcases B.place with hp | ⟨b, o, c, el, hs, had, hb, _, _, hrow⟩
          · left
            have := B.le
            apply List.eq_nil_of_length_eq_zero
            rw [← h1, hlen]; omega
          · right
            refine ⟨b, o + s * ob.k, ob.k, had, hJid b o ob.k hs, ?_⟩
            have hseg := hrow.seg s l
            rw [hk] at hseg
            simp only [osig, if_true] at hseg
            rw [RepRow_iff] at hseg ⊢
            intro i e' hi'
            have hil : i < ((ob.es.drop s).take l).length := by rw [h1]; exact (List.getElem?_eq_some_iff.1 hi').1
            have hie : ((ob.es.drop s).take l)[i]? = some ((ob.es.drop s).take l)[i] := List.getElem?_eq_getElem hil
            have hte := h2 i _ _ hie hi'
            obtain ⟨hcl, hca⟩ := hseg i _ hie
            generalize ((ob.es.drop s).take l)[i] = e at hte hcl hca
            by_cases hag : ∃ cs, e = .agg cs
            · obtain ⟨cs, rfl⟩ := hag
              cases d with
              | zero => simp [toImm] at hte
              | succ d =>
                obtain ⟨cs', rfl, hl'⟩ := toImm_agg hte
                obtain ⟨g1, g2⟩ := allSome_map _ hl'
                refine ⟨by simpa [V.cells, ← g1] using hcl, fun j c' hj' => ?_⟩
                have hjl : j < cs.length := by rw [g1]; exact (List.getElem?_eq_some_iff.1 hj').1
                have hjc : cs[j]? = some cs[j] := by simp
                obtain ⟨u, hu1, hu2, hu3⟩ := hca j _ hjc
                refine ⟨u, hu1, hu2, ?_⟩
                -- one step deeper than the induction: widen
                have hagg : toImm h (d + 1) cs[j] = some c' := by
                  have := g2 j _ _ hjc hj'
                  exact toImm_up this
                exact ih _ _ _ hagg hu3
            · have hne : ∀ cs, e ≠ .agg cs := fun cs hh => hag ⟨cs, hh⟩
              have hne' := toImm_one hte hne
              rw [cells_one hne] at hcl hca
              rw [cells_one hne']
              refine ⟨hcl, fun j c' hj' => ?_⟩
              cases j with
              | zero =>
                simp at hj'; subst hj'
                obtain ⟨u, hu1, hu2, hu3⟩ := hca 0 e (by simp)
                exact ⟨u, hu1, hu2, ih _ _ _ hte hu3⟩
              | succ j => simp at hj'
        · simp only [hk, Bool.false_eq_true, if_false, Option.some.injEq] at ht
          subst ht
          exact hdr_imm R hr hob (by simpa using hk) hsl hIJ hJid
      | fn g a b => cases a <;> cases b <;> simp_all [toImm, V.imm0]
      | _ => first | (simp [V.imm0] at hi; done) | (simp [toImm] at ht)

end
end Go.Abs
