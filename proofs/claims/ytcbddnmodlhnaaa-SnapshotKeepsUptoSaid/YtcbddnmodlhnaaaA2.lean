/- The limit of the abstract interpreter, and its equations. -/
import Derived.Test.YtcbddnmodlhnaaaA1
set_option linter.unusedVariables false
set_option linter.unusedSimpArgs false
namespace Go.Abs
open Go

def CallT.le (c d : CallT) : Prop := ∀ g a h k r, c g a h k = some r → d g a h k = some r
def Ev.le (c d : Ev) : Prop := ∀ f b S r, c f b S = some r → d f b S = some r

theorem callWith_mono {X : Env} {E E' : Ev} (h : E.le E') : (callWith X E).le (callWith X E') := by
  intro g a hp k r hr
  unfold callWith at hr ⊢
  split at hr
  · rename_i fn hf
    split at hr
    · rename_i b hb
      cases he : E g b ⟨enterF a, hp, k⟩ with
      | none => simp [he, retV] at hr
      | some x => rw [h _ _ _ _ he]; rw [he] at hr; exact hr
    · cases hr
  · cases hr

theorem evCall_mono {X : Env} {c d : CallT} (h : c.le d) {fid dst g args S r} (hr : evCall X c fid dst g args S = some r) : evCall X d fid dst g args S = some r := by
  unfold evCall at hr ⊢
  cases h1 : X.clone g with
  | some t => simp only [h1] at hr ⊢; exact hr
  | none =>
    simp only [h1] at hr ⊢
    by_cases h2 : X.byref g = true
    · simp only [h2, if_true] at hr ⊢
      cases h5 : c g args S.h S.n with
      | none => simp [h5] at hr
      | some x => rw [h _ _ _ _ _ h5]; rw [h5] at hr; exact hr
    · simp only [h2, if_false, Bool.false_eq_true] at hr ⊢
      cases h3 : allSome (args.map (toImm S.h depth)) with
      | none => simp [h3] at hr
      | some as =>
        simp only [h3] at hr ⊢
        by_cases h4 : dst.any (X.thaw fid) = true
        · simp only [h4, if_true] at hr ⊢
          by_cases h6 : args.any V.own1 = true
          · simp [h6] at hr
          · simp only [h6, if_false, Bool.false_eq_true] at hr ⊢
            cases h5 : c g (dullL as) (fun _ => none) S.n with
            | none => simp [h5] at hr
            | some x => rw [h _ _ _ _ _ h5]; rw [h5] at hr; exact hr
        · simp only [h4, if_false, Bool.false_eq_true] at hr ⊢
          cases h5 : c g (dullL as) (fun _ => none) 0 with
          | none => simp [h5] at hr
          | some x => rw [h _ _ _ _ _ h5]; rw [h5] at hr; exact hr

theorem stepOp_mono {X : Env} {c d : CallT} (h : c.le d) {fid n0 j o S r} (hr : stepOp X c fid n0 j o S = some r) : stepOp X d fid n0 j o S = some r := by
  unfold stepOp at hr ⊢
  split at hr
  · split at hr
    · exact evCall_mono h hr
    · cases hr
  · exact hr

theorem evOps_mono {X : Env} {c d : CallT} (h : c.le d) {fid dsts n0} : ∀ {k l S r}, evOps X c fid dsts n0 k l S = some r → evOps X d fid dsts n0 k l S = some r
  | _, [], S, r, hr => hr
  | k, o :: l, S, r, hr => by
    unfold evOps at hr ⊢
    split at hr
    · split at hr
      · rename_i S1 h1
        rw [stepOp_mono h h1]; exact evOps_mono h hr
      · cases hr
    · split at hr
      · split at hr
        · split at hr
          · split at hr
            · rename_i S1 h1
              rename_i hif _ 
              simp only [hif, if_true]
              rw [stepOp_mono h h1]; exact evOps_mono h hr
            · cases hr
          · rename_i hif
            simp only [hif, if_false]
            exact evOps_mono h hr
        · exact evOps_mono h hr
        · cases hr
      · cases hr

theorem Stable.mono {X : Env} {c d : CallT} (h : c.le d) {fid ops n0 S0 S1 l} (hs : Stable X c fid ops n0 S0 S1 l) : Stable X d fid ops n0 S0 S1 l := by
  intro q hq
  obtain ⟨o, T, v, h1, h2, h3⟩ := hs q hq
  exact ⟨o, T, v, h1, evOps_mono h h2, h3⟩

theorem stepC_mono {X : Env} {E E' : Ev} (h : E.le E') : (stepC X E).le (stepC X E') := by
  intro f c S r hr
  unfold stepC at hr ⊢
  split at hr
  · exact hr
  · split at hr
    · rename_i S1 h1
      split at hr
      · rename_i hs
        rw [evOps_mono (callWith_mono h) h1]
        simp only [hs.mono (callWith_mono h), if_true]; exact hr
      · cases hr
    · cases hr
  · rename_i a b
    cases ha : E f a S with
    | none => simp [ha] at hr
    | some x =>
      rw [h _ _ _ _ ha]
      rw [ha] at hr
      obtain ⟨e, S1⟩ := x
      cases e with
      | normal => exact h _ _ _ _ hr
      | exit i => exact hr
      | ret => exact hr
  · split at hr
    · split at hr
      · rename_i ht; simp only [ht, if_true]; exact h _ _ _ _ hr
      · rename_i ht; simp only [ht, if_false, Bool.false_eq_true]; exact h _ _ _ _ hr
    · cases hr
  · rename_i id b
    cases hb : E f b S with
    | none => simp [hb] at hr
    | some x => rw [h _ _ _ _ hb]; rw [hb] at hr; exact hr
  · rename_i b
    cases hb : E f b S with
    | none => simp [hb] at hr
    | some x =>
      rw [h _ _ _ _ hb]; rw [hb] at hr
      obtain ⟨e, S1⟩ := x
      cases e with
      | normal => exact h _ _ _ _ hr
      | exit i => exact hr
      | ret => exact hr
  · exact hr
  · exact hr
  · cases hr

theorem evC_le (X : Env) : ∀ n, (evC X n).le (evC X (n + 1))
  | 0 => by intro f c S r hr; simp [evC] at hr
  | n + 1 => stepC_mono (evC_le X n)

theorem evC_mono (X : Env) {n m : Nat} (h : n ≤ m) : (evC X n).le (evC X m) := by
  induction h with
  | refl => intro f c S r hr; exact hr
  | step _ ih => intro f c S r hr; exact evC_le X _ _ _ _ _ (ih _ _ _ _ hr)

open Classical in
/-- the limit -/
noncomputable def ev (X : Env) : Ev := fun f c S => if h : ∃ n, ∃ r, evC X n f c S = some r then some h.choose_spec.choose else none

theorem ev_iff {X : Env} {f c S r} : ev X f c S = some r ↔ ∃ n, evC X n f c S = some r := by
  unfold ev
  constructor
  · intro h
    split at h
    · rename_i hx
      have := hx.choose_spec.choose_spec
      exact ⟨hx.choose, by rw [this]; simpa using h⟩
    · cases h
  · rintro ⟨n, hn⟩
    have hx : ∃ n, ∃ r, evC X n f c S = some r := ⟨n, r, hn⟩
    rw [dif_pos hx]
    have h2 := hx.choose_spec.choose_spec
    have h3 := evC_mono X (Nat.le_max_left n hx.choose) _ _ _ _ hn
    have h4 := evC_mono X (Nat.le_max_right n hx.choose) _ _ _ _ h2
    rw [h3] at h4
    simp only [Option.some.injEq] at h4
    rw [h4]

theorem evC_le_ev (X : Env) (n : Nat) : (evC X n).le (ev X) := fun _ _ _ _ h => ev_iff.2 ⟨n, h⟩

theorem callWith_cont {X : Env} {g a h k r} (hr : callWith X (ev X) g a h k = some r) : ∃ n, callWith X (evC X n) g a h k = some r := by
  unfold callWith at hr
  split at hr
  · rename_i fn hf
    split at hr
    · rename_i b hb
      cases he : ev X g b ⟨enterF a, h, k⟩ with
      | none => simp [he, retV] at hr
      | some x =>
        obtain ⟨n, hn⟩ := ev_iff.1 he
        exact ⟨n, by unfold callWith; simp only [hf, hb, hn]; rw [he] at hr; exact hr⟩
    · cases hr
  · cases hr

theorem evCall_cont {X : Env} {fid dst g args S r} (hr : evCall X (callWith X (ev X)) fid dst g args S = some r) : ∃ n, evCall X (callWith X (evC X n)) fid dst g args S = some r := by
  unfold evCall at hr
  cases h1 : X.clone g with
  | some t => exact ⟨0, by unfold evCall; simp only [h1] at hr ⊢; exact hr⟩
  | none =>
    simp only [h1] at hr
    by_cases h2 : X.byref g = true
    · simp only [h2, if_true] at hr
      cases h5 : callWith X (ev X) g args S.h S.n with
      | none => simp [h5] at hr
      | some x =>
        obtain ⟨n, hn⟩ := callWith_cont h5
        rw [h5] at hr
        exact ⟨n, by unfold evCall; simp only [h1, h2, if_true, hn]; exact hr⟩
    · simp only [h2, if_false, Bool.false_eq_true] at hr
      cases h3 : allSome (args.map (toImm S.h depth)) with
      | none => simp [h3] at hr
      | some as =>
        simp only [h3] at hr
        by_cases h4 : dst.any (X.thaw fid) = true
        · simp only [h4, if_true] at hr
          by_cases h6 : args.any V.own1 = true
          · simp [h6] at hr
          · simp only [h6, if_false, Bool.false_eq_true] at hr
            cases h5 : callWith X (ev X) g (dullL as) (fun _ => none) S.n with
            | none => simp [h5] at hr
            | some x =>
              obtain ⟨n, hn⟩ := callWith_cont h5
              rw [h5] at hr
              exact ⟨n, by unfold evCall; simp only [h1, if_false, Bool.false_eq_true, h2, h3, h4, if_true, h6, hn]; exact hr⟩
        · simp only [h4, if_false, Bool.false_eq_true] at hr
          cases h5 : callWith X (ev X) g (dullL as) (fun _ => none) 0 with
          | none => simp [h5] at hr
          | some x =>
            obtain ⟨n, hn⟩ := callWith_cont h5
            rw [h5] at hr
            exact ⟨n, by unfold evCall; simp only [h1, if_false, Bool.false_eq_true, h2, h3, h4, hn]; exact hr⟩

theorem stepOp_cont {X : Env} {fid n0 j o S r} (hr : stepOp X (callWith X (ev X)) fid n0 j o S = some r) : ∃ n, stepOp X (callWith X (evC X n)) fid n0 j o S = some r := by
  unfold stepOp at hr
  split at hr
  · rename_i x args tys ho
    split at hr
    · rename_i g first caps hx
      obtain ⟨n, hn⟩ := evCall_cont hr
      exact ⟨n, by unfold stepOp; simp only [ho, hx]; exact hn⟩
    · cases hr
  · rename_i hne
    exact ⟨0, by unfold stepOp; split; · rename_i x args tys ho; exact absurd ho (hne x args tys)
                 · exact hr⟩

theorem evOps_cont {X : Env} {fid dsts n0} : ∀ {k l S r}, evOps X (callWith X (ev X)) fid dsts n0 k l S = some r → ∃ n, evOps X (callWith X (evC X n)) fid dsts n0 k l S = some r
  | _, [], S, r, hr => ⟨0, hr⟩
  | k, o :: l, S, r, hr => by
    have two : ∀ {S1}, stepOp X (callWith X (ev X)) fid n0 k o S = some S1 → evOps X (callWith X (ev X)) fid dsts n0 (k + 1) l S1 = some r → ∃ n, stepOp X (callWith X (evC X n)) fid n0 k o S = some S1 ∧ evOps X (callWith X (evC X n)) fid dsts n0 (k + 1) l S1 = some r := by
      intro S1 h1 h2
      obtain ⟨a, ha⟩ := stepOp_cont h1
      obtain ⟨b, hb⟩ := evOps_cont h2
      exact ⟨max a b, stepOp_mono (callWith_mono (evC_mono X (Nat.le_max_left a b))) ha, evOps_mono (callWith_mono (evC_mono X (Nat.le_max_right a b))) hb⟩
    unfold evOps at hr
    split at hr
    · rename_i hg
      split at hr
      · rename_i S1 h1
        obtain ⟨n, ha, hb⟩ := two h1 hr
        exact ⟨n, by unfold evOps; simp only [hg, ha]; exact hb⟩
      · cases hr
    · rename_i j want hg
      split at hr
      · rename_i d hd
        split at hr
        · rename_i b hb0
          split at hr
          · rename_i hif
            split at hr
            · rename_i S1 h1
              obtain ⟨n, ha, hb⟩ := two h1 hr
              exact ⟨n, by unfold evOps; simp only [hg, hd, hb0, hif, if_true, ha]; exact hb⟩
            · cases hr
          · rename_i hif
            obtain ⟨n, hn⟩ := evOps_cont hr
            exact ⟨n, by unfold evOps; simp only [hg, hd, hb0, hif, if_false]; exact hn⟩
        · rename_i hnb
          obtain ⟨n, hn⟩ := evOps_cont hr
          refine ⟨n, ?_⟩
          unfold evOps
          simp only [hg, hd, hnb]
          exact hn
        · cases hr
      · cases hr

theorem Stable.cont {X : Env} {fid ops n0 S0 S1} : ∀ {l}, Stable X (callWith X (ev X)) fid ops n0 S0 S1 l → ∃ n, Stable X (callWith X (evC X n)) fid ops n0 S0 S1 l
  | [], _ => ⟨0, fun q hq => by cases hq⟩
  | q :: l, hs => by
    obtain ⟨a, ha⟩ := Stable.cont (l := l) fun x hx => hs x (List.mem_cons_of_mem _ hx)
    obtain ⟨o, T, v, h1, h2, h3⟩ := hs q (List.mem_cons_self ..)
    obtain ⟨b, hb⟩ := evOps_cont h2
    refine ⟨max a b, fun x hx => ?_⟩
    rcases List.mem_cons.1 hx with rfl | hx
    · exact ⟨o, T, v, h1, evOps_mono (callWith_mono (evC_mono X (Nat.le_max_right a b))) hb, h3⟩
    · exact ha.mono (callWith_mono (evC_mono X (Nat.le_max_left a b))) x hx

theorem stepC_cont {X : Env} {f c S r} (hr : stepC X (ev X) f c S = some r) : ∃ n, stepC X (evC X n) f c S = some r := by
  have seq2 : ∀ {a b : Code} {S S1 r}, ev X f a S = some (.normal, S1) → ev X f b S1 = some r → ∃ n, evC X n f a S = some (.normal, S1) ∧ evC X n f b S1 = some r := by
    intro a b S S1 r h1 h2
    obtain ⟨p, hp⟩ := ev_iff.1 h1
    obtain ⟨q, hq⟩ := ev_iff.1 h2
    exact ⟨max p q, evC_mono X (Nat.le_max_left p q) _ _ _ _ hp, evC_mono X (Nat.le_max_right p q) _ _ _ _ hq⟩
  cases c with
  | skip => exact ⟨0, hr⟩
  | exit id => exact ⟨0, hr⟩
  | ret => exact ⟨0, hr⟩
  | region id ops d =>
    simp only [stepC] at hr ⊢
    split at hr
    · rename_i S1 h1
      split at hr
      · rename_i hs
        obtain ⟨n, hn⟩ := evOps_cont h1
        obtain ⟨m, hm⟩ := hs.cont
        refine ⟨max n m, ?_⟩
        rw [evOps_mono (callWith_mono (evC_mono X (Nat.le_max_left n m))) hn]
        simp only [hm.mono (callWith_mono (evC_mono X (Nat.le_max_right n m))), if_true]; exact hr
      · cases hr
    · cases hr
  | seq a b =>
    simp only [stepC] at hr ⊢
    cases ha : ev X f a S with
    | none => simp [ha] at hr
    | some x =>
      obtain ⟨e, S1⟩ := x
      rw [ha] at hr
      cases e with
      | normal =>
        obtain ⟨n, h1, h2⟩ := seq2 ha hr
        exact ⟨n, by rw [h1]; exact h2⟩
      | exit i => obtain ⟨n, hn⟩ := ev_iff.1 ha; exact ⟨n, by rw [hn]; exact hr⟩
      | ret => obtain ⟨n, hn⟩ := ev_iff.1 ha; exact ⟨n, by rw [hn]; exact hr⟩
  | cond x a b =>
    simp only [stepC] at hr ⊢
    split at hr
    · split at hr
      · rename_i ht; obtain ⟨n, hn⟩ := ev_iff.1 hr; exact ⟨n, by simp only [ht, if_true]; exact hn⟩
      · rename_i ht; obtain ⟨n, hn⟩ := ev_iff.1 hr; exact ⟨n, by simp only [ht, if_false, Bool.false_eq_true]; exact hn⟩
    · cases hr
  | block id b =>
    simp only [stepC] at hr ⊢
    cases hb : ev X f b S with
    | none => simp [hb] at hr
    | some x => obtain ⟨n, hn⟩ := ev_iff.1 hb; rw [hb] at hr; exact ⟨n, by rw [hn]; exact hr⟩
  | loop b =>
    simp only [stepC] at hr ⊢
    cases hb : ev X f b S with
    | none => simp [hb] at hr
    | some x =>
      obtain ⟨e, S1⟩ := x
      rw [hb] at hr
      cases e with
      | normal =>
        obtain ⟨n, h1, h2⟩ := seq2 hb hr
        exact ⟨n, by rw [h1]; exact h2⟩
      | exit i => obtain ⟨n, hn⟩ := ev_iff.1 hb; exact ⟨n, by rw [hn]; exact hr⟩
      | ret => obtain ⟨n, hn⟩ := ev_iff.1 hb; exact ⟨n, by rw [hn]; exact hr⟩
  | _ => simp [stepC] at hr

theorem ev_eq (X : Env) (f : FuncId) (c : Code) (S : St) : ev X f c S = stepC X (ev X) f c S := by
  cases h : stepC X (ev X) f c S with
  | some r =>
    obtain ⟨n, hn⟩ := stepC_cont h
    exact ev_iff.2 ⟨n + 1, hn⟩
  | none =>
    cases h2 : ev X f c S with
    | none => rfl
    | some r =>
      obtain ⟨n, hn⟩ := ev_iff.1 h2
      cases n with
      | zero => simp [evC] at hn
      | succ n =>
        have := stepC_mono (evC_le_ev X n) _ _ _ _ hn
        rw [h] at this; cases this

/-- the call of a function, in the limit -/
noncomputable def callL (X : Env) : CallT := callWith X (ev X)

/-- what is told of a call whose arguments are immutable, with an immutable result -/
noncomputable def pcall (X : Env) (g : FuncId) (args : List V) : Option V :=
  match callL X g args (fun _ => none) 0 with
  | some (v, h, _) => (toImm h depth v).map V.dull
  | none => none

end Go.Abs
