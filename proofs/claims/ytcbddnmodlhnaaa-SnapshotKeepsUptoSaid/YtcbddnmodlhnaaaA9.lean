/- More simulations: stores with what is given away, arithmetic, indexes, slices. -/
import Derived.Test.YtcbddnmodlhnaaaA8
set_option linter.unusedVariables false
set_option linter.unusedSimpArgs false
namespace Go.Abs
open Go

section
variable {w : World} {I : Nat → Prop} {σ : Sig} {h : Heap}

theorem imm0_rep {v : V} {u : Value} (hv : v.imm0 = true) (hr : Rep w I σ v u) : Rep w I nosig v u := by
  cases v with
  | int k n => simpa [Rep] using hr
  | bool b => simpa [Rep] using hr
  | str s => simpa [Rep] using hr
  | sl c es => simpa only [Rep] using hr
  | nilp => simpa [Rep] using hr
  | fn g as bs =>
    cases as with
    | nil => cases bs with
      | nil => simpa [Rep, RepL] using hr
      | cons _ _ => simp [V.imm0] at hv
    | cons _ _ => simp [V.imm0] at hv
  | _ => simp [V.imm0] at hv

/-- what is immutable behind a giving away -/
def Gone (I : Nat → Prop) (σ : Sig) (h h' : Heap) : Nat → Prop := fun b => I b ∨ (Owns σ h b ∧ ¬ Owns σ h' b)

theorem Owns.of_upd {id b : Nat} (ho : Owns σ (upd h id none) b) : Owns σ h b := by
  obtain ⟨i, ob, o, k, h1, h2⟩ := ho
  by_cases e : i = id
  · subst e; simp [upd] at h1
  · exact ⟨i, ob, o, k, by simpa [upd, e] using h1, h2⟩

theorem Rel.notOwn (R : Rel w I σ h) {id b o k : Nat} {ob : Ob} (h1 : h id = some ob) (h2 : σ id = some (b, o, k)) : ¬ Owns σ (upd h id none) b := by
  rintro ⟨i, ob', o', k', h3, h4⟩
  by_cases e : i = id
  · subst e; simp [upd] at h3
  · exact e (R.apart i id ob' ob b o' k' o k (by simpa [upd, e] using h3) h1 h4 h2)

/-- a part of the heap given away -/
theorem gone_step (R : Rel w I σ h) {h' : Heap} (hsub : ∀ id ob, h' id = some ob → h id = some ob) (n : Nat) : Step w I σ h n w (Gone I σ h h') σ h' n := by
  have E : Ext w I σ w (Gone I σ h h') σ := ⟨fun _ _ => rfl, fun _ c _ fz hh => ⟨c, fz, hh, rfl⟩, fun b hb => .inl hb, fun _ _ hh => hh⟩
  have hown : ∀ b, Owns σ h' b → Owns σ h b := fun b ⟨i, ob, o, k, h1, h2⟩ => ⟨i, ob, o, k, hsub _ _ h1, h2⟩
  refine ⟨E, (R.sub hsub).keep E (fun b hb => ?_) (fun b hb => ⟨rfl, ?_⟩) (fun _ _ => rfl), rfl, rfl, rfl, Nat.le_refl _, fun _ _ _ => rfl, fun b hb => .inr (hown b hb), fun b hb => ?_, Nat.le_refl _, fun _ _ => rfl, fun id _ hn => ?_⟩
  · rcases hb with hb | hb
    · exact R.imm b hb
    · obtain ⟨_, c, el, hh⟩ := R.owned hb.1
      exact (Array.getElem?_eq_some_iff.1 hh).1
  · rintro (hi | ⟨_, hn⟩)
    · exact (R.owned (hown b hb)).1 hi
    · exact hn hb
  · rcases hb with hb | hb
    · exact .inl hb
    · exact .inr (.inr hb.1)
  · cases hc : h' id with
    | none => rfl
    | some ob => rw [hsub id ob hc] at hn; cases hn

theorem RepRow.seg {es : List V} {k b o : Nat} (hr : RepRow w I σ es k b o) (s l : Nat) : RepRow w I σ ((es.drop s).take l) k b (o + s * k) := by
  rw [RepRow_iff] at hr ⊢
  intro i e hi
  rw [List.getElem?_take] at hi
  split at hi
  · rw [List.getElem?_drop] at hi
    have := hr (s + i) e hi
    rwa [show o + (s + i) * k = o + s * k + i * k by rw [Nat.add_mul]; omega] at this
  · cases hi

/-- a slice of an object that holds immutable values, as an immutable slice -/
theorem hdr_imm (R : Rel w I σ h) {id s l : Nat} {ob : Ob} {u : Value} (hr : Rep w I σ (.hdr id s l) u) (hob : h id = some ob) (hk : ob.keep = false) (hle : s + l ≤ ob.es.length)
    {J : Nat → Prop} (hIJ : ∀ b, I b → J b) (hJ : ∀ b o k, σ id = some (b, o, k) → J b) : Rep w J nosig (.sl false ((ob.es.drop s).take l)) u := by
  simp only [Rep] at hr ⊢
  obtain ⟨a, cap, rfl, h1, h2, h3⟩ := hr
  have hlen : ((ob.es.drop s).take l).length = l := by simp; omega
  refine ⟨a, cap, by rw [hlen], by omega, h2, fun hc => (by cases hc), ?_⟩
  by_cases hl : l = 0
  · subst hl; left; simp
  · right
    rcases h3 with h3 | ⟨b, of, k, c, el, fz, hs, ha, hb, hcl⟩
    · omega
    · have hi : ob.es[s]? = some (ob.es[s]'(by omega)) := by simp
      obtain ⟨b', o', c', el', hs', hI, hb', hsz, hrow⟩ := R.at hob hi
      rw [hs] at hs'
      simp only [Option.some.injEq, Prod.mk.injEq] at hs'
      obtain ⟨rfl, rfl, rfl⟩ := hs'
      refine ⟨b, of + s * ob.k, ob.k, ha, hJ b of ob.k hs, ?_⟩
      have hrow' := hrow.seg s l
      rw [hk] at hrow'
      have E : Ext w I nosig w J nosig := ⟨fun _ _ => rfl, fun _ c _ fz hh => ⟨c, fz, hh, rfl⟩, hIJ, fun _ _ hh => hh⟩
      exact hrow'.extRow E rfl

theorem give0_sim (R : Rel w I σ h) {v v' : V} {h' : Heap} {u : Value} (hr : Rep w I σ v u) (hg : give0 h v = some (v', h')) (n : Nat) :
    ∃ I', Step w I σ h n w I' σ h' n ∧ Rep w I' nosig v' u ∧ (∀ id ob, h' id = some ob → h id = some ob) := by
  unfold give0 at hg
  split at hg
  · rename_i id s l
    cases hob : h id with
    | none => simp [hob] at hg
    | some ob =>
      simp only [hob] at hg
      split at hg
      · rename_i hc
        simp only [Bool.and_eq_true, Bool.not_eq_true', decide_eq_true_eq] at hc
        simp only [Option.some.injEq, Prod.mk.injEq] at hg
        obtain ⟨rfl, rfl⟩ := hg
        have hsub : ∀ i ob', upd h id none i = some ob' → h i = some ob' := by
          intro i ob' hi
          by_cases e : i = id
          · subst e; simp [upd] at hi
          · simpa [upd, e] using hi
        refine ⟨_, gone_step R hsub n, Rep.dull (v := .sl false _) (hdr_imm R hr hob hc.1 hc.2 (fun b hb => .inl hb) (fun b o k hs => .inr ⟨⟨id, ob, o, k, hob, hs⟩, R.notOwn hob hs⟩)), hsub⟩
      · cases hg
  · rename_i hne
    split at hg
    · rename_i hi
      simp only [Option.some.injEq, Prod.mk.injEq] at hg
      obtain ⟨rfl, rfl⟩ := hg
      exact ⟨I, Step.refl R n, (imm0_rep hi hr).dull, fun _ _ hh => hh⟩
    · cases hg

theorem giveL_sim : ∀ {cs cs' : List V} {I : Nat → Prop} {h h' : Heap} {us : List Value}, Rel w I σ h → RepC w I σ cs us → giveL h cs = some (cs', h') → ∀ n : Nat,
    ∃ I', Step w I σ h n w I' σ h' n ∧ RepC w I' nosig cs' us ∧ (∀ id ob, h' id = some ob → h id = some ob)
  | [], cs', I, h, h', us, R, hr, hg, n => by
    simp only [giveL, Option.some.injEq, Prod.mk.injEq] at hg
    obtain ⟨rfl, rfl⟩ := hg
    exact ⟨I, Step.refl R n, by simpa [RepC] using hr, fun _ _ hh => hh⟩
  | c :: cs, cs', I, h, h', us, R, hr, hg, n => by
    simp only [RepC] at hr
    obtain ⟨u, r, rfl, h1, h2, h3⟩ := hr
    simp only [giveL] at hg
    cases hc : give0 h c with
    | none => simp [hc] at hg
    | some x =>
      obtain ⟨c', h1'⟩ := x
      simp only [hc] at hg
      cases hl : giveL h1' cs with
      | none => simp [hl] at hg
      | some y =>
        obtain ⟨cs1, h2'⟩ := y
        simp only [hl, Option.some.injEq, Prod.mk.injEq] at hg
        obtain ⟨rfl, rfl⟩ := hg
        obtain ⟨I1, s1, r1, sub1⟩ := give0_sim R h2 hc n
        have hr3 : RepC w I1 σ cs r := RepC.ext' cs r s1.ext h3
        obtain ⟨I2, s2, r2, sub2⟩ := giveL_sim s1.rel hr3 hl n
        refine ⟨I2, s1.trans s2, ?_, fun id ob hh => sub1 _ _ (sub2 _ _ hh)⟩
        simp only [RepC]
        exact ⟨u, r, rfl, h1, r1.ext s2.ext.noid, r2⟩

theorem give_sim (R : Rel w I σ h) {v v' : V} {h' : Heap} {u : Value} (hr : Rep w I σ v u) (hg : give h v = some (v', h')) (n : Nat) :
    ∃ I', Step w I σ h n w I' σ h' n ∧ Rep w I' nosig v' u ∧ (∀ id ob, h' id = some ob → h id = some ob) := by
  unfold give at hg
  split at hg
  · rename_i cs
    cases hl : giveL h cs with
    | none => simp [hl] at hg
    | some y =>
      obtain ⟨cs', h2⟩ := y
      simp only [hl, Option.some.injEq, Prod.mk.injEq] at hg
      obtain ⟨rfl, rfl⟩ := hg
      simp only [Rep] at hr
      obtain ⟨us, rfl, hc⟩ := hr
      obtain ⟨I1, s1, r1, sub⟩ := giveL_sim R hc hl n
      exact ⟨I1, s1, by simp only [Rep]; exact ⟨us, rfl, r1⟩, sub⟩
  · exact give0_sim R hr hg n

/-- parts of a literal, each with its value -/
theorem giveP_sim : ∀ {ps ps' : List (Nat × V)} {I : Nat → Prop} {h h' : Heap} {us : List Value}, Rel w I σ h → RepL w I σ (ps.map (·.2)) us → giveP h ps = some (ps', h') → ∀ n : Nat,
    ∃ I', Step w I σ h n w I' σ h' n ∧ RepL w I' nosig (ps'.map (·.2)) us ∧ ps'.map (·.1) = ps.map (·.1) ∧ (∀ id ob, h' id = some ob → h id = some ob)
  | [], ps', I, h, h', us, R, hr, hg, n => by
    simp only [giveP, Option.some.injEq, Prod.mk.injEq] at hg
    obtain ⟨rfl, rfl⟩ := hg
    exact ⟨I, Step.refl R n, by simpa [RepL] using hr, rfl, fun _ _ hh => hh⟩
  | (i, c) :: ps, ps', I, h, h', us, R, hr, hg, n => by
    simp only [List.map_cons, RepL] at hr
    obtain ⟨u, r, rfl, h2, h3⟩ := hr
    simp only [giveP] at hg
    cases hc : give h c with
    | none => simp [hc] at hg
    | some x =>
      obtain ⟨c', h1'⟩ := x
      simp only [hc] at hg
      cases hl : giveP h1' ps with
      | none => simp [hl] at hg
      | some y =>
        obtain ⟨cs1, h2'⟩ := y
        simp only [hl, Option.some.injEq, Prod.mk.injEq] at hg
        obtain ⟨rfl, rfl⟩ := hg
        obtain ⟨I1, s1, r1, sub1⟩ := give_sim R h2 hc n
        have hr3 : RepL w I1 σ (ps.map (·.2)) r := RepL.ext' _ r s1.ext h3
        obtain ⟨I2, s2, r2, e2, sub2⟩ := giveP_sim s1.rel hr3 hl n
        refine ⟨I2, s1.trans s2, ?_, by simp [e2], fun id ob hh => sub1 _ _ (sub2 _ _ hh)⟩
        simp only [List.map_cons, RepL]
        exact ⟨u, r, rfl, r1.ext s2.ext.noid, r2⟩
end

section
variable {X : Env} {o : Oper} {a : Act} {w : World} {I : Nat → Prop} {σ : Sig} {S S1 : St}

theorem sim_store {t : TypeId} {x y : Operand} (ho : o.op = .store t x y) (T : TIOk X.P t (X.ti t)) (R : Rel w I σ S.h) (F : FRel w I σ S.f a) (hx : Opds o)
    {id i f : Nat} {ob0 : Ob} {v : V} {h : Heap} {ob : Ob} {e : V} (he : S.ev x = .ptr id i f) (h0 : S.h id = some ob0)
    (hg : (if ob0.keep then some (S.ev y, S.h) else give S.h (S.ev y)) = some (v, h)) (hob : h id = some ob) (hi : ob.es[i]? = some e)
    (hf : (v.fits (X.ti t).size && decide (f + (X.ti t).size ≤ e.cells.length)) = true) (hd : o.dst = none)
    (hs : S1 = { S with h := upd h id (some { ob with es := ob.es.set i (e.put f v) }) }) : Out X o a w I σ S S1 := by
  subst hs
  have h1 : Rep w I σ (S.ev x) (a.eval x) := ev_rep (S := S) F (hx x (by simp [ho, Op.operands]))
  have h2 : Rep w I σ (S.ev y) (a.eval y) := ev_rep (S := S) F (hx y (by simp [ho, Op.operands]))
  rw [he] at h1
  simp only [Rep] at h1
  obtain ⟨b, of, k, hsg, hu⟩ := h1
  simp only [Bool.and_eq_true, decide_eq_true_eq] at hf
  have key : ∃ I', Step w I σ S.h S.n w I' σ h S.n ∧ Rep w I' (osig ob.keep σ) v (a.eval y) := by
    by_cases hk : ob0.keep = true
    · rw [if_pos hk] at hg
      simp only [Option.some.injEq, Prod.mk.injEq] at hg
      obtain ⟨rfl, rfl⟩ := hg
      rw [h0] at hob
      simp at hob
      subst hob
      exact ⟨I, Step.refl R _, by simpa [osig, hk] using h2⟩
    · rw [if_neg hk] at hg
      obtain ⟨I', s, r, sub⟩ := give_sim R h2 hg S.n
      have := sub id ob hob
      rw [h0] at this
      simp at this
      subst this
      exact ⟨I', s, by simpa [osig, hk] using r⟩
  obtain ⟨I', s, r⟩ := key
  obtain ⟨w', hrun, s'⟩ := store_sim T s.rel hob hi r hf.1 hf.2 S.n hsg
  refine ⟨_, w', I', σ, undef, .bad, ?_, .inr ⟨rfl, rfl⟩, s.trans s', by simp [St.set, hd], by simp [Rep]⟩
  simp [execOp, ho, hu, Instr.storeAt, Instr.sureAddr, hrun]

theorem sim_nilCheck {x : Operand} (ho : o.op = .nilCheck x) (R : Rel w I σ S.h) (F : FRel w I σ S.f a) (hx : Opds o)
    (hv : (∃ id j f, S.ev x = .ptr id j f) ∨ (∃ cs, S.ev x = .ref cs) ∨ (∃ g p q, S.ev x = .fn g p q)) (hs : S1 = S.set o.dst (S.ev x)) : Out X o a w I σ S S1 := by
  have h1 : Rep w I σ (S.ev x) (a.eval x) := ev_rep (S := S) F (hx x (by simp [ho, Op.operands]))
  refine Out.pure (u := a.eval x) R ?_ h1 hs
  rcases hv with ⟨id, j, f, he⟩ | ⟨cs, he⟩ | ⟨g, p, q, he⟩
  · rw [he] at h1; simp only [Rep] at h1; obtain ⟨b, of, k, _, hu⟩ := h1; simp [execOp, ho, hu]
  · rw [he] at h1; simp only [Rep] at h1; obtain ⟨b, of, hu, _⟩ := h1; simp [execOp, ho, hu]
  · rw [he] at h1; simp only [Rep] at h1; obtain ⟨us, vs, hu, _⟩ := h1; simp [execOp, ho, hu]

theorem sim_unOp {op : UnOp} {t : TypeId} {x : Operand} {v : V} (ho : o.op = .unOp op t x) (R : Rel w I σ S.h) (F : FRel w I σ S.f a) (hx : Opds o) (hv : unV op (S.ev x) = some v) (hs : S1 = S.set o.dst v) : Out X o a w I σ S S1 := by
  have h1 : Rep w I σ (S.ev x) (a.eval x) := ev_rep (S := S) F (hx x (by simp [ho, Op.operands]))
  unfold unV at hv
  split at hv
  · rename_i k n he
    rw [he] at h1
    have hu := rep_int h1
    simp only [Option.some.injEq] at hv
    subst hv
    exact Out.pure (u := .int k (k.wrap (0 - n))) R (by simp [execOp, ho, hu, Op.unary, Op.intArith]) (by simp [Rep]) hs
  · rename_i b he
    rw [he] at h1
    have hu := rep_bool h1
    simp only [Option.some.injEq] at hv
    subst hv
    exact Out.pure (u := .bool (!b)) R (by simp [execOp, ho, hu, Op.unary]) (by simp [Rep]) hs
  · cases hv

theorem sim_convert {s d : TypeId} {x : Operand} {k k' : IntKind} {n : Int} (ho : o.op = .convert s d x) (T : TIOk X.P d (X.ti d)) (hsrc : (X.P.underlying s).isSome = true) (R : Rel w I σ S.h) (F : FRel w I σ S.f a) (hx : Opds o)
    (hk : (X.ti d).kind = some k) (he : S.ev x = .int k' n) (hs : S1 = S.set o.dst (.int k (k.wrap n))) : Out X o a w I σ S S1 := by
  have h1 : Rep w I σ (S.ev x) (a.eval x) := ev_rep (S := S) F (hx x (by simp [ho, Op.operands]))
  rw [he] at h1
  have hu := rep_int h1
  obtain ⟨e, hd, hb⟩ := T.und
  have hde : e = .int k := by
    cases e <;> simp_all [descB]
  subst hde
  obtain ⟨ds, hds⟩ := Option.isSome_iff_exists.1 hsrc
  exact Out.pure (u := .int k (k.wrap n)) R (by simp [execOp, ho, hu, convert, run_underlying hds, run_underlying hd, Conv.intToInt]) (by simp [Rep]) hs

theorem sim_makeFunc {g : FuncId} {p q : Array Operand} (ho : o.op = .makeFunc (.func g) p q) (R : Rel w I σ S.h) (F : FRel w I σ S.f a) (hx : Opds o)
    (hs : S1 = S.set o.dst (.fn g (p.toList.map S.ev) (q.toList.map S.ev))) : Out X o a w I σ S S1 := by
  have hl : ∀ (xs : Array Operand), (∀ x ∈ xs.toList, x ∈ o.op.operands.toList) → RepL w I σ (xs.toList.map S.ev) (xs.map a.eval).toList := by
    intro xs hxs
    rw [RepL_iff]
    refine ⟨by simp, fun j c u hc hu => ?_⟩
    rw [List.getElem?_map] at hc
    simp only [Array.toList_map, List.getElem?_map] at hu
    cases hj : xs.toList[j]? with
    | none => simp [hj] at hc
    | some y =>
      simp only [hj, Option.map_some, Option.some.injEq] at hc hu
      subst hc; subst hu
      exact ev_rep (S := S) F (hx y (hxs y (List.mem_of_getElem? hj)))
  refine Out.pure (u := .func (.func g) (p.map a.eval) (q.map a.eval)) R (by simp [execOp, ho, Instr.makeFunc]) ?_ hs
  simp only [Rep]
  exact ⟨_, _, rfl, hl p (by simp [ho, Op.operands]; intro x hx; exact .inl hx), hl q (by simp [ho, Op.operands]; intro x hx; exact .inr hx)⟩

theorem sim_extract {x : Operand} {i : Nat} {vs : List V} {v : V} (ho : o.op = .extract x i) (R : Rel w I σ S.h) (F : FRel w I σ S.f a) (hx : Opds o) (he : S.ev x = .tup vs) (hv : vs[i]? = some v) (hs : S1 = S.set o.dst v) : Out X o a w I σ S S1 := by
  have h1 : Rep w I σ (S.ev x) (a.eval x) := ev_rep (S := S) F (hx x (by simp [ho, Op.operands]))
  rw [he] at h1
  simp only [Rep] at h1
  obtain ⟨us, hu, hr⟩ := h1
  rw [RepL_iff] at hr
  have hi : i < vs.length := (List.getElem?_eq_some_iff.1 hv).1
  have hg : us[i]? = some (us[i]'(by have := hr.1; simp at this; omega)) := by simp
  exact Out.pure (u := us[i]'(by have := hr.1; simp at this; omega)) R (by simp [execOp, ho, hu, Instr.extract, hg]) (hr.2 i v _ hv (by simp)) hs

end
end Go.Abs
