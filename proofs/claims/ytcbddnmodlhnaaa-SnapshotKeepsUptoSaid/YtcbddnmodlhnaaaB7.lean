/- One more operation of a region that runs in any order. -/
import Derived.Test.YtcbddnmodlhnaaaB6
set_option linter.unusedVariables false
set_option linter.unusedSimpArgs false
namespace Go.Abs
open Go

open Classical in
/-- the state when the operations of E have run, p the place after the last write among them -/
noncomputable def SE (X : Env) (fid : FuncId) (ops : Array Oper) (S F : St) (T : Nat → St) (E : Nat → Prop) (p : Nat) : St :=
  { f := fun x => if ∃ k o, E k ∧ ops.toList[k]? = some o ∧ o.dst = some x then F.f x else S.f x
    h := fun i => if ∃ k o, i = S.n + k ∧ ops.toList[k]? = some o ∧ cls X fid o = 2 ∧ E k ∧ p ≤ k then (T (i - S.n + 1)).h i else (T p).h i
    n := (T p).n }

structure Stg (X : Env) (fid : FuncId) (ops : Array Oper) (B : Nat → List Nat) (E : Nat → Prop) (p : Nat) : Prop where
  lt : ∀ k, E k → k < ops.size
  closed : ∀ k, E k → ∀ i ∈ B k, E i
  le : p ≤ ops.size
  last : p = 0 ∨ ∃ o, ops.toList[p - 1]? = some o ∧ cls X fid o = 3
  iff : ∀ (w : Nat) o, ops.toList[w]? = some o → cls X fid o = 3 → (E w ↔ w < p)

section
variable {X : Env} {C : CallT} {fid : FuncId} {id : Nat} {ops : Array Oper} {S F : St} {T : Nat → St} {B : Nat → List Nat} {E : Nat → Prop} {p j : Nat} {o : Oper}

theorem looks_f (t : Tr X C fid id ops S F T B) (g : Stg X fid ops B E p) (ho : ops.toList[j]? = some o) (hb : ∀ i ∈ B j, E i) (hnj : ¬ E j) {x : Nat} (hx : x ∈ o.looksAt ops) :
    (SE X fid ops S F T E p).f x = (T j).f x ∧ ((∃ p, (j, p) ∈ X.exc fid id) → F.f x = (T j).f x) := by
  have hj := op_lt ho
  by_cases hk : ∃ (k : Nat) (ok : Oper), ops.toList[k]? = some ok ∧ ok.dst = some x
  · obtain ⟨k, ok, hok, hd⟩ := hk
    rcases t.draw.looks j k o ok x ho hok hd hx with hkb | ⟨hjb, hne⟩
    · have hkj := t.draw.lt j k hj hkb
      have hf := t.f_final hok hd j hkj (by omega)
      refine ⟨?_, fun _ => hf.symm⟩
      simp only [SE]
      rw [if_pos ⟨k, ok, hb k hkb, hok, hd⟩, hf]
    · have hjk := t.draw.lt k j (op_lt hok) hjb
      have only : ∀ (i : Nat) oi, ops.toList[i]? = some oi → oi.dst = some x → i = k := by
        intro i oi hi hdi
        rcases Nat.lt_trichotomy i k with h | h | h
        · exact absurd hd (t.draw.dst i k oi ok x h hi hok hdi)
        · exact h
        · exact absurd hdi (t.draw.dst k i ok oi x h hok hi hd)
      refine ⟨?_, fun ⟨p, hp⟩ => absurd hp (hne p)⟩
      have h1 : (T j).f x = S.f x := by
        rw [t.f_range (i := 0) j (by omega) (by omega) fun i oi _ h2 h3 h4 => by have := only i oi h3 h4; omega, t.t0]
      simp only [SE]
      rw [if_neg, h1]
      rintro ⟨i, oi, hE, hi, hdi⟩
      rw [only i oi hi hdi] at hE
      exact hnj (g.closed k hE j hjb)
  · have hn : ∀ (k : Nat) ok, ops.toList[k]? = some ok → ok.dst ≠ some x := fun k ok h1 h2 => hk ⟨k, ok, h1, h2⟩
    have h1 := t.f_init hn j (by omega)
    have h2 := t.f_init hn ops.size (Nat.le_refl _)
    rw [t.tN] at h2
    refine ⟨?_, fun _ => by rw [h1, h2]⟩
    simp only [SE]
    rw [if_neg (fun ⟨k, ok, _, h2, h3⟩ => hk ⟨k, ok, h2, h3⟩), h1]

theorem looks_opd {y : Operand} {x : Nat} (hy : y ∈ o.op.operands.toList) (e : y = .tmp x) : x ∈ o.looksAt ops := by
  subst e
  exact List.mem_append_left _ (List.mem_filterMap.2 ⟨.tmp x, hy, rfl⟩)

theorem looks_guard {i d : Nat} {want : Bool} (hg : o.guard = some (i, want)) (hd : (ops.toList.map (·.dst))[i]? = some (some d)) : d ∈ o.looksAt ops := by
  refine List.mem_append_right _ ?_
  rw [List.getElem?_map, Array.getElem?_toList] at hd
  cases ho : ops[i]? with
  | none => simp [ho] at hd
  | some x =>
    simp [ho] at hd
    simp [hg, ho, hd]

theorem same_SE (t : Tr X C fid id ops S F T B) (g : Stg X fid ops B E p) (ho : ops.toList[j]? = some o) (hb : ∀ i ∈ B j, E i) (hnj : ¬ E j) : Same (ops.toList.map (·.dst)) o (T j) (SE X fid ops S F T E p) := by
  refine ⟨fun y hy => ?_, fun i want d hg hd => (looks_f t g ho hb hnj (looks_guard hg hd)).1⟩
  cases y with
  | tmp x => exact (looks_f t g ho hb hnj (looks_opd hy rfl)).1
  | _ => rfl

theorem f_upd (t : Tr X C fid id ops S F T B) (ho : ops.toList[j]? = some o) {A Y : St} {v : V} (hA : A.f = (SE X fid ops S F T E p).f) (hv : ∀ d, o.dst = some d → F.f d = v) (q : Nat) :
    (A.set o.dst v).f = (SE X fid ops S F T (fun k => E k ∨ k = j) q).f := by
  funext x
  by_cases hd : o.dst = some x
  · rw [set_eq hd]
    simp only [SE]
    rw [if_pos ⟨j, o, .inr rfl, ho, hd⟩, hv x hd]
  · rw [set_ne hd, hA]
    simp only [SE]
    have this : (∃ (k : Nat) (o : Oper), E k ∧ ops.toList[k]? = some o ∧ o.dst = some x) ↔ (∃ (k : Nat) (o : Oper), (E k ∨ k = j) ∧ ops.toList[k]? = some o ∧ o.dst = some x) := by
      constructor
      · rintro ⟨k, ok, h1, h2, h3⟩; exact ⟨k, ok, .inl h1, h2, h3⟩
      · rintro ⟨k, ok, h1 | h1, h2, h3⟩
        · exact ⟨k, ok, h1, h2, h3⟩
        · exfalso
          subst h1
          have e3 : some o = some ok := ho.symm.trans h2
          simp only [Option.some.injEq] at e3
          exact hd (by rw [e3]; exact h3)
    by_cases hc : ∃ (k : Nat) (o : Oper), E k ∧ ops.toList[k]? = some o ∧ o.dst = some x
    · rw [if_pos hc, if_pos (this.1 hc)]
    · rw [if_neg hc, if_neg (fun h => hc (this.2 h))]

theorem v_final (t : Tr X C fid id ops S F T B) (ho : ops.toList[j]? = some o) {Y : St} {v : V} (he : T (j + 1) = Y.set o.dst v) : ∀ d, o.dst = some d → F.f d = v := by
  intro d hd
  have hj := op_lt ho
  rw [← t.f_final ho hd (j + 1) (by omega) (by omega), he, set_eq hd]

theorem st_ext {A Y : St} (h1 : A.f = Y.f) (h2 : A.h = Y.h) (h3 : A.n = Y.n) : A = Y := by
  cases A; cases Y; simp_all

/-- one operation more -/
theorem adv (t : Tr X C fid id ops S F T B) (g : Stg X fid ops B E p) (ho : ops.toList[j]? = some o) (hj : ¬ E j) (hb : ∀ i ∈ B j, E i) :
    ∃ p', Stg X fid ops B (fun k => E k ∨ k = j) p' ∧ stepG X C fid (ops.toList.map (·.dst)) S.n j o (SE X fid ops S F T E p) = some (SE X fid ops S F T (fun k => E k ∨ k = j) p') := by
  have hlt := op_lt ho
  have hsame := same_SE t g ho hb hj
  have hst := t.step j o ho
  have uniq : ∀ {ok : Oper}, ops.toList[j]? = some ok → ok = o := fun h => by
    have e3 := ho.symm.trans h
    simp only [Option.some.injEq] at e3
    exact e3.symm
  have hlt' : ∀ k, (E k ∨ k = j) → k < ops.size := fun k hk => by
    rcases hk with hk | rfl
    · exact g.lt k hk
    · exact hlt
  have hcl' : ∀ k, (E k ∨ k = j) → ∀ i ∈ B k, E i ∨ i = j := fun k hk i hi => by
    rcases hk with hk | rfl
    · exact .inl (g.closed k hk i hi)
    · exact .inl (hb i hi)
  -- a later one that waits for this one has not run
  have later : ∀ k, E k → j ∉ B k := fun k hk hjb => hj (g.closed k hk j hjb)
  by_cases hc3 : cls X fid o = 3
  · -- a write: all writes before it have run, none after it
    have hW : ∀ (w : Nat) ow, ops.toList[w]? = some ow → cls X fid ow = 3 → (E w ↔ w < j) := by
      intro w ow how h3
      constructor
      · intro hw
        rcases Nat.lt_trichotomy w j with h | h | h
        · exact h
        · subst h; exact absurd hw hj
        · exact absurd (t.draw.ww j w o ow h ho how h3 (by omega)) (later w hw)
      · intro h
        exact hb w (t.draw.ww w j ow o h how ho hc3 (by omega))
    have hpj : p ≤ j := by
      rcases g.last with h | ⟨ow, how, h3⟩
      · omega
      · by_cases h0 : p = 0
        · omega
        · have := (g.iff (p - 1) ow how h3).2 (by omega)
          have := (hW (p - 1) ow how h3).1 this
          omega
    obtain ⟨q1, q2, q3⟩ := t.quiet j hpj (by omega) fun k ok h1 h2 hok h3 => by
      have := (hW k ok hok h3).2 h2
      have := (g.iff k ok hok h3).1 this
      omega
    have hh : (SE X fid ops S F T E p).h = (T j).h := by
      funext i
      simp only [SE]
      split
      · rename_i hx
        obtain ⟨k, ok, rfl, hok, h2, hE, hpk⟩ := hx
        have hkj : k < j := by
          rcases Nat.lt_trichotomy k j with h | h | h
          · exact h
          · subst h; exact absurd hE hj
          · exact absurd (t.draw.wk j k o ok h ho hok hc3 h2) (later k hE)
        rw [show S.n + k - S.n + 1 = k + 1 by omega, q3 k ok hpk hkj hok h2]
      · rename_i hx
        rw [q2 i fun k ok h1 h2 hok h3 e => hx ⟨k, ok, e, hok, h3, hb k (t.draw.ww k j ok o h2 hok ho hc3 (by omega)), h1⟩]
    obtain ⟨v, e1, e2⟩ := gstep3 hst
    refine ⟨j + 1, ⟨hlt', hcl', by omega, .inr ⟨o, by simpa using ho, hc3⟩, fun w ow how h3 => ?_⟩, ?_⟩
    · have := hW w ow how h3
      constructor
      · rintro (h | h)
        · have := this.1 h; omega
        · omega
      · intro h
        by_cases e : w = j
        · exact .inr e
        · exact .inl (this.2 (by omega))
    · rw [e2 _ hsame hh q1.symm]
      have hf := f_upd (A := { SE X fid ops S F T E p with h := (T (j + 1)).h, n := (T (j + 1)).n }) (p := p) (E := E) (Y := S) t ho rfl (v_final t ho e1) (j + 1)
      have hh' : (SE X fid ops S F T (fun k => E k ∨ k = j) (j + 1)).h = (T (j + 1)).h := by
        funext i
        simp only [SE]
        rw [if_neg]
        rintro ⟨k, ok, _, hok, h2, hE, hk⟩
        rcases hE with hE | hE
        · exact later k hE (t.draw.wk j k o ok (by omega) ho hok hc3 h2)
        · omega
      have hn' : (SE X fid ops S F T (fun k => E k ∨ k = j) (j + 1)).n = (T (j + 1)).n := rfl
      exact congrArg some (st_ext hf (by rw [set_h, hh']) (by rw [set_n, hn']))
  · -- no write: the stage stays
    have hst' : Stg X fid ops B (fun k => E k ∨ k = j) p := ⟨hlt', hcl', g.le, g.last, fun w ow how h3 => by
      constructor
      · rintro (h | h)
        · exact (g.iff w ow how h3).1 h
        · subst h; rw [uniq how] at h3; exact absurd h3 hc3
      · intro h; exact .inl ((g.iff w ow how h3).2 h)⟩
    refine ⟨p, hst', ?_⟩
    have hn' : (SE X fid ops S F T (fun k => E k ∨ k = j) p).n = (SE X fid ops S F T E p).n := rfl
    have hkeep : cls X fid o ≠ 2 → (SE X fid ops S F T E p).h = (SE X fid ops S F T (fun k => E k ∨ k = j) p).h := by
      intro hc2
      funext i
      simp only [SE]
      by_cases hc : ∃ (k : Nat) (ok : Oper), i = S.n + k ∧ ops.toList[k]? = some ok ∧ cls X fid ok = 2 ∧ E k ∧ p ≤ k
      · obtain ⟨k, ok, h1, h2, h3, h4, h5⟩ := hc
        rw [if_pos ⟨k, ok, h1, h2, h3, h4, h5⟩, if_pos ⟨k, ok, h1, h2, h3, .inl h4, h5⟩]
      · rw [if_neg hc, if_neg]
        rintro ⟨k, ok, h1, h2, h3, h4 | h4, h5⟩
        · exact hc ⟨k, ok, h1, h2, h3, h4, h5⟩
        · subst h4; rw [uniq h2] at h3; exact hc2 h3
    have hcl : cls X fid o = 0 ∨ cls X fid o = 1 ∨ cls X fid o = 2 := by
      have : cls X fid o ≤ 3 := by
        unfold cls
        repeat' split
        all_goals omega
      omega
    rcases hcl with hc | hc | hc
    · obtain ⟨v, e1, e2⟩ := gstep0 hc hst
      rw [e2 _ hsame]
      exact congrArg some (st_ext (f_upd (Y := S) t ho rfl (v_final t ho e1) p) (by rw [set_h, hkeep (by omega)]) (by rw [set_n, hn']))
    · have fin : ∀ v, (∀ d, o.dst = some d → F.f d = v) → some ((SE X fid ops S F T E p).set o.dst v) = some (SE X fid ops S F T (fun k => E k ∨ k = j) p) := fun v hv =>
        congrArg some (st_ext (f_upd (Y := S) t ho rfl hv p) (by rw [set_h, hkeep (by omega)]) (by rw [set_n, hn']))
      have hWp : ∀ (w : Nat) ow, ops.toList[w]? = some ow → cls X fid ow = 3 → (w ∈ B j → w < p) ∧ (j ∈ B w → p ≤ w) := fun w ow how h3 =>
        ⟨fun hm => (g.iff w ow how h3).1 (hb w hm), fun hm => by
          rcases Nat.lt_or_ge w p with h | h
          · exact absurd hm (later w ((g.iff w ow how h3).2 h))
          · exact h⟩
      rcases t.draw.reads j p o ho hc g.le g.last hWp with ⟨hpj, hnat⟩ | hexc
      · obtain ⟨q1, q2, q3⟩ := t.quiet j hpj (by omega) fun k ok h1 h2 hok h3 => by
          have := ((hnat k ok hok).1 h3).1 h2
          omega
        obtain ⟨v, e1, e2⟩ := gstep1 hc hst
        rw [e2 _ hsame ?_]
        · exact fin v (v_final t ho e1)
        · intro i ob hi
          simp only [SE]
          split
          · rename_i hx
            obtain ⟨k, ok, rfl, hok, h2, hE, hpk⟩ := hx
            rcases Nat.lt_or_ge k j with h | h
            · rw [show S.n + k - S.n + 1 = k + 1 by omega, ← q3 k ok hpk h hok h2]; exact hi
            · rw [t.h_none j k h (g.lt k hE)] at hi; cases hi
          · rename_i hx
            rw [← q2 i fun k ok h1 h2 hok h3 e => hx ⟨k, ok, e, hok, h3, hb k ((hnat k ok hok).2 h3 h1 h2), h1⟩]
            exact hi
      · obtain ⟨o', T', v', h1, h2, h3, h4⟩ := t.stab (j, p) hexc
        have eo := uniq h1
        subst eo
        have eT : T' = T p := by
          have := t.pre p g.le
          simp only at h2
          rw [h2] at this
          simpa using this
        subst eT
        rcases stepG_cases hst with ⟨g1, g2⟩ | ⟨g1, g2⟩
        · rw [g2 _ hsame]
          have hne : ∀ x args tys, o'.op ≠ .call ⟨.value x, args, tys⟩ := by
            intro x args tys e
            simp [evCore, e] at h3
          obtain ⟨_, k2⟩ := core1 hc hne h3
          have hcg : ∀ y ∈ o'.op.operands.toList, (SE X fid ops S F T E p).ev y = F.ev y := by
            intro y hy
            cases y with
            | tmp x =>
              have := looks_f t g ho hb hj (looks_opd hy rfl)
              show (SE X fid ops S F T E p).f x = F.f x
              rw [this.1, this.2 ⟨p, hexc⟩]
            | _ => rfl
          rw [stepOp_op hne, evCore_congr hcg, k2 (SE X fid ops S F T E p).h (S.n + j) ?_]
          · exact fin v' h4
          · intro i ob hi
            simp only [SE]
            split
            · rename_i hx
              obtain ⟨k, ok, rfl, hok, h2, hE, hpk⟩ := hx
              rw [t.h_none p k hpk (g.lt k hE)] at hi; cases hi
            · exact hi
        · rw [g2 _ hsame]
          exact fin _ (v_final t ho g1)
    · obtain ⟨v, ob, e1, e2⟩ := gstep2 hc hst
      rw [e2 _ hsame]
      have hpj : p ≤ j := by
        rcases g.last with h | ⟨ow, how, h3⟩
        · omega
        · by_cases h0 : p = 0
          · omega
          · have hE := (g.iff (p - 1) ow how h3).2 (by omega)
            rcases Nat.lt_trichotomy (p - 1) j with h | h | h
            · omega
            · rw [h] at hE; exact absurd hE hj
            · exact absurd (t.draw.ww j (p - 1) o ow h ho how h3 (by omega)) (later _ hE)
      refine congrArg some (st_ext (f_upd (A := { SE X fid ops S F T E p with h := addOb (SE X fid ops S F T E p).h (S.n + j) ob }) (E := E) (p := p) (Y := S) t ho rfl (v_final t ho e1) p) ?_ (by rw [set_n, hn']))
      rw [set_h]
      funext i
      by_cases hi : i = S.n + j
      · subst hi
        have hR : (SE X fid ops S F T (fun k => E k ∨ k = j) p).h (S.n + j) = (T (j + 1)).h (S.n + j) := by
          simp only [SE]
          rw [if_pos ⟨j, o, rfl, ho, hc, .inr rfl, hpj⟩, show S.n + j - S.n + 1 = j + 1 by omega]
        have hL : (SE X fid ops S F T E p).h (S.n + j) = none := by
          simp only [SE]
          rw [if_neg, t.h_none p j hpj hlt]
          rintro ⟨k, ok, h1, _, _, h4, _⟩
          have : k = j := by omega
          subst this; exact hj h4
        rw [hR, e1, set_h]
        cases ob with
        | none => simp only [addOb]; rw [hL, t.h_none j j (Nat.le_refl _) hlt]
        | some ob => simp [addOb, upd]
      · have : addOb (SE X fid ops S F T E p).h (S.n + j) ob i = (SE X fid ops S F T E p).h i := by
          cases ob with
          | none => rfl
          | some ob => simp [addOb, upd, hi]
        show addOb (SE X fid ops S F T E p).h (S.n + j) ob i = _
        rw [this]
        simp only [SE]
        by_cases hcc : ∃ (k : Nat) (ok : Oper), i = S.n + k ∧ ops.toList[k]? = some ok ∧ cls X fid ok = 2 ∧ E k ∧ p ≤ k
        · obtain ⟨k, ok, h1, h2, h3, h4, h5⟩ := hcc
          rw [if_pos ⟨k, ok, h1, h2, h3, h4, h5⟩, if_pos ⟨k, ok, h1, h2, h3, .inl h4, h5⟩]
        · rw [if_neg hcc, if_neg]
          rintro ⟨k, ok, h1, h2, h3, h4 | h4, h5⟩
          · exact hcc ⟨k, ok, h1, h2, h3, h4, h5⟩
          · subst h4; exact hi h1
end
end Go.Abs
