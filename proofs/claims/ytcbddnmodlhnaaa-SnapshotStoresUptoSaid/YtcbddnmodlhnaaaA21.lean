/- One operation of a region. -/
import Derived.Test.YtcbddnmodlhnaaaA20
namespace Go.Abs
open Go

theorem evCore_n {X : Env} {fid : FuncId} {o : Oper} {ρ : Operand → V} {h0 h1 : Heap} {n0 n1 : Nat} {v : V} (h : evCore X fid o ρ h0 n0 = some (v, h1, n1)) : n1 = n0 ∨ n1 = n0 + 1 := by
  unfold evCore at h
  dsimp (zeta := true) only at h
  repeat' split at h
  all_goals first
    | (cases h; done)
    | (simp only [Option.some.injEq, Prod.mk.injEq] at h; exact .inl h.2.2.symm)
    | (simp only [Option.some.injEq, Prod.mk.injEq] at h; exact .inr h.2.2.symm)

section
variable {w w1 w2 w' : World} {I I1 I2 I' : Nat → Prop} {σ σ1 σ2 σ' : Sig} {h h1 h2 h' : Heap} {n n1 n2 n' p m m' : Nat}

theorem Step.join (s : Step w I σ h n w1 I1 σ1 h1 n1) (s' : Step w1 I1 σ1 h1 p w2 I2 σ2 h2 n2) (hp : n ≤ p) (hn : n1 ≤ n2) : Step w I σ h n w2 I2 σ2 h2 n2 where
  ext := s.ext.trans s'.ext
  rel := s'.rel
  os := s'.os.trans s.os
  tape := s'.tape.trans s.tape
  output := s'.output.trans s.output
  size := Nat.le_trans s.size s'.size
  frame := fun b hb ho => (s'.frame b (Nat.lt_of_lt_of_le hb s.size) (fun hx => by
    rcases s.own b hx with hx | hx
    · omega
    · exact ho hx)).trans (s.frame b hb ho)
  own := fun b hb => by
    rcases s'.own b hb with hx | hx
    · exact .inl (Nat.le_trans s.size hx)
    · exact s.own b hx
  inew := fun b hb => by
    rcases s'.inew b hb with hx | hx | hx
    · exact s.inew b hx
    · exact .inr (.inl (Nat.le_trans s.size hx))
    · exact .inr (s.own b hx)
  le := Nat.le_trans s.le hn
  sigs := fun id hid => by
    have l1 := s.le; have l2 := s'.le
    rw [s'.sigs id (by omega), s.sigs id (by omega)]
  news := fun id hid hz => by
    have l1 := s.le; have l2 := s'.le
    exact s'.news id (by omega) (s.news id (by omega) hz)

theorem Step.widen (s : Step w I σ h n w' I' σ' h' n') (hm : m ≤ n) (hm' : n' ≤ m') : Step w I σ h m w' I' σ' h' m' :=
  { s with
    le := by have := s.le; omega
    sigs := fun id hid => s.sigs id (by omega)
    news := fun id hid hz => s.news id (by omega) hz }

theorem RepL.append {cs ds : List V} {us vs : List Value} (hc : RepL w I σ cs us) (hd : RepL w I σ ds vs) : RepL w I σ (cs ++ ds) (us ++ vs) := by
  induction cs generalizing us with
  | nil => simp only [RepL] at hc; subst hc; simpa using hd
  | cons c cs ih =>
    simp only [RepL] at hc
    obtain ⟨u, r, rfl, h1, h2⟩ := hc
    simp only [List.cons_append, RepL]
    exact ⟨u, r ++ vs, rfl, h1, ih h2⟩
end

/-- a function that is entered when it is called -/
def GoodF (X : Env) (g : FuncId) : Prop := ∃ fn b, X.P.funcs[g]? = some fn ∧ fn.body = some b ∧ (fn.name == "runtime.NumGoroutine") = false

theorem enter_run {X : Env} {g : FuncId} (hg : GoodF X g) (args : Array Value) (w : World) : (callFunc g args).run X.P w = .ok (.enter g args) w := by
  obtain ⟨fn, b, hf, hb, hn⟩ := hg
  simp only [beq_eq_false_iff_ne, ne_eq] at hn
  simp [callFunc, hf, hb, hn]

theorem ev_setn (S : St) (m : Nat) : ({ S with n := m } : St).ev = S.ev := by
  funext x; cases x <;> rfl

section
variable {X : Env} {C : CallT} {fid : FuncId} {n0 j nt : Nat} {o : Oper} {S S1 : St} {w : World} {I : Nat → Prop} {σ : Sig} {a : Act}

/-- what an operation of a region leaves -/
def Left (o : Oper) (a : Act) (w : World) (I : Nat → Prop) (σ : Sig) (S S1 : St) (n0 j : Nat) (a' : Act) (w' : World) : Prop :=
  ∃ u v I' σ', a' = a.put o.dst u ∧ Rep w' I' σ' v u ∧ S1.f = (S.set o.dst v).f ∧ Step w I σ S.h n0 w' I' σ' S1.h S1.n ∧ S.n ≤ S1.n ∧ Fresh σ' S1.h S1.n ∧
    (∀ q, q ≠ j → n0 + q < S.n → S.h (n0 + q) = none → σ (n0 + q) = none → S1.h (n0 + q) = none ∧ σ' (n0 + q) = none)

theorem sim_step (hC : CallOk X C) (hK : CloneOk X) (hG : ∀ fid dst g args S S1, evCall X C fid dst g args S = some S1 → GoodF X g) (hB : opB X nt o = true) (he : stepOp X C fid n0 j o S = some S1)
    (R : Rel w I σ S.h) (F : FRel w I σ S.f a) (fr : Fresh σ S.h S.n) (hn : S.h (n0 + j) = none) (hsn : σ (n0 + j) = none) (hlt : n0 + j < S.n) (Q : Exit → Act → World → Prop) :
    o.wp X.P a w (Left o a w I σ S S1 n0 j) Q := by
  have op : (∀ x args tys, o.op ≠ .call ⟨.value x, args, tys⟩) → o.wp X.P a w (Left o a w I σ S S1 n0 j) Q := by
    intro hne
    unfold stepOp at he
    split at he
    · rename_i x args tys ho; exact absurd ho (hne x args tys)
    · split at he
      case h_2 => cases he
      rename_i v0 h0 n1 hc
      simp only [Option.some.injEq] at he
      subst he
      have hnn := evCore_n hc
      have hev : evOp X fid o { S with n := n0 + j } = some (({ S with h := h0, n := n1 } : St).set o.dst v0) := by
        unfold evOp
        rw [ev_setn, hc]
      obtain ⟨nx, w', I', σ', u, v, hrun, hnx, hst, hf, hrep⟩ := sim_op (S := { S with n := n0 + j }) hB R F hn hsn fid hev
      rw [set_h, set_n] at hst
      have hfin : Left o a w I σ S (({ S with h := h0 } : St).set o.dst v0) n0 j (a.put o.dst u) w' := by
        refine ⟨u, v, I', σ', rfl, hrep, ?_, ?_, by rw [set_n]; exact Nat.le_refl _, ?_, fun q hq hql h1 h2 => ⟨?_, ?_⟩⟩
        · have e1 : (({ S with h := h0, n := n1 } : St).set o.dst v0).f = (({ S with h := h0 } : St).set o.dst v0).f := by cases o.dst <;> rfl
          have e2 : (({ S with n := n0 + j } : St).set o.dst v).f = (S.set o.dst v).f := by cases o.dst <;> rfl
          rw [← e1, ← e2]; exact hf
        · rw [set_h, set_n]
          exact hst.widen (by simp) (by simp only; omega)
        · intro id hid
          rw [set_n] at hid
          have := fr id hid
          rw [set_h]
          refine ⟨hst.news id (by simp only at hid ⊢; omega) this.1, ?_⟩
          rw [hst.sigs id (by simp only at hid ⊢; omega)]; exact this.2
        · rw [set_h]
          exact hst.news (n0 + q) (by simp only; omega) h1
        · rw [hst.sigs (n0 + q) (by simp only; omega)]; exact h2
      unfold Oper.wp
      rw [hrun]
      rcases hnx with rfl | ⟨rfl, rfl⟩
      · exact hfin
      · exact hfin
  by_cases hc : ∃ x args tys, o.op = .call ⟨.value x, args, tys⟩
  · obtain ⟨x, args, tys, ho⟩ := hc
    unfold stepOp at he
    simp only [ho] at he
    have hops : Opds o := by
      unfold opB at hB
      rw [Bool.and_eq_true, Bool.and_eq_true] at hB
      exact fun x hm => List.all_eq_true.1 hB.1.2 x hm
    split at he
    case h_2 => cases he
    rename_i g first caps hx
    have hgood := hG _ _ _ _ _ _ he
    have hxr : Rep w I σ (S.ev x) (a.eval x) := ev_rep (S := S) F (hops x (by simp [ho, Op.operands, Call.operands]))
    rw [hx] at hxr
    simp only [Rep] at hxr
    obtain ⟨us, vs, hxe, h1, h2⟩ := hxr
    have hargs : RepL w I σ (args.toList.map S.ev) (args.map a.eval).toList := by
      rw [RepL_iff]
      refine ⟨by simp, fun i c u hc hu => ?_⟩
      rw [List.getElem?_map] at hc
      rw [Array.getElem?_toList, Array.getElem?_map] at hu
      cases hi : args[i]? with
      | none => simp [hi] at hu
      | some y =>
        rw [Array.getElem?_toList, hi] at hc
        rw [hi] at hu
        simp at hc hu; subst hc; subst hu
        exact ev_rep (S := S) F (hops y (by
          have := Array.mem_of_getElem? hi
          simp [ho, Op.operands, Call.operands, this]))
    have hall : RepL w I σ (first ++ args.toList.map S.ev ++ caps) (us ++ args.map a.eval ++ vs).toList := by
      simp only [Array.toList_append]
      exact (h1.append hargs).append h2
    have hrun : (execOp a.eval o).run X.P w = .ok (.enter g (us ++ args.map a.eval ++ vs)) w := by
      simp only [execOp, ho, resolve, hxe, Deferred.ofValue]
      simp [invoke, enter_run hgood]
    unfold Oper.wp
    rw [hrun]
    simp only [Oper.upon]
    refine Calls.mono (sim_call hC hK he R fr _ hall) fun e w' hh => ?_
    obtain ⟨u, v, I', σ', rfl, hst, hf, hrep⟩ := hh
    refine ⟨u, v, I', σ', rfl, hrep, hf, hst.widen (by omega) (Nat.le_refl _), hst.le, hst.fresh fr, fun q hq hql h1 h2 => ⟨hst.news _ (.inl hql) h1, ?_⟩⟩
    rw [hst.sigs _ (.inl hql)]; exact h2
  · exact op fun x args tys ho => hc ⟨x, args, tys, ho⟩

end
end Go.Abs
