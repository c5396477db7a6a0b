/- A region in any order: the state that a set of executed operations leaves. -/
import Derived.Test.YtcbddnmodlhnaaaB5
set_option linter.unusedVariables false
set_option linter.unusedSimpArgs false
namespace Go.Abs
open Go

/-- a region and its trace -/
structure Tr (X : Env) (C : CallT) (fid : FuncId) (id : Nat) (ops : Array Oper) (S F : St) (T : Nat → St) (B : Nat → List Nat) : Prop where
  draw : DrawP X fid id ops B
  news : CallNews C
  t0 : T 0 = { S with n := S.n + ops.size }
  tN : T ops.size = F
  step : ∀ (k : Nat) o, ops.toList[k]? = some o → stepG X C fid (ops.toList.map (·.dst)) S.n k o (T k) = some (T (k + 1))
  pre : ∀ p, p ≤ ops.size → evOps X C fid (ops.toList.map (·.dst)) S.n 0 (ops.toList.take p) { S with n := S.n + ops.size } = some (T p)
  stab : Stable X C fid ops.toList S.n { S with n := S.n + ops.size } F (X.exc fid id)
  fresh : ∀ i, S.n ≤ i → S.h i = none

section
variable {X : Env} {C : CallT} {fid : FuncId} {id : Nat} {ops : Array Oper} {S F : St} {T : Nat → St} {B : Nat → List Nat}

theorem op_at {k : Nat} (hk : k < ops.size) : ops.toList[k]? = some ops.toList[k] := List.getElem?_eq_getElem (by simpa using hk)
theorem op_lt {k : Nat} {o : Oper} (h : ops.toList[k]? = some o) : k < ops.size := by
  have := (List.getElem?_eq_some_iff.1 h).1
  simpa using this

theorem Tr.n_le (t : Tr X C fid id ops S F T B) : ∀ k, k ≤ ops.size → S.n + ops.size ≤ (T k).n
  | 0, _ => by rw [t.t0]; exact Nat.le_refl _
  | k + 1, hk => by
    have h1 := t.n_le k (by omega)
    have := (gnews t.news (t.step k _ (op_at (by omega)))).1
    omega

theorem Tr.h_none (t : Tr X C fid id ops S F T B) : ∀ m q, m ≤ q → q < ops.size → (T m).h (S.n + q) = none
  | 0, q, _, hq => by rw [t.t0]; exact t.fresh _ (by omega)
  | m + 1, q, hm, hq => by
    have h1 := t.h_none m q (by omega) hq
    have h2 := t.n_le m (by omega)
    exact (gnews t.news (t.step m _ (op_at (by omega)))).2 _ (by omega) (by omega) h1

theorem set_ne {S : St} {d : Option Nat} {v : V} {t : Nat} (h : d ≠ some t) : (S.set d v).f t = S.f t := by
  cases d with
  | none => rfl
  | some x =>
    have : t ≠ x := fun e => h (by rw [e])
    simp [St.set, upd, this]

theorem set_eq {S : St} {d : Option Nat} {v : V} {t : Nat} (h : d = some t) : (S.set d v).f t = v := by
  subst h; simp [St.set, upd]

theorem Tr.f_step (t : Tr X C fid id ops S F T B) {k : Nat} {o : Oper} (ho : ops.toList[k]? = some o) {x : Nat} (hd : o.dst ≠ some x) : (T (k + 1)).f x = (T k).f x := by
  obtain ⟨v, h1, _⟩ := gstep3 (t.step k o ho)
  rw [h1, set_ne hd]

theorem Tr.f_range (t : Tr X C fid id ops S F T B) {x : Nat} {i : Nat} : ∀ m, i ≤ m → m ≤ ops.size → (∀ k o, i ≤ k → k < m → ops.toList[k]? = some o → o.dst ≠ some x) → (T m).f x = (T i).f x
  | 0, hi, _, _ => by rw [show i = 0 by omega]
  | m + 1, hi, hm, hk => by
    by_cases he : i = m + 1
    · rw [he]
    · rw [t.f_step (op_at (by omega)) (hk m _ (by omega) (by omega) (op_at (by omega)))]
      exact t.f_range m (by omega) (by omega) fun k o h1 h2 h3 => hk k o h1 (by omega) h3

/-- what an operation yields stays -/
theorem Tr.f_final (t : Tr X C fid id ops S F T B) {k : Nat} {o : Oper} (ho : ops.toList[k]? = some o) {x : Nat} (hd : o.dst = some x) : ∀ m, k < m → m ≤ ops.size → (T m).f x = F.f x := by
  intro m hm hms
  have hk := op_lt ho
  have key : ∀ m, k < m → m ≤ ops.size → (T m).f x = (T (k + 1)).f x := fun m hm hms => t.f_range m (by omega) hms fun i oi h1 h2 h3 => t.draw.dst k i o oi x (by omega) ho h3 hd
  rw [← t.tN, key m hm hms, key ops.size hk (Nat.le_refl _)]

theorem Tr.f_init (t : Tr X C fid id ops S F T B) {x : Nat} (hx : ∀ (k : Nat) o, ops.toList[k]? = some o → o.dst ≠ some x) : ∀ m, m ≤ ops.size → (T m).f x = S.f x := by
  intro m hm
  rw [t.f_range (i := 0) m (by omega) hm fun k o _ _ h => hx k o h, t.t0]

/-- the heap over a stretch without writes -/
theorem Tr.quiet (t : Tr X C fid id ops S F T B) {p : Nat} : ∀ m, p ≤ m → m ≤ ops.size → (∀ k o, p ≤ k → k < m → ops.toList[k]? = some o → cls X fid o ≠ 3) →
    (T m).n = (T p).n ∧ (∀ i, (∀ (k : Nat) o, p ≤ k → k < m → ops.toList[k]? = some o → cls X fid o = 2 → i ≠ S.n + k) → (T m).h i = (T p).h i) ∧
      (∀ (k : Nat) o, p ≤ k → k < m → ops.toList[k]? = some o → cls X fid o = 2 → (T m).h (S.n + k) = (T (k + 1)).h (S.n + k))
  | 0, hp, _, _ => by
    rw [show p = 0 by omega]
    exact ⟨rfl, fun _ _ => rfl, fun k o h1 h2 => by omega⟩
  | m + 1, hp, hm, hw => by
    by_cases he : p = m + 1
    · rw [← he]
      exact ⟨rfl, fun _ _ => rfl, fun k o h1 h2 => by omega⟩
    · obtain ⟨h1, h2, h3⟩ := t.quiet m (by omega) (by omega) fun k o g1 g2 g3 => hw k o g1 (by omega) g3
      have ho := op_at (ops := ops) (k := m) (by omega)
      have hst := t.step m _ ho
      generalize ops.toList[m] = o at *
      have hc3 := hw m o (by omega) (by omega) ho
      have hcl : cls X fid o = 0 ∨ cls X fid o = 1 ∨ cls X fid o = 2 := by
        have : cls X fid o ≤ 3 := by
          unfold cls
          repeat' split
          all_goals omega
        omega
      have same : (cls X fid o = 0 ∨ cls X fid o = 1) → (T (m + 1)).h = (T m).h ∧ (T (m + 1)).n = (T m).n := by
        rintro (hc | hc)
        · obtain ⟨v, e, _⟩ := gstep0 hc hst
          rw [e, set_h, set_n]; exact ⟨rfl, rfl⟩
        · obtain ⟨v, e, _⟩ := gstep1 hc hst
          rw [e, set_h, set_n]; exact ⟨rfl, rfl⟩
      by_cases hc2 : cls X fid o = 2
      · obtain ⟨v, ob, e, _⟩ := gstep2 hc2 hst
        have hn : (T (m + 1)).n = (T m).n := by rw [e, set_n]
        have hh : ∀ i, i ≠ S.n + m → (T (m + 1)).h i = (T m).h i := by
          intro i hi
          rw [e, set_h]
          cases ob with
          | none => rfl
          | some ob => simp [addOb, upd, hi]
        refine ⟨by rw [hn, h1], fun i hi => ?_, fun k ok g1 g2 g3 g4 => ?_⟩
        · rw [hh i (hi m o (by omega) (by omega) ho hc2)]
          exact h2 i fun k ok g1 g2 g3 g4 => hi k ok g1 (by omega) g3 g4
        · by_cases hkm : k = m
          · rw [hkm]
          · rw [hh _ (by omega)]
            exact h3 k ok g1 (by omega) g3 g4
      · obtain ⟨e1, e2⟩ := same (by omega)
        refine ⟨by rw [e2, h1], fun i hi => ?_, fun k ok g1 g2 g3 g4 => ?_⟩
        · rw [e1]
          exact h2 i fun k ok g1 g2 g3 g4 => hi k ok g1 (by omega) g3 g4
        · by_cases hkm : k = m
          · exfalso
            apply hc2
            rw [hkm] at g3
            have e3 : some o = some ok := ho.symm.trans g3
            simp only [Option.some.injEq] at e3
            rw [e3]; exact g4
          · rw [e1]
            exact h3 k ok g1 (by omega) g3 g4
end
end Go.Abs
