/- Arithmetic and comparisons. -/
import Derived.Test.YtcbddnmodlhnaaaA9
set_option linter.unusedVariables false
set_option linter.unusedSimpArgs false
namespace Go.Abs
open Go

section
variable {w : World} {I : Nat → Prop} {σ : Sig}

theorem rep_str {s : List UInt8} {u : Value} (h : Rep w I σ (.str s) u) : ∃ x : ByteArray, u = .string x ∧ x.data.toList = s := by simpa only [Rep] using h

theorem toList_eq (x : ByteArray) : x.toList = x.data.toList := by rw [ByteArray.toList_eq]

theorem run_partScal {P : Program} {t : TypeId} {kd : Nat} (hs : kdB P t kd = true) {cs : Array Value} {j : Nat} {u : Value} (hj : cs[j]? = some u) (w : World) : (Go.part t cs j).run P w = .ok u w := by
  unfold kdB at hs
  have : (isAgg t).run P w = .ok false w := by
    unfold isAgg
    split at hs
    · rename_i h; rw [Sem.run_bind, run_underlying h]; rfl
    · rename_i h; rw [Sem.run_bind, run_underlying h]; rfl
    · rename_i h; rw [Sem.run_bind, run_underlying h]; rfl
    · cases hs
  simp [Go.part, this, hj]

theorem run_eqScal {P : Program} {d : Nat} {t : TypeId} {kd : Nat} (hs : kdB P t kd = true) {x y : V} {u v : Value} {r : Bool} (hx : Rep w I σ x u) (hy : Rep w I σ y v) (hr : V.eqv kd x y = some r) (ws : World) :
    (Op.equalIn (d + 1) t u v).run P ws = .ok r ws := by
  unfold V.eqv at hr
  split at hr
  · split at hr
    · rename_i hk
      obtain ⟨rfl, rfl⟩ := hk
      simp only [Option.some.injEq] at hr; subst hr
      rw [rep_int hx, rep_int hy]
      unfold kdB at hs
      split at hs
      · rename_i h _; exact run_equalIn_int ws d t _ _ _ _ h
      · omega
      · omega
      · cases hs
    · cases hr
  · split at hr
    · rename_i hk
      subst hk
      simp only [Option.some.injEq] at hr; subst hr
      rw [rep_bool hx, rep_bool hy]
      unfold kdB at hs
      split at hs
      · omega
      · rename_i h _; exact run_equalIn_bool' ws d t _ _ h
      · omega
      · cases hs
    · cases hr
  · split at hr
    · rename_i hk
      subst hk
      simp only [Option.some.injEq] at hr; subst hr
      obtain ⟨a, rfl, rfl⟩ := rep_str hx
      obtain ⟨b, rfl, rfl⟩ := rep_str hy
      unfold kdB at hs
      split at hs
      · omega
      · omega
      · rename_i h _; rw [run_equalIn_string ws d t _ _ h, toList_eq, toList_eq]
      · cases hs
    · cases hr
  · cases hr

theorem run_eqFields {P : Program} {d : Nat} : ∀ (fs : List Field) (ks : List Nat) (xs ys : List V) (j : Nat) (us vs : Array Value) (r : Bool), fldsB P j fs ks = true → eqvL ks xs ys = some r →
    RepC w I σ xs (us.toList.drop j) → RepC w I σ ys (vs.toList.drop j) → ∀ ws, (Op.eqFields (d + 1) us vs fs).run P ws = .ok r ws
  | [], ks, xs, ys, j, us, vs, r, hf, he, hx, hy, ws => by
    cases ks with
    | nil =>
      cases xs with
      | nil => cases ys with
        | nil => simp only [eqvL, Option.some.injEq] at he; subst he; simp [Op.eqFields]
        | cons _ _ => simp [eqvL] at he
      | cons _ _ => simp [eqvL] at he
    | cons _ _ => simp [fldsB] at hf
  | f :: fs, ks, xs, ys, j, us, vs, r, hf, he, hx, hy, ws => by
    cases ks with
    | nil => simp [fldsB] at hf
    | cons k ks =>
      cases xs with
      | nil => simp [eqvL] at he
      | cons x xs => cases ys with
        | nil => simp [eqvL] at he
        | cons y ys =>
          simp only [fldsB, Bool.and_eq_true, bne_iff_ne, beq_iff_eq] at hf
          obtain ⟨⟨⟨h1, h2⟩, h3⟩, h4⟩ := hf
          simp only [eqvL] at he
          cases e1 : V.eqv k x y with
          | none => simp [e1] at he
          | some p => cases e2 : eqvL ks xs ys with
            | none => simp [e1, e2] at he
            | some q =>
              simp only [e1, e2, Option.some.injEq] at he
              simp only [RepC] at hx hy
              obtain ⟨u, ru, hu, _, hxu, hxr⟩ := hx
              obtain ⟨v, rv, hv, _, hyv, hyr⟩ := hy
              have gu : us[j]? = some u := by
                have := congrArg (fun l : List Value => l[0]?) hu
                simpa [List.getElem?_drop] using this
              have gv : vs[j]? = some v := by
                have := congrArg (fun l : List Value => l[0]?) hv
                simpa [List.getElem?_drop] using this
              have du : us.toList.drop (j + 1) = ru := by
                have := congrArg (List.drop 1) hu
                simpa [List.drop_drop] using this
              have dv : vs.toList.drop (j + 1) = rv := by
                have := congrArg (List.drop 1) hv
                simpa [List.drop_drop] using this
              have ih := run_eqFields (d := d) fs ks xs ys (j + 1) us vs q h4 e2 (by rw [du]; exact hxr) (by rw [dv]; exact hyr) ws
              simp only [Op.eqFields, if_pos h1]
              rw [h2]
              simp only [Sem.run_bind, run_partScal h3 gu, run_partScal h3 gv, Result.andThen_ok, run_eqScal h3 hxu hyv e1]
              cases p
              · simp at he; subst he; simp
              · simp at he; subst he; simp [ih]
end

section
variable {X : Env} {o : Oper} {a : Act} {w : World} {I : Nat → Prop} {σ : Sig} {S S1 : St}

theorem run_equalIn_ptr {P : Program} (w : World) (d : Nat) (t e : TypeId) (p q : Option Addr) (h : P.underlying t = some (.pointer e)) (hn : p = none ∨ q = none) :
    (Op.equalIn (d + 1) t (.pointer p) (.pointer q)).run P w = .ok (p.isNone && q.isNone) w := by
  rcases hn with rfl | rfl
  · simp [Op.equalIn, run_underlying h]
  · cases p <;> simp [Op.equalIn, run_underlying h]

theorem run_eq_ptr {P : Program} (w : World) (t e : TypeId) (p q : Option Addr) (h : P.underlying t = some (.pointer e)) (hn : p = none ∨ q = none) :
    (Op.equal t (.pointer p) (.pointer q)).run P w = .ok (p.isNone && q.isNone) w := run_equalIn_ptr w 9999 t e p q h hn

theorem eq_sim {P : Program} {t : TypeId} {ag : Bool} {shp : List Nat} (hB : eqB P t ag shp = true) {x y : V} {u v : Value} {r : Bool} (hx : Rep w I σ x u) (hy : Rep w I σ y v) (hr : eqV ag shp x y = some r) (p q : Operand) :
    (eqGuard .eql t p q u v).run P w = .ok () w ∧ (eqGuard .neq t p q u v).run P w = .ok () w ∧ (binOp .eql t u v).run P w = .ok (.bool r) w ∧ (binOp .neq t u v).run P w = .ok (.bool (!r)) w := by
  unfold eqV at hr
  split at hr
  · rename_i xs ys
    split at hr
    · rename_i hag
      simp only [Rep] at hx hy
      obtain ⟨us, rfl, hcx⟩ := hx
      obtain ⟨vs, rfl, hcy⟩ := hy
      have hne : ∃ fs, P.underlying t = some (.struct fs) ∧ (shp = [] ∨ (P.stoodInHeld t = false ∧ P.eqGuardType P.depth t = false ∧ fldsB P 0 fs.toList shp = true)) := by
        unfold eqB at hB
        split at hB
        · rename_i fs h
          simp [hag.1] at hB
          exact ⟨fs, h, hB.imp id fun h => ⟨h.1.1, h.1.2, h.2⟩⟩
        · simp [hag.1] at hB
        · simp [hag.1] at hB
        · simp [hag.1] at hB
          subst hB
          cases xs with
          | nil => simp [eqvL] at hr
          | cons x xs => cases ys with
            | nil => simp [eqvL] at hr
            | cons y ys => cases x <;> cases y <;> simp [eqvL, V.eqv] at hr
        · simp [hag.1] at hB
      obtain ⟨fs, hfs, hc⟩ := hne
      rcases hc with h0 | ⟨h1, h2, h3⟩
      · exact absurd h0 hag.2
      · have hF : P.fieldsOf t = fs := by simp [Program.fieldsOf, hfs]
        have he := run_eqFields (d := 9998) fs.toList shp xs ys 0 us vs r h3 hr (by simpa using hcx) (by simpa using hcy) w
        have hst : (Op.equalIn 10000 t (.agg us) (.agg vs)).run P w = .ok r w := by
          rw [run_equalIn_struct w 9999 t us vs (by rw [hF]; exact hfs) h1, hF]
          exact he
        refine ⟨run_eqGuard_agg w .eql t p q us vs h2, run_eqGuard_agg w .neq t p q us vs h2, ?_, ?_⟩
        · rw [run_eql_struct, hst]; rfl
        · rw [run_neq_struct, hst]; rfl
    · cases hr
  · split at hr
    · rename_i hk; subst hk
      simp only [Option.some.injEq] at hr; subst hr
      rw [rep_int hx, rep_int hy]
      refine ⟨by rw [eqGuard_at_int]; rfl, by rw [eqGuard_at_int]; rfl, by rw [binOp_eql]; rfl, by rw [binOp_neq]; rfl⟩
    · cases hr
  · split at hr
    · rename_i hc
      simp only [Option.some.injEq] at hr; subst hr
      rw [rep_bool hx, rep_bool hy]
      have ht : P.underlying t = some .bool := by
        unfold eqB at hB
        split at hB
        · simp [hc] at hB
        · assumption
        · simp [hc] at hB
        · simp [hc] at hB
        · simp [hc] at hB
      refine ⟨by rw [eqGuard_at_bool]; rfl, by rw [eqGuard_at_bool]; rfl, ?_, ?_⟩
      · simp only [binOp, Sem.run_bind]
        rw [show Op.equal t (.bool _) (.bool _) = Op.equalIn (9999 + 1) t (.bool _) (.bool _) from rfl, run_equalIn_bool' w 9999 t _ _ ht]
        rfl
      · simp only [binOp, Sem.run_bind]
        rw [show Op.equal t (.bool _) (.bool _) = Op.equalIn (9999 + 1) t (.bool _) (.bool _) from rfl, run_equalIn_bool' w 9999 t _ _ ht]
        rfl
    · cases hr
  · simp only [Option.some.injEq] at hr; subst hr
    obtain ⟨a, rfl, rfl⟩ := rep_str hx
    obtain ⟨b, rfl, rfl⟩ := rep_str hy
    refine ⟨by rw [eqGuard_at_string]; rfl, by rw [eqGuard_at_string]; rfl, ?_, ?_⟩
    · simp [binOp, Op.stringOp, toList_eq]
    · simp [binOp, Op.stringOp, toList_eq]
  all_goals first | (cases hr; done) | skip
  all_goals
    split at hr
    · rename_i hc
      simp only [Option.some.injEq] at hr; subst hr
      have ht : ∃ e, P.underlying t = some (.pointer e) := by
        unfold eqB at hB
        split at hB
        · simp [hc] at hB
        · simp [hc] at hB
        · rename_i e h; exact ⟨e, h⟩
        · simp [hc] at hB
        · simp [hc] at hB
      obtain ⟨e, ht⟩ := ht
      simp only [Rep] at hx hy
      first | (obtain ⟨b, o, k, _, rfl⟩ := hx) | subst hx
      first | (obtain ⟨b, o, k, _, rfl⟩ := hy) | subst hy
      refine ⟨by rw [eqGuard_at_pointer]; rfl, by rw [eqGuard_at_pointer]; rfl, ?_, ?_⟩
      · simp only [binOp, Sem.run_bind]
        rw [run_eq_ptr w t e _ _ ht (by simp)]
        rfl
      · simp only [binOp, Sem.run_bind]
        rw [run_eq_ptr w t e _ _ ht (by simp)]
        rfl
    · cases hr

theorem sim_binOp {op : BinOp} {t ty : TypeId} {x y : Operand} {v : V} (ho : o.op = .binOp op t x y ty) (hB : op = .eql ∨ op = .neq → eqB X.P t (X.ti t).agg (X.ti t).shp = true) (R : Rel w I σ S.h) (F : FRel w I σ S.f a) (hx : Opds o)
    (hv : binV (X.ti t).agg (X.ti t).shp op (S.ev x) (S.ev y) = some v) (hs : S1 = S.set o.dst v) : Out X o a w I σ S S1 := by
  have h1 : Rep w I σ (S.ev x) (a.eval x) := ev_rep (S := S) F (hx x (by simp [ho, Op.operands]))
  have h2 : Rep w I σ (S.ev y) (a.eval y) := ev_rep (S := S) F (hx y (by simp [ho, Op.operands]))
  generalize S.ev x = p at h1 hv
  generalize S.ev y = q at h2 hv
  have ints : ∀ (f : IntKind → Int → Int → Option V), int2 p q f = some v → (∀ k m n, p = .int k m → q = .int k n → f k m n = some v → ∃ u, (binOp op t (.int k m) (.int k n)).run X.P w = .ok u w ∧ Rep w I σ v u) → Out X o a w I σ S S1 := by
    intro f hf hrun
    unfold int2 at hf
    split at hf
    · rename_i k m k' n
      split at hf
      · rename_i hk; subst hk
        obtain ⟨u, hu, hr⟩ := hrun k m n rfl rfl hf
        refine Out.pure (u := u) R ?_ hr hs
        simp [execOp, ho, rep_int h1, rep_int h2, eqGuard_at_int, hu]
      · cases hf
    · cases hf
  cases op with
  | eql =>
    simp only [binV] at hv
    cases he : eqV (X.ti t).agg (X.ti t).shp p q with
    | none => simp [he] at hv
    | some r =>
      simp only [he, Option.some.injEq] at hv; subst hv
      have := eq_sim (hB (.inl rfl)) h1 h2 he x y
      exact Out.pure (u := .bool r) R (by simp [execOp, ho, this.1, this.2.2.1]) (by simp [Rep]) hs
  | neq =>
    simp only [binV] at hv
    cases he : eqV (X.ti t).agg (X.ti t).shp p q with
    | none => simp [he] at hv
    | some r =>
      simp only [he, Option.some.injEq] at hv; subst hv
      have := eq_sim (hB (.inr rfl)) h1 h2 he x y
      exact Out.pure (u := .bool (!r)) R (by simp [execOp, ho, this.2.1, this.2.2.2]) (by simp [Rep]) hs
  | add =>
    simp only [binV] at hv
    split at hv
    · rename_i l m
      split at hv
      · rename_i hle
        simp only [Option.some.injEq] at hv; subst hv
        obtain ⟨b1, e1, rfl⟩ := rep_str h1
        obtain ⟨b2, e2, rfl⟩ := rep_str h2
        refine Out.pure (u := .string (b1 ++ b2)) R ?_ (by simp only [Rep]; exact ⟨_, rfl, by simp⟩) hs
        have hsz : ¬ ((b1.size + b2.size : Nat) : Int) > IntKind.i64.max := by
          have z1 : b1.data.toList.length = b1.size := Array.length_toList
          have z2 : b2.data.toList.length = b2.size := Array.length_toList
          rw [IntKind.max_i64]
          rw [z1, z2] at hle
          omega
        simp only [execOp, ho, e1, e2, eqGuard_at_string, Sem.run_bind, Sem.run_pure, Result.andThen_ok, binOp, Op.stringOp, if_neg hsz]
      · cases hv
    · exact ints _ hv fun k m n _ _ hf => ⟨.int k (k.wrap (m + n)), by rw [binOp_add]; rfl, by simp only [Option.some.injEq] at hf; subst hf; simp [Rep]⟩
  | sub => exact ints _ hv fun k m n _ _ hf => ⟨.int k (k.wrap (m - n)), by rw [binOp_sub]; rfl, by simp only [Option.some.injEq] at hf; subst hf; simp [Rep]⟩
  | mul => exact ints _ hv fun k m n _ _ hf => ⟨.int k (k.wrap (m * n)), by rw [binOp_mul]; rfl, by simp only [Option.some.injEq] at hf; subst hf; simp [Rep]⟩
  | quo =>
    refine ints _ hv fun k m n _ _ hf => ?_
    split at hf
    · cases hf
    · rename_i hn
      simp only [Option.some.injEq] at hf; subst hf
      exact ⟨.int k (k.wrap (m.tdiv n)), by rw [binOp_quo]; simp [Op.intDiv, hn], by simp [Rep]⟩
  | rem =>
    refine ints _ hv fun k m n _ _ hf => ?_
    split at hf
    · cases hf
    · rename_i hn
      simp only [Option.some.injEq] at hf; subst hf
      exact ⟨.int k (m.tmod n), by rw [binOp_rem]; simp [Op.intDiv, hn], by simp [Rep]⟩
  | lss => exact ints _ hv fun k m n _ _ hf => ⟨.bool (decide (m < n)), by rw [binOp_lss]; rfl, by simp only [Option.some.injEq] at hf; subst hf; simp [Rep]⟩
  | leq => exact ints _ hv fun k m n _ _ hf => ⟨.bool (decide (m ≤ n)), by rw [binOp_leq]; rfl, by simp only [Option.some.injEq] at hf; subst hf; simp [Rep]⟩
  | gtr => exact ints _ hv fun k m n _ _ hf => ⟨.bool (decide (n < m)), by rw [binOp_gtr]; rfl, by simp only [Option.some.injEq] at hf; subst hf; simp [Rep]⟩
  | geq => exact ints _ hv fun k m n _ _ hf => ⟨.bool (decide (n ≤ m)), by rw [binOp_geq]; rfl, by simp only [Option.some.injEq] at hf; subst hf; simp [Rep]⟩
  | shl =>
    simp only [binV] at hv
    split at hv
    · rename_i k m k' n
      split at hv
      · cases hv
      · rename_i hn
        simp only [Option.some.injEq] at hv; subst hv
        refine Out.pure (u := .int k (k.wrap (m * 2 ^ (min n.toNat k.bits)))) R ?_ (by simp [Rep]) hs
        simp [execOp, ho, rep_int h1, rep_int h2, eqGuard_at_int, binOp, Op.shift, hn]
    · cases hv
  | shr =>
    simp only [binV] at hv
    split at hv
    · rename_i k m k' n
      split at hv
      · cases hv
      · rename_i hn
        simp only [Option.some.injEq] at hv; subst hv
        refine Out.pure (u := .int k (m.fdiv (2 ^ (min n.toNat k.bits)))) R ?_ (by simp [Rep]) hs
        simp [execOp, ho, rep_int h1, rep_int h2, eqGuard_at_int, binOp, Op.shift, hn]
    · cases hv
  | and => exact ints _ hv fun k m n _ _ hf => ⟨.int k (bits k .and m n), by rw [binOp_and]; rfl, by simp only [Option.some.injEq] at hf; subst hf; simp [Rep]⟩
  | or => exact ints _ hv fun k m n _ _ hf => ⟨.int k (bits k .or m n), by rw [binOp_or]; rfl, by simp only [Option.some.injEq] at hf; subst hf; simp [Rep]⟩
  | xor => exact ints _ hv fun k m n _ _ hf => ⟨.int k (bits k .xor m n), by rw [binOp_xor]; rfl, by simp only [Option.some.injEq] at hf; subst hf; simp [Rep]⟩
  | andNot => exact ints _ hv fun k m n _ _ hf => ⟨.int k (bits k .andNot m n), by rw [binOp_andNot]; rfl, by simp only [Option.some.injEq] at hf; subst hf; simp [Rep]⟩
end
end Go.Abs
