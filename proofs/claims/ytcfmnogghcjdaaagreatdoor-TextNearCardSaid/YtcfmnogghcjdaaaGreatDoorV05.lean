/- Part of a proof: A22, B1, B2, N1, B3, A24. -/
import Derived.Test.YtcfmnogghcjdaaaGreatDoorV04
set_option linter.all false
set_option maxRecDepth 100000
set_option maxHeartbeats 20000000
namespace Go.Abs
open Go
section
variable {X : Env} {C : CallT} {fid : FuncId} {n0 nt : Nat} {ops : Array Oper}
theorem put_size (a : Act) (d : Option Nat) (u : Value) : (a.put d u).tmps.size = a.tmps.size := by cases d <;> simp [Act.put]
theorem put_defers (a : Act) (d : Option Nat) (u : Value) : (a.put d u).defers = a.defers := by cases d <;> rfl
theorem FRel.putd {w : World} {I : Nat → Prop} {σ : Sig} {S S1 : St} {a : Act} (F : FRel w I σ S.f a) {v : V} {u : Value} (hr : Rep w I σ v u) (d : Option Nat) (hd : ∀ t, d = some t → t < a.tmps.size)
    (hf : S1.f = (S.set d v).f) : FRel w I σ S1.f (a.put d u) := by
  rw [hf]
  cases d with
  | none => exact F
  | some t => exact F.put hr t (hd t rfl)
theorem opB_dst {o : Oper} (hB : opB X nt o = true) : ∀ t, o.dst = some t → t < nt := by
  intro t ht
  unfold opB at hB
  rw [Bool.and_eq_true, Bool.and_eq_true] at hB
  have := hB.1.1
  simpa [ht] using this
theorem wanted_rep {w : World} {I : Nat → Prop} {σ : Sig} {S : St} {a : Act} (F : FRel w I σ S.f a) {o : Oper} {j d : Nat} {want : Bool} (hg : o.guard = some (j, want)) (hd : (ops.toList.map (·.dst))[j]? = some (some d)) :
    (∀ b, S.f d = .bool b → Region.wanted o (yielded ops a.tmps) = (b == want)) ∧ (S.f d = .tup [] → Region.wanted o (yielded ops a.tmps) = false) := by
  have hj : (ops[j]?).bind (·.dst) = some d := by
    rw [List.getElem?_map, Array.getElem?_toList] at hd
    cases ho : ops[j]? with
    | none => simp [ho] at hd
    | some x => simpa [ho] using hd
  have hF := F d
  refine ⟨fun b hb => ?_, fun hb => ?_⟩
  · rw [hb] at hF
    have hv : a.tmps.getD d undef = .bool b := by simpa [Rep] using hF
    have ht : a.tmps[d]? = some (.bool b) := by
      rw [Array.getD_eq_getD_getElem?] at hv
      cases hx : a.tmps[d]? with
      | none => simp [hx, undef] at hv
      | some y => simpa [hx] using hv
    simp only [Region.wanted, hg, yielded, hj, Option.bind_some, ht]
    cases b <;> cases want <;> rfl
  · rw [hb] at hF
    simp only [Rep, RepL] at hF
    obtain ⟨us, hu, he⟩ := hF
    have hnb : ∀ b, a.tmps[d]? ≠ some (.bool b) := by
      intro b hx
      rw [Array.getD_eq_getD_getElem?, hx] at hu
      simp at hu
    simp only [Region.wanted, hg, yielded, hj, Option.bind_some]
    first
      | rfl
      | (split
         · rename_i b hx; exact absurd hx (hnb b)
         · rfl)
theorem undef_rep {w : World} {I : Nat → Prop} {σ : Sig} : Rep w I σ (.tup []) undef := by
  simp only [Rep, undef, RepL]
  exact ⟨#[], rfl, rfl⟩
theorem ops_run (hC : CallOk X C) (hK : CloneOk X) (hG : ∀ fid dst g args S S1, evCall X C fid dst g args S = some S1 → GoodF X g) (hB : ∀ o ∈ ops.toList, opB X nt o = true) {Q : Exit → Act → World → Prop} {S1 : St} :
    ∀ (l : List Oper) (k : Nat) (S : St) (a : Act) (w : World) (I : Nat → Prop) (σ : Sig), l = ops.toList.drop k → evOps X C fid (ops.toList.map (·.dst)) n0 k l S = some S1 → Rel w I σ S.h → FRel w I σ S.f a → Fresh σ S.h S.n → nt ≤ a.tmps.size →
      a.defers = [] → n0 + ops.size ≤ S.n → (∀ q, k ≤ q → q < ops.size → S.h (n0 + q) = none ∧ σ (n0 + q) = none) →
      (∀ a' w' I' σ', S.n ≤ S1.n → Step w I σ S.h n0 w' I' σ' S1.h S1.n → FRel w' I' σ' S1.f a' → Fresh σ' S1.h S1.n → nt ≤ a'.tmps.size → a'.defers = [] → Q .normal a' w') →
      wpOps X.P ops Q (List.range' k (ops.size - k)) a w
  | [], k, S, a, w, I, σ, hl, he, R, F, fr, hs, hd, hn, hq, hQ => by
    have hk : ops.size - k = 0 := by
      have := congrArg List.length hl
      simp at this; omega
    rw [hk]
    simp only [evOps, Option.some.injEq] at he
    subst he
    exact hQ a w I σ (Nat.le_refl _) ((Step.refl R n0).widen (Nat.le_refl _) (by omega)) F fr hs hd
  | o :: l, k, S, a, w, I, σ, hl, he, R, F, fr, hs, hd, hn, hq, hQ => by
    have hk : k < ops.size := by
      have := congrArg List.length hl
      simp at this; omega
    have hok : ops[k]? = some o := by
      have := congrArg (fun l => l[0]?) hl
      simp only [List.getElem?_cons_zero, List.getElem?_drop, Nat.add_zero] at this
      rw [← Array.getElem?_toList]; exact this.symm
    have hl' : l = ops.toList.drop (k + 1) := by
      have := congrArg List.tail hl
      simpa using this
    have hoB : opB X nt o = true := hB o (by
      have := Array.mem_of_getElem? hok
      simpa using this)
    have hdst : ∀ t, o.dst = some t → t < a.tmps.size := fun t ht => Nat.lt_of_lt_of_le (opB_dst hoB t ht) hs
    rw [show ops.size - k = (ops.size - (k + 1)) + 1 by omega, List.range'_succ]
    simp only [wpOps, hok]
    have run : ∀ {S2 : St}, stepOp X C fid n0 k o S = some S2 → evOps X C fid (ops.toList.map (·.dst)) n0 (k + 1) l S2 = some S1 →
        o.wp X.P a w (wpOps X.P ops Q (List.range' (k + 1) (ops.size - (k + 1)))) Q := by
      intro S2 h1 h2
      refine Oper.wp_mono (fun a' w' hh => ?_) (sim_step hC hK hG hoB h1 R F fr (hq k (Nat.le_refl _) hk).1 (hq k (Nat.le_refl _) hk).2 (by omega) Q)
      obtain ⟨u, v, I', σ', rfl, hrep, hf, hst, hle, hfr, hfresh⟩ := hh
      refine ops_run hC hK hG hB l (k + 1) S2 _ w' I' σ' hl' h2 hst.rel ((F.ext hst.ext).putd hrep o.dst hdst hf) hfr (by rw [put_size]; exact hs) (by rw [put_defers]; exact hd) (by omega) (fun q h1 h2 => hfresh q (by omega) (by omega) (hq q (by omega) h2).1 (hq q (by omega) h2).2) (fun a' w'' I'' σ'' hle' hst' hF' hfr' hs' hd' => ?_)
      exact hQ a' w'' I'' σ'' (by omega) (hst.join hst' (Nat.le_refl _) hle') hF' hfr' hs' hd'
    have skip : evOps X C fid (ops.toList.map (·.dst)) n0 (k + 1) l (S.set o.dst (.tup [])) = some S1 → wpOps X.P ops Q (List.range' (k + 1) (ops.size - (k + 1))) (a.put o.dst undef) w := by
      intro h2
      refine ops_run hC hK hG hB l (k + 1) _ _ w I σ hl' h2 (by rw [set_h]; exact R) (F.putd undef_rep o.dst hdst rfl) (by rw [set_h, set_n]; exact fr) (by rw [put_size]; exact hs) (by rw [put_defers]; exact hd) (by rw [set_n]; exact hn) (fun q h1 h2 => by rw [set_h]; exact hq q (by omega) h2) (fun a' w'' I'' σ'' hle' hst' hF' hfr' hs' hd' => ?_)
      rw [set_h] at hst'
      rw [set_n] at hle'
      exact hQ a' w'' I'' σ'' hle' hst' hF' hfr' hs' hd'
    simp only [evOps] at he
    split at he
    · rename_i hg
      have hw : Region.wanted o (yielded ops a.tmps) = true := by simp [Region.wanted, hg]
      simp only [hw, if_true]
      split at he
      · rename_i S2 h1; exact .inl (run h1 he)
      · cases he
    · rename_i j want hg
      split at he
      case h_2 => cases he
      rename_i d hd'
      have hwr := wanted_rep F hg hd'
      split at he
      · rename_i b hb
        have hw := hwr.1 b hb
        split at he
        · rename_i hbw
          subst hbw
          rw [beq_self_eq_true] at hw
          simp only [hw, if_true]
          split at he
          · rename_i S2 h1; exact .inl (run h1 he)
          · cases he
        · rename_i hbw
          have : (b == want) = false := by simpa using hbw
          rw [this] at hw
          simp only [hw, Bool.false_eq_true, if_false]
          exact skip he
      · rename_i hb
        have hw := hwr.2 hb
        simp only [hw, Bool.false_eq_true, if_false]
        exact skip he
      · cases he
end
end Go.Abs
namespace Go.Abs
open Go
theorem map_same {α β : Type} {f g : α → β} {l : List α} (h : ∀ x ∈ l, f x = g x) : l.map f = l.map g := List.map_congr_left h
theorem evCore_congr {X : Env} {fid : FuncId} {o : Oper} {ρ ρ' : Operand → V} (h : ∀ x ∈ o.op.operands.toList, ρ x = ρ' x) (h0 : Heap) (n0 : Nat) : evCore X fid o ρ h0 n0 = evCore X fid o ρ' h0 n0 := by
  obtain ⟨dst, op, ty, pos, after, guard⟩ := o
  have pairs : ∀ ps : Array (Nat × Operand), (∀ x ∈ ps.toList.map (·.2), ρ x = ρ' x) → (ps.toList.map fun p => (p.1, ρ p.2)) = ps.toList.map fun p => (p.1, ρ' p.2) := fun ps hp =>
    List.map_congr_left fun p hm => by rw [hp p.2 (List.mem_map_of_mem hm)]
  have opt : ∀ q : Option Operand, (∀ x, q = some x → ρ x = ρ' x) → q.map ρ = q.map ρ' := fun q hq => by
    cases q with
    | none => rfl
    | some x => simp [hq x rfl]
  cases op with
  | build t ps =>
    have := pairs ps (by simpa [Op.operands] using h)
    simp only [evCore, this]
  | buildSlice t n ps =>
    have := pairs ps (by simpa [Op.operands] using h)
    simp only [evCore, this]
  | makeFunc c p q =>
    cases c with
    | func g =>
      have h1 : p.toList.map ρ = p.toList.map ρ' := map_same fun x hx => h x (by simp [Op.operands] at hx ⊢; exact .inl hx)
      have h2 : q.toList.map ρ = q.toList.map ρ' := map_same fun x hx => h x (by simp [Op.operands] at hx ⊢; exact .inr hx)
      simp only [evCore, h1, h2]
    | _ => simp only [evCore]
  | slice t x lo hi mx =>
    have hx : ρ x = ρ' x := h x (by simp [Op.operands])
    have h1 := opt lo (fun y hy => h y (by simp [Op.operands, hy]))
    have h2 := opt hi (fun y hy => h y (by simp [Op.operands, hy]))
    cases mx with
    | none =>
      simp only [evCore, hx, h1, h2]
      cases ρ' x with
      | hdr id s n => cases hh : h0 id <;> simp only [hh]
      | ptr id i f => cases i <;> cases f <;> rfl
      | _ => rfl
    | some m =>
      have h3 : ρ m = ρ' m := h m (by simp [Op.operands])
      simp only [evCore, hx, h1, h2, h3]
      cases ρ' x with
      | hdr id s n => cases hh : h0 id <;> simp only [hh, h3]
      | ptr id i f => cases i <;> cases f <;> rfl
      | _ => rfl
  | call c =>
    obtain ⟨cal, args, tys⟩ := c
    have ha : args.toList.map ρ = args.toList.map ρ' := map_same fun x hx => h x (by simp [Op.operands, Call.operands] at hx ⊢; first | exact hx | exact .inl hx | exact .inr hx | simp [hx])
    cases cal with
    | builtin b => cases b <;> simp only [evCore, ha]
    | _ => simp only [evCore]
  | _ => first
    | (simp only [evCore]; done)
    | (simp only [Op.operands, List.mem_cons, List.not_mem_nil, or_false, forall_eq_or_imp, forall_eq] at h; simp only [evCore, h])
theorem give0_sub {h h' : Heap} {v v' : V} (hg : give0 h v = some (v', h')) : ∀ id, h id = none → h' id = none := by
  intro id hid
  unfold give0 at hg
  split at hg
  · split at hg
    · split at hg
      · simp only [Option.some.injEq, Prod.mk.injEq] at hg
        rw [← hg.2]; simp [upd, hid]
      · cases hg
    · cases hg
  · split at hg
    · simp only [Option.some.injEq, Prod.mk.injEq] at hg
      rw [← hg.2]; exact hid
    · cases hg
theorem giveL_sub : ∀ {cs cs' : List V} {h h' : Heap}, giveL h cs = some (cs', h') → ∀ id, h id = none → h' id = none
  | [], cs', h, h', hg, id, hid => by
    simp only [giveL, Option.some.injEq, Prod.mk.injEq] at hg
    rw [← hg.2]; exact hid
  | c :: cs, cs', h, h', hg, id, hid => by
    simp only [giveL] at hg
    split at hg
    · rename_i h1
      split at hg
      · rename_i h2
        simp only [Option.some.injEq, Prod.mk.injEq] at hg
        rw [← hg.2]
        exact giveL_sub h2 id (give0_sub h1 id hid)
      · cases hg
    · cases hg
theorem give_sub {h h' : Heap} {v v' : V} (hg : give h v = some (v', h')) : ∀ id, h id = none → h' id = none := by
  unfold give at hg
  split at hg
  · split at hg
    · rename_i h1
      simp only [Option.some.injEq, Prod.mk.injEq] at hg
      rw [← hg.2]
      exact giveL_sub h1
    · cases hg
  · exact give0_sub hg
theorem giveP_sub : ∀ {ps ps' : List (Nat × V)} {h h' : Heap}, giveP h ps = some (ps', h') → ∀ id, h id = none → h' id = none
  | [], ps', h, h', hg, id, hid => by
    simp only [giveP, Option.some.injEq, Prod.mk.injEq] at hg
    rw [← hg.2]; exact hid
  | (i, v) :: ps, ps', h, h', hg, id, hid => by
    simp only [giveP] at hg
    split at hg
    · rename_i h1
      split at hg
      · rename_i h2
        simp only [Option.some.injEq, Prod.mk.injEq] at hg
        rw [← hg.2]
        exact giveP_sub h2 id (give_sub h1 id hid)
      · cases hg
    · cases hg
theorem keep_sub {h h' : Heap} {k : Bool} {x v' : V} (hg : (if k = true then some (x, h) else give h x) = some (v', h')) : ∀ id, h id = none → h' id = none := by
  intro id hid
  split at hg
  · simp only [Option.some.injEq, Prod.mk.injEq] at hg
    rw [← hg.2]; exact hid
  · exact give_sub hg id hid
theorem evCore_news {X : Env} {fid : FuncId} {o : Oper} {ρ : Operand → V} {h0 h1 : Heap} {n0 n1 : Nat} {v : V} (h : evCore X fid o ρ h0 n0 = some (v, h1, n1)) : ∀ id, id ≠ n0 → h0 id = none → h1 id = none := by
  intro id hne hid
  have hu : ∀ (hh : Heap) ob, hh id = none → upd hh n0 (some ob) id = none := fun hh ob hz => by simp [upd, hne, hz]
  have hk : ∀ (hh : Heap) i, hh id = none → upd hh i none id = none := fun hh i hz => by simp [upd, hz]
  have hs : ∀ (hh : Heap) i (ob ob' : Ob), hh i = some ob' → hh id = none → upd hh i (some ob) id = none := fun hh i ob ob' h1 hz => by
    have : id ≠ i := fun e => by rw [e, h1] at hz; cases hz
    simp [upd, this, hz]
  unfold evCore at h
  dsimp (zeta := true) only at h
  repeat' split at h
  all_goals first
    | (cases h; done)
    | (simp only [Option.some.injEq, Prod.mk.injEq] at h
       obtain ⟨_, rfl, _⟩ := h
       first
         | exact hid
         | exact hu _ _ hid
         | exact hk _ _ hid
         | exact hu _ _ (hk _ _ hid)
         | exact hu _ _ (giveP_sub (by assumption) id hid)
         | exact giveP_sub (by assumption) id hid
         | exact hs _ _ _ _ (by assumption) hid
         | exact hs _ _ _ _ (by assumption) (keep_sub (by assumption) id hid))
    | (obtain ⟨_, _, _, _, _, _, rfl, _⟩ := convB_some h; exact hu _ _ hid)
def ovr (h G : Heap) : Heap := fun i => match G i with | some ob => some ob | none => h i
def New (h G : Heap) (n : Nat) : Prop := ∀ i, G i ≠ none → h i = none ∧ i < n
def CallOver (X : Env) (C : CallT) : Prop := ∀ g args h k v h' k' G, X.low g = false → New h G k → C g args h k = some (v, h', k') → C g args (ovr h G) k = some (v, ovr h' G, k')
def CallNews (X : Env) (C : CallT) : Prop := ∀ g args h k v h' k', C g args h k = some (v, h', k') → lim X g k ≤ k' ∧ ∀ id, id < lim X g k → h id = none → h' id = none
end Go.Abs
namespace Go.Abs
open Go
def isConst : Operand → Bool
  | .const _ => true
  | _ => false
theorem ofSc_imm (v : Value) : (∀ i s l, ofSc v ≠ .hdr i s l) := by
  intro i s l e
  unfold ofSc at e
  split at e <;> cases e
theorem give0_const {v v' : V} {h h1 : Heap} (hv : ∀ i s l, v ≠ .hdr i s l) (hg : give0 h v = some (v', h1)) : h1 = h ∧ ∀ h', give0 h' v = some (v', h') := by
  unfold give0 at hg ⊢
  split at hg
  · exact absurd rfl (hv _ _ _)
  · split at hg
    · rename_i hc
      simp only [Option.some.injEq, Prod.mk.injEq] at hg
      obtain ⟨rfl, rfl⟩ := hg
      exact ⟨rfl, fun h' => by rw [if_pos hc]⟩
    · cases hg
theorem giveL_const : ∀ {cs cs' : List V} {h h1 : Heap}, (∀ c ∈ cs, ∀ i s l, c ≠ .hdr i s l) → giveL h cs = some (cs', h1) → h1 = h ∧ ∀ h', giveL h' cs = some (cs', h')
  | [], cs', h, h1, _, hg => by
    simp only [giveL, Option.some.injEq, Prod.mk.injEq] at hg
    obtain ⟨rfl, rfl⟩ := hg
    exact ⟨rfl, fun h' => rfl⟩
  | c :: cs, cs', h, h1, hv, hg => by
    simp only [giveL] at hg
    split at hg
    case h_2 => cases hg
    rename_i c' h2 hc
    obtain ⟨rfl, e1⟩ := give0_const (hv c (List.mem_cons_self ..)) hc
    split at hg
    case h_2 => cases hg
    rename_i cs2 h3 hcs
    obtain ⟨rfl, e2⟩ := giveL_const (fun x hx => hv x (List.mem_cons_of_mem _ hx)) hcs
    simp only [Option.some.injEq, Prod.mk.injEq] at hg
    obtain ⟨rfl, rfl⟩ := hg
    exact ⟨rfl, fun h' => by simp only [giveL, e1, e2]⟩
theorem give_const {u : Value} {v' : V} {h h1 : Heap} (hg : give h (ofVal u) = some (v', h1)) : h1 = h ∧ ∀ h', give h' (ofVal u) = some (v', h') := by
  by_cases hu : ∃ cs, u = .agg cs
  · obtain ⟨cs, rfl⟩ := hu
    have e : ofVal (.agg cs) = .agg (cs.toList.map ofSc) := rfl
    rw [e] at hg ⊢
    simp only [give] at hg
    split at hg
    case h_2 => cases hg
    rename_i cs' h2 hl
    obtain ⟨rfl, e2⟩ := giveL_const (fun c hc i s l e => by
      obtain ⟨x, _, rfl⟩ := List.mem_map.1 hc
      exact ofSc_imm x i s l e) hl
    simp only [Option.some.injEq, Prod.mk.injEq] at hg
    obtain ⟨rfl, rfl⟩ := hg
    exact ⟨rfl, fun h' => by simp only [give, e2]⟩
  · have e : ofVal u = ofSc u := by cases u <;> first | rfl | exact absurd ⟨_, rfl⟩ hu
    have hna : ∀ cs, ofSc u ≠ .agg cs := by
      intro cs e
      unfold ofSc at e
      split at e <;> cases e
    have hg0 : ∀ h, give h (ofSc u) = give0 h (ofSc u) := fun h => by
      unfold give
      split
      · rename_i cs hc; exact absurd hc (hna cs)
      · rfl
    rw [e] at hg ⊢
    rw [hg0] at hg
    obtain ⟨h1, h2⟩ := give0_const (ofSc_imm u) hg
    exact ⟨h1, fun h' => by rw [hg0]; exact h2 h'⟩
theorem giveP_const {ρ : Operand → V} (hρ : ∀ v, ρ (.const v) = ofVal v) : ∀ {ps : List (Nat × Operand)} {ps' : List (Nat × V)} {h h1 : Heap}, ps.all (fun p => isConst p.2) = true → giveP h (ps.map fun p => (p.1, ρ p.2)) = some (ps', h1) → h1 = h ∧ ∀ h', giveP h' (ps.map fun p => (p.1, ρ p.2)) = some (ps', h')
  | [], ps', h, h1, _, hg => by
    simp only [List.map_nil, giveP, Option.some.injEq, Prod.mk.injEq] at hg
    obtain ⟨rfl, rfl⟩ := hg
    exact ⟨rfl, fun h' => rfl⟩
  | (i, x) :: ps, ps', h, h1, ha, hg => by
    simp only [List.all_cons, Bool.and_eq_true] at ha
    simp only [List.map_cons, giveP] at hg
    cases x with
    | const u =>
      rw [hρ] at hg
      split at hg
      case h_2 => cases hg
      rename_i c' h2 hc
      obtain ⟨rfl, e1⟩ := give_const hc
      split at hg
      case h_2 => cases hg
      rename_i cs2 h3 hcs
      obtain ⟨rfl, e2⟩ := giveP_const hρ ha.2 hcs
      simp only [Option.some.injEq, Prod.mk.injEq] at hg
      obtain ⟨rfl, rfl⟩ := hg
      exact ⟨rfl, fun h' => by simp only [List.map_cons, giveP, hρ, e1, e2]⟩
    | _ => exact absurd ha.1 (by simp [isConst])
def cls (X : Env) (fid : FuncId) (o : Oper) : Nat :=
  match o.op with
  | .move _ | .assign _ | .pick .. | .build .. | .nilCheck _ | .binOp .. | .unOp .. | .makeFunc .. | .fieldAddr .. | .index .. | .field .. | .extract .. => 0
  | .convert _ d _ => if (X.ti d).isStr = true then 1 else if (X.ti d).kind.isSome = true then 0 else 2
  | .call ⟨.builtin .len, _, _⟩ | .call ⟨.builtin .min, _, _⟩ | .call ⟨.builtin .max, _, _⟩ => 0
  | .load .. | .indexAddr .. => 1
  | .slice t .. => if (X.ti t).arr.isSome = true then 3 else 1
  | .call ⟨.value (.func g), args, _⟩ => if (X.clone g).isNone && !X.byref g && !X.inout g && (o.dst.elim [] (X.mask fid)).isEmpty && !o.dst.any (X.thaw fid) then (if args.isEmpty then 0 else 1) else 3
  | .alloc _ | .box .. | .makeSlice .. => 2
  | .buildSlice t _ ps => if X.keepT fid (X.ti t).elem then 2 else if o.dst.any (X.flat fid) then 0 else if ps.isEmpty then (if o.dst.any (X.thaw fid) then 2 else 0) else if ps.toList.all (fun p => isConst p.2) && !o.dst.any (X.thaw fid) then 0 else 3
  | _ => 3
def Sub (h h' : Heap) : Prop := ∀ id ob, h id = some ob → h' id = some ob
section
variable {X : Env} {fid : FuncId} {o : Oper} {ρ : Operand → V} {h h1 : Heap} {n n1 : Nat} {v : V}
theorem core0 (hρ : ∀ v, ρ (.const v) = ofVal v) (hc : cls X fid o = 0) (he : evCore X fid o ρ h n = some (v, h1, n1)) : h1 = h ∧ ∀ h' n', evCore X fid o ρ h' n' = some (v, h', n') := by
  obtain ⟨dst, op, ty, pos, after, guard⟩ := o
  cases op with
  | call c =>
    obtain ⟨cal, args, tys⟩ := c
    cases cal with
    | value x => simp [evCore] at he
    | builtin b =>
      cases b with
      | len | min | max =>
        unfold evCore at he ⊢
        dsimp only at he ⊢
        repeat' split at he
        all_goals first
          | (cases he; done)
          | (simp only [Option.some.injEq, Prod.mk.injEq] at he
             obtain ⟨rfl, rfl, rfl⟩ := he
             refine ⟨rfl, fun h' n' => ?_⟩
             simp only [*, if_true, if_false])
      | _ => simp [cls] at hc
    | _ => simp [evCore] at he
  | makeFunc c p q =>
    cases c <;> simp only [evCore, Option.some.injEq, Prod.mk.injEq, reduceCtorEq] at he
    obtain ⟨rfl, rfl, rfl⟩ := he
    exact ⟨rfl, fun h' n' => by simp only [evCore]⟩
  | convert u0 u1 x0 =>
    simp only [cls] at hc
    split at hc
    · cases hc
    rename_i hst
    split at hc
    case isFalse => cases hc
    rename_i hkd
    simp only [evCore] at he ⊢
    split at he
    · rename_i hk hv
      simp only [Option.some.injEq, Prod.mk.injEq] at he
      obtain ⟨rfl, rfl, rfl⟩ := he
      exact ⟨rfl, fun h' n' => by simp only [hk, hv]⟩
    · have hk : (X.ti u1).kind = none := by assumption
      rw [hk] at hkd; cases hkd
    · cases he
  | move | assign | pick | build | nilCheck | binOp | unOp | fieldAddr | index | field | extract =>
    unfold evCore at he ⊢
    dsimp only at he ⊢
    repeat' split at he
    all_goals first
      | (cases he; done)
      | (simp only [Option.some.injEq, Prod.mk.injEq] at he
         obtain ⟨rfl, rfl, rfl⟩ := he
         refine ⟨rfl, fun h' n' => ?_⟩
         first
           | rfl
           | (simp only [*, if_true]; done)
           | (simp [*]; done))
  | buildSlice t m ps =>
    simp only [cls] at hc
    split at hc
    · cases hc
    · rename_i hk
      by_cases hfl : dst.any (X.flat fid) = true
      · simp only [evCore, hk, Bool.false_eq_true, if_false, hfl, if_true] at he ⊢
        split at he
        case h_2 => cases he
        rename_i l h2 hg
        split at he
        case h_2 => cases he
        rename_i es hf
        simp only [Option.some.injEq, Prod.mk.injEq] at he
        obtain ⟨rfl, rfl, rfl⟩ := he
        exact ⟨rfl, fun h' n' => by simp only [hg, hf]⟩
      rw [if_neg hfl] at hc
      split at hc
      · rename_i hps
        split at hc
        · cases hc
        · rename_i hth
          have hnil : ps.toList = [] := by simpa using hps
          simp only [evCore, hk, hfl, Bool.false_eq_true, if_false, hnil, List.map_nil, giveP, fillE, hth, Option.some.injEq, Prod.mk.injEq] at he
          obtain ⟨rfl, rfl, rfl⟩ := he
          exact ⟨rfl, fun h' n' => by simp only [evCore, hk, hfl, Bool.false_eq_true, if_false, hnil, List.map_nil, giveP, fillE, hth]⟩
      · split at hc
        case isFalse => cases hc
        rename_i hcc
        simp only [Bool.and_eq_true, Bool.not_eq_true'] at hcc
        simp only [evCore, hk, hfl, Bool.false_eq_true, if_false] at he ⊢
        split at he
        case h_2 => cases he
        rename_i l h2 hg
        obtain ⟨rfl, e1⟩ := giveP_const hρ hcc.1 hg
        split at he
        case h_2 => cases he
        rename_i es hf
        simp only [hcc.2, Bool.false_eq_true, if_false, Option.some.injEq, Prod.mk.injEq] at he
        obtain ⟨rfl, rfl, rfl⟩ := he
        refine ⟨rfl, fun h' n' => ?_⟩
        simp only [e1, hf, hcc.2, Bool.false_eq_true, if_false]
  | slice t x lo hi mx => simp only [cls] at hc; split at hc <;> cases hc
  | _ => simp [cls] at hc
theorem core1 (hc : cls X fid o = 1) (hne : ∀ x args tys, o.op ≠ .call ⟨.value x, args, tys⟩) (he : evCore X fid o ρ h n = some (v, h1, n1)) : h1 = h ∧ ∀ h' n', Sub h h' → evCore X fid o ρ h' n' = some (v, h', n') := by
  obtain ⟨dst, op, ty, pos, after, guard⟩ := o
  cases op with
  | call c =>
    obtain ⟨cal, args, tys⟩ := c
    cases cal with
    | value x => exact absurd rfl (hne x args tys)
    | builtin b => cases b <;> simp [cls] at hc
    | _ => simp [evCore] at he
  | slice t x lo hi mx =>
    simp only [evCore] at he
    split at he
    case isFalse => cases he
    rename_i hstr
    cases hx : ρ x with
    | sl c es =>
      simp only [hx] at he
      cases mx with
      | none =>
        simp only at he
        repeat' split at he
        all_goals first
          | (cases he; done)
          | (simp only [Option.some.injEq, Prod.mk.injEq] at he
             obtain ⟨rfl, rfl, rfl⟩ := he
             refine ⟨rfl, fun h' n' hs => ?_⟩
             simp only [evCore]
             rw [if_pos hstr]
             clear hstr
             first
               | (simp only [*, if_true]; done)
               | (simp_all only [if_true]; done)
               | (simp_all; done))
      | some m =>
        simp only at he
        repeat' split at he
        all_goals first
          | (cases he; done)
          | (simp only [Option.some.injEq, Prod.mk.injEq] at he
             obtain ⟨rfl, rfl, rfl⟩ := he
             refine ⟨rfl, fun h' n' hs => ?_⟩
             simp only [evCore]
             rw [if_pos hstr]
             clear hstr
             first
               | (simp only [*, if_true]; done)
               | (simp_all only [if_true]; done)
               | (simp_all; done))
    | hdr id s m =>
      simp only [hx] at he
      cases hob : h id with
      | none => cases mx <;> simp [hob] at he
      | some ob =>
      cases mx with
      | none =>
        simp only [hob] at he
        repeat' split at he
        all_goals first
          | (cases he; done)
          | (simp only [Option.some.injEq, Prod.mk.injEq] at he
             obtain ⟨rfl, rfl, rfl⟩ := he
             refine ⟨rfl, fun h' n' hs => ?_⟩
             have hob' := hs _ _ hob
             simp only [evCore]
             rw [if_pos hstr]
             clear hstr hob
             first
               | (simp only [*, if_true]; done)
               | (simp_all only [if_true]; done)
               | (simp_all; done))
      | some y =>
        simp only [hob] at he
        repeat' split at he
        all_goals first
          | (cases he; done)
          | (simp only [Option.some.injEq, Prod.mk.injEq] at he
             obtain ⟨rfl, rfl, rfl⟩ := he
             refine ⟨rfl, fun h' n' hs => ?_⟩
             have hob' := hs _ _ hob
             simp only [evCore]
             rw [if_pos hstr]
             clear hstr hob
             first
               | (simp only [*, if_true]; done)
               | (simp_all only [if_true]; done)
               | (simp_all; done))
    | str s =>
      simp only [hx] at he
      cases mx with
      | none =>
        simp only at he
        split at he
        · rename_i hb
          simp only [Option.some.injEq, Prod.mk.injEq] at he
          obtain ⟨rfl, rfl, rfl⟩ := he
          refine ⟨rfl, fun h' n' hs => ?_⟩
          simp only [evCore]
          rw [if_pos hstr]
          simp only [hx, hb]
        · cases he
      | some m => cases he
    | ptr id i f =>
      exfalso
      have := hstr.2
      rw [hx] at this
      simp only [V.isPtr] at this
      simp [cls, ← this] at hc
    | _ => simp [hx] at he
  | convert u0 u1 x0 =>
    simp only [cls] at hc
    split at hc
    case isFalse => split at hc <;> cases hc
    rename_i hst
    simp only [evCore] at he ⊢
    cases hk : (X.ti u1).kind with
    | some k =>
      simp only [hk] at he ⊢
      cases hx : ρ x0 <;> simp only [hx] at he ⊢ <;> first | (cases he; done) | skip
      simp only [Option.some.injEq, Prod.mk.injEq] at he
      obtain ⟨rfl, rfl, rfl⟩ := he
      exact ⟨rfl, fun _ _ _ => rfl⟩
    | none =>
      simp only [hk] at he ⊢
      split at he
      case isFalse => exact absurd (convB_some he).1 (by simp [hst])
      rename_i hs2
      split at he
      case h_2 => cases he
      rename_i es kx hel
      split at he
      case h_2 => cases he
      rename_i bs hbs
      simp only [Option.some.injEq, Prod.mk.injEq] at he
      obtain ⟨rfl, rfl, rfl⟩ := he
      refine ⟨rfl, fun h' n' hs => ?_⟩
      have hel' : elems h' (ρ x0) = some (es, kx) := by
        cases hx : ρ x0 with
        | hdr id s l =>
          rw [hx] at hel
          cases hob : h id with
          | none => simp [elems, hob] at hel
          | some ob => simp only [elems, hob] at hel ⊢; simp only [hs _ _ hob]; exact hel
        | _ => rw [hx] at hel; exact hel
      rw [if_pos hs2]
      simp only [hel', hbs]
  | load | indexAddr =>
    unfold evCore at he ⊢
    dsimp only at he ⊢
    repeat' split at he
    all_goals first
      | (cases he; done)
      | (simp only [Option.some.injEq, Prod.mk.injEq] at he
         obtain ⟨rfl, rfl, rfl⟩ := he
         refine ⟨rfl, fun h' n' hs => ?_⟩
         first
           | (simp only [*, if_true]; done)
           | (simp only [*, hs _ _ (by assumption), if_true]; done)
           | (simp [*]; done)
           | (simp [*, hs _ _ (by assumption)]; done))
  | buildSlice t m ps =>
    simp only [cls] at hc
    split at hc
    · cases hc
    · split at hc
      · cases hc
      split at hc
      · split at hc <;> cases hc
      · split at hc <;> cases hc
  | _ => simp [cls] at hc
theorem core2 (hc : cls X fid o = 2) (he : evCore X fid o ρ h n = some (v, h1, n1)) : ∃ ob, h1 = upd h n (some ob) ∧ ∀ h', evCore X fid o ρ h' n = some (v, upd h' n (some ob), n + 1) := by
  obtain ⟨dst, op, ty, pos, after, guard⟩ := o
  cases op with
  | call c =>
    obtain ⟨cal, args, tys⟩ := c
    cases cal with
    | value x => simp [evCore] at he
    | builtin b => cases b <;> simp [cls] at hc
    | _ => simp [evCore] at he
  | alloc t =>
    simp only [evCore, Option.some.injEq, Prod.mk.injEq] at he
    obtain ⟨rfl, rfl, rfl⟩ := he
    exact ⟨_, rfl, fun h' => rfl⟩
  | box t x =>
    simp only [evCore] at he
    split at he
    · rename_i hf
      simp only [Option.some.injEq, Prod.mk.injEq] at he
      obtain ⟨rfl, rfl, rfl⟩ := he
      exact ⟨_, rfl, fun h' => by simp only [evCore, hf, if_true]⟩
    · cases he
  | makeSlice t l c =>
    simp only [evCore] at he
    split at he
    · rename_i p q hl hc'
      split at he
      · rename_i hb
        simp only [Option.some.injEq, Prod.mk.injEq] at he
        obtain ⟨rfl, rfl, rfl⟩ := he
        exact ⟨_, rfl, fun h' => by simp only [evCore, hl, hc']; rw [if_pos hb]⟩
      · cases he
    · cases he
  | buildSlice t m ps =>
    simp only [cls] at hc
    split at hc
    · rename_i hk
      simp only [evCore, hk, if_true] at he
      split at he
      · rename_i es hf
        simp only [Option.some.injEq, Prod.mk.injEq] at he
        obtain ⟨rfl, rfl, rfl⟩ := he
        exact ⟨_, rfl, fun h' => by simp only [evCore, hk, if_true, hf]⟩
      · cases he
    · rename_i hk
      split at hc
      · cases hc
      rename_i hfl
      split at hc
      · rename_i hps
        split at hc
        · rename_i hth
          have hnil : ps.toList = [] := by simpa using hps
          simp only [evCore, hk, hfl, Bool.false_eq_true, if_false, hnil, List.map_nil, giveP, fillE, hth, if_true, Option.some.injEq, Prod.mk.injEq] at he
          obtain ⟨rfl, rfl, rfl⟩ := he
          exact ⟨_, rfl, fun h' => by simp only [evCore, hk, hfl, Bool.false_eq_true, if_false, hnil, List.map_nil, giveP, fillE, hth, if_true]⟩
        · cases hc
      · split at hc <;> cases hc
  | slice t x lo hi mx => simp only [cls] at hc; split at hc <;> cases hc
  | convert u0 u1 x0 =>
    simp only [cls] at hc
    split at hc
    · cases hc
    rename_i hst
    split at hc
    · cases hc
    rename_i hkd
    have hk : (X.ti u1).kind = none := by simpa using hkd
    have hst' : (X.ti u1).isStr = false := by simpa using hst
    simp only [evCore, hk, hst', Bool.false_eq_true, false_and, if_false] at he ⊢
    obtain ⟨_, hb2, s1, hv1, hl, rfl, rfl, rfl⟩ := convB_some he
    exact ⟨_, rfl, fun h' => by simp [hv1, convB, hb2, hl]⟩
  | _ => simp [cls] at hc
theorem toImm_sub {h' : Heap} (hs : Sub h h') : ∀ {d : Nat} {v v' : V}, toImm h d v = some v' → toImm h' d v = some v' := by
  intro d
  induction d with
  | zero =>
    intro v v' ht
    cases v with
    | fn g a b => cases a <;> cases b <;> simp_all [toImm]
    | _ => first | (simp [toImm] at ht; done) | (simpa [toImm] using ht)
  | succ d ih =>
    have key : ∀ {cs l : List V}, allSome (cs.map (toImm h d)) = some l → allSome (cs.map (toImm h' d)) = some l := by
      intro cs
      induction cs with
      | nil => intro l hl; exact hl
      | cons c cs ih2 =>
        intro l hl
        simp only [List.map_cons] at hl ⊢
        cases hc : toImm h d c with
        | none => simp [hc, allSome] at hl
        | some c' =>
          simp only [hc, allSome] at hl
          split at hl
          · rename_i l' hl'
            simp only [allSome, ih hc, ih2 hl']
            exact hl
          · cases hl
    intro v v' ht
    cases v with
    | agg cs =>
      obtain ⟨l, rfl, hl⟩ := toImm_agg ht
      rw [toImm]
      simp only [key hl]
    | tup cs =>
      obtain ⟨l, rfl, hl⟩ := toImm_tup ht
      rw [toImm]
      simp only [key hl]
    | hdr id s l =>
      rw [toImm] at ht ⊢
      split at ht
      · rename_i ob hob
        rw [hs _ _ hob]
        simp only
        split at ht
        · rename_i hle
          simp only [hle, if_true]
          split at ht
          · rename_i hk
            simp only [hk, if_true]
            split at ht
            · rename_i l' hl'
              simp only [key hl']; exact ht
            · cases ht
          · rename_i hk
            simp only [hk, if_false]; exact ht
        · cases ht
      · cases ht
    | fn g a b => cases a <;> cases b <;> simp_all [toImm]
    | _ => first | (simp [toImm] at ht; done) | (simpa [toImm] using ht)
theorem allSome_sub {h' : Heap} (hs : Sub h h') {d : Nat} : ∀ {l r : List V}, allSome (l.map (toImm h d)) = some r → allSome (l.map (toImm h' d)) = some r
  | [], _, hl => hl
  | c :: cs, r, hl => by
    simp only [List.map_cons] at hl ⊢
    cases hc : toImm h d c with
    | none => simp [hc, allSome] at hl
    | some c' =>
      simp only [hc, allSome] at hl
      split at hl
      · rename_i l' hl'
        simp only [allSome, toImm_sub hs hc, allSome_sub hs hl']
        exact hl
      · cases hl
end
section
variable {X : Env} {C : CallT} {fid : FuncId} {dst : Option Nat} {g : FuncId} {args : List V} {S S1 : St}
theorem set_eta (S : St) : ({ S with h := S.h, n := S.n } : St) = S := rfl
theorem io_any (he : evIo X C fid dst g args S = some S1) : ∃ v, S1 = ({ S with h := S1.h, n := S1.n } : St).set dst v ∧
    ∀ S' : St, S'.h = S.h → S'.n = S.n → evIo X C fid dst g args S' = some (({ S' with h := S1.h, n := S1.n } : St).set dst v) := by
  unfold evIo at he ⊢
  have hn : ∀ (S : St) v, (S.set dst v).n = S.n := fun S v => set_n S dst v
  have hh : ∀ (S : St) v, (S.set dst v).h = S.h := fun S v => set_h S dst v
  split at he
  case h_2 => cases he
  rename_i id rest
  split at he
  case h_2 => cases he
  rename_i ob hob
  split at he
  case h_2 => cases he
  rename_i e hes0
  split at he
  case isFalse => cases he
  rename_i hk
  split at he
  case h_2 => cases he
  rename_i R hR
  split at he
  case h_2 => cases he
  rename_i as h1 hg
  split at he
  case h_2 => cases he
  rename_i v h n hc
  split at he
  case h_2 => cases he
  rename_i kk r rs hend
  simp only [Option.some.injEq] at he
  subst he
  refine ⟨_, by rw [hh, hn], fun S' e1 e2 => ?_⟩
  simp only [e1, e2, hob, hes0, hk, if_true, hR, hg, hc, hend, hh, hn]
theorem mask_any (he : evMask X C fid dst g args S = some S1) : ∃ v, S1 = ({ S with h := S1.h, n := S1.n } : St).set dst v ∧
    ∀ S' : St, S'.h = S.h → S'.n = S.n → evMask X C fid dst g args S' = some (({ S' with h := S1.h, n := S1.n } : St).set dst v) := by
  unfold evMask at he ⊢
  have hn : ∀ (S : St) v, (S.set dst v).n = S.n := fun S v => set_n S dst v
  have hh : ∀ (S : St) v, (S.set dst v).h = S.h := fun S v => set_h S dst v
  split at he
  case h_2 => cases he
  rename_i as h1 hg
  split at he
  case h_2 => cases he
  rename_i v h n hc
  split at he
  case h_2 => cases he
  rename_i r hR
  simp only [Option.some.injEq] at he
  subst he
  refine ⟨_, by rw [hh, hn], fun S' e1 e2 => ?_⟩
  simp only [e1, e2, hg, hc, hR, hh, hn]
theorem call_any (he : evCall X C fid dst g args S = some S1) : ∃ v, S1 = ({ S with h := S1.h, n := S1.n } : St).set dst v ∧
    ∀ S' : St, S'.h = S.h → S'.n = S.n → evCall X C fid dst g args S' = some (({ S' with h := S1.h, n := S1.n } : St).set dst v) := by
  unfold evCall at he ⊢
  have hn : ∀ (S : St) v, (S.set dst v).n = S.n := fun S v => set_n S dst v
  have hh : ∀ (S : St) v, (S.set dst v).h = S.h := fun S v => set_h S dst v
  split at he
  · rename_i t hcl
    split at he
    case h_2 => cases he
    split at he
    case h_2 => cases he
    rename_i es kx hel
    split at he
    · cases he
    rename_i hcond
    simp only [Option.some.injEq] at he
    subst he
    refine ⟨_, by rw [hh, hn]; rfl, fun S' h1 h2 => ?_⟩
    simp only [h1, hel]
    rw [if_neg hcond]
    simp only [St.new, h1, h2, hh, hn]
  · split at he
    · rename_i hb
      split at he
      case h_2 => cases he
      rename_i v h n hc
      simp only [Option.some.injEq] at he
      subst he
      refine ⟨v, by rw [hh, hn], fun S' h1 h2 => ?_⟩
      simp only [hb, if_true, h1, h2, hc, hh, hn]
    rename_i hb
    split at he
    · rename_i hio
      obtain ⟨v, e1, e2⟩ := io_any he
      refine ⟨v, e1, fun S' h1 h2 => ?_⟩
      simp only [hb, if_false, Bool.false_eq_true, hio, if_true]
      exact e2 S' h1 h2
    rename_i hio
    split at he
    · rename_i hmk
      obtain ⟨v, e1, e2⟩ := mask_any he
      refine ⟨v, e1, fun S' h1 h2 => ?_⟩
      simp only [hb, if_false, Bool.false_eq_true, hio, hmk, if_true]
      exact e2 S' h1 h2
    · rename_i hmk
      split at he
      case h_2 => cases he
      rename_i as has
      split at he
      · rename_i hth
        split at he
        case h_2 => cases he
        rename_i v h n hc
        split at he
        · cases he
        rename_i hown
        simp only [Option.some.injEq] at he
        subst he
        refine ⟨v, by rw [hh, hn], fun S' h1 h2 => ?_⟩
        simp only [hb, hio, hmk, Bool.false_eq_true, if_false, h1, has, hth, if_true, h2, hc, hh, hn]
        rw [if_neg hown]
      · rename_i hth
        split at he
        case h_2 => cases he
        rename_i v h n hc
        split at he
        case h_2 => cases he
        rename_i v' hv'
        split at he
        · cases he
        rename_i hcond
        simp only [Option.some.injEq] at he
        subst he
        refine ⟨v'.dull, by rw [hh, hn], fun S' h1 h2 => ?_⟩
        simp only [hb, hio, hmk, Bool.false_eq_true, if_false, h1, has, hth, hc, hv', hh, hn]
        rw [if_neg hcond, ← h1, ← h2]
theorem call_pure (hp : ((X.clone g).isNone && !X.byref g && !X.inout g && (dst.elim [] (X.mask fid)).isEmpty && !dst.any (X.thaw fid)) = true) (he : evCall X C fid dst g args S = some S1) : ∃ v, S1 = S.set dst v ∧
    ∀ S' : St, Sub S.h S'.h → evCall X C fid dst g args S' = some (S'.set dst v) := by
  simp only [Bool.and_eq_true, Bool.not_eq_true', Option.isNone_iff_eq_none] at hp
  obtain ⟨⟨⟨⟨hcl, hb⟩, hio⟩, hmk⟩, hth⟩ := hp
  unfold evCall at he ⊢
  simp only [hcl, hb, hio, hth, hmk, Bool.not_true, Bool.false_and, Bool.false_eq_true, if_false] at he ⊢
  split at he
  case h_2 => cases he
  rename_i as has
  split at he
  case h_2 => cases he
  rename_i v h n hc
  split at he
  case h_2 => cases he
  rename_i v' hv'
  split at he
  · cases he
  rename_i hcond
  simp only [Option.some.injEq] at he
  subst he
  refine ⟨v'.dull, rfl, fun S' hs => ?_⟩
  simp only [allSome_sub hs has, hc, hv']
  rw [if_neg hcond]
end
theorem call_none {X : Env} {C : CallT} {fid : FuncId} {dst : Option Nat} {g : FuncId} {S S1 : St} (hp : ((X.clone g).isNone && !X.byref g && !X.inout g && (dst.elim [] (X.mask fid)).isEmpty && !dst.any (X.thaw fid)) = true) (he : evCall X C fid dst g [] S = some S1) : ∃ v, S1 = S.set dst v ∧
    ∀ S' : St, evCall X C fid dst g [] S' = some (S'.set dst v) := by
  simp only [Bool.and_eq_true, Bool.not_eq_true', Option.isNone_iff_eq_none] at hp
  obtain ⟨⟨⟨⟨hcl, hb⟩, hio⟩, hmk⟩, hth⟩ := hp
  unfold evCall at he ⊢
  simp only [hcl, hb, hio, hth, hmk, Bool.not_true, Bool.false_and, Bool.false_eq_true, if_false, List.map_nil, allSome] at he ⊢
  split at he
  case h_2 => cases he
  rename_i v h n hc
  split at he
  case h_2 => cases he
  rename_i v' hv'
  split at he
  · cases he
  rename_i hcond
  simp only [Option.some.injEq] at he
  subst he
  refine ⟨v'.dull, rfl, fun S' => ?_⟩
  rw [if_neg hcond]
section
variable {X : Env} {C : CallT} {fid : FuncId} {n0 j : Nat} {o : Oper} {S S1 : St}
def Alike (o : Oper) (S S' : St) : Prop := ∀ x ∈ o.op.operands.toList, S'.ev x = S.ev x
theorem stepOp_op (hne : ∀ x args tys, o.op ≠ .call ⟨.value x, args, tys⟩) : stepOp X C fid n0 j o S = (match evCore X fid o S.ev S.h (n0 + j) with
    | some (v, h, _) => some (({ S with h := h } : St).set o.dst v)
    | none => none) := by
  unfold stepOp
  split
  · rename_i x args tys ho; exact absurd ho (hne x args tys)
  · rfl
theorem step0 (hc : cls X fid o = 0) (he : stepOp X C fid n0 j o S = some S1) : ∃ v, S1 = S.set o.dst v ∧ ∀ S', Alike o S S' → stepOp X C fid n0 j o S' = some (S'.set o.dst v) := by
  by_cases hcall : ∃ x args tys, o.op = .call ⟨.value x, args, tys⟩
  · obtain ⟨x, args, tys, ho⟩ := hcall
    simp only [cls, ho] at hc
    cases x with
    | func g =>
      simp only at hc
      split at hc
      · rename_i hp
        split at hc
        · rename_i hem
          have hnil : args.toList = [] := by simpa using hem
          have hev : ∀ S : St, S.ev (.func g) = .fn g [] [] := fun _ => rfl
          unfold stepOp at he
          simp only [ho, hev, hnil, List.map_nil, List.append_nil] at he
          obtain ⟨v, h1, h2⟩ := call_none hp he
          refine ⟨v, h1, fun S' ha => ?_⟩
          unfold stepOp
          simp only [ho, hev, hnil, List.map_nil, List.append_nil]
          exact h2 S'
        · cases hc
      · cases hc
    | _ => cases hc
  have hne : ∀ x args tys, o.op ≠ .call ⟨.value x, args, tys⟩ := fun x args tys ho => hcall ⟨x, args, tys, ho⟩
  rw [stepOp_op hne] at he
  split at he
  case h_2 => cases he
  rename_i v h m hev
  simp only [Option.some.injEq] at he
  subst he
  obtain ⟨rfl, h2⟩ := core0 (fun _ => rfl) hc hev
  refine ⟨v, rfl, fun S' ha => ?_⟩
  rw [stepOp_op hne, evCore_congr ha, h2]
theorem step1 (hc : cls X fid o = 1) (he : stepOp X C fid n0 j o S = some S1) : ∃ v, S1 = S.set o.dst v ∧ ∀ S', Alike o S S' → Sub S.h S'.h → stepOp X C fid n0 j o S' = some (S'.set o.dst v) := by
  by_cases hcall : ∃ x args tys, o.op = .call ⟨.value x, args, tys⟩
  · obtain ⟨x, args, tys, ho⟩ := hcall
    simp only [cls, ho] at hc
    cases x with
    | func g =>
      simp only at hc
      split at hc
      · rename_i hp
        split at hc
        · cases hc
        have hev : ∀ S : St, S.ev (.func g) = .fn g [] [] := fun _ => rfl
        unfold stepOp at he
        simp only [ho, hev] at he
        obtain ⟨v, h1, h2⟩ := call_pure hp he
        refine ⟨v, h1, fun S' ha hs => ?_⟩
        have hargs : args.toList.map S'.ev = args.toList.map S.ev := map_same fun x hx => ha x (by simp [ho, Op.operands, Call.operands] at hx ⊢; exact .inr hx)
        unfold stepOp
        simp only [ho, hev, hargs]
        exact h2 S' hs
      · cases hc
    | _ => cases hc
  · have hne : ∀ x args tys, o.op ≠ .call ⟨.value x, args, tys⟩ := fun x args tys ho => hcall ⟨x, args, tys, ho⟩
    rw [stepOp_op hne] at he
    split at he
    case h_2 => cases he
    rename_i v h m hev
    simp only [Option.some.injEq] at he
    subst he
    obtain ⟨rfl, h2⟩ := core1 hc hne hev
    refine ⟨v, rfl, fun S' ha hs => ?_⟩
    rw [stepOp_op hne, evCore_congr ha, h2 _ _ hs]
theorem step2 (hc : cls X fid o = 2) (he : stepOp X C fid n0 j o S = some S1) : ∃ v ob, S1 = ({ S with h := upd S.h (n0 + j) (some ob) } : St).set o.dst v ∧
    ∀ S', Alike o S S' → stepOp X C fid n0 j o S' = some (({ S' with h := upd S'.h (n0 + j) (some ob) } : St).set o.dst v) := by
  have hne : ∀ x args tys, o.op ≠ .call ⟨.value x, args, tys⟩ := by
    intro x args tys ho
    simp only [cls, ho] at hc
    cases x with
    | func g =>
      simp only at hc
      split at hc
      · split at hc <;> cases hc
      · cases hc
    | _ => cases hc
  rw [stepOp_op hne] at he
  split at he
  case h_2 => cases he
  rename_i v h m hev
  simp only [Option.some.injEq] at he
  subst he
  obtain ⟨ob, rfl, h2⟩ := core2 hc hev
  refine ⟨v, ob, rfl, fun S' ha => ?_⟩
  rw [stepOp_op hne, evCore_congr ha, h2]
theorem step3 (he : stepOp X C fid n0 j o S = some S1) : ∃ v, S1 = ({ S with h := S1.h, n := S1.n } : St).set o.dst v ∧
    ∀ S', Alike o S S' → S'.h = S.h → S'.n = S.n → stepOp X C fid n0 j o S' = some (({ S' with h := S1.h, n := S1.n } : St).set o.dst v) := by
  by_cases hcall : ∃ x args tys, o.op = .call ⟨.value x, args, tys⟩
  · obtain ⟨x, args, tys, ho⟩ := hcall
    unfold stepOp at he
    simp only [ho] at he
    split at he
    case h_2 => cases he
    rename_i g first caps hx
    obtain ⟨v, h1, h2⟩ := call_any he
    refine ⟨v, h1, fun S' ha hh hn => ?_⟩
    have hargs : args.toList.map S'.ev = args.toList.map S.ev := map_same fun x hx => ha x (by simp [ho, Op.operands, Call.operands] at hx ⊢; exact .inr hx)
    have hxx : S'.ev x = .fn g first caps := by rw [← hx]; exact ha x (by simp [ho, Op.operands, Call.operands])
    unfold stepOp
    simp only [ho, hxx, hargs]
    exact h2 S' hh hn
  · have hne : ∀ x args tys, o.op ≠ .call ⟨.value x, args, tys⟩ := fun x args tys ho => hcall ⟨x, args, tys, ho⟩
    rw [stepOp_op hne] at he
    split at he
    case h_2 => cases he
    rename_i v h m hev
    simp only [Option.some.injEq] at he
    subst he
    refine ⟨v, by rw [set_h, set_n], fun S' ha hh hn => ?_⟩
    rw [stepOp_op hne, evCore_congr ha, hh, hev, set_h, set_n, ← hn]
end
end Go.Abs
namespace Go.Abs
open Go
def Env.base (X : Env) (g : FuncId) : Nat := if X.inout g = true then 1 else 0
def NormOk (X : Env) : Prop := ∀ f key N, X.norm f key = some N → N.ok = true ∧ X.low f = true ∧ (X.inout f = true → N.base = true)
theorem fixF_get (S : St) (N : Norm) (hx : Heap) : ∀ (L : List Nat) (t : Nat), fixF S N hx L t = if L.contains t then virt (slotAcc t N.roots) (S.f t) (fixT S N hx (S.f t)) else .bad
  | [], t => rfl
  | i :: L, t => by
    simp only [fixF, upd, List.contains_cons]
    by_cases e : t = i
    · subst e; simp only [if_true, beq_self_eq_true, Bool.true_or]
    · rw [fixF_get S N hx L t]
      have : (t == i) = false := by simpa using e
      simp only [e, if_false, this, Bool.false_or]
theorem fixH_get (S : St) (N : Norm) (hx : Heap) : ∀ (L : List Gr) (id : Nat), fixH S N hx L id = match newRoot id L with | some a => a.ob S N hx | none => none
  | [], id => rfl
  | a :: L, id => by
    simp only [fixH, upd, newRoot]
    by_cases e : id = a.new
    · subst e; simp
    · rw [fixH_get S N hx L id]
      have : ¬ a.new = id := fun h => e h.symm
      simp only [e, this, if_false]
theorem newRoot_some : ∀ {L : List Gr} {id : Nat} {a : Gr}, newRoot id L = some a → a ∈ L ∧ a.new = id
  | [], id, a, h => by simp [newRoot] at h
  | b :: L, id, a, h => by
    simp only [newRoot] at h
    split at h
    · simp only [Option.some.injEq] at h
      subst h
      rename_i e
      exact ⟨List.mem_cons_self .., e⟩
    · have := newRoot_some h
      exact ⟨List.mem_cons_of_mem _ this.1, this.2⟩
theorem look_some {S : St} {id : Nat} : ∀ {L : List Gr} {j : Nat}, look S id L = some j → ∃ a, a ∈ L ∧ (a.loc.val S).root = some id ∧ a.new = j
  | [], j, h => by simp [look] at h
  | b :: L, j, h => by
    simp only [look] at h
    split at h
    · rename_i e
      simp only [Option.some.injEq] at h
      exact ⟨b, List.mem_cons_self .., e, h⟩
    · obtain ⟨a, h1, h2⟩ := look_some h
      exact ⟨a, List.mem_cons_of_mem _ h1, h2⟩
theorem slotAcc_some {t : Nat} : ∀ {L : List Gr} {n : Nat}, slotAcc t L = some n → ∃ a, a ∈ L ∧ a.loc = .slot t ∧ a.new = n
  | [], n, h => by simp [slotAcc] at h
  | b :: L, n, h => by
    simp only [slotAcc] at h
    split at h
    · rename_i e
      simp only [Option.some.injEq] at h
      exact ⟨b, List.mem_cons_self .., e, h⟩
    · obtain ⟨a, h1, h2⟩ := slotAcc_some h
      exact ⟨a, List.mem_cons_of_mem _ h1, h2⟩
theorem cellAcc_some {S : St} {id j : Nat} : ∀ {L : List Gr} {n : Nat}, cellAcc S id j L = some n → ∃ a t, a ∈ L ∧ a.loc = .cell t j ∧ (S.f t).boxed = some id ∧ a.new = n
  | [], n, h => by simp [cellAcc] at h
  | b :: L, n, h => by
    have rest : cellAcc S id j L = some n → ∃ a t, a ∈ b :: L ∧ a.loc = .cell t j ∧ (S.f t).boxed = some id ∧ a.new = n := fun h => by
      obtain ⟨a, t, h1, h2⟩ := cellAcc_some h
      exact ⟨a, t, List.mem_cons_of_mem _ h1, h2⟩
    simp only [cellAcc] at h
    split at h
    · rename_i t j' hl
      split at h
      · rename_i e
        obtain ⟨rfl, e2⟩ := e
        simp only [Option.some.injEq] at h
        exact ⟨b, t, List.mem_cons_self .., hl, e2, h⟩
      · exact rest h
    · exact rest h
theorem boxed_eq {v : V} {id : Nat} (h : v.boxed = some id) : v = .ptr id 0 0 := by
  unfold V.boxed at h
  split at h
  · simp only [Option.some.injEq] at h; rw [h]
  · cases h
structure Norm.Ok (N : Norm) : Prop where
  one : 1 ≤ N.n
  new : ∀ a, a ∈ N.roots → a.new < N.n ∧ ∃ b, newRoot a.new N.roots = some b ∧ b.loc = a.loc
theorem Norm.ok_iff {N : Norm} (h : N.ok = true) : N.Ok := by
  unfold Norm.ok at h
  simp only [Bool.and_eq_true, decide_eq_true_eq] at h
  obtain ⟨h2, h4⟩ := h
  refine ⟨h2, fun a ha => ?_⟩
  have := List.all_eq_true.1 h4 a ha
  simp only [Bool.and_eq_true, decide_eq_true_eq] at this
  refine ⟨this.1, ?_⟩
  have h5 := this.2
  cases hb : newRoot a.new N.roots with
  | none => rw [hb] at h5; cases h5
  | some b =>
    rw [hb] at h5
    exact ⟨b, rfl, by simpa using h5⟩
theorem first_root {N : Norm} {S : St} (hb : N.base = true) (h : N.first S = true) : ∃ a, newRoot 0 N.roots = some a ∧ (a.loc.val S).root = some 0 := by
  unfold Norm.first at h
  rw [hb] at h
  cases hr : N.roots with
  | nil => rw [hr] at h; cases h
  | cons a r =>
    rw [hr] at h
    simp only [Bool.and_eq_true, beq_iff_eq] at h
    exact ⟨a, by simp [newRoot, h.1], h.2⟩
theorem norm_news {N : Norm} {S S' : St} (hN : N.ok = true) (h : N.run S = some S') {m : Nat} (hm : m ≤ if N.base = true then 1 else 0) : m ≤ S'.n ∧ ∀ id, id < m → S.h id = none → S'.h id = none := by
  have K := Norm.ok_iff hN
  unfold Norm.run at h
  split at h
  case isFalse => cases h
  rename_i hc
  simp only [Bool.and_eq_true] at hc
  simp only [Option.some.injEq] at h
  subst h
  have hm1 : m ≤ 1 := by split at hm <;> omega
  refine ⟨Nat.le_trans hm1 K.one, fun id hid hn => ?_⟩
  have : id = 0 := by omega
  subst this
  have hb : N.base = true := by
    cases hb : N.base with
    | true => rfl
    | false => rw [hb] at hm; simp at hm; omega
  obtain ⟨a, h1, h2⟩ := first_root hb hc.2
  simp only
  rw [fixH_get, h1]
  simp only
  unfold Gr.ob grOb
  split
  · rename_i hv; rw [hv] at h2; cases h2
  · rw [h2]
    simp only [hn, fixOb]
theorem normS_news {X : Env} (hN : NormOk X) {f key : Nat} {S S' : St} (h : normS X f key S = some S') {m : Nat} (hm : X.low f = true → m ≤ Env.base X f) (hmn : m ≤ S.n) : m ≤ S'.n ∧ ∀ id, id < m → S.h id = none → S'.h id = none := by
  unfold normS at h
  cases hc : X.norm f key with
  | none => rw [hc] at h; simp only [Option.some.injEq] at h; subst h; exact ⟨hmn, fun _ _ h => h⟩
  | some N =>
    rw [hc] at h
    obtain ⟨h1, h2, h3⟩ := hN f key N hc
    refine norm_news h1 h (Nat.le_trans (hm h2) ?_)
    unfold Env.base
    by_cases hio : X.inout f = true
    · rw [if_pos hio, if_pos (h3 hio)]; exact Nat.le_refl _
    · rw [if_neg hio]; exact Nat.zero_le _
def Norm.sig (N : Norm) (S : St) (σ : Sig) : Sig := fun id =>
  match newRoot id N.roots with
  | some a => match (a.loc.val S).root with
    | some j => σ j
    | none => none
  | none => none
section
variable {w : World} {I J : Nat → Prop} {σ σ' : Sig}
theorem wide_rep {v : V} {u : Value} (hr : Rep w I σ v u) : Rep w I σ v.wide u := by
  cases v with
  | sl c es =>
    simp only [V.wide, Rep] at hr ⊢
    obtain ⟨a, cap, h1, h2, h3, h4, h5⟩ := hr
    exact ⟨a, cap, h1, h2, h3, fun hc => (by cases hc), h5⟩
  | _ => exact hr
theorem apartL_eq {α : Type} {f : α → Option Nat} {l : List α} (h : apartL (l.map f) = true) {a b : α} (ha : a ∈ l) (hb : b ∈ l) {j : Nat} (h1 : f a = some j) (h2 : f b = some j) : a = b := by
  obtain ⟨p, hp⟩ := List.getElem?_of_mem ha
  obtain ⟨q, hq⟩ := List.getElem?_of_mem hb
  have := apartL_at h (i := p) (j := q) (x := j) (by rw [List.getElem?_map, hp]; simp [h1]) (by rw [List.getElem?_map, hq]; simp [h2])
  subst this
  rw [hp] at hq
  simpa using hq
theorem norm_sim {N : Norm} {S S' : St} {act : Act} (hN : N.ok = true) (hrun : N.run S = some S') (R : Rel w I σ S.h) (F : FRel w I σ S.f act) (fr : Fresh σ S.h S.n) :
    let J := fun b => I b ∨ Owns σ (killL S.h (N.srcs S)) b
    Rel w J (N.sig S σ) S'.h ∧ FRel w J (N.sig S σ) S'.f act ∧ Fresh (N.sig S σ) S'.h S'.n ∧ (∀ b, Owns (N.sig S σ) S'.h b → Owns σ S.h b) := by
  intro J
  have K := Norm.ok_iff hN
  unfold Norm.run at hrun
  split at hrun
  case isFalse => cases hrun
  rename_i hap0
  simp only [Bool.and_eq_true] at hap0
  have hap := hap0.1
  simp only [Option.some.injEq] at hrun
  subst hrun
  simp only
  have hIJ : ∀ b, I b → J b := fun b hb => .inl hb
  have EJ : Ext w I nosig w J nosig := ⟨fun _ _ => rfl, fun _ c _ fz hh => ⟨c, fz, hh, rfl⟩, hIJ, fun _ _ hh => hh⟩
  have hsubR : Rel w I σ (killL S.h (N.srcs S)) := R.sub fun id ob h => (killL_sub h).1
  have him : ∀ c c' x, toImm (killL S.h (N.srcs S)) depth c = some c' → Rep w I σ c x → Rep w J nosig c' x := fun c c' x ht hx => imm_rep hsubR hIJ (fun b hb => .inr hb) depth c c' x ht hx
  have hmem : ∀ a, a ∈ N.roots → ∀ j, (a.loc.val S).root = some j → some j ∈ N.srcs S := fun a ha j hv => by
    unfold Norm.srcs
    exact List.mem_map.2 ⟨a, ha, hv⟩
  have huniq : ∀ a b, a ∈ N.roots → b ∈ N.roots → ∀ j, (a.loc.val S).root = some j → (b.loc.val S).root = some j → a = b := fun a b ha hb j h1 h2 => apartL_eq hap ha hb h1 h2
  have hnewσ : ∀ a, a ∈ N.roots → ∀ j, (a.loc.val S).root = some j → N.sig S σ a.new = σ j := by
    intro a ha j hv
    obtain ⟨h1, b, h3, h4⟩ := K.new a ha
    unfold Norm.sig
    rw [h3]
    simp only [h4, hv]
  have hlook : ∀ id j, look S id N.roots = some j → N.sig S σ j = σ id := by
    intro id j h
    obtain ⟨a, h1, h2, rfl⟩ := look_some h
    exact hnewσ a h1 id h2
  have hJroot : ∀ a, a ∈ N.roots → ∀ j ob b o k, (a.loc.val S).root = some j → S.h j = some ob → σ j = some (b, o, k) → ¬ J b := by
    intro a ha j ob b o k hv ho hs
    rintro (hx | ⟨i, ob2, o2, k2, g1, g2⟩)
    · exact (R.owned ⟨j, ob, o, k, ho, hs⟩).1 hx
    · have g3 := killL_sub g1
      have : i = j := R.apart i j ob2 ob b o2 k2 o k g3.1 ho g2 hs
      subst this
      exact g3.2 (hmem a ha i hv)
  have hfixC : ∀ c x, Rep w I σ c x → Rep w J (N.sig S σ) (fixC S N (killL S.h (N.srcs S)) c) x := by
    intro c x hx
    unfold fixC
    split
    · rename_i id s l
      split
      · rename_i j hj
        simp only [Rep] at hx ⊢
        rw [hlook id j hj]; exact hx
      · split
        · rename_i v hv; exact (him _ v x hv hx).ext Ext.free
        · simp [Rep]
    · rename_i id i f
      split
      · rename_i j hj
        simp only [Rep] at hx ⊢
        rw [hlook id j hj]; exact hx
      · simp [Rep]
    · split
      · rename_i h
        exact (wide_rep ((imm0_rep h hx).ext EJ)).ext Ext.free
      · simp [Rep]
  have hfix1 : ∀ c x, Rep w I σ c x → Rep w J (N.sig S σ) (fix1 S N (killL S.h (N.srcs S)) c) x := by
    intro c x hx
    unfold fix1
    split
    · rename_i cs
      simp only [Rep] at hx ⊢
      obtain ⟨us, rfl, hc⟩ := hx
      refine ⟨us, rfl, ?_⟩
      rw [RepC_iff] at hc ⊢
      refine ⟨by rw [List.length_map]; exact hc.1, fun j c u' hcj hu => ?_⟩
      rw [List.getElem?_map] at hcj
      cases hcs : cs[j]? with
      | none => rw [hcs] at hcj; cases hcj
      | some c0 =>
        rw [hcs] at hcj
        simp only [Option.map_some, Option.some.injEq] at hcj
        subst hcj
        have := hc.2 j c0 u' hcs hu
        exact ⟨this.1, hfixC c0 u' this.2⟩
    · exact hfixC c x hx
  have hfixL : ∀ cs us, RepL w I σ cs us → RepL w J (N.sig S σ) (cs.map (fix1 S N (killL S.h (N.srcs S)))) us := by
    intro cs us hc
    rw [RepL_iff] at hc ⊢
    refine ⟨by rw [List.length_map]; exact hc.1, fun j c u' hcj hu => ?_⟩
    rw [List.getElem?_map] at hcj
    cases hcs : cs[j]? with
    | none => rw [hcs] at hcj; cases hcj
    | some c0 =>
      rw [hcs] at hcj
      simp only [Option.map_some, Option.some.injEq] at hcj
      subst hcj
      exact hfix1 c0 u' (hc.2 j c0 u' hcs hu)
  have hfixT : ∀ c x, Rep w I σ c x → Rep w J (N.sig S σ) (fixT S N (killL S.h (N.srcs S)) c) x := by
    intro c x hx
    unfold fixT
    split
    · simp only [Rep] at hx ⊢
      obtain ⟨us, rfl, hc⟩ := hx
      exact ⟨us, rfl, hfixL _ _ hc⟩
    · simp only [Rep] at hx ⊢
      obtain ⟨us, vs, rfl, h1, h2⟩ := hx
      exact ⟨us, vs, rfl, hfixL _ _ h1, hfixL _ _ h2⟩
    · rename_i cs
      simp only [Rep] at hx ⊢
      obtain ⟨b, o, h1, h2, h3⟩ := hx
      exact ⟨b, o, h1, hIJ b h2, RepAt.ext' cs b o EJ h2 h3⟩
    · exact hfix1 c x hx
  have hvirt : ∀ (o : Option Nat) v w' x, Rep w I σ v x → Rep w J (N.sig S σ) w' x → Rep w J (N.sig S σ) (virt o v w') x := by
    intro o v w' x h1 h2
    unfold virt
    split
    · split
      · exact fnil_rep rfl h1
      · exact h2
    · exact h2
  have hfixCs : ∀ (id : Nat) (cs : List V) (b o j0 : Nat), (fixCs S N (killL S.h (N.srcs S)) id j0 cs).length = cs.length ∧
      (CAt w I σ cs b o → CAt w J (N.sig S σ) (fixCs S N (killL S.h (N.srcs S)) id j0 cs) b o) := by
    intro id cs b o
    induction cs generalizing o with
    | nil => intro j0; exact ⟨rfl, fun _ j c hj => by simp [fixCs] at hj⟩
    | cons c cs ih =>
      intro j0
      obtain ⟨g1, g2⟩ := ih (o + 1) (j0 + 1)
      refine ⟨by simp [fixCs, g1], fun hca j c' hj => ?_⟩
      cases j with
      | zero =>
        simp only [fixCs, List.getElem?_cons_zero, Option.some.injEq] at hj
        obtain ⟨u, k1, k2, k3⟩ := hca 0 c (by simp)
        refine ⟨u, k1, k2, ?_⟩
        subst hj
        exact hvirt _ _ _ _ k3 (hfixC c u k3)
      | succ j =>
        simp only [fixCs, List.getElem?_cons_succ] at hj
        have hca' : CAt w I σ cs b (o + 1) := fun j c' hj => by
          have := hca (j + 1) c' (by simpa using hj)
          rwa [show o + (j + 1) = o + 1 + j by omega] at this
        have := g2 hca' j c' hj
        rwa [show o + (j + 1) = o + 1 + j by omega]
  have hfixE : ∀ (id : Nat) (e : V) (b o : Nat), (∀ cs, e ≠ .tup cs) → (fixE S N (killL S.h (N.srcs S)) id e).cells.length = e.cells.length ∧ (CAt w I σ e.cells b o → CAt w J (N.sig S σ) (fixE S N (killL S.h (N.srcs S)) id e).cells b o) := by
    intro id e b o hnt
    by_cases hx : ∃ cs, e = .agg cs
    · obtain ⟨cs, rfl⟩ := hx
      simp only [fixE, V.cells]
      exact hfixCs id cs b o 0
    · have hx' : ∀ cs, e ≠ .agg cs := fun cs h => hx ⟨cs, h⟩
      have hval : fixE S N (killL S.h (N.srcs S)) id e = virt (cellAcc S id 0 N.roots) e (fixC S N (killL S.h (N.srcs S)) e) := by
        cases e with
        | agg cs => exact absurd rfl (hx' cs)
        | _ => rfl
      have hna : ∀ cs, fixE S N (killL S.h (N.srcs S)) id e ≠ .agg cs := by
        rw [hval]
        intro cs hh
        have hcn : ∀ cs, fixC S N (killL S.h (N.srcs S)) e ≠ .agg cs := by
          intro cs hh
          unfold fixC at hh
          split at hh
          · split at hh
            · cases hh
            · split at hh
              · rename_i v hv; exact toImm_one hv (by intro cs e; cases e) cs hh
              · cases hh
          · split at hh <;> cases hh
          · split at hh
            · cases e <;> simp [V.wide] at hh
              exact hx' _ rfl
            · cases hh
        unfold virt at hh
        split at hh
        · split at hh
          · cases hh
          · exact hcn cs hh
        · exact hcn cs hh
      rw [cells_one hna, cells_one hx']
      refine ⟨rfl, fun hca j c hj => ?_⟩
      cases j with
      | succ j => simp at hj
      | zero =>
        simp at hj; subst hj
        obtain ⟨u, k1, k2, k3⟩ := hca 0 e (by simp)
        refine ⟨u, k1, k2, ?_⟩
        rw [hval]
        exact hvirt _ _ _ _ k3 (hfixC e u k3)
  have hroot : ∀ a ob, a ∈ N.roots → newRoot a.new N.roots = some a → a.ob S N (killL S.h (N.srcs S)) = some ob → ObRel w J (N.sig S σ) a.new ob ∧ (∀ b o k, N.sig S σ a.new = some (b, o, k) → ∃ j ob0, (a.loc.val S).root = some j ∧ S.h j = some ob0 ∧ σ j = some (b, o, k)) := by
    intro a ob ha hna hob
    unfold Gr.ob grOb at hob
    split at hob
    · rename_i hv
      simp only [Option.some.injEq] at hob
      subst hob
      have hz : N.sig S σ a.new = none := by
        unfold Norm.sig
        rw [hna]
        simp only [hv, V.root]
      exact ⟨.inl ⟨rfl, hz⟩, fun b o k hs => by rw [hz] at hs; cases hs⟩
    · split at hob
      case h_2 => cases hob
      rename_i j hv
      have hz := hnewσ a ha j hv
      cases ho : S.h j with
      | none => rw [ho] at hob; simp [fixOb] at hob
      | some ob0 =>
        rw [ho] at hob
        refine ⟨?_, fun b o k hs => ⟨j, ob0, hv, ho, by rw [← hz]; exact hs⟩⟩
        unfold fixOb at hob
        have hR := R.obj j ob0 ho
        simp only at hob
        split at hob
        · rename_i hk
          split at hob
          · rename_i e he
            simp only [Option.some.injEq] at hob
            subst hob
            rcases hR with ⟨h1, _⟩ | ⟨b, o, c, el, hs, hi, hb, hle, hrow⟩
            · rw [he] at h1; cases h1
            · rw [he, hk] at hrow
              rw [he] at hle
              rw [RepRow_cons] at hrow
              refine .inr ⟨b, o, c, el, by rw [hz]; exact hs, hJroot a ha j ob0 b o ob0.k hv ho hs, hb, by simpa using hle, ?_⟩
              simp only [osig, if_true] at hrow ⊢
              rw [RepRow_cons]
              by_cases htup : ∃ cs, e = .tup cs
              · obtain ⟨cs, rfl⟩ := htup
                exfalso
                obtain ⟨u, _, k2, k3⟩ := hrow.2.1 0 (.tup cs) (by simp [V.cells])
                simp only [Rep] at k3
                obtain ⟨us, rfl, _⟩ := k3
                simp [Value.oneCell'] at k2
              · obtain ⟨g1, g2⟩ := hfixE j e b o (fun cs h => htup ⟨cs, h⟩)
                exact ⟨by rw [g1]; exact hrow.1, g2 hrow.2.1, by simp [RepRow]⟩
          · split at hob
            case isFalse => cases hob
            rename_i hall
            simp only [Option.some.injEq] at hob
            subst hob
            rcases hR with ⟨h1, h2⟩ | ⟨b, o, c, el, hs, hi, hb, hle, hrow⟩
            · exact .inl ⟨h1, by rw [hz]; exact h2⟩
            · refine .inr ⟨b, o, c, el, by rw [hz]; exact hs, hJroot a ha j ob0 b o ob0.k hv ho hs, hb, hle, ?_⟩
              rw [hk] at hrow ⊢
              exact ((row_imm1 hall hrow).extRow EJ rfl).extRow Ext.free rfl
        · rename_i hk
          simp only [Option.some.injEq] at hob
          subst hob
          have hk' : ob0.keep = false := by simpa using hk
          rcases hR with ⟨h1, h2⟩ | ⟨b, o, c, el, hs, hi, hb, hle, hrow⟩
          · exact .inl ⟨h1, by rw [hz]; exact h2⟩
          · refine .inr ⟨b, o, c, el, by rw [hz]; exact hs, hJroot a ha j ob0 b o ob0.k hv ho hs, hb, hle, ?_⟩
            rw [hk'] at hrow ⊢
            exact hrow.extRow EJ rfl
  have hheap : ∀ id ob, fixH S N (killL S.h (N.srcs S)) N.roots id = some ob → ∃ a, a ∈ N.roots ∧ a.new = id ∧ newRoot a.new N.roots = some a ∧ a.ob S N (killL S.h (N.srcs S)) = some ob := by
    intro id ob ho
    rw [fixH_get] at ho
    cases hz : newRoot id N.roots with
    | some a =>
      rw [hz] at ho
      obtain ⟨h1, h2⟩ := newRoot_some hz
      exact ⟨a, h1, h2, by rw [h2]; exact hz, ho⟩
    | none => rw [hz] at ho; cases ho
  have hlt : ∀ b, Owns σ (killL S.h (N.srcs S)) b → Owns σ S.h b := fun b ⟨i, ob, o, k, h1, h2⟩ => ⟨i, ob, o, k, (killL_sub h1).1, h2⟩
  have hbig : ∀ id, N.n ≤ id → newRoot id N.roots = none := fun id hid => by
    cases hz : newRoot id N.roots with
    | none => rfl
    | some a =>
      obtain ⟨h1, h2⟩ := newRoot_some hz
      have := (K.new a h1).1
      omega
  refine ⟨⟨fun b hb => ?_, fun id ob ho => ?_, fun id id' ob ob' b o k o' k' h1 h2 h3 h4 => ?_, R.glob.sub fun b hb => .inl hb⟩, fun t => ?_, fun id hid => ⟨?_, ?_⟩, fun b hb => ?_⟩
  · rcases hb with hb | hb
    · exact R.imm b hb
    · exact R.ownedLt (hlt b hb)
  · obtain ⟨a, g1, rfl, g2, g3⟩ := hheap id ob ho
    exact (hroot a ob g1 g2 g3).1
  · obtain ⟨a, g1, rfl, g2, g3⟩ := hheap id ob h1
    obtain ⟨j, ob0, m1, m2, m3⟩ := (hroot a ob g1 g2 g3).2 b o k h3
    obtain ⟨a', g1', rfl, g2', g3'⟩ := hheap id' ob' h2
    obtain ⟨j', ob0', m1', m2', m3'⟩ := (hroot a' ob' g1' g2' g3').2 b o' k' h4
    have : j = j' := R.apart j j' ob0 ob0' b o k o' k' m2 m2' m3 m3'
    subst this
    rw [huniq a a' g1 g1' j m1 m1']
  · rw [fixF_get]
    split
    case isFalse => simp [Rep]
    exact hvirt _ _ _ _ (F t) (hfixT _ _ (F t))
  · rw [fixH_get, hbig id hid]
  · unfold Norm.sig
    rw [hbig id hid]
  · obtain ⟨id, ob, o, k, h1, h2⟩ := hb
    obtain ⟨a, g1, rfl, g2, g3⟩ := hheap id ob h1
    obtain ⟨j, ob0, m1, m2, m3⟩ := (hroot a ob g1 g2 g3).2 b o k h2
    exact ⟨j, ob0, o, k, m2, m3⟩
end
end Go.Abs
namespace Go.Abs
open Go
theorem giveA_sub : ∀ {vs vs' : List V} {h h' : Heap}, giveA h vs = some (vs', h') → ∀ id, h id = none → h' id = none
  | [], vs', h, h', hg, id, hid => by
    simp only [giveA, Option.some.injEq, Prod.mk.injEq] at hg
    rw [← hg.2]; exact hid
  | v :: ps, vs', h, h', hg, id, hid => by
    simp only [giveA] at hg
    split at hg
    · rename_i v' h1 hg1
      split at hg
      · rename_i h2 hg2
        simp only [Option.some.injEq, Prod.mk.injEq] at hg
        rw [← hg.2]
        exact giveA_sub hg2 id (give_sub hg1 id hid)
      · cases hg
    · cases hg
section
variable {X : Env} {C : CallT} {fid : FuncId}
theorem call_news (hC : CallNews X C) {dst : Option Nat} {g : FuncId} {args : List V} {S S1 : St} (he : evCall X C fid dst g args S = some S1) : S.n ≤ S1.n ∧ ∀ id, id < S.n → S.h id = none → S1.h id = none := by
  unfold evCall at he
  split at he
  · split at he
    case h_2 => cases he
    split at he
    case h_2 => cases he
    split at he
    · cases he
    simp only [Option.some.injEq] at he
    subst he
    rw [set_h, set_n]
    refine ⟨by simp [St.new], fun id hid hn => ?_⟩
    have : id ≠ S.n := by omega
    simp [St.new, upd, this, hn]
  · split at he
    · rename_i hby
      have hlow : X.low g = false := by
        simp only [Bool.and_eq_true, Bool.not_eq_true'] at hby; exact hby.2
      split at he
      case h_2 => cases he
      rename_i v h n hc
      simp only [Option.some.injEq] at he
      subst he
      rw [set_h, set_n]
      have := hC _ _ _ _ _ _ _ hc
      rw [lim_high hlow] at this
      exact this
    split at he
    · unfold evIo at he
      split at he
      case h_2 => cases he
      split at he
      case h_2 => cases he
      rename_i ob hob
      split at he
      case h_2 => cases he
      split at he
      case isFalse => cases he
      split at he
      case h_2 => cases he
      split at he
      case h_2 => cases he
      rename_i hg
      repeat (split at he; rotate_left; cases he)
      simp only [Option.some.injEq] at he
      subst he
      rw [set_h, set_n]
      refine ⟨by simp, fun i hi hn => ?_⟩
      dsimp only
      rw [hdrH_get, if_neg (by omega)]
      have hne : i ≠ _ := fun e => by rw [e, hob] at hn; cases hn
      simp only [upd, hne, if_false]
      refine giveA_sub hg i ?_
      cases hz : killL (upd S.h _ none) _ i with
      | none => rfl
      | some y =>
        have := (killL_sub hz).1
        simp only [upd, hne, if_false, hn] at this
        cases this
    split at he
    · unfold evMask at he
      split at he
      case h_2 => cases he
      rename_i hg
      repeat (split at he; rotate_left; cases he)
      simp only [Option.some.injEq] at he
      subst he
      rw [set_h, set_n]
      refine ⟨by simp, fun i hi hn => ?_⟩
      dsimp only
      rw [hdrH_get, if_neg (by omega)]
      exact giveA_sub hg i hn
    · split at he
      case h_2 => cases he
      split at he
      · rename_i hth
        have hlow : X.low g = false := by
          simp only [Bool.and_eq_true, Bool.not_eq_true'] at hth; exact hth.2
        split at he
        case h_2 => cases he
        rename_i v h n hc
        split at he
        · cases he
        simp only [Option.some.injEq] at he
        subst he
        rw [set_h, set_n]
        have := hC _ _ _ _ _ _ _ hc
        rw [lim_high hlow] at this
        refine ⟨this.1, fun id hid hn => ?_⟩
        simp only [hid, if_true]; exact hn
      · split at he
        case h_2 => cases he
        split at he
        case h_2 => cases he
        split at he
        · cases he
        simp only [Option.some.injEq] at he
        subst he
        rw [set_h, set_n]
        exact ⟨Nat.le_refl _, fun id _ hn => hn⟩
theorem step_news (hC : CallNews X C) {n0 j : Nat} {o : Oper} {S S1 : St} (he : stepOp X C fid n0 j o S = some S1) : S.n ≤ S1.n ∧ ∀ id, id ≠ n0 + j → id < S.n → S.h id = none → S1.h id = none := by
  unfold stepOp at he
  split at he
  · split at he
    case h_2 => cases he
    have := call_news hC he
    exact ⟨this.1, fun id _ hid hn => this.2 id hid hn⟩
  · split at he
    case h_2 => cases he
    rename_i v h n hc
    simp only [Option.some.injEq] at he
    subst he
    rw [set_h, set_n]
    exact ⟨Nat.le_refl _, fun id hne _ hn => evCore_news hc id hne hn⟩
theorem ops_news (hC : CallNews X C) {dsts : List (Option Nat)} {n0 : Nat} : ∀ {l : List Oper} {k : Nat} {S S1 : St}, evOps X C fid dsts n0 k l S = some S1 → S.n ≤ S1.n ∧ ∀ id, (id < n0 + k ∨ n0 + k + l.length ≤ id) → id < S.n → S.h id = none → S1.h id = none
  | [], k, S, S1, he => by
    simp only [evOps, Option.some.injEq] at he
    subst he
    exact ⟨Nat.le_refl _, fun id _ _ hn => hn⟩
  | o :: l, k, S, S1, he => by
    have two : ∀ {S2 : St}, S.n ≤ S2.n → (∀ id, id ≠ n0 + k → id < S.n → S.h id = none → S2.h id = none) → evOps X C fid dsts n0 (k + 1) l S2 = some S1 → S.n ≤ S1.n ∧ ∀ id, (id < n0 + k ∨ n0 + k + (o :: l).length ≤ id) → id < S.n → S.h id = none → S1.h id = none := by
      intro S2 h1 h2 h3
      obtain ⟨h4, h5⟩ := ops_news hC h3
      refine ⟨by omega, fun id hid hlt hn => h5 id ?_ (by omega) (h2 id ?_ hlt hn)⟩
      · simp only [List.length_cons] at hid; omega
      · simp only [List.length_cons] at hid; omega
    have skip : evOps X C fid dsts n0 (k + 1) l (S.set o.dst (.tup [])) = some S1 → S.n ≤ S1.n ∧ ∀ id, (id < n0 + k ∨ n0 + k + (o :: l).length ≤ id) → id < S.n → S.h id = none → S1.h id = none := fun h3 =>
      two (by rw [set_n]; exact Nat.le_refl _) (fun id _ _ hn => by rw [set_h]; exact hn) h3
    simp only [evOps] at he
    split at he
    · split at he
      case h_2 => cases he
      rename_i S2 h1
      have := step_news hC h1
      exact two this.1 this.2 he
    · split at he
      case h_2 => cases he
      split at he
      · split at he
        · split at he
          case h_2 => cases he
          rename_i S2 h1
          have := step_news hC h1
          exact two this.1 this.2 he
        · exact skip he
      · exact skip he
      · cases he
def EvNews (X : Env) (E : Ev) : Prop := ∀ f c S e S1 m, E f c S = some (e, S1) → m ≤ S.n → (X.low f = true → m ≤ Env.base X f) → m ≤ S1.n ∧ ∀ id, id < m → S.h id = none → S1.h id = none
theorem callWith_news {E : Ev} (hE : EvNews X E) : CallNews X (callWith X E) := by
  intro g args h k v h' k' hc
  unfold callWith at hc
  have hpg : X.prim g = none := by
    cases hpg : X.prim g with
    | none => rfl
    | some pr => simp [hpg] at hc
  simp only [hpg] at hc
  split at hc
  case h_2 => cases hc
  split at hc
  case h_2 => cases hc
  rename_i fn hf b hb
  cases he : E g b ⟨enterF args, h, k⟩ with
  | none => simp [he, retV] at hc
  | some x =>
    obtain ⟨e, S1⟩ := x
    rw [he] at hc
    have := hE _ _ _ _ _ (lim X g k) he (lim_le X g k) (fun hl => by
      unfold lim Env.base; rw [if_pos hl]; exact Nat.min_le_left _ _)
    cases e with
    | exit id => simp [retV] at hc
    | normal | ret =>
      simp only [retV] at hc
      split at hc
      case h_2 => cases hc
      simp only [Option.some.injEq, Prod.mk.injEq] at hc
      obtain ⟨_, rfl, rfl⟩ := hc
      exact this
theorem evC_news (hN : NormOk X) : ∀ n, EvNews X (evC X n)
  | 0 => fun f c S e S1 m he => by simp [evC] at he
  | n + 1 => by
    have ih := evC_news hN n
    have hC := callWith_news (X := X) ih
    intro f c S e S1 m he hm hl
    rw [evC] at he
    have done : S = S1 → m ≤ S1.n ∧ ∀ id, id < m → S.h id = none → S1.h id = none := by
      rintro rfl; exact ⟨hm, fun _ _ h => h⟩
    have trans : ∀ {S2 : St}, (m ≤ S2.n ∧ ∀ id, id < m → S.h id = none → S2.h id = none) → (m ≤ S1.n ∧ ∀ id, id < m → S2.h id = none → S1.h id = none) → m ≤ S1.n ∧ ∀ id, id < m → S.h id = none → S1.h id = none :=
      fun h1 h2 => ⟨h2.1, fun id hid hn => h2.2 id hid (h1.2 id hid hn)⟩
    cases c with
    | skip | exit _ | ret =>
      simp only [stepC, Option.some.injEq, Prod.mk.injEq] at he
      exact done he.2
    | region id ops d =>
      simp only [stepC] at he
      split at he
      case h_2 => cases he
      rename_i S0 hno
      split at he
      case h_2 => cases he
      rename_i S2 hev
      split at he
      case isFalse => cases he
      simp only [Option.some.injEq, Prod.mk.injEq] at he
      obtain ⟨_, rfl⟩ := he
      obtain ⟨h1, h2⟩ := ops_news hC hev
      simp only at h1 h2
      have h0 := normS_news hN hno hl hm
      exact trans h0 ⟨by omega, fun id hid hn => h2 id (.inl (by omega)) (by omega) hn⟩
    | seq x y =>
      simp only [stepC] at he
      cases hx : evC X n f x S with
      | none => simp [hx] at he
      | some z =>
        obtain ⟨e2, S2⟩ := z
        rw [hx] at he
        have h1 := ih _ _ _ _ _ m hx hm hl
        cases e2 with
        | normal => exact trans h1 (ih _ _ _ _ _ m he h1.1 hl)
        | exit id =>
          simp only [Option.some.injEq, Prod.mk.injEq] at he
          obtain ⟨_, rfl⟩ := he; exact h1
        | ret =>
          simp only [Option.some.injEq, Prod.mk.injEq] at he
          obtain ⟨_, rfl⟩ := he; exact h1
    | cond x p q =>
      simp only [stepC] at he
      split at he
      case h_2 => cases he
      split at he
      · exact ih _ _ _ _ _ m he hm hl
      · exact ih _ _ _ _ _ m he hm hl
    | block id b =>
      simp only [stepC] at he
      cases hb : evC X n f b S with
      | none => simp [hb] at he
      | some z =>
        obtain ⟨e2, S2⟩ := z
        rw [hb] at he
        have h1 := ih _ _ _ _ _ m hb hm hl
        cases e2 with
        | normal =>
          simp only [Option.some.injEq, Prod.mk.injEq] at he
          obtain ⟨_, rfl⟩ := he; exact h1
        | ret =>
          simp only [Option.some.injEq, Prod.mk.injEq] at he
          obtain ⟨_, rfl⟩ := he; exact h1
        | exit i =>
          simp only at he
          split at he
          · simp only [Option.some.injEq, Prod.mk.injEq] at he
            obtain ⟨_, rfl⟩ := he; exact h1
          · simp only [Option.some.injEq, Prod.mk.injEq] at he
            obtain ⟨_, rfl⟩ := he; exact h1
    | loop b =>
      simp only [stepC] at he
      split at he
      case h_2 => cases he
      rename_i S0 hno
      have h0 := normS_news hN hno hl hm
      cases hb : evC X n f b S0 with
      | none => simp [hb] at he
      | some z =>
        obtain ⟨e2, S2⟩ := z
        rw [hb] at he
        have h1 := ih _ _ _ _ _ m hb h0.1 hl
        have h2 : m ≤ S2.n ∧ ∀ id, id < m → S.h id = none → S2.h id = none := ⟨h1.1, fun id hid hn => h1.2 id hid (h0.2 id hid hn)⟩
        cases e2 with
        | normal => exact trans h2 (ih _ _ _ _ _ m he h1.1 hl)
        | exit id =>
          simp only [Option.some.injEq, Prod.mk.injEq] at he
          obtain ⟨_, rfl⟩ := he; exact h2
        | ret =>
          simp only [Option.some.injEq, Prod.mk.injEq] at he
          obtain ⟨_, rfl⟩ := he; exact h2
    | _ => simp [stepC] at he
end
end Go.Abs
namespace Go.Abs
open Go
def loopwp (P : Program) (c : Code) (Q : Exit → Act → World → Prop) (a : Act) (w : World) : Prop :=
  ∀ (b : Frame) (k : List Item) (cs : List Frame), ∃ e a' w', Q e a' w' ∧ Arrives P (lone (b.at a (.code c :: .inLoop c :: k)) cs w) b k cs e a' w'
theorem loopwp.wp {P : Program} {c : Code} {Q : Exit → Act → World → Prop} {a : Act} {w : World} (h : loopwp P c Q a w) : (Code.loop c).wp P Q a w := by
  intro b k cs
  obtain ⟨e, a', w', hq, harr⟩ := h b k cs
  exact ⟨e, a', w', hq, .of_steps (.one step_loop) harr⟩
theorem loopwp.round {P : Program} {c : Code} {Q : Exit → Act → World → Prop} {a : Act} {w : World} (h : c.wp P (Exit.then (loopwp P c Q) Q) a w) : loopwp P c Q a w := by
  intro b k cs
  obtain ⟨e, a₁, w₁, hq, harr⟩ := h b (.inLoop c :: k) cs
  cases e with
  | normal =>
    obtain ⟨e₂, a₂, w₂, hq₂, harr₂⟩ := hq b k cs
    exact ⟨e₂, a₂, w₂, hq₂, .of_steps (Steps.trans harr (.one step_inLoop)) harr₂⟩
  | exit id => exact ⟨_, a₁, w₁, hq, .pass (x := .inLoop c) rfl (fun _ _ => .inl (by simp)) harr⟩
  | goto l => exact ⟨_, a₁, w₁, hq, .pass (x := .inLoop c) rfl (fun _ _ => .inl (by simp)) harr⟩
  | ret => exact ⟨_, a₁, w₁, hq, .pass (x := .inLoop c) rfl (fun _ _ => .inl (by simp)) harr⟩
  | panic ch => exact ⟨_, a₁, w₁, hq, .pass (x := .inLoop c) rfl (fun _ _ => .inl (by simp)) harr⟩
  | outgrown => exact ⟨_, a₁, w₁, hq, .pass (x := .inLoop c) rfl (fun _ _ => .inl (by simp)) harr⟩
def Runs (P : Program) : Code → (Exit → Act → World → Prop) → Act → World → Prop
  | .loop b => loopwp P b
  | c => c.wp P
theorem Runs.wp {P : Program} {c : Code} {Q : Exit → Act → World → Prop} {a : Act} {w : World} (h : Runs P c Q a w) : c.wp P Q a w := by
  unfold Runs at h
  split at h
  · exact h.wp
  · exact h
def Ex.ex : Ex → Exit
  | .normal => .normal
  | .exit id => .exit id
  | .ret => .ret
def PostOf (nt n0 : Nat) (w : World) (I : Nat → Prop) (σ : Sig) (h : Heap) (S1 : St) (a' : Act) (w' : World) : Prop :=
  ∃ I' σ', n0 ≤ S1.n ∧ Step w I σ h n0 w' I' σ' S1.h S1.n ∧ FRel w' I' σ' S1.f a' ∧ Fresh σ' S1.h S1.n ∧ nt ≤ a'.tmps.size ∧ a'.defers = []
def PostM (nt m : Nat) (w : World) (I : Nat → Prop) (σ : Sig) (h : Heap) (S1 : St) (a' : Act) (w' : World) : Prop :=
  ∃ I' σ', m ≤ S1.n ∧ Stem m w I σ h w' I' σ' S1.h ∧ FRel w' I' σ' S1.f a' ∧ Fresh σ' S1.h S1.n ∧ nt ≤ a'.tmps.size ∧ a'.defers = []
def DrawOk (X : Env) (drawB : FuncId → Nat → Array Oper → Bool) : Prop :=
  ∀ (C : CallT), CallOk X C → CallNews X C → CallOver X C → CloneOk X → (∀ fid dst g args S S1, evCall X C fid dst g args S = some S1 → GoodF X g) →
  ∀ (fid : FuncId) (id nt : Nat) (ops : Array Oper) (S S1 : St), (∀ o ∈ ops.toList, opB X nt o = true) → drawB fid id ops = true →
    evOps X C fid (ops.toList.map (·.dst)) S.n 0 ops.toList { S with n := S.n + ops.size } = some S1 → Stable X C fid ops.toList S.n { S with n := S.n + ops.size } S1 (X.exc fid id) →
    ∀ (a : Act) (w : World) (I : Nat → Prop) (σ : Sig), Rel w I σ S.h → FRel w I σ S.f a → Fresh σ S.h S.n → nt ≤ a.tmps.size → a.defers = [] →
    ∀ (Q : Exit → Act → World → Prop), (∀ a' w', PostOf nt S.n w I σ S.h S1 a' w' → Q .normal a' w') → (Code.region id ops true).wp X.P Q a w
def codeB (X : Env) (drawB : FuncId → Nat → Array Oper → Bool) (nt : Nat) (fid : FuncId) : Code → Bool
  | .region id ops d => ops.toList.all (opB X nt) && (!d || drawB fid id ops)
  | .seq a b => codeB X drawB nt fid a && codeB X drawB nt fid b
  | .cond x a b => opdB x && codeB X drawB nt fid a && codeB X drawB nt fid b
  | .block _ b => codeB X drawB nt fid b
  | .loop b => codeB X drawB nt fid b
  | _ => true
def resB (X : Env) : ResultVar → Bool
  | .tmp _ => true
  | .cell _ t => tB X t
def fnB (X : Env) (drawB : FuncId → Nat → Array Oper → Bool) (g : FuncId) (fn : Func) : Bool :=
  match fn.body with
  | some b => codeB X drawB fn.ntmps g b && fn.results.toList.all (resB X) && !(fn.name == "runtime.NumGoroutine")
  | none => true
def AllOk (X : Env) (drawB : FuncId → Nat → Array Oper → Bool) : Prop := ∀ g fn, X.P.funcs[g]? = some fn → X.prim g = none → fnB X drawB g fn = true
section
variable {X : Env} {drawB : FuncId → Nat → Array Oper → Bool}
def Sound (X : Env) (drawB : FuncId → Nat → Array Oper → Bool) (E : Ev) : Prop :=
  ∀ (fid : FuncId) (nt m : Nat) (c : Code) (S : St) (e : Ex) (S1 : St), E fid c S = some (e, S1) → codeB X drawB nt fid c = true → m ≤ S.n → (X.low fid = true → m ≤ Env.base X fid) →
    ∀ (a : Act) (w : World) (I : Nat → Prop) (σ : Sig), Rel w I σ S.h → FRel w I σ S.f a → Fresh σ S.h S.n → nt ≤ a.tmps.size → a.defers = [] →
    ∀ (Q : Exit → Act → World → Prop), (∀ a' w', PostM nt m w I σ S.h S1 a' w' → Q e.ex a' w') → Runs X.P c Q a w
theorem PostM.trans {nt m : Nat} {w w1 w2 : World} {I I1 : Nat → Prop} {σ σ1 : Sig} {h h1 : Heap} {S2 : St} {a2 : Act} (s : Stem m w I σ h w1 I1 σ1 h1)
    (hp : PostM nt m w1 I1 σ1 h1 S2 a2 w2) : PostM nt m w I σ h S2 a2 w2 := by
  obtain ⟨I', σ', hn, hs, hF, hfr, hsz, hd⟩ := hp
  exact ⟨I', σ', hn, s.trans hs, hF, hfr, hsz, hd⟩
theorem normS_sim {X : Env} (hN : NormOk X) {fid key m : Nat} {S S' : St} {w : World} {I : Nat → Prop} {σ : Sig} {a : Act} (h : normS X fid key S = some S') (R : Rel w I σ S.h) (F : FRel w I σ S.f a) (fr : Fresh σ S.h S.n) (hm : m ≤ S.n) (hl : X.low fid = true → m ≤ Env.base X fid) :
    ∃ I' σ', m ≤ S'.n ∧ Stem m w I σ S.h w I' σ' S'.h ∧ FRel w I' σ' S'.f a ∧ Fresh σ' S'.h S'.n := by
  have hnews := normS_news hN h hl hm
  unfold normS at h
  cases hc : X.norm fid key with
  | none =>
    rw [hc] at h; simp only [Option.some.injEq] at h; subst h
    exact ⟨I, σ, hm, Stem.refl R m, F, fr⟩
  | some N =>
    rw [hc] at h
    obtain ⟨h1, h2, h3⟩ := hN fid key N hc
    obtain ⟨g1, g2, g3, g4⟩ := norm_sim h1 h R F fr
    have hrun := h
    have K := Norm.ok_iff h1
    refine ⟨_, _, hnews.1, ⟨fun _ _ => rfl, fun _ c _ fz hb => ⟨c, fz, hb, rfl⟩, fun b hb => .inl hb, g1, rfl, rfl, rfl, Nat.le_refl _, fun _ _ _ => rfl, fun b hb => .inr (g4 b hb), fun b hb => ?_, fun id hid => ?_, hnews.2⟩, g2, g3⟩
    · rcases hb with hb | ⟨i, ob, o, k, k1, k2⟩
      · exact .inl hb
      · exact .inr (.inr ⟨i, ob, o, k, (killL_sub k1).1, k2⟩)
    · have hm1 := hl h2
      unfold Env.base at hm1
      have hio : X.inout fid = true := by
        cases hio : X.inout fid with
        | true => rfl
        | false => rw [hio] at hm1; simp at hm1; omega
      rw [if_pos hio] at hm1
      have : id = 0 := by omega
      subst this
      have hrun : N.run S = some S' := hrun
      unfold Norm.run at hrun
      split at hrun
      case isFalse => cases hrun
      rename_i hcc
      simp only [Bool.and_eq_true] at hcc
      obtain ⟨r, k1, k2⟩ := first_root (h3 hio) hcc.2
      unfold Norm.sig
      rw [k1]
      simp only [k2]
def resAbs (X : Env) (S : St) : ResultVar → Option V
  | .tmp t => some (S.f t)
  | .cell a t => match S.f a with
    | .ptr id i f => match S.h id with
      | some ob => match ob.es[i]? with
        | some e => part (X.ti t) e.cells f
        | none => none
      | none => none
    | _ => none
def resSem (tmps : Array Value) : ResultVar → Sem Value
  | .tmp t => pure (tmps.getD t undef)
  | .cell a t => do loadVar t (← asAddr (tmps.getD a undef))
theorem resultsV_eq (rs : List ResultVar) (S : St) : resultsV X rs S = (match allSome (rs.map (resAbs X S)) with
  | some [v] => some v
  | some vs => some (.tup vs)
  | none => none) := rfl
theorem results_eq (fn : Func) (tmps : Array Value) : results fn tmps = (do
    let vs ← fn.results.mapM (resSem tmps)
    pure (if h : vs.size = 1 then vs[0] else .tuple vs)) := rfl
theorem results_run {w : World} {I : Nat → Prop} {σ : Sig} {S : St} {a : Act} (R : Rel w I σ S.h) (F : FRel w I σ S.f a) {fn : Func} (hB : fn.results.toList.all (resB X) = true) {v : V}
    (hv : resultsV X fn.results.toList S = some v) : ∃ u, (results fn a.tmps).run X.P w = .ok u w ∧ Rep w I σ v u := by
  have key : ∀ (rs : List ResultVar) (l : List V), rs.all (resB X) = true → allSome (rs.map (resAbs X S)) = some l → ∃ us : List Value, (rs.mapM (resSem a.tmps)).run X.P w = .ok us w ∧ RepL w I σ l us := by
    intro rs
    induction rs with
    | nil =>
      intro l _ hl
      simp only [List.map_nil, allSome, Option.some.injEq] at hl
      subst hl
      exact ⟨[], by simp, by simp [RepL]⟩
    | cons r rs ih =>
      intro l hb hl
      simp only [List.all_cons, Bool.and_eq_true] at hb
      simp only [List.map_cons] at hl
      cases r with
      | tmp t =>
        simp only [resAbs, allSome] at hl
        split at hl
        case h_2 => cases hl
        rename_i l' hl'
        simp only [Option.some.injEq] at hl
        subst hl
        obtain ⟨us, h1, h2⟩ := ih l' hb.2 hl'
        refine ⟨a.tmps.getD t undef :: us, ?_, ?_⟩
        · simp [List.mapM_cons, resSem, h1]
        · simp only [RepL]
          exact ⟨_, _, rfl, F t, h2⟩
      | cell x t =>
        have T : TIOk X.P t (X.ti t) := tB_ok hb.1
        cases hx : S.f x with
        | ptr id i f =>
          simp only [resAbs, hx] at hl
          cases hob : S.h id with
          | none => simp [hob, allSome] at hl
          | some ob =>
          simp only [hob] at hl
          cases hi : ob.es[i]? with
          | none => simp [hi, allSome] at hl
          | some e =>
          simp only [hi] at hl
          cases hp : part (X.ti t) e.cells f with
          | none => simp [hp, allSome] at hl
          | some v0 =>
          simp only [hp, allSome] at hl
          split at hl
          case h_2 => cases hl
          rename_i l' hl'
          simp only [Option.some.injEq] at hl
          subst hl
          obtain ⟨us, h1, h2⟩ := ih l' hb.2 hl'
          have hF := F x
          rw [hx] at hF
          simp only [Rep] at hF
          obtain ⟨b, of, k, hsg, hu⟩ := hF
          obtain ⟨b', o', c, el, hs', hI, hb', hsz, hrow⟩ := R.at hob hi
          rw [hsg] at hs'
          simp only [Option.some.injEq, Prod.mk.injEq] at hs'
          obtain ⟨rfl, rfl, rfl⟩ := hs'
          have hc := (hrow.get hi).2.ext (Ext.freeOf ob.keep) rfl
          obtain ⟨u, hld, hr⟩ := load_sim T (f := f) hc hp
          refine ⟨u :: us, ?_, ?_⟩
          · simp [List.mapM_cons, resSem, h1, hu, asAddr, hld]
          · simp only [RepL]
            exact ⟨_, _, rfl, hr, h2⟩
        | _ => simp [resAbs, hx, allSome] at hl
  rw [resultsV_eq] at hv
  split at hv
  · rename_i v0 hl
    simp only [Option.some.injEq] at hv
    subst hv
    obtain ⟨us, h1, h2⟩ := key _ _ hB hl
    simp only [RepL] at h2
    obtain ⟨u, r, rfl, h3, rfl⟩ := h2
    refine ⟨u, ?_, h3⟩
    rw [results_eq, Array.mapM_eq_mapM_toList]
    simp [h1]
  · rename_i vs hne hl
    simp only [Option.some.injEq] at hv
    subst hv
    obtain ⟨us, h1, h2⟩ := key _ _ hB hl
    refine ⟨.tuple us.toArray, ?_, ?_⟩
    · have hlen : us.length ≠ 1 := by
        intro hl1
        rw [RepL_iff] at h2
        match vs, h2 with
        | [v], _ => exact hne v rfl
        | [], h2 => simp at h2; omega
        | _ :: _ :: _, h2 => simp at h2; omega
      rw [results_eq, Array.mapM_eq_mapM_toList]
      simp [h1, hlen]
    · simp only [Rep]
      exact ⟨_, rfl, by simpa using h2⟩
  · cases hv
theorem callOk (hA : AllOk X drawB) {E : Ev} (hS : Sound X drawB E) : CallOk X (callWith X E) := by
  intro g args h k v h' k' hc w I σ us R fr hr
  unfold callWith at hc
  have hpg : X.prim g = none := by
    cases hpg : X.prim g with
    | none => rfl
    | some pr => simp [hpg] at hc
  simp only [hpg] at hc
  split at hc
  case h_2 => cases hc
  rename_i fn hf
  split at hc
  case h_2 => cases hc
  rename_i b hb
  have hB := hA g fn hf hpg
  unfold fnB at hB
  simp only [hb, Bool.and_eq_true] at hB
  have hF0 : FRel w I σ (enterF args) { tmps := us ++ Array.replicate (fn.ntmps - us.size) undef, defers := [] } := by
    intro t
    unfold enterF
    split
    · rename_i v0 hv
      rw [RepL_iff] at hr
      have ht : t < us.size := by
        have := (List.getElem?_eq_some_iff.1 hv).1
        rw [hr.1] at this; simpa using this
      have hu : us.toList[t]? = some us[t] := by simp [ht]
      have := hr.2 t _ _ hv hu
      have hg : (us ++ Array.replicate (fn.ntmps - us.size) undef).getD t undef = us[t] := by
        rw [Array.getD_eq_getD_getElem?, Array.getElem?_append_left ht]; simp [ht]
      simp only [hg]; exact this
    · simp [Rep]
  have fin : ∀ {S1 : St} {a' : Act} {w' : World}, retV X fn.results.toList (some (.normal, S1)) = some (v, h', k') → PostM fn.ntmps (lim X g k) w I σ h S1 a' w' →
      a'.defers = [] ∧ ∃ u, (results fn a'.tmps).run X.P w' = .ok u w' ∧ ∃ u' I' σ', Ending.returned u = .returned u' ∧ lim X g k ≤ k' ∧ Stem (lim X g k) w I σ h w' I' σ' h' ∧ Fresh σ' h' k' ∧ Rep w' I' σ' v u' := by
    intro S1 a' w' hr hp
    obtain ⟨I', σ', hkn, hs, hF, hfr, _, hd⟩ := hp
    simp only [retV] at hr
    split at hr
    case h_2 => cases hr
    rename_i v0 hv
    simp only [Option.some.injEq, Prod.mk.injEq] at hr
    obtain ⟨rfl, rfl, rfl⟩ := hr
    obtain ⟨u, h1, h2⟩ := results_run hs.rel hF hB.1.2 hv
    exact ⟨hd, u, h1, u, I', σ', rfl, hkn, hs, hfr, h2⟩
  cases he : E g b ⟨enterF args, h, k⟩ with
  | none => simp [he, retV] at hc
  | some x =>
    obtain ⟨e, S1⟩ := x
    rw [he] at hc
    refine calls_of_wp hf hb ?_
    refine (hS g fn.ntmps (lim X g k) b ⟨enterF args, h, k⟩ e S1 he hB.1.1 (lim_le X g k) (fun hl => by
      unfold lim Env.base; rw [if_pos hl]; exact Nat.min_le_left _ _) _ w I σ R hF0 fr (by simp; omega) rfl _ ?_).wp
    intro a' w' hp
    cases e with
    | normal => exact fin hc hp
    | ret => exact fin (by simpa [retV] using hc) hp
    | exit id => simp [retV] at hc
theorem goodF (hA : AllOk X drawB) (hKG : ∀ g, ((X.clone g).isSome || (X.prim g).isSome) = true → GoodF X g) {E : Ev} : ∀ fid dst g args S S1, evCall X (callWith X E) fid dst g args S = some S1 → GoodF X g := by
  have key : ∀ g args h k r, callWith X E g args h k = some r → GoodF X g := by
    intro g args h k r hc
    unfold callWith at hc
    have hpg : X.prim g = none := by
      cases hpg : X.prim g with
      | none => rfl
      | some pr => simp [hpg] at hc
    simp only [hpg] at hc
    split at hc
    case h_2 => cases hc
    rename_i fn hf
    split at hc
    case h_2 => cases hc
    rename_i b hb
    have hB := hA g fn hf hpg
    unfold fnB at hB
    simp only [hb, Bool.and_eq_true] at hB
    exact ⟨fn, b, hf, hb, by simpa using hB.2⟩
  intro fid dst g args S S1 he
  unfold evCall at he
  split at he
  · rename_i t hcl; exact hKG g (by simp [hcl])
  split at he
  · split at he
    · rename_i hc; exact key _ _ _ _ _ hc
    · cases he
  split at he
  · unfold evIo at he
    split at he
    case h_2 => cases he
    split at he
    case h_2 => cases he
    split at he
    case h_2 => cases he
    split at he
    case isFalse => cases he
    split at he
    case h_2 => cases he
    split at he
    case h_2 => cases he
    split at he
    case h_2 => cases he
    rename_i hc
    exact key _ _ _ _ _ hc
  split at he
  · unfold evMask at he
    split at he
    case h_2 => cases he
    split at he
    case h_2 => cases he
    rename_i hc
    exact key _ _ _ _ _ hc
  · skip
    · split at he
      · split at he
        · split at he
          · rename_i hc; exact key _ _ _ _ _ hc
          · cases he
        · split at he
          · rename_i hc
            unfold primC at hc
            split at hc
            · rename_i pr hp; exact hKG g (by simp [hp])
            · exact key _ _ _ _ _ hc
          · cases he
      · cases he
theorem sound (hA : AllOk X drawB) (hN : NormOk X) (hK : CloneOk X) (hKG : ∀ g, ((X.clone g).isSome || (X.prim g).isSome) = true → GoodF X g) (hD : DrawOk X drawB) (hV : ∀ n, CallOver X (callWith X (evC X n))) : ∀ n, Sound X drawB (evC X n)
  | 0 => fun fid nt m c S e S1 he => by simp [evC] at he
  | n + 1 => by
    have ih := sound hA hN hK hKG hD hV n
    have hC := callOk hA ih
    have hG := goodF (E := evC X n) hA hKG
    intro fid nt m c S e S1 he hB hm hl a w I σ R F fr hs hd Q hQ
    have base : ∀ {e'}, e' = e → S = S1 → Q e'.ex a w := by
      intro e' h1 h2
      subst h1; subst h2
      exact hQ a w ⟨I, σ, hm, Stem.refl R _, F, fr, hs, hd⟩
    rw [evC] at he
    cases c with
    | skip =>
      simp only [stepC, Option.some.injEq, Prod.mk.injEq] at he
      exact wp_skip (base he.1 he.2)
    | exit id =>
      simp only [stepC, Option.some.injEq, Prod.mk.injEq] at he
      exact wp_exit (base he.1 he.2)
    | ret =>
      simp only [stepC, Option.some.injEq, Prod.mk.injEq] at he
      exact wp_ret (base he.1 he.2)
    | region id ops d =>
      simp only [stepC] at he
      simp only [codeB, Bool.and_eq_true] at hB
      have hall : ∀ o ∈ ops.toList, opB X nt o = true := List.all_eq_true.1 hB.1
      split at he
      case h_2 => cases he
      rename_i S0 hno
      obtain ⟨I0, σ0, hm0, s0, F0, fr0⟩ := normS_sim hN hno R F fr hm hl
      split at he
      case h_2 => cases he
      rename_i S2 hev
      split at he
      case isFalse => cases he
      rename_i hst
      simp only [Option.some.injEq, Prod.mk.injEq] at he
      obtain ⟨rfl, rfl⟩ := he
      have hQ' : ∀ a' w', PostOf nt S0.n w I0 σ0 S0.h S2 a' w' → Q .normal a' w' := by
        rintro a' w' ⟨I', σ', hn, hst', hF, hfr, hs', hd'⟩
        exact hQ a' w' ⟨I', σ', by omega, s0.trans (hst'.stem hm0), hF, hfr, hs', hd'⟩
      cases d with
      | true => exact hD _ hC (callWith_news (evC_news hN n)) (hV n) hK hG fid id nt ops S0 S2 hall (by simpa using hB.2) hev hst a w I0 σ0 s0.rel F0 fr0 hs hd Q hQ'
      | false =>
        refine wp_region ?_
        have hfr : Fresh σ0 S0.h (S0.n + ops.size) := fun id hid => fr0 id (by omega)
        have := ops_run hC hK hG hall (Q := Q) ops.toList 0 { S0 with n := S0.n + ops.size } a w I0 σ0 (by simp) hev s0.rel F0 hfr hs hd (Nat.le_refl _) (fun q _ _ => fr0 _ (by omega))
          (fun a' w' I' σ' hle hst hF hfr' hs' hd' => hQ' a' w' ⟨I', σ', by simp only at hle; omega, hst, hF, hfr', hs', hd'⟩)
        rw [List.range_eq_range']
        simpa using this
    | seq x y =>
      simp only [stepC] at he
      simp only [codeB, Bool.and_eq_true] at hB
      cases hx : evC X n fid x S with
      | none => simp [hx] at he
      | some z =>
        obtain ⟨e2, S2⟩ := z
        rw [hx] at he
        refine wp_seq (ih fid nt m x S e2 S2 hx hB.1 hm hl a w I σ R F fr hs hd _ fun a' w' hp => ?_).wp
        cases e2 with
        | normal =>
          obtain ⟨I', σ', hn, hst, hF, hfr, hs', hd'⟩ := hp
          exact (ih fid nt m y S2 e S1 he hB.2 hn hl a' w' I' σ' hst.rel hF hfr hs' hd' Q fun a2 w2 hp2 => hQ a2 w2 (hp2.trans hst)).wp
        | exit id =>
          simp only [Option.some.injEq, Prod.mk.injEq] at he
          obtain ⟨rfl, rfl⟩ := he
          exact hQ a' w' hp
        | ret =>
          simp only [Option.some.injEq, Prod.mk.injEq] at he
          obtain ⟨rfl, rfl⟩ := he
          exact hQ a' w' hp
    | cond x p q =>
      simp only [stepC] at he
      simp only [codeB, Bool.and_eq_true] at hB
      split at he
      case h_2 => cases he
      rename_i t ht
      have hxr : Rep w I σ (S.ev x) (a.eval x) := ev_rep F hB.1.1
      rw [ht] at hxr
      have hxe := rep_bool hxr
      refine wp_cond hxe ?_
      cases t with
      | true => exact (ih fid nt m p S e S1 (by simpa using he) hB.1.2 hm hl a w I σ R F fr hs hd Q hQ).wp
      | false => exact (ih fid nt m q S e S1 (by simpa using he) hB.2 hm hl a w I σ R F fr hs hd Q hQ).wp
    | block id b =>
      simp only [stepC] at he
      simp only [codeB] at hB
      cases hb : evC X n fid b S with
      | none => simp [hb] at he
      | some z =>
        obtain ⟨e2, S2⟩ := z
        rw [hb] at he
        refine wp_block (ih fid nt m b S e2 S2 hb hB hm hl a w I σ R F fr hs hd _ fun a' w' hp => ?_).wp
        cases e2 with
        | normal =>
          simp only [Option.some.injEq, Prod.mk.injEq] at he
          obtain ⟨rfl, rfl⟩ := he
          exact hQ a' w' hp
        | ret =>
          simp only [Option.some.injEq, Prod.mk.injEq] at he
          obtain ⟨rfl, rfl⟩ := he
          exact hQ a' w' hp
        | exit i =>
          simp only at he
          simp only [Ex.ex, Exit.inBlock]
          split at he
          · rename_i hi
            simp only [Option.some.injEq, Prod.mk.injEq] at he
            obtain ⟨rfl, rfl⟩ := he
            simp only [hi, if_true]
            exact hQ a' w' hp
          · rename_i hi
            simp only [Option.some.injEq, Prod.mk.injEq] at he
            obtain ⟨rfl, rfl⟩ := he
            simp only [hi, if_false]
            exact hQ a' w' hp
    | loop b =>
      simp only [stepC] at he
      have hBb : codeB X drawB nt fid b = true := by simpa only [codeB] using hB
      split at he
      case h_2 => cases he
      rename_i S0 hno
      obtain ⟨I0, σ0, hm0, s0, F0, fr0⟩ := normS_sim hN hno R F fr hm hl
      cases hb : evC X n fid b S0 with
      | none => simp [hb] at he
      | some z =>
        obtain ⟨e2, S2⟩ := z
        rw [hb] at he
        show loopwp X.P b Q a w
        refine loopwp.round (ih fid nt m b S0 e2 S2 hb hBb hm0 hl a w I0 σ0 s0.rel F0 fr0 hs hd _ fun a' w' hp => ?_).wp
        cases e2 with
        | normal =>
          obtain ⟨I', σ', hn, hst, hF, hfr, hs', hd'⟩ := hp
          exact ih fid nt m (.loop b) S2 e S1 he hB hn hl a' w' I' σ' hst.rel hF hfr hs' hd' Q fun a2 w2 hp2 => hQ a2 w2 (hp2.trans (s0.trans hst))
        | exit id =>
          simp only [Option.some.injEq, Prod.mk.injEq] at he
          obtain ⟨rfl, rfl⟩ := he
          exact hQ a' w' (hp.trans s0)
        | ret =>
          simp only [Option.some.injEq, Prod.mk.injEq] at he
          obtain ⟨rfl, rfl⟩ := he
          exact hQ a' w' (hp.trans s0)
    | _ => simp [stepC] at he
theorem callL_ok (hA : AllOk X drawB) (hN : NormOk X) (hK : CloneOk X) (hKG : ∀ g, ((X.clone g).isSome || (X.prim g).isSome) = true → GoodF X g) (hD : DrawOk X drawB) (hV : ∀ n, CallOver X (callWith X (evC X n))) : CallOk X (callL X) := by
  intro g args h k v h' k' hc
  obtain ⟨n, hn⟩ := callWith_cont hc
  exact callOk hA (sound hA hN hK hKG hD hV n) g args h k v h' k' hn
end
end Go.Abs
