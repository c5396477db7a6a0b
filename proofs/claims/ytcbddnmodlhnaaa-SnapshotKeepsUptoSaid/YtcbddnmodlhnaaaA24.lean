/- The evaluator tells the truth of the model's runs. -/
import Derived.Test.YtcbddnmodlhnaaaB3
set_option linter.unusedVariables false
set_option linter.unusedSimpArgs false
namespace Go.Abs
open Go

/-- a loop that has been entered -/
def loopwp (P : Program) (c : Code) (Q : Exit → Act → World → Prop) (a : Act) (w : World) : Prop :=
  ∀ (b : Frame) (k : List Item) (cs : List Frame), ∃ e a' w', Q e a' w' ∧ Arrives P (lone (b.at a (.code c :: .inLoop c :: k)) cs w) b k cs e a' w'

theorem loopwp.wp {P : Program} {c : Code} {Q : Exit → Act → World → Prop} {a : Act} {w : World} (h : loopwp P c Q a w) : (Code.loop c).wp P Q a w := by
  intro b k cs
  obtain ⟨e, a', w', hq, harr⟩ := h b k cs
  exact ⟨e, a', w', hq, .of_steps (.one step_loop) harr⟩

theorem loopwp.round {P : Program} {c : Code} {Q : Exit → Act → World → Prop} {a : Act} {w : World} (h : c.wp P (Exit.then (loopwp P c Q) Q) a w) : loopwp P c Q a w := by
  intro b k cs
  obtain ⟨e, a₁, w₁, hq, harr⟩ := h b (.inLoop c :: k) cs
  cases e with
  | normal =>
    obtain ⟨e₂, a₂, w₂, hq₂, harr₂⟩ := hq b k cs
    exact ⟨e₂, a₂, w₂, hq₂, .of_steps (Steps.trans harr (.one step_inLoop)) harr₂⟩
  | exit id => exact ⟨_, a₁, w₁, hq, .pass (x := .inLoop c) rfl (fun _ _ => .inl (by simp)) harr⟩
  | goto l => exact ⟨_, a₁, w₁, hq, .pass (x := .inLoop c) rfl (fun _ _ => .inl (by simp)) harr⟩
  | ret => exact ⟨_, a₁, w₁, hq, .pass (x := .inLoop c) rfl (fun _ _ => .inl (by simp)) harr⟩
  | panic ch => exact ⟨_, a₁, w₁, hq, .pass (x := .inLoop c) rfl (fun _ _ => .inl (by simp)) harr⟩
  | outgrown => exact ⟨_, a₁, w₁, hq, .pass (x := .inLoop c) rfl (fun _ _ => .inl (by simp)) harr⟩

/-- the run of a piece of code, as it is reckoned with -/
def Runs (P : Program) : Code → (Exit → Act → World → Prop) → Act → World → Prop
  | .loop b => loopwp P b
  | c => c.wp P

theorem Runs.wp {P : Program} {c : Code} {Q : Exit → Act → World → Prop} {a : Act} {w : World} (h : Runs P c Q a w) : c.wp P Q a w := by
  unfold Runs at h
  split at h
  · exact h.wp
  · exact h

def Ex.ex : Ex → Exit
  | .normal => .normal
  | .exit id => .exit id
  | .ret => .ret

/-- what holds when a piece of code is left -/
def PostOf (nt n0 : Nat) (w : World) (I : Nat → Prop) (σ : Sig) (h : Heap) (S1 : St) (a' : Act) (w' : World) : Prop :=
  ∃ I' σ', n0 ≤ S1.n ∧ Step w I σ h n0 w' I' σ' S1.h S1.n ∧ FRel w' I' σ' S1.f a' ∧ Fresh σ' S1.h S1.n ∧ nt ≤ a'.tmps.size ∧ a'.defers = []

/-- regions whose operations stand in any order -/
def DrawOk (X : Env) (drawB : FuncId → Nat → Array Oper → Bool) : Prop :=
  ∀ (C : CallT), CallOk X C → CallNews C → CloneOk X → (∀ fid dst g args S S1, evCall X C fid dst g args S = some S1 → GoodF X g) →
  ∀ (fid : FuncId) (id nt : Nat) (ops : Array Oper) (S S1 : St), (∀ o ∈ ops.toList, opB X nt o = true) → drawB fid id ops = true →
    evOps X C fid (ops.toList.map (·.dst)) S.n 0 ops.toList { S with n := S.n + ops.size } = some S1 → Stable X C fid ops.toList S.n { S with n := S.n + ops.size } S1 (X.exc fid id) →
    ∀ (a : Act) (w : World) (I : Nat → Prop) (σ : Sig), Rel w I σ S.h → FRel w I σ S.f a → Fresh σ S.h S.n → nt ≤ a.tmps.size → a.defers = [] →
    ∀ (Q : Exit → Act → World → Prop), (∀ a' w', PostOf nt S.n w I σ S.h S1 a' w' → Q .normal a' w') → (Code.region id ops true).wp X.P Q a w

def codeB (X : Env) (drawB : FuncId → Nat → Array Oper → Bool) (nt : Nat) (fid : FuncId) : Code → Bool
  | .region id ops d => ops.toList.all (opB X nt) && (!d || drawB fid id ops)
  | .seq a b => codeB X drawB nt fid a && codeB X drawB nt fid b
  | .cond x a b => opdB x && codeB X drawB nt fid a && codeB X drawB nt fid b
  | .block _ b => codeB X drawB nt fid b
  | .loop b => codeB X drawB nt fid b
  | _ => true

def resB (X : Env) : ResultVar → Bool
  | .tmp _ => true
  | .cell _ t => tB X t

/-- the check of a function -/
def fnB (X : Env) (drawB : FuncId → Nat → Array Oper → Bool) (g : FuncId) (fn : Func) : Bool :=
  match fn.body with
  | some b => codeB X drawB fn.ntmps g b && fn.results.toList.all (resB X) && !(fn.name == "runtime.NumGoroutine")
  | none => true

def AllOk (X : Env) (drawB : FuncId → Nat → Array Oper → Bool) : Prop := ∀ g fn, X.P.funcs[g]? = some fn → fnB X drawB g fn = true

section
variable {X : Env} {drawB : FuncId → Nat → Array Oper → Bool}

/-- what is to be shown of the evaluator at a depth -/
def Sound (X : Env) (drawB : FuncId → Nat → Array Oper → Bool) (E : Ev) : Prop :=
  ∀ (fid : FuncId) (nt : Nat) (c : Code) (S : St) (e : Ex) (S1 : St), E fid c S = some (e, S1) → codeB X drawB nt fid c = true →
    ∀ (a : Act) (w : World) (I : Nat → Prop) (σ : Sig), Rel w I σ S.h → FRel w I σ S.f a → Fresh σ S.h S.n → nt ≤ a.tmps.size → a.defers = [] →
    ∀ (Q : Exit → Act → World → Prop), (∀ a' w', PostOf nt S.n w I σ S.h S1 a' w' → Q e.ex a' w') → Runs X.P c Q a w

theorem PostOf.trans {nt n0 n1 : Nat} {w w1 w2 : World} {I I1 : Nat → Prop} {σ σ1 : Sig} {h h1 : Heap} {S2 : St} {a2 : Act} (s : Step w I σ h n0 w1 I1 σ1 h1 n1)
    (hp : PostOf nt n1 w1 I1 σ1 h1 S2 a2 w2) : PostOf nt n0 w I σ h S2 a2 w2 := by
  obtain ⟨I', σ', hn, hs, hF, hfr, hsz, hd⟩ := hp
  have := s.le
  exact ⟨I', σ', by omega, s.trans hs, hF, hfr, hsz, hd⟩

def resAbs (X : Env) (S : St) : ResultVar → Option V
  | .tmp t => some (S.f t)
  | .cell a t => match S.f a with
    | .ptr id i f => match S.h id with
      | some ob => match ob.es[i]? with
        | some e => part (X.ti t) e.cells f
        | none => none
      | none => none
    | _ => none

def resSem (tmps : Array Value) : ResultVar → Sem Value
  | .tmp t => pure (tmps.getD t undef)
  | .cell a t => do loadVar t (← asAddr (tmps.getD a undef))

theorem resultsV_eq (rs : List ResultVar) (S : St) : resultsV X rs S = (match allSome (rs.map (resAbs X S)) with
  | some [v] => some v
  | some vs => some (.tup vs)
  | none => none) := rfl

theorem results_eq (fn : Func) (tmps : Array Value) : results fn tmps = (do
    let vs ← fn.results.mapM (resSem tmps)
    pure (if h : vs.size = 1 then vs[0] else .tuple vs)) := rfl

theorem results_run {w : World} {I : Nat → Prop} {σ : Sig} {S : St} {a : Act} (R : Rel w I σ S.h) (F : FRel w I σ S.f a) {fn : Func} (hB : fn.results.toList.all (resB X) = true) {v : V}
    (hv : resultsV X fn.results.toList S = some v) : ∃ u, (results fn a.tmps).run X.P w = .ok u w ∧ Rep w I σ v u := by
  have key : ∀ (rs : List ResultVar) (l : List V), rs.all (resB X) = true → allSome (rs.map (resAbs X S)) = some l → ∃ us : List Value, (rs.mapM (resSem a.tmps)).run X.P w = .ok us w ∧ RepL w I σ l us := by
    intro rs
    induction rs with
    | nil =>
      intro l _ hl
      simp only [List.map_nil, allSome, Option.some.injEq] at hl
      subst hl
      exact ⟨[], by simp, by simp [RepL]⟩
    | cons r rs ih =>
      intro l hb hl
      simp only [List.all_cons, Bool.and_eq_true] at hb
      simp only [List.map_cons] at hl
      cases r with
      | tmp t =>
        simp only [resAbs, allSome] at hl
        split at hl
        case h_2 => cases hl
        rename_i l' hl'
        simp only [Option.some.injEq] at hl
        subst hl
        obtain ⟨us, h1, h2⟩ := ih l' hb.2 hl'
        refine ⟨a.tmps.getD t undef :: us, ?_, ?_⟩
        · simp [List.mapM_cons, resSem, h1]
        · simp only [RepL]
          exact ⟨_, _, rfl, F t, h2⟩
      | cell x t =>
        have T : TIOk X.P t (X.ti t) := tB_ok hb.1
        cases hx : S.f x with
        | ptr id i f =>
          simp only [resAbs, hx] at hl
          cases hob : S.h id with
          | none => simp [hob, allSome] at hl
          | some ob =>
          simp only [hob] at hl
          cases hi : ob.es[i]? with
          | none => simp [hi, allSome] at hl
          | some e =>
          simp only [hi] at hl
          cases hp : part (X.ti t) e.cells f with
          | none => simp [hp, allSome] at hl
          | some v0 =>
          simp only [hp, allSome] at hl
          split at hl
          case h_2 => cases hl
          rename_i l' hl'
          simp only [Option.some.injEq] at hl
          subst hl
          obtain ⟨us, h1, h2⟩ := ih l' hb.2 hl'
          have hF := F x
          rw [hx] at hF
          simp only [Rep] at hF
          obtain ⟨b, of, k, hsg, hu⟩ := hF
          obtain ⟨b', o', c, el, hs', hI, hb', hsz, hrow⟩ := R.at hob hi
          rw [hsg] at hs'
          simp only [Option.some.injEq, Prod.mk.injEq] at hs'
          obtain ⟨rfl, rfl, rfl⟩ := hs'
          have hc := (hrow.get hi).2.ext (Ext.freeOf ob.keep) rfl
          obtain ⟨u, hld, hr⟩ := load_sim T (f := f) hc hp
          refine ⟨u :: us, ?_, ?_⟩
          · simp [List.mapM_cons, resSem, h1, hu, asAddr, hld]
          · simp only [RepL]
            exact ⟨_, _, rfl, hr, h2⟩
        | _ => simp [resAbs, hx, allSome] at hl
  rw [resultsV_eq] at hv
  split at hv
  · rename_i v0 hl
    simp only [Option.some.injEq] at hv
    subst hv
    obtain ⟨us, h1, h2⟩ := key _ _ hB hl
    simp only [RepL] at h2
    obtain ⟨u, r, rfl, h3, rfl⟩ := h2
    refine ⟨u, ?_, h3⟩
    rw [results_eq, Array.mapM_eq_mapM_toList]
    simp [h1]
  · rename_i vs hne hl
    simp only [Option.some.injEq] at hv
    subst hv
    obtain ⟨us, h1, h2⟩ := key _ _ hB hl
    refine ⟨.tuple us.toArray, ?_, ?_⟩
    · have hlen : us.length ≠ 1 := by
        intro hl1
        rw [RepL_iff] at h2
        match vs, h2 with
        | [v], _ => exact hne v rfl
        | [], h2 => simp at h2; omega
        | _ :: _ :: _, h2 => simp at h2; omega
      rw [results_eq, Array.mapM_eq_mapM_toList]
      simp [h1, hlen]
    · simp only [Rep]
      exact ⟨_, rfl, by simpa using h2⟩
  · cases hv

theorem callOk (hA : AllOk X drawB) {E : Ev} (hS : Sound X drawB E) : CallOk X (callWith X E) := by
  intro g args h k v h' k' hc w I σ us R fr hr
  unfold callWith at hc
  split at hc
  case h_2 => cases hc
  rename_i fn hf
  split at hc
  case h_2 => cases hc
  rename_i b hb
  have hB := hA g fn hf
  unfold fnB at hB
  simp only [hb, Bool.and_eq_true] at hB
  have hF0 : FRel w I σ (enterF args) { tmps := us ++ Array.replicate (fn.ntmps - us.size) undef, defers := [] } := by
    intro t
    unfold enterF
    split
    · rename_i v0 hv
      rw [RepL_iff] at hr
      have ht : t < us.size := by
        have := (List.getElem?_eq_some_iff.1 hv).1
        rw [hr.1] at this; simpa using this
      have hu : us.toList[t]? = some us[t] := by simp [ht]
      have := hr.2 t _ _ hv hu
      have hg : (us ++ Array.replicate (fn.ntmps - us.size) undef).getD t undef = us[t] := by
        rw [Array.getD_eq_getD_getElem?, Array.getElem?_append_left ht]; simp [ht]
      simp only [hg]; exact this
    · simp [Rep]
  have fin : ∀ {S1 : St} {a' : Act} {w' : World}, retV X fn.results.toList (some (.normal, S1)) = some (v, h', k') → PostOf fn.ntmps k w I σ h S1 a' w' →
      a'.defers = [] ∧ ∃ u, (results fn a'.tmps).run X.P w' = .ok u w' ∧ ∃ u' I' σ', Ending.returned u = .returned u' ∧ Step w I σ h k w' I' σ' h' k' ∧ Rep w' I' σ' v u' := by
    intro S1 a' w' hr hp
    obtain ⟨I', σ', _, hs, hF, hfr, _, hd⟩ := hp
    simp only [retV] at hr
    split at hr
    case h_2 => cases hr
    rename_i v0 hv
    simp only [Option.some.injEq, Prod.mk.injEq] at hr
    obtain ⟨rfl, rfl, rfl⟩ := hr
    obtain ⟨u, h1, h2⟩ := results_run hs.rel hF hB.1.2 hv
    exact ⟨hd, u, h1, u, I', σ', rfl, hs, h2⟩
  cases he : E g b ⟨enterF args, h, k⟩ with
  | none => simp [he, retV] at hc
  | some x =>
    obtain ⟨e, S1⟩ := x
    rw [he] at hc
    refine calls_of_wp hf hb ?_
    refine (hS g fn.ntmps b ⟨enterF args, h, k⟩ e S1 he hB.1.1 _ w I σ R hF0 fr (by simp; omega) rfl _ ?_).wp
    intro a' w' hp
    cases e with
    | normal => exact fin hc hp
    | ret => exact fin (by simpa [retV] using hc) hp
    | exit id => simp [retV] at hc

theorem goodF (hA : AllOk X drawB) (hKG : ∀ g t, X.clone g = some t → GoodF X g) {E : Ev} : ∀ fid dst g args S S1, evCall X (callWith X E) fid dst g args S = some S1 → GoodF X g := by
  have key : ∀ g args h k r, callWith X E g args h k = some r → GoodF X g := by
    intro g args h k r hc
    unfold callWith at hc
    split at hc
    case h_2 => cases hc
    rename_i fn hf
    split at hc
    case h_2 => cases hc
    rename_i b hb
    have hB := hA g fn hf
    unfold fnB at hB
    simp only [hb, Bool.and_eq_true] at hB
    exact ⟨fn, b, hf, hb, by simpa using hB.2⟩
  intro fid dst g args S S1 he
  unfold evCall at he
  split at he
  · rename_i t hcl; exact hKG g t hcl
  · split at he
    · split at he
      · rename_i hc; exact key _ _ _ _ _ hc
      · cases he
    · split at he
      · split at he
        · split at he
          · cases he
          · split at he
            · rename_i hc; exact key _ _ _ _ _ hc
            · cases he
        · split at he
          · rename_i hc; exact key _ _ _ _ _ hc
          · cases he
      · cases he

theorem sound (hA : AllOk X drawB) (hK : CloneOk X) (hKG : ∀ g t, X.clone g = some t → GoodF X g) (hD : DrawOk X drawB) : ∀ n, Sound X drawB (evC X n)
  | 0 => fun fid nt c S e S1 he => by simp [evC] at he
  | n + 1 => by
    have ih := sound hA hK hKG hD n
    have hC := callOk hA ih
    have hG := goodF (E := evC X n) hA hKG
    intro fid nt c S e S1 he hB a w I σ R F fr hs hd Q hQ
    have base : ∀ {e'}, e' = e → S = S1 → Q e'.ex a w := by
      intro e' h1 h2
      subst h1; subst h2
      exact hQ a w ⟨I, σ, Nat.le_refl _, Step.refl R _, F, fr, hs, hd⟩
    rw [evC] at he
    cases c with
    | skip =>
      simp only [stepC, Option.some.injEq, Prod.mk.injEq] at he
      exact wp_skip (base he.1 he.2)
    | exit id =>
      simp only [stepC, Option.some.injEq, Prod.mk.injEq] at he
      exact wp_exit (base he.1 he.2)
    | ret =>
      simp only [stepC, Option.some.injEq, Prod.mk.injEq] at he
      exact wp_ret (base he.1 he.2)
    | region id ops d =>
      simp only [stepC] at he
      simp only [codeB, Bool.and_eq_true] at hB
      have hall : ∀ o ∈ ops.toList, opB X nt o = true := List.all_eq_true.1 hB.1
      split at he
      case h_2 => cases he
      rename_i S2 hev
      split at he
      case isFalse => cases he
      rename_i hst
      simp only [Option.some.injEq, Prod.mk.injEq] at he
      obtain ⟨rfl, rfl⟩ := he
      cases d with
      | true => exact hD _ hC (callWith_news (evC_news n)) hK hG fid id nt ops S S2 hall (by simpa using hB.2) hev hst a w I σ R F fr hs hd Q hQ
      | false =>
        refine wp_region ?_
        have hfr : Fresh σ S.h (S.n + ops.size) := fun id hid => fr id (by omega)
        have := ops_run hC hK hG hall (Q := Q) ops.toList 0 { S with n := S.n + ops.size } a w I σ (by simp) hev R F hfr hs hd (Nat.le_refl _) (fun q _ _ => fr _ (by omega))
          (fun a' w' I' σ' hle hst hF hfr' hs' hd' => hQ a' w' ⟨I', σ', by simp only at hle; omega, hst, hF, hfr', hs', hd'⟩)
        rw [List.range_eq_range']
        simpa using this
    | seq x y =>
      simp only [stepC] at he
      simp only [codeB, Bool.and_eq_true] at hB
      cases hx : evC X n fid x S with
      | none => simp [hx] at he
      | some z =>
        obtain ⟨e2, S2⟩ := z
        rw [hx] at he
        refine wp_seq (ih fid nt x S e2 S2 hx hB.1 a w I σ R F fr hs hd _ fun a' w' hp => ?_).wp
        cases e2 with
        | normal =>
          obtain ⟨I', σ', hn, hst, hF, hfr, hs', hd'⟩ := hp
          exact (ih fid nt y S2 e S1 he hB.2 a' w' I' σ' hst.rel hF hfr hs' hd' Q fun a2 w2 hp2 => hQ a2 w2 (hp2.trans hst)).wp
        | exit id =>
          simp only [Option.some.injEq, Prod.mk.injEq] at he
          obtain ⟨rfl, rfl⟩ := he
          exact hQ a' w' hp
        | ret =>
          simp only [Option.some.injEq, Prod.mk.injEq] at he
          obtain ⟨rfl, rfl⟩ := he
          exact hQ a' w' hp
    | cond x p q =>
      simp only [stepC] at he
      simp only [codeB, Bool.and_eq_true] at hB
      split at he
      case h_2 => cases he
      rename_i t ht
      have hxr : Rep w I σ (S.ev x) (a.eval x) := ev_rep F hB.1.1
      rw [ht] at hxr
      have hxe := rep_bool hxr
      refine wp_cond hxe ?_
      cases t with
      | true => exact (ih fid nt p S e S1 (by simpa using he) hB.1.2 a w I σ R F fr hs hd Q hQ).wp
      | false => exact (ih fid nt q S e S1 (by simpa using he) hB.2 a w I σ R F fr hs hd Q hQ).wp
    | block id b =>
      simp only [stepC] at he
      simp only [codeB] at hB
      cases hb : evC X n fid b S with
      | none => simp [hb] at he
      | some z =>
        obtain ⟨e2, S2⟩ := z
        rw [hb] at he
        refine wp_block (ih fid nt b S e2 S2 hb hB a w I σ R F fr hs hd _ fun a' w' hp => ?_).wp
        cases e2 with
        | normal =>
          simp only [Option.some.injEq, Prod.mk.injEq] at he
          obtain ⟨rfl, rfl⟩ := he
          exact hQ a' w' hp
        | ret =>
          simp only [Option.some.injEq, Prod.mk.injEq] at he
          obtain ⟨rfl, rfl⟩ := he
          exact hQ a' w' hp
        | exit i =>
          simp only at he
          simp only [Ex.ex, Exit.inBlock]
          split at he
          · rename_i hi
            simp only [Option.some.injEq, Prod.mk.injEq] at he
            obtain ⟨rfl, rfl⟩ := he
            simp only [hi, if_true]
            exact hQ a' w' hp
          · rename_i hi
            simp only [Option.some.injEq, Prod.mk.injEq] at he
            obtain ⟨rfl, rfl⟩ := he
            simp only [hi, if_false]
            exact hQ a' w' hp
    | loop b =>
      simp only [stepC] at he
      have hBb : codeB X drawB nt fid b = true := by simpa only [codeB] using hB
      cases hb : evC X n fid b S with
      | none => simp [hb] at he
      | some z =>
        obtain ⟨e2, S2⟩ := z
        rw [hb] at he
        show loopwp X.P b Q a w
        refine loopwp.round (ih fid nt b S e2 S2 hb hBb a w I σ R F fr hs hd _ fun a' w' hp => ?_).wp
        cases e2 with
        | normal =>
          obtain ⟨I', σ', hn, hst, hF, hfr, hs', hd'⟩ := hp
          exact ih fid nt (.loop b) S2 e S1 he hB a' w' I' σ' hst.rel hF hfr hs' hd' Q fun a2 w2 hp2 => hQ a2 w2 (hp2.trans hst)
        | exit id =>
          simp only [Option.some.injEq, Prod.mk.injEq] at he
          obtain ⟨rfl, rfl⟩ := he
          exact hQ a' w' hp
        | ret =>
          simp only [Option.some.injEq, Prod.mk.injEq] at he
          obtain ⟨rfl, rfl⟩ := he
          exact hQ a' w' hp
    | _ => simp [stepC] at he

/-- what the interpreter tells of a call, in the limit -/
theorem callL_ok (hA : AllOk X drawB) (hK : CloneOk X) (hKG : ∀ g t, X.clone g = some t → GoodF X g) (hD : DrawOk X drawB) : CallOk X (callL X) := by
  intro g args h k v h' k' hc
  obtain ⟨n, hn⟩ := callWith_cont hc
  exact callOk hA (sound hA hK hKG hD n) g args h k v h' k' hn
end
end Go.Abs
