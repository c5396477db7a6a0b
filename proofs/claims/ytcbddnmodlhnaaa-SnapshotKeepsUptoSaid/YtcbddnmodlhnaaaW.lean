/- What holds when a piece of code is left: the rules by which simp carries the evaluator out. -/
import Derived.Test.YtcbddnmodlhnaaaA3
set_option linter.unusedVariables false
set_option linter.unusedSimpArgs false
namespace Go.Abs
open Go

/-- what is to be simplified before anything else -/
def mark {α : Type} (x : α) : α := x
theorem mark_eq {α : Type} (x : α) : mark x = x := rfl

/-- the code runs to an end of which Q holds -/
def Wp (X : Env) (f : FuncId) (c : Code) (S : St) (Q : Ex → St → Prop) : Prop := ∃ e S1, ev X f c S = some (e, S1) ∧ Q e S1

def seqQ (X : Env) (f : FuncId) (b : Code) (Q : Ex → St → Prop) : Ex → St → Prop
  | .normal, S => Wp X f b S Q
  | e, S => Q e S
def blkQ (id : Nat) (Q : Ex → St → Prop) : Ex → St → Prop
  | .exit i, S => if i = id then Q .normal S else Q (.exit i) S
  | e, S => Q e S
def loopQ (Inv : Nat → St → Prop) (i N : Nat) (Q : Ex → St → Prop) : Ex → St → Prop
  | .normal, S => i < N ∧ Inv (i + 1) S
  | e, S => Q e S
/-- what holds of a state, if there is one -/
def bindP (r : Option St) (K : St → Prop) : Prop :=
  match r with
  | some S => K S
  | none => False

section
variable {X : Env} {f : FuncId} {S : St} {Q : Ex → St → Prop}
theorem seqQ_normal (b : Code) : seqQ X f b Q .normal S = Wp X f b S Q := rfl
theorem seqQ_exit (b : Code) (i : Nat) : seqQ X f b Q (.exit i) S = Q (.exit i) S := rfl
theorem seqQ_ret (b : Code) : seqQ X f b Q .ret S = Q .ret S := rfl
theorem blkQ_normal (id : Nat) : blkQ id Q .normal S = Q .normal S := rfl
theorem blkQ_exit (id i : Nat) : blkQ id Q (.exit i) S = (if i = id then Q .normal S else Q (.exit i) S) := rfl
theorem blkQ_ret (id : Nat) : blkQ id Q .ret S = Q .ret S := rfl
theorem loopQ_normal (Inv : Nat → St → Prop) (i N : Nat) : loopQ Inv i N Q .normal S = (i < N ∧ Inv (i + 1) S) := rfl
theorem loopQ_exit (Inv : Nat → St → Prop) (i N k : Nat) : loopQ Inv i N Q (.exit k) S = Q (.exit k) S := rfl
theorem loopQ_ret (Inv : Nat → St → Prop) (i N : Nat) : loopQ Inv i N Q .ret S = Q .ret S := rfl
theorem bindP_some (K : St → Prop) : bindP (some S) K = K S := rfl
theorem bindP_none (K : St → Prop) : bindP none K = False := rfl
theorem bindP_ite (c : Prop) [Decidable c] (a b : Option St) (K : St → Prop) : bindP (if c then a else b) K = if c then bindP (mark a) K else bindP (mark b) K := by split <;> rfl

theorem bindP_need (c : Prop) [Decidable c] (a : Option St) (K : St → Prop) : bindP (if c then a else none) K = (c ∧ (c → bindP (mark a) K)) := by
  by_cases h : c <;> simp [h, bindP, mark]
theorem bindP_needn (c : Prop) [Decidable c] (a : Option St) (K : St → Prop) : bindP (if c then none else a) K = (¬ c ∧ (¬ c → bindP (mark a) K)) := by
  by_cases h : c <;> simp [h, bindP, mark]

/-- the operations of a region, one after the other, to a state of which K holds -/
def OpsP (X : Env) (fid : FuncId) (dsts : List (Option Nat)) (n0 k : Nat) (ops : List Oper) (S : St) (K : St → Prop) : Prop := bindP (evOps X (callL X) fid dsts n0 k ops S) K
/-- what a guard says -/
def gcase (v : V) (want : Bool) (ff : Nat → V) (_dj : Nat) (p q : (Nat → V) → Prop) : Prop :=
  match v with
  | .bool b => if b = want then p ff else q ff
  | .tup [] => q ff
  | _ => False
theorem gcase_yes (ff : Nat → V) (dj : Nat) (p q : (Nat → V) → Prop) : gcase (.bool true) true ff dj p q = p ff := by simp [gcase]
theorem gcase_no (ff : Nat → V) (dj : Nat) (p q : (Nat → V) → Prop) : gcase (.bool false) true ff dj p q = q ff := by simp [gcase]
theorem gcase_yes' (ff : Nat → V) (dj : Nat) (p q : (Nat → V) → Prop) : gcase (.bool false) false ff dj p q = p ff := by simp [gcase]
theorem gcase_no' (ff : Nat → V) (dj : Nat) (p q : (Nat → V) → Prop) : gcase (.bool true) false ff dj p q = q ff := by simp [gcase]
theorem gcase_skip (w : Bool) (ff : Nat → V) (dj : Nat) (p q : (Nat → V) → Prop) : gcase (.tup []) w ff dj p q = q ff := rfl
theorem upd_self {ff : Nat → V} {dj : Nat} {v : V} (h : ff dj = v) : upd ff dj v = ff := by
  funext u; unfold upd; split
  · rename_i e; rw [e, h]
  · rfl
theorem gcase_bool {b : Bool} {ff : Nat → V} {dj : Nat} {p q : (Nat → V) → Prop} (h : ff dj = .bool b) : gcase (.bool b) true ff dj p q = ((b = true → p (upd ff dj (.bool true))) ∧ (b = false → q (upd ff dj (.bool false)))) := by
  cases b <;> rw [upd_self h] <;> simp [gcase]
theorem gcase_bool' {b : Bool} {ff : Nat → V} {dj : Nat} {p q : (Nat → V) → Prop} (h : ff dj = .bool b) : gcase (.bool b) false ff dj p q = ((b = false → p (upd ff dj (.bool false))) ∧ (b = true → q (upd ff dj (.bool true)))) := by
  cases b <;> rw [upd_self h] <;> simp [gcase]
theorem OpsP_nil (dsts : List (Option Nat)) (n0 k : Nat) (K : St → Prop) : OpsP X f dsts n0 k [] S K = K S := rfl
theorem OpsP_cons (dsts : List (Option Nat)) (n0 k : Nat) (o : Oper) (r : List Oper) (K : St → Prop) : OpsP X f dsts n0 k (o :: r) S K =
    match o.guard with
    | none => bindP (stepOp X (callL X) f n0 k o S) fun S1 => OpsP X f dsts n0 (k + 1) r S1 K
    | some (j, want) => match dsts[j]? with
      | some (some d) => gcase (S.f d) want S.f d (fun _ => bindP (stepOp X (callL X) f n0 k o S) fun S1 => OpsP X f dsts n0 (k + 1) r S1 K) (fun _ => OpsP X f dsts n0 (k + 1) r (S.set o.dst (.tup [])) K)
      | _ => False := by
  unfold OpsP
  rw [evOps]
  cases o.guard with
  | none => simp only; cases stepOp X (callL X) f n0 k o S <;> rfl
  | some p =>
    obtain ⟨j, want⟩ := p
    simp only
    cases dsts[j]? with
    | none => rfl
    | some x =>
      cases x with
      | none => rfl
      | some d =>
        simp only
        cases hv : S.f d with
        | bool b =>
          simp only [gcase]
          split
          · cases stepOp X (callL X) f n0 k o S <;> rfl
          · rfl
        | tup l => cases l <;> rfl
        | _ => rfl

theorem Wp_of_eq {c : Code} {e : Ex} {S1 : St} (h : ev X f c S = some (e, S1)) : Wp X f c S Q = Q e S1 := by
  apply propext
  constructor
  · rintro ⟨e', S', h', hq⟩
    rw [h] at h'
    simp only [Option.some.injEq, Prod.mk.injEq] at h'
    obtain ⟨rfl, rfl⟩ := h'
    exact hq
  · intro hq; exact ⟨e, S1, h, hq⟩
theorem Wp_skip : Wp X f .skip S Q = Q .normal S := Wp_of_eq (ev_skip X f S)
theorem Wp_exit (id : Nat) : Wp X f (.exit id) S Q = Q (.exit id) S := Wp_of_eq (ev_exit X f S id)
theorem Wp_ret : Wp X f .ret S Q = Q .ret S := Wp_of_eq (ev_ret X f S)
theorem Wp_seq (a b : Code) : Wp X f (.seq a b) S Q = Wp X f a S (seqQ X f b Q) := by
  apply propext
  unfold Wp
  rw [ev_seq]
  constructor
  · rintro ⟨e, S1, h, hq⟩
    cases ha : ev X f a S with
    | none => simp [ha] at h
    | some x =>
      obtain ⟨e2, S2⟩ := x
      rw [ha] at h
      refine ⟨e2, S2, rfl, ?_⟩
      cases e2 with
      | normal => exact ⟨e, S1, h, hq⟩
      | exit i =>
        simp only [Option.some.injEq, Prod.mk.injEq] at h
        obtain ⟨rfl, rfl⟩ := h; exact hq
      | ret =>
        simp only [Option.some.injEq, Prod.mk.injEq] at h
        obtain ⟨rfl, rfl⟩ := h; exact hq
  · rintro ⟨e, S1, h, hq⟩
    rw [h]
    cases e with
    | normal =>
      obtain ⟨e2, S2, h2, hq2⟩ := hq
      exact ⟨e2, S2, h2, hq2⟩
    | exit i => exact ⟨_, _, rfl, hq⟩
    | ret => exact ⟨_, _, rfl, hq⟩
/-- an operand's value -/
def evF (f : Nat → V) : Operand → V
  | .tmp t => f t
  | .const v => ofVal v
  | .func g => .fn g [] []
  | .global _ => .bad
theorem evF_eq (S : St) : evF S.f = S.ev := by funext x; cases x <;> rfl
/-- a choice by a value -/
def choose (v : V) (p q : Prop) : Prop :=
  match v with
  | .bool true => p
  | .bool false => q
  | _ => False
theorem choose_true (p q : Prop) : choose (.bool true) p q = p := rfl
theorem choose_false (p q : Prop) : choose (.bool false) p q = q := rfl
theorem choose_bool (b : Bool) (p q : Prop) : choose (.bool b) p q = ((b = true → p) ∧ (b = false → q)) := by cases b <;> simp [choose]
theorem Wp_cond (x : Operand) (a b : Code) : Wp X f (.cond x a b) S Q = choose (mark (evF S.f x)) (Wp X f a S Q) (Wp X f b S Q) := by
  rw [evF_eq]
  show (Wp X f (.cond x a b) S Q) = choose (S.ev x) (Wp X f a S Q) (Wp X f b S Q)
  unfold Wp
  rw [ev_cond]
  cases S.ev x with
  | bool t => cases t <;> simp [choose]
  | _ => simp [choose]
theorem Wp_block (id : Nat) (b : Code) : Wp X f (.block id b) S Q = Wp X f b S (blkQ id Q) := by
  apply propext
  unfold Wp
  rw [ev_block]
  constructor
  · rintro ⟨e, S1, h, hq⟩
    cases hb : ev X f b S with
    | none => simp [hb] at h
    | some x =>
      obtain ⟨e2, S2⟩ := x
      rw [hb] at h
      refine ⟨e2, S2, rfl, ?_⟩
      cases e2 with
      | normal =>
        simp only [Option.some.injEq, Prod.mk.injEq] at h
        obtain ⟨rfl, rfl⟩ := h; exact hq
      | exit i =>
        simp only at h
        simp only [blkQ]
        split at h <;> rename_i hi <;> simp only [Option.some.injEq, Prod.mk.injEq] at h <;> obtain ⟨rfl, rfl⟩ := h <;> simp only [hi, if_true, if_false] <;> exact hq
      | ret =>
        simp only [Option.some.injEq, Prod.mk.injEq] at h
        obtain ⟨rfl, rfl⟩ := h; exact hq
  · rintro ⟨e, S1, h, hq⟩
    rw [h]
    cases e with
    | normal => exact ⟨_, _, rfl, hq⟩
    | exit i =>
      simp only [blkQ] at hq
      simp only
      split at hq <;> rename_i hi <;> simp only [hi, if_true, if_false] <;> exact ⟨_, _, rfl, hq⟩
    | ret => exact ⟨_, _, rfl, hq⟩
/-- what is to be the same in every order -/
def stb (l : List (Nat × Nat)) (p : List (Nat × Nat) → Prop) : Prop := p l
/-- a region: its operations, one after the other -/
theorem Wp_region (id : Nat) (ops : Array Oper) (d : Bool) : Wp X f (.region id ops d) S Q =
    bindP (mark (some (⟨S.f, S.h, S.n⟩ : St))) fun S => OpsP X f (ops.toList.map (·.dst)) S.n 0 ops.toList ⟨S.f, S.h, S.n + ops.size⟩ fun S1 => stb (mark (X.exc f id)) (Stable X (callL X) f ops.toList S.n { S with n := S.n + ops.size } S1) ∧ Q .normal S1 := by
  show _ = OpsP X f (ops.toList.map (·.dst)) S.n 0 ops.toList { S with n := S.n + ops.size } fun S1 => Stable X (callL X) f ops.toList S.n { S with n := S.n + ops.size } S1 (X.exc f id) ∧ Q .normal S1
  unfold Wp OpsP
  rw [ev_region]
  cases h : evOps X (callL X) f (ops.toList.map (·.dst)) S.n 0 ops.toList { S with n := S.n + ops.size } with
  | none => simp [bindP]
  | some S1 =>
    simp only [bindP]
    by_cases hs : Stable X (callL X) f ops.toList S.n { S with n := S.n + ops.size } S1 (X.exc f id)
    · simp only [hs, if_true, true_and]
      apply propext
      constructor
      · rintro ⟨e, S2, he, hq⟩
        simp only [Option.some.injEq, Prod.mk.injEq] at he
        obtain ⟨rfl, rfl⟩ := he; exact hq
      · intro hq; exact ⟨_, _, rfl, hq⟩
    · simp [hs]
theorem Wp_ops (id : Nat) (l : List Oper) (d : Bool) : Wp X f (.region id l.toArray d) S Q =
    bindP (mark (some (⟨S.f, S.h, S.n⟩ : St))) fun S => OpsP X f (l.map (·.dst)) S.n 0 l ⟨S.f, S.h, S.n + l.length⟩ fun S1 => stb (mark (X.exc f id)) (Stable X (callL X) f l S.n { S with n := S.n + l.length } S1) ∧ Q .normal S1 := by
  rw [Wp_region]
  simp only [List.size_toArray]
/-- a loop that counts up -/
theorem Wp_up {b : Code} (Inv : Nat → St → Prop) (N : Nat) (step : ∀ i S, i ≤ N → Inv i S → Wp X f b S (loopQ Inv i N Q)) : ∀ (i : Nat) {S : St}, i ≤ N → Inv i S → Wp X f (.loop b) S Q := by
  suffices h : ∀ (k i : Nat) {S : St}, N - i = k → i ≤ N → Inv i S → Wp X f (.loop b) S Q from fun i S hi h0 => h (N - i) i rfl hi h0
  intro k
  induction k with
  | zero =>
    intro i S hk hi h0
    obtain ⟨e, S1, h, hq⟩ := step i S hi h0
    refine ⟨e, S1, ?_, ?_⟩
    · rw [ev_loop, h]
      cases e with
      | normal => exact absurd hq.1 (by omega)
      | exit i => rfl
      | ret => rfl
    · cases e with
      | normal => exact absurd hq.1 (by omega)
      | exit i => exact hq
      | ret => exact hq
  | succ k ih =>
    intro i S hk hi h0
    obtain ⟨e, S1, h, hq⟩ := step i S hi h0
    unfold Wp
    rw [ev_loop, h]
    cases e with
    | normal =>
      obtain ⟨hlt, hinv⟩ := hq
      exact ih (i + 1) (by omega) hlt hinv
    | exit i => exact ⟨_, _, rfl, hq⟩
    | ret => exact ⟨_, _, rfl, hq⟩
theorem Wp_mono {c : Code} {Q' : Ex → St → Prop} (h : Wp X f c S Q) (hq : ∀ e S, Q e S → Q' e S) : Wp X f c S Q' := by
  obtain ⟨e, S1, h1, h2⟩ := h
  exact ⟨e, S1, h1, hq _ _ h2⟩
end

theorem Wp_congr {X : Env} {f : FuncId} {c : Code} {S S' : St} {Q : Ex → St → Prop} (h : S = S') : Wp X f c S Q = Wp X f c S' Q := by rw [h]
theorem bindP_congr {r r' : Option St} {K : St → Prop} (h : r = r') : bindP r K = bindP r' K := by rw [h]
theorem OpsP_congr {X : Env} {fid : FuncId} {dsts : List (Option Nat)} {n0 k : Nat} {ops : List Oper} {S S' : St} {K : St → Prop} (h : S = S') : OpsP X fid dsts n0 k ops S K = OpsP X fid dsts n0 k ops S' K := by rw [h]
theorem gcase_congr {v v' : V} {w : Bool} {ff : Nat → V} {dj : Nat} {p q : (Nat → V) → Prop} (h : v = v') : gcase v w ff dj p q = gcase v' w ff dj p q := by rw [h]
theorem choose_congr {v v' : V} {p q : Prop} (h : v = v') : choose v p q = choose v' p q := by rw [h]
attribute [congr] Wp_congr bindP_congr choose_congr OpsP_congr gcase_congr
theorem beq_int (a b : Int) : (a == b) = decide (a = b) := rfl

/-- what is to hold when a body is left -/
def endQ (X : Env) (rs : List ResultVar) (K : V → Heap → Nat → Prop) : Ex → St → Prop
  | .exit _, _ => False
  | _, S => match resultsV X rs S with | some v => K v S.h S.n | none => False
section
variable {X : Env} {S : St} {rs : List ResultVar} {K : V → Heap → Nat → Prop}
theorem endQ_normal : endQ X rs K .normal S = (match resultsV X rs S with | some v => K v S.h S.n | none => False) := rfl
theorem endQ_ret : endQ X rs K .ret S = (match resultsV X rs S with | some v => K v S.h S.n | none => False) := rfl
theorem endQ_exit (i : Nat) : endQ X rs K (.exit i) S = False := rfl
end

theorem callL_of {X : Env} {g : FuncId} {fn : Func} {b : Code} {rs : List ResultVar} (hf : X.P.funcs[g]? = some fn) (hb : fn.body = some b) (hr : fn.results = ⟨rs⟩) {args : List V} {h : Heap} {k : Nat} {K : V → Heap → Nat → Prop}
    (hw : Wp X g b ⟨enterF args, h, k⟩ (endQ X rs K)) : ∃ v h' k', callL X g args h k = some (v, h', k') ∧ K v h' k' := by
  have hr' : rs = fn.results.toList := by rw [hr]
  rw [hr'] at hw
  rw [callL_eq hf hb]
  obtain ⟨e, S1, h1, h2⟩ := hw
  rw [h1]
  cases e with
  | exit i => exact absurd h2 (fun h => h)
  | normal =>
    unfold retV
    cases hr : resultsV X fn.results.toList S1 with
    | none => rw [endQ_normal, hr] at h2; exact absurd h2 (fun h => h)
    | some v => rw [endQ_normal, hr] at h2; exact ⟨v, S1.h, S1.n, by simp only [hr], h2⟩
  | ret =>
    unfold retV
    cases hr : resultsV X fn.results.toList S1 with
    | none => rw [endQ_ret, hr] at h2; exact absurd h2 (fun h => h)
    | some v => rw [endQ_ret, hr] at h2; exact ⟨v, S1.h, S1.n, by simp only [hr], h2⟩

def nohp : Heap := fun _ => none

theorem pcall_of {X : Env} {g : FuncId} {fn : Func} {b : Code} {rs : List ResultVar} (hf : X.P.funcs[g]? = some fn) (hb : fn.body = some b) (hr : fn.results = ⟨rs⟩) {args : List V} {r : V}
    (hw : Wp X g b ⟨enterF args, nohp, 0⟩ (endQ X rs fun v h _ => (toImm h depth v).map V.dull = some r)) : pcall X g args = some r := by
  obtain ⟨v, h, k, h1, h2⟩ := callL_of hf hb hr hw
  unfold pcall
  have h1' : callL X g args (fun _ => none) 0 = some (v, h, k) := h1
  rw [h1']
  exact h2

theorem dullL_eq : ∀ l : List V, dullL l = l.map V.dull
  | [] => rfl
  | c :: cs => by simp [dullL, dullL_eq cs]

theorem leaf_dull {v : V} (h : v.leaf = true) : v.dull = v := by cases v <;> first | rfl | simp [V.leaf] at h
theorem leafL_dull : ∀ {l : List V}, l.all V.leaf = true → dullL l = l
  | [], _ => rfl
  | v :: l, h => by
    simp only [List.all_cons, Bool.and_eq_true] at h
    simp [dullL, leaf_dull h.1, leafL_dull h.2]

/-- a call, by what is told of it -/
theorem evCall_eq (X : Env) (fid : FuncId) (dst : Option Nat) (g : FuncId) (args : List V) (S : St) : evCall X (callL X) fid dst g args S =
    match X.clone g with
    | some t =>
      match args with
      | [s] => match elems S.h s with
        | some (es, kx) => if s.isStr || (kx && !X.keepT (X.ti t).elem) || !(es.all fun v => v.cells.length == (X.ti (X.ti t).elem).size) || !decide (es.length * (X.ti (X.ti t).elem).bytes ≤ 2 ^ 47 ∧ es.length ≤ 2 ^ 62) then none else some ((S.new ⟨(X.ti (X.ti t).elem).size, es, X.keepT (X.ti t).elem⟩).set dst (.hdr S.n 0 es.length))
        | none => none
      | _ => none
    | none =>
    if X.byref g = true then
      match callL X g args S.h S.n with
      | some (v, h, n) => some (({ S with h := h, n := n } : St).set dst v)
      | none => none
    else
      match allSome (args.map (toImm S.h depth)) with
      | some as =>
        if dst.any (X.thaw fid) = true then
          if args.any V.own1 = true then none else
          match callL X g (dullL as) nohp S.n with
          | some (v, h, n) => some (({ S with h := fun id => if id < S.n then S.h id else h id, n := n } : St).set dst v)
          | none => none
        else
          match pcall X g (dullL as) with
          | some v => if (args.any V.own1 && !v.scalar) = true then none else some (S.set dst v)
          | none => none
      | none => none := by
  have key : ∀ v : V, v.dull.scalar = v.scalar := by
    intro v
    have l0 : ∀ v : V, v.dull.leaf = v.leaf := fun v => by cases v <;> rfl
    have ll : ∀ l : List V, (dullL l).all V.leaf = l.all V.leaf := by
      intro l; induction l with
      | nil => rfl
      | cons c l ih => simp [dullL, l0, ih]
    have l1 : ∀ v : V, v.dull.leaf1 = v.leaf1 := fun v => by
      cases v with
      | agg cs => simp [V.dull, V.leaf1, ll]
      | _ => rfl
    have ll1 : ∀ l : List V, (dullL l).all V.leaf1 = l.all V.leaf1 := by
      intro l; induction l with
      | nil => rfl
      | cons c l ih => simp [dullL, l1, ih]
    cases v with
    | tup cs => simp [V.dull, V.scalar, ll1]
    | agg cs => simp [V.dull, V.scalar, V.leaf1, ll]
    | _ => rfl
  unfold evCall pcall
  cases X.clone g with
  | some t => rfl
  | none =>
    by_cases hb : X.byref g = true
    · simp only [hb, if_true]
      rfl
    · simp only [hb, if_false, Bool.false_eq_true]
      cases allSome (args.map (toImm S.h depth)) with
      | none => rfl
      | some as =>
        simp only
        by_cases ht : dst.any (X.thaw fid) = true
        · simp only [ht, if_true]; rfl
        · simp only [ht, if_false, Bool.false_eq_true]
          cases hc : callL X g (dullL as) (fun _ => none) 0 with
          | none => rfl
          | some x =>
            obtain ⟨v, h, n⟩ := x
            simp only
            cases toImm h depth v with
            | none => rfl
            | some v' => simp only [Option.map_some, key]

theorem stable_cons (X : Env) (call : CallT) (fid : FuncId) (ops : List Oper) (n0 : Nat) (S0 S1 : St) (q : Nat × Nat) (l : List (Nat × Nat)) : Stable X call fid ops n0 S0 S1 (q :: l) =
    ((∃ o T v, ops[q.1]? = some o ∧ evOps X call fid (ops.map (·.dst)) n0 0 (ops.take q.2) S0 = some T ∧
    evCore X fid o S1.ev T.h (n0 + q.1) = some (v, T.h, n0 + q.1) ∧ ∀ d, o.dst = some d → S1.f d = v) ∧ Stable X call fid ops n0 S0 S1 l) := by
  simp only [Stable, List.forall_mem_cons]


/-- what holds of an operation's value and the heap behind it -/
def coreP (r : Option (V × Heap × Nat)) (K : V → Heap → Prop) : Prop :=
  match r with
  | some (v, h, _) => K v h
  | none => False
theorem coreP_some (v : V) (h : Heap) (n : Nat) (K : V → Heap → Prop) : coreP (some (v, h, n)) K = K v h := rfl
theorem coreP_none (K : V → Heap → Prop) : coreP none K = False := rfl
theorem coreP_need (c : Prop) [Decidable c] (a : Option (V × Heap × Nat)) (K : V → Heap → Prop) : coreP (if c then a else none) K = (c ∧ (c → coreP (mark a) K)) := by
  by_cases h : c <;> simp [h, coreP, mark]
theorem coreP_needn (c : Prop) [Decidable c] (a : Option (V × Heap × Nat)) (K : V → Heap → Prop) : coreP (if c then none else a) K = (¬ c ∧ (¬ c → coreP (mark a) K)) := by
  by_cases h : c <;> simp [h, coreP, mark]
theorem coreP_congr {r r' : Option (V × Heap × Nat)} {K : V → Heap → Prop} (h : r = r') : coreP r K = coreP r' K := by rw [h]
theorem stb_congr {l l' : List (Nat × Nat)} {p : List (Nat × Nat) → Prop} (h : l = l') : stb l p = stb l' p := by rw [h]
attribute [congr] coreP_congr stb_congr

theorem stb_nil (X : Env) (call : CallT) (fid : FuncId) (ops : List Oper) (n0 : Nat) (S0 S1 : St) : stb [] (Stable X call fid ops n0 S0 S1) = True := stable_nil ..
/-- a read, in another order, reads what it read -/
def rdP (X : Env) (fid : FuncId) (o : Option Oper) (S1 T : St) (m : Nat) : Prop := ∃ o' v, o = some o' ∧ evCore X fid o' S1.ev T.h m = some (v, T.h, m) ∧ ∀ d, o'.dst = some d → S1.f d = v
def bindL (l : List Oper) (K : List Oper → Prop) : Prop := K l
theorem bindL_cons (o : Oper) (l : List Oper) (K : List Oper → Prop) : bindL (o :: l) K = K (o :: l) := rfl
theorem bindL_nil (K : List Oper → Prop) : bindL [] K = K [] := rfl
theorem bindL_congr {l l' : List Oper} {K : List Oper → Prop} (h : l = l') : bindL l K = bindL l' K := by rw [h]
theorem rdP_congr {X : Env} {fid : FuncId} {o o' : Option Oper} {S1 T : St} {m : Nat} (h : o = o') : rdP X fid o S1 T m = rdP X fid o' S1 T m := by rw [h]
attribute [congr] bindL_congr rdP_congr
theorem stb_cons (X : Env) (fid : FuncId) (ops : List Oper) (n0 : Nat) (S0 S1 : St) (j p : Nat) (l : List (Nat × Nat)) : stb ((j, p) :: l) (Stable X (callL X) fid ops n0 S0 S1) =
    ((bindL (mark (ops.take p)) fun ops' => OpsP X fid (ops.map (·.dst)) n0 0 ops' S0 fun T => rdP X fid (mark ops[j]?) S1 T (n0 + j)) ∧ stb l (Stable X (callL X) fid ops n0 S0 S1)) := by
  unfold stb
  rw [stable_cons]
  congr 1
  unfold bindL mark OpsP rdP
  apply propext
  constructor
  · rintro ⟨o, T, v, h1, h2, h3, h4⟩
    simp only at h2
    simp only [h2]
    exact ⟨o, v, h1, h3, h4⟩
  · intro h
    cases hT : evOps X (callL X) fid (ops.map (·.dst)) n0 0 (ops.take p) S0 with
    | none => simp only [hT] at h; exact absurd h (fun h => h)
    | some T =>
      simp only [hT] at h
      obtain ⟨o, v, h1, h3, h4⟩ := h
      exact ⟨o, T, v, h1, rfl, h3, h4⟩
theorem rd_load (X : Env) (fid : FuncId) (d : Nat) (t : TypeId) (a : Operand) (ty : TypeId) (ps : String) (af : Array Edge) (g : Option (Nat × Bool)) (S1 T : St) (m : Nat) : rdP X fid (some ⟨some d, .load t a, ty, ps, af, g⟩) S1 T m =
    ∃ v, (match evF S1.f a with
      | .ptr id i f => match T.h id with
        | some ob => match ob.es[i]? with
          | some e => match part (X.ti t) e.cells f with | some v => some (v, T.h, m) | none => none
          | none => none
        | none => none
      | .ref cs => match part (X.ti t) cs 0 with | some v => some (v, T.h, m) | none => none
      | _ => none) = some (v, T.h, m) ∧ S1.f d = v := by
  unfold rdP
  rw [evF_eq]
  apply propext
  constructor
  · rintro ⟨o, v, h, h1, h2⟩
    simp only [Option.some.injEq] at h
    subst h
    exact ⟨v, h1, h2 d rfl⟩
  · rintro ⟨v, h1, h2⟩
    refine ⟨_, v, rfl, h1, fun d' h => ?_⟩
    simp only [Option.some.injEq] at h
    subst h; exact h2
/-- the value of a guard -/
def gval (dsts : List (Option Nat)) (f : Nat → V) (j : Nat) : V :=
  match dsts[j]? with
  | some (some d) => f d
  | _ => .bad

def gdst (dsts : List (Option Nat)) (j : Nat) : Nat :=
  match dsts[j]? with
  | some (some d) => d
  | _ => 0

section
variable {X : Env} {fx : FuncId} {dsts : List (Option Nat)} {n0 kk n : Nat} {r : List Oper} {ff : Nat → V} {hp : Heap} {K : St → Prop} {d : Nat} {ty : TypeId} {ps : String} {af : Array Edge}
theorem OpsP_core' {o : Oper} {S : St} (hs : stepOp X (callL X) fx n0 kk o S = match evCore X fx o S.ev S.h (n0 + kk) with
    | some (v, h, _) => some (({ S with h := h } : St).set o.dst v)
    | none => none) (hg : o.guard = none) : OpsP X fx dsts n0 kk (o :: r) S K = coreP (evCore X fx o S.ev S.h (n0 + kk)) fun v h => OpsP X fx dsts n0 (kk + 1) r ((⟨S.f, h, S.n⟩ : St).set o.dst v) K := by
  rw [OpsP_cons, hg, hs]
  cases evCore X fx o S.ev S.h (n0 + kk) with
  | none => rfl
  | some x => obtain ⟨v, h, n⟩ := x; rfl
theorem OpsP_core {o : Oper} (hs : ∀ S, stepOp X (callL X) fx n0 kk o S = match evCore X fx o S.ev S.h (n0 + kk) with
    | some (v, h, _) => some (({ S with h := h } : St).set o.dst v)
    | none => none) (hg : o.guard = none) {d : Option Nat} (hd : o.dst = d) : OpsP X fx dsts n0 kk (o :: r) ⟨ff, hp, n⟩ K = coreP (mark (evCore X fx o (evF ff) hp (n0 + kk))) fun v h => OpsP X fx dsts n0 (kk + 1) r ((⟨ff, h, n⟩ : St).set d v) K := by
  rw [show evF ff = (⟨ff, hp, n⟩ : St).ev from evF_eq ⟨ff, hp, n⟩]
  subst hd
  exact OpsP_core' (hs _) hg
theorem ops_guard (d : Nat) (op : Op) (j : Nat) (w : Bool) : OpsP X fx dsts n0 kk (⟨some d, op, ty, ps, af, some (j, w)⟩ :: r) ⟨ff, hp, n⟩ K =
    gcase (mark (gval dsts ff j)) w ff (gdst dsts j) (fun ff => OpsP X fx dsts n0 kk (⟨some d, op, ty, ps, af, none⟩ :: r) ⟨ff, hp, n⟩ K) (fun ff => OpsP X fx dsts n0 (kk + 1) r ⟨upd ff d (.tup []), hp, n⟩ K) := by
  have key : ∀ ff : Nat → V, OpsP X fx dsts n0 kk (⟨some d, op, ty, ps, af, none⟩ :: r) ⟨ff, hp, n⟩ K = bindP (stepOp X (callL X) fx n0 kk ⟨some d, op, ty, ps, af, some (j, w)⟩ ⟨ff, hp, n⟩) fun S1 => OpsP X fx dsts n0 (kk + 1) r S1 K := fun ff => by rw [OpsP_cons]; rfl
  simp only [key]
  rw [OpsP_cons]
  unfold gval mark gdst
  simp only
  cases dsts[j]? with
  | none => rfl
  | some x =>
    cases x with
    | none => rfl
    | some x =>
      unfold gcase
      rfl
theorem ops_call (d : Option Nat) (g : FuncId) (args : Array Operand) (tys : Array TypeId) : OpsP X fx dsts n0 kk (⟨d, .call ⟨.value (.func g), args, tys⟩, ty, ps, af, none⟩ :: r) ⟨ff, hp, n⟩ K =
    bindP (mark (evCall X (callL X) fx d g (args.toList.map (evF ff)) ⟨ff, hp, n⟩)) fun S1 => OpsP X fx dsts n0 (kk + 1) r ⟨S1.f, S1.h, S1.n⟩ K := by
  rw [OpsP_cons, show evF ff = (⟨ff, hp, n⟩ : St).ev from evF_eq ⟨ff, hp, n⟩]
  show bindP (evCall X (callL X) fx d g ([] ++ args.toList.map (⟨ff, hp, n⟩ : St).ev ++ []) ⟨ff, hp, n⟩) _ = _
  rw [List.nil_append, List.append_nil]
  rfl
theorem ops_move (x') : OpsP X fx dsts n0 kk (⟨(some d), .move x', ty, ps, af, none⟩ :: r) ⟨ff, hp, n⟩ K =
    coreP (mark (some (((evF ff) x'), hp, (n0 + kk)))) fun v h' => OpsP X fx dsts n0 (kk + 1) r ⟨upd ff d v, h', n⟩ K := OpsP_core (fun _ => rfl) rfl rfl
theorem ops_assign (x') : OpsP X fx dsts n0 kk (⟨(some d), .assign x', ty, ps, af, none⟩ :: r) ⟨ff, hp, n⟩ K =
    coreP (mark (some (((evF ff) x'), hp, (n0 + kk)))) fun v h' => OpsP X fx dsts n0 (kk + 1) r ⟨upd ff d v, h', n⟩ K := OpsP_core (fun _ => rfl) rfl rfl
theorem ops_pick (c') (a') (b') : OpsP X fx dsts n0 kk (⟨(some d), .pick c' a' b', ty, ps, af, none⟩ :: r) ⟨ff, hp, n⟩ K =
    coreP (mark (match (evF ff) c' with | .bool t => some ((if t then (evF ff) a' else (evF ff) b'), hp, (n0 + kk)) | _ => none)) fun v h' => OpsP X fx dsts n0 (kk + 1) r ⟨upd ff d v, h', n⟩ K := OpsP_core (fun _ => rfl) rfl rfl
theorem ops_alloc (t') : OpsP X fx dsts n0 kk (⟨(some d), .alloc t', ty, ps, af, none⟩ :: r) ⟨ff, hp, n⟩ K =
    coreP (mark (some ((.ptr (n0 + kk) 0 0), upd hp (n0 + kk) (some ⟨(X.ti t').size, [(X.ti t').zero], true⟩), (n0 + kk) + 1))) fun v h' => OpsP X fx dsts n0 (kk + 1) r ⟨upd ff d v, h', n⟩ K := OpsP_core (fun _ => rfl) rfl rfl
theorem ops_box (t') (x') : OpsP X fx dsts n0 kk (⟨(some d), .box t' x', ty, ps, af, none⟩ :: r) ⟨ff, hp, n⟩ K =
    coreP (mark (if ((evF ff) x').fits (X.ti t').size then some ((.ptr (n0 + kk) 0 0), upd hp (n0 + kk) (some ⟨(X.ti t').size, [(evF ff) x'], true⟩), (n0 + kk) + 1) else none)) fun v h' => OpsP X fx dsts n0 (kk + 1) r ⟨upd ff d v, h', n⟩ K := OpsP_core (fun _ => rfl) rfl rfl
theorem ops_build (t') (ps') : OpsP X fx dsts n0 kk (⟨(some d), .build t' ps', ty, ps, af, none⟩ :: r) ⟨ff, hp, n⟩ K =
    coreP (mark (match (X.ti t').arr with
    | none => if (X.ti t').flds = [] then none else match fillS (X.ti t').flds (X.ti t').zero.cells (ps'.toList.map fun p => (p.1, (evF ff) p.2)) with
      | some cs => some ((.agg cs), hp, (n0 + kk))
      | none => none
    | some m => match fillS ((List.range m).map fun i => (i * (X.ti (X.ti t').elem).size, (X.ti (X.ti t').elem).size)) (X.ti t').zero.cells (ps'.toList.map fun p => (p.1, (evF ff) p.2)) with
      | some cs => some ((.agg cs), hp, (n0 + kk))
      | none => none)) fun v h' => OpsP X fx dsts n0 (kk + 1) r ⟨upd ff d v, h', n⟩ K := OpsP_core (fun _ => rfl) rfl rfl
theorem ops_buildSlice (t') (n') (ps') : OpsP X fx dsts n0 kk (⟨(some d), .buildSlice t' n' ps', ty, ps, af, none⟩ :: r) ⟨ff, hp, n⟩ K =
    coreP (mark (let e := (X.ti t').elem
    if X.keepT e then
      match fillE (X.ti e).size (List.replicate n' (X.ti e).zero) (ps'.toList.map fun p => (p.1, (evF ff) p.2)) with
      | some es => some ((.hdr (n0 + kk) 0 n'), upd hp (n0 + kk) (some ⟨(X.ti e).size, es, true⟩), (n0 + kk) + 1)
      | none => none
    else
    match giveP hp (ps'.toList.map fun p => (p.1, (evF ff) p.2)) with
    | some (l, h) =>
      match fillE (X.ti e).size (List.replicate n' (X.ti e).zero) l with
      | some es =>
        if (some d).any (X.thaw fx) then some ((.hdr (n0 + kk) 0 n'), upd (h) (n0 + kk) (some ⟨(X.ti e).size, es, false⟩), (n0 + kk) + 1)
        else some ((.sl true es), h, (n0 + kk))
      | none => none
    | none => none)) fun v h' => OpsP X fx dsts n0 (kk + 1) r ⟨upd ff d v, h', n⟩ K := OpsP_core (fun _ => rfl) rfl rfl
theorem ops_load (t') (a') : OpsP X fx dsts n0 kk (⟨(some d), .load t' a', ty, ps, af, none⟩ :: r) ⟨ff, hp, n⟩ K =
    coreP (mark (match (evF ff) a' with
    | .ptr id i f => match hp id with
      | some ob => match ob.es[i]? with
        | some e => match part (X.ti t') e.cells f with | some v => some (v, hp, (n0 + kk)) | none => none
        | none => none
      | none => none
    | .ref cs => match part (X.ti t') cs 0 with | some v => some (v, hp, (n0 + kk)) | none => none
    | _ => none)) fun v h' => OpsP X fx dsts n0 (kk + 1) r ⟨upd ff d v, h', n⟩ K := OpsP_core (fun _ => rfl) rfl rfl
theorem ops_store (t') (a') (x') : OpsP X fx dsts n0 kk (⟨none, .store t' a' x', ty, ps, af, none⟩ :: r) ⟨ff, hp, n⟩ K =
    coreP (mark (match (evF ff) a' with
    | .ptr id i f => match hp id with
      | some ob =>
        match (if ob.keep then some ((evF ff) x', hp) else give hp ((evF ff) x')) with
        | some (v, h) => match h id with
          | some ob => match ob.es[i]? with
            | some e => if v.fits (X.ti t').size && decide (f + (X.ti t').size ≤ e.cells.length) then some (.bad, upd h id (some { ob with es := ob.es.set i (e.put f v) }), (n0 + kk)) else none
            | none => none
          | none => none
        | none => none
      | none => none
    | _ => none)) fun v h' => OpsP X fx dsts n0 (kk + 1) r ⟨ff, h', n⟩ K := OpsP_core (fun _ => rfl) rfl rfl
theorem ops_nilCheck (x') : OpsP X fx dsts n0 kk (⟨(some d), .nilCheck x', ty, ps, af, none⟩ :: r) ⟨ff, hp, n⟩ K =
    coreP (mark (match (evF ff) x' with
    | .ptr id i f => some ((.ptr id i f), hp, (n0 + kk))
    | .ref cs => some ((.ref cs), hp, (n0 + kk))
    | .fn g a b => some ((.fn g a b), hp, (n0 + kk))
    | _ => none)) fun v h' => OpsP X fx dsts n0 (kk + 1) r ⟨upd ff d v, h', n⟩ K := OpsP_core (fun _ => rfl) rfl rfl
theorem ops_binOp (op') (t') (x') (y') (u0') : OpsP X fx dsts n0 kk (⟨(some d), .binOp op' t' x' y' u0', ty, ps, af, none⟩ :: r) ⟨ff, hp, n⟩ K =
    coreP (mark (match binV (X.ti t').agg (X.ti t').shp op' ((evF ff) x') ((evF ff) y') with | some v => some (v, hp, (n0 + kk)) | none => none)) fun v h' => OpsP X fx dsts n0 (kk + 1) r ⟨upd ff d v, h', n⟩ K := OpsP_core (fun _ => rfl) rfl rfl
theorem ops_unOp (op') (u0') (x') : OpsP X fx dsts n0 kk (⟨(some d), .unOp op' u0' x', ty, ps, af, none⟩ :: r) ⟨ff, hp, n⟩ K =
    coreP (mark (match unV op' ((evF ff) x') with | some v => some (v, hp, (n0 + kk)) | none => none)) fun v h' => OpsP X fx dsts n0 (kk + 1) r ⟨upd ff d v, h', n⟩ K := OpsP_core (fun _ => rfl) rfl rfl
theorem ops_convert (u0') (d') (x') : OpsP X fx dsts n0 kk (⟨(some d), .convert u0' d' x', ty, ps, af, none⟩ :: r) ⟨ff, hp, n⟩ K =
    coreP (mark (match (X.ti d').kind, (evF ff) x' with
    | some k, .int _ n => some ((.int k (k.wrap n)), hp, (n0 + kk))
    | _, _ => none)) fun v h' => OpsP X fx dsts n0 (kk + 1) r ⟨upd ff d v, h', n⟩ K := OpsP_core (fun _ => rfl) rfl rfl
theorem ops_makeFunc (g') (a') (b') : OpsP X fx dsts n0 kk (⟨(some d), .makeFunc (.func g') a' b', ty, ps, af, none⟩ :: r) ⟨ff, hp, n⟩ K =
    coreP (mark (some ((.fn g' (a'.toList.map (evF ff)) (b'.toList.map (evF ff))), hp, (n0 + kk)))) fun v h' => OpsP X fx dsts n0 (kk + 1) r ⟨upd ff d v, h', n⟩ K := OpsP_core (fun _ => rfl) rfl rfl
theorem ops_makeSlice (t') (l') (c') : OpsP X fx dsts n0 kk (⟨(some d), .makeSlice t' l' c', ty, ps, af, none⟩ :: r) ⟨ff, hp, n⟩ K =
    coreP (mark (match (evF ff) l', (evF ff) c' with
    | .int _ n, .int _ m => if 0 ≤ n ∧ n ≤ m ∧ m * (X.ti (X.ti t').elem).bytes ≤ 2 ^ 47 ∧ m ≤ 2 ^ 62 then
        some ((.hdr (n0 + kk) 0 n.toNat), upd hp (n0 + kk) (some ⟨(X.ti (X.ti t').elem).size, List.replicate n.toNat (X.ti (X.ti t').elem).zero, X.keepT (X.ti t').elem⟩), (n0 + kk) + 1) else none
    | _, _ => none)) fun v h' => OpsP X fx dsts n0 (kk + 1) r ⟨upd ff d v, h', n⟩ K := OpsP_core (fun _ => rfl) rfl rfl
theorem ops_slice (t') (x') (lo') (hi') (mx') : OpsP X fx dsts n0 kk (⟨(some d), .slice t' x' lo' hi' mx', ty, ps, af, none⟩ :: r) ⟨ff, hp, n⟩ K =
    coreP (mark (if ((evF ff) x').isStr = (X.ti t').isStr then
      match (evF ff) x' with
      | .sl _ es =>
        if es.all (fun e => e.cells.length == (X.ti (X.ti t').elem).size) then
          match mx' with
          | none => match bounds (lo'.map (evF ff)) (hi'.map (evF ff)) es.length with | some (l, h) => some ((.sl false ((es.take h).drop l)), hp, (n0 + kk)) | none => none
          | some m => match (evF ff) m, hi'.map (evF ff) with
            | .int _ p, some (.int _ q) => if p = q then (match bounds (lo'.map (evF ff)) (hi'.map (evF ff)) es.length with | some (l, h) => some ((.sl true ((es.take h).drop l)), hp, (n0 + kk)) | none => none) else none
            | _, _ => none
        else none
      | .hdr id s n =>
        match mx', hp id with
        | none, some ob => if ob.k = (X.ti (X.ti t').elem).size then (match bounds (lo'.map (evF ff)) (hi'.map (evF ff)) n with | some (l, h) => some ((.hdr id (s + l) (h - l)), hp, (n0 + kk)) | none => none) else none
        | some m, some ob => if ob.k = (X.ti (X.ti t').elem).size then (match (evF ff) m, hi'.map (evF ff) with
            | .int _ p, some (.int _ q) => if p = q then (match bounds (lo'.map (evF ff)) (hi'.map (evF ff)) n with | some (l, h) => some ((.hdr id (s + l) (h - l)), hp, (n0 + kk)) | none => none) else none
            | _, _ => none) else none
        | _, none => none
      | .str s => match mx' with
        | none => match bounds (lo'.map (evF ff)) (hi'.map (evF ff)) s.length with | some (l, h) => some ((.str ((s.take h).drop l)), hp, (n0 + kk)) | none => none
        | some _ => none
      | _ => none
    else none)) fun v h' => OpsP X fx dsts n0 (kk + 1) r ⟨upd ff d v, h', n⟩ K := OpsP_core (fun _ => rfl) rfl rfl
theorem ops_fieldAddr (t') (x') (i') : OpsP X fx dsts n0 kk (⟨(some d), .fieldAddr t' x' i', ty, ps, af, none⟩ :: r) ⟨ff, hp, n⟩ K =
    coreP (mark (match (X.ti t').flds[i']? with
    | some (off, _) => match (evF ff) x' with
      | .ptr id j f => some ((.ptr id j (f + off)), hp, (n0 + kk))
      | .ref cs => some ((.ref (cs.drop off)), hp, (n0 + kk))
      | _ => none
    | none => none)) fun v h' => OpsP X fx dsts n0 (kk + 1) r ⟨upd ff d v, h', n⟩ K := OpsP_core (fun _ => rfl) rfl rfl
theorem ops_indexAddr (t') (x') (ix') : OpsP X fx dsts n0 kk (⟨(some d), .indexAddr t' x' ix', ty, ps, af, none⟩ :: r) ⟨ff, hp, n⟩ K =
    coreP (mark (match (evF ff) ix' with
    | .int _ n => match (evF ff) x' with
      | .sl _ es => if (0 ≤ n ∧ n < es.length) ∧ (X.ti t').arr = none then (match es[n.toNat]? with | some e => if e.cells.length = (X.ti (X.ti t').elem).size then some ((.ref e.cells), hp, (n0 + kk)) else none | none => none) else none
      | .hdr id s l => if (0 ≤ n ∧ n < l) ∧ (X.ti t').arr = none then (match hp id with | some ob => if ob.k = (X.ti (X.ti t').elem).size then some ((.ptr id (s + n.toNat) 0), hp, (n0 + kk)) else none | none => none) else none
      | .ptr id j f => match (X.ti t').arr with
        | some m => if 0 ≤ n ∧ n < m then some ((.ptr id j (f + n.toNat * (X.ti (X.ti t').elem).size)), hp, (n0 + kk)) else none
        | none => none
      | _ => none
    | _ => none)) fun v h' => OpsP X fx dsts n0 (kk + 1) r ⟨upd ff d v, h', n⟩ K := OpsP_core (fun _ => rfl) rfl rfl
theorem ops_index (t') (x') (ix') : OpsP X fx dsts n0 kk (⟨(some d), .index t' x' ix', ty, ps, af, none⟩ :: r) ⟨ff, hp, n⟩ K =
    coreP (mark (match (evF ff) ix' with
    | .int _ n => match (evF ff) x' with
      | .str s => if 0 ≤ n ∧ (X.ti t').arr = none then (match s[n.toNat]? with | some b => some ((.int .u8 b.toNat), hp, (n0 + kk)) | none => none) else none
      | .agg cs => match (X.ti t').arr with
        | some m => if 0 ≤ n ∧ n < m then (match part (X.ti (X.ti t').elem) cs (n.toNat * (X.ti (X.ti t').elem).size) with | some v => some (v, hp, (n0 + kk)) | none => none) else none
        | none => none
      | _ => none
    | _ => none)) fun v h' => OpsP X fx dsts n0 (kk + 1) r ⟨upd ff d v, h', n⟩ K := OpsP_core (fun _ => rfl) rfl rfl
theorem ops_extract (x') (i') : OpsP X fx dsts n0 kk (⟨(some d), .extract x' i', ty, ps, af, none⟩ :: r) ⟨ff, hp, n⟩ K =
    coreP (mark (match (evF ff) x' with
    | .tup vs => match vs[i']? with | some v => some (v, hp, (n0 + kk)) | none => none
    | _ => none)) fun v h' => OpsP X fx dsts n0 (kk + 1) r ⟨upd ff d v, h', n⟩ K := OpsP_core (fun _ => rfl) rfl rfl
theorem ops_call_len (args') (tys') : OpsP X fx dsts n0 kk (⟨(some d), .call ⟨.builtin .len, args', tys'⟩, ty, ps, af, none⟩ :: r) ⟨ff, hp, n⟩ K =
    coreP (mark (match args'.toList.map (evF ff) with
    | [x] => if x.isStr = (X.ti (tys'.getD 0 0)).isStr then (match lenV x with | some n => some ((.int .i64 n), hp, (n0 + kk)) | none => none) else none
    | _ => none)) fun v h' => OpsP X fx dsts n0 (kk + 1) r ⟨upd ff d v, h', n⟩ K := OpsP_core (fun _ => rfl) rfl rfl
theorem ops_call_min (args') (u0') : OpsP X fx dsts n0 kk (⟨(some d), .call ⟨.builtin .min, args', u0'⟩, ty, ps, af, none⟩ :: r) ⟨ff, hp, n⟩ K =
    coreP (mark (match args'.toList.map (evF ff) with
    | [.int k a, .int k' b] => if k = k' then some ((.int k (if b < a then b else a)), hp, (n0 + kk)) else none
    | _ => none)) fun v h' => OpsP X fx dsts n0 (kk + 1) r ⟨upd ff d v, h', n⟩ K := OpsP_core (fun _ => rfl) rfl rfl
theorem ops_call_max (args') (u0') : OpsP X fx dsts n0 kk (⟨(some d), .call ⟨.builtin .max, args', u0'⟩, ty, ps, af, none⟩ :: r) ⟨ff, hp, n⟩ K =
    coreP (mark (match args'.toList.map (evF ff) with
    | [.int k a, .int k' b] => if k = k' then some ((.int k (if b > a then b else a)), hp, (n0 + kk)) else none
    | _ => none)) fun v h' => OpsP X fx dsts n0 (kk + 1) r ⟨upd ff d v, h', n⟩ K := OpsP_core (fun _ => rfl) rfl rfl
theorem ops_call_append (args') (tys') : OpsP X fx dsts n0 kk (⟨(some d), .call ⟨.builtin .append, args', tys'⟩, ty, ps, af, none⟩ :: r) ⟨ff, hp, n⟩ K =
    coreP (mark (match args'.toList.map (evF ff) with
    | [s, x] => match elems hp s, elems hp x with
      | some (es, kb), some (xs, kx) =>
        let e := (X.ti (tys'.getD 0 0)).elem
        let kp := X.keepT e
        if ((kb || kx) && !kp) || !(xs.all fun v => v.cells.length == (X.ti e).size) then none else
        if (es.length + xs.length) * (X.ti e).bytes ≤ 2 ^ 47 ∧ es.length + xs.length ≤ 2 ^ 62 then
          match s with
          | .sl true [] => some ((.hdr (n0 + kk) 0 xs.length), upd hp (n0 + kk) (some ⟨(X.ti e).size, xs, kp⟩), (n0 + kk) + 1)
          | .sl true _ => if kx || !(es.all fun v => v.cells.length == (X.ti e).size) then none else some ((.sl false (es ++ xs)), hp, (n0 + kk))
          | .hdr id _ _ => match hp id with
            | some ob => if ob.k = (X.ti e).size then some ((.hdr (n0 + kk) 0 (es.length + xs.length)), upd (upd hp id none) (n0 + kk) (some ⟨(X.ti e).size, es ++ xs, kp⟩), (n0 + kk) + 1) else none
            | none => none
          | _ => none
        else none
      | _, _ => none
    | _ => none)) fun v h' => OpsP X fx dsts n0 (kk + 1) r ⟨upd ff d v, h', n⟩ K := OpsP_core (fun _ => rfl) rfl rfl
theorem ops_call_copy (args') (tys') : OpsP X fx dsts n0 kk (⟨(some d), .call ⟨.builtin .copy, args', tys'⟩, ty, ps, af, none⟩ :: r) ⟨ff, hp, n⟩ K =
    coreP (mark (match args'.toList.map (evF ff) with
    | [.hdr id s l, x] => match hp id, elems hp x with
      | some ob, some (xs, kx) =>
        if x.isStr || (kx && !ob.keep) || !(xs.all fun v => v.cells.length == ob.k) then none else
        if s + l ≤ ob.es.length ∧ ob.k = (X.ti (X.ti (tys'.getD 0 0)).elem).size then
          some ((.int .i64 (min xs.length l : Nat)), upd hp id (some { ob with es := ob.es.take s ++ xs.take (min xs.length l) ++ ob.es.drop (s + min xs.length l) }), (n0 + kk))
        else none
      | _, _ => none
    | _ => none)) fun v h' => OpsP X fx dsts n0 (kk + 1) r ⟨upd ff d v, h', n⟩ K := OpsP_core (fun _ => rfl) rfl rfl
theorem ev_tmp (t : Nat) : evF ff (.tmp t) = ff t := rfl
theorem ev_const (v : Value) : evF ff (.const v) = ofVal v := rfl
theorem ev_fn (g : FuncId) : evF ff (.func g) = .fn g [] [] := rfl
theorem set_some (S : St) (t : Nat) (v : V) : S.set (some t) v = ⟨upd S.f t v, S.h, S.n⟩ := rfl
theorem set_none (S : St) (v : V) : S.set none v = S := rfl
end

attribute [simp ↓] seqQ_normal seqQ_exit seqQ_ret blkQ_normal blkQ_exit blkQ_ret loopQ_normal loopQ_exit loopQ_ret endQ_normal endQ_ret endQ_exit Wp_skip Wp_exit Wp_ret Wp_seq Wp_cond Wp_block Wp_ops OpsP_nil ops_guard ops_call ops_move ops_assign ops_pick ops_alloc ops_box ops_build ops_buildSlice ops_load ops_store ops_nilCheck ops_binOp ops_unOp ops_convert ops_makeFunc ops_makeSlice ops_slice ops_fieldAddr ops_indexAddr ops_index ops_extract ops_call_len ops_call_min ops_call_max ops_call_append ops_call_copy
attribute [simp ↓] rd_load
attribute [simp] stb_nil stb_cons bindL_cons bindL_nil rd_load bindP_some bindP_none choose_true choose_false gcase_skip gcase_yes gcase_yes' gcase_no gcase_no' beq_int evCall_eq
attribute [simp] V.own1.eq_1 V.own1.eq_2 V.own1.eq_3 V.own0.eq_1 V.own0.eq_2 V.scalar.eq_1 V.scalar.eq_2 V.leaf1.eq_1 V.leaf1.eq_2 V.leaf.eq_1 V.leaf.eq_2 V.leaf.eq_3 V.leaf.eq_4 V.leaf.eq_5 toImm.eq_1 toImm.eq_2 toImm.eq_3 toImm.eq_4 toImm.eq_5 toImm.eq_6 toImm.eq_7 toImm.eq_8 toImm.eq_9 toImm.eq_10 dullL.eq_1 dullL.eq_2 V.dull.eq_1 V.dull.eq_2 V.dull.eq_3 V.dull.eq_4 gval.eq_1 gdst.eq_1 depth.eq_1
attribute [simp] mark_eq coreP_some coreP_none ev_tmp ev_const ev_fn set_some set_none
attribute [simp 700] bindP_need bindP_needn coreP_need coreP_needn
attribute [simp 500] bindP_ite choose_bool gcase_bool gcase_bool'

end Go.Abs
