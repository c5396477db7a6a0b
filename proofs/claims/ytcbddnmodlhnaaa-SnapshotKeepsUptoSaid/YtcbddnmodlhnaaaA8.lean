/- The simulation of the operations, one by one. -/
import Derived.Test.YtcbddnmodlhnaaaA7
set_option linter.unusedVariables false
set_option linter.unusedSimpArgs false
namespace Go.Abs
open Go

def sliceB (P : Program) (t : TypeId) (x : TI) : Bool :=
  match P.underlying t with
  | some (.slice e) => e == x.elem
  | _ => false

def scalB (P : Program) (t : TypeId) : Bool :=
  match P.underlying t with
  | some .bool | some (.int _) | some .string => true
  | _ => false

def kdB (P : Program) (t : TypeId) (kd : Nat) : Bool :=
  match P.underlying t, kd with
  | some (.int _), 0 => true
  | some .bool, 1 => true
  | some .string, 2 => true
  | _, _ => false

def fldsB (P : Program) : Nat → List Field → List Nat → Bool
  | _, [], [] => true
  | j, f :: fs, k :: ks => f.name != "_" && f.offset == j && kdB P f.type k && fldsB P (j + 1) fs ks
  | _, _, _ => false

/-- types whose values are held against each other cell by cell -/
def eqB (P : Program) (t : TypeId) (ag : Bool) (shp : List Nat) : Bool :=
  match P.underlying t with
  | some (.struct fs) => ag && (shp == [] || (!(P.stoodInHeld t) && !(P.eqGuardType P.depth t) && fldsB P 0 fs.toList shp))
  | some .bool => !ag && shp == [1]
  | some (.pointer _) => !ag && shp == [3]
  | some (.array _ _) => ag && shp == [9]
  | _ => !ag && (shp == [] || shp == [0] || shp == [2])

def tB (X : Env) (t : TypeId) : Bool := tiB X.P t (X.ti t)

def opB (X : Env) (nt : Nat) (o : Oper) : Bool :=
  (match o.dst with | some d => decide (d < nt) | none => true) && o.op.operands.toList.all opdB &&
  (match o.op with
  | .alloc t | .box t _ | .load t _ | .fieldAddr t _ _ => tB X t
  | .store t _ _ => tB X t && o.dst == none
  | .build t _ => tB X t && ((X.ti t).arr == none || tB X (X.ti t).elem)
  | .buildSlice t n _ => sliceB X.P t (X.ti t) && tB X (X.ti t).elem && decide (n * (X.ti (X.ti t).elem).size ≤ 2 ^ 24)
  | .makeSlice t _ _ => sliceB X.P t (X.ti t) && tB X (X.ti t).elem
  | .indexAddr t _ _ => (((X.ti t).arr == none && sliceB X.P t (X.ti t)) || (tB X t && (X.ti t).arr != none)) && tB X (X.ti t).elem
  | .index t _ _ => tB X t && ((X.ti t).arr == none || tB X (X.ti t).elem) && ((X.ti t).arr != none || (match X.P.underlying t with | some .string => true | _ => false))
  | .convert s d _ => tB X d && (X.P.underlying s).isSome
  | .binOp .eql t _ _ _ | .binOp .neq t _ _ _ => eqB X.P t (X.ti t).agg (X.ti t).shp
  | .slice t _ _ _ _ => match X.P.underlying t with | some (.slice e) => !(X.ti t).isStr && e == (X.ti t).elem && tB X e | some .string => (X.ti t).isStr | _ => false
  | .call ⟨.builtin .append, args, tys⟩ | .call ⟨.builtin .copy, args, tys⟩ => args.size == 2 && (match tys.toList with
      | t :: u :: _ => sliceB X.P t (X.ti t) && tB X (X.ti t).elem && (match X.P.underlying u with
        | some (.slice _) => true
        | some .string => true
        | _ => false)
      | _ => false)
  | .call ⟨.builtin .len, args, tys⟩ => args.size == 1 && (match tys.toList with
      | t :: _ => (match X.P.underlying t with | some (.slice _) => !(X.ti t).isStr | some .string => (X.ti t).isStr | _ => false)
      | _ => false)
  | _ => true)

/-- what an operation leaves -/
def Out (X : Env) (o : Oper) (a : Act) (w : World) (I : Nat → Prop) (σ : Sig) (S S1 : St) : Prop :=
  ∃ nx w' I' σ' u v, (execOp a.eval o).run X.P w = .ok nx w' ∧ (nx = .value u ∨ (nx = .skip ∧ u = undef)) ∧
    Step w I σ S.h S.n w' I' σ' S1.h S1.n ∧ S1.f = (S.set o.dst v).f ∧ Rep w' I' σ' v u

section
variable {X : Env} {o : Oper} {a : Act} {w : World} {I : Nat → Prop} {σ : Sig} {S S1 : St}

theorem set_h (S : St) (d : Option Nat) (v : V) : (S.set d v).h = S.h := by cases d <;> rfl
theorem set_n (S : St) (d : Option Nat) (v : V) : (S.set d v).n = S.n := by cases d <;> rfl
theorem set_f (S S' : St) (d : Option Nat) (v : V) (h : S'.f = S.f) : (S'.set d v).f = (S.set d v).f := by cases d <;> simp [St.set, h]

theorem Out.pure {u : Value} {v : V} (R : Rel w I σ S.h) (h : (execOp a.eval o).run X.P w = .ok (.value u) w) (hr : Rep w I σ v u) (hs : S1 = S.set o.dst v) : Out X o a w I σ S S1 := by
  subst hs
  refine ⟨_, w, I, σ, u, v, h, .inl rfl, ?_, rfl, hr⟩
  rw [set_h, set_n]
  exact Step.refl R _

/-- what holds of the operands of an operation that is looked at -/
def Opds (o : Oper) : Prop := ∀ x ∈ o.op.operands.toList, opdB x = true

theorem rep_int {k : IntKind} {n : Int} {u : Value} (h : Rep w I σ (.int k n) u) : u = .int k n := by simpa [Rep] using h
theorem rep_bool {b : Bool} {u : Value} (h : Rep w I σ (.bool b) u) : u = .bool b := by simpa [Rep] using h

theorem sim_pick {c x y : Operand} (ho : o.op = .pick c x y) (R : Rel w I σ S.h) (F : FRel w I σ S.f a) (hx : Opds o) {t : Bool} (hc : S.ev c = .bool t)
    (hs : S1 = S.set o.dst (if t then S.ev x else S.ev y)) : Out X o a w I σ S S1 := by
  have h1 := ev_rep (S := S) F (hx c (by simp [ho, Op.operands]))
  have h2 := ev_rep (S := S) F (hx x (by simp [ho, Op.operands]))
  have h3 := ev_rep (S := S) F (hx y (by simp [ho, Op.operands]))
  rw [hc] at h1
  have hb := rep_bool h1
  refine Out.pure (u := if t then a.eval x else a.eval y) R ?_ ?_ hs
  · simp [execOp, ho, hb, asBool]
  · cases t <;> simp [h2, h3]

theorem sim_move {x : Operand} (ho : o.op = .move x ∨ o.op = .assign x) (R : Rel w I σ S.h) (F : FRel w I σ S.f a) (hx : Opds o) (hs : S1 = S.set o.dst (S.ev x)) : Out X o a w I σ S S1 := by
  have h1 : Rep w I σ (S.ev x) (a.eval x) := ev_rep (S := S) F (hx x (by rcases ho with h | h <;> simp [h, Op.operands]))
  refine Out.pure (u := a.eval x) R ?_ h1 hs
  rcases ho with h | h <;> simp [execOp, h]

theorem run_zero {P : Program} {t : TypeId} {x : TI} (T : TIOk P t x) (w : World) : ∃ z, (zeroValue t).run P w = .ok z w ∧ zeroB x.zero z = true := by
  obtain ⟨i, z, hi, _, _, hz, hb⟩ := T.info
  exact ⟨z, by simp [zeroValue, typeInfo, hi, hz], hb⟩

theorem sim_alloc {t : TypeId} (ho : o.op = .alloc t) (T : TIOk X.P t (X.ti t)) (R : Rel w I σ S.h) (hn : S.h S.n = none) (hsn : σ S.n = none)
    (hs : S1 = (S.new ⟨(X.ti t).size, [(X.ti t).zero], true⟩).set o.dst (.ptr S.n 0 0)) : Out X o a w I σ S S1 := by
  subst hs
  obtain ⟨z, hz, hb⟩ := run_zero T w
  have hrz : Rep w I σ (X.ti t).zero z := zero_rep T hb
  refine ⟨_, w.alloc (.cells z.cells t), I, upd σ S.n (some (w.heap.size, 0, (X.ti t).size)), .pointer (some ⟨w.heap.size, 0, none⟩), .ptr S.n 0 0, ?_, .inl rfl, ?_, ?_, ?_⟩
  · simp [execOp, ho, Instr.alloc, hz, newVar, newRow]
  · rw [set_h, set_n]
    refine new_sim R z.cells hn hsn ?_ (box_row R hsn hrz T.zfit)
    have := (hrz.cells T.zfit)
    have hl := (RepC_iff _ _).1 this.2
    simp at hl ⊢; omega
  · exact set_f _ _ _ _ rfl
  · simp only [Rep]
    exact ⟨w.heap.size, 0, (X.ti t).size, by simp [upd], by simp⟩

theorem sim_box {t : TypeId} {x : Operand} (ho : o.op = .box t x) (R : Rel w I σ S.h) (F : FRel w I σ S.f a) (hx : Opds o) (hn : S.h S.n = none) (hsn : σ S.n = none)
    (hf : (S.ev x).fits (X.ti t).size = true) (hs : S1 = (S.new ⟨(X.ti t).size, [S.ev x], true⟩).set o.dst (.ptr S.n 0 0)) : Out X o a w I σ S S1 := by
  subst hs
  have hrz : Rep w I σ (S.ev x) (a.eval x) := ev_rep (S := S) F (hx x (by simp [ho, Op.operands]))
  refine ⟨_, w.alloc (.cells (a.eval x).cells t), I, upd σ S.n (some (w.heap.size, 0, (X.ti t).size)), .pointer (some ⟨w.heap.size, 0, none⟩), .ptr S.n 0 0, ?_, .inl rfl, ?_, ?_, ?_⟩
  · simp [execOp, ho, Instr.box, newVar, newRow]
  · rw [set_h, set_n]
    refine new_sim R (a.eval x).cells hn hsn ?_ (box_row R hsn hrz hf)
    have := (hrz.cells hf)
    have hl := (RepC_iff _ _).1 this.2
    simp at hl ⊢; omega
  · exact set_f _ _ _ _ rfl
  · simp only [Rep]
    exact ⟨w.heap.size, 0, (X.ti t).size, by simp [upd], by simp⟩

theorem sim_load_ptr {t : TypeId} {x : Operand} (ho : o.op = .load t x) (T : TIOk X.P t (X.ti t)) (R : Rel w I σ S.h) (F : FRel w I σ S.f a) (hx : Opds o)
    {id i f : Nat} {ob : Ob} {e v : V} (he : S.ev x = .ptr id i f) (hob : S.h id = some ob) (hi : ob.es[i]? = some e) (hv : part (X.ti t) e.cells f = some v) (hs : S1 = S.set o.dst v) : Out X o a w I σ S S1 := by
  have h1 : Rep w I σ (S.ev x) (a.eval x) := ev_rep (S := S) F (hx x (by simp [ho, Op.operands]))
  rw [he] at h1
  simp only [Rep] at h1
  obtain ⟨b, of, k, hsg, hu⟩ := h1
  obtain ⟨b', o', c, el, hs', hI, hb, hsz, hrow⟩ := R.at hob hi
  rw [hsg] at hs'
  simp only [Option.some.injEq, Prod.mk.injEq] at hs'
  obtain ⟨rfl, rfl, rfl⟩ := hs'
  have hc := (hrow.get hi).2.ext (Ext.freeOf ob.keep) rfl
  obtain ⟨u, hld, hr⟩ := load_sim T (f := f) hc hv
  refine Out.pure (u := u) R ?_ hr hs
  simp [execOp, ho, hu, Instr.loadAt, Instr.sureAddr, hld]

theorem sim_load_ref {t : TypeId} {x : Operand} (ho : o.op = .load t x) (T : TIOk X.P t (X.ti t)) (R : Rel w I σ S.h) (F : FRel w I σ S.f a) (hx : Opds o)
    {cs : List V} {v : V} (he : S.ev x = .ref cs) (hv : part (X.ti t) cs 0 = some v) (hs : S1 = S.set o.dst v) : Out X o a w I σ S S1 := by
  have h1 : Rep w I σ (S.ev x) (a.eval x) := ev_rep (S := S) F (hx x (by simp [ho, Op.operands]))
  rw [he] at h1
  simp only [Rep] at h1
  obtain ⟨b, of, hu, hI, hc⟩ := h1
  rw [RepAt_iff] at hc
  obtain ⟨u, hld, hr⟩ := load_sim T (f := 0) hc hv
  refine Out.pure (u := u) R ?_ (hr.ext Ext.free) hs
  simp only [Nat.add_zero] at hld
  simp [execOp, ho, hu, Instr.loadAt, Instr.sureAddr, hld]

theorem run_fieldAt {P : Program} {t : TypeId} {x : TI} (T : TIOk P t x) {i off k : Nat} (hf : x.flds[i]? = some (off, k)) (w : World) (b p : Nat) :
    (Instr.fieldAt t (.pointer (some ⟨b, p, none⟩)) i).run P w = .ok (.pointer (some ⟨b, p + off, none⟩)) w := by
  obtain ⟨d, hd, hb⟩ := T.und
  cases d with
  | struct fs =>
    simp only [descB, Bool.and_eq_true, beq_iff_eq] at hb
    obtain ⟨⟨⟨⟨_, hfl⟩, _⟩, _⟩, hpos⟩ := hb
    rw [hfl, List.getElem?_map] at hf
    cases hfi : fs.toList[i]? with
    | none => simp [hfi] at hf
    | some fd =>
      simp [hfi] at hf
      obtain ⟨rfl, rfl⟩ := hf
      have hfa : fs[i]? = some fd := by simpa using hfi
      have hp := List.all_eq_true.1 hpos fd (List.mem_of_getElem? hfi)
      simp at hp
      have hsz : (sizeOf fd.type).run P w = .ok (P.cellsOf fd.type) w := by
        unfold Program.cellsOf at hp ⊢
        cases hi : P.info? fd.type with
        | none => simp [hi] at hp
        | some i => simp [sizeOf, typeInfo, hi]
      simp [Instr.fieldAt, run_underlying hd, hfa, Instr.sureAddr, fieldPlace, hsz, Nat.ne_of_gt hp, add_at]
  | _ =>
    exfalso
    simp [descB] at hb
    simp [hb] at hf

theorem sim_fieldAddr {t : TypeId} {x : Operand} {i : Nat} (ho : o.op = .fieldAddr t x i) (T : TIOk X.P t (X.ti t)) (R : Rel w I σ S.h) (F : FRel w I σ S.f a) (hx : Opds o)
    {off k : Nat} (hf : (X.ti t).flds[i]? = some (off, k)) {v : V} (hv : (∃ id j f, S.ev x = .ptr id j f ∧ v = .ptr id j (f + off)) ∨ (∃ cs, S.ev x = .ref cs ∧ v = .ref (cs.drop off)))
    (hs : S1 = S.set o.dst v) : Out X o a w I σ S S1 := by
  have h1 : Rep w I σ (S.ev x) (a.eval x) := ev_rep (S := S) F (hx x (by simp [ho, Op.operands]))
  rcases hv with ⟨id, j, f, he, rfl⟩ | ⟨cs, he, rfl⟩
  · rw [he] at h1
    simp only [Rep] at h1
    obtain ⟨b, of, k', hsg, hu⟩ := h1
    refine Out.pure (u := .pointer (some ⟨b, of + j * k' + f + off, none⟩)) R ?_ ?_ hs
    · simp [execOp, ho, hu, run_fieldAt T hf]
    · simp only [Rep]
      exact ⟨b, of, k', hsg, by rw [Nat.add_assoc]⟩
  · rw [he] at h1
    simp only [Rep] at h1
    obtain ⟨b, of, hu, hI, hc⟩ := h1
    refine Out.pure (u := .pointer (some ⟨b, of + off, none⟩)) R ?_ ?_ hs
    · simp [execOp, ho, hu, run_fieldAt T hf]
    · simp only [Rep]
      refine ⟨b, of + off, rfl, hI, ?_⟩
      rw [RepAt_iff] at hc ⊢
      intro q c hq
      rw [List.getElem?_drop] at hq
      have := hc (off + q) c hq
      rwa [show of + (off + q) = of + off + q by omega] at this

end
end Go.Abs
