/- The equations by which simp carries the interpreter out. -/
import Derived.Test.YtcbddnmodlhnaaaA2
set_option linter.unusedVariables false
set_option linter.unusedSimpArgs false
namespace Go.Abs
open Go

section
variable (X : Env) (f : FuncId) (S : St)
theorem ev_skip : ev X f .skip S = some (.normal, S) := by rw [ev_eq]; rfl
theorem ev_exit (id : Nat) : ev X f (.exit id) S = some (.exit id, S) := by rw [ev_eq]; rfl
theorem ev_ret : ev X f .ret S = some (.ret, S) := by rw [ev_eq]; rfl
open Classical in
theorem ev_region (id : Nat) (ops : Array Oper) (d : Bool) : ev X f (.region id ops d) S =
    (match evOps X (callL X) f (ops.toList.map (·.dst)) S.n 0 ops.toList { S with n := S.n + ops.size } with
    | some S1 => if Stable X (callL X) f ops.toList S.n { S with n := S.n + ops.size } S1 (X.exc f id) then some (.normal, S1) else none
    | none => none) := by rw [ev_eq]; rfl
theorem ev_seq (a b : Code) : ev X f (.seq a b) S = (match ev X f a S with | some (.normal, S1) => ev X f b S1 | r => r) := by rw [ev_eq]; rfl
theorem ev_cond (x : Operand) (a b : Code) : ev X f (.cond x a b) S = (match S.ev x with | .bool t => if t then ev X f a S else ev X f b S | _ => none) := by rw [ev_eq]; rfl
theorem ev_block (id : Nat) (b : Code) : ev X f (.block id b) S = (match ev X f b S with | some (.exit i, S1) => if i = id then some (.normal, S1) else some (.exit i, S1) | r => r) := by rw [ev_eq]; rfl
theorem ev_loop (b : Code) : ev X f (.loop b) S = (match ev X f b S with | some (.normal, S1) => ev X f (.loop b) S1 | r => r) := by rw [ev_eq]; rfl
end

/-- what follows a piece of code -/
def andThen (r : Option (Ex × St)) (k : Ex → St → Option (Ex × St)) : Option (Ex × St) :=
  match r with
  | some (e, S) => k e S
  | none => none

theorem stable_nil (X : Env) (call : CallT) (fid : FuncId) (ops : List Oper) (n0 : Nat) (S0 S1 : St) : Stable X call fid ops n0 S0 S1 [] = True := by
  simp [Stable]

theorem upd_same {α : Type} (f : Nat → α) (t : Nat) (v : α) : upd f t v t = v := by simp [upd]
theorem upd_apply {α : Type} (f : Nat → α) (t : Nat) (v : α) (u : Nat) : upd f t v u = if u = t then v else f u := rfl

theorem callL_eq {X : Env} {g : FuncId} {fn : Func} {b : Code} (hf : X.P.funcs[g]? = some fn) (hb : fn.body = some b) (args : List V) (h : Heap) (k : Nat) :
    callL X g args h k = retV X fn.results.toList (ev X g b ⟨enterF args, h, k⟩) := by
  unfold callL callWith
  simp only [hf, hb]

theorem cells_agg (cs : List V) : (V.agg cs).cells = cs := rfl
theorem cells_int (k : IntKind) (n : Int) : (V.int k n).cells = [.int k n] := rfl
theorem cells_bool (b : Bool) : (V.bool b).cells = [.bool b] := rfl
theorem cells_str (s : List UInt8) : (V.str s).cells = [.str s] := rfl
theorem cells_sl (c : Bool) (es : List V) : (V.sl c es).cells = [.sl c es] := rfl
theorem cells_hdr (i s l : Nat) : (V.hdr i s l).cells = [.hdr i s l] := rfl
theorem cells_ptr (i s l : Nat) : (V.ptr i s l).cells = [.ptr i s l] := rfl
theorem cells_nilp : V.nilp.cells = [.nilp] := rfl
theorem cells_ref (cs : List V) : (V.ref cs).cells = [.ref cs] := rfl
theorem cells_fn (g : FuncId) (a b : List V) : (V.fn g a b).cells = [.fn g a b] := rfl
attribute [simp] cells_agg cells_int cells_bool cells_str cells_sl cells_hdr cells_ptr cells_nilp cells_ref cells_fn
attribute [simp] stable_nil
theorem enterF_eq (args : List V) (t : Nat) : enterF args t = (match args[t]? with | some v => v | none => .bad) := rfl
attribute [simp] upd_apply enterF_eq St.new.eq_1 ofVal.eq_1 ofVal.eq_2 ofSc.eq_1 ofSc.eq_2 ofSc.eq_3 ofSc.eq_4 ofSc.eq_5 ofSc.eq_6 Go.Abs.part.eq_1 lenV.eq_1 lenV.eq_2 lenV.eq_3 lenV.eq_4 elems.eq_1 elems.eq_2 elems.eq_3 elems.eq_4 binV.eq_1 binV.eq_2 binV.eq_3 binV.eq_4 binV.eq_5 binV.eq_6 binV.eq_7 binV.eq_8 binV.eq_9 binV.eq_10 binV.eq_11 binV.eq_12 binV.eq_13 binV.eq_14 binV.eq_15 binV.eq_16 binV.eq_17 int2.eq_1 int2.eq_2 unV.eq_1 unV.eq_2 unV.eq_3 eqV.eq_1 eqV.eq_2 eqV.eq_3 eqV.eq_4 eqV.eq_5 eqV.eq_6 eqV.eq_7 eqV.eq_8 V.eqv.eq_1 V.eqv.eq_2 V.eqv.eq_3 V.eqv.eq_4 eqvL.eq_1 eqvL.eq_2 eqvL.eq_3 V.put.eq_1 V.put.eq_2 splice.eq_1 splice.eq_2 splice.eq_3 splice.eq_4 splice.eq_5 fillS.eq_1 fillS.eq_2 fillE.eq_1 fillE.eq_2 V.fits.eq_1 V.fits.eq_2 V.fits.eq_3 V.fits.eq_4 give.eq_1 give.eq_2 giveL.eq_1 giveL.eq_2 give0.eq_1 give0.eq_2 giveP.eq_1 giveP.eq_2 V.imm0.eq_1 V.imm0.eq_2 V.imm0.eq_3 V.imm0.eq_4 V.imm0.eq_5 V.imm0.eq_6 V.imm0.eq_7 V.isStr.eq_1 V.isStr.eq_2 TI.isStr.eq_1 allSome.eq_1 allSome.eq_2 allSome.eq_3 resultsV.eq_1 retV.eq_1 retV.eq_2 retV.eq_3 bnd.eq_1 bnd.eq_2 bnd.eq_3 bounds.eq_1 nat?.eq_1 nat?.eq_2

end Go.Abs
