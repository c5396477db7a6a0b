/- Part of a proof: A1, A2, A4, G0, A5. -/
import Derived.Calls
import Derived.Lib.ItoaNum
import Derived.WalkKit
set_option linter.all false
set_option maxRecDepth 100000
set_option maxHeartbeats 20000000
namespace Go.Abs
open Go
inductive V where
  | int (k : IntKind) (n : Int)
  | bool (b : Bool)
  | str (s : List UInt8)
  | agg (cs : List V)
  | tup (vs : List V)
  | sl (clip : Bool) (es : List V)
  | ref (cs : List V)
  | hdr (id start len : Nat)
  | ptr (id i f : Nat)
  | nilp
  | ifc (b : Bool)
  | fn (g : FuncId) (first caps : List V)
  | bad
  deriving Inhabited
def V.cells : V → List V
  | .agg cs => cs
  | v => [v]
structure Ob where
  k : Nat
  es : List V
  keep : Bool
  deriving Inhabited
structure TI where
  size : Nat
  bytes : Nat
  agg : Bool
  zero : V
  elem : Nat
  flds : List (Nat × Nat)
  arr : Option Nat
  kind : Option IntKind
  shp : List Nat
  deriving Inhabited
abbrev Heap := Nat → Option Ob
structure St where
  f : Nat → V
  h : Heap
  n : Nat
abbrev CallT := FuncId → List V → Heap → Nat → Option (V × Heap × Nat)
inductive Loc where
  | box (t : Nat)
  | slot (t : Nat)
  | cell (t j : Nat)
  deriving DecidableEq
structure Gr where
  loc : Loc
  new : Nat
  k : Nat
  keep : Bool
structure Norm where
  temps : List Nat
  roots : List Gr
  base : Bool
  n : Nat
structure Prim where
  run : CallT → List V → Option V
  mono : ∀ (c d : CallT) as v, (∀ g a h k r, c g a h k = some r → d g a h k = some r) → run c as = some v → run d as = some v
  cont : ∀ (c : Nat → CallT) (d : CallT) as v, (∀ n g a h k r, c n g a h k = some r → c (n + 1) g a h k = some r) → (∀ g a h k r, d g a h k = some r → ∃ n, c n g a h k = some r) → run d as = some v → ∃ n, run (c n) as = some v
structure Env where
  P : Program
  ti : TypeId → TI
  thaw : FuncId → Nat → Bool
  byref : FuncId → Bool
  inout : FuncId → Bool
  clone : FuncId → Option TypeId
  prim : FuncId → Option Prim
  flat : FuncId → Nat → Bool := fun _ _ => false
  keepT : FuncId → TypeId → Bool
  exc : FuncId → Nat → List (Nat × Nat)
  norm : FuncId → Nat → Option Norm
  low : FuncId → Bool
  mask : FuncId → Nat → List (Nat × Nat × TypeId)
  omask : FuncId → List (Nat × Nat × TypeId)
def upd {α : Type} (f : Nat → α) (t : Nat) (v : α) : Nat → α := fun u => if u = t then v else f u
def St.set (S : St) (d : Option Nat) (v : V) : St :=
  match d with
  | some t => { S with f := upd S.f t v }
  | none => S
def St.new (S : St) (o : Ob) : St := { S with h := upd S.h S.n (some o), n := S.n + 1 }
def ofSc : Value → V
  | .bool b => .bool b
  | .int k n => .int k n
  | .string s => .str s.data.toList
  | .pointer none => .nilp
  | .nilIface => .ifc false
  | .slice none 0 0 => .sl true []
  | _ => .bad
def ofVal : Value → V
  | .agg cs => .agg (cs.toList.map ofSc)
  | v => ofSc v
def St.ev (S : St) : Operand → V
  | .tmp t => S.f t
  | .const v => ofVal v
  | .func g => .fn g [] []
  | .global _ => .bad
def allSome {α : Type} : List (Option α) → Option (List α)
  | [] => some []
  | none :: _ => none
  | some a :: r => match allSome r with | some l => some (a :: l) | none => none
mutual
def V.dull : V → V
  | .sl _ es => .sl false (dullL es)
  | .agg cs => .agg (dullL cs)
  | .tup cs => .tup (dullL cs)
  | v => v
def dullL : List V → List V
  | [] => []
  | c :: cs => c.dull :: dullL cs
end
def toImm (h : Heap) : Nat → V → Option V
  | _, .int k n => some (.int k n)
  | _, .bool b => some (.bool b)
  | _, .str s => some (.str s)
  | _, .sl c es => some (.sl c es)
  | _, .nilp => some .nilp
  | _, .ifc b => some (.ifc b)
  | _, .fn g [] [] => some (.fn g [] [])
  | d + 1, .agg cs => match allSome (cs.map (toImm h d)) with | some l => some (.agg l) | none => none
  | d + 1, .tup cs => match allSome (cs.map (toImm h d)) with | some l => some (.tup l) | none => none
  | d + 1, .hdr id s l =>
    match h id with
    | some o =>
      if s + l ≤ o.es.length then
        if o.keep then match allSome (((o.es.drop s).take l).map (toImm h d)) with | some l => some (.sl false l) | none => none
        else some (.sl false ((o.es.drop s).take l))
      else none
    | none => none
  | _, _ => none
def depth : Nat := 12
def V.imm0 : V → Bool
  | .int .. => true
  | .bool _ => true
  | .str _ => true
  | .sl .. => true
  | .nilp => true
  | .ifc _ => true
  | .fn _ [] [] => true
  | _ => false
def V.imm1 : V → Bool
  | .agg cs => cs.all V.imm0
  | v => v.imm0
def give0 (h : Heap) (v : V) : Option (V × Heap) :=
  match v with
  | .hdr id s l => match h id with
    | some ob => if (!ob.keep || ob.es.all V.imm1) && decide (s + l ≤ ob.es.length) then some ((V.sl false ((ob.es.drop s).take l)).dull, upd h id none) else none
    | none => none
  | v => if v.imm0 then some (v.dull, h) else none
def giveL (h : Heap) : List V → Option (List V × Heap)
  | [] => some ([], h)
  | c :: cs => match give0 h c with
    | some (c', h1) => match giveL h1 cs with
      | some (cs', h2) => some (c' :: cs', h2)
      | none => none
    | none => none
def give (h : Heap) (v : V) : Option (V × Heap) :=
  match v with
  | .agg cs => match giveL h cs with | some (cs', h') => some (.agg cs', h') | none => none
  | v => give0 h v
def giveP (h : Heap) : List (Nat × V) → Option (List (Nat × V) × Heap)
  | [] => some ([], h)
  | (i, v) :: r => match give h v with
    | some (v', h1) => match giveP h1 r with
      | some (r', h2) => some ((i, v') :: r', h2)
      | none => none
    | none => none
def V.leaf : V → Bool
  | .int .. => true
  | .bool _ => true
  | .str _ => true
  | .nilp => true
  | .ifc _ => true
  | _ => false
def V.leaf1 : V → Bool
  | .agg cs => cs.all V.leaf
  | v => v.leaf
def V.scalar : V → Bool
  | .tup vs => vs.all V.leaf1
  | v => v.leaf1
def V.own0 : V → Bool
  | .hdr .. => true
  | _ => false
def V.own1 : V → Bool
  | .agg cs => cs.any V.own0
  | .tup _ => true
  | v => v.own0
def splice : Nat → List V → List V → List V
  | 0, [], xs => xs
  | 0, c :: cs, _ :: xs => c :: splice 0 cs xs
  | 0, _ :: _, [] => []
  | n + 1, cs, x :: xs => x :: splice n cs xs
  | _ + 1, _, [] => []
def V.put (e : V) (f : Nat) (v : V) : V :=
  match e with
  | .agg xs => .agg (splice f v.cells xs)
  | _ => v
def part (t : TI) (cs : List V) (f : Nat) : Option V :=
  if t.agg then (if f + t.size ≤ cs.length then some (.agg ((cs.drop f).take t.size)) else none) else cs[f]?
def V.eqv (kd : Nat) : V → V → Option Bool
  | .int k a, .int k' b => if k = k' ∧ kd = 0 then some (a == b) else none
  | .bool a, .bool b => if kd = 1 then some (a == b) else none
  | .str a, .str b => if kd = 2 then some (a == b) else none
  | _, _ => none
def eqvL : List Nat → List V → List V → Option Bool
  | [], [], [] => some true
  | k :: ks, x :: xs, y :: ys => match V.eqv k x y, eqvL ks xs ys with | some a, some b => some (a && b) | _, _ => none
  | _, _, _ => none
def eqV (ag : Bool) (shp : List Nat) : V → V → Option Bool
  | .agg xs, .agg ys => if ag = true ∧ shp ≠ [] then eqvL shp xs ys else none
  | .int k a, .int k' b => if k = k' then some (a == b) else none
  | .bool a, .bool b => if ag = false ∧ shp = [1] then some (a == b) else none
  | .str a, .str b => some (a == b)
  | .nilp, .nilp => if ag = false ∧ shp = [3] then some true else none
  | .nilp, .ptr .. => if ag = false ∧ shp = [3] then some false else none
  | .ptr .., .nilp => if ag = false ∧ shp = [3] then some false else none
  | .ifc a, .ifc b => if ag = false ∧ shp = [4] ∧ (a && b) = false then some (a == b) else none
  | _, _ => none
def bits (k : IntKind) (op : BinOp) (x y : Int) : Int :=
  match op with
  | .and => k.wrap (BitVec.ofInt k.bits x &&& BitVec.ofInt k.bits y).toNat
  | .or => k.wrap (BitVec.ofInt k.bits x ||| BitVec.ofInt k.bits y).toNat
  | .xor => k.wrap (BitVec.ofInt k.bits x ^^^ BitVec.ofInt k.bits y).toNat
  | _ => k.wrap (BitVec.ofInt k.bits x &&& ~~~ BitVec.ofInt k.bits y).toNat
def int2 (x y : V) (f : IntKind → Int → Int → Option V) : Option V :=
  match x, y with
  | .int k a, .int k' b => if k = k' then f k a b else none
  | _, _ => none
def binV (ag : Bool) (shp : List Nat) (op : BinOp) (x y : V) : Option V :=
  match op with
  | .eql => match eqV ag shp x y with | some b => some (.bool b) | none => none
  | .neq => match eqV ag shp x y with | some b => some (.bool (!b)) | none => none
  | .add => match x, y with
    | .str a, .str b => if a.length + b.length ≤ 2 ^ 62 then some (.str (a ++ b)) else none
    | x, y => int2 x y fun k a b => some (.int k (k.wrap (a + b)))
  | .sub => int2 x y fun k a b => some (.int k (k.wrap (a - b)))
  | .mul => int2 x y fun k a b => some (.int k (k.wrap (a * b)))
  | .quo => int2 x y fun k a b => if b = 0 then none else some (.int k (k.wrap (a.tdiv b)))
  | .rem => int2 x y fun k a b => if b = 0 then none else some (.int k (a.tmod b))
  | .lss => int2 x y fun _ a b => some (.bool (decide (a < b)))
  | .leq => int2 x y fun _ a b => some (.bool (decide (a ≤ b)))
  | .gtr => int2 x y fun _ a b => some (.bool (decide (b < a)))
  | .geq => int2 x y fun _ a b => some (.bool (decide (b ≤ a)))
  | .shl => match x, y with | .int k a, .int _ b => if b < 0 then none else some (.int k (k.wrap (a * 2 ^ (min b.toNat k.bits)))) | _, _ => none
  | .shr => match x, y with | .int k a, .int _ b => if b < 0 then none else some (.int k (a.fdiv (2 ^ (min b.toNat k.bits)))) | _, _ => none
  | op => int2 x y fun k a b => some (.int k (bits k op a b))
def unV (op : UnOp) (x : V) : Option V :=
  match op, x with
  | .neg, .int k n => some (.int k (k.wrap (0 - n)))
  | .not, .bool b => some (.bool (!b))
  | _, _ => none
def elems (h : Heap) : V → Option (List V × Bool)
  | .sl _ es => some (es, false)
  | .hdr id s l => match h id with | some o => if s + l ≤ o.es.length then some ((o.es.drop s).take l, o.keep) else none | none => none
  | .str s => some (s.map fun b => .int .u8 b.toNat, false)
  | _ => none
def byteOf : V → Option UInt8
  | .int .u8 n => some (UInt8.ofNat n.toNat)
  | _ => none
def bytesOf (es : List V) : Option (List UInt8) := allSome (es.map byteOf)
def lenV : V → Option Nat
  | .sl _ es => some es.length
  | .hdr _ _ l => some l
  | .str s => some s.length
  | _ => none
def V.isStr : V → Bool
  | .str _ => true
  | _ => false
def V.isPtr : V → Bool
  | .ptr .. => true
  | _ => false
def TI.isStr (t : TI) : Bool := t.shp == [2]
def nat? : V → Option Int
  | .int _ n => some n
  | _ => none
def V.fits (v : V) (k : Nat) : Bool :=
  match v with
  | .agg cs => cs.length == k
  | .tup _ => false
  | .bad => false
  | _ => k == 1
def fillS (offs : List (Nat × Nat)) (cs : List V) : List (Nat × V) → Option (List V)
  | [] => some cs
  | (i, v) :: r => match offs[i]? with
    | some (o, k) => if v.fits k && decide (o + k ≤ cs.length) then fillS offs (splice o v.cells cs) r else none
    | none => none
def fillE (k : Nat) (es : List V) : List (Nat × V) → Option (List V)
  | [] => some es
  | (i, v) :: r => if v.fits k && decide (i < es.length) then fillE k (es.set i v) r else none
def killId (h : Heap) : V → Heap
  | .hdr id _ _ => upd h id none
  | _ => h
def bnd (d : Nat) (v : Option V) (m : Nat) : Option Nat :=
  match v with
  | none => some d
  | some (.int _ n) => if 0 ≤ n ∧ n ≤ m then some n.toNat else none
  | some _ => none
def bounds (lo hi : Option V) (len : Nat) : Option (Nat × Nat) :=
  match bnd len hi len with
  | some h => match bnd 0 lo h with
    | some l => some (l, h)
    | none => none
  | none => none
def convB (b : Bool) (k : Option IntKind) (h : Heap) (n : Nat) : V → Option (V × Heap × Nat)
  | .str s => if b = false ∧ k = some .u8 ∧ s.length ≤ 2 ^ 62 then some (.hdr n 0 s.length, upd h n (some ⟨1, s.map fun c => .int .u8 c.toNat, false⟩), n + 1) else none
  | _ => none
theorem convB_some {b : Bool} {k : Option IntKind} {h h1 : Heap} {n n1 : Nat} {v v1 : V} (he : convB b k h n v = some (v1, h1, n1)) :
    b = false ∧ k = some .u8 ∧ ∃ s, v = .str s ∧ s.length ≤ 2 ^ 62 ∧ v1 = .hdr n 0 s.length ∧ h1 = upd h n (some ⟨1, s.map fun c => .int .u8 c.toNat, false⟩) ∧ n1 = n + 1 := by
  cases v with
  | str s =>
    simp only [convB] at he
    split at he
    · rename_i hc
      simp only [Option.some.injEq, Prod.mk.injEq] at he
      obtain ⟨rfl, rfl, rfl⟩ := he
      exact ⟨hc.1, hc.2.1, s, rfl, hc.2.2, rfl, rfl, rfl⟩
    · cases he
  | _ => cases he
def evCore (X : Env) (fid : FuncId) (o : Oper) (ρ : Operand → V) (h0 : Heap) (n0 : Nat) : Option (V × Heap × Nat) :=
  match o.op with
  | .move x => some ((ρ x), h0, n0)
  | .assign x => some ((ρ x), h0, n0)
  | .pick c a b => match ρ c with | .bool t => some ((if t then ρ a else ρ b), h0, n0) | _ => none
  | .alloc t => some ((.ptr n0 0 0), upd h0 n0 (some ⟨(X.ti t).size, [(X.ti t).zero], true⟩), n0 + 1)
  | .box t x => if (ρ x).fits (X.ti t).size then some ((.ptr n0 0 0), upd h0 n0 (some ⟨(X.ti t).size, [ρ x], true⟩), n0 + 1) else none
  | .build t ps =>
    match (X.ti t).arr with
    | none => if (X.ti t).flds = [] then none else match fillS (X.ti t).flds (X.ti t).zero.cells (ps.toList.map fun p => (p.1, ρ p.2)) with
      | some cs => some ((.agg cs), h0, n0)
      | none => none
    | some m => match fillS ((List.range m).map fun i => (i * (X.ti (X.ti t).elem).size, (X.ti (X.ti t).elem).size)) (X.ti t).zero.cells (ps.toList.map fun p => (p.1, ρ p.2)) with
      | some cs => some ((.agg cs), h0, n0)
      | none => none
  | .buildSlice t n ps =>
    let e := (X.ti t).elem
    if X.keepT fid e then
      match fillE (X.ti e).size (List.replicate n (X.ti e).zero) (ps.toList.map fun p => (p.1, ρ p.2)) with
      | some es => some ((.hdr n0 0 n), upd h0 n0 (some ⟨(X.ti e).size, es, true⟩), n0 + 1)
      | none => none
    else if o.dst.any (X.flat fid) then
      match giveP (fun _ => none) (ps.toList.map fun p => (p.1, ρ p.2)) with
      | some (l, _) => match fillE (X.ti e).size (List.replicate n (X.ti e).zero) l with
        | some es => some ((.sl true es), h0, n0)
        | none => none
      | none => none
    else
    match giveP h0 (ps.toList.map fun p => (p.1, ρ p.2)) with
    | some (l, h) =>
      match fillE (X.ti e).size (List.replicate n (X.ti e).zero) l with
      | some es =>
        if o.dst.any (X.thaw fid) then some ((.hdr n0 0 n), upd (h) n0 (some ⟨(X.ti e).size, es, false⟩), n0 + 1)
        else some ((.sl true es), h, n0)
      | none => none
    | none => none
  | .load t a => match ρ a with
    | .ptr id i f => match h0 id with
      | some ob => match ob.es[i]? with
        | some e => match part (X.ti t) e.cells f with | some v => some (v, h0, n0) | none => none
        | none => none
      | none => none
    | .ref cs => match part (X.ti t) cs 0 with | some v => some (v, h0, n0) | none => none
    | _ => none
  | .store t a x => match ρ a with
    | .ptr id i f => match h0 id with
      | some ob =>
        match (if ob.keep then some (ρ x, h0) else give h0 (ρ x)) with
        | some (v, h) => match h id with
          | some ob => match ob.es[i]? with
            | some e => if v.fits (X.ti t).size && decide (f + (X.ti t).size ≤ e.cells.length) then some (.bad, upd h id (some { ob with es := ob.es.set i (e.put f v) }), n0) else none
            | none => none
          | none => none
        | none => none
      | none => none
    | _ => none
  | .nilCheck x => match ρ x with
    | .ptr id i f => some ((.ptr id i f), h0, n0)
    | .ref cs => some ((.ref cs), h0, n0)
    | .fn g a b => some ((.fn g a b), h0, n0)
    | _ => none
  | .binOp op t x y _ => match binV (X.ti t).agg (X.ti t).shp op (ρ x) (ρ y) with | some v => some (v, h0, n0) | none => none
  | .unOp op _ x => match unV op (ρ x) with | some v => some (v, h0, n0) | none => none
  | .convert _ d x => match (X.ti d).kind, ρ x with
    | some k, .int _ n => some ((.int k (k.wrap n)), h0, n0)
    | none, v => if (X.ti d).isStr = true ∧ v.isStr = false then (match elems h0 v with
      | some (es, _) => match bytesOf es with
        | some s => some (.str s, h0, n0)
        | none => none
      | none => none) else convB (X.ti d).isStr (X.ti (X.ti d).elem).kind h0 n0 v
    | _, _ => none
  | .makeFunc (.func g) a b => some ((.fn g (a.toList.map ρ) (b.toList.map ρ)), h0, n0)
  | .makeSlice t l c => match ρ l, ρ c with
    | .int _ n, .int _ m => if 0 ≤ n ∧ n ≤ m ∧ m * (X.ti (X.ti t).elem).bytes ≤ 2 ^ 47 ∧ m ≤ 2 ^ 62 then
        some ((.hdr n0 0 n.toNat), upd h0 n0 (some ⟨(X.ti (X.ti t).elem).size, List.replicate n.toNat (X.ti (X.ti t).elem).zero, X.keepT fid (X.ti t).elem⟩), n0 + 1) else none
    | _, _ => none
  | .slice t x lo hi mx =>
    if (ρ x).isStr = (X.ti t).isStr ∧ (ρ x).isPtr = (X.ti t).arr.isSome then
      match ρ x with
      | .sl _ es =>
        if es.all (fun e => e.cells.length == (X.ti (X.ti t).elem).size) then
          match mx with
          | none => match bounds (lo.map ρ) (hi.map ρ) es.length with | some (l, h) => some ((.sl false ((es.take h).drop l)), h0, n0) | none => none
          | some m => match ρ m, hi.map ρ with
            | .int _ p, some (.int _ q) => if p = q then (match bounds (lo.map ρ) (hi.map ρ) es.length with | some (l, h) => some ((.sl true ((es.take h).drop l)), h0, n0) | none => none) else none
            | _, _ => none
        else none
      | .hdr id s n =>
        match mx, h0 id with
        | none, some ob => if ob.k = (X.ti (X.ti t).elem).size then (match bounds (lo.map ρ) (hi.map ρ) n with | some (l, h) => some ((.hdr id (s + l) (h - l)), h0, n0) | none => none) else none
        | some m, some ob => if ob.k = (X.ti (X.ti t).elem).size then (match ρ m, hi.map ρ with
            | .int _ p, some (.int _ q) => if p = q then (match bounds (lo.map ρ) (hi.map ρ) n with | some (l, h) => some ((.hdr id (s + l) (h - l)), h0, n0) | none => none) else none
            | _, _ => none) else none
        | _, none => none
      | .str s => match mx with
        | none => match bounds (lo.map ρ) (hi.map ρ) s.length with | some (l, h) => some ((.str ((s.take h).drop l)), h0, n0) | none => none
        | some _ => none
      | .ptr id 0 0 => match mx, lo, hi, (X.ti t).arr, h0 id with
        | none, none, none, some m, some ob => match ob.es with
          | [e] => if e.cells.all V.imm0 = true ∧ e.cells.length = m ∧ (X.ti (X.ti t).elem).size = 1 ∧ 0 < m then some (.sl true e.cells, upd h0 id none, n0) else none
          | _ => none
        | _, _, _, _, _ => none
      | _ => none
    else none
  | .fieldAddr t x i => match (X.ti t).flds[i]? with
    | some (off, _) => match ρ x with
      | .ptr id j f => some ((.ptr id j (f + off)), h0, n0)
      | .ref cs => some ((.ref (cs.drop off)), h0, n0)
      | _ => none
    | none => none
  | .indexAddr t x ix => match ρ ix with
    | .int _ n => match ρ x with
      | .sl _ es => if (0 ≤ n ∧ n < es.length) ∧ (X.ti t).arr = none then (match es[n.toNat]? with | some e => if e.cells.length = (X.ti (X.ti t).elem).size then some ((.ref e.cells), h0, n0) else none | none => none) else none
      | .hdr id s l => if (0 ≤ n ∧ n < l) ∧ (X.ti t).arr = none then (match h0 id with | some ob => if ob.k = (X.ti (X.ti t).elem).size then some ((.ptr id (s + n.toNat) 0), h0, n0) else none | none => none) else none
      | .ptr id j f => match (X.ti t).arr with
        | some m => if 0 ≤ n ∧ n < m then some ((.ptr id j (f + n.toNat * (X.ti (X.ti t).elem).size)), h0, n0) else none
        | none => none
      | _ => none
    | _ => none
  | .index t x ix => match ρ ix with
    | .int _ n => match ρ x with
      | .str s => if 0 ≤ n ∧ (X.ti t).arr = none then (match s[n.toNat]? with | some b => some ((.int .u8 b.toNat), h0, n0) | none => none) else none
      | .agg cs => match (X.ti t).arr with
        | some m => if 0 ≤ n ∧ n < m then (match part (X.ti (X.ti t).elem) cs (n.toNat * (X.ti (X.ti t).elem).size) with | some v => some (v, h0, n0) | none => none) else none
        | none => none
      | _ => none
    | _ => none
  | .field t x f => match ρ x with
    | .agg cs => match (X.ti t).flds[f]? with
      | some (k, _) => match part (X.ti o.type) cs k with | some v => some (v, h0, n0) | none => none
      | none => none
    | _ => none
  | .extract x i => match ρ x with
    | .tup vs => match vs[i]? with | some v => some (v, h0, n0) | none => none
    | _ => none
  | .call ⟨.builtin .len, args, tys⟩ => match args.toList.map ρ with
    | [x] => if x.isStr = (X.ti (tys.getD 0 0)).isStr then (match lenV x with | some n => some ((.int .i64 n), h0, n0) | none => none) else none
    | _ => none
  | .call ⟨.builtin .min, args, _⟩ => match args.toList.map ρ with
    | [.int k a, .int k' b] => if k = k' then some ((.int k (if b < a then b else a)), h0, n0) else none
    | _ => none
  | .call ⟨.builtin .max, args, _⟩ => match args.toList.map ρ with
    | [.int k a, .int k' b] => if k = k' then some ((.int k (if b > a then b else a)), h0, n0) else none
    | _ => none
  | .call ⟨.builtin .append, args, tys⟩ => match args.toList.map ρ with
    | [s, x] => match elems h0 s, elems h0 x with
      | some (es, kb), some (xs, kx) =>
        let e := (X.ti (tys.getD 0 0)).elem
        let kp := X.keepT fid e
        if ((kb || kx) && !kp) || !(xs.all fun v => v.cells.length == (X.ti e).size) || (X.ti (tys.getD 1 0)).kind.isSome then none else
        if (es.length + xs.length) * (X.ti e).bytes ≤ 2 ^ 47 ∧ es.length + xs.length ≤ 2 ^ 62 then
          match s with
          | .sl true [] => some ((.hdr n0 0 xs.length), upd h0 n0 (some ⟨(X.ti e).size, xs, kp⟩), n0 + 1)
          | .sl true _ => if kx || !(es.all fun v => v.cells.length == (X.ti e).size) then none else some ((.sl false (es ++ xs)), h0, n0)
          | .hdr id _ _ => match h0 id with
            | some ob => if ob.k = (X.ti e).size then some ((.hdr n0 0 (es.length + xs.length)), upd (upd h0 id none) n0 (some ⟨(X.ti e).size, es ++ xs, kp⟩), n0 + 1) else none
            | none => none
          | _ => none
        else none
      | _, _ => none
    | _ => none
  | .call ⟨.builtin .copy, args, tys⟩ => match args.toList.map ρ with
    | [.hdr id s l, x] => match h0 id, elems h0 x with
      | some ob, some (xs, kx) =>
        if x.isStr || (kx && !ob.keep) || !(xs.all fun v => v.cells.length == ob.k) then none else
        if s + l ≤ ob.es.length ∧ ob.k = (X.ti (X.ti (tys.getD 0 0)).elem).size then
          some ((.int .i64 (min xs.length l : Nat)), upd h0 id (some { ob with es := ob.es.take s ++ xs.take (min xs.length l) ++ ob.es.drop (s + min xs.length l) }), n0)
        else none
      | _, _ => none
    | _ => none
  | _ => none
def evOp (X : Env) (fid : FuncId) (o : Oper) (S : St) : Option St :=
  match evCore X fid o S.ev S.h S.n with
  | some (v, h, n) => some (({ S with h := h, n := n } : St).set o.dst v)
  | none => none
def V.pu0 : V → Bool
  | .int .. => true
  | .bool _ => true
  | .str _ => true
  | .sl _ es => es.isEmpty
  | .nilp => true
  | .ifc _ => true
  | .hdr .. => true
  | .ptr .. => true
  | .bad => true
  | .fn _ [] [] => true
  | _ => false
def V.pu1 : V → Bool
  | .agg cs => cs.all V.pu0
  | v => v.pu0
def V.pu : V → Bool
  | .tup vs => vs.all V.pu1
  | v => v.pu1
def pureOb : Option Ob → Option Ob
  | some ob => if ob.es.all V.pu1 then some ob else none
  | none => none
def V.cellAt (v : V) (i j : Nat) : V :=
  match v with
  | .tup vs => (vs.getD i .bad).cells.getD j .bad
  | v => if i = 0 then v.cells.getD j .bad else .bad
def mapC (F : Nat → V → V) : Nat → List V → List V
  | _, [] => []
  | j, c :: cs => F j c :: mapC F (j + 1) cs
def map1 (F : Nat → V → V) : V → V
  | .agg cs => .agg (mapC F 0 cs)
  | v => F 0 v
def mapV (F : Nat → Nat → V → V) : V → V
  | .tup vs => .tup (mapC (fun i v => map1 (F i) v) 0 vs)
  | v => map1 (F 0) v
def V.src : V → Option Nat
  | .hdr id _ _ => some id
  | _ => none
def differ : Option Nat → Option Nat → Bool
  | some a, some b => a != b
  | _, _ => true
def apartL : List (Option Nat) → Bool
  | [] => true
  | a :: r => r.all (differ a) && apartL r
def killL (h : Heap) : List (Option Nat) → Heap
  | [] => h
  | some id :: r => upd (killL h r) id none
  | none :: r => killL h r
def rowAt (X : Env) (h hx : Heap) (t : TypeId) (c : V) : Option (List V) :=
  match c with
  | .sl true [] => some []
  | .hdr id s l => match h id with
    | some ob => if ob.k = (X.ti t).size ∧ s + l ≤ ob.es.length then match allSome (((ob.es.drop s).take l).map (toImm hx depth)) with
        | some es => some (dullL es)
        | none => none
      else none
    | none => none
  | _ => none
abbrev Mask := List (Nat × Nat × TypeId)
def maskNo : Nat → Mask → Nat → Nat → Option (Nat × TypeId)
  | _, [], _, _ => none
  | n, (a, b, t) :: r, i, j => if a = i ∧ b = j then some (n, t) else maskNo (n + 1) r i j
def ownCell (X : Env) (h hx : Heap) (m : Mask) (i j : Nat) (c : V) : V :=
  match maskNo 0 m i j with
  | some (_, t) => match rowAt X h hx t c with
    | some es => .sl false es
    | none => .bad
  | none => match toImm hx depth c with
    | some c' => c'.dull
    | none => .bad
def maskSrc (v : V) (m : Mask) : List (Option Nat) := m.map fun q => (v.cellAt q.1 q.2.1).src
def ownX (X : Env) (h hx : Heap) (v : V) (m : Mask) : Option V :=
  if apartL (maskSrc v m) && m.all (fun q => (rowAt X h hx q.2.2 (v.cellAt q.1 q.2.1)).isSome) then some (mapV (ownCell X h hx m) v) else none
def ownR (X : Env) (h : Heap) (v : V) (m : Mask) : Option V := ownX X h (killL h (maskSrc v m)) v m
def hdrV (n : Nat) (m : Mask) : V → V := mapV fun i j c =>
  match maskNo n m i j with
  | some (q, _) => match c with
    | .sl _ es => .hdr q 0 es.length
    | _ => .bad
  | none => c
def hdrO (X : Env) (kp : TypeId → Bool) (R : V) (q : Nat × Nat × TypeId) : Option Ob :=
  match R.cellAt q.1 q.2.1 with
  | .sl _ es => some ⟨(X.ti q.2.2).size, es, kp q.2.2⟩
  | _ => none
def hdrH (X : Env) (kp : TypeId → Bool) (R : V) : Nat → Mask → Heap → Heap
  | _, [], h => h
  | n, q :: m, h => upd (hdrH X kp R (n + 1) m h) n (hdrO X kp R q)
def giveA (h : Heap) : List V → Option (List V × Heap)
  | [] => some ([], h)
  | v :: r => match give h v with
    | some (v', h1) => match giveA h1 r with
      | some (r', h2) => some (v' :: r', h2)
      | none => none
    | none => none
def consV (e v : V) : V :=
  match v with
  | .tup vs => .tup (e :: vs)
  | v => .tup [e, v]
def tailV (v : V) (vs : List V) : V :=
  match v with
  | .tup _ => .tup vs
  | _ => vs.headD .bad
def ioMask (X : Env) (fid : FuncId) (dst : Option Nat) (g : FuncId) : Mask := X.omask g ++ (dst.elim [] (X.mask fid)).map fun q => (q.1 + 1, q.2.1, q.2.2)
def ioEnd (X : Env) (M : Mask) (v : V) (h : Heap) : Option (Nat × V × List V) :=
  match h 0 with
  | some ob' =>
    match ob'.es with
    | [e'] => if ob'.keep then
        match ownR X (upd h 0 none) (consV e' v) M with
        | some (.tup (r :: rs)) => some (ob'.k, r, rs)
        | _ => none
      else none
    | _ => none
  | none => none
def ioStart (X : Env) (g : FuncId) (k : Nat) (R : V) : Heap := hdrH X (X.keepT g) R 1 (X.omask g) (upd (fun _ => none) 0 (some ⟨k, [hdrV 1 (X.omask g) R], true⟩))
def headV : V → V
  | .tup (v :: _) => v
  | _ => .bad
def restV : V → List V
  | .tup (_ :: vs) => vs
  | _ => []
def evIo (X : Env) (call : CallT) (fid : FuncId) (dst : Option Nat) (g : FuncId) (args : List V) (S : St) : Option St :=
  match args with
  | .ptr id 0 0 :: rest =>
    match S.h id with
    | some ob =>
      match ob.es with
      | [e] =>
        if ob.keep then
          match ownX X (upd S.h id none) (fun _ => none) e (X.omask g) with
          | some R =>
            match giveA (killL (upd S.h id none) (maskSrc e (X.omask g))) rest with
            | some (as, h1) =>
              match call g (.ptr 0 0 0 :: as) (ioStart X g ob.k R) (1 + (X.omask g).length) with
              | some (v, h, _) =>
                match ioEnd X (ioMask X fid dst g) v h with
                | some (k', r, rs) =>
                  some ((⟨S.f, hdrH X (X.keepT fid) (.tup (r :: rs)) S.n (ioMask X fid dst g) (upd h1 id (some ⟨k', [headV (hdrV S.n (ioMask X fid dst g) (.tup (r :: rs)))], true⟩)), S.n + (ioMask X fid dst g).length⟩ : St).set dst
                    (tailV v (restV (hdrV S.n (ioMask X fid dst g) (.tup (r :: rs))))))
                | none => none
              | none => none
            | none => none
          | none => none
        else none
      | _ => none
    | none => none
  | _ => none
def evMask (X : Env) (call : CallT) (fid : FuncId) (dst : Option Nat) (g : FuncId) (args : List V) (S : St) : Option St :=
  match giveA S.h args with
  | some (as, h1) =>
    match call g as (fun _ => none) 0 with
    | some (v, h, _) =>
      match ownR X h v (dst.elim [] (X.mask fid)) with
      | some r => some ((⟨S.f, hdrH X (X.keepT fid) r S.n (dst.elim [] (X.mask fid)) h1, S.n + (dst.elim [] (X.mask fid)).length⟩ : St).set dst (hdrV S.n (dst.elim [] (X.mask fid)) r))
      | none => none
    | none => none
  | none => none
def primC (X : Env) (call : CallT) (g : FuncId) (as : List V) : Option (V × Heap × Nat) :=
  match X.prim g with
  | some pr => match pr.run call as with
    | some v => some (v, fun _ => none, 0)
    | none => none
  | none => call g as (fun _ => none) 0
def evCall (X : Env) (call : CallT) (fid : FuncId) (dst : Option Nat) (g : FuncId) (args : List V) (S : St) : Option St :=
  match X.clone g with
  | some t =>
    match args with
    | [s] => match elems S.h s with
      | some (es, kx) => if s.isStr || (kx && !X.keepT fid (X.ti t).elem) || !(es.all fun v => v.cells.length == (X.ti (X.ti t).elem).size) || !decide (es.length * (X.ti (X.ti t).elem).bytes ≤ 2 ^ 47 ∧ es.length ≤ 2 ^ 62) then none else some ((S.new ⟨(X.ti (X.ti t).elem).size, es, X.keepT fid (X.ti t).elem⟩).set dst (.hdr S.n 0 es.length))
      | none => none
    | _ => none
  | none =>
  if X.byref g && !X.low g then
    match call g args S.h S.n with
    | some (v, h, n) => some (({ S with h := h, n := n } : St).set dst v)
    | none => none
  else if X.inout g then evIo X call fid dst g args S
  else if !(dst.elim [] (X.mask fid)).isEmpty then evMask X call fid dst g args S
  else
    match allSome (args.map (toImm S.h depth)) with
    | some as =>
      if dst.any (X.thaw fid) && !X.low g then
        match call g (dullL as) (fun _ => none) S.n with
        | some (v, h, n) => if args.any V.own1 && !v.pu then none else some (({ S with h := fun id => if id < S.n then S.h id else if args.any V.own1 then pureOb (h id) else h id, n := n } : St).set dst v)
        | none => none
      else
        match primC X call g (dullL as) with
        | some (v, h, _) => match toImm h depth v with
          | some v => if args.any V.own1 && !v.scalar then none else some (S.set dst v.dull)
          | none => none
        | none => none
    | none => none
def stepOp (X : Env) (call : CallT) (fid : FuncId) (n0 j : Nat) (o : Oper) (S : St) : Option St :=
  match o.op with
  | .call ⟨.value x, args, _⟩ =>
    match S.ev x with
    | .fn g first caps => evCall X call fid o.dst g (first ++ args.toList.map S.ev ++ caps) S
    | _ => none
  | _ =>
    match evCore X fid o S.ev S.h (n0 + j) with
    | some (v, h, _) => some (({ S with h := h } : St).set o.dst v)
    | none => none
def evOps (X : Env) (call : CallT) (fid : FuncId) (dsts : List (Option Nat)) (n0 : Nat) : Nat → List Oper → St → Option St
  | _, [], S => some S
  | k, o :: r, S =>
    match o.guard with
    | none => match stepOp X call fid n0 k o S with | some S1 => evOps X call fid dsts n0 (k + 1) r S1 | none => none
    | some (j, want) =>
      match dsts[j]? with
      | some (some d) => match S.f d with
        | .bool b => if b = want then (match stepOp X call fid n0 k o S with | some S1 => evOps X call fid dsts n0 (k + 1) r S1 | none => none) else evOps X call fid dsts n0 (k + 1) r (S.set o.dst (.tup []))
        | .tup [] => evOps X call fid dsts n0 (k + 1) r (S.set o.dst (.tup []))
        | _ => none
      | _ => none
inductive Ex where
  | normal
  | exit (id : Nat)
  | ret
  deriving DecidableEq
def resultsV (X : Env) (rs : List ResultVar) (S : St) : Option V :=
  match allSome (rs.map fun
    | .tmp t => some (S.f t)
    | .cell a t => match S.f a with
      | .ptr id i f => match S.h id with
        | some ob => match ob.es[i]? with
          | some e => part (X.ti t) e.cells f
          | none => none
        | none => none
      | _ => none) with
  | some [v] => some v
  | some vs => some (.tup vs)
  | none => none
def enterF (args : List V) : Nat → V := fun t => match args[t]? with | some v => v | none => .bad
abbrev Ev := FuncId → Code → St → Option (Ex × St)
def retV (X : Env) (rs : List ResultVar) : Option (Ex × St) → Option (V × Heap × Nat)
  | some (.normal, S) => match resultsV X rs S with | some v => some (v, S.h, S.n) | none => none
  | some (.ret, S) => match resultsV X rs S with | some v => some (v, S.h, S.n) | none => none
  | _ => none
def callWith (X : Env) (E : Ev) : CallT := fun g args h k =>
  match X.prim g with
  | some _ => none
  | none => match X.P.funcs[g]? with
    | some fn => match fn.body with
      | some b => retV X fn.results.toList (E g b ⟨enterF args, h, k⟩)
      | none => none
    | none => none
def skips (dsts : List (Option Nat)) (o : Oper) (S1 : St) : Prop :=
  match o.guard with
  | some (j, want) => (match dsts[j]? with
    | some (some d) => S1.f d = .tup [] ∨ S1.f d = .bool (!want)
    | _ => False)
  | none => False
def Stable (X : Env) (call : CallT) (fid : FuncId) (ops : List Oper) (n0 : Nat) (S0 S1 : St) (l : List (Nat × Nat)) : Prop :=
  ∀ q ∈ l, (∃ o, ops[q.1]? = some o ∧ skips (ops.map (·.dst)) o S1) ∨ (∃ o T v, ops[q.1]? = some o ∧ evOps X call fid (ops.map (·.dst)) n0 0 (ops.take q.2) S0 = some T ∧
    evCore X fid o S1.ev T.h (n0 + q.1) = some (v, T.h, n0 + q.1) ∧ ∀ d, o.dst = some d → S1.f d = v)
def Loc.val (S : St) : Loc → V
  | .box t => S.f t
  | .slot t => S.f t
  | .cell t j => match S.f t with
    | .ptr id 0 0 => match S.h id with
      | some ob => match ob.es with
        | [e] => e.cells.getD j .bad
        | _ => .bad
      | none => .bad
    | _ => .bad
def V.root : V → Option Nat
  | .hdr id _ _ => some id
  | .ptr id 0 0 => some id
  | _ => none
def V.boxed : V → Option Nat
  | .ptr id 0 0 => some id
  | _ => none
def look (S : St) (id : Nat) : List Gr → Option Nat
  | [] => none
  | a :: r => if (a.loc.val S).root = some id then some a.new else look S id r
def V.wide : V → V
  | .sl _ es => .sl false es
  | v => v
def fixC (S : St) (N : Norm) (hx : Heap) : V → V
  | .hdr id s l => match look S id N.roots with
    | some j => .hdr j s l
    | none => match toImm hx depth (.hdr id s l) with
      | some v => v
      | none => .bad
  | .ptr id i f => match look S id N.roots with
    | some j => .ptr j i f
    | none => .bad
  | v => if v.imm0 then v.wide else .bad
def fix1 (S : St) (N : Norm) (hx : Heap) : V → V
  | .agg cs => .agg (cs.map (fixC S N hx))
  | v => fixC S N hx v
def fixT (S : St) (N : Norm) (hx : Heap) : V → V
  | .tup vs => .tup (vs.map (fix1 S N hx))
  | .fn g a b => .fn g (a.map (fix1 S N hx)) (b.map (fix1 S N hx))
  | .ref cs => .ref cs
  | v => fix1 S N hx v
def slotAcc (t : Nat) : List Gr → Option Nat
  | [] => none
  | a :: r => if a.loc = .slot t then some a.new else slotAcc t r
def cellAcc (S : St) (id j : Nat) : List Gr → Option Nat
  | [] => none
  | a :: r => match a.loc with
    | .cell t j' => if j' = j ∧ (S.f t).boxed = some id then some a.new else cellAcc S id j r
    | _ => cellAcc S id j r
def virt (o : Option Nat) (v w : V) : V :=
  match v with
  | .sl true [] => match o with
    | some n => .hdr n 0 0
    | none => w
  | _ => w
def fixCs (S : St) (N : Norm) (hx : Heap) (id : Nat) : Nat → List V → List V
  | _, [] => []
  | j, c :: cs => virt (cellAcc S id j N.roots) c (fixC S N hx c) :: fixCs S N hx id (j + 1) cs
def fixE (S : St) (N : Norm) (hx : Heap) (id : Nat) : V → V
  | .agg cs => .agg (fixCs S N hx id 0 cs)
  | v => virt (cellAcc S id 0 N.roots) v (fixC S N hx v)
def fixOb (S : St) (N : Norm) (hx : Heap) (id : Nat) : Option Ob → Option Ob
  | some ob =>
    if ob.keep then
      match ob.es with
      | [e] => some ⟨ob.k, [fixE S N hx id e], true⟩
      | es => if es.all V.imm1 then some ob else none
    else some ob
  | none => none
def fixF (S : St) (N : Norm) (hx : Heap) : List Nat → Nat → V
  | [] => fun _ => .bad
  | t :: r => upd (fixF S N hx r) t (virt (slotAcc t N.roots) (S.f t) (fixT S N hx (S.f t)))
def grOb (S : St) (N : Norm) (hx : Heap) (k : Nat) (keep : Bool) : V → Option Ob
  | .sl true [] => some ⟨k, [], keep⟩
  | v => match v.root with
    | some id => fixOb S N hx id (S.h id)
    | none => none
def Gr.ob (S : St) (N : Norm) (hx : Heap) (a : Gr) : Option Ob := grOb S N hx a.k a.keep (a.loc.val S)
def fixH (S : St) (N : Norm) (hx : Heap) : List Gr → Heap
  | [] => fun _ => none
  | a :: r => upd (fixH S N hx r) a.new (a.ob S N hx)
def Norm.srcs (N : Norm) (S : St) : List (Option Nat) := N.roots.map fun a => (a.loc.val S).root
def newRoot (id : Nat) : List Gr → Option Gr
  | [] => none
  | a :: r => if a.new = id then some a else newRoot id r
def Norm.first (N : Norm) (S : St) : Bool :=
  match N.base, N.roots with
  | false, _ => true
  | true, a :: _ => a.new == 0 && (a.loc.val S).root == some 0
  | _, _ => false
def Norm.ok (N : Norm) : Bool := decide (1 ≤ N.n) && N.roots.all (fun a => decide (a.new < N.n) && (match newRoot a.new N.roots with | some b => decide (b.loc = a.loc) | none => false))
def Norm.run (N : Norm) (S : St) : Option St :=
  if apartL (N.srcs S) && N.first S then
    some ⟨fixF S N (killL S.h (N.srcs S)) N.temps, fixH S N (killL S.h (N.srcs S)) N.roots, N.n⟩
  else none
def codeFirst : Code → Nat
  | .region id _ _ => id
  | .seq a _ => codeFirst a
  | .block _ b => codeFirst b
  | .loop b => codeFirst b
  | _ => 0
def normS (X : Env) (fid : FuncId) (key : Nat) (S : St) : Option St :=
  match X.norm fid key with
  | some N => N.run S
  | none => some S
open Classical in
noncomputable def stepC (X : Env) (E : Ev) : Ev := fun fid c S =>
  match c with
  | .skip => some (.normal, S)
  | .region id ops _ => match normS X fid (2 * id) S with
    | some S => match evOps X (callWith X E) fid (ops.toList.map (·.dst)) S.n 0 ops.toList { S with n := S.n + ops.size } with
      | some S1 => if Stable X (callWith X E) fid ops.toList S.n { S with n := S.n + ops.size } S1 (X.exc fid id) then some (.normal, S1) else none
      | none => none
    | none => none
  | .seq a b => match E fid a S with
    | some (.normal, S1) => E fid b S1
    | r => r
  | .cond x a b => match S.ev x with
    | .bool t => if t then E fid a S else E fid b S
    | _ => none
  | .block id b => match E fid b S with
    | some (.exit i, S1) => if i = id then some (.normal, S1) else some (.exit i, S1)
    | r => r
  | .loop b => match normS X fid (2 * codeFirst b + 1) S with
    | some S => match E fid b S with
      | some (.normal, S1) => E fid (.loop b) S1
      | r => r
    | none => none
  | .exit id => some (.exit id, S)
  | .ret => some (.ret, S)
  | _ => none
noncomputable def evC (X : Env) : Nat → Ev
  | 0 => fun _ _ _ => none
  | n + 1 => stepC X (evC X n)
end Go.Abs
namespace Go.Abs
open Go
def CallT.le (c d : CallT) : Prop := ∀ g a h k r, c g a h k = some r → d g a h k = some r
def Ev.le (c d : Ev) : Prop := ∀ f b S r, c f b S = some r → d f b S = some r
theorem callWith_mono {X : Env} {E E' : Ev} (h : E.le E') : (callWith X E).le (callWith X E') := by
  intro g a hp k r hr
  unfold callWith at hr ⊢
  have hpg : X.prim g = none := by
    cases hpg : X.prim g with
    | none => rfl
    | some pr => simp [hpg] at hr
  simp only [hpg] at hr ⊢
  split at hr
  · rename_i fn hf
    split at hr
    · rename_i b hb
      cases he : E g b ⟨enterF a, hp, k⟩ with
      | none => simp [he, retV] at hr
      | some x => rw [h _ _ _ _ he]; rw [he] at hr; exact hr
    · cases hr
  · cases hr
theorem primC_mono {X : Env} {c d : CallT} (h : c.le d) {g as r} (hr : primC X c g as = some r) : primC X d g as = some r := by
  unfold primC at hr ⊢
  cases hp : X.prim g with
  | none => simp only [hp] at hr ⊢; exact h _ _ _ _ _ hr
  | some pr =>
    simp only [hp] at hr ⊢
    cases hv : pr.run c as with
    | none => simp [hv] at hr
    | some v => rw [hv] at hr; rw [pr.mono c d as v h hv]; exact hr
theorem evIo_mono {X : Env} {c d : CallT} (h : c.le d) {fid dst g args S r} (hr : evIo X c fid dst g args S = some r) : evIo X d fid dst g args S = some r := by
  unfold evIo at hr ⊢
  split at hr
  case h_2 => cases hr
  rename_i id rest
  cases ho : S.h id with
  | none => simp [ho] at hr
  | some ob =>
    simp only [ho] at hr ⊢
    split at hr
    case h_2 => cases hr
    rename_i e he
    split at hr
    case isFalse => cases hr
    rename_i hk
    rw [if_pos hk]
    split at hr
    case h_2 => cases hr
    rename_i R hR
    split at hr
    case h_2 => cases hr
    rename_i as h1 hg
    cases h5 : c g (.ptr 0 0 0 :: as) (ioStart X g ob.k R) (1 + (X.omask g).length) with
    | none => simp [h5] at hr
    | some x => rw [h _ _ _ _ _ h5]; rw [h5] at hr; exact hr
theorem evMask_mono {X : Env} {c d : CallT} (h : c.le d) {fid dst g args S r} (hr : evMask X c fid dst g args S = some r) : evMask X d fid dst g args S = some r := by
  unfold evMask at hr ⊢
  split at hr
  case h_2 => cases hr
  rename_i as h1 hg
  cases h5 : c g as (fun _ => none) 0 with
  | none => simp [h5] at hr
  | some x => rw [h _ _ _ _ _ h5]; rw [h5] at hr; exact hr
theorem evCall_mono {X : Env} {c d : CallT} (h : c.le d) {fid dst g args S r} (hr : evCall X c fid dst g args S = some r) : evCall X d fid dst g args S = some r := by
  unfold evCall at hr ⊢
  cases h1 : X.clone g with
  | some t => simp only [h1] at hr ⊢; exact hr
  | none =>
    simp only [h1] at hr ⊢
    by_cases h2 : (X.byref g && !X.low g) = true
    · simp only [h2, if_true] at hr ⊢
      cases h5 : c g args S.h S.n with
      | none => simp [h5] at hr
      | some x => rw [h _ _ _ _ _ h5]; rw [h5] at hr; exact hr
    · simp only [h2, if_false, Bool.false_eq_true] at hr ⊢
      by_cases hio : X.inout g = true
      · simp only [hio, if_true] at hr ⊢; exact evIo_mono h hr
      simp only [hio, if_false, Bool.false_eq_true] at hr ⊢
      by_cases hmk : (!(dst.elim [] (X.mask fid)).isEmpty) = true
      · simp only [hmk, if_true] at hr ⊢; exact evMask_mono h hr
      simp only [hmk, if_false, Bool.false_eq_true] at hr ⊢
      cases h3 : allSome (args.map (toImm S.h depth)) with
      | none => simp [h3] at hr
      | some as =>
        simp only [h3] at hr ⊢
        by_cases h4 : (dst.any (X.thaw fid) && !X.low g) = true
        · simp only [h4, if_true] at hr ⊢
          cases h5 : c g (dullL as) (fun _ => none) S.n with
          | none => simp [h5] at hr
          | some x => rw [h _ _ _ _ _ h5]; rw [h5] at hr; exact hr
        · simp only [h4, if_false, Bool.false_eq_true] at hr ⊢
          cases h5 : primC X c g (dullL as) with
          | none => simp [h5] at hr
          | some x => rw [primC_mono h h5]; rw [h5] at hr; exact hr
theorem stepOp_mono {X : Env} {c d : CallT} (h : c.le d) {fid n0 j o S r} (hr : stepOp X c fid n0 j o S = some r) : stepOp X d fid n0 j o S = some r := by
  unfold stepOp at hr ⊢
  split at hr
  · split at hr
    · exact evCall_mono h hr
    · cases hr
  · exact hr
theorem evOps_mono {X : Env} {c d : CallT} (h : c.le d) {fid dsts n0} : ∀ {k l S r}, evOps X c fid dsts n0 k l S = some r → evOps X d fid dsts n0 k l S = some r
  | _, [], S, r, hr => hr
  | k, o :: l, S, r, hr => by
    unfold evOps at hr ⊢
    split at hr
    · split at hr
      · rename_i S1 h1
        rw [stepOp_mono h h1]; exact evOps_mono h hr
      · cases hr
    · split at hr
      · split at hr
        · split at hr
          · split at hr
            · rename_i S1 h1
              rename_i hif _ 
              simp only [hif, if_true]
              rw [stepOp_mono h h1]; exact evOps_mono h hr
            · cases hr
          · rename_i hif
            simp only [hif, if_false]
            exact evOps_mono h hr
        · exact evOps_mono h hr
        · cases hr
      · cases hr
theorem Stable.mono {X : Env} {c d : CallT} (h : c.le d) {fid ops n0 S0 S1 l} (hs : Stable X c fid ops n0 S0 S1 l) : Stable X d fid ops n0 S0 S1 l := by
  intro q hq
  rcases hs q hq with hk | ⟨o, T, v, h1, h2, h3⟩
  · exact .inl hk
  · exact .inr ⟨o, T, v, h1, evOps_mono h h2, h3⟩
theorem stepC_mono {X : Env} {E E' : Ev} (h : E.le E') : (stepC X E).le (stepC X E') := by
  intro f c S r hr
  unfold stepC at hr ⊢
  split at hr
  · exact hr
  · split at hr
    case h_2 => cases hr
    rename_i S0 hn
    split at hr
    · rename_i S1 h1
      split at hr
      · rename_i hs
        rw [evOps_mono (callWith_mono h) h1]
        simp only [hs.mono (callWith_mono h), if_true]; exact hr
      · cases hr
    · cases hr
  · rename_i a b
    cases ha : E f a S with
    | none => simp [ha] at hr
    | some x =>
      rw [h _ _ _ _ ha]
      rw [ha] at hr
      obtain ⟨e, S1⟩ := x
      cases e with
      | normal => exact h _ _ _ _ hr
      | exit i => exact hr
      | ret => exact hr
  · split at hr
    · split at hr
      · rename_i ht; simp only [ht, if_true]; exact h _ _ _ _ hr
      · rename_i ht; simp only [ht, if_false, Bool.false_eq_true]; exact h _ _ _ _ hr
    · cases hr
  · rename_i id b
    cases hb : E f b S with
    | none => simp [hb] at hr
    | some x => rw [h _ _ _ _ hb]; rw [hb] at hr; exact hr
  · rename_i b
    split at hr
    case h_2 => cases hr
    rename_i S0 hn
    cases hb : E f b S0 with
    | none => simp [hb] at hr
    | some x =>
      rw [h _ _ _ _ hb]; rw [hb] at hr
      obtain ⟨e, S1⟩ := x
      cases e with
      | normal => exact h _ _ _ _ hr
      | exit i => exact hr
      | ret => exact hr
  · exact hr
  · exact hr
  · cases hr
theorem evC_le (X : Env) : ∀ n, (evC X n).le (evC X (n + 1))
  | 0 => by intro f c S r hr; simp [evC] at hr
  | n + 1 => stepC_mono (evC_le X n)
theorem evC_mono (X : Env) {n m : Nat} (h : n ≤ m) : (evC X n).le (evC X m) := by
  induction h with
  | refl => intro f c S r hr; exact hr
  | step _ ih => intro f c S r hr; exact evC_le X _ _ _ _ _ (ih _ _ _ _ hr)
open Classical in
noncomputable def ev (X : Env) : Ev := fun f c S => if h : ∃ n, ∃ r, evC X n f c S = some r then some h.choose_spec.choose else none
theorem ev_iff {X : Env} {f c S r} : ev X f c S = some r ↔ ∃ n, evC X n f c S = some r := by
  unfold ev
  constructor
  · intro h
    split at h
    · rename_i hx
      have := hx.choose_spec.choose_spec
      exact ⟨hx.choose, by rw [this]; simpa using h⟩
    · cases h
  · rintro ⟨n, hn⟩
    have hx : ∃ n, ∃ r, evC X n f c S = some r := ⟨n, r, hn⟩
    rw [dif_pos hx]
    have h2 := hx.choose_spec.choose_spec
    have h3 := evC_mono X (Nat.le_max_left n hx.choose) _ _ _ _ hn
    have h4 := evC_mono X (Nat.le_max_right n hx.choose) _ _ _ _ h2
    rw [h3] at h4
    simp only [Option.some.injEq] at h4
    rw [h4]
theorem evC_le_ev (X : Env) (n : Nat) : (evC X n).le (ev X) := fun _ _ _ _ h => ev_iff.2 ⟨n, h⟩
theorem callWith_cont {X : Env} {g a h k r} (hr : callWith X (ev X) g a h k = some r) : ∃ n, callWith X (evC X n) g a h k = some r := by
  unfold callWith at hr
  have hpg : X.prim g = none := by
    cases hpg : X.prim g with
    | none => rfl
    | some pr => simp [hpg] at hr
  simp only [hpg] at hr
  split at hr
  · rename_i fn hf
    split at hr
    · rename_i b hb
      cases he : ev X g b ⟨enterF a, h, k⟩ with
      | none => simp [he, retV] at hr
      | some x =>
        obtain ⟨n, hn⟩ := ev_iff.1 he
        exact ⟨n, by unfold callWith; simp only [hpg, hf, hb, hn]; rw [he] at hr; exact hr⟩
    · cases hr
  · cases hr
theorem primC_cont {X : Env} {g as r} (hr : primC X (callWith X (ev X)) g as = some r) : ∃ n, primC X (callWith X (evC X n)) g as = some r := by
  unfold primC at hr
  cases hp : X.prim g with
  | none =>
    simp only [hp] at hr
    obtain ⟨n, hn⟩ := callWith_cont hr
    exact ⟨n, by unfold primC; simp only [hp]; exact hn⟩
  | some pr =>
    simp only [hp] at hr
    cases hv : pr.run (callWith X (ev X)) as with
    | none => simp [hv] at hr
    | some v =>
      rw [hv] at hr
      obtain ⟨n, hn⟩ := pr.cont (fun n => callWith X (evC X n)) _ as v (fun n => callWith_mono (evC_mono X (Nat.le_succ n))) (fun _ _ _ _ _ h => callWith_cont h) hv
      exact ⟨n, by unfold primC; simp only [hp, hn]; exact hr⟩
theorem evIo_cont {X : Env} {fid dst g args S r} (hr : evIo X (callWith X (ev X)) fid dst g args S = some r) : ∃ n, evIo X (callWith X (evC X n)) fid dst g args S = some r := by
  unfold evIo at hr
  split at hr
  case h_2 => cases hr
  rename_i id rest
  cases ho : S.h id with
  | none => simp [ho] at hr
  | some ob =>
    simp only [ho] at hr
    split at hr
    case h_2 => cases hr
    rename_i e he
    split at hr
    case isFalse => cases hr
    rename_i hk
    split at hr
    case h_2 => cases hr
    rename_i R hR
    split at hr
    case h_2 => cases hr
    rename_i as h1 hg
    cases h5 : callWith X (ev X) g (.ptr 0 0 0 :: as) (ioStart X g ob.k R) (1 + (X.omask g).length) with
    | none => simp [h5] at hr
    | some x =>
      obtain ⟨n, hn⟩ := callWith_cont h5
      rw [h5] at hr
      exact ⟨n, by unfold evIo; simp only [ho, he, hk, if_true, hR, hg, hn]; exact hr⟩
theorem evMask_cont {X : Env} {fid dst g args S r} (hr : evMask X (callWith X (ev X)) fid dst g args S = some r) : ∃ n, evMask X (callWith X (evC X n)) fid dst g args S = some r := by
  unfold evMask at hr
  split at hr
  case h_2 => cases hr
  rename_i as h1 hg
  cases h5 : callWith X (ev X) g as (fun _ => none) 0 with
  | none => simp [h5] at hr
  | some x =>
    obtain ⟨n, hn⟩ := callWith_cont h5
    rw [h5] at hr
    exact ⟨n, by unfold evMask; simp only [hg, hn]; exact hr⟩
theorem evCall_cont {X : Env} {fid dst g args S r} (hr : evCall X (callWith X (ev X)) fid dst g args S = some r) : ∃ n, evCall X (callWith X (evC X n)) fid dst g args S = some r := by
  unfold evCall at hr
  cases h1 : X.clone g with
  | some t => exact ⟨0, by unfold evCall; simp only [h1] at hr ⊢; exact hr⟩
  | none =>
    simp only [h1] at hr
    by_cases h2 : (X.byref g && !X.low g) = true
    · simp only [h2, if_true] at hr
      cases h5 : callWith X (ev X) g args S.h S.n with
      | none => simp [h5] at hr
      | some x =>
        obtain ⟨n, hn⟩ := callWith_cont h5
        rw [h5] at hr
        exact ⟨n, by unfold evCall; simp only [h1, h2, if_true, hn]; exact hr⟩
    · simp only [h2, if_false, Bool.false_eq_true] at hr
      by_cases hio : X.inout g = true
      · simp only [hio, if_true] at hr
        obtain ⟨n, hn⟩ := evIo_cont hr
        exact ⟨n, by unfold evCall; simp only [h1, h2, if_false, Bool.false_eq_true, hio, if_true, hn]⟩
      simp only [hio, if_false, Bool.false_eq_true] at hr
      by_cases hmk : (!(dst.elim [] (X.mask fid)).isEmpty) = true
      · simp only [hmk, if_true] at hr
        obtain ⟨n, hn⟩ := evMask_cont hr
        exact ⟨n, by unfold evCall; simp only [h1, h2, if_false, Bool.false_eq_true, hio, hmk, if_true, hn]⟩
      simp only [hmk, if_false, Bool.false_eq_true] at hr
      cases h3 : allSome (args.map (toImm S.h depth)) with
      | none => simp [h3] at hr
      | some as =>
        simp only [h3] at hr
        by_cases h4 : (dst.any (X.thaw fid) && !X.low g) = true
        · simp only [h4, if_true] at hr
          cases h5 : callWith X (ev X) g (dullL as) (fun _ => none) S.n with
          | none => simp [h5] at hr
          | some x =>
            obtain ⟨n, hn⟩ := callWith_cont h5
            rw [h5] at hr
            exact ⟨n, by unfold evCall; simp only [h1, if_false, Bool.false_eq_true, h2, hio, hmk, h3, h4, if_true, hn]; exact hr⟩
        · simp only [h4, if_false, Bool.false_eq_true] at hr
          cases h5 : primC X (callWith X (ev X)) g (dullL as) with
          | none => simp [h5] at hr
          | some x =>
            obtain ⟨n, hn⟩ := primC_cont h5
            rw [h5] at hr
            exact ⟨n, by unfold evCall; simp only [h1, if_false, Bool.false_eq_true, h2, hio, hmk, h3, h4, hn]; exact hr⟩
theorem stepOp_cont {X : Env} {fid n0 j o S r} (hr : stepOp X (callWith X (ev X)) fid n0 j o S = some r) : ∃ n, stepOp X (callWith X (evC X n)) fid n0 j o S = some r := by
  unfold stepOp at hr
  split at hr
  · rename_i x args tys ho
    split at hr
    · rename_i g first caps hx
      obtain ⟨n, hn⟩ := evCall_cont hr
      exact ⟨n, by unfold stepOp; simp only [ho, hx]; exact hn⟩
    · cases hr
  · rename_i hne
    exact ⟨0, by unfold stepOp; split; · rename_i x args tys ho; exact absurd ho (hne x args tys)
                 · exact hr⟩
theorem evOps_cont {X : Env} {fid dsts n0} : ∀ {k l S r}, evOps X (callWith X (ev X)) fid dsts n0 k l S = some r → ∃ n, evOps X (callWith X (evC X n)) fid dsts n0 k l S = some r
  | _, [], S, r, hr => ⟨0, hr⟩
  | k, o :: l, S, r, hr => by
    have two : ∀ {S1}, stepOp X (callWith X (ev X)) fid n0 k o S = some S1 → evOps X (callWith X (ev X)) fid dsts n0 (k + 1) l S1 = some r → ∃ n, stepOp X (callWith X (evC X n)) fid n0 k o S = some S1 ∧ evOps X (callWith X (evC X n)) fid dsts n0 (k + 1) l S1 = some r := by
      intro S1 h1 h2
      obtain ⟨a, ha⟩ := stepOp_cont h1
      obtain ⟨b, hb⟩ := evOps_cont h2
      exact ⟨max a b, stepOp_mono (callWith_mono (evC_mono X (Nat.le_max_left a b))) ha, evOps_mono (callWith_mono (evC_mono X (Nat.le_max_right a b))) hb⟩
    unfold evOps at hr
    split at hr
    · rename_i hg
      split at hr
      · rename_i S1 h1
        obtain ⟨n, ha, hb⟩ := two h1 hr
        exact ⟨n, by unfold evOps; simp only [hg, ha]; exact hb⟩
      · cases hr
    · rename_i j want hg
      split at hr
      · rename_i d hd
        split at hr
        · rename_i b hb0
          split at hr
          · rename_i hif
            split at hr
            · rename_i S1 h1
              obtain ⟨n, ha, hb⟩ := two h1 hr
              exact ⟨n, by unfold evOps; simp only [hg, hd, hb0, hif, if_true, ha]; exact hb⟩
            · cases hr
          · rename_i hif
            obtain ⟨n, hn⟩ := evOps_cont hr
            exact ⟨n, by unfold evOps; simp only [hg, hd, hb0, hif, if_false]; exact hn⟩
        · rename_i hnb
          obtain ⟨n, hn⟩ := evOps_cont hr
          refine ⟨n, ?_⟩
          unfold evOps
          simp only [hg, hd, hnb]
          exact hn
        · cases hr
      · cases hr
theorem Stable.cont {X : Env} {fid ops n0 S0 S1} : ∀ {l}, Stable X (callWith X (ev X)) fid ops n0 S0 S1 l → ∃ n, Stable X (callWith X (evC X n)) fid ops n0 S0 S1 l
  | [], _ => ⟨0, fun q hq => by cases hq⟩
  | q :: l, hs => by
    obtain ⟨a, ha⟩ := Stable.cont (l := l) fun x hx => hs x (List.mem_cons_of_mem _ hx)
    rcases hs q (List.mem_cons_self ..) with hk | ⟨o, T, v, h1, h2, h3⟩
    · refine ⟨a, fun x hx => ?_⟩
      rcases List.mem_cons.1 hx with rfl | hx
      · exact .inl hk
      · exact ha x hx
    obtain ⟨b, hb⟩ := evOps_cont h2
    refine ⟨max a b, fun x hx => ?_⟩
    rcases List.mem_cons.1 hx with rfl | hx
    · exact .inr ⟨o, T, v, h1, evOps_mono (callWith_mono (evC_mono X (Nat.le_max_right a b))) hb, h3⟩
    · exact ha.mono (callWith_mono (evC_mono X (Nat.le_max_left a b))) x hx
theorem stepC_cont {X : Env} {f c S r} (hr : stepC X (ev X) f c S = some r) : ∃ n, stepC X (evC X n) f c S = some r := by
  have seq2 : ∀ {a b : Code} {S S1 r}, ev X f a S = some (.normal, S1) → ev X f b S1 = some r → ∃ n, evC X n f a S = some (.normal, S1) ∧ evC X n f b S1 = some r := by
    intro a b S S1 r h1 h2
    obtain ⟨p, hp⟩ := ev_iff.1 h1
    obtain ⟨q, hq⟩ := ev_iff.1 h2
    exact ⟨max p q, evC_mono X (Nat.le_max_left p q) _ _ _ _ hp, evC_mono X (Nat.le_max_right p q) _ _ _ _ hq⟩
  cases c with
  | skip => exact ⟨0, hr⟩
  | exit id => exact ⟨0, hr⟩
  | ret => exact ⟨0, hr⟩
  | region id ops d =>
    simp only [stepC] at hr ⊢
    split at hr
    case h_2 => cases hr
    rename_i S0 hno
    split at hr
    · rename_i S1 h1
      split at hr
      · rename_i hs
        obtain ⟨n, hn⟩ := evOps_cont h1
        obtain ⟨m, hm⟩ := hs.cont
        refine ⟨max n m, ?_⟩
        rw [evOps_mono (callWith_mono (evC_mono X (Nat.le_max_left n m))) hn]
        simp only [hm.mono (callWith_mono (evC_mono X (Nat.le_max_right n m))), if_true]; exact hr
      · cases hr
    · cases hr
  | seq a b =>
    simp only [stepC] at hr ⊢
    cases ha : ev X f a S with
    | none => simp [ha] at hr
    | some x =>
      obtain ⟨e, S1⟩ := x
      rw [ha] at hr
      cases e with
      | normal =>
        obtain ⟨n, h1, h2⟩ := seq2 ha hr
        exact ⟨n, by rw [h1]; exact h2⟩
      | exit i => obtain ⟨n, hn⟩ := ev_iff.1 ha; exact ⟨n, by rw [hn]; exact hr⟩
      | ret => obtain ⟨n, hn⟩ := ev_iff.1 ha; exact ⟨n, by rw [hn]; exact hr⟩
  | cond x a b =>
    simp only [stepC] at hr ⊢
    split at hr
    · split at hr
      · rename_i ht; obtain ⟨n, hn⟩ := ev_iff.1 hr; exact ⟨n, by simp only [ht, if_true]; exact hn⟩
      · rename_i ht; obtain ⟨n, hn⟩ := ev_iff.1 hr; exact ⟨n, by simp only [ht, if_false, Bool.false_eq_true]; exact hn⟩
    · cases hr
  | block id b =>
    simp only [stepC] at hr ⊢
    cases hb : ev X f b S with
    | none => simp [hb] at hr
    | some x => obtain ⟨n, hn⟩ := ev_iff.1 hb; rw [hb] at hr; exact ⟨n, by rw [hn]; exact hr⟩
  | loop b =>
    simp only [stepC] at hr ⊢
    split at hr
    case h_2 => cases hr
    rename_i S0 hno
    cases hb : ev X f b S0 with
    | none => simp [hb] at hr
    | some x =>
      obtain ⟨e, S1⟩ := x
      rw [hb] at hr
      cases e with
      | normal =>
        obtain ⟨n, h1, h2⟩ := seq2 hb hr
        exact ⟨n, by rw [h1]; exact h2⟩
      | exit i => obtain ⟨n, hn⟩ := ev_iff.1 hb; exact ⟨n, by rw [hn]; exact hr⟩
      | ret => obtain ⟨n, hn⟩ := ev_iff.1 hb; exact ⟨n, by rw [hn]; exact hr⟩
  | _ => simp [stepC] at hr
theorem ev_eq (X : Env) (f : FuncId) (c : Code) (S : St) : ev X f c S = stepC X (ev X) f c S := by
  cases h : stepC X (ev X) f c S with
  | some r =>
    obtain ⟨n, hn⟩ := stepC_cont h
    exact ev_iff.2 ⟨n + 1, hn⟩
  | none =>
    cases h2 : ev X f c S with
    | none => rfl
    | some r =>
      obtain ⟨n, hn⟩ := ev_iff.1 h2
      cases n with
      | zero => simp [evC] at hn
      | succ n =>
        have := stepC_mono (evC_le_ev X n) _ _ _ _ hn
        rw [h] at this; cases this
noncomputable def callL (X : Env) : CallT := callWith X (ev X)
noncomputable def pcall (X : Env) (g : FuncId) (args : List V) : Option V :=
  match primC X (callL X) g args with
  | some (v, h, _) => (toImm h depth v).map V.dull
  | none => none
end Go.Abs
namespace Go.Abs
open Go
abbrev Sig := Nat → Option (Nat × Nat × Nat)
def nosig : Sig := fun _ => none
def ifcRep : Bool → Value → Prop
  | true, u => ∃ t p, u = .iface t p
  | false, u => u = .nilIface
mutual
def Rep (w : World) (I : Nat → Prop) (σ : Sig) : V → Value → Prop
  | .int k n, u => u = .int k n
  | .bool b, u => u = .bool b
  | .str s, u => ∃ x : ByteArray, u = .string x ∧ x.data.toList = s
  | .agg cs, u => ∃ us, u = .agg us ∧ RepC w I σ cs us.toList
  | .tup cs, u => ∃ us, u = .tuple us ∧ RepL w I σ cs us.toList
  | .sl c es, u => ∃ a cap, u = .slice a es.length cap ∧ es.length ≤ cap ∧ cap ≤ maxLen ∧ (c = true → cap = es.length) ∧
      (es = [] ∨ ∃ b o k, a = some ⟨b, o, none⟩ ∧ I b ∧ RepRow w I nosig es k b o)
  | .ref cs, u => ∃ b o, u = .pointer (some ⟨b, o, none⟩) ∧ I b ∧ RepAt w I nosig cs b o
  | .hdr id s l, u => ∃ a cap, u = .slice a l cap ∧ l ≤ cap ∧ cap ≤ maxLen ∧
      (cap = 0 ∨ ∃ b o k c el fz, σ id = some (b, o, k) ∧ a = some ⟨b, o + s * k, none⟩ ∧ w.heap[b]? = some (.cells c el fz) ∧ o + (s + cap) * k ≤ c.size)
  | .ptr id i f, u => ∃ b o k, σ id = some (b, o, k) ∧ u = .pointer (some ⟨b, o + i * k + f, none⟩)
  | .nilp, u => u = .pointer none
  | .ifc b, u => ifcRep b u
  | .fn g as bs, u => ∃ us vs, u = .func (.func g) us vs ∧ RepL w I σ as us.toList ∧ RepL w I σ bs vs.toList
  | .bad, _ => True
def RepC (w : World) (I : Nat → Prop) (σ : Sig) : List V → List Value → Prop
  | [], us => us = []
  | c :: cs, us => ∃ u r, us = u :: r ∧ u.oneCell' = true ∧ Rep w I σ c u ∧ RepC w I σ cs r
def RepL (w : World) (I : Nat → Prop) (σ : Sig) : List V → List Value → Prop
  | [], us => us = []
  | c :: cs, us => ∃ u r, us = u :: r ∧ Rep w I σ c u ∧ RepL w I σ cs r
def RepAt (w : World) (I : Nat → Prop) (σ : Sig) : List V → Nat → Nat → Prop
  | [], _, _ => True
  | c :: cs, b, o => (∃ u, w.cell? ⟨b, o, none⟩ = some u ∧ u.oneCell' = true ∧ Rep w I σ c u) ∧ RepAt w I σ cs b (o + 1)
def RepRow (w : World) (I : Nat → Prop) (σ : Sig) : List V → Nat → Nat → Nat → Prop
  | [], _, _, _ => True
  | .agg cs :: es, k, b, o => cs.length = k ∧ RepAt w I σ cs b o ∧ RepRow w I σ es k b (o + k)
  | e :: es, k, b, o => k = 1 ∧ (∃ u, w.cell? ⟨b, o, none⟩ = some u ∧ u.oneCell' = true ∧ Rep w I σ e u) ∧ RepRow w I σ es k b (o + k)
end
structure Ext (w : World) (I : Nat → Prop) (σ : Sig) (w' : World) (I' : Nat → Prop) (σ' : Sig) : Prop where
  blk : ∀ b, I b → w'.heap[b]? = w.heap[b]?
  grow : ∀ (b : Nat) c el fz, w.heap[b]? = some (Obj.cells c el fz) → ∃ c' fz', w'.heap[b]? = some (Obj.cells c' el fz') ∧ c'.size = c.size
  imp : ∀ b, I b → I' b
  sig : ∀ id x, σ id = some x → σ' id = some x
theorem Ext.refl (w : World) (I : Nat → Prop) (σ : Sig) : Ext w I σ w I σ :=
  ⟨fun _ _ => rfl, fun _ c _ fz h => ⟨c, fz, h, rfl⟩, fun _ h => h, fun _ _ h => h⟩
theorem Ext.trans {w w1 w2 : World} {I I1 I2 : Nat → Prop} {σ σ1 σ2 : Sig} (h : Ext w I σ w1 I1 σ1) (h' : Ext w1 I1 σ1 w2 I2 σ2) : Ext w I σ w2 I2 σ2 :=
  ⟨fun b hb => (h'.blk b (h.imp b hb)).trans (h.blk b hb),
   fun b c el fz hb => by
    obtain ⟨c1, fz1, h1, e1⟩ := h.grow b c el fz hb
    obtain ⟨c2, fz2, h2, e2⟩ := h'.grow b c1 el fz1 h1
    exact ⟨c2, fz2, h2, e2.trans e1⟩,
   fun b hb => h'.imp b (h.imp b hb), fun id x hx => h'.sig id x (h.sig id x hx)⟩
theorem Ext.noid {w w' : World} {I I' : Nat → Prop} {σ σ' : Sig} (E : Ext w I σ w' I' σ') : Ext w I nosig w' I' nosig :=
  ⟨E.blk, E.grow, E.imp, fun _ _ h => h⟩
section
variable {w w' : World} {I I' : Nat → Prop}
mutual
theorem Rep.ext' : ∀ (v : V) (u : Value) {σ σ' : Sig}, Ext w I σ w' I' σ' → Rep w I σ v u → Rep w' I' σ' v u
  | .int k n, u, σ, σ', E, h => by simpa [Rep] using h
  | .bool b, u, σ, σ', E, h => by simpa [Rep] using h
  | .str s, u, σ, σ', E, h => by simpa [Rep] using h
  | .agg cs, u, σ, σ', E, h => by
    simp only [Rep] at h ⊢
    obtain ⟨us, e, hr⟩ := h
    exact ⟨us, e, RepC.ext' cs us.toList E hr⟩
  | .tup cs, u, σ, σ', E, h => by
    simp only [Rep] at h ⊢
    obtain ⟨us, e, hr⟩ := h
    exact ⟨us, e, RepL.ext' cs us.toList E hr⟩
  | .sl c es, u, σ, σ', E, h => by
    simp only [Rep] at h ⊢
    obtain ⟨a, cap, e, h1, h2, h3, h4⟩ := h
    refine ⟨a, cap, e, h1, h2, h3, ?_⟩
    rcases h4 with h4 | ⟨b, o, k, ha, hI, hr⟩
    · exact .inl h4
    · exact .inr ⟨b, o, k, ha, E.imp b hI, RepRow.ext' es k b o E.noid hI hr⟩
  | .ref cs, u, σ, σ', E, h => by
    simp only [Rep] at h ⊢
    obtain ⟨b, o, e, hI, hr⟩ := h
    exact ⟨b, o, e, E.imp b hI, RepAt.ext' cs b o E.noid hI hr⟩
  | .hdr id s l, u, σ, σ', E, h => by
    simp only [Rep] at h ⊢
    obtain ⟨a, cap, e, h1, h2, h3⟩ := h
    refine ⟨a, cap, e, h1, h2, ?_⟩
    rcases h3 with h3 | ⟨b, o, k, c, el, fz, hs, ha, hb, hle⟩
    · exact .inl h3
    · obtain ⟨c', fz', hb', hc⟩ := E.grow b c el fz hb
      exact .inr ⟨b, o, k, c', el, fz', E.sig _ _ hs, ha, hb', by omega⟩
  | .ptr id i f, u, σ, σ', E, h => by
    simp only [Rep] at h ⊢
    obtain ⟨b, o, k, hs, e⟩ := h
    exact ⟨b, o, k, E.sig _ _ hs, e⟩
  | .nilp, u, σ, σ', E, h => by simpa [Rep] using h
  | .ifc b, u, σ, σ', E, h => by simpa only [Rep] using h
  | .fn g as bs, u, σ, σ', E, h => by
    simp only [Rep] at h ⊢
    obtain ⟨us, vs, e, h1, h2⟩ := h
    exact ⟨us, vs, e, RepL.ext' as us.toList E h1, RepL.ext' bs vs.toList E h2⟩
  | .bad, u, σ, σ', E, h => by simp [Rep]
theorem RepC.ext' : ∀ (cs : List V) (us : List Value) {σ σ' : Sig}, Ext w I σ w' I' σ' → RepC w I σ cs us → RepC w' I' σ' cs us
  | [], us, σ, σ', E, h => by simpa [RepC] using h
  | c :: cs, us, σ, σ', E, h => by
    simp only [RepC] at h ⊢
    obtain ⟨u, r, e, h1, h2, h3⟩ := h
    exact ⟨u, r, e, h1, Rep.ext' c u E h2, RepC.ext' cs r E h3⟩
theorem RepL.ext' : ∀ (cs : List V) (us : List Value) {σ σ' : Sig}, Ext w I σ w' I' σ' → RepL w I σ cs us → RepL w' I' σ' cs us
  | [], us, σ, σ', E, h => by simpa [RepL] using h
  | c :: cs, us, σ, σ', E, h => by
    simp only [RepL] at h ⊢
    obtain ⟨u, r, e, h2, h3⟩ := h
    exact ⟨u, r, e, Rep.ext' c u E h2, RepL.ext' cs r E h3⟩
theorem RepAt.ext' : ∀ (cs : List V) (b o : Nat) {σ σ' : Sig}, Ext w I σ w' I' σ' → I b → RepAt w I σ cs b o → RepAt w' I' σ' cs b o
  | [], b, o, σ, σ', E, hI, h => by simp [RepAt]
  | c :: cs, b, o, σ, σ', E, hI, h => by
    simp only [RepAt] at h ⊢
    obtain ⟨⟨u, h1, h2, h3⟩, h4⟩ := h
    exact ⟨⟨u, by rw [World.cell?_of_block (E.blk b hI)]; exact h1, h2, Rep.ext' c u E h3⟩, RepAt.ext' cs b (o + 1) E hI h4⟩
theorem RepRow.ext' : ∀ (es : List V) (k b o : Nat) {σ σ' : Sig}, Ext w I σ w' I' σ' → I b → RepRow w I σ es k b o → RepRow w' I' σ' es k b o
  | [], k, b, o, σ, σ', E, hI, h => by simp [RepRow]
  | .agg cs :: es, k, b, o, σ, σ', E, hI, h => by
    simp only [RepRow] at h ⊢
    exact ⟨h.1, RepAt.ext' cs b o E hI h.2.1, RepRow.ext' es k b (o + k) E hI h.2.2⟩
  | .int _ _ :: es, k, b, o, σ, σ', E, hI, h | .bool _ :: es, k, b, o, σ, σ', E, hI, h | .str _ :: es, k, b, o, σ, σ', E, hI, h | .tup _ :: es, k, b, o, σ, σ', E, hI, h
  | .sl _ _ :: es, k, b, o, σ, σ', E, hI, h | .ref _ :: es, k, b, o, σ, σ', E, hI, h | .hdr _ _ _ :: es, k, b, o, σ, σ', E, hI, h | .ptr _ _ _ :: es, k, b, o, σ, σ', E, hI, h
  | .nilp :: es, k, b, o, σ, σ', E, hI, h | .ifc _ :: es, k, b, o, σ, σ', E, hI, h | .fn _ _ _ :: es, k, b, o, σ, σ', E, hI, h | .bad :: es, k, b, o, σ, σ', E, hI, h => by
    simp only [RepRow] at h ⊢
    obtain ⟨hk, ⟨u, h1, h2, h3⟩, h4⟩ := h
    exact ⟨hk, ⟨u, by rw [World.cell?_of_block (E.blk b hI)]; exact h1, h2, Rep.ext' _ u E h3⟩, RepRow.ext' es k b (o + k) E hI h4⟩
end
theorem dullL_length : ∀ l : List V, (dullL l).length = l.length
  | [] => rfl
  | c :: cs => by simp [dullL, dullL_length cs]
mutual
theorem Rep.dull' : ∀ (v : V) (u : Value) {σ : Sig}, Rep w I σ v u → Rep w I σ v.dull u
  | .int k n, u, σ, h => h
  | .bool b, u, σ, h => h
  | .str s, u, σ, h => h
  | .agg cs, u, σ, h => by
    simp only [Rep, V.dull] at h ⊢
    obtain ⟨us, e, hr⟩ := h
    exact ⟨us, e, RepC.dull' cs us.toList hr⟩
  | .tup cs, u, σ, h => by
    simp only [Rep, V.dull] at h ⊢
    obtain ⟨us, e, hr⟩ := h
    exact ⟨us, e, RepL.dull' cs us.toList hr⟩
  | .sl c es, u, σ, h => by
    simp only [Rep, V.dull] at h ⊢
    obtain ⟨a, cap, e, h1, h2, h3, h4⟩ := h
    rw [dullL_length]
    refine ⟨a, cap, e, h1, h2, (fun hh => by cases hh), ?_⟩
    rcases h4 with h4 | ⟨b, o, k, ha, hI, hr⟩
    · subst h4; exact .inl rfl
    · exact .inr ⟨b, o, k, ha, hI, RepRow.dull' es k b o hr⟩
  | .ref cs, u, σ, h => h
  | .hdr id s l, u, σ, h => h
  | .ptr id i f, u, σ, h => h
  | .nilp, u, σ, h => h
  | .ifc _, u, σ, h => h
  | .fn g as bs, u, σ, h => h
  | .bad, u, σ, h => h
theorem RepC.dull' : ∀ (cs : List V) (us : List Value) {σ : Sig}, RepC w I σ cs us → RepC w I σ (dullL cs) us
  | [], us, σ, h => h
  | c :: cs, us, σ, h => by
    simp only [RepC, dullL] at h ⊢
    obtain ⟨u, r, e, h1, h2, h3⟩ := h
    exact ⟨u, r, e, h1, Rep.dull' c u h2, RepC.dull' cs r h3⟩
theorem RepL.dull' : ∀ (cs : List V) (us : List Value) {σ : Sig}, RepL w I σ cs us → RepL w I σ (dullL cs) us
  | [], us, σ, h => h
  | c :: cs, us, σ, h => by
    simp only [RepL, dullL] at h ⊢
    obtain ⟨u, r, e, h2, h3⟩ := h
    exact ⟨u, r, e, Rep.dull' c u h2, RepL.dull' cs r h3⟩
theorem RepAt.dull' : ∀ (cs : List V) (b o : Nat) {σ : Sig}, RepAt w I σ cs b o → RepAt w I σ (dullL cs) b o
  | [], b, o, σ, h => h
  | c :: cs, b, o, σ, h => by
    simp only [RepAt, dullL] at h ⊢
    obtain ⟨⟨u, h1, h2, h3⟩, h4⟩ := h
    exact ⟨⟨u, h1, h2, Rep.dull' c u h3⟩, RepAt.dull' cs b (o + 1) h4⟩
theorem RepRow.dull' : ∀ (es : List V) (k b o : Nat) {σ : Sig}, RepRow w I σ es k b o → RepRow w I σ (dullL es) k b o
  | [], k, b, o, σ, h => h
  | .agg cs :: es, k, b, o, σ, h => by
    simp only [RepRow, dullL, V.dull] at h ⊢
    exact ⟨by rw [dullL_length]; exact h.1, RepAt.dull' cs b o h.2.1, RepRow.dull' es k b (o + k) h.2.2⟩
  | .sl c cs :: es, k, b, o, σ, h => by
    simp only [RepRow, dullL] at h ⊢
    obtain ⟨hk, ⟨u, h1, h2, h3⟩, h4⟩ := h
    have := Rep.dull' (.sl c cs) u h3
    simp only [V.dull, RepRow] at this ⊢
    exact ⟨hk, ⟨u, h1, h2, this⟩, RepRow.dull' es k b (o + k) h4⟩
  | .tup cs :: es, k, b, o, σ, h => by
    simp only [RepRow, dullL] at h ⊢
    obtain ⟨hk, ⟨u, h1, h2, h3⟩, h4⟩ := h
    have := Rep.dull' (.tup cs) u h3
    simp only [V.dull, RepRow] at this ⊢
    exact ⟨hk, ⟨u, h1, h2, this⟩, RepRow.dull' es k b (o + k) h4⟩
  | .int _ _ :: es, k, b, o, σ, h | .bool _ :: es, k, b, o, σ, h | .str _ :: es, k, b, o, σ, h
  | .ref _ :: es, k, b, o, σ, h | .hdr _ _ _ :: es, k, b, o, σ, h | .ptr _ _ _ :: es, k, b, o, σ, h
  | .nilp :: es, k, b, o, σ, h | .ifc _ :: es, k, b, o, σ, h | .fn _ _ _ :: es, k, b, o, σ, h | .bad :: es, k, b, o, σ, h => by
    simp only [RepRow, dullL, V.dull] at h ⊢
    exact ⟨h.1, h.2.1, RepRow.dull' es k b (o + k) h.2.2⟩
end
theorem Rep.dull {σ : Sig} {v : V} {u : Value} (h : Rep w I σ v u) : Rep w I σ v.dull u := Rep.dull' v u h
theorem Rep.ext {σ σ' : Sig} (E : Ext w I σ w' I' σ') {v : V} {u : Value} (h : Rep w I σ v u) : Rep w' I' σ' v u := Rep.ext' v u E h
end
end Go.Abs
namespace Go.Abs
open Go
def gtab : Nat → Option (Obj → Prop)
  | 0 => some fun ob => ∃ cs t fz m, ob = .cells cs t fz ∧ cs[0]? = some (.int .i64 m)
  | 1 => some fun ob => ∃ cs t fz ev, ob = .cells cs t fz ∧ cs[0]? = some ev ∧ (ev = .nilIface ∨ ∃ te pe, ev = .iface te pe)
  | 2 => some fun ob => ∃ cs t fz ev, ob = .cells cs t fz ∧ cs[0]? = some ev ∧ (ev = .nilIface ∨ ∃ te pe, ev = .iface te pe)
  | 3 => some fun ob => ∃ t fz, ob = .cells (Lib.pow10Tab.map fun z => Value.int .u64 z).toArray t fz
  | _ => none
end Go.Abs
namespace Go.Abs
open Go
def CAt (w : World) (I : Nat → Prop) (σ : Sig) (cs : List V) (b o : Nat) : Prop :=
  ∀ j c, cs[j]? = some c → ∃ u, w.cell? ⟨b, o + j, none⟩ = some u ∧ u.oneCell' = true ∧ Rep w I σ c u
section
variable {w w' : World} {I I' : Nat → Prop} {σ σ' : Sig}
theorem RepAt_iff : ∀ (cs : List V) (b o : Nat), RepAt w I σ cs b o ↔ CAt w I σ cs b o
  | [], b, o => by simp [RepAt, CAt]
  | c :: cs, b, o => by
    simp only [RepAt]
    rw [RepAt_iff cs b (o + 1)]
    constructor
    · rintro ⟨h1, h2⟩ j x hj
      cases j with
      | zero => simp at hj; subst hj; simpa using h1
      | succ j =>
        have := h2 j x (by simpa using hj)
        rwa [show o + 1 + j = o + (j + 1) by omega] at this
    · intro h
      refine ⟨by simpa using h 0 c (by simp), fun j x hj => ?_⟩
      have := h (j + 1) x (by simpa using hj)
      rwa [show o + (j + 1) = o + 1 + j by omega] at this
theorem RepRow_cons (e : V) (es : List V) (k b o : Nat) : RepRow w I σ (e :: es) k b o ↔ e.cells.length = k ∧ CAt w I σ e.cells b o ∧ RepRow w I σ es k b (o + k) := by
  cases e with
  | agg cs => simp only [RepRow, V.cells, RepAt_iff]
  | _ =>
    simp only [RepRow, V.cells, ← RepAt_iff, RepAt, List.length_cons, List.length_nil, and_true]
    constructor <;> rintro ⟨h1, h2, h3⟩ <;> exact ⟨by omega, h2, h3⟩
theorem RepRow_iff : ∀ (es : List V) (k b o : Nat), RepRow w I σ es k b o ↔ ∀ i e, es[i]? = some e → e.cells.length = k ∧ CAt w I σ e.cells b (o + i * k)
  | [], k, b, o => by simp [RepRow]
  | e :: es, k, b, o => by
    rw [RepRow_cons, RepRow_iff es k b (o + k)]
    constructor
    · rintro ⟨h1, h2, h3⟩ i x hi
      cases i with
      | zero => simp at hi; subst hi; simpa using ⟨h1, h2⟩
      | succ i =>
        have := h3 i x (by simpa using hi)
        rwa [show o + k + i * k = o + (i + 1) * k by rw [Nat.add_mul]; omega] at this
    · intro h
      have h0 := h 0 e (by simp)
      refine ⟨h0.1, by simpa using h0.2, fun i x hi => ?_⟩
      have := h (i + 1) x (by simpa using hi)
      rwa [show o + (i + 1) * k = o + k + i * k by rw [Nat.add_mul]; omega] at this
theorem RepL_iff : ∀ (cs : List V) (us : List Value), RepL w I σ cs us ↔ cs.length = us.length ∧ ∀ (j : Nat) c u, cs[j]? = some c → us[j]? = some u → Rep w I σ c u
  | [], us => by
    simp only [RepL]
    constructor
    · rintro rfl; simp
    · rintro ⟨h, _⟩; exact List.eq_nil_of_length_eq_zero (by simpa using h.symm)
  | c :: cs, us => by
    simp only [RepL]
    constructor
    · rintro ⟨u, r, rfl, h1, h2⟩
      rw [RepL_iff cs r] at h2
      refine ⟨by simp [h2.1], fun j x y hx hy => ?_⟩
      cases j with
      | zero => simp at hx hy; subst hx; subst hy; exact h1
      | succ j => exact h2.2 j x y (by simpa using hx) (by simpa using hy)
    · rintro ⟨hl, h⟩
      cases us with
      | nil => simp at hl
      | cons u r =>
        exact ⟨u, r, rfl, h 0 c u (by simp) (by simp), (RepL_iff cs r).2 ⟨by simpa using hl, fun j x y hx hy => h (j + 1) x y (by simpa using hx) (by simpa using hy)⟩⟩
theorem RepC_iff : ∀ (cs : List V) (us : List Value), RepC w I σ cs us ↔ cs.length = us.length ∧ ∀ (j : Nat) c u, cs[j]? = some c → us[j]? = some u → u.oneCell' = true ∧ Rep w I σ c u
  | [], us => by
    simp only [RepC]
    constructor
    · rintro rfl; simp
    · rintro ⟨h, _⟩; exact List.eq_nil_of_length_eq_zero (by simpa using h.symm)
  | c :: cs, us => by
    simp only [RepC]
    constructor
    · rintro ⟨u, r, rfl, h0, h1, h2⟩
      rw [RepC_iff cs r] at h2
      refine ⟨by simp [h2.1], fun j x y hx hy => ?_⟩
      cases j with
      | zero => simp at hx hy; subst hx; subst hy; exact ⟨h0, h1⟩
      | succ j => exact h2.2 j x y (by simpa using hx) (by simpa using hy)
    · rintro ⟨hl, h⟩
      cases us with
      | nil => simp at hl
      | cons u r =>
        have := h 0 c u (by simp) (by simp)
        exact ⟨u, r, rfl, this.1, this.2, (RepC_iff cs r).2 ⟨by simpa using hl, fun j x y hx hy => h (j + 1) x y (by simpa using hx) (by simpa using hy)⟩⟩
theorem CAt.ext (E : Ext w I σ w' I' σ') {cs : List V} {b o : Nat} (h : CAt w I σ cs b o) (hb : w'.heap[b]? = w.heap[b]?) : CAt w' I' σ' cs b o := by
  intro j c hj
  obtain ⟨u, h1, h2, h3⟩ := h j c hj
  exact ⟨u, by rw [World.cell?_of_block hb]; exact h1, h2, h3.ext E⟩
theorem RepRow.extRow (E : Ext w I σ w' I' σ') {es : List V} {k b o : Nat} (h : RepRow w I σ es k b o) (hb : w'.heap[b]? = w.heap[b]?) : RepRow w' I' σ' es k b o := by
  rw [RepRow_iff] at h ⊢
  intro i e hi
  exact ⟨(h i e hi).1, (h i e hi).2.ext E hb⟩
end
def osig (keep : Bool) (σ : Sig) : Sig := if keep then σ else nosig
theorem Ext.ofKeep {w w' : World} {I I' : Nat → Prop} {σ σ' : Sig} (E : Ext w I σ w' I' σ') (keep : Bool) : Ext w I (osig keep σ) w' I' (osig keep σ') := by
  cases keep
  · exact E.noid
  · exact E
theorem Ext.free {w : World} {I : Nat → Prop} {σ : Sig} : Ext w I nosig w I σ :=
  ⟨fun _ _ => rfl, fun _ c _ fz h => ⟨c, fz, h, rfl⟩, fun _ h => h, fun id x h => by cases h⟩
theorem Ext.freeOf {w : World} {I : Nat → Prop} {σ : Sig} (keep : Bool) : Ext w I (osig keep σ) w I σ := by
  cases keep
  · exact Ext.free
  · exact .refl w I σ
def RowAt (w : World) (b : Nat) (c : Array Value) (el : TypeId) : Prop := ∃ fz : Nat × Nat, w.heap[b]? = some (Obj.cells c el fz) ∧ (fz.2 ≤ fz.1 ∨ c.size ≤ fz.1)
theorem RowAt.same {w w' : World} {b : Nat} {c : Array Value} {el : TypeId} (h : RowAt w b c el) (hb : w'.heap[b]? = w.heap[b]?) : RowAt w' b c el := by
  obtain ⟨fz, h1, h2⟩ := h
  exact ⟨fz, by rw [hb]; exact h1, h2⟩
theorem RowAt.zero {w : World} {b : Nat} {c : Array Value} {el : TypeId} (h : w.heap[b]? = some (Obj.cells c el (0, 0))) : RowAt w b c el := ⟨(0, 0), h, .inl (Nat.le_refl _)⟩
theorem RowAt.set {w : World} {b : Nat} {c c' : Array Value} {el : TypeId} (h : RowAt w b c el) (hsz : c'.size = c.size) : RowAt (w.setRow b c') b c' el := by
  obtain ⟨fz, h1, h2⟩ := h
  exact ⟨fz, setRow_heap w b c c' el fz h1, by rw [hsz]; exact h2⟩
theorem RowAt.free {w : World} {b : Nat} {c : Array Value} {el : TypeId} (h : RowAt w b c el) {j : Nat} (hj : j < c.size) : w.frozen? ⟨b, j, none⟩ = false := by
  obtain ⟨fz, h1, h2⟩ := h
  simp only [World.frozen?, h1]
  simp
  omega
theorem RowAt.lt {w : World} {b : Nat} {c : Array Value} {el : TypeId} (h : RowAt w b c el) : b < w.heap.size := by
  obtain ⟨fz, h1, _⟩ := h
  exact (Array.getElem?_eq_some_iff.1 h1).1
theorem RowAt.at {w : World} {b : Nat} {c : Array Value} {el : TypeId} (h : RowAt w b c el) : ∃ fz, w.heap[b]? = some (Obj.cells c el fz) := by
  obtain ⟨fz, h1, _⟩ := h
  exact ⟨fz, h1⟩
def ObRel (w : World) (I : Nat → Prop) (σ : Sig) (id : Nat) (ob : Ob) : Prop :=
  (ob.es = [] ∧ σ id = none) ∨
  ∃ b o c el, σ id = some (b, o, ob.k) ∧ ¬ I b ∧ RowAt w b c el ∧ o + ob.es.length * ob.k ≤ c.size ∧ RepRow w I (osig ob.keep σ) ob.es ob.k b o
def Owns (σ : Sig) (h : Heap) (b : Nat) : Prop := ∃ id ob o k, h id = some ob ∧ σ id = some (b, o, k)
def Glob (w : World) (I : Nat → Prop) : Prop := ∀ b p, gtab b = some p → I b ∧ ∃ ob, w.heap[b]? = some ob ∧ p ob
theorem Glob.ext {w w' : World} {I I' : Nat → Prop} {σ σ' : Sig} (E : Ext w I σ w' I' σ') (G : Glob w I) : Glob w' I' := fun b p hb => by
  obtain ⟨h1, ob, h2, h3⟩ := G b p hb
  exact ⟨E.imp b h1, ob, by rw [E.blk b h1]; exact h2, h3⟩
theorem Glob.sub {w : World} {I I' : Nat → Prop} (G : Glob w I) (h : ∀ b, I b → I' b) : Glob w I' := fun b p hb => ⟨h b (G b p hb).1, (G b p hb).2⟩
structure Rel (w : World) (I : Nat → Prop) (σ : Sig) (h : Heap) : Prop where
  imm : ∀ b, I b → b < w.heap.size
  obj : ∀ id ob, h id = some ob → ObRel w I σ id ob
  apart : ∀ id id' ob ob' b o k o' k', h id = some ob → h id' = some ob' → σ id = some (b, o, k) → σ id' = some (b, o', k') → id = id'
  glob : Glob w I
section
variable {w w' : World} {I I' : Nat → Prop} {σ σ' : Sig} {h h' : Heap}
theorem Rel.owned (R : Rel w I σ h) {b : Nat} (hb : Owns σ h b) : ¬ I b ∧ ∃ c el, RowAt w b c el := by
  obtain ⟨id, ob, o, k, h1, h2⟩ := hb
  rcases R.obj id ob h1 with ⟨_, hn⟩ | ⟨b', o', c, el, hs, hi, hh, _⟩
  · rw [hn] at h2; cases h2
  · rw [hs] at h2; simp at h2; obtain ⟨rfl, _⟩ := h2; exact ⟨hi, c, el, hh⟩
theorem Rel.keep (R : Rel w I σ h) (E : Ext w I σ w' I' σ') (hI : ∀ b, I' b → b < w'.heap.size)
    (hb : ∀ b, Owns σ h b → w'.heap[b]? = w.heap[b]? ∧ ¬ I' b) (hs : ∀ id, h id ≠ none → σ' id = σ id) : Rel w' I' σ' h := by
  refine ⟨hI, fun id ob ho => ?_, fun id id' ob ob' b o k o' k' h1 h2 h3 h4 => ?_, R.glob.ext E⟩
  · have hsid := hs id (by rw [ho]; simp)
    rcases R.obj id ob ho with ⟨he, hn⟩ | ⟨b, o, c, el, hsg, hi, hh, hle, hr⟩
    · exact .inl ⟨he, by rw [hsid]; exact hn⟩
    · have := hb b ⟨id, ob, o, ob.k, ho, hsg⟩
      exact .inr ⟨b, o, c, el, by rw [hsid]; exact hsg, this.2, hh.same this.1, hle, hr.extRow (E.ofKeep _) this.1⟩
  · rw [hs id (by rw [h1]; simp)] at h3
    rw [hs id' (by rw [h2]; simp)] at h4
    exact R.apart id id' ob ob' b o k o' k' h1 h2 h3 h4
theorem Rel.sub (R : Rel w I σ h) (hh : ∀ id ob, h' id = some ob → h id = some ob) : Rel w I σ h' :=
  ⟨R.imm, fun id ob ho => R.obj id ob (hh id ob ho), fun id id' ob ob' b o k o' k' h1 h2 => R.apart id id' ob ob' b o k o' k' (hh _ _ h1) (hh _ _ h2), R.glob⟩
theorem Rel.kill (R : Rel w I σ h) (id : Nat) : Rel w I σ (upd h id none) :=
  R.sub fun i ob hi => by unfold upd at hi; split at hi; · cases hi
                          · exact hi
theorem Ext.sig' {n : Nat} {x : Nat × Nat × Nat} (hn : σ n = none) : Ext w I σ w I (upd σ n (some x)) :=
  ⟨fun _ _ => rfl, fun _ c _ fz h => ⟨c, fz, h, rfl⟩, fun _ h => h, fun id y hy => by
    unfold upd; split
    · rename_i e; subst e; rw [hn] at hy; cases hy
    · exact hy⟩
theorem Rel.adopt (R : Rel w I σ h) {n b o k : Nat} {es : List V} {keep : Bool} {c : Array Value} {el : TypeId} (hn : h n = none) (hs : σ n = none)
    (hb : RowAt w b c el) (hi : ¬ I b) (ho : ¬ Owns σ h b) (hle : o + es.length * k ≤ c.size)
    (hr : RepRow w I (osig keep (upd σ n (some (b, o, k)))) es k b o) : Rel w I (upd σ n (some (b, o, k))) (upd h n (some ⟨k, es, keep⟩)) := by
  have E : Ext w I σ w I (upd σ n (some (b, o, k))) := Ext.sig' hs
  have hid : ∀ id, h id ≠ none → upd σ n (some (b, o, k)) id = σ id := by
    intro id hid
    unfold upd
    split
    · rename_i e; subst e; exact absurd hn hid
    · rfl
  refine ⟨R.imm, fun id ob hob => ?_, fun id id' ob ob' b1 o1 k1 o2 k2 h1 h2 h3 h4 => ?_, R.glob⟩
  · unfold upd at hob
    split at hob
    · rename_i e; subst e
      simp at hob; subst hob
      exact .inr ⟨b, o, c, el, by simp [upd], hi, hb, hle, hr⟩
    · rename_i e
      have := hid id (by rw [hob]; simp)
      rcases R.obj id ob hob with ⟨he, hnn⟩ | ⟨b', o', c', el', hsg, hi', hh, hle', hr'⟩
      · exact .inl ⟨he, by rw [this]; exact hnn⟩
      · exact .inr ⟨b', o', c', el', by rw [this]; exact hsg, hi', hh, hle', hr'.extRow (E.ofKeep _) rfl⟩
  · have key : ∀ id ob, upd h n (some (⟨k, es, keep⟩ : Ob)) id = some ob → id ≠ n → h id = some ob := by
      intro id ob hx hne; simpa [upd, hne] using hx
    by_cases e1 : id = n
    · by_cases e2 : id' = n
      · rw [e1, e2]
      · exfalso
        subst e1
        have h2' := key id' ob' h2 e2
        rw [hid id' (by rw [h2']; simp)] at h4
        simp [upd] at h3
        obtain ⟨rfl, _⟩ := h3
        exact ho ⟨id', ob', o2, k2, h2', h4⟩
    · have h1' := key id ob h1 e1
      rw [hid id (by rw [h1']; simp)] at h3
      by_cases e2 : id' = n
      · exfalso
        subst e2
        simp [upd] at h4
        obtain ⟨rfl, _⟩ := h4
        exact ho ⟨id, ob, o1, k1, h1', h3⟩
      · have h2' := key id' ob' h2 e2
        rw [hid id' (by rw [h2']; simp)] at h4
        exact R.apart id id' ob ob' b1 o1 k1 o2 k2 h1' h2' h3 h4
theorem Rel.adoptNil (R : Rel w I σ h) {n k : Nat} {keep : Bool} (hn : h n = none) (hs : σ n = none) : Rel w I σ (upd h n (some ⟨k, [], keep⟩)) := by
  refine ⟨R.imm, fun id ob hob => ?_, fun id id' ob ob' b o k o' k' h1 h2 h3 h4 => ?_, R.glob⟩
  · unfold upd at hob
    split at hob
    · rename_i e; subst e; simp at hob; subst hob; exact .inl ⟨rfl, hs⟩
    · exact R.obj id ob hob
  · by_cases e1 : id = n
    · subst e1; rw [hs] at h3; cases h3
    · by_cases e2 : id' = n
      · subst e2; rw [hs] at h4; cases h4
      · exact R.apart id id' ob ob' b o k o' k' (by simpa [upd, e1] using h1) (by simpa [upd, e2] using h2) h3 h4
end
structure Step (w : World) (I : Nat → Prop) (σ : Sig) (h : Heap) (n : Nat) (w' : World) (I' : Nat → Prop) (σ' : Sig) (h' : Heap) (n' : Nat) : Prop where
  ext : Ext w I σ w' I' σ'
  rel : Rel w' I' σ' h'
  os : w'.os = w.os
  tape : w'.tape = w.tape
  output : w'.output = w.output
  size : w.heap.size ≤ w'.heap.size
  frame : ∀ b, b < w.heap.size → ¬ Owns σ h b → w'.heap[b]? = w.heap[b]?
  own : ∀ b, Owns σ' h' b → w.heap.size ≤ b ∨ Owns σ h b
  inew : ∀ b, I' b → I b ∨ w.heap.size ≤ b ∨ Owns σ h b
  le : n ≤ n'
  sigs : ∀ id, id < n ∨ n' ≤ id → σ' id = σ id
  news : ∀ id, id < n ∨ n' ≤ id → h id = none → h' id = none
section
variable {w w1 w2 : World} {I I1 I2 : Nat → Prop} {σ σ1 σ2 : Sig} {h h1 h2 : Heap} {n n1 n2 : Nat}
theorem Step.refl (R : Rel w I σ h) (n : Nat) : Step w I σ h n w I σ h n :=
  ⟨.refl w I σ, R, rfl, rfl, rfl, Nat.le_refl _, fun _ _ _ => rfl, fun _ hb => .inr hb, fun _ hb => .inl hb, Nat.le_refl _, fun _ _ => rfl, fun _ _ h => h⟩
theorem Step.trans (s : Step w I σ h n w1 I1 σ1 h1 n1) (s' : Step w1 I1 σ1 h1 n1 w2 I2 σ2 h2 n2) : Step w I σ h n w2 I2 σ2 h2 n2 where
  ext := s.ext.trans s'.ext
  rel := s'.rel
  os := s'.os.trans s.os
  tape := s'.tape.trans s.tape
  output := s'.output.trans s.output
  size := Nat.le_trans s.size s'.size
  frame := fun b hb ho => (s'.frame b (Nat.lt_of_lt_of_le hb s.size) (fun hx => by
    rcases s.own b hx with hx | hx
    · omega
    · exact ho hx)).trans (s.frame b hb ho)
  own := fun b hb => by
    rcases s'.own b hb with hx | hx
    · exact .inl (Nat.le_trans s.size hx)
    · exact s.own b hx
  inew := fun b hb => by
    rcases s'.inew b hb with hx | hx | hx
    · exact s.inew b hx
    · exact .inr (.inl (Nat.le_trans s.size hx))
    · exact .inr (s.own b hx)
  le := Nat.le_trans s.le s'.le
  sigs := fun id hid => by
    have l1 := s.le; have l2 := s'.le
    rw [s'.sigs id (by omega), s.sigs id (by omega)]
  news := fun id hid hn => by
    have l1 := s.le; have l2 := s'.le
    exact s'.news id (by omega) (s.news id (by omega) hn)
end
theorem Rel.write {w : World} {I : Nat → Prop} {σ : Sig} {h : Heap} (R : Rel w I σ h) {id b o k : Nat} {ob : Ob} {es : List V} {keep : Bool} {c c' : Array Value} {el : TypeId}
    (ho : h id = some ob) (hs : σ id = some (b, o, k)) (hb : RowAt w b c el) (hsz : c'.size = c.size) (hle : o + es.length * k ≤ c.size)
    (hr : RepRow (w.setRow b c') I (osig keep σ) es k b o) (n : Nat) : Step w I σ h n (w.setRow b c') I σ (upd h id (some ⟨k, es, keep⟩)) n := by
  have hown : Owns σ h b := ⟨id, ob, o, k, ho, hs⟩
  have hI : ¬ I b := (R.owned hown).1
  have E : Ext w I σ (w.setRow b c') I σ := by
    refine ⟨fun b' hb' => setRow_other w b b' c' (fun e => hI (e ▸ hb')), fun b' c1 el1 fz hc => ?_, fun _ h => h, fun _ _ h => h⟩
    by_cases e : b' = b
    · subst e
      obtain ⟨fz0, hb0, _⟩ := hb
      rw [hb0] at hc
      simp at hc
      obtain ⟨rfl, rfl, rfl⟩ := hc
      exact ⟨c', _, setRow_heap w b' c c' el _ hb0, hsz⟩
    · exact ⟨c1, fz, by rw [setRow_other w b b' c' e]; exact hc, rfl⟩
  have key : ∀ i x, upd h id (some (⟨k, es, keep⟩ : Ob)) i = some x → i ≠ id → h i = some x := by
    intro i x hx hne; simpa [upd, hne] using hx
  refine ⟨E, ⟨fun b' hb' => by simpa using R.imm b' hb', fun i x hx => ?_, fun i i' x x' b1 o1 k1 o2 k2 h1 h2 h3 h4 => ?_, R.glob.ext E⟩, rfl, rfl, rfl, by simp, fun b' _ ho' => setRow_other w b b' c' (fun e => ho' (e ▸ hown)),
    fun b' hb' => .inr ?_, fun _ h => .inl h, Nat.le_refl _, fun _ _ => rfl, fun i hi hni => by
      have : i ≠ id := fun e => by rw [e, ho] at hni; cases hni
      simp [upd, this, hni]⟩
  · by_cases e : i = id
    · subst e
      simp [upd] at hx; subst hx
      exact .inr ⟨b, o, c', el, hs, hI, hb.set hsz, by rw [hsz]; exact hle, hr⟩
    · have hx' := key i x hx e
      rcases R.obj i x hx' with ⟨he, hnn⟩ | ⟨b', o', c1, el1, hsg, hi', hh, hle', hr'⟩
      · exact .inl ⟨he, hnn⟩
      · have hne : b' ≠ b := fun e' => e (R.apart i id x ob b o' x.k o k hx' ho (e' ▸ hsg) hs)
        have hsame := setRow_other w b b' c' hne
        exact .inr ⟨b', o', c1, el1, hsg, hi', hh.same hsame, hle', hr'.extRow (E.ofKeep _) hsame⟩
  · by_cases e1 : i = id
    · by_cases e2 : i' = id
      · rw [e1, e2]
      · subst e1; exact R.apart i i' ob x' b1 o1 k1 o2 k2 ho (key i' x' h2 e2) h3 h4
    · by_cases e2 : i' = id
      · subst e2; exact R.apart i i' x ob b1 o1 k1 o2 k2 (key i x h1 e1) ho h3 h4
      · exact R.apart i i' x x' b1 o1 k1 o2 k2 (key i x h1 e1) (key i' x' h2 e2) h3 h4
  · obtain ⟨i, x, o1, k1, h1, h2⟩ := hb'
    by_cases e : i = id
    · subst e; exact ⟨i, ob, o1, k1, ho, h2⟩
    · exact ⟨i, x, o1, k1, key i x h1 e, h2⟩
end Go.Abs
