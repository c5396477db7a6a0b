/- Abstract values and the abstract interpreter over the model's Code. -/
import Derived.Calls
set_option linter.unusedVariables false
set_option linter.unusedSimpArgs false
namespace Go.Abs
open Go

/-- an abstract value -/
inductive V where
  | int (k : IntKind) (n : Int)
  | bool (b : Bool)
  | str (s : List UInt8)
  | agg (cs : List V)
  | tup (vs : List V)
  | sl (clip : Bool) (es : List V)
  | ref (cs : List V)
  | hdr (id start len : Nat)
  | ptr (id i f : Nat)
  | nilp
  | fn (g : FuncId) (first caps : List V)
  | bad
  deriving Inhabited

/-- the cells of a value -/
def V.cells : V → List V
  | .agg cs => cs
  | v => [v]

/-- an object that the call itself owns: a row of elements of k cells each -/
structure Ob where
  k : Nat
  es : List V
  keep : Bool
  deriving Inhabited

/-- what is to be known of a type -/
structure TI where
  size : Nat
  bytes : Nat
  agg : Bool
  zero : V
  elem : Nat
  flds : List (Nat × Nat)
  arr : Option Nat
  kind : Option IntKind
  /-- the kinds of the cells of a type whose values may be held against each other: 0 a number, 1 a bool, 2 a string, 3 a pointer -/
  shp : List Nat
  deriving Inhabited

abbrev Heap := Nat → Option Ob

structure St where
  f : Nat → V
  h : Heap
  n : Nat

abbrev CallT := FuncId → List V → Heap → Nat → Option (V × Heap × Nat)

structure Env where
  P : Program
  ti : TypeId → TI
  /-- the places whose new slice stays the caller's own -/
  thaw : FuncId → Nat → Bool
  /-- functions that work on what they are pointed to -/
  byref : FuncId → Bool
  /-- slices.Clone, at a slice type -/
  clone : FuncId → Option TypeId
  /-- types of elements that may hold slices of the call's own -/
  keepT : TypeId → Bool
  /-- by function and region: a read, and how many operations may stand before it in another order -/
  exc : FuncId → Nat → List (Nat × Nat)

def upd {α : Type} (f : Nat → α) (t : Nat) (v : α) : Nat → α := fun u => if u = t then v else f u

def St.set (S : St) (d : Option Nat) (v : V) : St :=
  match d with
  | some t => { S with f := upd S.f t v }
  | none => S

def St.new (S : St) (o : Ob) : St := { S with h := upd S.h S.n (some o), n := S.n + 1 }

def ofSc : Value → V
  | .bool b => .bool b
  | .int k n => .int k n
  | .string s => .str s.data.toList
  | .pointer none => .nilp
  | .slice none 0 0 => .sl true []
  | _ => .bad

def ofVal : Value → V
  | .agg cs => .agg (cs.toList.map ofSc)
  | v => ofSc v

def St.ev (S : St) : Operand → V
  | .tmp t => S.f t
  | .const v => ofVal v
  | .func g => .fn g [] []
  | .global _ => .bad

/-- all values there -/
def allSome {α : Type} : List (Option α) → Option (List α)
  | [] => some []
  | none :: _ => none
  | some a :: r => match allSome r with | some l => some (a :: l) | none => none

mutual
/-- no slice in it is known to have no room -/
def V.dull : V → V
  | .sl _ es => .sl false (dullL es)
  | .agg cs => .agg (dullL cs)
  | .tup cs => .tup (dullL cs)
  | v => v
def dullL : List V → List V
  | [] => []
  | c :: cs => c.dull :: dullL cs
end

/-- the value as an immutable one -/
def toImm (h : Heap) : Nat → V → Option V
  | _, .int k n => some (.int k n)
  | _, .bool b => some (.bool b)
  | _, .str s => some (.str s)
  | _, .sl c es => some (.sl c es)
  | _, .nilp => some .nilp
  | _, .fn g [] [] => some (.fn g [] [])
  | d + 1, .agg cs => match allSome (cs.map (toImm h d)) with | some l => some (.agg l) | none => none
  | d + 1, .tup cs => match allSome (cs.map (toImm h d)) with | some l => some (.tup l) | none => none
  | d + 1, .hdr id s l =>
    match h id with
    | some o =>
      if s + l ≤ o.es.length then
        if o.keep then match allSome (((o.es.drop s).take l).map (toImm h d)) with | some l => some (.sl false l) | none => none
        else some (.sl false ((o.es.drop s).take l))
      else none
    | none => none
  | _, _ => none

def depth : Nat := 12

/-- immutable by itself -/
def V.imm0 : V → Bool
  | .int .. => true
  | .bool _ => true
  | .str _ => true
  | .sl .. => true
  | .nilp => true
  | .fn _ [] [] => true
  | _ => false

/-- a slice of the call's own is given away: it is immutable from here on -/
def give0 (h : Heap) (v : V) : Option (V × Heap) :=
  match v with
  | .hdr id s l => match h id with
    | some ob => if !ob.keep && decide (s + l ≤ ob.es.length) then some ((V.sl false ((ob.es.drop s).take l)).dull, upd h id none) else none
    | none => none
  | v => if v.imm0 then some (v.dull, h) else none
def giveL (h : Heap) : List V → Option (List V × Heap)
  | [] => some ([], h)
  | c :: cs => match give0 h c with
    | some (c', h1) => match giveL h1 cs with
      | some (cs', h2) => some (c' :: cs', h2)
      | none => none
    | none => none
def give (h : Heap) (v : V) : Option (V × Heap) :=
  match v with
  | .agg cs => match giveL h cs with | some (cs', h') => some (.agg cs', h') | none => none
  | v => give0 h v
def giveP (h : Heap) : List (Nat × V) → Option (List (Nat × V) × Heap)
  | [] => some ([], h)
  | (i, v) :: r => match give h v with
    | some (v', h1) => match giveP h1 r with
      | some (r', h2) => some ((i, v') :: r', h2)
      | none => none
    | none => none

/-- no slice, no pointer -/
def V.leaf : V → Bool
  | .int .. => true
  | .bool _ => true
  | .str _ => true
  | .nilp => true
  | _ => false
def V.leaf1 : V → Bool
  | .agg cs => cs.all V.leaf
  | v => v.leaf
def V.scalar : V → Bool
  | .tup vs => vs.all V.leaf1
  | v => v.leaf1

/-- a slice of the caller's own -/
def V.own0 : V → Bool
  | .hdr .. => true
  | _ => false
def V.own1 : V → Bool
  | .agg cs => cs.any V.own0
  | .tup _ => true
  | v => v.own0

/-- cells written over others, from a place on -/
def splice : Nat → List V → List V → List V
  | 0, [], xs => xs
  | 0, c :: cs, _ :: xs => c :: splice 0 cs xs
  | 0, _ :: _, [] => []
  | n + 1, cs, x :: xs => x :: splice n cs xs
  | _ + 1, _, [] => []

def V.put (e : V) (f : Nat) (v : V) : V :=
  match e with
  | .agg xs => .agg (splice f v.cells xs)
  | _ => v

/-- a value of a type out of cells -/
def part (t : TI) (cs : List V) (f : Nat) : Option V :=
  if t.agg then (if f + t.size ≤ cs.length then some (.agg ((cs.drop f).take t.size)) else none) else cs[f]?

def V.eqv (kd : Nat) : V → V → Option Bool
  | .int k a, .int k' b => if k = k' ∧ kd = 0 then some (a == b) else none
  | .bool a, .bool b => if kd = 1 then some (a == b) else none
  | .str a, .str b => if kd = 2 then some (a == b) else none
  | _, _ => none

def eqvL : List Nat → List V → List V → Option Bool
  | [], [], [] => some true
  | k :: ks, x :: xs, y :: ys => match V.eqv k x y, eqvL ks xs ys with | some a, some b => some (a && b) | _, _ => none
  | _, _, _ => none

def eqV (ag : Bool) (shp : List Nat) : V → V → Option Bool
  | .agg xs, .agg ys => if ag = true ∧ shp ≠ [] then eqvL shp xs ys else none
  | .int k a, .int k' b => if k = k' then some (a == b) else none
  | .bool a, .bool b => if ag = false ∧ shp = [1] then some (a == b) else none
  | .str a, .str b => some (a == b)
  | .nilp, .nilp => if ag = false ∧ shp = [3] then some true else none
  | .nilp, .ptr .. => if ag = false ∧ shp = [3] then some false else none
  | .ptr .., .nilp => if ag = false ∧ shp = [3] then some false else none
  | _, _ => none

def bits (k : IntKind) (op : BinOp) (x y : Int) : Int :=
  match op with
  | .and => k.wrap (BitVec.ofInt k.bits x &&& BitVec.ofInt k.bits y).toNat
  | .or => k.wrap (BitVec.ofInt k.bits x ||| BitVec.ofInt k.bits y).toNat
  | .xor => k.wrap (BitVec.ofInt k.bits x ^^^ BitVec.ofInt k.bits y).toNat
  | _ => k.wrap (BitVec.ofInt k.bits x &&& ~~~ BitVec.ofInt k.bits y).toNat

def int2 (x y : V) (f : IntKind → Int → Int → Option V) : Option V :=
  match x, y with
  | .int k a, .int k' b => if k = k' then f k a b else none
  | _, _ => none

def binV (ag : Bool) (shp : List Nat) (op : BinOp) (x y : V) : Option V :=
  match op with
  | .eql => match eqV ag shp x y with | some b => some (.bool b) | none => none
  | .neq => match eqV ag shp x y with | some b => some (.bool (!b)) | none => none
  | .add => match x, y with
    | .str a, .str b => if a.length + b.length ≤ 2 ^ 62 then some (.str (a ++ b)) else none
    | x, y => int2 x y fun k a b => some (.int k (k.wrap (a + b)))
  | .sub => int2 x y fun k a b => some (.int k (k.wrap (a - b)))
  | .mul => int2 x y fun k a b => some (.int k (k.wrap (a * b)))
  | .quo => int2 x y fun k a b => if b = 0 then none else some (.int k (k.wrap (a.tdiv b)))
  | .rem => int2 x y fun k a b => if b = 0 then none else some (.int k (a.tmod b))
  | .lss => int2 x y fun _ a b => some (.bool (decide (a < b)))
  | .leq => int2 x y fun _ a b => some (.bool (decide (a ≤ b)))
  | .gtr => int2 x y fun _ a b => some (.bool (decide (b < a)))
  | .geq => int2 x y fun _ a b => some (.bool (decide (b ≤ a)))
  | .shl => match x, y with | .int k a, .int _ b => if b < 0 then none else some (.int k (k.wrap (a * 2 ^ (min b.toNat k.bits)))) | _, _ => none
  | .shr => match x, y with | .int k a, .int _ b => if b < 0 then none else some (.int k (a.fdiv (2 ^ (min b.toNat k.bits)))) | _, _ => none
  | op => int2 x y fun k a b => some (.int k (bits k op a b))

def unV (op : UnOp) (x : V) : Option V :=
  match op, x with
  | .neg, .int k n => some (.int k (k.wrap (0 - n)))
  | .not, .bool b => some (.bool (!b))
  | _, _ => none

/-- the elements of a slice, and whether they may be of the call's own -/
def elems (h : Heap) : V → Option (List V × Bool)
  | .sl _ es => some (es, false)
  | .hdr id s l => match h id with | some o => if s + l ≤ o.es.length then some ((o.es.drop s).take l, o.keep) else none | none => none
  | .str s => some (s.map fun b => .int .u8 b.toNat, false)
  | _ => none

def lenV : V → Option Nat
  | .sl _ es => some es.length
  | .hdr _ _ l => some l
  | .str s => some s.length
  | _ => none

def V.isStr : V → Bool
  | .str _ => true
  | _ => false

def TI.isStr (t : TI) : Bool := t.shp == [2]

def nat? : V → Option Int
  | .int _ n => some n
  | _ => none

/-- may the value be laid into k cells? -/
def V.fits (v : V) (k : Nat) : Bool :=
  match v with
  | .agg cs => cs.length == k
  | .tup _ => false
  | .bad => false
  | _ => k == 1

def fillS (offs : List (Nat × Nat)) (cs : List V) : List (Nat × V) → Option (List V)
  | [] => some cs
  | (i, v) :: r => match offs[i]? with
    | some (o, k) => if v.fits k && decide (o + k ≤ cs.length) then fillS offs (splice o v.cells cs) r else none
    | none => none

def fillE (k : Nat) (es : List V) : List (Nat × V) → Option (List V)
  | [] => some es
  | (i, v) :: r => if v.fits k && decide (i < es.length) then fillE k (es.set i v) r else none

def killId (h : Heap) : V → Heap
  | .hdr id _ _ => upd h id none
  | _ => h

def bnd (d : Nat) (v : Option V) (m : Nat) : Option Nat :=
  match v with
  | none => some d
  | some (.int _ n) => if 0 ≤ n ∧ n ≤ m then some n.toNat else none
  | some _ => none

def bounds (lo hi : Option V) (len : Nat) : Option (Nat × Nat) :=
  match bnd len hi len with
  | some h => match bnd 0 lo h with
    | some l => some (l, h)
    | none => none
  | none => none

/-- one step of each operation but a call: its value, the heap, the next number -/
def evCore (X : Env) (fid : FuncId) (o : Oper) (ρ : Operand → V) (h0 : Heap) (n0 : Nat) : Option (V × Heap × Nat) :=
  match o.op with
  | .move x => some ((ρ x), h0, n0)
  | .assign x => some ((ρ x), h0, n0)
  | .pick c a b => match ρ c with | .bool t => some ((if t then ρ a else ρ b), h0, n0) | _ => none
  | .alloc t => some ((.ptr n0 0 0), upd h0 n0 (some ⟨(X.ti t).size, [(X.ti t).zero], true⟩), n0 + 1)
  | .box t x => if (ρ x).fits (X.ti t).size then some ((.ptr n0 0 0), upd h0 n0 (some ⟨(X.ti t).size, [ρ x], true⟩), n0 + 1) else none
  | .build t ps =>
    match (X.ti t).arr with
    | none => if (X.ti t).flds = [] then none else match fillS (X.ti t).flds (X.ti t).zero.cells (ps.toList.map fun p => (p.1, ρ p.2)) with
      | some cs => some ((.agg cs), h0, n0)
      | none => none
    | some m => match fillS ((List.range m).map fun i => (i * (X.ti (X.ti t).elem).size, (X.ti (X.ti t).elem).size)) (X.ti t).zero.cells (ps.toList.map fun p => (p.1, ρ p.2)) with
      | some cs => some ((.agg cs), h0, n0)
      | none => none
  | .buildSlice t n ps =>
    let e := (X.ti t).elem
    if X.keepT e then
      match fillE (X.ti e).size (List.replicate n (X.ti e).zero) (ps.toList.map fun p => (p.1, ρ p.2)) with
      | some es => some ((.hdr n0 0 n), upd h0 n0 (some ⟨(X.ti e).size, es, true⟩), n0 + 1)
      | none => none
    else
    match giveP h0 (ps.toList.map fun p => (p.1, ρ p.2)) with
    | some (l, h) =>
      match fillE (X.ti e).size (List.replicate n (X.ti e).zero) l with
      | some es =>
        if o.dst.any (X.thaw fid) then some ((.hdr n0 0 n), upd (h) n0 (some ⟨(X.ti e).size, es, false⟩), n0 + 1)
        else some ((.sl true es), h, n0)
      | none => none
    | none => none
  | .load t a => match ρ a with
    | .ptr id i f => match h0 id with
      | some ob => match ob.es[i]? with
        | some e => match part (X.ti t) e.cells f with | some v => some (v, h0, n0) | none => none
        | none => none
      | none => none
    | .ref cs => match part (X.ti t) cs 0 with | some v => some (v, h0, n0) | none => none
    | _ => none
  | .store t a x => match ρ a with
    | .ptr id i f => match h0 id with
      | some ob =>
        match (if ob.keep then some (ρ x, h0) else give h0 (ρ x)) with
        | some (v, h) => match h id with
          | some ob => match ob.es[i]? with
            | some e => if v.fits (X.ti t).size && decide (f + (X.ti t).size ≤ e.cells.length) then some (.bad, upd h id (some { ob with es := ob.es.set i (e.put f v) }), n0) else none
            | none => none
          | none => none
        | none => none
      | none => none
    | _ => none
  | .nilCheck x => match ρ x with
    | .ptr id i f => some ((.ptr id i f), h0, n0)
    | .ref cs => some ((.ref cs), h0, n0)
    | .fn g a b => some ((.fn g a b), h0, n0)
    | _ => none
  | .binOp op t x y _ => match binV (X.ti t).agg (X.ti t).shp op (ρ x) (ρ y) with | some v => some (v, h0, n0) | none => none
  | .unOp op _ x => match unV op (ρ x) with | some v => some (v, h0, n0) | none => none
  | .convert _ d x => match (X.ti d).kind, ρ x with
    | some k, .int _ n => some ((.int k (k.wrap n)), h0, n0)
    | _, _ => none
  | .makeFunc (.func g) a b => some ((.fn g (a.toList.map ρ) (b.toList.map ρ)), h0, n0)
  | .makeSlice t l c => match ρ l, ρ c with
    | .int _ n, .int _ m => if 0 ≤ n ∧ n ≤ m ∧ m * (X.ti (X.ti t).elem).bytes ≤ 2 ^ 47 ∧ m ≤ 2 ^ 62 then
        some ((.hdr n0 0 n.toNat), upd h0 n0 (some ⟨(X.ti (X.ti t).elem).size, List.replicate n.toNat (X.ti (X.ti t).elem).zero, X.keepT (X.ti t).elem⟩), n0 + 1) else none
    | _, _ => none
  | .slice t x lo hi mx =>
    if (ρ x).isStr = (X.ti t).isStr then
      match ρ x with
      | .sl _ es =>
        if es.all (fun e => e.cells.length == (X.ti (X.ti t).elem).size) then
          match mx with
          | none => match bounds (lo.map ρ) (hi.map ρ) es.length with | some (l, h) => some ((.sl false ((es.take h).drop l)), h0, n0) | none => none
          | some m => match ρ m, hi.map ρ with
            | .int _ p, some (.int _ q) => if p = q then (match bounds (lo.map ρ) (hi.map ρ) es.length with | some (l, h) => some ((.sl true ((es.take h).drop l)), h0, n0) | none => none) else none
            | _, _ => none
        else none
      | .hdr id s n =>
        match mx, h0 id with
        | none, some ob => if ob.k = (X.ti (X.ti t).elem).size then (match bounds (lo.map ρ) (hi.map ρ) n with | some (l, h) => some ((.hdr id (s + l) (h - l)), h0, n0) | none => none) else none
        | some m, some ob => if ob.k = (X.ti (X.ti t).elem).size then (match ρ m, hi.map ρ with
            | .int _ p, some (.int _ q) => if p = q then (match bounds (lo.map ρ) (hi.map ρ) n with | some (l, h) => some ((.hdr id (s + l) (h - l)), h0, n0) | none => none) else none
            | _, _ => none) else none
        | _, none => none
      | .str s => match mx with
        | none => match bounds (lo.map ρ) (hi.map ρ) s.length with | some (l, h) => some ((.str ((s.take h).drop l)), h0, n0) | none => none
        | some _ => none
      | _ => none
    else none
  | .fieldAddr t x i => match (X.ti t).flds[i]? with
    | some (off, _) => match ρ x with
      | .ptr id j f => some ((.ptr id j (f + off)), h0, n0)
      | .ref cs => some ((.ref (cs.drop off)), h0, n0)
      | _ => none
    | none => none
  | .indexAddr t x ix => match ρ ix with
    | .int _ n => match ρ x with
      | .sl _ es => if (0 ≤ n ∧ n < es.length) ∧ (X.ti t).arr = none then (match es[n.toNat]? with | some e => if e.cells.length = (X.ti (X.ti t).elem).size then some ((.ref e.cells), h0, n0) else none | none => none) else none
      | .hdr id s l => if (0 ≤ n ∧ n < l) ∧ (X.ti t).arr = none then (match h0 id with | some ob => if ob.k = (X.ti (X.ti t).elem).size then some ((.ptr id (s + n.toNat) 0), h0, n0) else none | none => none) else none
      | .ptr id j f => match (X.ti t).arr with
        | some m => if 0 ≤ n ∧ n < m then some ((.ptr id j (f + n.toNat * (X.ti (X.ti t).elem).size)), h0, n0) else none
        | none => none
      | _ => none
    | _ => none
  | .index t x ix => match ρ ix with
    | .int _ n => match ρ x with
      | .str s => if 0 ≤ n ∧ (X.ti t).arr = none then (match s[n.toNat]? with | some b => some ((.int .u8 b.toNat), h0, n0) | none => none) else none
      | .agg cs => match (X.ti t).arr with
        | some m => if 0 ≤ n ∧ n < m then (match part (X.ti (X.ti t).elem) cs (n.toNat * (X.ti (X.ti t).elem).size) with | some v => some (v, h0, n0) | none => none) else none
        | none => none
      | _ => none
    | _ => none
  | .extract x i => match ρ x with
    | .tup vs => match vs[i]? with | some v => some (v, h0, n0) | none => none
    | _ => none
  | .call ⟨.builtin .len, args, tys⟩ => match args.toList.map ρ with
    | [x] => if x.isStr = (X.ti (tys.getD 0 0)).isStr then (match lenV x with | some n => some ((.int .i64 n), h0, n0) | none => none) else none
    | _ => none
  | .call ⟨.builtin .min, args, _⟩ => match args.toList.map ρ with
    | [.int k a, .int k' b] => if k = k' then some ((.int k (if b < a then b else a)), h0, n0) else none
    | _ => none
  | .call ⟨.builtin .max, args, _⟩ => match args.toList.map ρ with
    | [.int k a, .int k' b] => if k = k' then some ((.int k (if b > a then b else a)), h0, n0) else none
    | _ => none
  | .call ⟨.builtin .append, args, tys⟩ => match args.toList.map ρ with
    | [s, x] => match elems h0 s, elems h0 x with
      | some (es, kb), some (xs, kx) =>
        let e := (X.ti (tys.getD 0 0)).elem
        let kp := X.keepT e
        if ((kb || kx) && !kp) || !(xs.all fun v => v.cells.length == (X.ti e).size) then none else
        if (es.length + xs.length) * (X.ti e).bytes ≤ 2 ^ 47 ∧ es.length + xs.length ≤ 2 ^ 62 then
          match s with
          | .sl true [] => some ((.hdr n0 0 xs.length), upd h0 n0 (some ⟨(X.ti e).size, xs, kp⟩), n0 + 1)
          | .sl true _ => if kx || !(es.all fun v => v.cells.length == (X.ti e).size) then none else some ((.sl false (es ++ xs)), h0, n0)
          | .hdr id _ _ => match h0 id with
            | some ob => if ob.k = (X.ti e).size then some ((.hdr n0 0 (es.length + xs.length)), upd (upd h0 id none) n0 (some ⟨(X.ti e).size, es ++ xs, kp⟩), n0 + 1) else none
            | none => none
          | _ => none
        else none
      | _, _ => none
    | _ => none
  | .call ⟨.builtin .copy, args, tys⟩ => match args.toList.map ρ with
    | [.hdr id s l, x] => match h0 id, elems h0 x with
      | some ob, some (xs, kx) =>
        if x.isStr || (kx && !ob.keep) || !(xs.all fun v => v.cells.length == ob.k) then none else
        if s + l ≤ ob.es.length ∧ ob.k = (X.ti (X.ti (tys.getD 0 0)).elem).size then
          some ((.int .i64 (min xs.length l : Nat)), upd h0 id (some { ob with es := ob.es.take s ++ xs.take (min xs.length l) ++ ob.es.drop (s + min xs.length l) }), n0)
        else none
      | _, _ => none
    | _ => none
  | _ => none

def evOp (X : Env) (fid : FuncId) (o : Oper) (S : St) : Option St :=
  match evCore X fid o S.ev S.h S.n with
  | some (v, h, n) => some (({ S with h := h, n := n } : St).set o.dst v)
  | none => none

/-- a call of a Go function -/
def evCall (X : Env) (call : CallT) (fid : FuncId) (dst : Option Nat) (g : FuncId) (args : List V) (S : St) : Option St :=
  match X.clone g with
  | some t =>
    match args with
    | [s] => match elems S.h s with
      | some (es, kx) => if s.isStr || (kx && !X.keepT (X.ti t).elem) || !(es.all fun v => v.cells.length == (X.ti (X.ti t).elem).size) || !decide (es.length * (X.ti (X.ti t).elem).bytes ≤ 2 ^ 47 ∧ es.length ≤ 2 ^ 62) then none else some ((S.new ⟨(X.ti (X.ti t).elem).size, es, X.keepT (X.ti t).elem⟩).set dst (.hdr S.n 0 es.length))
      | none => none
    | _ => none
  | none =>
  if X.byref g then
    match call g args S.h S.n with
    | some (v, h, n) => some (({ S with h := h, n := n } : St).set dst v)
    | none => none
  else
    match allSome (args.map (toImm S.h depth)) with
    | some as =>
      if dst.any (X.thaw fid) then
        if args.any V.own1 then none else
        match call g (dullL as) (fun _ => none) S.n with
        | some (v, h, n) => some (({ S with h := fun id => if id < S.n then S.h id else h id, n := n } : St).set dst v)
        | none => none
      else
        match call g (dullL as) (fun _ => none) 0 with
        | some (v, h, _) => match toImm h depth v with
          | some v => if args.any V.own1 && !v.scalar then none else some (S.set dst v.dull)
          | none => none
        | none => none
    | none => none

/-- the operation at a place of its region: what it makes new bears that place's number -/
def stepOp (X : Env) (call : CallT) (fid : FuncId) (n0 j : Nat) (o : Oper) (S : St) : Option St :=
  match o.op with
  | .call ⟨.value x, args, _⟩ =>
    match S.ev x with
    | .fn g first caps => evCall X call fid o.dst g (first ++ args.toList.map S.ev ++ caps) S
    | _ => none
  | _ =>
    match evCore X fid o S.ev S.h (n0 + j) with
    | some (v, h, _) => some (({ S with h := h } : St).set o.dst v)
    | none => none

def evOps (X : Env) (call : CallT) (fid : FuncId) (dsts : List (Option Nat)) (n0 : Nat) : Nat → List Oper → St → Option St
  | _, [], S => some S
  | k, o :: r, S =>
    match o.guard with
    | none => match stepOp X call fid n0 k o S with | some S1 => evOps X call fid dsts n0 (k + 1) r S1 | none => none
    | some (j, want) =>
      match dsts[j]? with
      | some (some d) => match S.f d with
        | .bool b => if b = want then (match stepOp X call fid n0 k o S with | some S1 => evOps X call fid dsts n0 (k + 1) r S1 | none => none) else evOps X call fid dsts n0 (k + 1) r (S.set o.dst (.tup []))
        | .tup [] => evOps X call fid dsts n0 (k + 1) r (S.set o.dst (.tup []))
        | _ => none
      | _ => none

inductive Ex where
  | normal
  | exit (id : Nat)
  | ret
  deriving DecidableEq

def resultsV (X : Env) (rs : List ResultVar) (S : St) : Option V :=
  match allSome (rs.map fun
    | .tmp t => some (S.f t)
    | .cell a t => match S.f a with
      | .ptr id i f => match S.h id with
        | some ob => match ob.es[i]? with
          | some e => part (X.ti t) e.cells f
          | none => none
        | none => none
      | _ => none) with
  | some [v] => some v
  | some vs => some (.tup vs)
  | none => none

def enterF (args : List V) : Nat → V := fun t => match args[t]? with | some v => v | none => .bad

abbrev Ev := FuncId → Code → St → Option (Ex × St)

/-- what a body's end makes of a call -/
def retV (X : Env) (rs : List ResultVar) : Option (Ex × St) → Option (V × Heap × Nat)
  | some (.normal, S) => match resultsV X rs S with | some v => some (v, S.h, S.n) | none => none
  | some (.ret, S) => match resultsV X rs S with | some v => some (v, S.h, S.n) | none => none
  | _ => none

/-- a call by an evaluator of bodies -/
def callWith (X : Env) (E : Ev) : CallT := fun g args h k =>
  match X.P.funcs[g]? with
  | some fn => match fn.body with
    | some b => retV X fn.results.toList (E g b ⟨enterF args, h, k⟩)
    | none => none
  | none => none

/-- what reads in a region whose operations stand in any order reads the same in each -/
def Stable (X : Env) (call : CallT) (fid : FuncId) (ops : List Oper) (n0 : Nat) (S0 S1 : St) (l : List (Nat × Nat)) : Prop :=
  ∀ q ∈ l, ∃ o T v, ops[q.1]? = some o ∧ evOps X call fid (ops.map (·.dst)) n0 0 (ops.take q.2) S0 = some T ∧
    evCore X fid o S1.ev T.h (n0 + q.1) = some (v, T.h, n0 + q.1) ∧ ∀ d, o.dst = some d → S1.f d = v

open Classical in
noncomputable def stepC (X : Env) (E : Ev) : Ev := fun fid c S =>
  match c with
  | .skip => some (.normal, S)
  | .region id ops _ => match evOps X (callWith X E) fid (ops.toList.map (·.dst)) S.n 0 ops.toList { S with n := S.n + ops.size } with
    | some S1 => if Stable X (callWith X E) fid ops.toList S.n { S with n := S.n + ops.size } S1 (X.exc fid id) then some (.normal, S1) else none
    | none => none
  | .seq a b => match E fid a S with
    | some (.normal, S1) => E fid b S1
    | r => r
  | .cond x a b => match S.ev x with
    | .bool t => if t then E fid a S else E fid b S
    | _ => none
  | .block id b => match E fid b S with
    | some (.exit i, S1) => if i = id then some (.normal, S1) else some (.exit i, S1)
    | r => r
  | .loop b => match E fid b S with
    | some (.normal, S1) => E fid (.loop b) S1
    | r => r
  | .exit id => some (.exit id, S)
  | .ret => some (.ret, S)
  | _ => none

noncomputable def evC (X : Env) : Nat → Ev
  | 0 => fun _ _ _ => none
  | n + 1 => stepC X (evC X n)

end Go.Abs
