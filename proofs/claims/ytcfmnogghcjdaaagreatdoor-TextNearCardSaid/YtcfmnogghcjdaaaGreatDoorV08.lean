/- Part of a proof: Api, Shelf, P1, P2, M1, P3. -/
import Derived.Test.YtcfmnogghcjdaaaGreatDoorV07
import Derived.BigCall
import Derived.Deep.RegionHeld3
import Derived.Deep.WholeRow
import Derived.Shelf.LaysC
import Derived.Shelf.LaysM
import Derived.Shelf.Strconv.Atoi
import Derived.Shelf.Strconv.AtoiAll
import Derived.Shelf.Strconv.AtoiErrFast
import Derived.Shelf.Strconv.AtoiFail
import Derived.Shelf.Strconv.AtoiInnerAll
import Derived.Shelf.Strconv.AtoiLong
import Derived.Shelf.Strconv.Clone
import Derived.Shelf.Strconv.Itoa0
import Derived.Shelf.Strconv.Itoa1
import Derived.Shelf.Strconv.Itoa2
import Derived.Shelf.Strconv.Itoa3
import Derived.Shelf.Strconv.Lower
import Derived.Shelf.Strconv.ParseInt10
import Derived.Shelf.Strconv.ParseIntEmpty
import Derived.Shelf.Strconv.ParseUint10
import Derived.Shelf.Strconv.ParseUint10Any
import Derived.Shelf.Strconv.ParseUint10Empty
import Derived.Shelf.Strconv.RangeError
import Derived.Shelf.Strconv.SyntaxError
import Derived.Shelf.Strconv.ToError
import Derived.Shelf.Strconv.ToErrorRange
import Derived.Shelf.Strings.Builder1
import Derived.Shelf.Strings.BuilderF
import Derived.Shelf.Strings.BuilderK
import Derived.Shelf.Strings.Count
import Derived.Shelf.Strings.Search1
import Derived.Shelf.Strings.Search2
import Derived.Shelf.Strings.Search3
import Derived.Shelf.Strings.Shaped
import Derived.Shelf.Strings.Split
import Derived.Shelf.Unicode.DecodeAny
import Derived.Shelf.Unicode.DecodeSlow
import Derived.Shelf.Utf8.RuneCount
import Derived.Test.YtcfmnogghcjdaaaGreatDoorChecked
import Derived.Test.YtcfmnogghcjdaaaGreatDoorProg
import Derived.WalkKit
set_option linter.all false
set_option maxRecDepth 100000
set_option maxHeartbeats 20000000
namespace Go.Abs.Api
open Go Go.Abs
theorem dullL_map {α : Type} {f : α → V} (h : ∀ x, (f x).dull = f x) (l : List α) : dullL (l.map f) = l.map f := by
  rw [dullL_eq, List.map_map]
  exact List.map_congr_left fun x _ => h x
@[simp] theorem dull_ints (k : IntKind) (l : List Int) : dullL (l.map (V.int k)) = l.map (V.int k) := dullL_map (fun _ => rfl) l
@[simp] theorem dull_bools (l : List Bool) : dullL (l.map V.bool) = l.map V.bool := dullL_map (fun _ => rfl) l
@[simp] theorem dull_strs (l : List (List UInt8)) : dullL (l.map V.str) = l.map V.str := dullL_map (fun _ => rfl) l
structure Instr where
  op : Int
  a : Int
  b : Int
  c : Int
  imm : Int
  deriving DecidableEq, Inhabited
def Instr.enc (x : Instr) : V := .agg [.int .i64 x.op, .int .i64 x.a, .int .i64 x.b, .int .i64 x.c, .int .i64 x.imm]
theorem Instr.enc_eq (x : Instr) : x.enc = .agg [.int .i64 x.op, .int .i64 x.a, .int .i64 x.b, .int .i64 x.c, .int .i64 x.imm] := rfl
theorem Instr.eq_iff (x y : Instr) : x = y ↔ x.op = y.op ∧ x.a = y.a ∧ x.b = y.b ∧ x.c = y.c ∧ x.imm = y.imm := by cases x; cases y; simp
@[simp] theorem Instr.cells_eq (x : Instr) : x.enc.cells = [.int .i64 x.op, .int .i64 x.a, .int .i64 x.b, .int .i64 x.c, .int .i64 x.imm] := rfl
@[simp] theorem Instr.imm1_eq (x : Instr) : x.enc.imm1 = true := rfl
theorem Instr.enc_cells (x : Instr) : x.enc.cells.length = 5 := rfl
@[simp] theorem dull_Instr (l : List Instr) : dullL (l.map Instr.enc) = l.map Instr.enc := dullL_map (fun x => by simp [Instr.enc_eq]) l
def encLU16 (x : List Int) : V := .sl false (x.map (V.int .u16))
theorem encLU16_eq (x : List Int) : encLU16 x = .sl false (x.map (V.int .u16)) := rfl
@[simp] theorem encLU16_cells_eq (x : List Int) : (encLU16 x).cells = [.sl false (x.map (V.int .u16))] := rfl
theorem encLU16_cells (x : List Int) : (encLU16 x).cells.length = 1 := rfl
@[simp] theorem dull_LU16 (l : List (List Int)) : dullL (l.map encLU16) = l.map encLU16 := dullL_map (fun x => by simp [encLU16_eq]) l
structure Prog where
  code : List Instr
  sizes : List Int
  data : List (List Int)
  deriving DecidableEq, Inhabited
def Prog.enc (x : Prog) : V := .agg [.sl false (x.code.map Instr.enc), .sl false (x.sizes.map (V.int .i64)), .sl false (x.data.map encLU16)]
theorem Prog.enc_eq (x : Prog) : x.enc = .agg [.sl false (x.code.map Instr.enc), .sl false (x.sizes.map (V.int .i64)), .sl false (x.data.map encLU16)] := rfl
theorem Prog.eq_iff (x y : Prog) : x = y ↔ x.code = y.code ∧ x.sizes = y.sizes ∧ x.data = y.data := by cases x; cases y; simp
@[simp] theorem Prog.cells_eq (x : Prog) : x.enc.cells = [.sl false (x.code.map Instr.enc), .sl false (x.sizes.map (V.int .i64)), .sl false (x.data.map encLU16)] := rfl
@[simp] theorem Prog.imm1_eq (x : Prog) : x.enc.imm1 = true := rfl
theorem Prog.enc_cells (x : Prog) : x.enc.cells.length = 3 := rfl
@[simp] theorem dull_Prog (l : List Prog) : dullL (l.map Prog.enc) = l.map Prog.enc := dullL_map (fun x => by simp [Prog.enc_eq]) l
structure Canon where
  tag : Int
  val : Int
  region : Int
  offset : Int
  deriving DecidableEq, Inhabited
def Canon.enc (x : Canon) : V := .agg [.int .u8 x.tag, .int .u16 x.val, .int .i64 x.region, .int .i64 x.offset]
theorem Canon.enc_eq (x : Canon) : x.enc = .agg [.int .u8 x.tag, .int .u16 x.val, .int .i64 x.region, .int .i64 x.offset] := rfl
theorem Canon.eq_iff (x y : Canon) : x = y ↔ x.tag = y.tag ∧ x.val = y.val ∧ x.region = y.region ∧ x.offset = y.offset := by cases x; cases y; simp
@[simp] theorem Canon.cells_eq (x : Canon) : x.enc.cells = [.int .u8 x.tag, .int .u16 x.val, .int .i64 x.region, .int .i64 x.offset] := rfl
@[simp] theorem Canon.imm1_eq (x : Canon) : x.enc.imm1 = true := rfl
theorem Canon.enc_cells (x : Canon) : x.enc.cells.length = 4 := rfl
@[simp] theorem dull_Canon (l : List Canon) : dullL (l.map Canon.enc) = l.map Canon.enc := dullL_map (fun x => by simp [Canon.enc_eq]) l
structure Opn where
  file : Int
  offset : Int
  write : Bool
  deriving DecidableEq, Inhabited
def Opn.enc (x : Opn) : V := .agg [.int .i64 x.file, .int .i64 x.offset, .bool x.write]
theorem Opn.enc_eq (x : Opn) : x.enc = .agg [.int .i64 x.file, .int .i64 x.offset, .bool x.write] := rfl
theorem Opn.eq_iff (x y : Opn) : x = y ↔ x.file = y.file ∧ x.offset = y.offset ∧ x.write = y.write := by cases x; cases y; simp
@[simp] theorem Opn.cells_eq (x : Opn) : x.enc.cells = [.int .i64 x.file, .int .i64 x.offset, .bool x.write] := rfl
@[simp] theorem Opn.imm1_eq (x : Opn) : x.enc.imm1 = true := rfl
theorem Opn.enc_cells (x : Opn) : x.enc.cells.length = 3 := rfl
@[simp] theorem dull_Opn (l : List Opn) : dullL (l.map Opn.enc) = l.map Opn.enc := dullL_map (fun x => by simp [Opn.enc_eq]) l
def encLCanon (x : List Canon) : V := .sl false (x.map Canon.enc)
theorem encLCanon_eq (x : List Canon) : encLCanon x = .sl false (x.map Canon.enc) := rfl
@[simp] theorem encLCanon_cells_eq (x : List Canon) : (encLCanon x).cells = [.sl false (x.map Canon.enc)] := rfl
theorem encLCanon_cells (x : List Canon) : (encLCanon x).cells.length = 1 := rfl
@[simp] theorem dull_LCanon (l : List (List Canon)) : dullL (l.map encLCanon) = l.map encLCanon := dullL_map (fun x => by simp [encLCanon_eq]) l
structure Files where
  data : List (List Canon)
  opens : List Opn
  deriving DecidableEq, Inhabited
def Files.enc (x : Files) : V := .agg [.sl false (x.data.map encLCanon), .sl false (x.opens.map Opn.enc)]
theorem Files.enc_eq (x : Files) : x.enc = .agg [.sl false (x.data.map encLCanon), .sl false (x.opens.map Opn.enc)] := rfl
theorem Files.eq_iff (x y : Files) : x = y ↔ x.data = y.data ∧ x.opens = y.opens := by cases x; cases y; simp
@[simp] theorem Files.cells_eq (x : Files) : x.enc.cells = [.sl false (x.data.map encLCanon), .sl false (x.opens.map Opn.enc)] := rfl
@[simp] theorem Files.imm1_eq (x : Files) : x.enc.imm1 = true := rfl
theorem Files.enc_cells (x : Files) : x.enc.cells.length = 2 := rfl
@[simp] theorem dull_Files (l : List Files) : dullL (l.map Files.enc) = l.map Files.enc := dullL_map (fun x => by simp [Files.enc_eq]) l
structure Output where
  seq : Int
  socket : Int
  data : List Canon
  deriving DecidableEq, Inhabited
def Output.enc (x : Output) : V := .agg [.int .i64 x.seq, .int .i64 x.socket, .sl false (x.data.map Canon.enc)]
theorem Output.enc_eq (x : Output) : x.enc = .agg [.int .i64 x.seq, .int .i64 x.socket, .sl false (x.data.map Canon.enc)] := rfl
theorem Output.eq_iff (x y : Output) : x = y ↔ x.seq = y.seq ∧ x.socket = y.socket ∧ x.data = y.data := by cases x; cases y; simp
@[simp] theorem Output.cells_eq (x : Output) : x.enc.cells = [.int .i64 x.seq, .int .i64 x.socket, .sl false (x.data.map Canon.enc)] := rfl
@[simp] theorem Output.imm1_eq (x : Output) : x.enc.imm1 = true := rfl
theorem Output.enc_cells (x : Output) : x.enc.cells.length = 3 := rfl
@[simp] theorem dull_Output (l : List Output) : dullL (l.map Output.enc) = l.map Output.enc := dullL_map (fun x => by simp [Output.enc_eq]) l
structure Outs where
  clock : List Int
  random : List Int
  inputs : List (List Int)
  files : Files
  outputs : List Output
  deriving DecidableEq, Inhabited
def Outs.enc (x : Outs) : V := .agg [.sl false (x.clock.map (V.int .u16)), .sl false (x.random.map (V.int .u16)), .sl false (x.inputs.map encLU16), .sl false (x.files.data.map encLCanon), .sl false (x.files.opens.map Opn.enc), .sl false (x.outputs.map Output.enc)]
theorem Outs.enc_eq (x : Outs) : x.enc = .agg [.sl false (x.clock.map (V.int .u16)), .sl false (x.random.map (V.int .u16)), .sl false (x.inputs.map encLU16), .sl false (x.files.data.map encLCanon), .sl false (x.files.opens.map Opn.enc), .sl false (x.outputs.map Output.enc)] := rfl
theorem Outs.eq_iff (x y : Outs) : x = y ↔ x.clock = y.clock ∧ x.random = y.random ∧ x.inputs = y.inputs ∧ x.files = y.files ∧ x.outputs = y.outputs := by cases x; cases y; simp
@[simp] theorem Outs.cells_eq (x : Outs) : x.enc.cells = [.sl false (x.clock.map (V.int .u16)), .sl false (x.random.map (V.int .u16)), .sl false (x.inputs.map encLU16), .sl false (x.files.data.map encLCanon), .sl false (x.files.opens.map Opn.enc), .sl false (x.outputs.map Output.enc)] := rfl
@[simp] theorem Outs.imm1_eq (x : Outs) : x.enc.imm1 = true := rfl
theorem Outs.enc_cells (x : Outs) : x.enc.cells.length = 6 := rfl
@[simp] theorem dull_Outs (l : List Outs) : dullL (l.map Outs.enc) = l.map Outs.enc := dullL_map (fun x => by simp [Outs.enc_eq]) l
structure Choice where
  thread : Int
  branches : Int
  signal : Bool
  deriving DecidableEq, Inhabited
def Choice.enc (x : Choice) : V := .agg [.int .i64 x.thread, .int .i64 x.branches, .bool x.signal]
theorem Choice.enc_eq (x : Choice) : x.enc = .agg [.int .i64 x.thread, .int .i64 x.branches, .bool x.signal] := rfl
theorem Choice.eq_iff (x y : Choice) : x = y ↔ x.thread = y.thread ∧ x.branches = y.branches ∧ x.signal = y.signal := by cases x; cases y; simp
@[simp] theorem Choice.cells_eq (x : Choice) : x.enc.cells = [.int .i64 x.thread, .int .i64 x.branches, .bool x.signal] := rfl
@[simp] theorem Choice.imm1_eq (x : Choice) : x.enc.imm1 = true := rfl
theorem Choice.enc_cells (x : Choice) : x.enc.cells.length = 3 := rfl
@[simp] theorem dull_Choice (l : List Choice) : dullL (l.map Choice.enc) = l.map Choice.enc := dullL_map (fun x => by simp [Choice.enc_eq]) l
structure Fault where
  time : Int
  replica : Int
  kind : Int
  thread : Int
  where_ : Int
  bit : Int
  deriving DecidableEq, Inhabited
def Fault.enc (x : Fault) : V := .agg [.int .i64 x.time, .int .i64 x.replica, .int .i64 x.kind, .int .i64 x.thread, .int .i64 x.where_, .int .i64 x.bit]
theorem Fault.enc_eq (x : Fault) : x.enc = .agg [.int .i64 x.time, .int .i64 x.replica, .int .i64 x.kind, .int .i64 x.thread, .int .i64 x.where_, .int .i64 x.bit] := rfl
theorem Fault.eq_iff (x y : Fault) : x = y ↔ x.time = y.time ∧ x.replica = y.replica ∧ x.kind = y.kind ∧ x.thread = y.thread ∧ x.where_ = y.where_ ∧ x.bit = y.bit := by cases x; cases y; simp
@[simp] theorem Fault.cells_eq (x : Fault) : x.enc.cells = [.int .i64 x.time, .int .i64 x.replica, .int .i64 x.kind, .int .i64 x.thread, .int .i64 x.where_, .int .i64 x.bit] := rfl
@[simp] theorem Fault.imm1_eq (x : Fault) : x.enc.imm1 = true := rfl
theorem Fault.enc_cells (x : Fault) : x.enc.cells.length = 6 := rfl
@[simp] theorem dull_Fault (l : List Fault) : dullL (l.map Fault.enc) = l.map Fault.enc := dullL_map (fun x => by simp [Fault.enc_eq]) l
structure Setup where
  program : Prog
  seeds : List Int
  outside : Outs
  period : Int
  misses : Int
  repairs : Int
  pages : Int
  least : Int
  wait : Int
  deriving DecidableEq, Inhabited
def Setup.enc (x : Setup) : V := .agg [.sl false (x.program.code.map Instr.enc), .sl false (x.program.sizes.map (V.int .i64)), .sl false (x.program.data.map encLU16), .sl false (x.seeds.map (V.int .i64)), .sl false (x.outside.clock.map (V.int .u16)), .sl false (x.outside.random.map (V.int .u16)), .sl false (x.outside.inputs.map encLU16), .sl false (x.outside.files.data.map encLCanon), .sl false (x.outside.files.opens.map Opn.enc), .sl false (x.outside.outputs.map Output.enc), .int .i64 x.period, .int .i64 x.misses, .int .i64 x.repairs, .int .i64 x.pages, .int .i64 x.least, .int .i64 x.wait]
theorem Setup.enc_eq (x : Setup) : x.enc = .agg [.sl false (x.program.code.map Instr.enc), .sl false (x.program.sizes.map (V.int .i64)), .sl false (x.program.data.map encLU16), .sl false (x.seeds.map (V.int .i64)), .sl false (x.outside.clock.map (V.int .u16)), .sl false (x.outside.random.map (V.int .u16)), .sl false (x.outside.inputs.map encLU16), .sl false (x.outside.files.data.map encLCanon), .sl false (x.outside.files.opens.map Opn.enc), .sl false (x.outside.outputs.map Output.enc), .int .i64 x.period, .int .i64 x.misses, .int .i64 x.repairs, .int .i64 x.pages, .int .i64 x.least, .int .i64 x.wait] := rfl
theorem Setup.eq_iff (x y : Setup) : x = y ↔ x.program = y.program ∧ x.seeds = y.seeds ∧ x.outside = y.outside ∧ x.period = y.period ∧ x.misses = y.misses ∧ x.repairs = y.repairs ∧ x.pages = y.pages ∧ x.least = y.least ∧ x.wait = y.wait := by cases x; cases y; simp
@[simp] theorem Setup.cells_eq (x : Setup) : x.enc.cells = [.sl false (x.program.code.map Instr.enc), .sl false (x.program.sizes.map (V.int .i64)), .sl false (x.program.data.map encLU16), .sl false (x.seeds.map (V.int .i64)), .sl false (x.outside.clock.map (V.int .u16)), .sl false (x.outside.random.map (V.int .u16)), .sl false (x.outside.inputs.map encLU16), .sl false (x.outside.files.data.map encLCanon), .sl false (x.outside.files.opens.map Opn.enc), .sl false (x.outside.outputs.map Output.enc), .int .i64 x.period, .int .i64 x.misses, .int .i64 x.repairs, .int .i64 x.pages, .int .i64 x.least, .int .i64 x.wait] := rfl
@[simp] theorem Setup.imm1_eq (x : Setup) : x.enc.imm1 = true := rfl
theorem Setup.enc_cells (x : Setup) : x.enc.cells.length = 16 := rfl
@[simp] theorem dull_Setup (l : List Setup) : dullL (l.map Setup.enc) = l.map Setup.enc := dullL_map (fun x => by simp [Setup.enc_eq]) l
structure Hang where
  time : Int
  replica : Int
  for_ : Int
  deriving DecidableEq, Inhabited
def Hang.enc (x : Hang) : V := .agg [.int .i64 x.time, .int .i64 x.replica, .int .i64 x.for_]
theorem Hang.enc_eq (x : Hang) : x.enc = .agg [.int .i64 x.time, .int .i64 x.replica, .int .i64 x.for_] := rfl
theorem Hang.eq_iff (x y : Hang) : x = y ↔ x.time = y.time ∧ x.replica = y.replica ∧ x.for_ = y.for_ := by cases x; cases y; simp
@[simp] theorem Hang.cells_eq (x : Hang) : x.enc.cells = [.int .i64 x.time, .int .i64 x.replica, .int .i64 x.for_] := rfl
@[simp] theorem Hang.imm1_eq (x : Hang) : x.enc.imm1 = true := rfl
theorem Hang.enc_cells (x : Hang) : x.enc.cells.length = 3 := rfl
@[simp] theorem dull_Hang (l : List Hang) : dullL (l.map Hang.enc) = l.map Hang.enc := dullL_map (fun x => by simp [Hang.enc_eq]) l
structure Crash where
  time : Int
  after : Bool
  deriving DecidableEq, Inhabited
def Crash.enc (x : Crash) : V := .agg [.int .i64 x.time, .bool x.after]
theorem Crash.enc_eq (x : Crash) : x.enc = .agg [.int .i64 x.time, .bool x.after] := rfl
theorem Crash.eq_iff (x y : Crash) : x = y ↔ x.time = y.time ∧ x.after = y.after := by cases x; cases y; simp
@[simp] theorem Crash.cells_eq (x : Crash) : x.enc.cells = [.int .i64 x.time, .bool x.after] := rfl
@[simp] theorem Crash.imm1_eq (x : Crash) : x.enc.imm1 = true := rfl
theorem Crash.enc_cells (x : Crash) : x.enc.cells.length = 2 := rfl
@[simp] theorem dull_Crash (l : List Crash) : dullL (l.map Crash.enc) = l.map Crash.enc := dullL_map (fun x => by simp [Crash.enc_eq]) l
structure Troubles where
  faults : List Fault
  hangs : List Hang
  crashes : List Crash
  deriving DecidableEq, Inhabited
def Troubles.enc (x : Troubles) : V := .agg [.sl false (x.faults.map Fault.enc), .sl false (x.hangs.map Hang.enc), .sl false (x.crashes.map Crash.enc)]
theorem Troubles.enc_eq (x : Troubles) : x.enc = .agg [.sl false (x.faults.map Fault.enc), .sl false (x.hangs.map Hang.enc), .sl false (x.crashes.map Crash.enc)] := rfl
theorem Troubles.eq_iff (x y : Troubles) : x = y ↔ x.faults = y.faults ∧ x.hangs = y.hangs ∧ x.crashes = y.crashes := by cases x; cases y; simp
@[simp] theorem Troubles.cells_eq (x : Troubles) : x.enc.cells = [.sl false (x.faults.map Fault.enc), .sl false (x.hangs.map Hang.enc), .sl false (x.crashes.map Crash.enc)] := rfl
@[simp] theorem Troubles.imm1_eq (x : Troubles) : x.enc.imm1 = true := rfl
theorem Troubles.enc_cells (x : Troubles) : x.enc.cells.length = 3 := rfl
@[simp] theorem dull_Troubles (l : List Troubles) : dullL (l.map Troubles.enc) = l.map Troubles.enc := dullL_map (fun x => by simp [Troubles.enc_eq]) l
structure Event where
  time : Int
  kind : Int
  replica : Int
  detail : Int
  deriving DecidableEq, Inhabited
def Event.enc (x : Event) : V := .agg [.int .i64 x.time, .int .i64 x.kind, .int .i64 x.replica, .int .i64 x.detail]
theorem Event.enc_eq (x : Event) : x.enc = .agg [.int .i64 x.time, .int .i64 x.kind, .int .i64 x.replica, .int .i64 x.detail] := rfl
theorem Event.eq_iff (x y : Event) : x = y ↔ x.time = y.time ∧ x.kind = y.kind ∧ x.replica = y.replica ∧ x.detail = y.detail := by cases x; cases y; simp
@[simp] theorem Event.cells_eq (x : Event) : x.enc.cells = [.int .i64 x.time, .int .i64 x.kind, .int .i64 x.replica, .int .i64 x.detail] := rfl
@[simp] theorem Event.imm1_eq (x : Event) : x.enc.imm1 = true := rfl
theorem Event.enc_cells (x : Event) : x.enc.cells.length = 4 := rfl
@[simp] theorem dull_Event (l : List Event) : dullL (l.map Event.enc) = l.map Event.enc := dullL_map (fun x => by simp [Event.enc_eq]) l
structure row where
  kind : Int
  numbers : List Int
  deriving DecidableEq, Inhabited
def row.enc (x : row) : V := .agg [.int .i64 x.kind, .sl false (x.numbers.map (V.int .i64))]
theorem row.enc_eq (x : row) : x.enc = .agg [.int .i64 x.kind, .sl false (x.numbers.map (V.int .i64))] := rfl
theorem row.eq_iff (x y : row) : x = y ↔ x.kind = y.kind ∧ x.numbers = y.numbers := by cases x; cases y; simp
@[simp] theorem row.cells_eq (x : row) : x.enc.cells = [.int .i64 x.kind, .sl false (x.numbers.map (V.int .i64))] := rfl
@[simp] theorem row.imm1_eq (x : row) : x.enc.imm1 = true := rfl
theorem row.enc_cells (x : row) : x.enc.cells.length = 2 := rfl
@[simp] theorem dull_row (l : List row) : dullL (l.map row.enc) = l.map row.enc := dullL_map (fun x => by simp [row.enc_eq]) l
structure scenario where
  u : Setup
  t : Troubles
  l : List Choice
  deriving DecidableEq, Inhabited
def scenario.enc (x : scenario) : V := .agg [.sl false (x.u.program.code.map Instr.enc), .sl false (x.u.program.sizes.map (V.int .i64)), .sl false (x.u.program.data.map encLU16), .sl false (x.u.seeds.map (V.int .i64)), .sl false (x.u.outside.clock.map (V.int .u16)), .sl false (x.u.outside.random.map (V.int .u16)), .sl false (x.u.outside.inputs.map encLU16), .sl false (x.u.outside.files.data.map encLCanon), .sl false (x.u.outside.files.opens.map Opn.enc), .sl false (x.u.outside.outputs.map Output.enc), .int .i64 x.u.period, .int .i64 x.u.misses, .int .i64 x.u.repairs, .int .i64 x.u.pages, .int .i64 x.u.least, .int .i64 x.u.wait, .sl false (x.t.faults.map Fault.enc), .sl false (x.t.hangs.map Hang.enc), .sl false (x.t.crashes.map Crash.enc), .sl false (x.l.map Choice.enc)]
theorem scenario.enc_eq (x : scenario) : x.enc = .agg [.sl false (x.u.program.code.map Instr.enc), .sl false (x.u.program.sizes.map (V.int .i64)), .sl false (x.u.program.data.map encLU16), .sl false (x.u.seeds.map (V.int .i64)), .sl false (x.u.outside.clock.map (V.int .u16)), .sl false (x.u.outside.random.map (V.int .u16)), .sl false (x.u.outside.inputs.map encLU16), .sl false (x.u.outside.files.data.map encLCanon), .sl false (x.u.outside.files.opens.map Opn.enc), .sl false (x.u.outside.outputs.map Output.enc), .int .i64 x.u.period, .int .i64 x.u.misses, .int .i64 x.u.repairs, .int .i64 x.u.pages, .int .i64 x.u.least, .int .i64 x.u.wait, .sl false (x.t.faults.map Fault.enc), .sl false (x.t.hangs.map Hang.enc), .sl false (x.t.crashes.map Crash.enc), .sl false (x.l.map Choice.enc)] := rfl
theorem scenario.eq_iff (x y : scenario) : x = y ↔ x.u = y.u ∧ x.t = y.t ∧ x.l = y.l := by cases x; cases y; simp
@[simp] theorem scenario.cells_eq (x : scenario) : x.enc.cells = [.sl false (x.u.program.code.map Instr.enc), .sl false (x.u.program.sizes.map (V.int .i64)), .sl false (x.u.program.data.map encLU16), .sl false (x.u.seeds.map (V.int .i64)), .sl false (x.u.outside.clock.map (V.int .u16)), .sl false (x.u.outside.random.map (V.int .u16)), .sl false (x.u.outside.inputs.map encLU16), .sl false (x.u.outside.files.data.map encLCanon), .sl false (x.u.outside.files.opens.map Opn.enc), .sl false (x.u.outside.outputs.map Output.enc), .int .i64 x.u.period, .int .i64 x.u.misses, .int .i64 x.u.repairs, .int .i64 x.u.pages, .int .i64 x.u.least, .int .i64 x.u.wait, .sl false (x.t.faults.map Fault.enc), .sl false (x.t.hangs.map Hang.enc), .sl false (x.t.crashes.map Crash.enc), .sl false (x.l.map Choice.enc)] := rfl
@[simp] theorem scenario.imm1_eq (x : scenario) : x.enc.imm1 = true := rfl
theorem scenario.enc_cells (x : scenario) : x.enc.cells.length = 20 := rfl
@[simp] theorem dull_scenario (l : List scenario) : dullL (l.map scenario.enc) = l.map scenario.enc := dullL_map (fun x => by simp [scenario.enc_eq]) l
structure reader where
  place : Int
  u : Setup
  t : Troubles
  l : List Choice
  deriving DecidableEq, Inhabited
def reader.enc (x : reader) : V := .agg [.int .i64 x.place, .sl false (x.u.program.code.map Instr.enc), .sl false (x.u.program.sizes.map (V.int .i64)), .sl false (x.u.program.data.map encLU16), .sl false (x.u.seeds.map (V.int .i64)), .sl false (x.u.outside.clock.map (V.int .u16)), .sl false (x.u.outside.random.map (V.int .u16)), .sl false (x.u.outside.inputs.map encLU16), .sl false (x.u.outside.files.data.map encLCanon), .sl false (x.u.outside.files.opens.map Opn.enc), .sl false (x.u.outside.outputs.map Output.enc), .int .i64 x.u.period, .int .i64 x.u.misses, .int .i64 x.u.repairs, .int .i64 x.u.pages, .int .i64 x.u.least, .int .i64 x.u.wait, .sl false (x.t.faults.map Fault.enc), .sl false (x.t.hangs.map Hang.enc), .sl false (x.t.crashes.map Crash.enc), .sl false (x.l.map Choice.enc)]
theorem reader.enc_eq (x : reader) : x.enc = .agg [.int .i64 x.place, .sl false (x.u.program.code.map Instr.enc), .sl false (x.u.program.sizes.map (V.int .i64)), .sl false (x.u.program.data.map encLU16), .sl false (x.u.seeds.map (V.int .i64)), .sl false (x.u.outside.clock.map (V.int .u16)), .sl false (x.u.outside.random.map (V.int .u16)), .sl false (x.u.outside.inputs.map encLU16), .sl false (x.u.outside.files.data.map encLCanon), .sl false (x.u.outside.files.opens.map Opn.enc), .sl false (x.u.outside.outputs.map Output.enc), .int .i64 x.u.period, .int .i64 x.u.misses, .int .i64 x.u.repairs, .int .i64 x.u.pages, .int .i64 x.u.least, .int .i64 x.u.wait, .sl false (x.t.faults.map Fault.enc), .sl false (x.t.hangs.map Hang.enc), .sl false (x.t.crashes.map Crash.enc), .sl false (x.l.map Choice.enc)] := rfl
theorem reader.eq_iff (x y : reader) : x = y ↔ x.place = y.place ∧ x.u = y.u ∧ x.t = y.t ∧ x.l = y.l := by cases x; cases y; simp
@[simp] theorem reader.cells_eq (x : reader) : x.enc.cells = [.int .i64 x.place, .sl false (x.u.program.code.map Instr.enc), .sl false (x.u.program.sizes.map (V.int .i64)), .sl false (x.u.program.data.map encLU16), .sl false (x.u.seeds.map (V.int .i64)), .sl false (x.u.outside.clock.map (V.int .u16)), .sl false (x.u.outside.random.map (V.int .u16)), .sl false (x.u.outside.inputs.map encLU16), .sl false (x.u.outside.files.data.map encLCanon), .sl false (x.u.outside.files.opens.map Opn.enc), .sl false (x.u.outside.outputs.map Output.enc), .int .i64 x.u.period, .int .i64 x.u.misses, .int .i64 x.u.repairs, .int .i64 x.u.pages, .int .i64 x.u.least, .int .i64 x.u.wait, .sl false (x.t.faults.map Fault.enc), .sl false (x.t.hangs.map Hang.enc), .sl false (x.t.crashes.map Crash.enc), .sl false (x.l.map Choice.enc)] := rfl
@[simp] theorem reader.imm1_eq (x : reader) : x.enc.imm1 = true := rfl
theorem reader.enc_cells (x : reader) : x.enc.cells.length = 21 := rfl
@[simp] theorem dull_reader (l : List reader) : dullL (l.map reader.enc) = l.map reader.enc := dullL_map (fun x => by simp [reader.enc_eq]) l
end Go.Abs.Api
namespace Go.Proofs
open Go.Shelf
def Tryz.lays169_ren : Go.Shelf.Ren := ⟨fun | 169 => 31 | n => n, fun | 70 => 87 | 9 => 9 | 0 => 0 | 72 => 89 | 37 => 55 | 127 => 129 | 3 => 3 | 5 => 5 | n => n, fun | n => n⟩
theorem Tryz.lays169 : Go.Proofs.Lays.n169 Tryz.prog Tryz.lays169_ren := {
  mixed := by kernel_rfl
  f169 := Tryz.func31.trans (congrArg some (by kernel_rfl))
  t0 := Tryz.underlying0
  a0 := Tryz.isAgg0
  z0 := Tryz.sizeOf0
  v0 := Tryz.zeroValue0
  t3 := Tryz.underlying3
  a3 := Tryz.isAgg3
  z3 := Tryz.sizeOf3
  v3 := Tryz.zeroValue3
  t9 := Tryz.underlying9
  a9 := Tryz.isAgg9
  z9 := Tryz.sizeOf9
  v9 := Tryz.zeroValue9
  t37 := Tryz.underlying55
  a37 := Tryz.isAgg55
  z37 := Tryz.sizeOf55
  v37 := Tryz.zeroValue55
  t70 := Tryz.underlying87
  a70 := Tryz.isAgg87
  z70 := Tryz.sizeOf87
  v70 := Tryz.zeroValue87
  t72 := Tryz.underlying89
  a72 := Tryz.isAgg89
  z72 := Tryz.sizeOf89
  v72 := Tryz.zeroValue89
  t127 := Tryz.underlying129
  a127 := Tryz.isAgg129
  z127 := Tryz.sizeOf129
  v127 := Tryz.zeroValue129 }
theorem Tryz.Builder_Extra_169 : Builder.Extra Tryz.prog Tryz.lays169_ren := {
  sizeBuilder := by kernel_rfl
  liesBuilder := by kernel_rfl
  t5 := Tryz.underlying5
  a5 := Tryz.isAgg5
  z5 := Tryz.sizeOf5
  v5 := Tryz.zeroValue5
  infoByte := by kernel_rfl
  cellsByte := by kernel_rfl
  sizeByte := by kernel_rfl
  neB5 := by decide }
open Go.RowKit in
theorem Tryz.Builder_String_any_k (B b : Nat) (l : List UInt8) (w : World) (h : Lib.IsBuilderF 89 5 B b (Lib.byteCells l) w) (hBw : B ≤ w.heap.size) :
    Calls Tryz.prog 31 #[.pointer (some ⟨b, 0, none⟩)] w fun e w' => e = .returned (.string ⟨l.toArray⟩) ∧ (Lib.IsBuilderF 89 5 B b (Lib.byteCells l) w' ∧ Below B w w' ∧ Lib.OthersKept 5 (some b) w w') := Any.Builder_String_any_k Tryz.lays169 Tryz.Builder_Extra_169 B b l w h hBw
def Tryz.laysM171_ren : Go.Shelf.Ren := ⟨fun | 171 => 56 | 243 => 72 | 246 => 82 | 283 => 93 | 284 => 94 | 285 => 95 | 286 => 96 | 129 => 106 | 317 => 105 | 318 => 107 | 319 => 108 | 320 => 109 | 337 => 114 | 338 => 115 | n => n, fun | 3 => 3 | 9 => 9 | 2 => 2 | 4 => 4 | 171 => 175 | 0 => 0 | 53 => 176 | 37 => 55 | 5 => 5 | 173 => 179 | 212 => 188 | 51 => 189 | 20 => 20 | 213 => 190 | 46 => 181 | 232 => 203 | 233 => 204 | n => n, fun | 17 => 3 | 18 => 6 | 19 => 7 | n => n⟩
theorem Tryz.laysM171 : Go.Proofs.LaysM.n171 Tryz.prog Tryz.laysM171_ren := {
  mixed := by kernel_rfl
  f129 := Tryz.func106.trans (congrArg some (by kernel_rfl))
  f171 := Tryz.func56.trans (congrArg some (by kernel_rfl))
  f243 := Tryz.func72.trans (congrArg some (by kernel_rfl))
  f246 := Tryz.func82.trans (congrArg some (by kernel_rfl))
  f283 := Tryz.func93.trans (congrArg some (by kernel_rfl))
  f284 := Tryz.func94.trans (congrArg some (by kernel_rfl))
  f285 := Tryz.func95.trans (congrArg some (by kernel_rfl))
  f286 := Tryz.func96.trans (congrArg some (by kernel_rfl))
  f317 := Tryz.func105.trans (congrArg some (by kernel_rfl))
  f318 := Tryz.func107.trans (congrArg some (by kernel_rfl))
  f319 := Tryz.func108.trans (congrArg some (by kernel_rfl))
  f320 := Tryz.func109.trans (congrArg some (by kernel_rfl))
  f337 := Tryz.func114.trans (congrArg some (by kernel_rfl))
  f338 := Tryz.func115.trans (congrArg some (by kernel_rfl))
  t0 := Tryz.underlying0
  a0 := Tryz.isAgg0
  z0 := Tryz.sizeOf0
  v0 := Tryz.zeroValue0
  t2 := Tryz.underlying2
  a2 := Tryz.isAgg2
  z2 := Tryz.sizeOf2
  v2 := Tryz.zeroValue2
  t3 := Tryz.underlying3
  a3 := Tryz.isAgg3
  z3 := Tryz.sizeOf3
  v3 := Tryz.zeroValue3
  t4 := Tryz.underlying4
  a4 := Tryz.isAgg4
  z4 := Tryz.sizeOf4
  v4 := Tryz.zeroValue4
  t5 := Tryz.underlying5
  a5 := Tryz.isAgg5
  z5 := Tryz.sizeOf5
  v5 := Tryz.zeroValue5
  t9 := Tryz.underlying9
  a9 := Tryz.isAgg9
  z9 := Tryz.sizeOf9
  v9 := Tryz.zeroValue9
  t20 := Tryz.underlying20
  a20 := Tryz.isAgg20
  z20 := Tryz.sizeOf20
  v20 := Tryz.zeroValue20
  t37 := Tryz.underlying55
  a37 := Tryz.isAgg55
  z37 := Tryz.sizeOf55
  v37 := Tryz.zeroValue55
  t46 := Tryz.underlying181
  a46 := Tryz.isAgg181
  z46 := Tryz.sizeOf181
  v46 := Tryz.zeroValue181
  t51 := Tryz.underlying189
  a51 := Tryz.isAgg189
  z51 := Tryz.sizeOf189
  v51 := Tryz.zeroValue189
  t53 := Tryz.underlying176
  a53 := Tryz.isAgg176
  z53 := Tryz.sizeOf176
  v53 := Tryz.zeroValue176
  t171 := Tryz.underlying175
  a171 := Tryz.isAgg175
  z171 := Tryz.sizeOf175
  v171 := Tryz.zeroValue175
  t173 := Tryz.underlying179
  a173 := Tryz.isAgg179
  z173 := Tryz.sizeOf179
  v173 := Tryz.zeroValue179
  t212 := Tryz.underlying188
  a212 := Tryz.isAgg188
  z212 := Tryz.sizeOf188
  v212 := Tryz.zeroValue188
  t213 := Tryz.underlying190
  a213 := Tryz.isAgg190
  z213 := Tryz.sizeOf190
  t232 := Tryz.underlying203
  a232 := Tryz.isAgg203
  z232 := Tryz.sizeOf203
  v232 := Tryz.zeroValue203
  t233 := Tryz.underlying204
  a233 := Tryz.isAgg204
  z233 := Tryz.sizeOf204
  v233 := Tryz.zeroValue204
  g17 := by kernel_rfl
  g18 := by kernel_rfl
  g19 := by kernel_rfl
  i0 := by kernel_rfl
  i2 := by kernel_rfl
  i3 := by kernel_rfl
  i4 := by kernel_rfl
  i5 := by kernel_rfl
  i9 := by kernel_rfl
  i20 := by kernel_rfl
  i37 := by kernel_rfl
  i46 := by kernel_rfl
  i51 := by kernel_rfl
  i53 := by kernel_rfl
  i171 := by kernel_rfl
  i173 := by kernel_rfl
  i212 := by kernel_rfl
  i232 := by kernel_rfl
  i233 := by kernel_rfl
  m17 := by kernel_rfl
  m18 := by kernel_rfl
  m19 := by kernel_rfl }
open Go.RowKit Go.Sort Go.Lib in
theorem Tryz.strconv_Itoa (n : Int) (h0 : -9223372036854775808 ≤ n) (h1 : n ≤ 9223372036854775807) (w : World) (htab : Lib.TabIs Tryz.prog w "internal/strconv.uint64pow10" .u64 Lib.pow10Tab) :
    Calls Tryz.prog 56 #[.int .i64 n] w fun e w' => e = .returned (.string ⟨(Lib.itoa n).toArray⟩) ∧ ∃ k os, w' = grow (w.drewN k) os := Any.strconv_Itoa Tryz.laysM171 n h0 h1 w htab
def Tryz.laysC172_ren : Go.Shelf.Ren := ⟨fun | 172 => 59 | 244 => 76 | 245 => 77 | 247 => 87 | 279 => 88 | 280 => 89 | 281 => 90 | 282 => 91 | 287 => 102 | 316 => 103 | 171 => 56 | 205 => 104 | 321 => 112 | 322 => 113 | 243 => 72 | 246 => 82 | 283 => 93 | 284 => 94 | 285 => 95 | 286 => 96 | 129 => 106 | 317 => 105 | 318 => 107 | 319 => 108 | 320 => 109 | 337 => 114 | 338 => 115 | n => n, fun | 9 => 9 | 3 => 3 | 75 => 95 | 76 => 96 | 4 => 4 | 5 => 5 | 167 => 168 | 37 => 55 | 0 => 0 | 85 => 169 | 2 => 2 | 168 => 171 | 53 => 176 | 175 => 182 | 46 => 181 | 210 => 186 | 127 => 129 | 145 => 201 | 143 => 199 | 21 => 21 | 171 => 175 | 173 => 179 | 212 => 188 | 51 => 189 | 20 => 20 | 213 => 190 | 232 => 203 | 233 => 204 | 80 => 98 | n => n, fun | 15 => 1 | 16 => 2 | 17 => 3 | 18 => 6 | 19 => 7 | n => n⟩
theorem Tryz.laysC172 : Go.Proofs.LaysC.n172 Tryz.prog Tryz.laysC172_ren := {
  mixed := by kernel_rfl
  f129 := Tryz.func106.trans (congrArg some (by kernel_rfl))
  f171 := Tryz.func56.trans (congrArg some (by kernel_rfl))
  f172 := Tryz.func59.trans (congrArg some (by kernel_rfl))
  f205 := Tryz.func104.trans (congrArg some (by kernel_rfl))
  f243 := Tryz.func72.trans (congrArg some (by kernel_rfl))
  f244 := Tryz.func76.trans (congrArg some (by kernel_rfl))
  f245 := Tryz.func77.trans (congrArg some (by kernel_rfl))
  f246 := Tryz.func82.trans (congrArg some (by kernel_rfl))
  f247 := Tryz.func87.trans (congrArg some (by kernel_rfl))
  f279 := Tryz.func88.trans (congrArg some (by kernel_rfl))
  f280 := Tryz.func89.trans (congrArg some (by kernel_rfl))
  f281 := Tryz.func90.trans (congrArg some (by kernel_rfl))
  f282 := Tryz.func91.trans (congrArg some (by kernel_rfl))
  f283 := Tryz.func93.trans (congrArg some (by kernel_rfl))
  f284 := Tryz.func94.trans (congrArg some (by kernel_rfl))
  f285 := Tryz.func95.trans (congrArg some (by kernel_rfl))
  f286 := Tryz.func96.trans (congrArg some (by kernel_rfl))
  f287 := Tryz.func102.trans (congrArg some (by kernel_rfl))
  f316 := Tryz.func103.trans (congrArg some (by kernel_rfl))
  f317 := Tryz.func105.trans (congrArg some (by kernel_rfl))
  f318 := Tryz.func107.trans (congrArg some (by kernel_rfl))
  f319 := Tryz.func108.trans (congrArg some (by kernel_rfl))
  f320 := Tryz.func109.trans (congrArg some (by kernel_rfl))
  f321 := Tryz.func112.trans (congrArg some (by kernel_rfl))
  f322 := Tryz.func113.trans (congrArg some (by kernel_rfl))
  f337 := Tryz.func114.trans (congrArg some (by kernel_rfl))
  f338 := Tryz.func115.trans (congrArg some (by kernel_rfl))
  t0 := Tryz.underlying0
  a0 := Tryz.isAgg0
  z0 := Tryz.sizeOf0
  v0 := Tryz.zeroValue0
  t2 := Tryz.underlying2
  a2 := Tryz.isAgg2
  z2 := Tryz.sizeOf2
  v2 := Tryz.zeroValue2
  t3 := Tryz.underlying3
  a3 := Tryz.isAgg3
  z3 := Tryz.sizeOf3
  v3 := Tryz.zeroValue3
  t4 := Tryz.underlying4
  a4 := Tryz.isAgg4
  z4 := Tryz.sizeOf4
  v4 := Tryz.zeroValue4
  t5 := Tryz.underlying5
  a5 := Tryz.isAgg5
  z5 := Tryz.sizeOf5
  v5 := Tryz.zeroValue5
  t9 := Tryz.underlying9
  a9 := Tryz.isAgg9
  z9 := Tryz.sizeOf9
  v9 := Tryz.zeroValue9
  t20 := Tryz.underlying20
  a20 := Tryz.isAgg20
  z20 := Tryz.sizeOf20
  v20 := Tryz.zeroValue20
  t21 := Tryz.underlying21
  a21 := Tryz.isAgg21
  z21 := Tryz.sizeOf21
  v21 := Tryz.zeroValue21
  t37 := Tryz.underlying55
  a37 := Tryz.isAgg55
  z37 := Tryz.sizeOf55
  v37 := Tryz.zeroValue55
  t46 := Tryz.underlying181
  a46 := Tryz.isAgg181
  z46 := Tryz.sizeOf181
  v46 := Tryz.zeroValue181
  t51 := Tryz.underlying189
  a51 := Tryz.isAgg189
  z51 := Tryz.sizeOf189
  v51 := Tryz.zeroValue189
  t53 := Tryz.underlying176
  a53 := Tryz.isAgg176
  z53 := Tryz.sizeOf176
  v53 := Tryz.zeroValue176
  t75 := Tryz.underlying95
  a75 := Tryz.isAgg95
  z75 := Tryz.sizeOf95
  v75 := Tryz.zeroValue95
  t76 := Tryz.underlying96
  a76 := Tryz.isAgg96
  z76 := Tryz.sizeOf96
  v76 := Tryz.zeroValue96
  t85 := Tryz.underlying169
  a85 := Tryz.isAgg169
  z85 := Tryz.sizeOf169
  v85 := Tryz.zeroValue169
  t127 := Tryz.underlying129
  a127 := Tryz.isAgg129
  z127 := Tryz.sizeOf129
  v127 := Tryz.zeroValue129
  t143 := Tryz.underlying199
  a143 := Tryz.isAgg199
  z143 := Tryz.sizeOf199
  v143 := Tryz.zeroValue199
  t145 := Tryz.underlying201
  a145 := Tryz.isAgg201
  z145 := Tryz.sizeOf201
  v145 := Tryz.zeroValue201
  t167 := Tryz.underlying168
  a167 := Tryz.isAgg168
  z167 := Tryz.sizeOf168
  v167 := Tryz.zeroValue168
  t168 := Tryz.underlying171
  a168 := Tryz.isAgg171
  z168 := Tryz.sizeOf171
  v168 := Tryz.zeroValue171
  t171 := Tryz.underlying175
  a171 := Tryz.isAgg175
  z171 := Tryz.sizeOf175
  v171 := Tryz.zeroValue175
  t173 := Tryz.underlying179
  a173 := Tryz.isAgg179
  z173 := Tryz.sizeOf179
  v173 := Tryz.zeroValue179
  t175 := Tryz.underlying182
  a175 := Tryz.isAgg182
  z175 := Tryz.sizeOf182
  v175 := Tryz.zeroValue182
  t210 := Tryz.underlying186
  a210 := Tryz.isAgg186
  z210 := Tryz.sizeOf186
  v210 := Tryz.zeroValue186
  t212 := Tryz.underlying188
  a212 := Tryz.isAgg188
  z212 := Tryz.sizeOf188
  v212 := Tryz.zeroValue188
  t213 := Tryz.underlying190
  a213 := Tryz.isAgg190
  z213 := Tryz.sizeOf190
  t232 := Tryz.underlying203
  a232 := Tryz.isAgg203
  z232 := Tryz.sizeOf203
  v232 := Tryz.zeroValue203
  t233 := Tryz.underlying204
  a233 := Tryz.isAgg204
  z233 := Tryz.sizeOf204
  v233 := Tryz.zeroValue204
  g15 := by kernel_rfl
  g16 := by kernel_rfl
  g17 := by kernel_rfl
  g18 := by kernel_rfl
  g19 := by kernel_rfl
  t80 := Tryz.underlying98
  a80 := Tryz.isAgg98
  z80 := Tryz.sizeOf98
  v80 := Tryz.zeroValue98
  i0 := by kernel_rfl
  i2 := by kernel_rfl
  i3 := by kernel_rfl
  i4 := by kernel_rfl
  i5 := by kernel_rfl
  i9 := by kernel_rfl
  i20 := by kernel_rfl
  i21 := by kernel_rfl
  i37 := by kernel_rfl
  i46 := by kernel_rfl
  i51 := by kernel_rfl
  i53 := by kernel_rfl
  i75 := by kernel_rfl
  i76 := by kernel_rfl
  i80 := by kernel_rfl
  i85 := by kernel_rfl
  i127 := by kernel_rfl
  i143 := by kernel_rfl
  i145 := by kernel_rfl
  i167 := by kernel_rfl
  i168 := by kernel_rfl
  i171 := by kernel_rfl
  i173 := by kernel_rfl
  i175 := by kernel_rfl
  i210 := by kernel_rfl
  i212 := by kernel_rfl
  i232 := by kernel_rfl
  i233 := by kernel_rfl
  m15 := by kernel_rfl
  m16 := by kernel_rfl
  m17 := by kernel_rfl
  m18 := by kernel_rfl
  m19 := by kernel_rfl
  c0 := by kernel_rfl
  c2 := by kernel_rfl
  c3 := by kernel_rfl
  c4 := by kernel_rfl
  c5 := by kernel_rfl
  c9 := by kernel_rfl
  c20 := by kernel_rfl
  c21 := by kernel_rfl
  c37 := by kernel_rfl
  c46 := by kernel_rfl
  c51 := by kernel_rfl
  c53 := by kernel_rfl
  c75 := by kernel_rfl
  c76 := by kernel_rfl
  c80 := by kernel_rfl
  c85 := by kernel_rfl
  c127 := by kernel_rfl
  c143 := by kernel_rfl
  c145 := by kernel_rfl
  c167 := by kernel_rfl
  c168 := by kernel_rfl
  c171 := by kernel_rfl
  c173 := by kernel_rfl
  c175 := by kernel_rfl
  c210 := by kernel_rfl
  c212 := by kernel_rfl
  c213 := by kernel_rfl
  c232 := by kernel_rfl
  c233 := by kernel_rfl }
open Go.RowKit in
theorem Tryz.strconv_Atoi_ok (s : ByteArray) (hmax : s.size ≤ 9223372036854775806) (v : Int) (h : Lib.atoiAll s.data.toList = .ok v) (w : World) :
    Calls Tryz.prog 59 #[.string s] w fun e w' => e = .returned (.tuple #[.int .i64 v, .nilIface]) ∧ (w' = w ∨ ∃ t, w' = Lib.bytesWorld w 5 t) := Any.strconv_Atoi_ok Tryz.laysC172 s hmax v h w
open Go.RowKit in
theorem Tryz.strconv_Atoi_syntax (s : ByteArray) (hlim : s.size ≤ 281474976710656) (h : Lib.atoiAll s.data.toList = Lib.atoiAll []) (ev : Value) (w : World) (hv : w.cell? ⟨1, 0, none⟩ = some ev) (hev : ev = .nilIface ∨ ∃ te pe, ev = .iface te pe) :
    Calls Tryz.prog 59 #[.string s] w fun e w' => ∃ N, e = .returned (.tuple #[.int .i64 (0), .iface 171 (.pointer (some ⟨N, 0, none⟩))]) ∧ w.heap.size ≤ N ∧ w'.heap[N]? = some (.cells #[.string ⟨#[65, 116, 111, 105]⟩, .string s, ev] 186 (0, 0)) ∧ Below w.heap.size w w' := Any.strconv_Atoi_syntax Tryz.laysC172 s hlim h ev w hv hev
open Go.RowKit in
theorem Tryz.strconv_Atoi_range (s : ByteArray) (hlim : s.size ≤ 281474976710656) (h : Lib.atoiAll s.data.toList = .range) (ev : Value) (w : World) (hv : w.cell? ⟨2, 0, none⟩ = some ev) (hev : ev = .nilIface ∨ ∃ te pe, ev = .iface te pe) :
    Calls Tryz.prog 59 #[.string s] w fun e w' => ∃ N, e = .returned (.tuple #[.int .i64 (Lib.atoiSat s.data.toList), .iface 171 (.pointer (some ⟨N, 0, none⟩))]) ∧ w.heap.size ≤ N ∧ w'.heap[N]? = some (.cells #[.string ⟨#[65, 116, 111, 105]⟩, .string s, ev] 186 (0, 0)) ∧ Below w.heap.size w w' := Any.strconv_Atoi_range Tryz.laysC172 s hlim h ev w hv hev
def Tryz.lays143_ren : Go.Shelf.Ren := ⟨fun | 143 => 75 | 219 => 86 | 217 => 98 | 225 => 99 | 224 => 100 | 267 => 101 | 266 => 110 | 314 => 111 | n => n, fun | 9 => 9 | 3 => 3 | 4 => 4 | 5 => 5 | 46 => 181 | 146 => 196 | 51 => 189 | n => n, fun | 1 => 0 | n => n⟩
theorem Tryz.lays143 : Go.Proofs.Lays.n143 Tryz.prog Tryz.lays143_ren := {
  mixed := by kernel_rfl
  f143 := Tryz.func75.trans (congrArg some (by kernel_rfl))
  f217 := Tryz.func98.trans (congrArg some (by kernel_rfl))
  f219 := Tryz.func86.trans (congrArg some (by kernel_rfl))
  f224 := Tryz.func100.trans (congrArg some (by kernel_rfl))
  f225 := Tryz.func99.trans (congrArg some (by kernel_rfl))
  f266 := Tryz.func110.trans (congrArg some (by kernel_rfl))
  f267 := Tryz.func101.trans (congrArg some (by kernel_rfl))
  f314 := Tryz.func111.trans (congrArg some (by kernel_rfl))
  t3 := Tryz.underlying3
  a3 := Tryz.isAgg3
  z3 := Tryz.sizeOf3
  v3 := Tryz.zeroValue3
  t4 := Tryz.underlying4
  a4 := Tryz.isAgg4
  z4 := Tryz.sizeOf4
  v4 := Tryz.zeroValue4
  t5 := Tryz.underlying5
  a5 := Tryz.isAgg5
  z5 := Tryz.sizeOf5
  v5 := Tryz.zeroValue5
  t9 := Tryz.underlying9
  a9 := Tryz.isAgg9
  z9 := Tryz.sizeOf9
  v9 := Tryz.zeroValue9
  t46 := Tryz.underlying181
  a46 := Tryz.isAgg181
  z46 := Tryz.sizeOf181
  v46 := Tryz.zeroValue181
  t51 := Tryz.underlying189
  a51 := Tryz.isAgg189
  z51 := Tryz.sizeOf189
  v51 := Tryz.zeroValue189
  t146 := Tryz.underlying196
  a146 := Tryz.isAgg196
  z146 := Tryz.sizeOf196
  v146 := Tryz.zeroValue196
  g1 := by kernel_rfl }
open Go.RowKit Go.Lib in
theorem Tryz.strings_Index_one (s : ByteArray) (c : UInt8) (w : World) :
    Calls Tryz.prog 75 #[.string s, .string ⟨#[c]⟩] w fun e w' => e = .returned (.int .i64 (Lib.indexByte s.data.toList c)) ∧ w' = w := Any.strings_Index_one Tryz.lays143 s c w
def Tryz.lays138_ren : Go.Shelf.Ren := ⟨fun | 138 => 74 | 195 => 83 | 218 => 85 | 143 => 75 | 219 => 86 | 217 => 98 | 225 => 99 | 224 => 100 | 267 => 101 | 266 => 110 | 314 => 111 | n => n, fun | 9 => 9 | 3 => 3 | 4 => 4 | 5 => 5 | 0 => 0 | 46 => 181 | 146 => 196 | 51 => 189 | n => n, fun | 1 => 0 | n => n⟩
theorem Tryz.lays138 : Go.Proofs.Lays.n138 Tryz.prog Tryz.lays138_ren := {
  mixed := by kernel_rfl
  f138 := Tryz.func74.trans (congrArg some (by kernel_rfl))
  f143 := Tryz.func75.trans (congrArg some (by kernel_rfl))
  f195 := Tryz.func83.trans (congrArg some (by kernel_rfl))
  f217 := Tryz.func98.trans (congrArg some (by kernel_rfl))
  f218 := Tryz.func85.trans (congrArg some (by kernel_rfl))
  f219 := Tryz.func86.trans (congrArg some (by kernel_rfl))
  f224 := Tryz.func100.trans (congrArg some (by kernel_rfl))
  f225 := Tryz.func99.trans (congrArg some (by kernel_rfl))
  f266 := Tryz.func110.trans (congrArg some (by kernel_rfl))
  f267 := Tryz.func101.trans (congrArg some (by kernel_rfl))
  f314 := Tryz.func111.trans (congrArg some (by kernel_rfl))
  t0 := Tryz.underlying0
  a0 := Tryz.isAgg0
  z0 := Tryz.sizeOf0
  v0 := Tryz.zeroValue0
  t3 := Tryz.underlying3
  a3 := Tryz.isAgg3
  z3 := Tryz.sizeOf3
  v3 := Tryz.zeroValue3
  t4 := Tryz.underlying4
  a4 := Tryz.isAgg4
  z4 := Tryz.sizeOf4
  v4 := Tryz.zeroValue4
  t5 := Tryz.underlying5
  a5 := Tryz.isAgg5
  z5 := Tryz.sizeOf5
  v5 := Tryz.zeroValue5
  t9 := Tryz.underlying9
  a9 := Tryz.isAgg9
  z9 := Tryz.sizeOf9
  v9 := Tryz.zeroValue9
  t46 := Tryz.underlying181
  a46 := Tryz.isAgg181
  z46 := Tryz.sizeOf181
  v46 := Tryz.zeroValue181
  t51 := Tryz.underlying189
  a51 := Tryz.isAgg189
  z51 := Tryz.sizeOf189
  v51 := Tryz.zeroValue189
  t146 := Tryz.underlying196
  a146 := Tryz.isAgg196
  z146 := Tryz.sizeOf196
  v146 := Tryz.zeroValue196
  g1 := by kernel_rfl }
open Go.RowKit Go.Lib in
theorem Tryz.strings_Count_one (s : ByteArray) (c : UInt8) (w : World) :
    Calls Tryz.prog 74 #[.string s, .string ⟨#[c]⟩] w fun e w' => e = .returned (.int .i64 (Lib.countByte s.data.toList c)) ∧ w' = w := Any.strings_Count_one Tryz.lays138 s c w
def Tryz.lays146_ren : Go.Shelf.Ren := ⟨fun | 146 => 32 | 221 => 57 | 268 => 73 | 138 => 74 | 143 => 75 | 195 => 83 | 197 => 84 | 218 => 85 | 219 => 86 | 260 => 97 | 217 => 98 | 225 => 99 | 224 => 100 | 267 => 101 | 266 => 110 | 314 => 111 | n => n, fun | 9 => 9 | 31 => 68 | 3 => 3 | 4 => 4 | 0 => 0 | 105 => 165 | 21 => 21 | 5 => 5 | 46 => 181 | 119 => 192 | 139 => 195 | 138 => 194 | 146 => 196 | 51 => 189 | n => n, fun | 1 => 0 | 3 => 4 | 4 => 5 | n => n⟩
theorem Tryz.lays146 : Go.Proofs.Lays.n146 Tryz.prog Tryz.lays146_ren := {
  mixed := by kernel_rfl
  f138 := Tryz.func74.trans (congrArg some (by kernel_rfl))
  f143 := Tryz.func75.trans (congrArg some (by kernel_rfl))
  f146 := Tryz.func32.trans (congrArg some (by kernel_rfl))
  f195 := Tryz.func83.trans (congrArg some (by kernel_rfl))
  f197 := Tryz.func84.trans (congrArg some (by kernel_rfl))
  f217 := Tryz.func98.trans (congrArg some (by kernel_rfl))
  f218 := Tryz.func85.trans (congrArg some (by kernel_rfl))
  f219 := Tryz.func86.trans (congrArg some (by kernel_rfl))
  f221 := Tryz.func57.trans (congrArg some (by kernel_rfl))
  f224 := Tryz.func100.trans (congrArg some (by kernel_rfl))
  f225 := Tryz.func99.trans (congrArg some (by kernel_rfl))
  f260 := Tryz.func97.trans (congrArg some (by kernel_rfl))
  f266 := Tryz.func110.trans (congrArg some (by kernel_rfl))
  f267 := Tryz.func101.trans (congrArg some (by kernel_rfl))
  f268 := Tryz.func73.trans (congrArg some (by kernel_rfl))
  f314 := Tryz.func111.trans (congrArg some (by kernel_rfl))
  t0 := Tryz.underlying0
  a0 := Tryz.isAgg0
  z0 := Tryz.sizeOf0
  v0 := Tryz.zeroValue0
  t3 := Tryz.underlying3
  a3 := Tryz.isAgg3
  z3 := Tryz.sizeOf3
  v3 := Tryz.zeroValue3
  t4 := Tryz.underlying4
  a4 := Tryz.isAgg4
  z4 := Tryz.sizeOf4
  v4 := Tryz.zeroValue4
  t5 := Tryz.underlying5
  a5 := Tryz.isAgg5
  z5 := Tryz.sizeOf5
  v5 := Tryz.zeroValue5
  t9 := Tryz.underlying9
  a9 := Tryz.isAgg9
  z9 := Tryz.sizeOf9
  v9 := Tryz.zeroValue9
  t21 := Tryz.underlying21
  a21 := Tryz.isAgg21
  z21 := Tryz.sizeOf21
  v21 := Tryz.zeroValue21
  t31 := Tryz.underlying68
  a31 := Tryz.isAgg68
  z31 := Tryz.sizeOf68
  v31 := Tryz.zeroValue68
  t46 := Tryz.underlying181
  a46 := Tryz.isAgg181
  z46 := Tryz.sizeOf181
  v46 := Tryz.zeroValue181
  t51 := Tryz.underlying189
  a51 := Tryz.isAgg189
  z51 := Tryz.sizeOf189
  v51 := Tryz.zeroValue189
  t105 := Tryz.underlying165
  a105 := Tryz.isAgg165
  z105 := Tryz.sizeOf165
  v105 := Tryz.zeroValue165
  t119 := Tryz.underlying192
  a119 := Tryz.isAgg192
  z119 := Tryz.sizeOf192
  t138 := Tryz.underlying194
  a138 := Tryz.isAgg194
  z138 := Tryz.sizeOf194
  v138 := Tryz.zeroValue194
  t139 := Tryz.underlying195
  a139 := Tryz.isAgg195
  z139 := Tryz.sizeOf195
  v139 := Tryz.zeroValue195
  t146 := Tryz.underlying196
  a146 := Tryz.isAgg196
  z146 := Tryz.sizeOf196
  v146 := Tryz.zeroValue196
  g1 := by kernel_rfl
  g3 := by kernel_rfl
  g4 := by kernel_rfl }
open Go.RowKit Go.Lib in
theorem Tryz.strings_Split (s sep : ByteArray) (m : Int) (w : World) (hs : s.size < 4294967281) (hm : w.cell? ⟨0, 0, none⟩ = some (.int .i64 m)) (h1 : 1 ≤ sep.size) :
    Calls Tryz.prog 32 #[.string s, .string sep] w fun e w' =>
      e = .returned (.slice (some ⟨w.heap.size, 0, none⟩) (Lib.countB s sep + 1) (Lib.countB s sep + 1)) ∧ w' = w.alloc (.cells ((Lib.splitB sep 0 (Lib.countB s sep) s).map Value.string).toArray 9) := Any.strings_Split Tryz.lays146 (by kernel_rfl) s sep m w hs hm h1
end Go.Proofs
namespace Go.Proofs.YtcfmnogghcjdaaaGreatDoor
open Go Go.RowKit
theorem bSize : (Tryz.prog.info? 89).map (·.size) = some 2 := by kernel_rfl
theorem bLies : liesAt Tryz.prog Tryz.prog.depth 89 (2 / Tryz.prog.cellsOf 89) 0 89 1 = true := by kernel_rfl
set_option maxHeartbeats 1000000 in
set_option maxRecDepth 1000000 in
theorem copyCheck (B b : Nat) (bs : List Value) (w : World) (h : Lib.IsBuilderF 89 5 B b bs w) :
    Calls Tryz.prog 54 #[.pointer (some ⟨b, 0, none⟩)] w fun e w' => e = .returned (.tuple #[]) ∧ Lib.BuilderAtF 89 5 B b (.pointer (some ⟨b, 0, none⟩)) bs w' ∧ Below B w w' ∧ Lib.OthersKept 5 (some b) w w' := by
  obtain ⟨j, hj, hjs⟩ := Option.map_eq_some_iff.1 bSize
  rcases h with h | h
  · have c0 := h.cell0; have hf := h.frozen0; have hs := h.shape
    go_enter Tryz.func54, Tryz.ntmps54
    go_wp2
    rw [Lib.run_to_unsafe w ⟨b, 0, none⟩ Tryz.underlying87 Tryz.underlying146 hj (by rw [hjs]; decide) hs (Nat.zero_lt_succ 1)]
    simp only [Result.andThen]
    rw [Oper.upon_value]
    go_wp2
    rw [run_callFunc_extern Tryz.func71 (by kernel_rfl) (by kernel_rfl) (by kernel_rfl) (e := Extern.AbiNoEscape.same) (by kernel_rfl)]
    rw [Lib.run_noEscape]
    simp only [Result.andThen]
    rw [Oper.upon_value]
    go_wp2
    rw [Lib.run_from_unsafe w ⟨b, 0, none⟩ Tryz.underlying146 Tryz.underlying87 hj hs bLies]
    simp only [Result.andThen]
    rw [Oper.upon_value]
    go_wp2
    go_end0
    exact ⟨rfl, h.used _, (Below.refl B w).setCell (p := ⟨b, 0, none⟩) h.1 _, (Lib.OthersKept.refl _ _ w).setCell ⟨b, 0, none⟩ rfl _⟩
  · have c0 := h.cell0
    go_enter Tryz.func54, Tryz.ntmps54
    go_wp2
    rw [Lib.run_neq_ptr_same w _ Tryz.underlying87 hj]
    go_wp2
    go_end0
    exact ⟨rfl, h, Below.refl B _, Lib.OthersKept.refl _ _ _⟩
theorem infoByte : (Tryz.prog.info? 5).map (fun i => (i.zero, i.size, i.bytes)) = some (some (.int .u8 0), 1, 1) := by kernel_rfl
set_option maxHeartbeats 2000000 in
set_option maxRecDepth 1000000 in
theorem writeString (B b : Nat) (bs : List Value) (s : ByteArray) (w : World) (h : Lib.IsBuilderF 89 5 B b bs w) (hlen : bs.length + s.size ≤ 140737488355328) (hBw : B ≤ w.heap.size) :
    Calls Tryz.prog 29 #[.pointer (some ⟨b, 0, none⟩), .string s] w fun e w' => e = .returned (.tuple #[.int .i64 s.size, .nilIface]) ∧ Lib.BuilderAtF 89 5 B b (.pointer (some ⟨b, 0, none⟩)) (bs ++ Lib.strCells s) w' ∧ Below B w w' ∧ Lib.OthersKept 5 (some b) w w' := by
  obtain ⟨i0, hi, hz0, hz1, hz2⟩ := info_parts infoByte
  go_enter Tryz.func29, Tryz.ntmps29
  go_wp2_with (go_at_call 54; refine (copyCheck B b bs _ h).mono ?_)
  rintro e w1 ⟨rfl, h1, hb1, hk1⟩
  obtain ⟨hB, v, hbk, hown, hne⟩ := h1
  have c0 : w1.cell? ⟨b, 0, none⟩ = some (.pointer (some ⟨b, 0, none⟩)) := by rw [Lib.cell_of_heap hbk]; rfl
  have c1 : w1.cell? ⟨b, 1, none⟩ = some v := by rw [Lib.cell_of_heap hbk]; rfl
  go_wp2_with (at_builtin; refine Lib.wpList_append_own_stringF _ rfl _ _ 55 9 rfl B 5 i0 Tryz.underlying55 Tryz.underlying9 hi hz0 hz1 hz2 _ _ _ rfl hown s rfl ?c3 ?c4 ?c5 ?_)
  case c3 => unfold maxLen; omega
  case c4 => omega
  case c5 => have := hb1.size; omega
  intro v' w2 hown' hgrow _
  have hlt : b < w1.heap.size := by
    rcases Nat.lt_or_ge b w1.heap.size with h' | h'
    · exact h'
    · simp [Array.getElem?_eq_none h'] at hbk
  have hb2 : w2.heap[b]? = some (.cells #[.pointer (some ⟨b, 0, none⟩), v] 89 (0, 0)) := by
    rw [hgrow.block b hlt (fun e => hne e.symm)]
    exact hbk
  have d0 : w2.cell? ⟨b, 0, none⟩ = some (.pointer (some ⟨b, 0, none⟩)) := by rw [Lib.cell_of_heap hb2]; rfl
  have d1 : w2.cell? ⟨b, 1, none⟩ = some v := by rw [Lib.cell_of_heap hb2]; rfl
  have f1 : w2.frozen? ⟨b, 1, none⟩ = false := Lib.frozen_of_heap hb2 1
  obtain ⟨ao, n', cap, rfl⟩ : ∃ ao n' cap, v' = .slice ao n' cap := by
    rcases hown'.2 with ⟨hv, _⟩ | ⟨g, cap, cur, fz, hv, _⟩
    · exact ⟨_, _, _, hv⟩
    · exact ⟨_, _, _, hv⟩
  go_wp2
  go_ret2
  refine ⟨rfl, ?_, ?_, (hk1.grown hgrow (Lib.ownsRowF_kind hown)).setCell ⟨b, 1, none⟩ rfl _⟩
  · exact Lib.BuilderAtF.put (T := 89) (e := 5) hB hb2 (bs' := bs ++ Lib.strCells s) (by simpa [Lib.strCells_length] using hown') (by decide)
  · exact (hb1.grown hgrow (by have := hb1.size; omega) (fun k hk => (hown.lt k hk).1)).setCell (p := ⟨b, 1, none⟩) hB _
end Go.Proofs.YtcfmnogghcjdaaaGreatDoor
namespace Go.Proofs.YtcfmnogghcjdaaaGreatDoor
open Go Go.RowKit
structure Ev where
  at_ : Int
  kind : Int
  rep : Int
  det : Int
def kindsL : List (List UInt8) := [[111, 116, 104, 101, 114], [104, 105, 116], [102, 111, 117, 110, 100], [100, 105, 103, 101, 115, 116], [117, 110, 102, 105, 116], [103, 105, 118, 101, 110, 117, 112], [99, 111, 112, 121, 105, 110, 103], [114, 101, 112, 97, 105, 114, 101, 100], [108, 111, 115, 116], [104, 97, 108, 116], [111, 118, 101, 114]]
def kindOf (k : Int) : Nat := if k < 0 ∨ 11 ≤ k then 0 else k.toNat
def evLine (num : Int → List UInt8) (e : Ev) : List UInt8 :=
  kindsL.getD (kindOf e.kind) [] ++ [32] ++ num e.at_ ++ [32] ++ num e.rep ++ [32] ++ num e.det ++ [10]
def evText (num : Int → List UInt8) (l : List Ev) : List UInt8 := (l.map (evLine num)).flatten
def evCells (w : World) (b o : Nat) (evs : List Ev) : Prop := ∀ i e, evs[i]? = some e →
  w.cell? ⟨b, o + i * 4, none⟩ = some (.int .i64 e.at_) ∧ w.cell? ⟨b, o + i * 4 + 1, none⟩ = some (.int .i64 e.kind) ∧ w.cell? ⟨b, o + i * 4 + 2, none⟩ = some (.int .i64 e.rep) ∧ w.cell? ⟨b, o + i * 4 + 3, none⟩ = some (.int .i64 e.det)
def kindsV : Array Value := #[.string ⟨#[111, 116, 104, 101, 114]⟩, .string ⟨#[104, 105, 116]⟩, .string ⟨#[102, 111, 117, 110, 100]⟩, .string ⟨#[100, 105, 103, 101, 115, 116]⟩, .string ⟨#[117, 110, 102, 105, 116]⟩, .string ⟨#[103, 105, 118, 101, 110, 117, 112]⟩, .string ⟨#[99, 111, 112, 121, 105, 110, 103]⟩, .string ⟨#[114, 101, 112, 97, 105, 114, 101, 100]⟩, .string ⟨#[108, 111, 115, 116]⟩, .string ⟨#[104, 97, 108, 116]⟩, .string ⟨#[111, 118, 101, 114]⟩]
theorem bldKeep {T e : TypeId} {B b : Nat} {bs : List Value} {w w' : World} (h : Lib.IsBuilderF T e B b bs w) (hb : Below w.heap.size w w') : Lib.IsBuilderF T e B b bs w' := by
  have one : ∀ p, Lib.BuilderAtF T e B b p bs w → Lib.BuilderAtF T e B b p bs w' := by
    intro p h
    have hlt := h.lt
    obtain ⟨h1, v, h2, h3, h4⟩ := h
    have hg : w.grownBy w' none := ⟨hb.os, hb.tape, hb.output, hb.size, fun k hk _ => hb.block k hk⟩
    exact ⟨h1, v, by rw [hb.block b hlt]; exact h2, h3.kept hg (by cases hv : v.ownBlock <;> simp), h4⟩
  exact h.imp (one _) (one _)
theorem heapKeep {w w' : World} {b : Nat} {o : Obj} (h : w.heap[b]? = some o) (hb : Below w.heap.size w w') : w'.heap[b]? = some o := by
  rw [hb.block b (Array.getElem?_eq_some_iff.1 h).1]; exact h
theorem kindsV_at {n : Nat} (h : n < 11) : kindsV[n]? = some (.string ⟨(kindsL.getD n []).toArray⟩) := by
  have : n = 0 ∨ n = 1 ∨ n = 2 ∨ n = 3 ∨ n = 4 ∨ n = 5 ∨ n = 6 ∨ n = 7 ∨ n = 8 ∨ n = 9 ∨ n = 10 := by omega
  rcases this with rfl | rfl | rfl | rfl | rfl | rfl | rfl | rfl | rfl | rfl | rfl <;> rfl
structure EvS (w : World) (N1 N2 kc : Nat) (ks : List UInt8) (ev : Ev) (W : World) : Prop where
  k : kindsV[kc]? = some (.string ⟨ks.toArray⟩)
  h1 : W.heap[N1]? = some (.cells kindsV 103 (0, 0))
  h2 : W.heap[N2]? = some (.cells #[.int .i64 ev.at_, .int .i64 ev.kind, .int .i64 ev.rep, .int .i64 ev.det] 64 (0, 0))
  b : Below w.heap.size w W
theorem EvS.cells {w : World} {N1 N2 kc : Nat} {ks : List UInt8} {ev : Ev} {W : World} (h : EvS w N1 N2 kc ks ev W) : W.cell? ⟨N1, kc, none⟩ = some (.string ⟨ks.toArray⟩) ∧ W.cell? ⟨N2, 0, none⟩ = some (.int .i64 ev.at_) ∧ W.cell? ⟨N2, 2, none⟩ = some (.int .i64 ev.rep) ∧ W.cell? ⟨N2, 3, none⟩ = some (.int .i64 ev.det) :=
  ⟨by rw [Lib.cell_of_heap h.h1]; exact h.k, by rw [Lib.cell_of_heap h.h2]; rfl, by rw [Lib.cell_of_heap h.h2]; rfl, by rw [Lib.cell_of_heap h.h2]; rfl⟩
theorem EvS.drew {w : World} {N1 N2 kc : Nat} {ks : List UInt8} {ev : Ev} {W : World} (h : EvS w N1 N2 kc ks ev W) : EvS w N1 N2 kc ks ev W.drew := ⟨h.k, h.h1, h.h2, h.b.drew⟩
theorem EvS.keep {w : World} {N1 N2 kc : Nat} {ks : List UInt8} {ev : Ev} {W W' : World} (h : EvS w N1 N2 kc ks ev W) (hb : Below W.heap.size W W') : EvS w N1 N2 kc ks ev W' :=
  ⟨h.k, heapKeep h.h1 hb, heapKeep h.h2 hb, h.b.trans (hb.mono h.b.size)⟩
theorem EvS.write {w : World} {N1 N2 kc : Nat} {ks : List UInt8} {ev : Ev} {W W' : World} {b : Nat} (h : EvS w N1 N2 kc ks ev W) (hb : Below w.heap.size W W') (hk : Lib.OthersKept 5 (some b) W W') (n1 : N1 ≠ b) (n2 : N2 ≠ b) : EvS w N1 N2 kc ks ev W' :=
  ⟨h.k, hk N1 _ h.h1 (fun e => n1 (by simpa using e)) (fun c fz e => by simp at e), hk N2 _ h.h2 (fun e => n2 (by simpa using e)) (fun c fz e => by simp at e), h.b.trans hb⟩
theorem evLine_le (num : Int → List UInt8) {evs : List Ev} {k : Nat} {ev : Ev} (h : evs[k]? = some ev) : (evText num (evs.take k)).length + (evLine num ev).length ≤ (evText num evs).length := by
  have hk : k < evs.length := (List.getElem?_eq_some_iff.1 h).1
  have he : evs[k] = ev := (List.getElem?_eq_some_iff.1 h).2
  have : evs = evs.take k ++ ev :: evs.drop (k + 1) := by rw [← he, ← List.drop_eq_getElem_cons hk, List.take_append_drop]
  conv => rhs; rw [this]
  simp [evText]
set_option maxHeartbeats 8000000 in
set_option maxRecDepth 1000000 in
theorem events_walk (w : World) (num : Int → List UInt8) (a : Option Addr) (cap : Nat) (evs : List Ev) (hcap : evs.length ≤ cap) (hmax : evs.length ≤ 1000000000)
    (ha : evs = [] ∨ ∃ b o, a = some ⟨b, o, none⟩ ∧ b < w.heap.size ∧ evCells w b o evs)
    (hkinds : ∀ W, Below w.heap.size w W → Calls Tryz.prog 35 #[] W fun e w' => e = .returned (.agg kindsV) ∧ Below W.heap.size W w')
    (hnum : ∀ W, Below w.heap.size w W → ∀ e ∈ evs, ∀ n, n = e.at_ ∨ n = e.rep ∨ n = e.det → Calls Tryz.prog 36 #[.int .i64 n] W fun e w' => e = .returned (.string ⟨(num n).toArray⟩) ∧ Below W.heap.size W w')
    (hlen : (evText num evs).length ≤ 140737488355328) :
    Calls Tryz.prog 17 #[.slice a evs.length cap] w fun e w' => e = .returned (.string ⟨(evText num evs).toArray⟩) ∧ Below w.heap.size w w' := by
  have hb0 : Below w.heap.size w (w.alloc (.cells #[.pointer none, .slice none 0 0] 89)) := (Below.refl _ w).alloc (Nat.le_refl _) _
  have hI0 := Lib.IsBuilderF.of (Lib.fresh_isBuilder 89 5 w)
  go_enter Tryz.func17, Tryz.ntmps17
  go_wp2_with (go_at_call 35; refine (hkinds _ hb0).mono ?_)
  rintro e w1 ⟨rfl, hb1⟩
  unfold kindsV
  have hI1 : Lib.IsBuilderF 89 5 w.heap.size w.heap.size [] w1 := bldKeep hI0 hb1
  have hbw1 : Below w.heap.size w w1 := hb0.trans (hb1.mono (by simp))
  have hN0 : w.heap.size < w1.heap.size := by have := hb1.size; simp at this; omega
  go_wp2
  go_loopw [11] (fun v wr => ∃ k : Nat, v = .int .i64 k ∧ k ≤ evs.length ∧ Lib.IsBuilderF 89 5 w.heap.size w.heap.size (Lib.byteCells (evText num (evs.take k))) wr ∧ wr.heap[w1.heap.size]? = some (.cells kindsV 103 (0, 0)) ∧ Below w.heap.size w wr) (fun v _ => evs.length - (intOf v).toNat)
  case atStart =>
    refine ⟨0, rfl, Nat.zero_le _, ?_, ?_, hbw1.alloc (by have := hbw1.size; omega) _⟩
    · exact hI1.alloc _
    · exact heap_alloc_new _ _
  case round =>
    obtain ⟨k, rfl, hk, hI, hK, hbw⟩ := hrel
    have hN1 : w1.heap.size < wr.heap.size := (Array.getElem?_eq_some_iff.1 hK).1
    by_cases hlt : k < evs.length
    · obtain ⟨b, o, rfl, hbs, hcells⟩ : ∃ b o, a = some ⟨b, o, none⟩ ∧ b < w.heap.size ∧ evCells w b o evs := by
        rcases ha with h | h
        · rw [h] at hlt; simp at hlt
        · exact h
      clear ha
      obtain ⟨ev, hev⟩ : ∃ ev, evs[k]? = some ev := ⟨evs[k], List.getElem?_eq_getElem hlt⟩
      have hmem : ev ∈ evs := List.mem_of_getElem? hev
      obtain ⟨c0, c1, c2, c3⟩ := hcells k ev hev
      have old : ∀ j v, w.cell? ⟨b, j, none⟩ = some v → wr.cell? ⟨b, j, none⟩ = some v := fun j v h => by rw [hbw.cell hbs]; exact h
      have d0 := old _ _ c0; have d1 := old _ _ c1; have d2 := old _ _ c2; have d3 := old _ _ c3
      clear c0 c1 c2 c3 old hcells
      have hle := evLine_le num hev
      have hstep : evText num (evs.take (k + 1)) = evText num (evs.take k) ++ evLine num ev := by
        rw [List.take_add_one, hev]; simp [evText]
      have hA : ∀ W, Below w.heap.size w W → Calls Tryz.prog 36 #[.int .i64 ev.at_] W fun e w' => e = .returned (.string ⟨(num ev.at_).toArray⟩) ∧ Below W.heap.size W w' := fun W h => hnum W h ev hmem _ (.inl rfl)
      have hR : ∀ W, Below w.heap.size w W → Calls Tryz.prog 36 #[.int .i64 ev.rep] W fun e w' => e = .returned (.string ⟨(num ev.rep).toArray⟩) ∧ Below W.heap.size W w' := fun W h => hnum W h ev hmem _ (.inr (.inl rfl))
      have hD : ∀ W, Below w.heap.size w W → Calls Tryz.prog 36 #[.int .i64 ev.det] W fun e w' => e = .returned (.string ⟨(num ev.det).toArray⟩) ∧ Below W.heap.size W w' := fun W h => hnum W h ev hmem _ (.inr (.inr rfl))
      have hI2 := hI.alloc (.cells #[.int .i64 ev.at_, .int .i64 ev.kind, .int .i64 ev.rep, .int .i64 ev.det] 64)
      obtain ⟨ks, kc, hline, hkc, hsel⟩ : ∃ ks kc, evLine num ev = ks ++ [32] ++ num ev.at_ ++ [32] ++ num ev.rep ++ [32] ++ num ev.det ++ [10] ∧ kindsV[kc]? = some (.string ⟨ks.toArray⟩) ∧ kc = kindOf ev.kind :=
        ⟨_, _, rfl, kindsV_at (by unfold kindOf; split <;> omega), rfl⟩
      have hS : EvS w w1.heap.size wr.heap.size kc ks ev (wr.alloc (.cells #[.int .i64 ev.at_, .int .i64 ev.kind, .int .i64 ev.rep, .int .i64 ev.det] 64)) :=
        ⟨hkc, (Lib.alloc_old _ _ _ hN1).trans hK, heap_alloc_new _ _, hbw.alloc (by have := hbw.size; omega) _⟩
      rw [hline] at hle hstep
      simp only [List.length_append, List.length_cons, List.length_nil] at hle
      generalize num ev.at_ = na at *
      generalize num ev.rep = nr at *
      generalize num ev.det = nd at *
      have b1 : ¬ 9223372036854775807 < ks.length + 1 := by omega
      have b2 : ¬ 9223372036854775807 < ks.length + 1 + na.length := by omega
      have b3 : ¬ 9223372036854775807 < ks.length + 1 + na.length + 1 := by omega
      have b4 : ¬ 9223372036854775807 < ks.length + 1 + na.length + 1 + nr.length := by omega
      have b5 : ¬ 9223372036854775807 < ks.length + 1 + na.length + 1 + nr.length + 1 := by omega
      have b6 : ¬ 9223372036854775807 < ks.length + 1 + na.length + 1 + nr.length + 1 + nd.length := by omega
      have b7 : ¬ 9223372036854775807 < ks.length + 1 + na.length + 1 + nr.length + 1 + nd.length + 1 := by omega
      by_cases hk0 : ev.kind < 0 ∨ 11 ≤ ev.kind
      · have e0 : kc = 0 := by rw [hsel]; simp [kindOf, hk0]
        clear hsel
        subst e0
        have g1 : ev.kind < 0 ∨ ¬ ev.kind < 0 ∧ 11 ≤ ev.kind := by omega
        rcases g1 with g1 | ⟨g1, g2⟩
        · clear hk0
          go_wp2
          generalize wr.alloc (.cells #[.int .i64 ev.at_, .int .i64 ev.kind, .int .i64 ev.rep, .int .i64 ev.det] 64) = W0 at *
          have hS0 := hS.drew
          have hI0' : Lib.IsBuilderF 89 5 w.heap.size w.heap.size (Lib.byteCells (evText num (evs.take k))) W0.drew := hI2.imp (fun h => h.drew) (fun h => h.drew)
          go_region_held3 (fun W => W.cell? ⟨w1.heap.size, 0, none⟩ = some (.string ⟨ks.toArray⟩) ∧ W.cell? ⟨wr.heap.size, 0, none⟩ = some (.int .i64 ev.at_) ∧ W.cell? ⟨wr.heap.size, 2, none⟩ = some (.int .i64 ev.rep) ∧ W.cell? ⟨wr.heap.size, 3, none⟩ = some (.int .i64 ev.det))
            (first | exact EvS.cells hS0 | exact EvS.cells (by assumption))
            (first
              | (go_at_call_of 36 (ev.at_); refine (hA _ ?_).mono ?_; exact EvS.b (N1 := w1.heap.size) (N2 := wr.heap.size) (kc := 0) (ks := ks) (ev := ev) (by assumption); rintro e W ⟨rfl, hb⟩; have hS' := EvS.keep (w := w) (N1 := w1.heap.size) (N2 := wr.heap.size) (kc := 0) (ks := ks) (ev := ev) (by assumption) hb; have hI' := bldKeep (T := 89) (e := 5) (B := w.heap.size) (b := w.heap.size) (bs := Lib.byteCells (evText num (evs.take k))) (by assumption) hb)
              | (go_at_call_of 36 (ev.rep); refine (hR _ ?_).mono ?_; exact EvS.b (N1 := w1.heap.size) (N2 := wr.heap.size) (kc := 0) (ks := ks) (ev := ev) (by assumption); rintro e W ⟨rfl, hb⟩; have hS' := EvS.keep (w := w) (N1 := w1.heap.size) (N2 := wr.heap.size) (kc := 0) (ks := ks) (ev := ev) (by assumption) hb; have hI' := bldKeep (T := 89) (e := 5) (B := w.heap.size) (b := w.heap.size) (bs := Lib.byteCells (evText num (evs.take k))) (by assumption) hb)
              | (go_at_call_of 36 (ev.det); refine (hD _ ?_).mono ?_; exact EvS.b (N1 := w1.heap.size) (N2 := wr.heap.size) (kc := 0) (ks := ks) (ev := ev) (by assumption); rintro e W ⟨rfl, hb⟩; have hS' := EvS.keep (w := w) (N1 := w1.heap.size) (N2 := wr.heap.size) (kc := 0) (ks := ks) (ev := ev) (by assumption) hb; have hI' := bldKeep (T := 89) (e := 5) (B := w.heap.size) (b := w.heap.size) (bs := Lib.byteCells (evText num (evs.take k))) (by assumption) hb)
              | (go_at_call 29; refine (writeString w.heap.size w.heap.size (Lib.byteCells (evText num (evs.take k))) _ _ (by assumption) ?_ ?_).mono ?_; (simp [Lib.byteCells_length, ByteArray.size]; omega); exact (EvS.b (N1 := w1.heap.size) (N2 := wr.heap.size) (kc := 0) (ks := ks) (ev := ev) (by assumption)).size; rintro e W ⟨rfl, hZ, hb, hkk⟩; have hS' := EvS.write (w := w) (N1 := w1.heap.size) (N2 := wr.heap.size) (kc := 0) (ks := ks) (ev := ev) (by assumption) hb hkk (by omega) (by omega)))
          go_wp2
          go_roundw
          case rel =>
            refine ⟨k + 1, by go_num, by omega, ?_, EvS.h1 (w := w) (N1 := w1.heap.size) (N2 := wr.heap.size) (kc := 0) (ks := ks) (ev := ev) (by assumption), EvS.b (N1 := w1.heap.size) (N2 := wr.heap.size) (kc := 0) (ks := ks) (ev := ev) (by assumption)⟩
            rw [hstep]
            refine Or.inr ?_
            rw [Lib.byteCells_append]
            have hx : Lib.strCells ((⟨ks.toArray⟩ ++ ⟨#[32]⟩ ++ ⟨na.toArray⟩ ++ ⟨#[32]⟩ ++ ⟨nr.toArray⟩ ++ ⟨#[32]⟩ ++ ⟨nd.toArray⟩ ++ ⟨#[10]⟩ : ByteArray)) = Lib.byteCells (ks ++ [32] ++ na ++ [32] ++ nr ++ [32] ++ nd ++ [10]) := by
              simp [Lib.strCells, Lib.byteCells]
            rw [← hx]
            exact hZ
          case measure => simp [intOf]; omega
        · clear hk0
          go_wp2
          generalize wr.alloc (.cells #[.int .i64 ev.at_, .int .i64 ev.kind, .int .i64 ev.rep, .int .i64 ev.det] 64) = W0 at *
          have hS0 := hS.drew
          have hI0' : Lib.IsBuilderF 89 5 w.heap.size w.heap.size (Lib.byteCells (evText num (evs.take k))) W0.drew := hI2.imp (fun h => h.drew) (fun h => h.drew)
          go_region_held3 (fun W => W.cell? ⟨w1.heap.size, 0, none⟩ = some (.string ⟨ks.toArray⟩) ∧ W.cell? ⟨wr.heap.size, 0, none⟩ = some (.int .i64 ev.at_) ∧ W.cell? ⟨wr.heap.size, 2, none⟩ = some (.int .i64 ev.rep) ∧ W.cell? ⟨wr.heap.size, 3, none⟩ = some (.int .i64 ev.det))
            (first | exact EvS.cells hS0 | exact EvS.cells (by assumption))
            (first
              | (go_at_call_of 36 (ev.at_); refine (hA _ ?_).mono ?_; exact EvS.b (N1 := w1.heap.size) (N2 := wr.heap.size) (kc := 0) (ks := ks) (ev := ev) (by assumption); rintro e W ⟨rfl, hb⟩; have hS' := EvS.keep (w := w) (N1 := w1.heap.size) (N2 := wr.heap.size) (kc := 0) (ks := ks) (ev := ev) (by assumption) hb; have hI' := bldKeep (T := 89) (e := 5) (B := w.heap.size) (b := w.heap.size) (bs := Lib.byteCells (evText num (evs.take k))) (by assumption) hb)
              | (go_at_call_of 36 (ev.rep); refine (hR _ ?_).mono ?_; exact EvS.b (N1 := w1.heap.size) (N2 := wr.heap.size) (kc := 0) (ks := ks) (ev := ev) (by assumption); rintro e W ⟨rfl, hb⟩; have hS' := EvS.keep (w := w) (N1 := w1.heap.size) (N2 := wr.heap.size) (kc := 0) (ks := ks) (ev := ev) (by assumption) hb; have hI' := bldKeep (T := 89) (e := 5) (B := w.heap.size) (b := w.heap.size) (bs := Lib.byteCells (evText num (evs.take k))) (by assumption) hb)
              | (go_at_call_of 36 (ev.det); refine (hD _ ?_).mono ?_; exact EvS.b (N1 := w1.heap.size) (N2 := wr.heap.size) (kc := 0) (ks := ks) (ev := ev) (by assumption); rintro e W ⟨rfl, hb⟩; have hS' := EvS.keep (w := w) (N1 := w1.heap.size) (N2 := wr.heap.size) (kc := 0) (ks := ks) (ev := ev) (by assumption) hb; have hI' := bldKeep (T := 89) (e := 5) (B := w.heap.size) (b := w.heap.size) (bs := Lib.byteCells (evText num (evs.take k))) (by assumption) hb)
              | (go_at_call 29; refine (writeString w.heap.size w.heap.size (Lib.byteCells (evText num (evs.take k))) _ _ (by assumption) ?_ ?_).mono ?_; (simp [Lib.byteCells_length, ByteArray.size]; omega); exact (EvS.b (N1 := w1.heap.size) (N2 := wr.heap.size) (kc := 0) (ks := ks) (ev := ev) (by assumption)).size; rintro e W ⟨rfl, hZ, hb, hkk⟩; have hS' := EvS.write (w := w) (N1 := w1.heap.size) (N2 := wr.heap.size) (kc := 0) (ks := ks) (ev := ev) (by assumption) hb hkk (by omega) (by omega)))
          go_wp2
          go_roundw
          case rel =>
            refine ⟨k + 1, by go_num, by omega, ?_, EvS.h1 (w := w) (N1 := w1.heap.size) (N2 := wr.heap.size) (kc := 0) (ks := ks) (ev := ev) (by assumption), EvS.b (N1 := w1.heap.size) (N2 := wr.heap.size) (kc := 0) (ks := ks) (ev := ev) (by assumption)⟩
            rw [hstep]
            refine Or.inr ?_
            rw [Lib.byteCells_append]
            have hx : Lib.strCells ((⟨ks.toArray⟩ ++ ⟨#[32]⟩ ++ ⟨na.toArray⟩ ++ ⟨#[32]⟩ ++ ⟨nr.toArray⟩ ++ ⟨#[32]⟩ ++ ⟨nd.toArray⟩ ++ ⟨#[10]⟩ : ByteArray)) = Lib.byteCells (ks ++ [32] ++ na ++ [32] ++ nr ++ [32] ++ nd ++ [10]) := by
              simp [Lib.strCells, Lib.byteCells]
            rw [← hx]
            exact hZ
          case measure => simp [intOf]; omega
      · have g1 : ¬ ev.kind < 0 := fun h => hk0 (.inl h)
        have g2 : ¬ 11 ≤ ev.kind := fun h => hk0 (.inr h)
        have g3 : 0 ≤ ev.kind := by omega
        have g4 : ev.kind < 11 := by omega
        have e0 : kc = ev.kind.toNat := by rw [hsel]; simp [kindOf, hk0]
        clear hk0 hsel
        subst e0
        go_wp2
        generalize wr.alloc (.cells #[.int .i64 ev.at_, .int .i64 ev.kind, .int .i64 ev.rep, .int .i64 ev.det] 64) = W0 at *
        have hS0 := hS.drew
        have hI0' : Lib.IsBuilderF 89 5 w.heap.size w.heap.size (Lib.byteCells (evText num (evs.take k))) W0.drew := hI2.imp (fun h => h.drew) (fun h => h.drew)
        go_region_held3 (fun W => W.cell? ⟨w1.heap.size, ev.kind.toNat, none⟩ = some (.string ⟨ks.toArray⟩) ∧ W.cell? ⟨wr.heap.size, 0, none⟩ = some (.int .i64 ev.at_) ∧ W.cell? ⟨wr.heap.size, 2, none⟩ = some (.int .i64 ev.rep) ∧ W.cell? ⟨wr.heap.size, 3, none⟩ = some (.int .i64 ev.det))
          (first | exact EvS.cells hS0 | exact EvS.cells (by assumption))
          (first
            | (go_at_call_of 36 (ev.at_); refine (hA _ ?_).mono ?_; exact EvS.b (N1 := w1.heap.size) (N2 := wr.heap.size) (kc := ev.kind.toNat) (ks := ks) (ev := ev) (by assumption); rintro e W ⟨rfl, hb⟩; have hS' := EvS.keep (w := w) (N1 := w1.heap.size) (N2 := wr.heap.size) (kc := ev.kind.toNat) (ks := ks) (ev := ev) (by assumption) hb; have hI' := bldKeep (T := 89) (e := 5) (B := w.heap.size) (b := w.heap.size) (bs := Lib.byteCells (evText num (evs.take k))) (by assumption) hb)
            | (go_at_call_of 36 (ev.rep); refine (hR _ ?_).mono ?_; exact EvS.b (N1 := w1.heap.size) (N2 := wr.heap.size) (kc := ev.kind.toNat) (ks := ks) (ev := ev) (by assumption); rintro e W ⟨rfl, hb⟩; have hS' := EvS.keep (w := w) (N1 := w1.heap.size) (N2 := wr.heap.size) (kc := ev.kind.toNat) (ks := ks) (ev := ev) (by assumption) hb; have hI' := bldKeep (T := 89) (e := 5) (B := w.heap.size) (b := w.heap.size) (bs := Lib.byteCells (evText num (evs.take k))) (by assumption) hb)
            | (go_at_call_of 36 (ev.det); refine (hD _ ?_).mono ?_; exact EvS.b (N1 := w1.heap.size) (N2 := wr.heap.size) (kc := ev.kind.toNat) (ks := ks) (ev := ev) (by assumption); rintro e W ⟨rfl, hb⟩; have hS' := EvS.keep (w := w) (N1 := w1.heap.size) (N2 := wr.heap.size) (kc := ev.kind.toNat) (ks := ks) (ev := ev) (by assumption) hb; have hI' := bldKeep (T := 89) (e := 5) (B := w.heap.size) (b := w.heap.size) (bs := Lib.byteCells (evText num (evs.take k))) (by assumption) hb)
            | (go_at_call 29; refine (writeString w.heap.size w.heap.size (Lib.byteCells (evText num (evs.take k))) _ _ (by assumption) ?_ ?_).mono ?_; (simp [Lib.byteCells_length, ByteArray.size]; omega); exact (EvS.b (N1 := w1.heap.size) (N2 := wr.heap.size) (kc := ev.kind.toNat) (ks := ks) (ev := ev) (by assumption)).size; rintro e W ⟨rfl, hZ, hb, hkk⟩; have hS' := EvS.write (w := w) (N1 := w1.heap.size) (N2 := wr.heap.size) (kc := ev.kind.toNat) (ks := ks) (ev := ev) (by assumption) hb hkk (by omega) (by omega)))
        go_wp2
        go_roundw
        case rel =>
          refine ⟨k + 1, by go_num, by omega, ?_, EvS.h1 (w := w) (N1 := w1.heap.size) (N2 := wr.heap.size) (kc := ev.kind.toNat) (ks := ks) (ev := ev) (by assumption), EvS.b (N1 := w1.heap.size) (N2 := wr.heap.size) (kc := ev.kind.toNat) (ks := ks) (ev := ev) (by assumption)⟩
          rw [hstep]
          refine Or.inr ?_
          rw [Lib.byteCells_append]
          have hx : Lib.strCells ((⟨ks.toArray⟩ ++ ⟨#[32]⟩ ++ ⟨na.toArray⟩ ++ ⟨#[32]⟩ ++ ⟨nr.toArray⟩ ++ ⟨#[32]⟩ ++ ⟨nd.toArray⟩ ++ ⟨#[10]⟩ : ByteArray)) = Lib.byteCells (ks ++ [32] ++ na ++ [32] ++ nr ++ [32] ++ nd ++ [10]) := by
            simp [Lib.strCells, Lib.byteCells]
          rw [← hx]
          exact hZ
        case measure => simp [intOf]; omega
    · have e0 : k = evs.length := by omega
      subst e0
      rw [List.take_length] at hI
      go_wp2_with (go_at_call 31; refine (Tryz.Builder_String_any_k w.heap.size w.heap.size (evText num evs) _ hI hbw.size).mono ?_)
      rintro e W1 ⟨rfl, _, hb, _⟩
      go_wp2
      go_ret
      exact ⟨rfl, hbw.trans hb⟩
end Go.Proofs.YtcfmnogghcjdaaaGreatDoor
namespace Go.Proofs.YtcfmnogghcjdaaaGreatDoor
open Go hiding Event
open Go.Abs Go.Abs.Api
abbrev Str := List UInt8
def okN (n : Int) : Bool := decide (-1099511627776 ≤ n) && decide (n ≤ 1099511627776)
def num (n : Int) : Str := Lib.itoa (if okN n then n else 0)
def b2i (b : Bool) : Int := if b then 1 else 0
def wSetup : Str := [115, 101, 116, 117, 112]
def wSeeds : Str := [115, 101, 101, 100, 115]
def wFault : Str := [102, 97, 117, 108, 116]
def wHang : Str := [104, 97, 110, 103]
def wCrash : Str := [99, 114, 97, 115, 104]
def wChoice : Str := [99, 104, 111, 105, 99, 101]
def wordsL : List Str := [wSetup, wSeeds, wFault, wHang, wCrash, wChoice]
def lineS (word : Str) (ns : List Int) : Str := word ++ (ns.map fun n => 32 :: num n).flatten
def rowS (r : row) : Str := wordsL.getD r.kind.toNat [] ++ (r.numbers.map fun n => 32 :: Lib.itoa n).flatten ++ [10]
def setupN (u : Setup) : List Int := [u.period, u.misses, u.repairs, u.pages, u.least, u.wait]
def faultN (f : Fault) : List Int := [f.time, f.replica, f.kind, f.thread, f.where_, f.bit]
def hangN (h : Hang) : List Int := [h.time, h.replica, h.for_]
def crashN (c : Crash) : List Int := [c.time, b2i c.after]
def choiceN (c : Choice) : List Int := [c.thread, c.branches, b2i c.signal]
def rowsM (u : Setup) (t : Troubles) (l : List Choice) : List row :=
  [⟨0, setupN u⟩, ⟨1, u.seeds⟩] ++ t.faults.map (fun f => ⟨2, faultN f⟩) ++ t.hangs.map (fun h => ⟨3, hangN h⟩) ++ t.crashes.map (fun c => ⟨4, crashN c⟩) ++ l.map (fun c => ⟨5, choiceN c⟩)
def limitsB (u : Setup) (t : Troubles) (l : List Choice) : Bool :=
  decide (1 ≤ u.seeds.length) && decide (u.seeds.length ≤ 5) && decide (t.faults.length ≤ 40) && decide (t.hangs.length ≤ 20) && decide (t.crashes.length ≤ 20) && decide (l.length ≤ 200)
def numsB (u : Setup) (t : Troubles) (l : List Choice) : Bool := (rowsM u t l).all fun r => r.numbers.all okN
def checkM (u : Setup) (t : Troubles) (l : List Choice) : Int := if !limitsB u t l then 3 else if !numsB u t l then 6 else 0
def textM (u : Setup) (t : Troubles) (l : List Choice) : Str := ((rowsM u t l).map rowS).flatten
def formatM (u : Setup) (t : Troubles) (l : List Choice) : Str × Int := if checkM u t l = 0 then (textM u t l, 0) else ([], checkM u t l)
def evM (e : Api.Event) : Str := lineS (kindsL.getD (kindOf e.kind) []) [e.time, e.replica, e.detail] ++ [10]
def eventsM (l : List Api.Event) : Str := (l.map evM).flatten
def cutL (c : UInt8) : Str → List Str
  | [] => [[]]
  | x :: xs => if x = c then [] :: cutL c xs else (x :: (cutL c xs).headD []) :: (cutL c xs).tail
def numOf (w : Str) : Option Int :=
  match Lib.atoiAll w with
  | .ok n => if Lib.itoa n = w ∧ okN n = true then some n else none
  | _ => none
def allNum : List Str → Option (List Int)
  | [] => some []
  | w :: ws => match numOf w with
    | some n => match allNum ws with
      | some l => some (n :: l)
      | none => none
    | none => none
def kindIx (w : Str) : Int := if w ∈ wordsL then wordsL.idxOf w else -1
def readM (s : Str) : Option row :=
  if kindIx ((cutL 32 s).headD []) < 0 then none
  else match allNum (cutL 32 s).tail with
    | some l => some ⟨kindIx ((cutL 32 s).headD []), l⟩
    | none => none
def last01 (l : List Int) : Bool := decide (l.getLastD 0 = 0) || decide (l.getLastD 0 = 1)
def fillSetup (u : Setup) (l : List Int) : Setup := { u with period := l.getD 0 0, misses := l.getD 1 0, repairs := l.getD 2 0, pages := l.getD 3 0, least := l.getD 4 0, wait := l.getD 5 0 }
def faultOf (l : List Int) : Fault := ⟨l.getD 0 0, l.getD 1 0, l.getD 2 0, l.getD 3 0, l.getD 4 0, l.getD 5 0⟩
def hangOf (l : List Int) : Hang := ⟨l.getD 0 0, l.getD 1 0, l.getD 2 0⟩
def crashOf (l : List Int) : Crash := ⟨l.getD 0 0, decide (l.getD 1 0 = 1)⟩
def choiceOf (l : List Int) : Choice := ⟨l.getD 0 0, l.getD 1 0, decide (l.getD 2 0 = 1)⟩
def orderB (kind before : Int) : Bool :=
  !(decide (kind < before) || (decide (before + 1 < kind) && decide (before < 1)) || (decide (kind = before) && decide (before ≤ 1)))
def addM (s : scenario) (r : row) (before : Int) : Option scenario :=
  if !orderB r.kind before then none
  else if r.kind = 0 then (if r.numbers.length = 6 then some { s with u := fillSetup s.u r.numbers } else none)
  else if r.kind = 1 then (if 0 < r.numbers.length then some { s with u := { s.u with seeds := r.numbers } } else none)
  else if r.kind = 2 then (if r.numbers.length = 6 then some { s with t := { s.t with faults := s.t.faults ++ [faultOf r.numbers] } } else none)
  else if r.kind = 3 then (if r.numbers.length = 3 then some { s with t := { s.t with hangs := s.t.hangs ++ [hangOf r.numbers] } } else none)
  else if r.kind = 4 then (if r.numbers.length = 2 ∧ last01 r.numbers = true then some { s with t := { s.t with crashes := s.t.crashes ++ [crashOf r.numbers] } } else none)
  else if r.numbers.length = 3 ∧ last01 r.numbers = true then some { s with l := s.l ++ [choiceOf r.numbers] } else none
def goM : List Str → scenario → Int → Nat → Except Nat (scenario × Int)
  | [], s, before, _ => .ok (s, before)
  | x :: xs, s, before, i => match readM x with
    | none => .error i
    | some r => match addM s r before with
      | none => .error i
      | some s' => goM xs s' r.kind (i + 1)
def noSetup : Setup := default
def noTroubles : Troubles := default
structure Parsed where
  u : Setup
  t : Troubles
  l : List Choice
  n : Int
  e : Int
def parseM (s : Str) : Parsed :=
  let ls := cutL 10 s
  match goM ls.dropLast default (-1) 1 with
  | .error i => ⟨noSetup, noTroubles, [], i, 36⟩
  | .ok (x, before) =>
    if ls.getLastD [] ≠ [] then ⟨noSetup, noTroubles, [], ls.length, 36⟩
    else if before < 1 then ⟨noSetup, noTroubles, [], max (ls.length - 1) 1, 36⟩
    else if checkM x.u x.t x.l ≠ 0 then ⟨noSetup, noTroubles, [], 0, checkM x.u x.t x.l⟩
    else ⟨x.u, x.t, x.l, 0, 0⟩
end Go.Proofs.YtcfmnogghcjdaaaGreatDoor
namespace Go.Proofs.YtcfmnogghcjdaaaGreatDoor
open Go Go.RowKit
def Bd (B b : Nat) (bs : List Value) (w : World) : Prop :=
  b < B ∧ B ≤ w.heap.size ∧ ∃ p v, (p = .pointer none ∨ p = .pointer (some ⟨b, 0, none⟩)) ∧ w.heap[b]? = some (.cells #[p, v] 89 (0, 0)) ∧ w.ownsRowF B 5 1 v bs.length bs ∧ v.ownBlock ≠ some b
structure Kp (B b : Nat) (w w' : World) : Prop where
  os : w'.os = w.os
  tape : w'.tape = w.tape
  output : w'.output = w.output
  size : w.heap.size ≤ w'.heap.size
  block : ∀ k, k < B → k ≠ b → w'.heap[k]? = w.heap[k]?
theorem Kp.refl (B b : Nat) (w : World) : Kp B b w w := ⟨rfl, rfl, rfl, Nat.le_refl _, fun _ _ _ => rfl⟩
theorem Kp.trans {B b : Nat} {a c d : World} (h : Kp B b a c) (k : Kp B b c d) : Kp B b a d :=
  ⟨k.os.trans h.os, k.tape.trans h.tape, k.output.trans h.output, Nat.le_trans h.size k.size, fun i h1 h2 => (k.block i h1 h2).trans (h.block i h1 h2)⟩
theorem Kp.of {B b : Nat} {w w' : World} (h : Below B w w') : Kp B b w w' := ⟨h.os, h.tape, h.output, h.size, fun k h1 _ => h.block k h1⟩
theorem Kp.below {B b : Nat} {w w' : World} (h : Kp B b w w') (hb : b < B) : Below b w w' := ⟨h.os, h.tape, h.output, h.size, fun k hk => h.block k (by omega) (by omega)⟩
theorem Bd.keep {B b : Nat} {bs : List Value} {w w' : World} (h : Bd B b bs w) (hb : Below w.heap.size w w') : Bd B b bs w' := by
  obtain ⟨h1, h2, p, v, h3, h4, h5, h6⟩ := h
  have hlt : b < w.heap.size := (Array.getElem?_eq_some_iff.1 h4).1
  exact ⟨h1, Nat.le_trans h2 hb.size, p, v, h3, heapKeep h4 hb, h5.kept (row := none) ⟨hb.os, hb.tape, hb.output, hb.size, fun k hk _ => hb.block k hk⟩ (by cases hv : v.ownBlock <;> simp), h6⟩
theorem Bd.drew {B b : Nat} {bs : List Value} {w : World} (h : Bd B b bs w) : Bd B b bs w.drew := h
theorem Bd.is {B b : Nat} {bs : List Value} {w : World} (h : Bd B b bs w) : Lib.IsBuilderF 89 5 b b bs w := by
  obtain ⟨h1, h2, p, v, h3, h4, h5, h6⟩ := h
  have key : Lib.BuilderAtF 89 5 b b p bs w := by
    refine ⟨Nat.le_refl _, v, h4, ⟨h5.1, ?_⟩, h6⟩
    rcases h5.2 with h | ⟨g, cap, cur, fz, hv, hbg, hr⟩
    · exact .inl h
    · exact .inr ⟨g, cap, cur, fz, hv, by omega, hr⟩
  rcases h3 with rfl | rfl
  · exact .inl key
  · exact .inr key
set_option maxHeartbeats 1000000 in
set_option maxRecDepth 1000000 in
theorem copyCheck2 (b : Nat) (p v : Value) (w : World) (hp : p = .pointer none ∨ p = .pointer (some ⟨b, 0, none⟩)) (h : w.heap[b]? = some (.cells #[p, v] 89 (0, 0))) :
    Calls Tryz.prog 54 #[.pointer (some ⟨b, 0, none⟩)] w fun e w' => e = .returned (.tuple #[]) ∧ w'.heap[b]? = some (.cells #[.pointer (some ⟨b, 0, none⟩), v] 89 (0, 0)) ∧ w.grownBy w' (some b) ∧ w'.heap.size = w.heap.size := by
  obtain ⟨j, hj, hjs⟩ := Option.map_eq_some_iff.1 bSize
  have hf : w.frozen? ⟨b, 0, none⟩ = false := Lib.frozen_of_heap h 0
  have hs : w.shape? b = some (89, 2) := by simp [World.shape?, h]
  rcases hp with rfl | rfl
  · have c0 : w.cell? ⟨b, 0, none⟩ = some (.pointer none) := by rw [Lib.cell_of_heap h]; rfl
    go_enter Tryz.func54, Tryz.ntmps54
    go_wp2
    rw [Lib.run_to_unsafe w ⟨b, 0, none⟩ Tryz.underlying87 Tryz.underlying146 hj (by rw [hjs]; decide) hs (Nat.zero_lt_succ 1)]
    simp only [Result.andThen]
    rw [Oper.upon_value]
    go_wp2
    rw [run_callFunc_extern Tryz.func71 (by kernel_rfl) (by kernel_rfl) (by kernel_rfl) (e := Extern.AbiNoEscape.same) (by kernel_rfl)]
    rw [Lib.run_noEscape]
    simp only [Result.andThen]
    rw [Oper.upon_value]
    go_wp2
    rw [Lib.run_from_unsafe w ⟨b, 0, none⟩ Tryz.underlying146 Tryz.underlying87 hj hs bLies]
    simp only [Result.andThen]
    rw [Oper.upon_value]
    go_wp2
    go_end0
    refine ⟨rfl, by simp [World.setCell, Array.getElem?_modify, h], ⟨rfl, rfl, rfl, by simp [World.setCell], fun k _ hk => Below.heap_setCell _ _ _ _ (fun e => hk (by simp [e]))⟩, by simp [World.setCell]⟩
  · have c0 : w.cell? ⟨b, 0, none⟩ = some (.pointer (some ⟨b, 0, none⟩)) := by rw [Lib.cell_of_heap h]; rfl
    go_enter Tryz.func54, Tryz.ntmps54
    go_wp2
    rw [Lib.run_neq_ptr_same w _ Tryz.underlying87 hj]
    go_wp2
    go_end0
    exact ⟨rfl, h, ⟨rfl, rfl, rfl, Nat.le_refl _, fun _ _ _ => rfl⟩, rfl⟩
set_option maxHeartbeats 2000000 in
set_option maxRecDepth 1000000 in
theorem writeString2 (B b : Nat) (bs : List Value) (s : ByteArray) (w : World) (h : Bd B b bs w) (hlen : bs.length + s.size ≤ 140737488355328) :
    Calls Tryz.prog 29 #[.pointer (some ⟨b, 0, none⟩), .string s] w fun e w' => e = .returned (.tuple #[.int .i64 s.size, .nilIface]) ∧ Bd B b (bs ++ Lib.strCells s) w' ∧ Kp B b w w' := by
  obtain ⟨i0, hi, hz0, hz1, hz2⟩ := info_parts infoByte
  obtain ⟨hbB, hBs, p, v, hp, hbk0, hown0, hne⟩ := h
  go_enter Tryz.func29, Tryz.ntmps29
  go_wp2_with (go_at_call 54; refine (copyCheck2 b p v _ hp hbk0).mono ?_)
  rintro e w1 ⟨rfl, hbk, hg1, hsz1⟩
  have hown : w1.ownsRowF B 5 1 v bs.length bs := hown0.kept hg1 (.inr hne)
  have c0 : w1.cell? ⟨b, 0, none⟩ = some (.pointer (some ⟨b, 0, none⟩)) := by rw [Lib.cell_of_heap hbk]; rfl
  have c1 : w1.cell? ⟨b, 1, none⟩ = some v := by rw [Lib.cell_of_heap hbk]; rfl
  go_wp2_with (at_builtin; refine Lib.wpList_append_own_stringF _ rfl _ _ 55 9 rfl B 5 i0 Tryz.underlying55 Tryz.underlying9 hi hz0 hz1 hz2 _ _ _ rfl hown s rfl ?c3 ?c4 ?c5 ?_)
  case c3 => unfold maxLen; omega
  case c4 => omega
  case c5 => omega
  intro v' w2 hown' hgrow _
  have hlt : b < w1.heap.size := (Array.getElem?_eq_some_iff.1 hbk).1
  have hb2 : w2.heap[b]? = some (.cells #[.pointer (some ⟨b, 0, none⟩), v] 89 (0, 0)) := by
    rw [hgrow.block b hlt (fun e => hne e.symm)]
    exact hbk
  have d0 : w2.cell? ⟨b, 0, none⟩ = some (.pointer (some ⟨b, 0, none⟩)) := by rw [Lib.cell_of_heap hb2]; rfl
  have d1 : w2.cell? ⟨b, 1, none⟩ = some v := by rw [Lib.cell_of_heap hb2]; rfl
  have f1 : w2.frozen? ⟨b, 1, none⟩ = false := Lib.frozen_of_heap hb2 1
  obtain ⟨ao, n', cap, rfl⟩ : ∃ ao n' cap, v' = .slice ao n' cap := by
    rcases hown'.2 with ⟨hv, _⟩ | ⟨g, cap, cur, fz, hv, _⟩
    · exact ⟨_, _, _, hv⟩
    · exact ⟨_, _, _, hv⟩
  have hK : Kp B b w (w2.setCell ⟨b, 1, none⟩ (.slice ao n' cap)) := by
    have hs2 := hgrow.size
    refine ⟨hgrow.os.trans hg1.os, hgrow.tape.trans hg1.tape, hgrow.output.trans hg1.output, by simp [World.setCell]; omega, fun k hk hkb => ?_⟩
    rw [Below.heap_setCell _ _ _ _ (fun e => hkb (by simpa using e)), hgrow.block k (by omega) (fun e => by have := (hown.lt k e.symm).1; omega), hg1.block k (by omega) (fun e => hkb (by simpa using e))]
  have hNe := Lib.ownBlock_neF (T := 89) hown' hb2 (by decide)
  go_wp2
  go_ret2
  refine ⟨rfl, ⟨hbB, ?_, .pointer (some ⟨b, 0, none⟩), _, .inr rfl, ?_, ?_, hNe⟩, hK⟩
  · have := hgrow.size; simp [World.setCell]; omega
  · simp [World.setCell, Array.getElem?_modify, hb2]
  · have hown'' : w2.ownsRowF B 5 1 (.slice ao n' cap) (bs ++ Lib.strCells s).length (bs ++ Lib.strCells s) := by simpa [Lib.strCells_length] using hown'
    exact hown''.kept (row := some b) ⟨rfl, rfl, rfl, by simp [World.setCell], fun k _ hk => Below.heap_setCell _ _ _ _ (fun e => hk (by simp [e]))⟩ (Or.inr hNe)
structure KX (lo hi : Nat) (w w' : World) : Prop where
  os : w'.os = w.os
  tape : w'.tape = w.tape
  output : w'.output = w.output
  size : w.heap.size ≤ w'.heap.size
  block : ∀ k, k < w.heap.size → (k < lo ∨ hi ≤ k) → w'.heap[k]? = w.heap[k]?
  grow : ∀ (b : Nat) c el fz, w.heap[b]? = some (Obj.cells c el fz) → ∃ c' fz', w'.heap[b]? = some (Obj.cells c' el fz') ∧ c'.size = c.size
theorem KX.refl (lo hi : Nat) (w : World) : KX lo hi w w := ⟨rfl, rfl, rfl, Nat.le_refl _, fun _ _ _ => rfl, fun _ c _ fz h => ⟨c, fz, h, rfl⟩⟩
theorem KX.below {lo hi : Nat} {w w1 w2 : World} (h : KX lo hi w w1) (k : Below w1.heap.size w1 w2) : KX lo hi w w2 :=
  ⟨k.os.trans h.os, k.tape.trans h.tape, k.output.trans h.output, Nat.le_trans h.size k.size, fun i h1 h2 => (k.block i (by have := h.size; omega)).trans (h.block i h1 h2), fun b c el fz hb => by
    obtain ⟨c1, fz1, h1, e1⟩ := h.grow b c el fz hb
    exact ⟨c1, fz1, heapKeep h1 k, e1⟩⟩
theorem KX.kp {lo hi b B : Nat} {w w1 w2 : World} {bs bs' : List Value} (h : KX lo hi w w1) (k : Kp w.heap.size b w1 w2) (h1 : lo ≤ b) (h2 : b < hi) (h3 : Bd B b bs w) (h4 : Bd B b bs' w2) : KX lo hi w w2 :=
  ⟨k.os.trans h.os, k.tape.trans h.tape, k.output.trans h.output, Nat.le_trans h.size k.size, fun i hi1 hi2 => (k.block i hi1 (by omega)).trans (h.block i hi1 hi2), fun i c el fz hi => by
    by_cases e : i = b
    · subst e
      obtain ⟨_, _, p, v, _, h5, _⟩ := h3
      obtain ⟨_, _, p', v', _, h6, _⟩ := h4
      rw [h5] at hi
      simp only [Option.some.injEq, Obj.cells.injEq] at hi
      obtain ⟨rfl, rfl, rfl⟩ := hi
      exact ⟨_, _, h6, rfl⟩
    · obtain ⟨c1, fz1, g1, e1⟩ := h.grow i c el fz hi
      exact ⟨c1, fz1, (k.block i (Array.getElem?_eq_some_iff.1 hi).1 e).trans g1, e1⟩⟩
def FmtRows (lo hi : Nat) (ss : List (List UInt8)) (a : Option Addr) (w : World) : Prop :=
  ss = [] ∨ ∃ b o, a = some ⟨b, o, none⟩ ∧ (b < lo ∨ hi ≤ b) ∧ b < w.heap.size ∧ ∀ i s, ss[i]? = some s → ∃ c0 c1, c0.oneCell' = true ∧ c1.oneCell' = true ∧ w.cell? ⟨b, o + i * 2, none⟩ = some c0 ∧ w.cell? ⟨b, o + i * 2 + 1, none⟩ = some c1 ∧
    ∀ W, KX lo hi w W → Calls Tryz.prog 30 #[.agg #[c0, c1]] W fun e w' => e = .returned (.string ⟨s.toArray⟩) ∧ Below W.heap.size W w'
def zero61 : Array Value := #[.slice none 0 0, .slice none 0 0, .slice none 0 0, .slice none 0 0, .slice none 0 0, .slice none 0 0, .slice none 0 0, .slice none 0 0, .slice none 0 0, .slice none 0 0, .int .i64 0, .int .i64 0, .int .i64 0, .int .i64 0, .int .i64 0, .int .i64 0, .slice none 0 0, .slice none 0 0, .slice none 0 0, .slice none 0 0]
theorem info38 : (Tryz.prog.info? 43).map (·.size) = some 16 := by kernel_rfl
theorem info43 : (Tryz.prog.info? 50).map (·.size) = some 3 := by kernel_rfl
theorem info70 : (Tryz.prog.info? 93).map (·.size) = some 2 := by kernel_rfl
theorem info61 : (Tryz.prog.info? 85).map (·.size) = some 20 := by kernel_rfl
theorem flat_le {ss : List (List UInt8)} {k : Nat} {s : List UInt8} (h : ss[k]? = some s) : ((ss.take k).flatten).length + s.length ≤ ss.flatten.length := by
  have hk : k < ss.length := (List.getElem?_eq_some_iff.1 h).1
  have he : ss[k] = s := (List.getElem?_eq_some_iff.1 h).2
  have : ss = ss.take k ++ s :: ss.drop (k + 1) := by rw [← he, ← List.drop_eq_getElem_cons hk, List.take_append_drop]
  conv => rhs; rw [this]
  simp
set_option maxHeartbeats 8000000 in
set_option maxRecDepth 1000000 in
theorem format_err (w : World) (x0 x1 x2 x3 x4 x5 x6 x7 x8 x9 x10 x11 x12 x13 x14 x15 y0 y1 y2 : Value) (la : Option Addr) (ll lc : Nat) (hone : (#[x0, x1, x2, x3, x4, x5, x6, x7, x8, x9, x10, x11, x12, x13, x14, x15, y0, y1, y2, .slice la ll lc] : Array Value).all (·.oneCell') = true) (er : Int) (her : er ≠ 0)
    (hcheck : ∀ W, Below w.heap.size w W → Calls Tryz.prog 27 #[.agg #[x0, x1, x2, x3, x4, x5, x6, x7, x8, x9, x10, x11, x12, x13, x14, x15, y0, y1, y2, .slice la ll lc]] W fun e w' => e = .returned (.int .i64 er) ∧ Below W.heap.size W w') :
    Calls Tryz.prog 15 #[.agg #[x0, x1, x2, x3, x4, x5, x6, x7, x8, x9, x10, x11, x12, x13, x14, x15], .agg #[y0, y1, y2], .slice la ll lc] w fun e w' => e = .returned (.tuple #[.string ⟨#[]⟩, .int .i64 er]) ∧ Below w.heap.size w w' := by
  have hb0 : ∀ a b c, Below w.heap.size w (((w.alloc a).alloc b).alloc c) := fun a b c => (((Below.refl _ w).alloc (Nat.le_refl _) _).alloc (by simp) _).alloc (by simp; omega) _
  have hA : ∀ a b, ((w.alloc a).alloc b).heap[w.heap.size]? = some a := fun a b => (Lib.alloc_old _ _ _ (by simp)).trans (heap_alloc_new _ _)
  have hB : ∀ a b, ((w.alloc a).alloc b).heap[w.heap.size + 1]? = some b := fun a b => heap_alloc2_new w a b
  have hG : ∀ a b c, (((w.alloc a).alloc b).alloc c).heap[w.heap.size + 1 + 1]? = some c := fun a b c => by have := heap_alloc_new ((w.alloc a).alloc b) c; simpa using this
  have hS : ∀ a b c c' t, (((w.alloc a).alloc b).alloc (.cells c t)).setRow (w.heap.size + 1 + 1) c' = ((w.alloc a).alloc b).alloc (.cells c' t) := fun a b c c' t => by have := World.setRow_alloc_new ((w.alloc a).alloc b) c c' t; simpa using this
  go_enter Tryz.func15, Tryz.ntmps15
  go_wp2_with (first
    | (go_at_call 27; refine (hcheck _ (hb0 _ _ _)).mono ?_)
    | (refine wpList_load_row (o := ⟨some 13, _, _, _, _, _⟩) rfl 43 (.tmp 3) rfl w.heap.size rfl 43 #[x0, x1, x2, x3, x4, x5, x6, x7, x8, x9, x10, x11, x12, x13, x14, x15] (0, 0) _ (hA _ _) Tryz.underlying43 rfl info38 ?_)
    | (refine wpList_load_row (o := ⟨some 14, _, _, _, _, _⟩) rfl 50 (.tmp 4) rfl (w.heap.size + 1) rfl 50 #[y0, y1, y2] (0, 0) _ (hB _ _) Tryz.underlying50 rfl info43 ?_)
    | (refine wpList_store_row rfl 85 (.tmp 8) (.tmp 16) rfl (w.heap.size + 1 + 1) #[x0, x1, x2, x3, x4, x5, x6, x7, x8, x9, x10, x11, x12, x13, x14, x15, y0, y1, y2, .slice la ll lc] rfl rfl 85 zero61 (hG _ _ _) info61 rfl hone ?_; rw [hS])
    | (refine wpList_load_row (o := ⟨some 17, _, _, _, _, _⟩) rfl 85 (.tmp 8) rfl (w.heap.size + 1 + 1) rfl 85 #[x0, x1, x2, x3, x4, x5, x6, x7, x8, x9, x10, x11, x12, x13, x14, x15, y0, y1, y2, .slice la ll lc] (0, 0) _ (hG _ _ _) Tryz.underlying85 rfl info61 ?_))
  rintro e w1 ⟨rfl, hb1⟩
  have hbw1 := (hb0 _ _ _).trans (hb1.mono (by simp; omega))
  go_wp2
  go_ret2
  exact ⟨rfl, hbw1⟩
set_option maxHeartbeats 8000000 in
set_option maxRecDepth 1000000 in
theorem format_ok (w : World) (x0 x1 x2 x3 x4 x5 x6 x7 x8 x9 x10 x11 x12 x13 x14 x15 y0 y1 y2 : Value) (la : Option Addr) (ll lc : Nat) (hone : (#[x0, x1, x2, x3, x4, x5, x6, x7, x8, x9, x10, x11, x12, x13, x14, x15, y0, y1, y2, .slice la ll lc] : Array Value).all (·.oneCell') = true) (ss : List (List UInt8)) (hmax : ss.length ≤ 1000000000)
    (hcheck : ∀ W, Below w.heap.size w W → Calls Tryz.prog 27 #[.agg #[x0, x1, x2, x3, x4, x5, x6, x7, x8, x9, x10, x11, x12, x13, x14, x15, y0, y1, y2, .slice la ll lc]] W fun e w' => e = .returned (.int .i64 0) ∧ Below W.heap.size W w')
    (hrows : ∀ W, Below w.heap.size w W → Calls Tryz.prog 28 #[.agg #[x0, x1, x2, x3, x4, x5, x6, x7, x8, x9, x10, x11, x12, x13, x14, x15, y0, y1, y2, .slice la ll lc]] W fun e w' => ∃ (a : Option Addr) (cap : Nat), e = .returned (.slice a ss.length cap) ∧ ss.length ≤ cap ∧ Below W.heap.size W w' ∧ FmtRows w.heap.size W.heap.size ss a w')
    (hlen : ss.flatten.length ≤ 140737488355328) :
    Calls Tryz.prog 15 #[.agg #[x0, x1, x2, x3, x4, x5, x6, x7, x8, x9, x10, x11, x12, x13, x14, x15], .agg #[y0, y1, y2], .slice la ll lc] w fun e w' => e = .returned (.tuple #[.string ⟨ss.flatten.toArray⟩, .int .i64 0]) ∧ Below w.heap.size w w' := by
  have hb0 : ∀ a b c, Below w.heap.size w (((w.alloc a).alloc b).alloc c) := fun a b c => (((Below.refl _ w).alloc (Nat.le_refl _) _).alloc (by simp) _).alloc (by simp; omega) _
  have hA : ∀ a b, ((w.alloc a).alloc b).heap[w.heap.size]? = some a := fun a b => (Lib.alloc_old _ _ _ (by simp)).trans (heap_alloc_new _ _)
  have hB : ∀ a b, ((w.alloc a).alloc b).heap[w.heap.size + 1]? = some b := fun a b => heap_alloc2_new w a b
  have hG : ∀ a b c, (((w.alloc a).alloc b).alloc c).heap[w.heap.size + 1 + 1]? = some c := fun a b c => by have := heap_alloc_new ((w.alloc a).alloc b) c; simpa using this
  have hS : ∀ a b c c' t, (((w.alloc a).alloc b).alloc (.cells c t)).setRow (w.heap.size + 1 + 1) c' = ((w.alloc a).alloc b).alloc (.cells c' t) := fun a b c c' t => by have := World.setRow_alloc_new ((w.alloc a).alloc b) c c' t; simpa using this
  go_enter Tryz.func15, Tryz.ntmps15
  go_wp2_with (first
    | (go_at_call 27; refine (hcheck _ (hb0 _ _ _)).mono ?_)
    | (refine wpList_load_row (o := ⟨some 13, _, _, _, _, _⟩) rfl 43 (.tmp 3) rfl w.heap.size rfl 43 #[x0, x1, x2, x3, x4, x5, x6, x7, x8, x9, x10, x11, x12, x13, x14, x15] (0, 0) _ (hA _ _) Tryz.underlying43 rfl info38 ?_)
    | (refine wpList_load_row (o := ⟨some 14, _, _, _, _, _⟩) rfl 50 (.tmp 4) rfl (w.heap.size + 1) rfl 50 #[y0, y1, y2] (0, 0) _ (hB _ _) Tryz.underlying50 rfl info43 ?_)
    | (refine wpList_store_row rfl 85 (.tmp 8) (.tmp 16) rfl (w.heap.size + 1 + 1) #[x0, x1, x2, x3, x4, x5, x6, x7, x8, x9, x10, x11, x12, x13, x14, x15, y0, y1, y2, .slice la ll lc] rfl rfl 85 zero61 (hG _ _ _) info61 rfl hone ?_; rw [hS])
    | (refine wpList_load_row (o := ⟨some 17, _, _, _, _, _⟩) rfl 85 (.tmp 8) rfl (w.heap.size + 1 + 1) rfl 85 #[x0, x1, x2, x3, x4, x5, x6, x7, x8, x9, x10, x11, x12, x13, x14, x15, y0, y1, y2, .slice la ll lc] (0, 0) _ (hG _ _ _) Tryz.underlying85 rfl info61 ?_))
  rintro e w1 ⟨rfl, hb1⟩
  have hbw1 := (hb0 _ _ _).trans (hb1.mono (by simp; omega))
  have hsz1 : w.heap.size ≤ w1.heap.size := hbw1.size
  have hG3 : ∀ a, (w1.alloc a).heap[w.heap.size + 1 + 1]? = some (.cells #[x0, x1, x2, x3, x4, x5, x6, x7, x8, x9, x10, x11, x12, x13, x14, x15, y0, y1, y2, .slice la ll lc] 85 (0, 0)) := fun a => by
    have h1 := hb1.size
    simp at h1
    exact (Lib.alloc_old _ _ _ (by omega)).trans (heapKeep (hG _ _ _) hb1)
  go_wp2_with (first
    | (refine wpList_load_row (o := ⟨some 22, _, _, _, _, _⟩) rfl 85 (.tmp 8) rfl (w.heap.size + 1 + 1) rfl 85 #[x0, x1, x2, x3, x4, x5, x6, x7, x8, x9, x10, x11, x12, x13, x14, x15, y0, y1, y2, .slice la ll lc] (0, 0) _ (hG3 _) Tryz.underlying85 rfl info61 ?_)
    | (go_at_call 28; refine (hrows _ (hbw1.alloc hsz1 _)).mono ?_))
  rintro e w2 ⟨a, cap, rfl, hcap, hb2, hR⟩
  have hbd : Bd w2.heap.size w1.heap.size [] w2 := by
    have h1 := hb2.size
    simp at h1
    refine ⟨by omega, Nat.le_refl _, .pointer none, .slice none 0 0, .inl rfl, heapKeep (heap_alloc_new _ _) hb2, World.ownsRowF_nil _ _ _ _, by simp [Value.ownBlock]⟩
  have hbw2 : Below w.heap.size w w2 := (hbw1.alloc hsz1 _).trans (hb2.mono (by simp; omega))
  have hsz2 : w1.heap.size + 1 ≤ w2.heap.size := by have := hb2.size; simpa using this
  simp only [show ∀ o, (w1.alloc o).heap.size = w1.heap.size + 1 from fun o => by simp] at hR hb2
  go_wp2
  go_loopw [25] (fun v wr => ∃ k : Nat, v = .int .i64 k ∧ k ≤ ss.length ∧ Bd w2.heap.size w1.heap.size (Lib.byteCells (ss.take k).flatten) wr ∧ KX w.heap.size (w1.heap.size + 1) w2 wr) (fun v _ => ss.length - (intOf v).toNat)
  case atStart => exact ⟨0, rfl, Nat.zero_le _, hbd, KX.refl _ _ _⟩
  case round =>
    obtain ⟨k, rfl, hk, hI, hK⟩ := hrel
    by_cases hlt : k < ss.length
    · obtain ⟨s, hs⟩ : ∃ s, ss[k]? = some s := ⟨ss[k], List.getElem?_eq_getElem hlt⟩
      rcases hR with hR | ⟨b, o, rfl, hbo, hbs, hR⟩
      · rw [hR] at hlt; simp at hlt
      obtain ⟨c0, c1, ho0, ho1, hc0, hc1, hw⟩ := hR k s hs
      have hle := flat_le hs
      have hstep : (ss.take (k + 1)).flatten = (ss.take k).flatten ++ s := by
        rw [List.take_add_one, hs]; simp
      have old : ∀ j v, w2.cell? ⟨b, j, none⟩ = some v → wr.cell? ⟨b, j, none⟩ = some v := fun j v h => by rw [World.cell?_of_block (hK.block b hbs (by omega))]; exact h
      have d0 := old _ _ hc0; have d1 := old _ _ hc1
      clear hc0 hc1 old hR hrows hcheck hb0 hA hB hG hS hG3
      have hn := hI.2.1
      have hI2 : Bd w2.heap.size w1.heap.size (Lib.byteCells (ss.take k).flatten) (wr.alloc (.cells #[c0, c1] 93)) := hI.keep ((Below.refl _ _).alloc (Nat.le_refl _) _)
      have hK2 : KX w.heap.size (w1.heap.size + 1) w2 (wr.alloc (.cells #[c0, c1] 93)) := hK.below ((Below.refl _ _).alloc (Nat.le_refl _) _)
      have hone2 : (#[c0, c1] : Array Value).all (·.oneCell') = true := by simp [ho0, ho1]
      have hS2 : ∀ c c' t, (wr.alloc (.cells c t)).setRow wr.heap.size c' = wr.alloc (.cells c' t) := fun c c' t => World.setRow_alloc_new wr c c' t
      go_wp2_with (first
        | (refine wpList_store_row rfl 93 (.tmp 12) (.tmp 28) rfl wr.heap.size #[c0, c1] rfl rfl 93 #[.int .i64 0, .slice none 0 0] (heap_alloc_new _ _) info70 rfl hone2 ?_; rw [hS2])
        | (refine wpList_load_row (o := ⟨some 29, _, _, _, _, _⟩) rfl 93 (.tmp 12) rfl wr.heap.size rfl 93 #[c0, c1] (0, 0) _ (heap_alloc_new _ _) Tryz.underlying93 rfl info70 ?_)
        | (go_at_call 30; refine (hw _ hK2).mono ?_))
      rintro e W1 ⟨rfl, hb3⟩
      have hI3 := hI2.keep hb3
      have hle2 : (Lib.byteCells (ss.take k).flatten).length + (⟨s.toArray⟩ : ByteArray).size ≤ 140737488355328 := by
        rw [Lib.byteCells_length]
        show _ + s.toArray.size ≤ _
        simp only [List.size_toArray]
        omega
      have hK3 := hK2.below hb3
      go_wp2_with (go_at_call 29; refine (writeString2 w2.heap.size w1.heap.size _ _ _ hI3 hle2).mono ?_)
      rintro e W2 ⟨rfl, hI4, hK4⟩
      go_wp2
      go_roundw
      case rel =>
        refine ⟨k + 1, by go_num, by omega, ?_, hK3.kp hK4 (by omega) (by omega) hbd hI4⟩
        rw [hstep, Lib.byteCells_append]
        have hx : Lib.strCells (⟨s.toArray⟩ : ByteArray) = Lib.byteCells s := by
          simp [Lib.strCells, Lib.byteCells]
        rw [← hx]
        exact hI4
      case measure => simp [intOf]; omega
    · have e0 : k = ss.length := by omega
      subst e0
      rw [List.take_length] at hI
      go_wp2_with (go_at_call 31; refine (Tryz.Builder_String_any_k w1.heap.size w1.heap.size ss.flatten _ hI.is (by have := hK.size; omega)).mono ?_)
      rintro e W1 ⟨rfl, _, hb, _⟩
      go_wp2
      go_ret2
      refine ⟨rfl, ⟨hb.os.trans (hK.os.trans hbw2.os), hb.tape.trans (hK.tape.trans hbw2.tape), hb.output.trans (hK.output.trans hbw2.output), Nat.le_trans hbw2.size (Nat.le_trans hK.size hb.size), fun i hi => ?_⟩⟩
      have h1 := hbw1.size
      rw [hb.block i (by omega), hK.block i (by omega) (.inl hi), hbw2.block i hi]
end Go.Proofs.YtcfmnogghcjdaaaGreatDoor
