/- Part of a proof: Api. -/
import Derived.Test.YtdngefmliibcgaaGreatM01
set_option linter.all false
set_option maxRecDepth 20000
set_option maxHeartbeats 20000000
namespace Go.Abs.fJ
open Go Go.Abs
theorem jZ{α:Type}{f:α→V}(h: ∀x,(f x).fo=f x)(l:List α):cG (l.map f)=l.map f:=by
 rw[C4,List.map_map];exact List.map_congr_left fun x _=>h x
@[simp] theorem vd(k:IntKind)(l:List Int):cG (l.map (V.int k))=l.map (V.int k):=jZ (fun _=>rfl) l
structure Cell where
 tag:Int
 val:Int
 deriving DecidableEq,Inhabited
def Cell.enc(x:Cell):V:= .agg [.int .u8 x.tag,.int .u16 x.val]
theorem Cell.aU(x:Cell):x.enc= .agg [.int .u8 x.tag,.int .u16 x.val]:=rfl
theorem Cell.eq_iff(x y:Cell):x=y↔x.tag=y.tag∧x.val=y.val:=by cases x;cases y;simp
@[simp] theorem Cell.dB(x:Cell):x.enc.cells=[.int .u8 x.tag,.int .u16 x.val]:=rfl
@[simp] theorem W5(l:List Cell):cG (l.map Cell.enc)=l.map Cell.enc:=jZ (fun x=>by simp[Cell.aU]) l
structure um where
 region:Int
 offset:Int
 deriving DecidableEq,Inhabited
def um.enc(x:um):V:= .agg [.int .i64 x.region,.int .i64 x.offset]
theorem um.aU(x:um):x.enc= .agg [.int .i64 x.region,.int .i64 x.offset]:=rfl
theorem um.eq_iff(x y:um):x=y↔x.region=y.region∧x.offset=y.offset:=by cases x;cases y;simp
@[simp] theorem um.dB(x:um):x.enc.cells=[.int .i64 x.region,.int .i64 x.offset]:=rfl
structure Layout where
 aE:List Int
 key:Int
 deriving DecidableEq,Inhabited
def Layout.enc(x:Layout):V:= .agg [.sl false (x.aE.map (V.int .i64)),.int .u16 x.key]
theorem Layout.aU(x:Layout):x.enc= .agg [.sl false (x.aE.map (V.int .i64)),.int .u16 x.key]:=rfl
theorem Layout.eq_iff(x y:Layout):x=y↔x.aE=y.aE∧x.key=y.key:=by cases x;cases y;simp
@[simp] theorem Layout.dB(x:Layout):x.enc.cells=[.sl false (x.aE.map (V.int .i64)),.int .u16 x.key]:=rfl
structure bT where
 tag:Int
 eU:Bool
 cells:List Cell
 deriving DecidableEq,Inhabited
def bT.enc(x:bT):V:= .agg [.int .i64 x.tag,.bool x.eU,.sl false (x.cells.map Cell.enc)]
theorem bT.aU(x:bT):x.enc= .agg [.int .i64 x.tag,.bool x.eU,.sl false (x.cells.map Cell.enc)]:=rfl
theorem bT.eq_iff(x y:bT):x=y↔x.tag=y.tag∧x.eU=y.eU∧x.cells=y.cells:=by cases x;cases y;simp
@[simp] theorem bT.dB(x:bT):x.enc.cells=[.int .i64 x.tag,.bool x.eU,.sl false (x.cells.map Cell.enc)]:=rfl
@[simp] theorem W6(l:List bT):cG (l.map bT.enc)=l.map bT.enc:=jZ (fun x=>by simp[bT.aU]) l
structure aF where
 cells:List Cell
 lines:List bT
 deriving DecidableEq,Inhabited
def aF.enc(x:aF):V:= .agg [.sl false (x.cells.map Cell.enc),.sl false (x.lines.map bT.enc)]
theorem aF.aU(x:aF):x.enc= .agg [.sl false (x.cells.map Cell.enc),.sl false (x.lines.map bT.enc)]:=rfl
theorem aF.eq_iff(x y:aF):x=y↔x.cells=y.cells∧x.lines=y.lines:=by cases x;cases y;simp
@[simp] theorem aF.dB(x:aF):x.enc.cells=[.sl false (x.cells.map Cell.enc),.sl false (x.lines.map bT.enc)]:=rfl
structure Instr where
 op:Int
 a:Int
 b:Int
 c:Int
 cT:Int
 deriving DecidableEq,Inhabited
def Instr.enc(x:Instr):V:= .agg [.int .i64 x.op,.int .i64 x.a,.int .i64 x.b,.int .i64 x.c,.int .i64 x.cT]
theorem Instr.aU(x:Instr):x.enc= .agg [.int .i64 x.op,.int .i64 x.a,.int .i64 x.b,.int .i64 x.c,.int .i64 x.cT]:=rfl
theorem Instr.eq_iff(x y:Instr):x=y↔x.op=y.op∧x.a=y.a∧x.b=y.b∧x.c=y.c∧x.cT=y.cT:=by cases x;cases y;simp
@[simp] theorem Instr.dB(x:Instr):x.enc.cells=[.int .i64 x.op,.int .i64 x.a,.int .i64 x.b,.int .i64 x.c,.int .i64 x.cT]:=rfl
@[simp] theorem Vq(l:List Instr):cG (l.map Instr.enc)=l.map Instr.enc:=jZ (fun x=>by simp[Instr.aU]) l
def bE(x:List Int):V:= .sl false (x.map (V.int .u16))
theorem yh(x:List Int):bE x= .sl false (x.map (V.int .u16)):=rfl
@[simp] theorem JD(x:List Int):(bE x).cells=[.sl false (x.map (V.int .u16))]:=rfl
@[simp] theorem W7(l:List (List Int)):cG (l.map bE)=l.map bE:=jZ (fun x=>by simp[yh]) l
structure Prog where
 code:List Instr
 aq:List Int
 data:List (List Int)
 deriving DecidableEq,Inhabited
def Prog.enc(x:Prog):V:= .agg [.sl false (x.code.map Instr.enc),.sl false (x.aq.map (V.int .i64)),.sl false (x.data.map bE)]
theorem Prog.aU(x:Prog):x.enc= .agg [.sl false (x.code.map Instr.enc),.sl false (x.aq.map (V.int .i64)),.sl false (x.data.map bE)]:=rfl
theorem Prog.eq_iff(x y:Prog):x=y↔x.code=y.code∧x.aq=y.aq∧x.data=y.data:=by cases x;cases y;simp
@[simp] theorem Prog.dB(x:Prog):x.enc.cells=[.sl false (x.code.map Instr.enc),.sl false (x.aq.map (V.int .i64)),.sl false (x.data.map bE)]:=rfl
structure Thread where
 state:Int
 aO:List Cell
 pc:Int
 count:Int
 bK:Int
 saved:Int
 cz:Int
 code:Int
 deriving DecidableEq,Inhabited
def Thread.enc(x:Thread):V:= .agg [.int .i64 x.state,.sl false (x.aO.map Cell.enc),.int .i64 x.pc,.int .i64 x.count,.int .i64 x.bK,.int .i64 x.saved,.int .i64 x.cz,.int .u16 x.code]
theorem Thread.aU(x:Thread):x.enc= .agg [.int .i64 x.state,.sl false (x.aO.map Cell.enc),.int .i64 x.pc,.int .i64 x.count,.int .i64 x.bK,.int .i64 x.saved,.int .i64 x.cz,.int .u16 x.code]:=rfl
theorem Thread.eq_iff(x y:Thread):x=y↔x.state=y.state∧x.aO=y.aO∧x.pc=y.pc∧x.count=y.count∧x.bK=y.bK∧x.saved=y.saved∧x.cz=y.cz∧x.code=y.code:=by cases x;cases y;simp
@[simp] theorem Thread.dB(x:Thread):x.enc.cells=[.int .i64 x.state,.sl false (x.aO.map Cell.enc),.int .i64 x.pc,.int .i64 x.count,.int .i64 x.bK,.int .i64 x.saved,.int .i64 x.cz,.int .u16 x.code]:=rfl
@[simp] theorem Tn(l:List Thread):cG (l.map Thread.enc)=l.map Thread.enc:=jZ (fun x=>by simp[Thread.aU]) l
structure aJ where
 layout:Layout
 memory:aF
 threads:List Thread
 deriving DecidableEq,Inhabited
def aJ.enc(x:aJ):V:= .agg [.sl false (x.layout.aE.map (V.int .i64)),.int .u16 x.layout.key,.sl false (x.memory.cells.map Cell.enc),.sl false (x.memory.lines.map bT.enc),.sl false (x.threads.map Thread.enc)]
theorem aJ.aU(x:aJ):x.enc= .agg [.sl false (x.layout.aE.map (V.int .i64)),.int .u16 x.layout.key,.sl false (x.memory.cells.map Cell.enc),.sl false (x.memory.lines.map bT.enc),.sl false (x.threads.map Thread.enc)]:=rfl
theorem aJ.eq_iff(x y:aJ):x=y↔x.layout=y.layout∧x.memory=y.memory∧x.threads=y.threads:=by cases x;cases y;simp
@[simp] theorem aJ.dB(x:aJ):x.enc.cells=[.sl false (x.layout.aE.map (V.int .i64)),.int .u16 x.layout.key,.sl false (x.memory.cells.map Cell.enc),.sl false (x.memory.lines.map bT.enc),.sl false (x.threads.map Thread.enc)]:=rfl
structure Canon where
 tag:Int
 val:Int
 region:Int
 offset:Int
 deriving DecidableEq,Inhabited
def Canon.enc(x:Canon):V:= .agg [.int .u8 x.tag,.int .u16 x.val,.int .i64 x.region,.int .i64 x.offset]
theorem Canon.aU(x:Canon):x.enc= .agg [.int .u8 x.tag,.int .u16 x.val,.int .i64 x.region,.int .i64 x.offset]:=rfl
theorem Canon.eq_iff(x y:Canon):x=y↔x.tag=y.tag∧x.val=y.val∧x.region=y.region∧x.offset=y.offset:=by cases x;cases y;simp
@[simp] theorem Canon.dB(x:Canon):x.enc.cells=[.int .u8 x.tag,.int .u16 x.val,.int .i64 x.region,.int .i64 x.offset]:=rfl
@[simp] theorem Vr(l:List Canon):cG (l.map Canon.enc)=l.map Canon.enc:=jZ (fun x=>by simp[Canon.aU]) l
structure Request where
 bD:Int
 stop:Int
 cz:Int
 count:Int
 pc:Int
 call:Int
 args:List Canon
 data:List Canon
 deriving DecidableEq,Inhabited
def Request.enc(x:Request):V:= .agg [.int .i64 x.bD,.int .i64 x.stop,.int .i64 x.cz,.int .i64 x.count,.int .i64 x.pc,.int .i64 x.call,.sl false (x.args.map Canon.enc),.sl false (x.data.map Canon.enc)]
theorem Request.aU(x:Request):x.enc= .agg [.int .i64 x.bD,.int .i64 x.stop,.int .i64 x.cz,.int .i64 x.count,.int .i64 x.pc,.int .i64 x.call,.sl false (x.args.map Canon.enc),.sl false (x.data.map Canon.enc)]:=rfl
theorem Request.eq_iff(x y:Request):x=y↔x.bD=y.bD∧x.stop=y.stop∧x.cz=y.cz∧x.count=y.count∧x.pc=y.pc∧x.call=y.call∧x.args=y.args∧x.data=y.data:=by cases x;cases y;simp
@[simp] theorem Request.dB(x:Request):x.enc.cells=[.int .i64 x.bD,.int .i64 x.stop,.int .i64 x.cz,.int .i64 x.count,.int .i64 x.pc,.int .i64 x.call,.sl false (x.args.map Canon.enc),.sl false (x.data.map Canon.enc)]:=rfl
structure uo where
 value:Canon
 data:List Canon
 spawn:Int
 wait:Bool
 deriving DecidableEq,Inhabited
def uo.enc(x:uo):V:= .agg [.int .u8 x.value.tag,.int .u16 x.value.val,.int .i64 x.value.region,.int .i64 x.value.offset,.sl false (x.data.map Canon.enc),.int .i64 x.spawn,.bool x.wait]
theorem uo.aU(x:uo):x.enc= .agg [.int .u8 x.value.tag,.int .u16 x.value.val,.int .i64 x.value.region,.int .i64 x.value.offset,.sl false (x.data.map Canon.enc),.int .i64 x.spawn,.bool x.wait]:=rfl
theorem uo.eq_iff(x y:uo):x=y↔x.value=y.value∧x.data=y.data∧x.spawn=y.spawn∧x.wait=y.wait:=by cases x;cases y;simp
@[simp] theorem uo.dB(x:uo):x.enc.cells=[.int .u8 x.value.tag,.int .u16 x.value.val,.int .i64 x.value.region,.int .i64 x.value.offset,.sl false (x.data.map Canon.enc),.int .i64 x.spawn,.bool x.wait]:=rfl
structure View where
 state:Int
 pc:Int
 count:Int
 bK:Int
 saved:Int
 cz:Int
 code:Int
 aO:List Canon
 deriving DecidableEq,Inhabited
def View.enc(x:View):V:= .agg [.int .i64 x.state,.int .i64 x.pc,.int .i64 x.count,.int .i64 x.bK,.int .i64 x.saved,.int .i64 x.cz,.int .u16 x.code,.sl false (x.aO.map Canon.enc)]
theorem View.aU(x:View):x.enc= .agg [.int .i64 x.state,.int .i64 x.pc,.int .i64 x.count,.int .i64 x.bK,.int .i64 x.saved,.int .i64 x.cz,.int .u16 x.code,.sl false (x.aO.map Canon.enc)]:=rfl
theorem View.eq_iff(x y:View):x=y↔x.state=y.state∧x.pc=y.pc∧x.count=y.count∧x.bK=y.bK∧x.saved=y.saved∧x.cz=y.cz∧x.code=y.code∧x.aO=y.aO:=by cases x;cases y;simp
@[simp] theorem View.dB(x:View):x.enc.cells=[.int .i64 x.state,.int .i64 x.pc,.int .i64 x.count,.int .i64 x.bK,.int .i64 x.saved,.int .i64 x.cz,.int .u16 x.code,.sl false (x.aO.map Canon.enc)]:=rfl
def dL(x:List Canon):V:= .sl false (x.map Canon.enc)
structure State where
 regions:List (List Canon)
 threads:List View
 deriving DecidableEq,Inhabited
def State.enc(x:State):V:= .agg [.sl false (x.regions.map dL),.sl false (x.threads.map View.enc)]
theorem State.aU(x:State):x.enc= .agg [.sl false (x.regions.map dL),.sl false (x.threads.map View.enc)]:=rfl
theorem State.eq_iff(x y:State):x=y↔x.regions=y.regions∧x.threads=y.threads:=by cases x;cases y;simp
@[simp] theorem State.dB(x:State):x.enc.cells=[.sl false (x.regions.map dL),.sl false (x.threads.map View.enc)]:=rfl
def nk(x:List Int):V:= .sl false (x.map (V.int .i64))
structure ga where
 owner:List Int
 queue:List (List Int)
 deriving DecidableEq,Inhabited
def ga.enc(x:ga):V:= .agg [.sl false (x.owner.map (V.int .i64)),.sl false (x.queue.map nk)]
theorem ga.aU(x:ga):x.enc= .agg [.sl false (x.owner.map (V.int .i64)),.sl false (x.queue.map nk)]:=rfl
theorem ga.eq_iff(x y:ga):x=y↔x.owner=y.owner∧x.queue=y.queue:=by cases x;cases y;simp
@[simp] theorem ga.dB(x:ga):x.enc.cells=[.sl false (x.owner.map (V.int .i64)),.sl false (x.queue.map nk)]:=rfl
structure yi where
 file:Int
 offset:Int
 write:Bool
 deriving DecidableEq,Inhabited
def yi.enc(x:yi):V:= .agg [.int .i64 x.file,.int .i64 x.offset,.bool x.write]
theorem yi.aU(x:yi):x.enc= .agg [.int .i64 x.file,.int .i64 x.offset,.bool x.write]:=rfl
theorem yi.eq_iff(x y:yi):x=y↔x.file=y.file∧x.offset=y.offset∧x.write=y.write:=by cases x;cases y;simp
@[simp] theorem yi.dB(x:yi):x.enc.cells=[.int .i64 x.file,.int .i64 x.offset,.bool x.write]:=rfl
structure mY where
 data:List (List Canon)
 opens:List yi
 deriving DecidableEq,Inhabited
def mY.enc(x:mY):V:= .agg [.sl false (x.data.map dL),.sl false (x.opens.map yi.enc)]
theorem mY.aU(x:mY):x.enc= .agg [.sl false (x.data.map dL),.sl false (x.opens.map yi.enc)]:=rfl
theorem mY.eq_iff(x y:mY):x=y↔x.data=y.data∧x.opens=y.opens:=by cases x;cases y;simp
@[simp] theorem mY.dB(x:mY):x.enc.cells=[.sl false (x.data.map dL),.sl false (x.opens.map yi.enc)]:=rfl
structure Output where
 seq:Int
 socket:Int
 data:List Canon
 deriving DecidableEq,Inhabited
def Output.enc(x:Output):V:= .agg [.int .i64 x.seq,.int .i64 x.socket,.sl false (x.data.map Canon.enc)]
theorem Output.aU(x:Output):x.enc= .agg [.int .i64 x.seq,.int .i64 x.socket,.sl false (x.data.map Canon.enc)]:=rfl
theorem Output.eq_iff(x y:Output):x=y↔x.seq=y.seq∧x.socket=y.socket∧x.data=y.data:=by cases x;cases y;simp
@[simp] theorem Output.dB(x:Output):x.enc.cells=[.int .i64 x.seq,.int .i64 x.socket,.sl false (x.data.map Canon.enc)]:=rfl
structure j6 where
 clock:List Int
 random:List Int
 jx:List (List Int)
 files:mY
 fm:List Output
 deriving DecidableEq,Inhabited
def j6.enc(x:j6):V:= .agg [.sl false (x.clock.map (V.int .u16)),.sl false (x.random.map (V.int .u16)),.sl false (x.jx.map bE),.sl false (x.files.data.map dL),.sl false (x.files.opens.map yi.enc),.sl false (x.fm.map Output.enc)]
theorem j6.aU(x:j6):x.enc= .agg [.sl false (x.clock.map (V.int .u16)),.sl false (x.random.map (V.int .u16)),.sl false (x.jx.map bE),.sl false (x.files.data.map dL),.sl false (x.files.opens.map yi.enc),.sl false (x.fm.map Output.enc)]:=rfl
theorem j6.eq_iff(x y:j6):x=y↔x.clock=y.clock∧x.random=y.random∧x.jx=y.jx∧x.files=y.files∧x.fm=y.fm:=by cases x;cases y;simp
@[simp] theorem j6.dB(x:j6):x.enc.cells=[.sl false (x.clock.map (V.int .u16)),.sl false (x.random.map (V.int .u16)),.sl false (x.jx.map bE),.sl false (x.files.data.map dL),.sl false (x.files.opens.map yi.enc),.sl false (x.fm.map Output.enc)]:=rfl
structure Entry where
 kind:Int
 bD:Int
 n:Int
 request:Request
 result:uo
 deriving DecidableEq,Inhabited
def Entry.enc(x:Entry):V:= .agg [.int .i64 x.kind,.int .i64 x.bD,.int .i64 x.n,.int .i64 x.request.bD,.int .i64 x.request.stop,.int .i64 x.request.cz,.int .i64 x.request.count,.int .i64 x.request.pc,.int .i64 x.request.call,.sl false (x.request.args.map Canon.enc),.sl false (x.request.data.map Canon.enc),.int .u8 x.result.value.tag,.int .u16 x.result.value.val,.int .i64 x.result.value.region,.int .i64 x.result.value.offset,.sl false (x.result.data.map Canon.enc),.int .i64 x.result.spawn,.bool x.result.wait]
theorem Entry.aU(x:Entry):x.enc= .agg [.int .i64 x.kind,.int .i64 x.bD,.int .i64 x.n,.int .i64 x.request.bD,.int .i64 x.request.stop,.int .i64 x.request.cz,.int .i64 x.request.count,.int .i64 x.request.pc,.int .i64 x.request.call,.sl false (x.request.args.map Canon.enc),.sl false (x.request.data.map Canon.enc),.int .u8 x.result.value.tag,.int .u16 x.result.value.val,.int .i64 x.result.value.region,.int .i64 x.result.value.offset,.sl false (x.result.data.map Canon.enc),.int .i64 x.result.spawn,.bool x.result.wait]:=rfl
theorem Entry.eq_iff(x y:Entry):x=y↔x.kind=y.kind∧x.bD=y.bD∧x.n=y.n∧x.request=y.request∧x.result=y.result:=by cases x;cases y;simp
@[simp] theorem Entry.dB(x:Entry):x.enc.cells=[.int .i64 x.kind,.int .i64 x.bD,.int .i64 x.n,.int .i64 x.request.bD,.int .i64 x.request.stop,.int .i64 x.request.cz,.int .i64 x.request.count,.int .i64 x.request.pc,.int .i64 x.request.call,.sl false (x.request.args.map Canon.enc),.sl false (x.request.data.map Canon.enc),.int .u8 x.result.value.tag,.int .u16 x.result.value.val,.int .i64 x.result.value.region,.int .i64 x.result.value.offset,.sl false (x.result.data.map Canon.enc),.int .i64 x.result.spawn,.bool x.result.wait]:=rfl
@[simp] theorem Vs(l:List Entry):cG (l.map Entry.enc)=l.map Entry.enc:=jZ (fun x=>by simp[Entry.aU]) l
structure Choice where
 bD:Int
 jN:Int
 yj:Bool
 deriving DecidableEq,Inhabited
def Choice.enc(x:Choice):V:= .agg [.int .i64 x.bD,.int .i64 x.jN,.bool x.yj]
theorem Choice.aU(x:Choice):x.enc= .agg [.int .i64 x.bD,.int .i64 x.jN,.bool x.yj]:=rfl
theorem Choice.eq_iff(x y:Choice):x=y↔x.bD=y.bD∧x.jN=y.jN∧x.yj=y.yj:=by cases x;cases y;simp
@[simp] theorem Choice.dB(x:Choice):x.enc.cells=[.int .i64 x.bD,.int .i64 x.jN,.bool x.yj]:=rfl
structure To where
 program:Prog
 machine:aJ
 outside:j6
 uq:ga
 record:List Entry
 As:List Int
 deriving DecidableEq,Inhabited
def To.enc(x:To):V:= .agg [.sl false (x.program.code.map Instr.enc),.sl false (x.program.aq.map (V.int .i64)),.sl false (x.program.data.map bE),.sl false (x.machine.layout.aE.map (V.int .i64)),.int .u16 x.machine.layout.key,.sl false (x.machine.memory.cells.map Cell.enc),.sl false (x.machine.memory.lines.map bT.enc),.sl false (x.machine.threads.map Thread.enc),.sl false (x.outside.clock.map (V.int .u16)),.sl false (x.outside.random.map (V.int .u16)),.sl false (x.outside.jx.map bE),.sl false (x.outside.files.data.map dL),.sl false (x.outside.files.opens.map yi.enc),.sl false (x.outside.fm.map Output.enc),.sl false (x.uq.owner.map (V.int .i64)),.sl false (x.uq.queue.map nk),.sl false (x.record.map Entry.enc),.sl false (x.As.map (V.int .i64))]
theorem To.aU(x:To):x.enc= .agg [.sl false (x.program.code.map Instr.enc),.sl false (x.program.aq.map (V.int .i64)),.sl false (x.program.data.map bE),.sl false (x.machine.layout.aE.map (V.int .i64)),.int .u16 x.machine.layout.key,.sl false (x.machine.memory.cells.map Cell.enc),.sl false (x.machine.memory.lines.map bT.enc),.sl false (x.machine.threads.map Thread.enc),.sl false (x.outside.clock.map (V.int .u16)),.sl false (x.outside.random.map (V.int .u16)),.sl false (x.outside.jx.map bE),.sl false (x.outside.files.data.map dL),.sl false (x.outside.files.opens.map yi.enc),.sl false (x.outside.fm.map Output.enc),.sl false (x.uq.owner.map (V.int .i64)),.sl false (x.uq.queue.map nk),.sl false (x.record.map Entry.enc),.sl false (x.As.map (V.int .i64))]:=rfl
theorem To.eq_iff(x y:To):x=y↔x.program=y.program∧x.machine=y.machine∧x.outside=y.outside∧x.uq=y.uq∧x.record=y.record∧x.As=y.As:=by cases x;cases y;simp
@[simp] theorem To.dB(x:To):x.enc.cells=[.sl false (x.program.code.map Instr.enc),.sl false (x.program.aq.map (V.int .i64)),.sl false (x.program.data.map bE),.sl false (x.machine.layout.aE.map (V.int .i64)),.int .u16 x.machine.layout.key,.sl false (x.machine.memory.cells.map Cell.enc),.sl false (x.machine.memory.lines.map bT.enc),.sl false (x.machine.threads.map Thread.enc),.sl false (x.outside.clock.map (V.int .u16)),.sl false (x.outside.random.map (V.int .u16)),.sl false (x.outside.jx.map bE),.sl false (x.outside.files.data.map dL),.sl false (x.outside.files.opens.map yi.enc),.sl false (x.outside.fm.map Output.enc),.sl false (x.uq.owner.map (V.int .i64)),.sl false (x.uq.queue.map nk),.sl false (x.record.map Entry.enc),.sl false (x.As.map (V.int .i64))]:=rfl
structure bR where
 time:Int
 bQ:Int
 kind:Int
 bD:Int
 gP:Int
 bit:Int
 deriving DecidableEq,Inhabited
def bR.enc(x:bR):V:= .agg [.int .i64 x.time,.int .i64 x.bQ,.int .i64 x.kind,.int .i64 x.bD,.int .i64 x.gP,.int .i64 x.bit]
theorem bR.aU(x:bR):x.enc= .agg [.int .i64 x.time,.int .i64 x.bQ,.int .i64 x.kind,.int .i64 x.bD,.int .i64 x.gP,.int .i64 x.bit]:=rfl
theorem bR.eq_iff(x y:bR):x=y↔x.time=y.time∧x.bQ=y.bQ∧x.kind=y.kind∧x.bD=y.bD∧x.gP=y.gP∧x.bit=y.bit:=by cases x;cases y;simp
@[simp] theorem bR.dB(x:bR):x.enc.cells=[.int .i64 x.time,.int .i64 x.bQ,.int .i64 x.kind,.int .i64 x.bD,.int .i64 x.gP,.int .i64 x.bit]:=rfl
@[simp] theorem Vt(l:List bR):cG (l.map bR.enc)=l.map bR.enc:=jZ (fun x=>by simp[bR.aU]) l
structure Reader where
 b:List Int
 short:Bool
 deriving DecidableEq,Inhabited
def Reader.enc(x:Reader):V:= .agg [.sl false (x.b.map (V.int .u8)),.bool x.short]
theorem Reader.aU(x:Reader):x.enc= .agg [.sl false (x.b.map (V.int .u8)),.bool x.short]:=rfl
theorem Reader.eq_iff(x y:Reader):x=y↔x.b=y.b∧x.short=y.short:=by cases x;cases y;simp
@[simp] theorem Reader.dB(x:Reader):x.enc.cells=[.sl false (x.b.map (V.int .u8)),.bool x.short]:=rfl
end Go.Abs.fJ
