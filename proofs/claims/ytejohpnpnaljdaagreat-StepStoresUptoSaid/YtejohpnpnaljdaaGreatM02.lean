/- Part of a proof: Api. -/
import Derived.Test.YtejohpnpnaljdaaGreatM01
set_option linter.all false
set_option maxRecDepth 20000
set_option maxHeartbeats 20000000
namespace Go.Abs.lu
open Go Go.Abs
theorem jV{α:Type}{f:α->V}(h: ∀x,(f x).jm=f x)(l:List α):df (l.map f)=l.map f:=by
 rw[HL,List.map_map];exact List.map_congr_left fun x _=>h x
@[simp] theorem ah2(k:IntKind)(l:List Int):df (l.map (V.int k))=l.map (V.int k):=jV (fun _=>rfl) l
structure Cell where
 tag:Int
 val:Int
 deriving DecidableEq,Inhabited
def Cell.e(x:Cell):V:= .agg [.int .u8 x.tag,.int .u16 x.val]
theorem Cell.bP(x:Cell):x.e= .agg [.int .u8 x.tag,.int .u16 x.val]:=rfl
theorem Cell.eq_iff(x y:Cell):x=y↔x.tag=y.tag/\x.val=y.val:=by cases x;cases y;simp
@[simp] theorem Cell.gI(x:Cell):x.e.cells=[.int .u8 x.tag,.int .u16 x.val]:=rfl
@[simp] theorem ah3(l:List Cell):df (l.map Cell.e)=l.map Cell.e:=jV (fun x=>by simp[Cell.bP]) l
structure AT where
 region:Int
 offset:Int
 deriving DecidableEq,Inhabited
def AT.e(x:AT):V:= .agg [.int .i64 x.region,.int .i64 x.offset]
theorem AT.bP(x:AT):x.e= .agg [.int .i64 x.region,.int .i64 x.offset]:=rfl
theorem AT.eq_iff(x y:AT):x=y↔x.region=y.region/\x.offset=y.offset:=by cases x;cases y;simp
@[simp] theorem AT.gI(x:AT):x.e.cells=[.int .i64 x.region,.int .i64 x.offset]:=rfl
structure aN where
 aD:List Int
 key:Int
 deriving DecidableEq,Inhabited
def aN.e(x:aN):V:= .agg [.sl false (x.aD.map (V.int .i64)),.int .u16 x.key]
theorem aN.bP(x:aN):x.e= .agg [.sl false (x.aD.map (V.int .i64)),.int .u16 x.key]:=rfl
theorem aN.eq_iff(x y:aN):x=y↔x.aD=y.aD/\x.key=y.key:=by cases x;cases y;simp
@[simp] theorem aN.gI(x:aN):x.e.cells=[.sl false (x.aD.map (V.int .i64)),.int .u16 x.key]:=rfl
structure cx where
 tag:Int
 iw:Bool
 cells:List Cell
 deriving DecidableEq,Inhabited
def cx.e(x:cx):V:= .agg [.int .i64 x.tag,.bool x.iw,.sl false (x.cells.map Cell.e)]
theorem cx.bP(x:cx):x.e= .agg [.int .i64 x.tag,.bool x.iw,.sl false (x.cells.map Cell.e)]:=rfl
theorem cx.eq_iff(x y:cx):x=y↔x.tag=y.tag/\x.iw=y.iw/\x.cells=y.cells:=by cases x;cases y;simp
@[simp] theorem cx.gI(x:cx):x.e.cells=[.int .i64 x.tag,.bool x.iw,.sl false (x.cells.map Cell.e)]:=rfl
@[simp] theorem ah4(l:List cx):df (l.map cx.e)=l.map cx.e:=jV (fun x=>by simp[cx.bP]) l
structure aK where
 cells:List Cell
 lines:List cx
 deriving DecidableEq,Inhabited
def aK.e(x:aK):V:= .agg [.sl false (x.cells.map Cell.e),.sl false (x.lines.map cx.e)]
theorem aK.bP(x:aK):x.e= .agg [.sl false (x.cells.map Cell.e),.sl false (x.lines.map cx.e)]:=rfl
theorem aK.eq_iff(x y:aK):x=y↔x.cells=y.cells/\x.lines=y.lines:=by cases x;cases y;simp
@[simp] theorem aK.gI(x:aK):x.e.cells=[.sl false (x.cells.map Cell.e),.sl false (x.lines.map cx.e)]:=rfl
structure Instr where
 op:Int
 a:Int
 b:Int
 c:Int
 dy:Int
 deriving DecidableEq,Inhabited
def Instr.e(x:Instr):V:= .agg [.int .i64 x.op,.int .i64 x.a,.int .i64 x.b,.int .i64 x.c,.int .i64 x.dy]
theorem Instr.bP(x:Instr):x.e= .agg [.int .i64 x.op,.int .i64 x.a,.int .i64 x.b,.int .i64 x.c,.int .i64 x.dy]:=rfl
theorem Instr.eq_iff(x y:Instr):x=y↔x.op=y.op/\x.a=y.a/\x.b=y.b/\x.c=y.c/\x.dy=y.dy:=by cases x;cases y;simp
@[simp] theorem Instr.gI(x:Instr):x.e.cells=[.int .i64 x.op,.int .i64 x.a,.int .i64 x.b,.int .i64 x.c,.int .i64 x.dy]:=rfl
@[simp] theorem ae2(l:List Instr):df (l.map Instr.e)=l.map Instr.e:=jV (fun x=>by simp[Instr.bP]) l
def aS(x:List Int):V:= .sl false (x.map (V.int .u16))
theorem w7(x:List Int):aS x= .sl false (x.map (V.int .u16)):=rfl
@[simp] theorem Pf(x:List Int):(aS x).cells=[.sl false (x.map (V.int .u16))]:=rfl
@[simp] theorem Ek(l:List (List Int)):df (l.map aS)=l.map aS:=jV (fun x=>by simp[w7]) l
structure Prog where
 code:List Instr
 ae:List Int
 data:List (List Int)
 deriving DecidableEq,Inhabited
def Prog.e(x:Prog):V:= .agg [.sl false (x.code.map Instr.e),.sl false (x.ae.map (V.int .i64)),.sl false (x.data.map aS)]
theorem Prog.bP(x:Prog):x.e= .agg [.sl false (x.code.map Instr.e),.sl false (x.ae.map (V.int .i64)),.sl false (x.data.map aS)]:=rfl
theorem Prog.eq_iff(x y:Prog):x=y↔x.code=y.code/\x.ae=y.ae/\x.data=y.data:=by cases x;cases y;simp
@[simp] theorem Prog.gI(x:Prog):x.e.cells=[.sl false (x.code.map Instr.e),.sl false (x.ae.map (V.int .i64)),.sl false (x.data.map aS)]:=rfl
structure Thread where
 state:Int
 bm:List Cell
 pc:Int
 count:Int
 bV:Int
 saved:Int
 dd:Int
 code:Int
 deriving DecidableEq,Inhabited
def Thread.e(x:Thread):V:= .agg [.int .i64 x.state,.sl false (x.bm.map Cell.e),.int .i64 x.pc,.int .i64 x.count,.int .i64 x.bV,.int .i64 x.saved,.int .i64 x.dd,.int .u16 x.code]
theorem Thread.bP(x:Thread):x.e= .agg [.int .i64 x.state,.sl false (x.bm.map Cell.e),.int .i64 x.pc,.int .i64 x.count,.int .i64 x.bV,.int .i64 x.saved,.int .i64 x.dd,.int .u16 x.code]:=rfl
theorem Thread.eq_iff(x y:Thread):x=y↔x.state=y.state/\x.bm=y.bm/\x.pc=y.pc/\x.count=y.count/\x.bV=y.bV/\x.saved=y.saved/\x.dd=y.dd/\x.code=y.code:=by cases x;cases y;simp
@[simp] theorem Thread.gI(x:Thread):x.e.cells=[.int .i64 x.state,.sl false (x.bm.map Cell.e),.int .i64 x.pc,.int .i64 x.count,.int .i64 x.bV,.int .i64 x.saved,.int .i64 x.dd,.int .u16 x.code]:=rfl
@[simp] theorem abx(l:List Thread):df (l.map Thread.e)=l.map Thread.e:=jV (fun x=>by simp[Thread.bP]) l
structure bf where
 layout:aN
 memory:aK
 threads:List Thread
 deriving DecidableEq,Inhabited
def bf.e(x:bf):V:= .agg [.sl false (x.layout.aD.map (V.int .i64)),.int .u16 x.layout.key,.sl false (x.memory.cells.map Cell.e),.sl false (x.memory.lines.map cx.e),.sl false (x.threads.map Thread.e)]
theorem bf.bP(x:bf):x.e= .agg [.sl false (x.layout.aD.map (V.int .i64)),.int .u16 x.layout.key,.sl false (x.memory.cells.map Cell.e),.sl false (x.memory.lines.map cx.e),.sl false (x.threads.map Thread.e)]:=rfl
theorem bf.eq_iff(x y:bf):x=y↔x.layout=y.layout/\x.memory=y.memory/\x.threads=y.threads:=by cases x;cases y;simp
@[simp] theorem bf.gI(x:bf):x.e.cells=[.sl false (x.layout.aD.map (V.int .i64)),.int .u16 x.layout.key,.sl false (x.memory.cells.map Cell.e),.sl false (x.memory.lines.map cx.e),.sl false (x.threads.map Thread.e)]:=rfl
structure Canon where
 tag:Int
 val:Int
 region:Int
 offset:Int
 deriving DecidableEq,Inhabited
def Canon.e(x:Canon):V:= .agg [.int .u8 x.tag,.int .u16 x.val,.int .i64 x.region,.int .i64 x.offset]
theorem Canon.bP(x:Canon):x.e= .agg [.int .u8 x.tag,.int .u16 x.val,.int .i64 x.region,.int .i64 x.offset]:=rfl
theorem Canon.eq_iff(x y:Canon):x=y↔x.tag=y.tag/\x.val=y.val/\x.region=y.region/\x.offset=y.offset:=by cases x;cases y;simp
@[simp] theorem Canon.gI(x:Canon):x.e.cells=[.int .u8 x.tag,.int .u16 x.val,.int .i64 x.region,.int .i64 x.offset]:=rfl
@[simp] theorem ae3(l:List Canon):df (l.map Canon.e)=l.map Canon.e:=jV (fun x=>by simp[Canon.bP]) l
structure Request where
 iu:Int
 stop:Int
 dd:Int
 count:Int
 pc:Int
 call:Int
 args:List Canon
 data:List Canon
 deriving DecidableEq,Inhabited
def Request.e(x:Request):V:= .agg [.int .i64 x.iu,.int .i64 x.stop,.int .i64 x.dd,.int .i64 x.count,.int .i64 x.pc,.int .i64 x.call,.sl false (x.args.map Canon.e),.sl false (x.data.map Canon.e)]
theorem Request.bP(x:Request):x.e= .agg [.int .i64 x.iu,.int .i64 x.stop,.int .i64 x.dd,.int .i64 x.count,.int .i64 x.pc,.int .i64 x.call,.sl false (x.args.map Canon.e),.sl false (x.data.map Canon.e)]:=rfl
theorem Request.eq_iff(x y:Request):x=y↔x.iu=y.iu/\x.stop=y.stop/\x.dd=y.dd/\x.count=y.count/\x.pc=y.pc/\x.call=y.call/\x.args=y.args/\x.data=y.data:=by cases x;cases y;simp
@[simp] theorem Request.gI(x:Request):x.e.cells=[.int .i64 x.iu,.int .i64 x.stop,.int .i64 x.dd,.int .i64 x.count,.int .i64 x.pc,.int .i64 x.call,.sl false (x.args.map Canon.e),.sl false (x.data.map Canon.e)]:=rfl
structure sX where
 value:Canon
 data:List Canon
 spawn:Int
 wait:Bool
 deriving DecidableEq,Inhabited
def sX.e(x:sX):V:= .agg [.int .u8 x.value.tag,.int .u16 x.value.val,.int .i64 x.value.region,.int .i64 x.value.offset,.sl false (x.data.map Canon.e),.int .i64 x.spawn,.bool x.wait]
theorem sX.bP(x:sX):x.e= .agg [.int .u8 x.value.tag,.int .u16 x.value.val,.int .i64 x.value.region,.int .i64 x.value.offset,.sl false (x.data.map Canon.e),.int .i64 x.spawn,.bool x.wait]:=rfl
theorem sX.eq_iff(x y:sX):x=y↔x.value=y.value/\x.data=y.data/\x.spawn=y.spawn/\x.wait=y.wait:=by cases x;cases y;simp
@[simp] theorem sX.gI(x:sX):x.e.cells=[.int .u8 x.value.tag,.int .u16 x.value.val,.int .i64 x.value.region,.int .i64 x.value.offset,.sl false (x.data.map Canon.e),.int .i64 x.spawn,.bool x.wait]:=rfl
structure View where
 state:Int
 pc:Int
 count:Int
 bV:Int
 saved:Int
 dd:Int
 code:Int
 bm:List Canon
 deriving DecidableEq,Inhabited
def View.e(x:View):V:= .agg [.int .i64 x.state,.int .i64 x.pc,.int .i64 x.count,.int .i64 x.bV,.int .i64 x.saved,.int .i64 x.dd,.int .u16 x.code,.sl false (x.bm.map Canon.e)]
theorem View.bP(x:View):x.e= .agg [.int .i64 x.state,.int .i64 x.pc,.int .i64 x.count,.int .i64 x.bV,.int .i64 x.saved,.int .i64 x.dd,.int .u16 x.code,.sl false (x.bm.map Canon.e)]:=rfl
theorem View.eq_iff(x y:View):x=y↔x.state=y.state/\x.pc=y.pc/\x.count=y.count/\x.bV=y.bV/\x.saved=y.saved/\x.dd=y.dd/\x.code=y.code/\x.bm=y.bm:=by cases x;cases y;simp
@[simp] theorem View.gI(x:View):x.e.cells=[.int .i64 x.state,.int .i64 x.pc,.int .i64 x.count,.int .i64 x.bV,.int .i64 x.saved,.int .i64 x.dd,.int .u16 x.code,.sl false (x.bm.map Canon.e)]:=rfl
@[simp] theorem ah5(l:List View):df (l.map View.e)=l.map View.e:=jV (fun x=>by simp[View.bP]) l
def ba(x:List Canon):V:= .sl false (x.map Canon.e)
theorem qy(x:List Canon):ba x= .sl false (x.map Canon.e):=rfl
@[simp] theorem Ls(x:List Canon):(ba x).cells=[.sl false (x.map Canon.e)]:=rfl
@[simp] theorem Il(l:List (List Canon)):df (l.map ba)=l.map ba:=jV (fun x=>by simp[qy]) l
structure State where
 regions:List (List Canon)
 threads:List View
 deriving DecidableEq,Inhabited
def State.e(x:State):V:= .agg [.sl false (x.regions.map ba),.sl false (x.threads.map View.e)]
theorem State.bP(x:State):x.e= .agg [.sl false (x.regions.map ba),.sl false (x.threads.map View.e)]:=rfl
theorem State.eq_iff(x y:State):x=y↔x.regions=y.regions/\x.threads=y.threads:=by cases x;cases y;simp
@[simp] theorem State.gI(x:State):x.e.cells=[.sl false (x.regions.map ba),.sl false (x.threads.map View.e)]:=rfl
def cI(x:List Int):V:= .sl false (x.map (V.int .i64))
theorem iV(x:List Int):cI x= .sl false (x.map (V.int .i64)):=rfl
@[simp] theorem Pg(x:List Int):(cI x).cells=[.sl false (x.map (V.int .i64))]:=rfl
@[simp] theorem El(l:List (List Int)):df (l.map cI)=l.map cI:=jV (fun x=>by simp[iV]) l
structure bR where
 owner:List Int
 queue:List (List Int)
 deriving DecidableEq,Inhabited
def bR.e(x:bR):V:= .agg [.sl false (x.owner.map (V.int .i64)),.sl false (x.queue.map cI)]
theorem bR.bP(x:bR):x.e= .agg [.sl false (x.owner.map (V.int .i64)),.sl false (x.queue.map cI)]:=rfl
theorem bR.eq_iff(x y:bR):x=y↔x.owner=y.owner/\x.queue=y.queue:=by cases x;cases y;simp
@[simp] theorem bR.gI(x:bR):x.e.cells=[.sl false (x.owner.map (V.int .i64)),.sl false (x.queue.map cI)]:=rfl
structure dT where
 file:Int
 offset:Int
 write:Bool
 deriving DecidableEq,Inhabited
def dT.e(x:dT):V:= .agg [.int .i64 x.file,.int .i64 x.offset,.bool x.write]
theorem dT.bP(x:dT):x.e= .agg [.int .i64 x.file,.int .i64 x.offset,.bool x.write]:=rfl
theorem dT.eq_iff(x y:dT):x=y↔x.file=y.file/\x.offset=y.offset/\x.write=y.write:=by cases x;cases y;simp
@[simp] theorem dT.gI(x:dT):x.e.cells=[.int .i64 x.file,.int .i64 x.offset,.bool x.write]:=rfl
@[simp] theorem al1(l:List dT):df (l.map dT.e)=l.map dT.e:=jV (fun x=>by simp[dT.bP]) l
structure bE where
 data:List (List Canon)
 opens:List dT
 deriving DecidableEq,Inhabited
def bE.e(x:bE):V:= .agg [.sl false (x.data.map ba),.sl false (x.opens.map dT.e)]
theorem bE.bP(x:bE):x.e= .agg [.sl false (x.data.map ba),.sl false (x.opens.map dT.e)]:=rfl
theorem bE.eq_iff(x y:bE):x=y↔x.data=y.data/\x.opens=y.opens:=by cases x;cases y;simp
@[simp] theorem bE.gI(x:bE):x.e.cells=[.sl false (x.data.map ba),.sl false (x.opens.map dT.e)]:=rfl
structure Output where
 seq:Int
 socket:Int
 data:List Canon
 deriving DecidableEq,Inhabited
def Output.e(x:Output):V:= .agg [.int .i64 x.seq,.int .i64 x.socket,.sl false (x.data.map Canon.e)]
theorem Output.bP(x:Output):x.e= .agg [.int .i64 x.seq,.int .i64 x.socket,.sl false (x.data.map Canon.e)]:=rfl
theorem Output.eq_iff(x y:Output):x=y↔x.seq=y.seq/\x.socket=y.socket/\x.data=y.data:=by cases x;cases y;simp
@[simp] theorem Output.gI(x:Output):x.e.cells=[.int .i64 x.seq,.int .i64 x.socket,.sl false (x.data.map Canon.e)]:=rfl
@[simp] theorem aby(l:List Output):df (l.map Output.e)=l.map Output.e:=jV (fun x=>by simp[Output.bP]) l
structure cN where
 clock:List Int
 random:List Int
 cO:List (List Int)
 files:bE
 cT:List Output
 deriving DecidableEq,Inhabited
def cN.e(x:cN):V:= .agg [.sl false (x.clock.map (V.int .u16)),.sl false (x.random.map (V.int .u16)),.sl false (x.cO.map aS),.sl false (x.files.data.map ba),.sl false (x.files.opens.map dT.e),.sl false (x.cT.map Output.e)]
theorem cN.bP(x:cN):x.e= .agg [.sl false (x.clock.map (V.int .u16)),.sl false (x.random.map (V.int .u16)),.sl false (x.cO.map aS),.sl false (x.files.data.map ba),.sl false (x.files.opens.map dT.e),.sl false (x.cT.map Output.e)]:=rfl
theorem cN.eq_iff(x y:cN):x=y↔x.clock=y.clock/\x.random=y.random/\x.cO=y.cO/\x.files=y.files/\x.cT=y.cT:=by cases x;cases y;simp
@[simp] theorem cN.gI(x:cN):x.e.cells=[.sl false (x.clock.map (V.int .u16)),.sl false (x.random.map (V.int .u16)),.sl false (x.cO.map aS),.sl false (x.files.data.map ba),.sl false (x.files.opens.map dT.e),.sl false (x.cT.map Output.e)]:=rfl
structure Entry where
 kind:Int
 iu:Int
 n:Int
 request:Request
 result:sX
 deriving DecidableEq,Inhabited
def Entry.e(x:Entry):V:= .agg [.int .i64 x.kind,.int .i64 x.iu,.int .i64 x.n,.int .i64 x.request.iu,.int .i64 x.request.stop,.int .i64 x.request.dd,.int .i64 x.request.count,.int .i64 x.request.pc,.int .i64 x.request.call,.sl false (x.request.args.map Canon.e),.sl false (x.request.data.map Canon.e),.int .u8 x.result.value.tag,.int .u16 x.result.value.val,.int .i64 x.result.value.region,.int .i64 x.result.value.offset,.sl false (x.result.data.map Canon.e),.int .i64 x.result.spawn,.bool x.result.wait]
theorem Entry.bP(x:Entry):x.e= .agg [.int .i64 x.kind,.int .i64 x.iu,.int .i64 x.n,.int .i64 x.request.iu,.int .i64 x.request.stop,.int .i64 x.request.dd,.int .i64 x.request.count,.int .i64 x.request.pc,.int .i64 x.request.call,.sl false (x.request.args.map Canon.e),.sl false (x.request.data.map Canon.e),.int .u8 x.result.value.tag,.int .u16 x.result.value.val,.int .i64 x.result.value.region,.int .i64 x.result.value.offset,.sl false (x.result.data.map Canon.e),.int .i64 x.result.spawn,.bool x.result.wait]:=rfl
theorem Entry.eq_iff(x y:Entry):x=y↔x.kind=y.kind/\x.iu=y.iu/\x.n=y.n/\x.request=y.request/\x.result=y.result:=by cases x;cases y;simp
@[simp] theorem Entry.gI(x:Entry):x.e.cells=[.int .i64 x.kind,.int .i64 x.iu,.int .i64 x.n,.int .i64 x.request.iu,.int .i64 x.request.stop,.int .i64 x.request.dd,.int .i64 x.request.count,.int .i64 x.request.pc,.int .i64 x.request.call,.sl false (x.request.args.map Canon.e),.sl false (x.request.data.map Canon.e),.int .u8 x.result.value.tag,.int .u16 x.result.value.val,.int .i64 x.result.value.region,.int .i64 x.result.value.offset,.sl false (x.result.data.map Canon.e),.int .i64 x.result.spawn,.bool x.result.wait]:=rfl
@[simp] theorem ae4(l:List Entry):df (l.map Entry.e)=l.map Entry.e:=jV (fun x=>by simp[Entry.bP]) l
structure Choice where
 iu:Int
 dW:Int
 zr:Bool
 deriving DecidableEq,Inhabited
def Choice.e(x:Choice):V:= .agg [.int .i64 x.iu,.int .i64 x.dW,.bool x.zr]
theorem Choice.bP(x:Choice):x.e= .agg [.int .i64 x.iu,.int .i64 x.dW,.bool x.zr]:=rfl
theorem Choice.eq_iff(x y:Choice):x=y↔x.iu=y.iu/\x.dW=y.dW/\x.zr=y.zr:=by cases x;cases y;simp
@[simp] theorem Choice.gI(x:Choice):x.e.cells=[.int .i64 x.iu,.int .i64 x.dW,.bool x.zr]:=rfl
structure rH where
 program:Prog
 machine:bf
 outside:cN
 sB:bR
 record:List Entry
 qP:List Int
 deriving DecidableEq,Inhabited
def rH.e(x:rH):V:= .agg [.sl false (x.program.code.map Instr.e),.sl false (x.program.ae.map (V.int .i64)),.sl false (x.program.data.map aS),.sl false (x.machine.layout.aD.map (V.int .i64)),.int .u16 x.machine.layout.key,.sl false (x.machine.memory.cells.map Cell.e),.sl false (x.machine.memory.lines.map cx.e),.sl false (x.machine.threads.map Thread.e),.sl false (x.outside.clock.map (V.int .u16)),.sl false (x.outside.random.map (V.int .u16)),.sl false (x.outside.cO.map aS),.sl false (x.outside.files.data.map ba),.sl false (x.outside.files.opens.map dT.e),.sl false (x.outside.cT.map Output.e),.sl false (x.sB.owner.map (V.int .i64)),.sl false (x.sB.queue.map cI),.sl false (x.record.map Entry.e),.sl false (x.qP.map (V.int .i64))]
theorem rH.bP(x:rH):x.e= .agg [.sl false (x.program.code.map Instr.e),.sl false (x.program.ae.map (V.int .i64)),.sl false (x.program.data.map aS),.sl false (x.machine.layout.aD.map (V.int .i64)),.int .u16 x.machine.layout.key,.sl false (x.machine.memory.cells.map Cell.e),.sl false (x.machine.memory.lines.map cx.e),.sl false (x.machine.threads.map Thread.e),.sl false (x.outside.clock.map (V.int .u16)),.sl false (x.outside.random.map (V.int .u16)),.sl false (x.outside.cO.map aS),.sl false (x.outside.files.data.map ba),.sl false (x.outside.files.opens.map dT.e),.sl false (x.outside.cT.map Output.e),.sl false (x.sB.owner.map (V.int .i64)),.sl false (x.sB.queue.map cI),.sl false (x.record.map Entry.e),.sl false (x.qP.map (V.int .i64))]:=rfl
theorem rH.eq_iff(x y:rH):x=y↔x.program=y.program/\x.machine=y.machine/\x.outside=y.outside/\x.sB=y.sB/\x.record=y.record/\x.qP=y.qP:=by cases x;cases y;simp
@[simp] theorem rH.gI(x:rH):x.e.cells=[.sl false (x.program.code.map Instr.e),.sl false (x.program.ae.map (V.int .i64)),.sl false (x.program.data.map aS),.sl false (x.machine.layout.aD.map (V.int .i64)),.int .u16 x.machine.layout.key,.sl false (x.machine.memory.cells.map Cell.e),.sl false (x.machine.memory.lines.map cx.e),.sl false (x.machine.threads.map Thread.e),.sl false (x.outside.clock.map (V.int .u16)),.sl false (x.outside.random.map (V.int .u16)),.sl false (x.outside.cO.map aS),.sl false (x.outside.files.data.map ba),.sl false (x.outside.files.opens.map dT.e),.sl false (x.outside.cT.map Output.e),.sl false (x.sB.owner.map (V.int .i64)),.sl false (x.sB.queue.map cI),.sl false (x.record.map Entry.e),.sl false (x.qP.map (V.int .i64))]:=rfl
instance:Coe Int V:=⟨V.int .i64⟩
instance:Coe Bool V:=⟨V.bool⟩
instance:Coe (List Int) V:=⟨fun x=> .sl false (x.map (V.int .i64))⟩
instance:Coe (List Instr) V:=⟨fun x=> .sl false (x.map Instr.e)⟩
instance:Coe (List Cell) V:=⟨fun x=> .sl false (x.map Cell.e)⟩
instance:Coe (List Thread) V:=⟨fun x=> .sl false (x.map Thread.e)⟩
instance:Coe (List Canon) V:=⟨fun x=> .sl false (x.map Canon.e)⟩
instance:Coe (List Output) V:=⟨fun x=> .sl false (x.map Output.e)⟩
instance:Coe (List View) V:=⟨fun x=> .sl false (x.map View.e)⟩
instance:Coe (List Entry) V:=⟨fun x=> .sl false (x.map Entry.e)⟩
instance:Coe (List cx) V:=⟨fun x=> .sl false (x.map cx.e)⟩
instance:Coe (List dT) V:=⟨fun x=> .sl false (x.map dT.e)⟩
instance:Coe (List (List Int)) V:=⟨fun x=> .sl false (x.map aS)⟩
instance:Coe (List (List Canon)) V:=⟨fun x=> .sl false (x.map ba)⟩
instance(a:List Instr)(b:List Int)(c:List (List Int)):CoeDep (List Instr×List Int×List (List Int)) (a,b,c) V:=⟨.agg [.sl false (a.map Instr.e),.sl false (b.map (V.int .i64)),.sl false (c.map aS)]⟩
instance(a:List Int)(b:Int)(c:List Cell)(d:List cx)(e:List Thread):CoeDep (List Int×Int×List Cell×List cx×List Thread) (a,b,c,d,e) V:=⟨.agg [.sl false (a.map (V.int .i64)),.int .u16 b,.sl false (c.map Cell.e),.sl false (d.map cx.e),.sl false (e.map Thread.e)]⟩
instance(a:List Int)(b:Int):CoeDep (List Int×Int) (a,b) V:=⟨.agg [.sl false (a.map (V.int .i64)),.int .u16 b]⟩
instance(a:List Int)(b:Int):CoeDep (Int×List Int) (b,a) V:=⟨.agg [.sl false (a.map (V.int .i64)),.int .i64 b]⟩
end Go.Abs.lu
