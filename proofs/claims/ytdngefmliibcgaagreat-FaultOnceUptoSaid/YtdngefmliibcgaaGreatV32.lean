/- part -/
import Derived.Test.YtdngefmliibcgaaGreatV30
import Derived.Test.YtdngefmliibcgaaGreatV31
import Derived.JoinedCond
import Derived.Test.YtdngefmliibcgaaGreatRows
set_option linter.all false
set_option maxRecDepth 100000
set_option maxHeartbeats 20000000
namespace Go.Proofs.YtdngefmliibcgaaGreat
open Go Go.Abs Go.ChangeShapes Go.WideShapes Go.ChangeAt Go.RowKit
variable  {H:Type}{a b:Bool}
def aj2(H:Type):acp (H:=H) Rows.uptoBulk where
 one d:=by
  cases d with
  |lit l=>cases l<;>simp[Rows.uptoBulk]
  |_=>simp[Rows.uptoBulk]
 slice els sp:=by
  have: ∀l:List (DataW H),(l.map Rows.uptoBulk).sum=Rows.uptoBulkAll l:=by
   intro l;induction l with
   |nil=>simp[Rows.uptoBulkAll]
   |cons x l ih=>simp[Rows.uptoBulkAll,ih]
  simp only[Rows.uptoBulk,this];omega
 agg ps:=by
  have: ∀l:List (DataW H),(l.map Rows.uptoBulk).sum=Rows.uptoBulkAll l:=by
   intro l;induction l with
   |nil=>simp[Rows.uptoBulkAll]
   |cons x l ih=>simp[Rows.uptoBulkAll,ih]
  simp only[Rows.uptoBulk,this];omega
 str b:=by simp[Rows.uptoBulk]
def acv(l:List (DataW H)):(l.map Rows.uptoBulk).sum=Rows.uptoBulkAll l:=by
 induction l with
 |nil=>simp[Rows.uptoBulkAll]
 |cons x l ih=>simp[Rows.uptoBulkAll,ih]
def aj3{l:List (DataW H)}(h:Rows.uptoSmall H l=true):(l.map Rows.uptoBulk).sum<=1048576:=by
 rw[acv];exact of_decide_eq_true h
def NG: ∀{es:List V},(∀e∈es,∃b:Int,e=V.int .i64 b)-> ∃l:List Int,es=l.map (V.int .i64)
 | [],_=>⟨[],rfl⟩
 |e::es,h=>by
  obtain⟨b,hb⟩:=h e (by simp);obtain⟨l,hl⟩:=NG (es:=es) fun x hx=>h x (by simp[hx]);exact⟨b::l,by rw[hb,hl];rfl⟩
def aj4(l:List Int):pM (l.map (V.int .i64))=l.length:=by
 induction l with
 |nil=>rfl
 |cons c l ih=>simp only[aaV,pM,ih,vsz,abP];omega
def apn:laidOutB Tryz.pinned.checked.prog=true:=by kernel_rfl
def a0j:mapsRowed Tryz.pinned.checked.prog=true:=by kernel_rfl
def as5:(Tryz.pinned.checked.prog.stops==[])=true:=by kernel_rfl
def as6:(Tryz.pinned.checked.prog.stopKnobs==[])=true:=by kernel_rfl
def heard:Tryz.pinned.checked.prog.stopsHeard=true:=by kernel_rfl
def as7:Tryz.pinned.checked.prog.mayEnter=true:=by kernel_rfl
def jH(h:a=true)(h':b=true):(a&&b)=true:=by rw[h,h'];rfl
def own:ownKnob Tryz.prog.godebug=none:=by kernel_rfl
end Go.Proofs.YtdngefmliibcgaaGreat
