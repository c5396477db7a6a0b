import Derived.Test.YtdngefmliibcgaaGreatB35
import Derived.Test.YtdngefmliibcgaaGreatB36
import Derived.JoinedCond
import Derived.Test.YtdngefmliibcgaaGreatRows
set_option linter.all false
set_option maxRecDepth 100000
set_option maxHeartbeats 0
namespace Go.Proofs.YtdngefmliibcgaaGreat
open Go Go.Abs Go.ChangeShapes Go.WideShapes Go.ChangeAt Go.RowKit
section
variable{p:Prop}
def az(h:p:=by kernel_rfl):=h
def j5(h:p:=by unfold Func.isWrapper;first|(rw[if_pos aF];kernel_rfl)|(rw[if_neg aF];exact⟨rfl,rfl⟩)):=h
end
variable  {H:Type}{a b:Bool}
def F6(H:Type):yn (H:=H) Rows.uptoBulk where
 one d:=by
  cases d with
  |lit l=>cases l<;>simp[Rows.uptoBulk]
  |_=>simp[Rows.uptoBulk]
 slice els sp:=by
  have: ∀l:List (DataW H),(l.map Rows.uptoBulk).sum=Rows.uptoBulkAll l:=by
   intro l;induction l with
   |nil=>simp[Rows.uptoBulkAll]
   |cons x l ih=>simp[Rows.uptoBulkAll,ih]
  simp only[Rows.uptoBulk,this];omega
 agg ps:=by
  have: ∀l:List (DataW H),(l.map Rows.uptoBulk).sum=Rows.uptoBulkAll l:=by
   intro l;induction l with
   |nil=>simp[Rows.uptoBulkAll]
   |cons x l ih=>simp[Rows.uptoBulkAll,ih]
  simp only[Rows.uptoBulk,this];omega
 str b:=by simp[Rows.uptoBulk]
def aek(l:List (DataW H)):(l.map Rows.uptoBulk).sum=Rows.uptoBulkAll l:=by
 induction l with
 |nil=>simp[Rows.uptoBulkAll]
 |cons x l i=>simp[Rows.uptoBulkAll,i]
def F7{l:List (DataW H)}(h:Rows.uptoSmall H l=true):(l.map Rows.uptoBulk).sum<=1048576:=by
 rw[aek];exact of_decide_eq_true h
def zU: ∀{es:List V},(∀e∈es,∃b:Int,e=V.int .i64 b)-> ∃l:List Int,es=l.map (V.int .i64)
 | [],_=>⟨[],rfl⟩
 |e::es,h=>by
  obtain⟨b,f⟩:=h e ai;obtain⟨l,G⟩:=zU (es:=es) fun x hx=>h x (by simp[hx]);exact⟨b::l,by rw[f,G];rfl⟩
def F8(l:List Int):nK (l.map (V.int .i64))=l.length:=by
 induction l with
 |nil=>rfl
 |cons c l i=>simp only[r2,nK,i,Ur,s9];omega
def EL:laidOutB Tryz.pinned.checked.prog=true:=az
def Uv:mapsRowed Tryz.pinned.checked.prog=true:=az
def L3:(Tryz.pinned.checked.prog.stops==[])=true:=az
def L4:(Tryz.pinned.checked.prog.stopKnobs==[])=true:=az
def heard:Tryz.pinned.checked.prog.stopsHeard=true:=az
def L5:Tryz.pinned.checked.prog.mayEnter=true:=az
def cY(h:a=true)(h':b=true):(a&&b)=true:=by rw[h,h'];rfl
def own:ownKnob Tryz.prog.godebug=none:=az
end Go.Proofs.YtdngefmliibcgaaGreat
