/- Part of a proof: Z0. -/
import Derived.Test.YtdngefmliibcgaaGreatM32
import Derived.Test.YtdngefmliibcgaaGreatM34
import Derived.JoinedCond
import Derived.OpenShut
import Derived.ProofKit
import Derived.Test.YtdngefmliibcgaaGreatRows
import Derived.WalkKit
set_option linter.all false
set_option maxRecDepth 100000
set_option maxHeartbeats 20000000
namespace Go.Proofs.YtdngefmliibcgaaGreat
open Go Go.Abs Go.ChangeShapes Go.WideShapes Go.ChangeAt Go.RowKit
theorem QI(H:Type):NN (H:=H) Rows.uptoBulk where
 one d:=by
  cases d with
  |lit l=>cases l<;>simp[Rows.uptoBulk]
  |_=>simp[Rows.uptoBulk]
 slice NO sp:=by
  have: ∀l:List (DataW H),(l.map Rows.uptoBulk).sum=Rows.uptoBulkAll l:=by
   intro l;induction l with
   |nil=>simp[Rows.uptoBulkAll]
   |cons x l ih=>simp[Rows.uptoBulkAll,ih]
  simp only[Rows.uptoBulk,this];omega
 agg ps:=by
  have: ∀l:List (DataW H),(l.map Rows.uptoBulk).sum=Rows.uptoBulkAll l:=by
   intro l;induction l with
   |nil=>simp[Rows.uptoBulkAll]
   |cons x l ih=>simp[Rows.uptoBulkAll,ih]
  simp only[Rows.uptoBulk,this];omega
 str b:=by simp[Rows.uptoBulk]
theorem NS{H:Type}(l:List (DataW H)):(l.map Rows.uptoBulk).sum=Rows.uptoBulkAll l:=by
 induction l with
 |nil=>simp[Rows.uptoBulkAll]
 |cons x l ih=>simp[Rows.uptoBulkAll,ih]
theorem QJ{H:Type}{l:List (DataW H)}(h:Rows.uptoSmall H l=true):(l.map Rows.uptoBulk).sum≤1048576:=by
 rw[NS];exact of_decide_eq_true h
theorem Dm: ∀{es:List V},(∀e∈es,∃b:Int,e=V.int .i64 b)→ ∃l:List Int,es=l.map (V.int .i64)
 | [],_=>⟨[],rfl⟩
 |e::es,h=>by
  obtain⟨b,hb⟩:=h e (by simp);obtain⟨l,hl⟩:=Dm (es:=es) fun x hx=>h x (by simp[hx]);exact⟨b::l,by rw[hb,hl];rfl⟩
theorem QK(l:List Int):kj (l.map (V.int .i64))=l.length:=by
 induction l with
 |nil=>rfl
 |cons c l ih=>simp only[List.map_cons,kj,ih,NM,List.length_cons];omega
theorem Tm:laidOutB Tryz.pinned.checked.prog=true:=by kernel_rfl
theorem Zh:mapsRowed Tryz.pinned.checked.prog=true:=by kernel_rfl
theorem Vn:(Tryz.pinned.checked.prog.stops==[])=true:=by kernel_rfl
theorem Vo:(Tryz.pinned.checked.prog.stopKnobs==[])=true:=by kernel_rfl
theorem heard:Tryz.pinned.checked.prog.stopsHeard=true:=by kernel_rfl
theorem Vp:Tryz.pinned.checked.prog.mayEnter=true:=by kernel_rfl
theorem dS{a b:Bool}(h:a=true)(h':b=true):(a&&b)=true:=by rw[h,h'];rfl
theorem own:ownKnob Tryz.prog.godebug=none:=by kernel_rfl
end Go.Proofs.YtdngefmliibcgaaGreat
