/- Part of a proof: Z0. -/
import Derived.Test.YtejohpnpnaljdaaGreatM10
import Derived.Test.YtejohpnpnaljdaaGreatM12
import Derived.JoinedCond
import Derived.OpenShut
import Derived.ProofKit
import Derived.Test.YtejohpnpnaljdaaGreatRows
import Derived.WalkKit
set_option linter.all false
set_option maxRecDepth 100000
set_option maxHeartbeats 20000000
namespace Go.Proofs.YtejohpnpnaljdaaGreat
open Go Go.Abs Go.ChangeShapes Go.WideShapes Go.ChangeAt Go.RowKit
theorem cX8(H:Type):Uq (H:=H) Rows.uptoBulk where
 one d:=by
  cases d with
  |lit l=>cases l<;>simp[Rows.uptoBulk]
  |_=>simp[Rows.uptoBulk]
 slice Ur sp:=by
  have: ∀l:List (DataW H),(l.map Rows.uptoBulk).sum=Rows.uptoBulkAll l:=by
   intro l;induction l with
   |nil=>simp[Rows.uptoBulkAll]
   |cons x l ih=>simp[Rows.uptoBulkAll,ih]
  simp only[Rows.uptoBulk,this];omega
 agg ps:=by
  have: ∀l:List (DataW H),(l.map Rows.uptoBulk).sum=Rows.uptoBulkAll l:=by
   intro l;induction l with
   |nil=>simp[Rows.uptoBulkAll]
   |cons x l ih=>simp[Rows.uptoBulkAll,ih]
  simp only[Rows.uptoBulk,this];omega
 str b:=by simp[Rows.uptoBulk]
theorem Uw{H:Type}(l:List (DataW H)):(l.map Rows.uptoBulk).sum=Rows.uptoBulkAll l:=by
 induction l with
 |nil=>simp[Rows.uptoBulkAll]
 |cons x l ih=>simp[Rows.uptoBulkAll,ih]
theorem cX9{H:Type}{l:List (DataW H)}(h:Rows.uptoSmall H l=true):(l.map Rows.uptoBulk).sum<=1048576:=by
 rw[Uw];exact of_decide_eq_true h
theorem Ik: ∀{es:List V},(∀e∈es,∃b:Int,e=V.int .i64 b)-> ∃l:List Int,es=l.map (V.int .i64)
 | [],_=>⟨[],rfl⟩
 |e::es,h=>by
  obtain⟨b,hb⟩:=h e (by simp);obtain⟨l,hl⟩:=Ik (es:=es) fun x hx=>h x (by simp[hx]);exact⟨b::l,by rw[hb,hl];rfl⟩
theorem Ya(l:List Int):mT (l.map (V.int .i64))=l.length:=by
 induction l with
 |nil=>rfl
 |cons c l ih=>simp only[List.map_cons,mT,ih,Up,List.length_cons];omega
theorem abw:laidOutB Tryz.pinned.checked.prog=true:=by kernel_rfl
theorem al0:mapsRowed Tryz.pinned.checked.prog=true:=by kernel_rfl
theorem aez:(Tryz.pinned.checked.prog.stops==[])=true:=by kernel_rfl
theorem ae0:(Tryz.pinned.checked.prog.stopKnobs==[])=true:=by kernel_rfl
theorem heard:Tryz.pinned.checked.prog.stopsHeard=true:=by kernel_rfl
theorem ae1:Tryz.pinned.checked.prog.mayEnter=true:=by kernel_rfl
theorem gW{a b:Bool}(h:a=true)(h':b=true):(a&&b)=true:=by rw[h,h'];rfl
theorem own:ownKnob Tryz.prog.godebug=none:=by kernel_rfl
end Go.Proofs.YtejohpnpnaljdaaGreat
