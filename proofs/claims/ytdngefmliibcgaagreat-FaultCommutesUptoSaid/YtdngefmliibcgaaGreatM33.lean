/- FaultCommutes (second form): where what it reads is of bulk at most 1048576, the law answers true and its input reads as before. -/
import Derived.Test.YtdngefmliibcgaaGreatM13
import Derived.Test.YtdngefmliibcgaaGreatM32
set_option linter.all false
set_option maxRecDepth 100000
set_option maxHeartbeats 20000000
namespace Go.Proofs.YtdngefmliibcgaaGreat
open Go Go.Abs
namespace OP
def VP:List (Bool×List CS):=[(false,[.sl false [.int .i64]])]
def read:Tryz.f11.params.toList.all (Ta X.P)=true:=by kernel_rfl
def a3n:CC X.P Tryz.f11.params.toList=some VP:=by kernel_rfl
def a3o:aol X.P Tryz.f11 VP 4:=⟨aom,read,a3n,rfl,rfl⟩
def a3p(vs:List V)(h:FR VP vs)(hb:pQ vs<=1048576): ∃h k,cL X 11 vs kO 0=some (.bool true,h,k):=by
 simp only[VP,FR,O0,okC]at h;obtain⟨_,_,rfl,⟨_,_,rfl,⟨es,rfl,_,IZ⟩,rfl⟩,rfl⟩:=h;obtain⟨l,rfl⟩:=Na (es:=es) fun e he=>by
  obtain⟨xs,hx,_,_,rfl,⟨b,rfl,hb⟩,rfl⟩:=IZ e he;exact⟨b,hx⟩
 have e1:tC false [V.sl false (l.map (V.int .i64))]= .sl false (l.map (V.int .i64)):=rfl;rw[e1]at hb⊢;simp only[pQ]at hb;have e3:vsz (.sl false (l.map (V.int .i64)))=pQ (l.map (V.int .i64))+1:=rfl;rw[e3,ai7]at hb;exact El l (by omega) Xh
def a0:Rows.faultCommutesUptoRow.wf (OpenSpec.ofChange (Rows.OpenSpec.upto Rows.faultCommutesSpec).bare)=true:=by kernel_rfl
def a1:Tryz.f11.params.all (Tryz.pinned.checked.prog.readableRec ·)=true:=by kernel_rfl
def a2:namedTie Tryz.pinned.checked.prog Rows.faultCommutesUptoRow.named (Rows.OpenSpec.upto Rows.faultCommutesSpec).bare.vars=true:=by kernel_rfl
def a3:(Rows.faultCommutesUptoRow.stops==[])=true:=by kernel_rfl
def a4:(Rows.faultCommutesUptoRow.knobs==[])=true:=by kernel_rfl
def a5:(Rows.faultCommutesUptoRow.inPlace==Tryz.pinned.checked.prog.inPlace 11)=true:=by kernel_rfl
def a6:(Rows.faultCommutesUptoRow.unfollowed==Tryz.pinned.checked.prog.unfollowed 11)=true:=by kernel_rfl
def a7:(Rows.faultCommutesUptoRow.recurses==Tryz.pinned.checked.prog.recurses 11)=true:=by kernel_rfl
def a8:(Rows.faultCommutesUptoRow.named==Tryz.pinned.checked.prog.varsNamed 11)=true:=by kernel_rfl
def a9:(Rows.faultCommutesUptoRow.maps==(Tryz.f11.params.toList++(Rows.OpenSpec.upto Rows.faultCommutesSpec).bare.plain.varTypes Tryz.pinned.checked.prog).any (Tryz.pinned.checked.prog.mapsRec ·))=true:=by kernel_rfl
def Wc:(Rows.faultCommutesUptoRow.ifaces==(Tryz.f11.params.toList++(Rows.OpenSpec.upto Rows.faultCommutesSpec).bare.plain.varTypes Tryz.pinned.checked.prog).any (Tryz.pinned.checked.prog.ifacesRec ·))=true:=by kernel_rfl
def a11:(Rows.faultCommutesUptoRow.mapsOut==Tryz.pinned.checked.prog.mapsAmong Tryz.f11.resultTypes.toList)=true:=by kernel_rfl
def a12:(Rows.faultCommutesUptoRow.loops==(Tryz.f11.params.toList++(Rows.OpenSpec.upto Rows.faultCommutesSpec).bare.plain.varTypes Tryz.pinned.checked.prog).any (Tryz.pinned.checked.prog.loopsFrom ·))=true:=by kernel_rfl
def a13:(Rows.faultCommutesUptoRow.wideKeys==(Tryz.f11.params.toList++(Rows.OpenSpec.upto Rows.faultCommutesSpec).bare.plain.varTypes Tryz.pinned.checked.prog++Tryz.f11.resultTypes.toList).any (Tryz.pinned.checked.prog.wideKeysFrom ·))=true:=by kernel_rfl
def a14:(Rows.OpenSpec.upto Rows.faultCommutesSpec).bare.vars.all (Tryz.pinned.checked.prog.varReadable ·)=true:=by kernel_rfl
def a15:Tryz.f11.resultTypes.all (fun t=>Tryz.pinned.checked.prog.readableRec t&&decide (t<Tryz.pinned.checked.prog.types.size))=true:=by kernel_rfl
def a16:(Rows.faultCommutesUptoRow.ifacesOut==Tryz.f11.resultTypes.toList.any (Tryz.pinned.checked.prog.ifacesRec ·))=true:=by kernel_rfl
def a17:(Rows.faultCommutesUptoRow.loopsOut==Tryz.f11.resultTypes.toList.any (Tryz.pinned.checked.prog.loopsFrom ·))=true:=by kernel_rfl
def a18:(Rows.faultCommutesUptoRow.plainKeys==Tryz.pinned.checked.prog.plainKeys)=true:=by kernel_rfl
def a19:Rows.faultCommutesUptoRow.shortTexts.isNone=true:=by kernel_rfl
def a20:(Rows.faultCommutesUptoRow.lifted==Tryz.pinned.checked.prog.liftsFinal)=true:=by kernel_rfl
def a21:(Tryz.pinned.checked.prog.make==some Rows.faultCommutesUptoRow.make)=true:=by kernel_rfl
def a22:(Rows.faultCommutesUptoRow.kinds==(if Rows.faultCommutesUptoRow.domain.isEmpty then [] else Tryz.f11.params.toList.map fun t=>match Tryz.pinned.checked.prog.underlying t with|some (.int k)=>some k|_=>none))=true:=by kernel_rfl
def a23:(Rows.faultCommutesUptoRow.pinned==Rows.faultCommutesUptoRow.pinnedBy)=true:=by kernel_rfl
def a24:(Rows.faultCommutesUptoRow.veiled==(Tryz.f11.params.toList++(Rows.OpenSpec.upto Rows.faultCommutesSpec).bare.plain.varTypes Tryz.pinned.checked.prog++Tryz.f11.resultTypes.toList).any (Tryz.pinned.checked.prog.veiledRec ·))=true:=by kernel_rfl
def a25:Rows.faultCommutesUptoRow.veiledFits Tryz.pinned.checked.prog Tryz.f11.params.toList (Tryz.f11.params.toList++(Rows.OpenSpec.upto Rows.faultCommutesSpec).bare.plain.varTypes Tryz.pinned.checked.prog++Tryz.f11.resultTypes.toList)=true:=by kernel_rfl
def closed:joinedFacts Tryz.pinned.checked.prog 11 Tryz.f11 (Rows.OpenSpec.upto Rows.faultCommutesSpec).bare Rows.faultCommutesUptoRow=true:=by
 unfold joinedFacts;exact(jG (jG (jG (jG (jG (jG (jG (jG (jG (jG (jG (jG (jG (jG (jG (jG (jG (jG (jG (jG (jG (jG (jG (jG (jG (jG (jG (jG (jG (jG (jG a0 aom) ay4) a1) a2) a3) ar2) a4) ar3) a5) a6) a7) a8) a9) Wc) a11) a12) a13) a14) a15) a16) a17) a18) a19) heard) ar4) a20) a21) a22) a23) a24) a25)
def isI:Tryz.f11.isInstance Tryz.pinned.checked.prog Rows.faultCommutesUptoRow.origin Rows.faultCommutesUptoRow.targs:=of_decide_eq_true (by kernel_rfl)
def isW:Tryz.f11.isWrapper Tryz.pinned.checked.prog Rows.faultCommutesUptoRow.wrapper Rows.faultCommutesUptoRow.mainSum:=by
 unfold Func.isWrapper;first|(rw[if_pos (by decide+kernel)];kernel_rfl)|(rw[if_neg (by decide+kernel)];exact⟨rfl,rfl⟩)
def a3q:Tryz.pinned.checked.prog.funcNamed Rows.faultCommutesUptoRow.func=some 11:=by kernel_rfl
def lifted(os:Os)(started:os.Started)(H:Type)(enc:TypeId×Value->H)(F:Stop.Interp):
  ReturnsInHanded {} Tryz.checked os 11 .any ((Rows.OpenSpec.upto Rows.faultCommutesSpec).pre6 enc Tryz.prog Tryz.f11 Rows.faultCommutesUptoRow.domain false) (((Rows.OpenSpec.upto Rows.faultCommutesSpec).at F).post enc Tryz.prog Tryz.f11 false true false false):=by
 refine returnsInHanded_of_cond (C:=Tryz.checked) (s:=(Rows.OpenSpec.upto Rows.faultCommutesSpec)) (k:=Rows.uptoSmall) rfl own started (by kernel_rfl) Tryz.func11
  (OpenSpec.witness (enc:=enc) (C:=Tryz.checked) (s:=(Rows.OpenSpec.upto Rows.faultCommutesSpec)) (k:=Rows.uptoSmall) rfl false ⟨#[],#[.slice none 0 0],[]⟩ 8 (by kernel_rfl) (by kernel_rfl) (by kernel_rfl)
   (x:=([.nil],[],[])) (by kernel_rfl) rfl (by kernel_rfl)) ?_
 intro W base args ds gs before PJ hW _ hk _;have hgs:gs=[]:=by
  obtain⟨p,q,_,hV,_⟩:=hW;cases gs with
  |nil=>rfl
  |cons _ _=>simp[DataW.TrodVars,Rows.faultCommutesSpec,Rows.OpenSpec.upto,OpenSpec.ofChange]at hV
 subst hgs;rw[acU]at hk;exact abo Kw a3o (s:=Rows.faultCommutesSpec) rfl (fun H ds hl=>by
  match ds,hl with
  | [a],_=>rfl) H Rows.uptoBulk (ai5 H) enc W base args ds [] before PJ hW (fun _ _ h=>by cases h) (fun vs ha hb=>a3p vs ha (abG hb (ai6 hk)))
def rW:Rows.faultCommutesUptoRow.holds Tryz.pinned (Rows.OpenSpec.upto Rows.faultCommutesSpec):=
 OpenClaim.holds_of_cond 11 Tryz.f11 rfl rfl rfl rfl rfl rfl rfl ⟨rfl,rfl,rfl,rfl,rfl⟩ rfl rfl rfl rfl rfl a3q Tryz.func11 closed isI isW
  (fun os started H enc _ F=>lifted os started H enc F)
end OP
theorem ahh:Rows.FaultCommutesUptoSaid:=OP.rW
end Go.Proofs.YtdngefmliibcgaaGreat
