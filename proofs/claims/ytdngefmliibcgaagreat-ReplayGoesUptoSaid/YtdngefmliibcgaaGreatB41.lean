/- ReplayGoes, second form: carrying out entries one by one is following, for input of bulk at most 1048576. -/
import Derived.Test.YtdngefmliibcgaaGreatB27
import Derived.Test.YtdngefmliibcgaaGreatB37
set_option linter.all false
set_option maxRecDepth 100000
set_option maxHeartbeats 0
namespace Go.Proofs.YtdngefmliibcgaaGreat
open Go Go.Abs
namespace Pm
def wN:List (Bool×List CS):=[(false,[.sl false [.int .i64]])]
def read:Tryz.f3.params.toList.all (Hv X.P)=true:=az
def Ja:yv X.P Tryz.f3.params.toList=some wN:=az
def Jb:OO X.P Tryz.f3 wN 4:=⟨EL,read,Ja,rfl,rfl⟩
def Jc(vs:List V)(h:vn wN vs)(f:nK vs<=1048576): ∃h k,df X 3 vs kC 0=some (.bool true,h,k):=by
 simp only[wN,vn,L1,uY]at h;obtain⟨_,_,rfl,⟨_,_,rfl,⟨es,rfl,_,E⟩,rfl⟩,rfl⟩:=h;obtain⟨l,rfl⟩:=zU (es:=es) fun e C=>by
  exact kc
 have i:oO false [V.sl false (l.map (V.int .i64))]= .sl false (l.map (V.int .i64)):=rfl;rw[i]at f⊢;simp only[nK]at f;have x:Ur (.sl false (l.map (V.int .i64)))=nK (l.map (V.int .i64))+1:=rfl;rw[x,F8]at f;exact M9 l ab
def a0:Rows.replayGoesUptoRow.wf (OpenSpec.ofChange (Rows.OpenSpec.upto Rows.replayGoesSpec).bare)=true:=az
def a1:Tryz.f3.params.all (Tryz.pinned.checked.prog.readableRec ·)=true:=az
def a2:namedTie Tryz.pinned.checked.prog Rows.replayGoesUptoRow.named (Rows.OpenSpec.upto Rows.replayGoesSpec).bare.vars=true:=az
def a3:(Rows.replayGoesUptoRow.stops==[])=true:=az
def a4:(Rows.replayGoesUptoRow.knobs==[])=true:=az
def a5:(Rows.replayGoesUptoRow.inPlace==Tryz.pinned.checked.prog.inPlace 3)=true:=az
def a6:(Rows.replayGoesUptoRow.unfollowed==Tryz.pinned.checked.prog.unfollowed 3)=true:=az
def a7:(Rows.replayGoesUptoRow.recurses==Tryz.pinned.checked.prog.recurses 3)=true:=az
def a8:(Rows.replayGoesUptoRow.named==Tryz.pinned.checked.prog.varsNamed 3)=true:=az
def a9:(Rows.replayGoesUptoRow.maps==(Tryz.f3.params.toList++(Rows.OpenSpec.upto Rows.replayGoesSpec).bare.plain.varTypes Tryz.pinned.checked.prog).any (Tryz.pinned.checked.prog.mapsRec ·))=true:=az
def SY:(Rows.replayGoesUptoRow.ifaces==(Tryz.f3.params.toList++(Rows.OpenSpec.upto Rows.replayGoesSpec).bare.plain.varTypes Tryz.pinned.checked.prog).any (Tryz.pinned.checked.prog.ifacesRec ·))=true:=az
def s5:(Rows.replayGoesUptoRow.mapsOut==Tryz.pinned.checked.prog.mapsAmong Tryz.f3.resultTypes.toList)=true:=az
def s2:(Rows.replayGoesUptoRow.loops==(Tryz.f3.params.toList++(Rows.OpenSpec.upto Rows.replayGoesSpec).bare.plain.varTypes Tryz.pinned.checked.prog).any (Tryz.pinned.checked.prog.loopsFrom ·))=true:=az
def sS:(Rows.replayGoesUptoRow.wideKeys==(Tryz.f3.params.toList++(Rows.OpenSpec.upto Rows.replayGoesSpec).bare.plain.varTypes Tryz.pinned.checked.prog++Tryz.f3.resultTypes.toList).any (Tryz.pinned.checked.prog.wideKeysFrom ·))=true:=az
def sJ:(Rows.OpenSpec.upto Rows.replayGoesSpec).bare.vars.all (Tryz.pinned.checked.prog.varReadable ·)=true:=az
def te:Tryz.f3.resultTypes.all (fun t=>Tryz.pinned.checked.prog.readableRec t&&decide (t<Tryz.pinned.checked.prog.types.size))=true:=az
def td:(Rows.replayGoesUptoRow.ifacesOut==Tryz.f3.resultTypes.toList.any (Tryz.pinned.checked.prog.ifacesRec ·))=true:=az
def tc:(Rows.replayGoesUptoRow.loopsOut==Tryz.f3.resultTypes.toList.any (Tryz.pinned.checked.prog.loopsFrom ·))=true:=az
def AB:(Rows.replayGoesUptoRow.plainKeys==Tryz.pinned.checked.prog.plainKeys)=true:=az
def AA:Rows.replayGoesUptoRow.shortTexts.isNone=true:=az
def Am:(Rows.replayGoesUptoRow.lifted==Tryz.pinned.checked.prog.liftsFinal)=true:=az
def Al:(Tryz.pinned.checked.prog.make==some Rows.replayGoesUptoRow.make)=true:=az
def Ab:(Rows.replayGoesUptoRow.kinds==(if Rows.replayGoesUptoRow.domain.isEmpty then [] else Tryz.f3.params.toList.map fun t=>match Tryz.pinned.checked.prog.underlying t with|some (.int k)=>some k|_=>none))=true:=az
def Aa:(Rows.replayGoesUptoRow.pinned==Rows.replayGoesUptoRow.pinnedBy)=true:=az
def z':(Rows.replayGoesUptoRow.veiled==(Tryz.f3.params.toList++(Rows.OpenSpec.upto Rows.replayGoesSpec).bare.plain.varTypes Tryz.pinned.checked.prog++Tryz.f3.resultTypes.toList).any (Tryz.pinned.checked.prog.veiledRec ·))=true:=az
def z9:Rows.replayGoesUptoRow.veiledFits Tryz.pinned.checked.prog Tryz.f3.params.toList (Tryz.f3.params.toList++(Rows.OpenSpec.upto Rows.replayGoesSpec).bare.plain.varTypes Tryz.pinned.checked.prog++Tryz.f3.resultTypes.toList)=true:=az
def closed:joinedFacts Tryz.pinned.checked.prog 3 Tryz.f3 (Rows.OpenSpec.upto Rows.replayGoesSpec).bare Rows.replayGoesUptoRow=true:=by
 exact i_
def wV:Tryz.f3.isInstance Tryz.pinned.checked.prog Rows.replayGoesUptoRow.origin Rows.replayGoesUptoRow.targs:=of_decide_eq_true az
def wR:Tryz.f3.isWrapper Tryz.pinned.checked.prog Rows.replayGoesUptoRow.wrapper Rows.replayGoesUptoRow.mainSum:=by
 exact j5
def Jd:Tryz.pinned.checked.prog.funcNamed Rows.replayGoesUptoRow.func=some 3:=az
def lifted(os:Os)(t:os.Started)(H:Type)(enc:TypeId×Value->H)(F:Stop.Interp):
  ReturnsInHanded {} Tryz.checked os 3 .any ((Rows.OpenSpec.upto Rows.replayGoesSpec).pre6 enc Tryz.prog Tryz.f3 Rows.replayGoesUptoRow.domain false) (((Rows.OpenSpec.upto Rows.replayGoesSpec).at F).post enc Tryz.prog Tryz.f3 false true false false):=by
 refine returnsInHanded_of_cond (C:=Tryz.checked) (s:=(Rows.OpenSpec.upto Rows.replayGoesSpec)) (k:=Rows.uptoSmall) rfl own t az Tryz.func3
  (OpenSpec.witness (enc:=enc) (C:=Tryz.checked) (s:=(Rows.OpenSpec.upto Rows.replayGoesSpec)) (k:=Rows.uptoSmall) rfl false ⟨#[],#[.slice none 0 0],[]⟩ 8 az az az
   (x:=([.nil],[],[])) az rfl az) ?_
 intro W base args d g b D u _ y _;have P:g=[]:=by
  obtain⟨p,q,_,V,_⟩:=u;cases g with
  |nil=>rfl
  |cons _ _=>simp[DataW.TrodVars,Rows.replayGoesSpec,Rows.OpenSpec.upto,OpenSpec.ofChange]at V
 subst P;rw[u_]at y;exact CZ B2 Jb (s:=Rows.replayGoesSpec) rfl (fun H d l=>by
  match d,l with
  | [a],_=>rfl) H Rows.uptoBulk (F6 H) enc W base args d [] b D u (fun _ _ h=>bF) (fun vs X e=>Jc vs X (r4 e (F7 y)))
def qF:Rows.replayGoesUptoRow.holds Tryz.pinned (Rows.OpenSpec.upto Rows.replayGoesSpec):=
 OpenClaim.holds_of_cond 3 Tryz.f3 rfl rfl rfl rfl rfl rfl rfl ⟨rfl,rfl,rfl,rfl,rfl⟩ rfl rfl rfl rfl rfl Jd Tryz.func3 closed wV wR
  (fun os s H e _ F=>lifted os s H e F)
end Pm
theorem axg:Rows.ReplayGoesUptoSaid:=Pm.qF
end Go.Proofs.YtdngefmliibcgaaGreat
