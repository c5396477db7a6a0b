/- ReplayParts, second form: a record is followed in two parts as in one, for input of bulk at most 1048576. -/
import Derived.Test.YtdngefmliibcgaaGreatB26
import Derived.Test.YtdngefmliibcgaaGreatB37
set_option linter.all false
set_option maxRecDepth 100000
set_option maxHeartbeats 0
namespace Go.Proofs.YtdngefmliibcgaaGreat
open Go Go.Abs
namespace parts
def wN:List (Bool×List CS):=[(false,[.sl false [.int .i64]]),(false,[.int .i64])]
def read:Tryz.f8.params.toList.all (Hv X.P)=true:=az
def Ja:yv X.P Tryz.f8.params.toList=some wN:=az
def Jb:OO X.P Tryz.f8 wN 4:=⟨EL,read,Ja,rfl,rfl⟩
def Jc(vs:List V)(h:vn wN vs)(f:nK vs<=1048576): ∃h k,df X 8 vs kC 0=some (.bool true,h,k):=by
 simp only[wN,vn,L1,uY]at h;obtain⟨_,_,rfl,⟨_,_,rfl,⟨es,rfl,_,E⟩,rfl⟩,_,_,rfl,⟨_,_,rfl,⟨n,rfl,W⟩,rfl⟩,rfl⟩:=h;obtain⟨l,rfl⟩:=zU (es:=es) fun e C=>by
  exact kc
 have i:oO false [V.sl false (l.map (V.int .i64))]= .sl false (l.map (V.int .i64)):=rfl;have p: ∀n,oO false [V.int .i64 n]= .int .i64 n:=fun _=>rfl;rw[i,p]at f⊢;simp only[nK]at f;have x:Ur (.sl false (l.map (V.int .i64)))=nK (l.map (V.int .i64))+1:=rfl;rw[x,F8]at f;exact Kb l n ab
def a0:Rows.replayPartsUptoRow.wf (OpenSpec.ofChange (Rows.OpenSpec.upto Rows.replayPartsSpec).bare)=true:=az
def a1:Tryz.f8.params.all (Tryz.pinned.checked.prog.readableRec ·)=true:=az
def a2:namedTie Tryz.pinned.checked.prog Rows.replayPartsUptoRow.named (Rows.OpenSpec.upto Rows.replayPartsSpec).bare.vars=true:=az
def a3:(Rows.replayPartsUptoRow.stops==[])=true:=az
def a4:(Rows.replayPartsUptoRow.knobs==[])=true:=az
def a5:(Rows.replayPartsUptoRow.inPlace==Tryz.pinned.checked.prog.inPlace 8)=true:=az
def a6:(Rows.replayPartsUptoRow.unfollowed==Tryz.pinned.checked.prog.unfollowed 8)=true:=az
def a7:(Rows.replayPartsUptoRow.recurses==Tryz.pinned.checked.prog.recurses 8)=true:=az
def a8:(Rows.replayPartsUptoRow.named==Tryz.pinned.checked.prog.varsNamed 8)=true:=az
def a9:(Rows.replayPartsUptoRow.maps==(Tryz.f8.params.toList++(Rows.OpenSpec.upto Rows.replayPartsSpec).bare.plain.varTypes Tryz.pinned.checked.prog).any (Tryz.pinned.checked.prog.mapsRec ·))=true:=az
def SY:(Rows.replayPartsUptoRow.ifaces==(Tryz.f8.params.toList++(Rows.OpenSpec.upto Rows.replayPartsSpec).bare.plain.varTypes Tryz.pinned.checked.prog).any (Tryz.pinned.checked.prog.ifacesRec ·))=true:=az
def s5:(Rows.replayPartsUptoRow.mapsOut==Tryz.pinned.checked.prog.mapsAmong Tryz.f8.resultTypes.toList)=true:=az
def s2:(Rows.replayPartsUptoRow.loops==(Tryz.f8.params.toList++(Rows.OpenSpec.upto Rows.replayPartsSpec).bare.plain.varTypes Tryz.pinned.checked.prog).any (Tryz.pinned.checked.prog.loopsFrom ·))=true:=az
def sS:(Rows.replayPartsUptoRow.wideKeys==(Tryz.f8.params.toList++(Rows.OpenSpec.upto Rows.replayPartsSpec).bare.plain.varTypes Tryz.pinned.checked.prog++Tryz.f8.resultTypes.toList).any (Tryz.pinned.checked.prog.wideKeysFrom ·))=true:=az
def sJ:(Rows.OpenSpec.upto Rows.replayPartsSpec).bare.vars.all (Tryz.pinned.checked.prog.varReadable ·)=true:=az
def te:Tryz.f8.resultTypes.all (fun t=>Tryz.pinned.checked.prog.readableRec t&&decide (t<Tryz.pinned.checked.prog.types.size))=true:=az
def td:(Rows.replayPartsUptoRow.ifacesOut==Tryz.f8.resultTypes.toList.any (Tryz.pinned.checked.prog.ifacesRec ·))=true:=az
def tc:(Rows.replayPartsUptoRow.loopsOut==Tryz.f8.resultTypes.toList.any (Tryz.pinned.checked.prog.loopsFrom ·))=true:=az
def AB:(Rows.replayPartsUptoRow.plainKeys==Tryz.pinned.checked.prog.plainKeys)=true:=az
def AA:Rows.replayPartsUptoRow.shortTexts.isNone=true:=az
def Am:(Rows.replayPartsUptoRow.lifted==Tryz.pinned.checked.prog.liftsFinal)=true:=az
def Al:(Tryz.pinned.checked.prog.make==some Rows.replayPartsUptoRow.make)=true:=az
def Ab:(Rows.replayPartsUptoRow.kinds==(if Rows.replayPartsUptoRow.domain.isEmpty then [] else Tryz.f8.params.toList.map fun t=>match Tryz.pinned.checked.prog.underlying t with|some (.int k)=>some k|_=>none))=true:=az
def Aa:(Rows.replayPartsUptoRow.pinned==Rows.replayPartsUptoRow.pinnedBy)=true:=az
def z':(Rows.replayPartsUptoRow.veiled==(Tryz.f8.params.toList++(Rows.OpenSpec.upto Rows.replayPartsSpec).bare.plain.varTypes Tryz.pinned.checked.prog++Tryz.f8.resultTypes.toList).any (Tryz.pinned.checked.prog.veiledRec ·))=true:=az
def z9:Rows.replayPartsUptoRow.veiledFits Tryz.pinned.checked.prog Tryz.f8.params.toList (Tryz.f8.params.toList++(Rows.OpenSpec.upto Rows.replayPartsSpec).bare.plain.varTypes Tryz.pinned.checked.prog++Tryz.f8.resultTypes.toList)=true:=az
def closed:joinedFacts Tryz.pinned.checked.prog 8 Tryz.f8 (Rows.OpenSpec.upto Rows.replayPartsSpec).bare Rows.replayPartsUptoRow=true:=by
 exact i_
def wV:Tryz.f8.isInstance Tryz.pinned.checked.prog Rows.replayPartsUptoRow.origin Rows.replayPartsUptoRow.targs:=of_decide_eq_true az
def wR:Tryz.f8.isWrapper Tryz.pinned.checked.prog Rows.replayPartsUptoRow.wrapper Rows.replayPartsUptoRow.mainSum:=by
 exact j5
def Jd:Tryz.pinned.checked.prog.funcNamed Rows.replayPartsUptoRow.func=some 8:=az
def lifted(os:Os)(t:os.Started)(H:Type)(enc:TypeId×Value->H)(F:Stop.Interp):
  ReturnsInHanded {} Tryz.checked os 8 .any ((Rows.OpenSpec.upto Rows.replayPartsSpec).pre6 enc Tryz.prog Tryz.f8 Rows.replayPartsUptoRow.domain false) (((Rows.OpenSpec.upto Rows.replayPartsSpec).at F).post enc Tryz.prog Tryz.f8 false true false false):=by
 refine returnsInHanded_of_cond (C:=Tryz.checked) (s:=(Rows.OpenSpec.upto Rows.replayPartsSpec)) (k:=Rows.uptoSmall) rfl own t az Tryz.func8
  (OpenSpec.witness (enc:=enc) (C:=Tryz.checked) (s:=(Rows.OpenSpec.upto Rows.replayPartsSpec)) (k:=Rows.uptoSmall) rfl false ⟨#[],#[.slice none 0 0,.int .i64 0],[]⟩ 8 az az az
   (x:=([.nil,.lit (.int .i64 0)],[],[])) az rfl az) ?_
 intro W base args d g e D u _ y _;have P:g=[]:=by
  obtain⟨p,q,_,V,_⟩:=u;cases g with
  |nil=>rfl
  |cons _ _=>simp[DataW.TrodVars,Rows.replayPartsSpec,Rows.OpenSpec.upto,OpenSpec.ofChange]at V
 subst P;rw[u_]at y;exact CZ B2 Jb (s:=Rows.replayPartsSpec) rfl (fun H d l=>by
  match d,l with
  | [a,b],_=>rfl) H Rows.uptoBulk (F6 H) enc W base args d [] e D u (fun _ _ h=>bF) (fun vs X f=>Jc vs X (r4 f (F7 y)))
def qF:Rows.replayPartsUptoRow.holds Tryz.pinned (Rows.OpenSpec.upto Rows.replayPartsSpec):=
 OpenClaim.holds_of_cond 8 Tryz.f8 rfl rfl rfl rfl rfl rfl rfl ⟨rfl,rfl,rfl,rfl,rfl⟩ rfl rfl rfl rfl rfl Jd Tryz.func8 closed wV wR
  (fun os s H e _ F=>lifted os s H e F)
end parts
theorem asl:Rows.ReplayPartsUptoSaid:=parts.qF
end Go.Proofs.YtdngefmliibcgaaGreat
