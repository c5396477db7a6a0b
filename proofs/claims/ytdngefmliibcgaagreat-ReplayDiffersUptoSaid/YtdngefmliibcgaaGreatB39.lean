/- ReplayDiffers, second form: a record with another request is not followed beyond it, for input of bulk at most 1048576. -/
import Derived.Test.YtdngefmliibcgaaGreatB27
import Derived.Test.YtdngefmliibcgaaGreatB37
set_option linter.all false
set_option maxRecDepth 100000
set_option maxHeartbeats 0
namespace Go.Proofs.YtdngefmliibcgaaGreat
open Go Go.Abs
namespace Vs
def wN:List (Bool×List CS):=[(false,[.sl false [.int .i64]]),(false,[.int .i64]),(false,[.int .i64])]
def read:Tryz.f7.params.toList.all (Hv X.P)=true:=az
def Ja:yv X.P Tryz.f7.params.toList=some wN:=az
def Jb:OO X.P Tryz.f7 wN 4:=⟨EL,read,Ja,rfl,rfl⟩
def Jc(vs:List V)(h:vn wN vs)(f:nK vs<=1048576): ∃h k,df X 7 vs kC 0=some (.bool true,h,k):=by
 simp only[wN,vn,L1,uY]at h;obtain⟨_,_,rfl,⟨_,_,rfl,⟨es,rfl,_,E⟩,rfl⟩,_,_,rfl,⟨_,_,rfl,⟨n,rfl,W⟩,rfl⟩,_,_,rfl,⟨_,_,rfl,⟨k,rfl,y⟩,rfl⟩,rfl⟩:=h;obtain⟨l,rfl⟩:=zU (es:=es) fun e C=>by
  exact kc
 have i:oO false [V.sl false (l.map (V.int .i64))]= .sl false (l.map (V.int .i64)):=rfl;have p: ∀n,oO false [V.int .i64 n]= .int .i64 n:=fun _=>rfl;rw[i,p,p]at f⊢;simp only[nK]at f;have x:Ur (.sl false (l.map (V.int .i64)))=nK (l.map (V.int .i64))+1:=rfl;rw[x,F8]at f;exact FV l n k ab
def a0:Rows.replayDiffersUptoRow.wf (OpenSpec.ofChange (Rows.OpenSpec.upto Rows.replayDiffersSpec).bare)=true:=az
def a1:Tryz.f7.params.all (Tryz.pinned.checked.prog.readableRec ·)=true:=az
def a2:namedTie Tryz.pinned.checked.prog Rows.replayDiffersUptoRow.named (Rows.OpenSpec.upto Rows.replayDiffersSpec).bare.vars=true:=az
def a3:(Rows.replayDiffersUptoRow.stops==[])=true:=az
def a4:(Rows.replayDiffersUptoRow.knobs==[])=true:=az
def a5:(Rows.replayDiffersUptoRow.inPlace==Tryz.pinned.checked.prog.inPlace 7)=true:=az
def a6:(Rows.replayDiffersUptoRow.unfollowed==Tryz.pinned.checked.prog.unfollowed 7)=true:=az
def a7:(Rows.replayDiffersUptoRow.recurses==Tryz.pinned.checked.prog.recurses 7)=true:=az
def a8:(Rows.replayDiffersUptoRow.named==Tryz.pinned.checked.prog.varsNamed 7)=true:=az
def a9:(Rows.replayDiffersUptoRow.maps==(Tryz.f7.params.toList++(Rows.OpenSpec.upto Rows.replayDiffersSpec).bare.plain.varTypes Tryz.pinned.checked.prog).any (Tryz.pinned.checked.prog.mapsRec ·))=true:=az
def SY:(Rows.replayDiffersUptoRow.ifaces==(Tryz.f7.params.toList++(Rows.OpenSpec.upto Rows.replayDiffersSpec).bare.plain.varTypes Tryz.pinned.checked.prog).any (Tryz.pinned.checked.prog.ifacesRec ·))=true:=az
def s5:(Rows.replayDiffersUptoRow.mapsOut==Tryz.pinned.checked.prog.mapsAmong Tryz.f7.resultTypes.toList)=true:=az
def s2:(Rows.replayDiffersUptoRow.loops==(Tryz.f7.params.toList++(Rows.OpenSpec.upto Rows.replayDiffersSpec).bare.plain.varTypes Tryz.pinned.checked.prog).any (Tryz.pinned.checked.prog.loopsFrom ·))=true:=az
def sS:(Rows.replayDiffersUptoRow.wideKeys==(Tryz.f7.params.toList++(Rows.OpenSpec.upto Rows.replayDiffersSpec).bare.plain.varTypes Tryz.pinned.checked.prog++Tryz.f7.resultTypes.toList).any (Tryz.pinned.checked.prog.wideKeysFrom ·))=true:=az
def sJ:(Rows.OpenSpec.upto Rows.replayDiffersSpec).bare.vars.all (Tryz.pinned.checked.prog.varReadable ·)=true:=az
def te:Tryz.f7.resultTypes.all (fun t=>Tryz.pinned.checked.prog.readableRec t&&decide (t<Tryz.pinned.checked.prog.types.size))=true:=az
def td:(Rows.replayDiffersUptoRow.ifacesOut==Tryz.f7.resultTypes.toList.any (Tryz.pinned.checked.prog.ifacesRec ·))=true:=az
def tc:(Rows.replayDiffersUptoRow.loopsOut==Tryz.f7.resultTypes.toList.any (Tryz.pinned.checked.prog.loopsFrom ·))=true:=az
def AB:(Rows.replayDiffersUptoRow.plainKeys==Tryz.pinned.checked.prog.plainKeys)=true:=az
def AA:Rows.replayDiffersUptoRow.shortTexts.isNone=true:=az
def Am:(Rows.replayDiffersUptoRow.lifted==Tryz.pinned.checked.prog.liftsFinal)=true:=az
def Al:(Tryz.pinned.checked.prog.make==some Rows.replayDiffersUptoRow.make)=true:=az
def Ab:(Rows.replayDiffersUptoRow.kinds==(if Rows.replayDiffersUptoRow.domain.isEmpty then [] else Tryz.f7.params.toList.map fun t=>match Tryz.pinned.checked.prog.underlying t with|some (.int k)=>some k|_=>none))=true:=az
def Aa:(Rows.replayDiffersUptoRow.pinned==Rows.replayDiffersUptoRow.pinnedBy)=true:=az
def z':(Rows.replayDiffersUptoRow.veiled==(Tryz.f7.params.toList++(Rows.OpenSpec.upto Rows.replayDiffersSpec).bare.plain.varTypes Tryz.pinned.checked.prog++Tryz.f7.resultTypes.toList).any (Tryz.pinned.checked.prog.veiledRec ·))=true:=az
def z9:Rows.replayDiffersUptoRow.veiledFits Tryz.pinned.checked.prog Tryz.f7.params.toList (Tryz.f7.params.toList++(Rows.OpenSpec.upto Rows.replayDiffersSpec).bare.plain.varTypes Tryz.pinned.checked.prog++Tryz.f7.resultTypes.toList)=true:=az
def closed:joinedFacts Tryz.pinned.checked.prog 7 Tryz.f7 (Rows.OpenSpec.upto Rows.replayDiffersSpec).bare Rows.replayDiffersUptoRow=true:=by
 exact i_
def wV:Tryz.f7.isInstance Tryz.pinned.checked.prog Rows.replayDiffersUptoRow.origin Rows.replayDiffersUptoRow.targs:=of_decide_eq_true az
def wR:Tryz.f7.isWrapper Tryz.pinned.checked.prog Rows.replayDiffersUptoRow.wrapper Rows.replayDiffersUptoRow.mainSum:=by
 exact j5
def Jd:Tryz.pinned.checked.prog.funcNamed Rows.replayDiffersUptoRow.func=some 7:=az
def lifted(os:Os)(t:os.Started)(H:Type)(enc:TypeId×Value->H)(F:Stop.Interp):
  ReturnsInHanded {} Tryz.checked os 7 .any ((Rows.OpenSpec.upto Rows.replayDiffersSpec).pre6 enc Tryz.prog Tryz.f7 Rows.replayDiffersUptoRow.domain false) (((Rows.OpenSpec.upto Rows.replayDiffersSpec).at F).post enc Tryz.prog Tryz.f7 false true false false):=by
 refine returnsInHanded_of_cond (C:=Tryz.checked) (s:=(Rows.OpenSpec.upto Rows.replayDiffersSpec)) (k:=Rows.uptoSmall) rfl own t az Tryz.func7
  (OpenSpec.witness (enc:=enc) (C:=Tryz.checked) (s:=(Rows.OpenSpec.upto Rows.replayDiffersSpec)) (k:=Rows.uptoSmall) rfl false ⟨#[],#[.slice none 0 0,.int .i64 0,.int .i64 0],[]⟩ 8 az az az
   (x:=([.nil,.lit (.int .i64 0),.lit (.int .i64 0)],[],[])) az rfl az) ?_
 intro W base args d g e D u _ y _;have P:g=[]:=by
  obtain⟨p,q,_,V,_⟩:=u;cases g with
  |nil=>rfl
  |cons _ _=>simp[DataW.TrodVars,Rows.replayDiffersSpec,Rows.OpenSpec.upto,OpenSpec.ofChange]at V
 subst P;rw[u_]at y;exact CZ B2 Jb (s:=Rows.replayDiffersSpec) rfl (fun H d l=>by
  match d,l with
  | [a,b,c],_=>rfl) H Rows.uptoBulk (F6 H) enc W base args d [] e D u (fun _ _ h=>bF) (fun vs X f=>Jc vs X (r4 f (F7 y)))
def qF:Rows.replayDiffersUptoRow.holds Tryz.pinned (Rows.OpenSpec.upto Rows.replayDiffersSpec):=
 OpenClaim.holds_of_cond 7 Tryz.f7 rfl rfl rfl rfl rfl rfl rfl ⟨rfl,rfl,rfl,rfl,rfl⟩ rfl rfl rfl rfl rfl Jd Tryz.func7 closed wV wR
  (fun os s H e _ F=>lifted os s H e F)
end Vs
theorem ajv:Rows.ReplayDiffersUptoSaid:=Vs.qF
end Go.Proofs.YtdngefmliibcgaaGreat
