/- ReplaySame, second form: the record of a plain run is followed in every layout, for input of bulk at most 1048576. -/
import Derived.Test.YtdngefmliibcgaaGreatB27
import Derived.Test.YtdngefmliibcgaaGreatB37
set_option linter.all false
set_option maxRecDepth 100000
set_option maxHeartbeats 0
namespace Go.Proofs.YtdngefmliibcgaaGreat
open Go Go.Abs
namespace same
def wN:List (Bool×List CS):=[(false,[.sl false [.int .i64]]),(false,[.int .i64]),(false,[.int .i64])]
def read:Tryz.f6.params.toList.all (Hv X.P)=true:=az
def Ja:yv X.P Tryz.f6.params.toList=some wN:=az
def Jb:OO X.P Tryz.f6 wN 4:=⟨EL,read,Ja,rfl,rfl⟩
def Jc(vs:List V)(h:vn wN vs)(f:nK vs<=1048576): ∃h k,df X 6 vs kC 0=some (.bool true,h,k):=by
 simp only[wN,vn,L1,uY]at h;obtain⟨_,_,rfl,⟨_,_,rfl,⟨es,rfl,_,E⟩,rfl⟩,_,_,rfl,⟨_,_,rfl,⟨n,rfl,W⟩,rfl⟩,_,_,rfl,⟨_,_,rfl,⟨k,rfl,y⟩,rfl⟩,rfl⟩:=h;obtain⟨l,rfl⟩:=zU (es:=es) fun e C=>by
  exact kc
 have i:oO false [V.sl false (l.map (V.int .i64))]= .sl false (l.map (V.int .i64)):=rfl;have p: ∀n,oO false [V.int .i64 n]= .int .i64 n:=fun _=>rfl;rw[i,p,p]at f⊢;simp only[nK]at f;have x:Ur (.sl false (l.map (V.int .i64)))=nK (l.map (V.int .i64))+1:=rfl;rw[x,F8]at f;exact M7 l n k ab
def a0:Rows.replaySameUptoRow.wf (OpenSpec.ofChange (Rows.OpenSpec.upto Rows.replaySameSpec).bare)=true:=az
def a1:Tryz.f6.params.all (Tryz.pinned.checked.prog.readableRec ·)=true:=az
def a2:namedTie Tryz.pinned.checked.prog Rows.replaySameUptoRow.named (Rows.OpenSpec.upto Rows.replaySameSpec).bare.vars=true:=az
def a3:(Rows.replaySameUptoRow.stops==[])=true:=az
def a4:(Rows.replaySameUptoRow.knobs==[])=true:=az
def a5:(Rows.replaySameUptoRow.inPlace==Tryz.pinned.checked.prog.inPlace 6)=true:=az
def a6:(Rows.replaySameUptoRow.unfollowed==Tryz.pinned.checked.prog.unfollowed 6)=true:=az
def a7:(Rows.replaySameUptoRow.recurses==Tryz.pinned.checked.prog.recurses 6)=true:=az
def a8:(Rows.replaySameUptoRow.named==Tryz.pinned.checked.prog.varsNamed 6)=true:=az
def a9:(Rows.replaySameUptoRow.maps==(Tryz.f6.params.toList++(Rows.OpenSpec.upto Rows.replaySameSpec).bare.plain.varTypes Tryz.pinned.checked.prog).any (Tryz.pinned.checked.prog.mapsRec ·))=true:=az
def SY:(Rows.replaySameUptoRow.ifaces==(Tryz.f6.params.toList++(Rows.OpenSpec.upto Rows.replaySameSpec).bare.plain.varTypes Tryz.pinned.checked.prog).any (Tryz.pinned.checked.prog.ifacesRec ·))=true:=az
def s5:(Rows.replaySameUptoRow.mapsOut==Tryz.pinned.checked.prog.mapsAmong Tryz.f6.resultTypes.toList)=true:=az
def s2:(Rows.replaySameUptoRow.loops==(Tryz.f6.params.toList++(Rows.OpenSpec.upto Rows.replaySameSpec).bare.plain.varTypes Tryz.pinned.checked.prog).any (Tryz.pinned.checked.prog.loopsFrom ·))=true:=az
def sS:(Rows.replaySameUptoRow.wideKeys==(Tryz.f6.params.toList++(Rows.OpenSpec.upto Rows.replaySameSpec).bare.plain.varTypes Tryz.pinned.checked.prog++Tryz.f6.resultTypes.toList).any (Tryz.pinned.checked.prog.wideKeysFrom ·))=true:=az
def sJ:(Rows.OpenSpec.upto Rows.replaySameSpec).bare.vars.all (Tryz.pinned.checked.prog.varReadable ·)=true:=az
def te:Tryz.f6.resultTypes.all (fun t=>Tryz.pinned.checked.prog.readableRec t&&decide (t<Tryz.pinned.checked.prog.types.size))=true:=az
def td:(Rows.replaySameUptoRow.ifacesOut==Tryz.f6.resultTypes.toList.any (Tryz.pinned.checked.prog.ifacesRec ·))=true:=az
def tc:(Rows.replaySameUptoRow.loopsOut==Tryz.f6.resultTypes.toList.any (Tryz.pinned.checked.prog.loopsFrom ·))=true:=az
def AB:(Rows.replaySameUptoRow.plainKeys==Tryz.pinned.checked.prog.plainKeys)=true:=az
def AA:Rows.replaySameUptoRow.shortTexts.isNone=true:=az
def Am:(Rows.replaySameUptoRow.lifted==Tryz.pinned.checked.prog.liftsFinal)=true:=az
def Al:(Tryz.pinned.checked.prog.make==some Rows.replaySameUptoRow.make)=true:=az
def Ab:(Rows.replaySameUptoRow.kinds==(if Rows.replaySameUptoRow.domain.isEmpty then [] else Tryz.f6.params.toList.map fun t=>match Tryz.pinned.checked.prog.underlying t with|some (.int k)=>some k|_=>none))=true:=az
def Aa:(Rows.replaySameUptoRow.pinned==Rows.replaySameUptoRow.pinnedBy)=true:=az
def z':(Rows.replaySameUptoRow.veiled==(Tryz.f6.params.toList++(Rows.OpenSpec.upto Rows.replaySameSpec).bare.plain.varTypes Tryz.pinned.checked.prog++Tryz.f6.resultTypes.toList).any (Tryz.pinned.checked.prog.veiledRec ·))=true:=az
def z9:Rows.replaySameUptoRow.veiledFits Tryz.pinned.checked.prog Tryz.f6.params.toList (Tryz.f6.params.toList++(Rows.OpenSpec.upto Rows.replaySameSpec).bare.plain.varTypes Tryz.pinned.checked.prog++Tryz.f6.resultTypes.toList)=true:=az
def closed:joinedFacts Tryz.pinned.checked.prog 6 Tryz.f6 (Rows.OpenSpec.upto Rows.replaySameSpec).bare Rows.replaySameUptoRow=true:=by
 exact i_
def wV:Tryz.f6.isInstance Tryz.pinned.checked.prog Rows.replaySameUptoRow.origin Rows.replaySameUptoRow.targs:=of_decide_eq_true az
def wR:Tryz.f6.isWrapper Tryz.pinned.checked.prog Rows.replaySameUptoRow.wrapper Rows.replaySameUptoRow.mainSum:=by
 exact j5
def Jd:Tryz.pinned.checked.prog.funcNamed Rows.replaySameUptoRow.func=some 6:=az
def lifted(os:Os)(t:os.Started)(H:Type)(enc:TypeId×Value->H)(F:Stop.Interp):
  ReturnsInHanded {} Tryz.checked os 6 .any ((Rows.OpenSpec.upto Rows.replaySameSpec).pre6 enc Tryz.prog Tryz.f6 Rows.replaySameUptoRow.domain false) (((Rows.OpenSpec.upto Rows.replaySameSpec).at F).post enc Tryz.prog Tryz.f6 false true false false):=by
 refine returnsInHanded_of_cond (C:=Tryz.checked) (s:=(Rows.OpenSpec.upto Rows.replaySameSpec)) (k:=Rows.uptoSmall) rfl own t az Tryz.func6
  (OpenSpec.witness (enc:=enc) (C:=Tryz.checked) (s:=(Rows.OpenSpec.upto Rows.replaySameSpec)) (k:=Rows.uptoSmall) rfl false ⟨#[],#[.slice none 0 0,.int .i64 0,.int .i64 0],[]⟩ 8 az az az
   (x:=([.nil,.lit (.int .i64 0),.lit (.int .i64 0)],[],[])) az rfl az) ?_
 intro W base args d g e D u _ y _;have P:g=[]:=by
  obtain⟨p,q,_,V,_⟩:=u;cases g with
  |nil=>rfl
  |cons _ _=>simp[DataW.TrodVars,Rows.replaySameSpec,Rows.OpenSpec.upto,OpenSpec.ofChange]at V
 subst P;rw[u_]at y;exact CZ B2 Jb (s:=Rows.replaySameSpec) rfl (fun H d l=>by
  match d,l with
  | [a,b,c],_=>rfl) H Rows.uptoBulk (F6 H) enc W base args d [] e D u (fun _ _ h=>bF) (fun vs X f=>Jc vs X (r4 f (F7 y)))
def qF:Rows.replaySameUptoRow.holds Tryz.pinned (Rows.OpenSpec.upto Rows.replaySameSpec):=
 OpenClaim.holds_of_cond 6 Tryz.f6 rfl rfl rfl rfl rfl rfl rfl ⟨rfl,rfl,rfl,rfl,rfl⟩ rfl rfl rfl rfl rfl Jd Tryz.func6 closed wV wR
  (fun os s H e _ F=>lifted os s H e F)
end same
theorem axe:Rows.ReplaySameUptoSaid:=same.qF
end Go.Proofs.YtdngefmliibcgaaGreat
