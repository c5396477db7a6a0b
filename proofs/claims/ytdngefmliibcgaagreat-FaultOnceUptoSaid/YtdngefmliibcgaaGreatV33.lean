/- FaultOnce (second form): where what it reads is of bulk at most 1048576, the law answers true and its input reads as before. -/
import Derived.Test.YtdngefmliibcgaaGreatV22
import Derived.Test.YtdngefmliibcgaaGreatV32
set_option linter.all false
set_option maxRecDepth 100000
set_option maxHeartbeats 20000000
namespace Go.Proofs.YtdngefmliibcgaaGreat
open Go Go.Abs
namespace once
def Wg:List (Bool×List CS):=[(false,[.sl false [.int .i64]])]
def read:Tryz.f10.params.toList.all (TF X.P)=true:=by kernel_rfl
def a46:CM X.P Tryz.f10.params.toList=some Wg:=by kernel_rfl
def a47:apm X.P Tryz.f10 Wg 4:=⟨apn,read,a46,rfl,rfl⟩
def a48(vs:List V)(h:Gb Wg vs)(hb:pM vs<=1048576): ∃h k,cL X 10 vs kS 0=some (.bool true,h,k):=by
 simp only[Wg,Gb,Px,okC]at h;obtain⟨_,_,rfl,⟨_,_,rfl,⟨es,rfl,_,Jm⟩,rfl⟩,rfl⟩:=h;obtain⟨l,rfl⟩:=NG (es:=es) fun e he=>by
  obtain⟨xs,hx,_,_,rfl,⟨b,rfl,hb⟩,rfl⟩:=Jm e he;exact⟨b,hx⟩
 have e1:tC false [V.sl false (l.map (V.int .i64))]= .sl false (l.map (V.int .i64)):=rfl;rw[e1]at hb⊢;simp only[pM]at hb;have e3:vsz (.sl false (l.map (V.int .i64)))=pM (l.map (V.int .i64))+1:=rfl;rw[e3,aj4]at hb;exact Ph l (by omega) XT
noncomputable abbrev Kq:=Tryz.pinned.checked.prog
def a0:Rows.faultOnceUptoRow.wf (OpenSpec.ofChange (Rows.OpenSpec.upto Rows.faultOnceSpec).bare)=true:=by kernel_rfl
def a1:Tryz.f10.params.all (Kq.readableRec ·)=true:=by kernel_rfl
def a2:namedTie Kq Rows.faultOnceUptoRow.named (Rows.OpenSpec.upto Rows.faultOnceSpec).bare.vars=true:=by kernel_rfl
def a3:(Rows.faultOnceUptoRow.stops==[])=true:=by kernel_rfl
def a4:(Rows.faultOnceUptoRow.knobs==[])=true:=by kernel_rfl
def a5:(Rows.faultOnceUptoRow.inPlace==Kq.inPlace 10)=true:=by kernel_rfl
def a6:(Rows.faultOnceUptoRow.unfollowed==Kq.unfollowed 10)=true:=by kernel_rfl
def a7:(Rows.faultOnceUptoRow.recurses==Kq.recurses 10)=true:=by kernel_rfl
def a8:(Rows.faultOnceUptoRow.named==Kq.varsNamed 10)=true:=by kernel_rfl
def a9:(Rows.faultOnceUptoRow.maps==(Tryz.f10.params.toList++(Rows.OpenSpec.upto Rows.faultOnceSpec).bare.plain.varTypes Kq).any (Kq.mapsRec ·))=true:=by kernel_rfl
def WE:(Rows.faultOnceUptoRow.ifaces==(Tryz.f10.params.toList++(Rows.OpenSpec.upto Rows.faultOnceSpec).bare.plain.varTypes Kq).any (Kq.ifacesRec ·))=true:=by kernel_rfl
def a11:(Rows.faultOnceUptoRow.mapsOut==Kq.mapsAmong Tryz.f10.resultTypes.toList)=true:=by kernel_rfl
def a12:(Rows.faultOnceUptoRow.loops==(Tryz.f10.params.toList++(Rows.OpenSpec.upto Rows.faultOnceSpec).bare.plain.varTypes Kq).any (Kq.loopsFrom ·))=true:=by kernel_rfl
def a13:(Rows.faultOnceUptoRow.wideKeys==(Tryz.f10.params.toList++(Rows.OpenSpec.upto Rows.faultOnceSpec).bare.plain.varTypes Kq++Tryz.f10.resultTypes.toList).any (Kq.wideKeysFrom ·))=true:=by kernel_rfl
def a14:(Rows.OpenSpec.upto Rows.faultOnceSpec).bare.vars.all (Kq.varReadable ·)=true:=by kernel_rfl
def a15:Tryz.f10.resultTypes.all (fun t=>Kq.readableRec t&&decide (t<Kq.types.size))=true:=by kernel_rfl
def a16:(Rows.faultOnceUptoRow.ifacesOut==Tryz.f10.resultTypes.toList.any (Kq.ifacesRec ·))=true:=by kernel_rfl
def a17:(Rows.faultOnceUptoRow.loopsOut==Tryz.f10.resultTypes.toList.any (Kq.loopsFrom ·))=true:=by kernel_rfl
def a18:(Rows.faultOnceUptoRow.plainKeys==Kq.plainKeys)=true:=by kernel_rfl
def a19:Rows.faultOnceUptoRow.shortTexts.isNone=true:=by kernel_rfl
def a20:(Rows.faultOnceUptoRow.lifted==Kq.liftsFinal)=true:=by kernel_rfl
def a21:(Kq.make==some Rows.faultOnceUptoRow.make)=true:=by kernel_rfl
def a22:(Rows.faultOnceUptoRow.kinds==(if Rows.faultOnceUptoRow.domain.isEmpty then [] else Tryz.f10.params.toList.map fun t=>match Kq.underlying t with|some (.int k)=>some k|_=>none))=true:=by kernel_rfl
def a23:(Rows.faultOnceUptoRow.pinned==Rows.faultOnceUptoRow.pinnedBy)=true:=by kernel_rfl
def a24:(Rows.faultOnceUptoRow.veiled==(Tryz.f10.params.toList++(Rows.OpenSpec.upto Rows.faultOnceSpec).bare.plain.varTypes Kq++Tryz.f10.resultTypes.toList).any (Kq.veiledRec ·))=true:=by kernel_rfl
def a25:Rows.faultOnceUptoRow.veiledFits Kq Tryz.f10.params.toList (Tryz.f10.params.toList++(Rows.OpenSpec.upto Rows.faultOnceSpec).bare.plain.varTypes Kq++Tryz.f10.resultTypes.toList)=true:=by kernel_rfl
def closed:joinedFacts Tryz.pinned.checked.prog 10 Tryz.f10 (Rows.OpenSpec.upto Rows.faultOnceSpec).bare Rows.faultOnceUptoRow=true:=by
 unfold joinedFacts;exact(jH (jH (jH (jH (jH (jH (jH (jH (jH (jH (jH (jH (jH (jH (jH (jH (jH (jH (jH (jH (jH (jH (jH (jH (jH (jH (jH (jH (jH (jH (jH a0 apn) a0j) a1) a2) a3) as5) a4) as6) a5) a6) a7) a8) a9) WE) a11) a12) a13) a14) a15) a16) a17) a18) a19) heard) as7) a20) a21) a22) a23) a24) a25)
def isI:Tryz.f10.isInstance Tryz.pinned.checked.prog Rows.faultOnceUptoRow.origin Rows.faultOnceUptoRow.targs:=of_decide_eq_true (by kernel_rfl)
def isW:Tryz.f10.isWrapper Tryz.pinned.checked.prog Rows.faultOnceUptoRow.wrapper Rows.faultOnceUptoRow.mainSum:=by
 unfold Func.isWrapper;first|(rw[if_pos (by decide+kernel)];kernel_rfl)|(rw[if_neg (by decide+kernel)];exact⟨rfl,rfl⟩)
def a49:Kq.funcNamed Rows.faultOnceUptoRow.func=some 10:=by kernel_rfl
def lifted(os:Os)(started:os.Started)(H:Type)(enc:TypeId×Value->H)(F:Stop.Interp):
  ReturnsInHanded {} Tryz.checked os 10 .any ((Rows.OpenSpec.upto Rows.faultOnceSpec).pre6 enc Tryz.prog Tryz.f10 Rows.faultOnceUptoRow.domain false) (((Rows.OpenSpec.upto Rows.faultOnceSpec).at F).post enc Tryz.prog Tryz.f10 false true false false):=by
 refine returnsInHanded_of_cond (C:=Tryz.checked) (s:=(Rows.OpenSpec.upto Rows.faultOnceSpec)) (k:=Rows.uptoSmall) rfl own started (by kernel_rfl) Tryz.func10
  (OpenSpec.witness (enc:=enc) (C:=Tryz.checked) (s:=(Rows.OpenSpec.upto Rows.faultOnceSpec)) (k:=Rows.uptoSmall) rfl false ⟨#[],#[.slice none 0 0],[]⟩ 8 (by kernel_rfl) (by kernel_rfl) (by kernel_rfl)
   (x:=([.nil],[],[])) (by kernel_rfl) rfl (by kernel_rfl)) ?_
 intro W base args ds gs before Qe hW _ hk _;have hgs:gs=[]:=by
  obtain⟨p,q,_,hV,_⟩:=hW;cases gs with
  |nil=>rfl
  |cons _ _=>simp[DataW.TrodVars,Rows.faultOnceSpec,Rows.OpenSpec.upto,OpenSpec.ofChange]at hV
 subst hgs;rw[acX]at hk;exact acs KR a47 (s:=Rows.faultOnceSpec) rfl (fun H ds hl=>by
  match ds,hl with
  | [a],_=>rfl) H Rows.uptoBulk (aj2 H) enc W base args ds [] before Qe hW (fun _ _ h=>by cases h) (fun vs ha hb=>a48 vs ha (abK hb (aj3 hk)))
def rW:Rows.faultOnceUptoRow.holds Tryz.pinned (Rows.OpenSpec.upto Rows.faultOnceSpec):=
 OpenClaim.holds_of_cond 10 Tryz.f10 rfl rfl rfl rfl rfl rfl rfl ⟨rfl,rfl,rfl,rfl,rfl⟩ rfl rfl rfl rfl rfl a49 Tryz.func10 closed isI isW
  (fun os started H enc _ F=>lifted os started H enc F)
end once
theorem ax5:Rows.FaultOnceUptoSaid:=once.rW
end Go.Proofs.YtdngefmliibcgaaGreat
