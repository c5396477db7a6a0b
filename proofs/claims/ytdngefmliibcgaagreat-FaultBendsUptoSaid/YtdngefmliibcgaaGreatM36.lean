/- FaultBends (second form): where what it reads is of bulk at most 1048576, the law answers true and its input reads as before. -/
import Derived.Test.YtdngefmliibcgaaGreatM19
import Derived.Test.YtdngefmliibcgaaGreatM24
import Derived.Test.YtdngefmliibcgaaGreatM35
set_option linter.all false
set_option maxRecDepth 100000
set_option maxHeartbeats 20000000
namespace Go.Proofs.YtdngefmliibcgaaGreat
open Go Go.Abs
namespace TS
def JC:List (Bool×List CS):=[(false,[.sl false [.int .i64]]),(false,[.int .i64]),(false,[.int .i64])]
theorem read:Tryz.f12.params.toList.all (Dj X.P)=true:=by kernel_rfl
theorem aaq:vc X.P Tryz.f12.params.toList=some JC:=by kernel_rfl
theorem aar:Tl X.P Tryz.f12 JC 4:=⟨Tm,read,aaq,rfl,rfl⟩
theorem aas(vs:List V)(h:vb JC vs)(hb:kj vs≤1048576): ∃h k,bt X 12 vs fu 0=some (.bool true,h,k):=by
 simp only[JC,vb,vP,QH]at h;obtain⟨_,_,rfl,⟨_,_,rfl,⟨es,rfl,_,zg⟩,rfl⟩,_,_,rfl,⟨_,_,rfl,⟨n,rfl,hn⟩,rfl⟩,_,_,rfl,⟨_,_,rfl,⟨k,rfl,hk⟩,rfl⟩,rfl⟩:=h;obtain⟨l,rfl⟩:=Dm (es:=es) fun e he=>by
  obtain⟨xs,hx,_,_,rfl,⟨b,rfl,hb⟩,rfl⟩:=zg e he;exact⟨b,hx⟩
 have e1:lk false [V.sl false (l.map (V.int .i64))]= .sl false (l.map (V.int .i64)):=rfl;have e2: ∀n,lk false [V.int .i64 n]= .int .i64 n:=fun _=>rfl;rw[e1,e2,e2]at hb⊢;simp only[kj]at hb;have e3:NM (.sl false (l.map (V.int .i64)))=kj (l.map (V.int .i64))+1:=rfl;rw[e3,QK]at hb;exact BU l n k (by omega) Kv
theorem a0:Rows.faultBendsUptoRow.wf (OpenSpec.ofChange (Rows.OpenSpec.upto Rows.faultBendsSpec).bare)=true:=by kernel_rfl
theorem a1:Tryz.f12.params.all (Tryz.pinned.checked.prog.readableRec ·)=true:=by kernel_rfl
theorem a2:namedTie Tryz.pinned.checked.prog Rows.faultBendsUptoRow.named (Rows.OpenSpec.upto Rows.faultBendsSpec).bare.vars=true:=by kernel_rfl
theorem a3:(Rows.faultBendsUptoRow.stops==[])=true:=by kernel_rfl
theorem a4:(Rows.faultBendsUptoRow.knobs==[])=true:=by kernel_rfl
theorem a5:(Rows.faultBendsUptoRow.inPlace==Tryz.pinned.checked.prog.inPlace 12)=true:=by kernel_rfl
theorem a6:(Rows.faultBendsUptoRow.unfollowed==Tryz.pinned.checked.prog.unfollowed 12)=true:=by kernel_rfl
theorem a7:(Rows.faultBendsUptoRow.recurses==Tryz.pinned.checked.prog.recurses 12)=true:=by kernel_rfl
theorem a8:(Rows.faultBendsUptoRow.named==Tryz.pinned.checked.prog.varsNamed 12)=true:=by kernel_rfl
theorem a9:(Rows.faultBendsUptoRow.maps==(Tryz.f12.params.toList++(Rows.OpenSpec.upto Rows.faultBendsSpec).bare.plain.varTypes Tryz.pinned.checked.prog).any (Tryz.pinned.checked.prog.mapsRec ·))=true:=by kernel_rfl
theorem PK:(Rows.faultBendsUptoRow.ifaces==(Tryz.f12.params.toList++(Rows.OpenSpec.upto Rows.faultBendsSpec).bare.plain.varTypes Tryz.pinned.checked.prog).any (Tryz.pinned.checked.prog.ifacesRec ·))=true:=by kernel_rfl
theorem a11:(Rows.faultBendsUptoRow.mapsOut==Tryz.pinned.checked.prog.mapsAmong Tryz.f12.resultTypes.toList)=true:=by kernel_rfl
theorem a12:(Rows.faultBendsUptoRow.loops==(Tryz.f12.params.toList++(Rows.OpenSpec.upto Rows.faultBendsSpec).bare.plain.varTypes Tryz.pinned.checked.prog).any (Tryz.pinned.checked.prog.loopsFrom ·))=true:=by kernel_rfl
theorem a13:(Rows.faultBendsUptoRow.wideKeys==(Tryz.f12.params.toList++(Rows.OpenSpec.upto Rows.faultBendsSpec).bare.plain.varTypes Tryz.pinned.checked.prog++Tryz.f12.resultTypes.toList).any (Tryz.pinned.checked.prog.wideKeysFrom ·))=true:=by kernel_rfl
theorem a14:(Rows.OpenSpec.upto Rows.faultBendsSpec).bare.vars.all (Tryz.pinned.checked.prog.varReadable ·)=true:=by kernel_rfl
theorem a15:Tryz.f12.resultTypes.all (fun t=>Tryz.pinned.checked.prog.readableRec t&&decide (t<Tryz.pinned.checked.prog.types.size))=true:=by kernel_rfl
theorem a16:(Rows.faultBendsUptoRow.ifacesOut==Tryz.f12.resultTypes.toList.any (Tryz.pinned.checked.prog.ifacesRec ·))=true:=by kernel_rfl
theorem a17:(Rows.faultBendsUptoRow.loopsOut==Tryz.f12.resultTypes.toList.any (Tryz.pinned.checked.prog.loopsFrom ·))=true:=by kernel_rfl
theorem a18:(Rows.faultBendsUptoRow.plainKeys==Tryz.pinned.checked.prog.plainKeys)=true:=by kernel_rfl
theorem a19:Rows.faultBendsUptoRow.shortTexts.isNone=true:=by kernel_rfl
theorem a20:(Rows.faultBendsUptoRow.lifted==Tryz.pinned.checked.prog.liftsFinal)=true:=by kernel_rfl
theorem a21:(Tryz.pinned.checked.prog.make==some Rows.faultBendsUptoRow.make)=true:=by kernel_rfl
theorem a22:(Rows.faultBendsUptoRow.kinds==(if Rows.faultBendsUptoRow.domain.isEmpty then [] else Tryz.f12.params.toList.map fun t=>match Tryz.pinned.checked.prog.underlying t with|some (.int k)=>some k|_=>none))=true:=by kernel_rfl
theorem a23:(Rows.faultBendsUptoRow.pinned==Rows.faultBendsUptoRow.pinnedBy)=true:=by kernel_rfl
theorem a24:(Rows.faultBendsUptoRow.veiled==(Tryz.f12.params.toList++(Rows.OpenSpec.upto Rows.faultBendsSpec).bare.plain.varTypes Tryz.pinned.checked.prog++Tryz.f12.resultTypes.toList).any (Tryz.pinned.checked.prog.veiledRec ·))=true:=by kernel_rfl
theorem a25:Rows.faultBendsUptoRow.veiledFits Tryz.pinned.checked.prog Tryz.f12.params.toList (Tryz.f12.params.toList++(Rows.OpenSpec.upto Rows.faultBendsSpec).bare.plain.varTypes Tryz.pinned.checked.prog++Tryz.f12.resultTypes.toList)=true:=by kernel_rfl
theorem closed:joinedFacts Tryz.pinned.checked.prog 12 Tryz.f12 (Rows.OpenSpec.upto Rows.faultBendsSpec).bare Rows.faultBendsUptoRow=true:=by
 unfold joinedFacts;exact(dS (dS (dS (dS (dS (dS (dS (dS (dS (dS (dS (dS (dS (dS (dS (dS (dS (dS (dS (dS (dS (dS (dS (dS (dS (dS (dS (dS (dS (dS (dS a0 Tm) Zh) a1) a2) a3) Vn) a4) Vo) a5) a6) a7) a8) a9) PK) a11) a12) a13) a14) a15) a16) a17) a18) a19) heard) Vp) a20) a21) a22) a23) a24) a25)
theorem isI:Tryz.f12.isInstance Tryz.pinned.checked.prog Rows.faultBendsUptoRow.origin Rows.faultBendsUptoRow.targs:=of_decide_eq_true (by kernel_rfl)
theorem isW:Tryz.f12.isWrapper Tryz.pinned.checked.prog Rows.faultBendsUptoRow.wrapper Rows.faultBendsUptoRow.mainSum:=by
 unfold Func.isWrapper;first|(rw[if_pos (by decide+kernel)];kernel_rfl)|(rw[if_neg (by decide+kernel)];exact⟨rfl,rfl⟩)
theorem aat:Tryz.pinned.checked.prog.funcNamed Rows.faultBendsUptoRow.func=some 12:=by kernel_rfl
theorem lifted(os:Os)(started:os.Started)(H:Type)(enc:TypeId×Value→H)(F:Stop.Interp):
  ReturnsInHanded {} Tryz.checked os 12 .any ((Rows.OpenSpec.upto Rows.faultBendsSpec).pre6 enc Tryz.prog Tryz.f12 Rows.faultBendsUptoRow.domain false) (((Rows.OpenSpec.upto Rows.faultBendsSpec).at F).post enc Tryz.prog Tryz.f12 false true false false):=by
 refine returnsInHanded_of_cond (C:=Tryz.checked) (s:=(Rows.OpenSpec.upto Rows.faultBendsSpec)) (k:=Rows.uptoSmall) rfl own started (by kernel_rfl) Tryz.func12
  (OpenSpec.witness (enc:=enc) (C:=Tryz.checked) (s:=(Rows.OpenSpec.upto Rows.faultBendsSpec)) (k:=Rows.uptoSmall) rfl false ⟨#[],#[.slice none 0 0,.int .i64 0,.int .i64 0],[]⟩ 8 (by kernel_rfl) (by kernel_rfl) (by kernel_rfl)
   (x:=([.nil,.lit (.int .i64 0),.lit (.int .i64 0)],[],[])) (by kernel_rfl) rfl (by kernel_rfl)) ?_
 intro W base args ds gs before CL hW _ hk _;have hgs:gs=[]:=by
  obtain⟨p,q,_,hV,_⟩:=hW;cases gs with
  |nil=>rfl
  |cons _ _=>simp[DataW.TrodVars,Rows.faultBendsSpec,Rows.OpenSpec.upto,OpenSpec.ofChange]at hV
 subst hgs;rw[List.append_nil]at hk;exact NQ Bg aar (s:=Rows.faultBendsSpec) rfl (fun H ds hl=>by
  match ds,hl with
  | [a,b,c],_=>rfl) H Rows.uptoBulk (QI H) enc W base args ds [] before CL hW (fun _ _ h=>by cases h) (fun vs ha hb=>aas vs ha (Nat.le_trans hb (QJ hk)))
theorem kX:Rows.faultBendsUptoRow.holds Tryz.pinned (Rows.OpenSpec.upto Rows.faultBendsSpec):=
 OpenClaim.holds_of_cond 12 Tryz.f12 rfl rfl rfl rfl rfl rfl rfl ⟨rfl,rfl,rfl,rfl,rfl⟩ rfl rfl rfl rfl rfl aat Tryz.func12 closed isI isW
  (fun os started H enc _ F=>lifted os started H enc F)
end TS
theorem WE:Rows.FaultBendsUptoSaid:=TS.kX
end Go.Proofs.YtdngefmliibcgaaGreat
