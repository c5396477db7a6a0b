/- StepJoins in its second form: for every list of numbers and every two numbers whose bulk is at most 1048576, the law answers true and its input reads as before. -/
import Derived.Test.YtejohpnpnaljdaaGreatM13
import Derived.Test.YtejohpnpnaljdaaGreatM52
set_option linter.all false
set_option maxRecDepth 100000
set_option maxHeartbeats 20000000
namespace Go.Proofs.YtejohpnpnaljdaaGreat
open Go Go.Abs
namespace qP
def Pe:List (Bool×List CS):=[(false,[.sl false [.int .i64]]),(false,[.int .i64]),(false,[.int .i64])]
theorem read:Tryz.f4.params.toList.all (Ih X.P)=true:=by kernel_rfl
theorem ao8:zq X.P Tryz.f4.params.toList=some Pe:=by kernel_rfl
theorem ao9:abv X.P Tryz.f4 Pe 4:=⟨abw,read,ao8,rfl,rfl⟩
theorem apa(vs:List V)(h:zp Pe vs)(hb:mT vs<=1048576): ∃h k,cy X 4 vs ky 0=some (.bool true,h,k):=by
 simp only[Pe,zp,Aa,cX7]at h;obtain⟨_,_,rfl,⟨_,_,rfl,⟨es,rfl,_,D4⟩,rfl⟩,_,_,rfl,⟨_,_,rfl,⟨n,rfl,hn⟩,rfl⟩,_,_,rfl,⟨_,_,rfl,⟨k,rfl,hk⟩,rfl⟩,rfl⟩:=h;obtain⟨l,rfl⟩:=Ik (es:=es) fun e he=>by
  obtain⟨xs,hx,_,_,rfl,⟨b,rfl,hb⟩,rfl⟩:=D4 e he;exact⟨b,hx⟩
 have e1:oz false [V.sl false (l.map (V.int .i64))]= .sl false (l.map (V.int .i64)):=rfl;have e2: ∀n,oz false [V.int .i64 n]= .int .i64 n:=fun _=>rfl;rw[e1,e2,e2]at hb⊢;simp only[mT]at hb;have e3:Up (.sl false (l.map (V.int .i64)))=mT (l.map (V.int .i64))+1:=rfl;rw[e3,Ya]at hb;exact Jv l n k (by omega)
theorem a0:Rows.stepJoinsUptoRow.wf (OpenSpec.ofChange (Rows.OpenSpec.upto Rows.stepJoinsSpec).bare)=true:=by kernel_rfl
theorem a1:Tryz.f4.params.all (Tryz.pinned.checked.prog.readableRec ·)=true:=by kernel_rfl
theorem a2:namedTie Tryz.pinned.checked.prog Rows.stepJoinsUptoRow.named (Rows.OpenSpec.upto Rows.stepJoinsSpec).bare.vars=true:=by kernel_rfl
theorem a3:(Rows.stepJoinsUptoRow.stops==[])=true:=by kernel_rfl
theorem a4:(Rows.stepJoinsUptoRow.knobs==[])=true:=by kernel_rfl
theorem a5:(Rows.stepJoinsUptoRow.inPlace==Tryz.pinned.checked.prog.inPlace 4)=true:=by kernel_rfl
theorem a6:(Rows.stepJoinsUptoRow.unfollowed==Tryz.pinned.checked.prog.unfollowed 4)=true:=by kernel_rfl
theorem a7:(Rows.stepJoinsUptoRow.recurses==Tryz.pinned.checked.prog.recurses 4)=true:=by kernel_rfl
theorem a8:(Rows.stepJoinsUptoRow.named==Tryz.pinned.checked.prog.varsNamed 4)=true:=by kernel_rfl
theorem a9:(Rows.stepJoinsUptoRow.maps==(Tryz.f4.params.toList++(Rows.OpenSpec.upto Rows.stepJoinsSpec).bare.plain.varTypes Tryz.pinned.checked.prog).any (Tryz.pinned.checked.prog.mapsRec ·))=true:=by kernel_rfl
theorem Px:(Rows.stepJoinsUptoRow.ifaces==(Tryz.f4.params.toList++(Rows.OpenSpec.upto Rows.stepJoinsSpec).bare.plain.varTypes Tryz.pinned.checked.prog).any (Tryz.pinned.checked.prog.ifacesRec ·))=true:=by kernel_rfl
theorem a11:(Rows.stepJoinsUptoRow.mapsOut==Tryz.pinned.checked.prog.mapsAmong Tryz.f4.resultTypes.toList)=true:=by kernel_rfl
theorem a12:(Rows.stepJoinsUptoRow.loops==(Tryz.f4.params.toList++(Rows.OpenSpec.upto Rows.stepJoinsSpec).bare.plain.varTypes Tryz.pinned.checked.prog).any (Tryz.pinned.checked.prog.loopsFrom ·))=true:=by kernel_rfl
theorem a13:(Rows.stepJoinsUptoRow.wideKeys==(Tryz.f4.params.toList++(Rows.OpenSpec.upto Rows.stepJoinsSpec).bare.plain.varTypes Tryz.pinned.checked.prog++Tryz.f4.resultTypes.toList).any (Tryz.pinned.checked.prog.wideKeysFrom ·))=true:=by kernel_rfl
theorem a14:(Rows.OpenSpec.upto Rows.stepJoinsSpec).bare.vars.all (Tryz.pinned.checked.prog.varReadable ·)=true:=by kernel_rfl
theorem a15:Tryz.f4.resultTypes.all (fun t=>Tryz.pinned.checked.prog.readableRec t&&decide (t<Tryz.pinned.checked.prog.types.size))=true:=by kernel_rfl
theorem a16:(Rows.stepJoinsUptoRow.ifacesOut==Tryz.f4.resultTypes.toList.any (Tryz.pinned.checked.prog.ifacesRec ·))=true:=by kernel_rfl
theorem a17:(Rows.stepJoinsUptoRow.loopsOut==Tryz.f4.resultTypes.toList.any (Tryz.pinned.checked.prog.loopsFrom ·))=true:=by kernel_rfl
theorem a18:(Rows.stepJoinsUptoRow.plainKeys==Tryz.pinned.checked.prog.plainKeys)=true:=by kernel_rfl
theorem a19:Rows.stepJoinsUptoRow.shortTexts.isNone=true:=by kernel_rfl
theorem a20:(Rows.stepJoinsUptoRow.lifted==Tryz.pinned.checked.prog.liftsFinal)=true:=by kernel_rfl
theorem a21:(Tryz.pinned.checked.prog.make==some Rows.stepJoinsUptoRow.make)=true:=by kernel_rfl
theorem a22:(Rows.stepJoinsUptoRow.kinds==(if Rows.stepJoinsUptoRow.domain.isEmpty then [] else Tryz.f4.params.toList.map fun t=>match Tryz.pinned.checked.prog.underlying t with|some (.int k)=>some k|_=>none))=true:=by kernel_rfl
theorem a23:(Rows.stepJoinsUptoRow.pinned==Rows.stepJoinsUptoRow.pinnedBy)=true:=by kernel_rfl
theorem a24:(Rows.stepJoinsUptoRow.veiled==(Tryz.f4.params.toList++(Rows.OpenSpec.upto Rows.stepJoinsSpec).bare.plain.varTypes Tryz.pinned.checked.prog++Tryz.f4.resultTypes.toList).any (Tryz.pinned.checked.prog.veiledRec ·))=true:=by kernel_rfl
theorem a25:Rows.stepJoinsUptoRow.veiledFits Tryz.pinned.checked.prog Tryz.f4.params.toList (Tryz.f4.params.toList++(Rows.OpenSpec.upto Rows.stepJoinsSpec).bare.plain.varTypes Tryz.pinned.checked.prog++Tryz.f4.resultTypes.toList)=true:=by kernel_rfl
theorem closed:joinedFacts Tryz.pinned.checked.prog 4 Tryz.f4 (Rows.OpenSpec.upto Rows.stepJoinsSpec).bare Rows.stepJoinsUptoRow=true:=by
 unfold joinedFacts;exact(gW (gW (gW (gW (gW (gW (gW (gW (gW (gW (gW (gW (gW (gW (gW (gW (gW (gW (gW (gW (gW (gW (gW (gW (gW (gW (gW (gW (gW (gW (gW a0 abw) al0) a1) a2) a3) aez) a4) ae0) a5) a6) a7) a8) a9) Px) a11) a12) a13) a14) a15) a16) a17) a18) a19) heard) ae1) a20) a21) a22) a23) a24) a25)
theorem isI:Tryz.f4.isInstance Tryz.pinned.checked.prog Rows.stepJoinsUptoRow.origin Rows.stepJoinsUptoRow.targs:=of_decide_eq_true (by kernel_rfl)
theorem isW:Tryz.f4.isWrapper Tryz.pinned.checked.prog Rows.stepJoinsUptoRow.wrapper Rows.stepJoinsUptoRow.mainSum:=by
 unfold Func.isWrapper;first|(rw[if_pos (by decide+kernel)];kernel_rfl)|(rw[if_neg (by decide+kernel)];exact⟨rfl,rfl⟩)
theorem apb:Tryz.pinned.checked.prog.funcNamed Rows.stepJoinsUptoRow.func=some 4:=by kernel_rfl
theorem lifted(os:Os)(started:os.Started)(H:Type)(enc:TypeId×Value->H)(F:Stop.Interp):
  ReturnsInHanded {} Tryz.checked os 4 .any ((Rows.OpenSpec.upto Rows.stepJoinsSpec).pre6 enc Tryz.prog Tryz.f4 Rows.stepJoinsUptoRow.domain false) (((Rows.OpenSpec.upto Rows.stepJoinsSpec).at F).post enc Tryz.prog Tryz.f4 false true false false):=by
 refine returnsInHanded_of_cond (C:=Tryz.checked) (s:=(Rows.OpenSpec.upto Rows.stepJoinsSpec)) (k:=Rows.uptoSmall) rfl own started (by kernel_rfl) Tryz.func4
  (OpenSpec.witness (enc:=enc) (C:=Tryz.checked) (s:=(Rows.OpenSpec.upto Rows.stepJoinsSpec)) (k:=Rows.uptoSmall) rfl false ⟨#[],#[.slice none 0 0,.int .i64 0,.int .i64 0],[]⟩ 8 (by kernel_rfl) (by kernel_rfl) (by kernel_rfl)
   (x:=([.nil,.lit (.int .i64 0),.lit (.int .i64 0)],[],[])) (by kernel_rfl) rfl (by kernel_rfl)) ?_
 intro W base args ds gs before Hl hW _ hk _;have hgs:gs=[]:=by
  obtain⟨p,q,_,hV,_⟩:=hW;cases gs with
  |nil=>rfl
  |cons _ _=>simp[DataW.TrodVars,Rows.stepJoinsSpec,Rows.OpenSpec.upto,OpenSpec.ofChange]at hV
 subst hgs;rw[List.append_nil]at hk;exact Uu Fo ao9 (s:=Rows.stepJoinsSpec) rfl (fun H ds hl=>by
  match ds,hl with
  | [a,b,c],_=>rfl) apa H Rows.uptoBulk (cX8 H) enc W base args ds [] before Hl hW (cX9 hk)
theorem pZ:Rows.stepJoinsUptoRow.holds Tryz.pinned (Rows.OpenSpec.upto Rows.stepJoinsSpec):=
 OpenClaim.holds_of_cond 4 Tryz.f4 rfl rfl rfl rfl rfl rfl rfl ⟨rfl,rfl,rfl,rfl,rfl⟩ rfl rfl rfl rfl rfl apb Tryz.func4 closed isI isW
  (fun os started H enc _ F=>lifted os started H enc F)
end qP
theorem stepJoins:Rows.StepJoinsUptoSaid:=qP.pZ
end Go.Proofs.YtejohpnpnaljdaaGreat
