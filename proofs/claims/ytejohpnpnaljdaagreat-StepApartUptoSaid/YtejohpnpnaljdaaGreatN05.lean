/- StepApart in its second form: for every list of numbers and every number whose bulk is at most 1048576, the law answers true and its input reads as before. -/
import Derived.Test.YtejohpnpnaljdaaGreatM13
import Derived.Test.YtejohpnpnaljdaaGreatM52
set_option linter.all false
set_option maxRecDepth 100000
set_option maxHeartbeats 20000000
namespace Go.Abs.lu
open Go Go.Abs
@[simp] theorem ada(l:List dT):df (l.map dT.e)=l.map dT.e:=jV (fun x=>by simp[dT.bP]) l
@[simp] theorem ac4(l:List Output):df (l.map Output.e)=l.map Output.e:=jV (fun x=>by simp[Output.bP]) l
@[simp] theorem ac9(l:List Entry):df (l.map Entry.e)=l.map Entry.e:=jV (fun x=>by simp[Entry.bP]) l
end Go.Abs.lu
namespace Go.Proofs.YtejohpnpnaljdaaGreat
open Go Go.Abs Go.Abs.lu
theorem ac7{p:Prog}{c:Int}{m:bf}(H:cR p c m){t:Nat}(ht:t<4):cR p (c+1) (hZ p m t).1:=by
 have hl:t<m.threads.length:=by rw[H.len];exact ht
 have:=uU H (H.nv t hl);unfold hZ;rw[U5 hl];exact vO H (by omega) this.mem (fun g=>ab6 H (H.coh (by omega)) _) this.nv
end Go.Proofs.YtejohpnpnaljdaaGreat
namespace Go.Proofs.YtejohpnpnaljdaaGreat
open Go Go.Abs Go.Abs.lu
theorem ac3{p:Prog}{c:Int}{m:bf}(H:cR p c m){t:Nat}(ht:t<4){n:Int}(hn:1<=n):cR p (c+n) (dm p m t n).1:=by
 by_cases hs:(cg m t).state=1
 ·exact(sG H ht hn hs).yq
 ·have e0:m.threads.getD t da=cg m t:=rfl;unfold dm;rw[e0,if_neg hs];exact H.mono (by omega)
end Go.Proofs.YtejohpnpnaljdaaGreat
namespace Go.Proofs.YtejohpnpnaljdaaGreat
open Go Go.Abs Go.Abs.lu
theorem ac0{p:Prog}{d:Int}{m:bf}(H:cR p d m)(hC:d7 (aaw m.layout.aD p.ae) m.memory)(x:Thread)(i:Instr){a:Nat}(ha:aaw m.layout.aD p.ae a):(fR p m x i).1.cells.getD a ⟨0,0⟩=m.memory.cells.getD a ⟨0,0⟩:=by
 have ab5: ∀c:Cell,(jb m.layout.aD p.ae c i.dy false).2=0->(jb m.layout.aD p.ae c i.dy false).1.val.toNat<512:=fun c h=>by
  obtain⟨a,e,ha⟩:=qV H.lay h;rw[e];simpa using ha
 unfold fR;repeat' (refine nZ (P:=fun r:aK×Thread×Int=>r.1.cells.getD a ⟨0,0⟩=m.memory.cells.getD a ⟨0,0⟩) (fun h=> ?_) fun h=> ?_)
 all_goals first
  |rfl
  |exact aae H.mem.mem hC (ab5 _ h) ha
  |exact aag H.mem.mem hC (ab5 _ h) _ ha
theorem ac1{p:Prog}{d:Int}{m:bf}(H:cR p d m)(hd:d<=1000000)(t:Nat){a:Nat}(ha:aaw m.layout.aD p.ae a):(hZ p m t).1.memory.cells.getD a ⟨0,0⟩=m.memory.cells.getD a ⟨0,0⟩:=by
 rw[tD];show(mB p m (cg m t)).1.cells.getD a ⟨0,0⟩=_;unfold mB;split
 ·exact ac0 H (H.coh hd) _ _ ha
 ·rfl
theorem acq{p:Prog}{t:Nat}(ht:t<4)(u:Int): ∀(k:Nat) {d:Int} {m:bf},cR p d m->d+k<=1000000-> ∀{a:Nat},aaw m.layout.aD p.ae a->(dI p t u k m).1.memory.cells.getD a ⟨0,0⟩=m.memory.cells.getD a ⟨0,0⟩
 |0,d,m,H,hd,a,ha=>rfl
 |k+1,d,m,H,hd,a,ha=>by
  have h1:=ac1 H (by omega) t ha;have h2:=acq ht u k (ac7 H ht) (by omega) (a:=a) ha;unfold dI;split
  ·split
   ·exact h1
   ·rw[h2,h1]
  ·exact h1
theorem acw{p:Prog}{d:Int}{m:bf}(H:cR p d m)(hd:d<=2000){t:Nat}(ht:t<4)(n:Int){a:Nat}(ha:aaw m.layout.aD p.ae a):(dm p m t n).1.memory.cells.getD a ⟨0,0⟩=m.memory.cells.getD a ⟨0,0⟩:=by
 unfold dm;split
 ·exact acq ht _ _ H (by omega) ha
 ·rfl
theorem acz{p:Prog}{m:bf}{t i:Nat}(hi:i≠t):(hZ p m t).1.threads[i]?=m.threads[i]?:=by
 rw[tD];exact List.getElem?_set_ne (Ne.symm hi)
theorem acm{p:Prog}{t:Nat}(u:Int){i:Nat}(hi:i≠t): ∀(k:Nat) (m:bf),(dI p t u k m).1.threads[i]?=m.threads[i]?
 |0,m=>rfl
 |k+1,m=>by
  have h1:=acz (p:=p) (m:=m) hi;unfold dI;split
  ·split
   ·exact h1
   ·rw[acm u hi k,h1]
  ·exact h1
theorem acv{p:Prog}{m:bf}{t i:Nat}(hi:i≠t)(n:Int):(dm p m t n).1.threads[i]?=m.threads[i]?:=by
 unfold dm;split
 ·exact acm _ hi _ _
 ·rfl
theorem ac2{l r:List Thread}(hl:l.length=4)(hr:r.length=4)(h: ∀i,i≠0->l[i]?=r[i]?): ∃x y r1,l=x::r1/\r=y::r1:=by
 obtain⟨a,b,c,d,rfl⟩: ∃a b c d,l=[a,b,c,d]:=by
  match l,hl with
  | [a,b,c,d],_=>exact⟨a,b,c,d,rfl⟩
 obtain⟨a',b',c',d',rfl⟩: ∃a b c d,r=[a,b,c,d]:=by
  match r,hr with
  | [a,b,c,d],_=>exact⟨a,b,c,d,rfl⟩
 have h1:=h 1 (by omega);have h2:=h 2 (by omega);have h3:=h 3 (by omega);simp at h1 h2 h3;subst h1;subst h2;subst h3;exact⟨a,a',_,rfl,rfl⟩
end Go.Proofs.YtejohpnpnaljdaaGreat
namespace Go.Proofs.YtejohpnpnaljdaaGreat
open Go Go.Abs Go.Abs.lu
@[simp] theorem acx(l:List Int)(n:Int)(hl:l.length<=2000000): ∃h' k',cy X 5 [.sl false (l.map (V.int .i64)),.int .i64 n] m8 0=some (.bool true,h',k'):=by
 suffices H: ∃v h' k',cy X 5 [.sl false (l.map (V.int .i64)),.int .i64 n] m8 0=some (v,h',k')/\v= .bool true by
  obtain⟨v,h',k',e,rfl⟩:=H;exact⟨h',k',e⟩
 have hw:=QA;have hd0:dr l 0:=⟨by omega,by omega⟩;obtain⟨kt,⟨pc,ps,pd⟩,d,⟨⟨mb,mk⟩,⟨mc,ml⟩,mt⟩,hM,hdk,HG,hd2,iZ⟩:=Z5 l 0 hd0;simp only[Z1]at hM;have oP:mt.length=4:=HG.len;obtain⟨N,hN⟩: ∃N,1+n % 20=N:=⟨_,rfl⟩;have hN1:1<=N/\N<=20:=by omega
 have wN:IntKind.i64.wrap (1+n % 20)=N:=by rw[hN];exact wrap_i64 (by omega)
 have S1:=sU pc ps pd mb mk mc ml mt 0 N HG.prog.lens HG.lens HG.R;rw[ahk HG (by omega) (n:=N) (by omega)]at S1;have gx:=ac3 HG (t:=0) (by omega) hN1.1;have nb:=DK ⟨pc,ps,pd⟩ ⟨⟨mb,mk⟩,⟨mc,ml⟩,mt⟩ 0 N;have ac8:=fun a ha=>acw HG hd2 (t:=0) (by omega) N (a:=a) ha;have adf:=fun i hi=>acv (p:=⟨pc,ps,pd⟩) (m:=⟨⟨mb,mk⟩,⟨mc,ml⟩,mt⟩) (t:=0) (i:=i) hi N;obtain⟨⟨⟨⟨xb,xk⟩,⟨xc,xl⟩,xt⟩,s⟩,hx⟩: ∃a,dm ⟨pc,ps,pd⟩ ⟨⟨mb,mk⟩,⟨mc,ml⟩,mt⟩ 0 N=a:=⟨_,rfl⟩;rw[hx]at S1 gx nb ac8 adf;simp only[aN.mk.injEq]at S1 gx nb ac8 adf;obtain⟨rfl,rfl⟩:=nb;have ug:xt.length=4:=gx.len;have hxc:xc.length=512:=gx.mem.mem.len;have hmc:mc.length=512:=HG.mem.mem.len;have gxl:=gx.lens;have ab7:=WM pc ps pd xb xk xc xl xt HG.prog.lens gx.lens;rw[(gx.mono (by omega)).ok]at ab7;obtain⟨x0,m0,r1,rfl,rfl⟩:=ac2 ug oP adf;have hr1:r1.length=3:=by simpa using ug
 have tk3: ∀(f:Thread->V),List.take 3 (r1.map f)=r1.map f:=fun f=>bn (by simp;omega);have adh: ∀(f:Thread->Option V),List.take 3 (r1.map f)=r1.map f:=fun f=>bn (by simp;omega);have ab9:=Yz xb xk xc xl (m0::r1) xb xk xc xl (m0::r1) ⟨gxl.aD,gxl.cells,gxl.lines,gxl.line,by simp only[List.length_cons];omega,fun i hi=>by
  have h4:i<4:=by simpa[hr1] using hi
  have:=(HG.nv i (by simpa[hr1] using hi)).bm;simp only at this⊢;omega⟩
 simp only[List.map_cons,Thread.bP]at ab9 S1 ab7;have L1:=HG.lay.len;have L2:=HG.lay;simp only at L1 L2;have acf:=Yg xb xk xb xk gxl.aD;refine bu (X:=X) (K:=fun v _ _=>v= .bool true) Tryz.func5 rfl rfl ?_;simp(maxSteps:=10000000) (maxDischargeDepth:=30) -implicitDefEqProofs[hl,acn,hM,oP,wN, -sU,S1,ug,hr1,hxc,acf, -Yz,ab9,Thread.bP,jy,nV,tk3,adh];refine cP (fun i S=>(S.f 5= .ptr 5 0 0/\S.h 5=some ⟨3,[.agg [.sl false ((⟨pc,ps,pd⟩:Prog).code.map Instr.e),.sl false ((⟨pc,ps,pd⟩:Prog).ae.map (V.int .i64)),.sl false ((⟨pc,ps,pd⟩:Prog).data.map aS)]],true⟩/\S.f 6= .ptr 6 0 0/\S.h 6=some ⟨5,[.agg [.sl false ((⟨⟨xb,xk⟩,⟨mc,ml⟩,m0::r1⟩:bf).layout.aD.map (V.int .i64)),.int .u16 (⟨⟨xb,xk⟩,⟨mc,ml⟩,m0::r1⟩:bf).layout.key,.sl false ((⟨⟨xb,xk⟩,⟨mc,ml⟩,m0::r1⟩:bf).memory.cells.map Cell.e),.sl false ((⟨⟨xb,xk⟩,⟨mc,ml⟩,m0::r1⟩:bf).memory.lines.map cx.e),.sl false ((⟨⟨xb,xk⟩,⟨mc,ml⟩,m0::r1⟩:bf).threads.map Thread.e)]],true⟩/\S.f 7= .ptr 7 0 0/\S.h 7=some ⟨5,[.agg [.sl false ((⟨⟨xb,xk⟩,⟨xc,xl⟩,x0::r1⟩:bf).layout.aD.map (V.int .i64)),.int .u16 (⟨⟨xb,xk⟩,⟨xc,xl⟩,x0::r1⟩:bf).layout.key,.sl false ((⟨⟨xb,xk⟩,⟨xc,xl⟩,x0::r1⟩:bf).memory.cells.map Cell.e),.sl false ((⟨⟨xb,xk⟩,⟨xc,xl⟩,x0::r1⟩:bf).memory.lines.map cx.e),.sl false ((⟨⟨xb,xk⟩,⟨xc,xl⟩,x0::r1⟩:bf).threads.map Thread.e)]],true⟩/\S.f 76= .sl false ((xc).map Cell.e)/\S.f 77= .int .i64 512/\S.f 78= .int .i64 (i:Int)/\S.n=1100)/\True) (512) ?_ 0 (by simp) ?_
 ·rintro i S hii ⟨hI0,hP0⟩;have hwi:=cS i (by omega);by_cases adg:(i<512)
  ·have hi5:(i:Int)<512:=by omega
   have hix:i<xc.length:=by omega
   have him:i<mc.length:=by omega
   have acg:=QO xb xk ps (i:Int) L2 (by omega);cases hr:(resolve xb ps (i:Int)).2 with
   |true=>
    rw[hr]at acg;simp(maxSteps:=10000000) (maxDischargeDepth:=30) -implicitDefEqProofs[hI0,hii,hwi,adg,hi5,hix,him,hxc,hmc, -QO,acg]
   |false=>
    rw[hr]at acg;have hc:=ac8 i hr;rw[List.getD_eq_getElem?_getD,List.getD_eq_getElem?_getD,List.getElem?_eq_getElem hix,List.getElem?_eq_getElem him]at hc;simp only[Option.getD_some]at hc;simp(maxSteps:=10000000) (maxDischargeDepth:=30) -implicitDefEqProofs[hI0,hii,hwi,adg,hi5,hix,him,hxc,hmc, -QO,acg,hc]
  ·have hi5: ¬(i:Int)<512:=by omega
   simp(maxSteps:=10000000) (maxDischargeDepth:=30) -implicitDefEqProofs[hI0,hii,hwi,adg,hi5, -WM,ab7,hw,Thread.bP,jy,nV]
 ·simp(maxSteps:=10000000) (maxDischargeDepth:=30) -implicitDefEqProofs[hxc,Thread.bP,jy,nV]
end Go.Proofs.YtejohpnpnaljdaaGreat
namespace Go.Proofs.YtejohpnpnaljdaaGreat
open Go Go.Abs
namespace apart
def Pe:List (Bool×List CS):=[(false,[.sl false [.int .i64]]),(false,[.int .i64])]
theorem read:Tryz.f5.params.toList.all (Ih X.P)=true:=by kernel_rfl
theorem ao8:zq X.P Tryz.f5.params.toList=some Pe:=by kernel_rfl
theorem ao9:abv X.P Tryz.f5 Pe 4:=⟨abw,read,ao8,rfl,rfl⟩
theorem apa(vs:List V)(h:zp Pe vs)(hb:mT vs<=1048576): ∃h k,cy X 5 vs ky 0=some (.bool true,h,k):=by
 simp only[Pe,zp,Aa,cX7]at h;obtain⟨_,_,rfl,⟨_,_,rfl,⟨es,rfl,_,hes⟩,rfl⟩,_,_,rfl,⟨_,_,rfl,⟨n,rfl,hn⟩,rfl⟩,rfl⟩:=h;obtain⟨l,rfl⟩:=Ik (es:=es) fun e he=>by
  obtain⟨xs,hx,_,_,rfl,⟨b,rfl,hb⟩,rfl⟩:=hes e he;exact⟨b,hx⟩
 have e1:oz false [V.sl false (l.map (V.int .i64))]= .sl false (l.map (V.int .i64)):=rfl;have e2: ∀n,oz false [V.int .i64 n]= .int .i64 n:=fun _=>rfl;rw[e1,e2]at hb⊢;simp only[mT]at hb;have e3:Up (.sl false (l.map (V.int .i64)))=mT (l.map (V.int .i64))+1:=rfl;rw[e3,Ya]at hb;exact acx l n (by omega)
theorem a0:Rows.stepApartUptoRow.wf (OpenSpec.ofChange (Rows.OpenSpec.upto Rows.stepApartSpec).bare)=true:=by kernel_rfl
theorem a1:Tryz.f5.params.all (Tryz.pinned.checked.prog.readableRec ·)=true:=by kernel_rfl
theorem a2:namedTie Tryz.pinned.checked.prog Rows.stepApartUptoRow.named (Rows.OpenSpec.upto Rows.stepApartSpec).bare.vars=true:=by kernel_rfl
theorem a3:(Rows.stepApartUptoRow.stops==[])=true:=by kernel_rfl
theorem a4:(Rows.stepApartUptoRow.knobs==[])=true:=by kernel_rfl
theorem a5:(Rows.stepApartUptoRow.inPlace==Tryz.pinned.checked.prog.inPlace 5)=true:=by kernel_rfl
theorem a6:(Rows.stepApartUptoRow.unfollowed==Tryz.pinned.checked.prog.unfollowed 5)=true:=by kernel_rfl
theorem a7:(Rows.stepApartUptoRow.recurses==Tryz.pinned.checked.prog.recurses 5)=true:=by kernel_rfl
theorem a8:(Rows.stepApartUptoRow.named==Tryz.pinned.checked.prog.varsNamed 5)=true:=by kernel_rfl
theorem a9:(Rows.stepApartUptoRow.maps==(Tryz.f5.params.toList++(Rows.OpenSpec.upto Rows.stepApartSpec).bare.plain.varTypes Tryz.pinned.checked.prog).any (Tryz.pinned.checked.prog.mapsRec ·))=true:=by kernel_rfl
theorem Px:(Rows.stepApartUptoRow.ifaces==(Tryz.f5.params.toList++(Rows.OpenSpec.upto Rows.stepApartSpec).bare.plain.varTypes Tryz.pinned.checked.prog).any (Tryz.pinned.checked.prog.ifacesRec ·))=true:=by kernel_rfl
theorem a11:(Rows.stepApartUptoRow.mapsOut==Tryz.pinned.checked.prog.mapsAmong Tryz.f5.resultTypes.toList)=true:=by kernel_rfl
theorem a12:(Rows.stepApartUptoRow.loops==(Tryz.f5.params.toList++(Rows.OpenSpec.upto Rows.stepApartSpec).bare.plain.varTypes Tryz.pinned.checked.prog).any (Tryz.pinned.checked.prog.loopsFrom ·))=true:=by kernel_rfl
theorem a13:(Rows.stepApartUptoRow.wideKeys==(Tryz.f5.params.toList++(Rows.OpenSpec.upto Rows.stepApartSpec).bare.plain.varTypes Tryz.pinned.checked.prog++Tryz.f5.resultTypes.toList).any (Tryz.pinned.checked.prog.wideKeysFrom ·))=true:=by kernel_rfl
theorem a14:(Rows.OpenSpec.upto Rows.stepApartSpec).bare.vars.all (Tryz.pinned.checked.prog.varReadable ·)=true:=by kernel_rfl
theorem a15:Tryz.f5.resultTypes.all (fun t=>Tryz.pinned.checked.prog.readableRec t&&decide (t<Tryz.pinned.checked.prog.types.size))=true:=by kernel_rfl
theorem a16:(Rows.stepApartUptoRow.ifacesOut==Tryz.f5.resultTypes.toList.any (Tryz.pinned.checked.prog.ifacesRec ·))=true:=by kernel_rfl
theorem a17:(Rows.stepApartUptoRow.loopsOut==Tryz.f5.resultTypes.toList.any (Tryz.pinned.checked.prog.loopsFrom ·))=true:=by kernel_rfl
theorem a18:(Rows.stepApartUptoRow.plainKeys==Tryz.pinned.checked.prog.plainKeys)=true:=by kernel_rfl
theorem a19:Rows.stepApartUptoRow.shortTexts.isNone=true:=by kernel_rfl
theorem a20:(Rows.stepApartUptoRow.lifted==Tryz.pinned.checked.prog.liftsFinal)=true:=by kernel_rfl
theorem a21:(Tryz.pinned.checked.prog.make==some Rows.stepApartUptoRow.make)=true:=by kernel_rfl
theorem a22:(Rows.stepApartUptoRow.kinds==(if Rows.stepApartUptoRow.domain.isEmpty then [] else Tryz.f5.params.toList.map fun t=>match Tryz.pinned.checked.prog.underlying t with|some (.int k)=>some k|_=>none))=true:=by kernel_rfl
theorem a23:(Rows.stepApartUptoRow.pinned==Rows.stepApartUptoRow.pinnedBy)=true:=by kernel_rfl
theorem a24:(Rows.stepApartUptoRow.veiled==(Tryz.f5.params.toList++(Rows.OpenSpec.upto Rows.stepApartSpec).bare.plain.varTypes Tryz.pinned.checked.prog++Tryz.f5.resultTypes.toList).any (Tryz.pinned.checked.prog.veiledRec ·))=true:=by kernel_rfl
theorem a25:Rows.stepApartUptoRow.veiledFits Tryz.pinned.checked.prog Tryz.f5.params.toList (Tryz.f5.params.toList++(Rows.OpenSpec.upto Rows.stepApartSpec).bare.plain.varTypes Tryz.pinned.checked.prog++Tryz.f5.resultTypes.toList)=true:=by kernel_rfl
theorem closed:joinedFacts Tryz.pinned.checked.prog 5 Tryz.f5 (Rows.OpenSpec.upto Rows.stepApartSpec).bare Rows.stepApartUptoRow=true:=by
 unfold joinedFacts;exact(gW (gW (gW (gW (gW (gW (gW (gW (gW (gW (gW (gW (gW (gW (gW (gW (gW (gW (gW (gW (gW (gW (gW (gW (gW (gW (gW (gW (gW (gW (gW a0 abw) al0) a1) a2) a3) aez) a4) ae0) a5) a6) a7) a8) a9) Px) a11) a12) a13) a14) a15) a16) a17) a18) a19) heard) ae1) a20) a21) a22) a23) a24) a25)
theorem isI:Tryz.f5.isInstance Tryz.pinned.checked.prog Rows.stepApartUptoRow.origin Rows.stepApartUptoRow.targs:=of_decide_eq_true (by kernel_rfl)
theorem isW:Tryz.f5.isWrapper Tryz.pinned.checked.prog Rows.stepApartUptoRow.wrapper Rows.stepApartUptoRow.mainSum:=by
 unfold Func.isWrapper;first|(rw[if_pos (by decide+kernel)];kernel_rfl)|(rw[if_neg (by decide+kernel)];exact⟨rfl,rfl⟩)
theorem apb:Tryz.pinned.checked.prog.funcNamed Rows.stepApartUptoRow.func=some 5:=by kernel_rfl
theorem lifted(os:Os)(started:os.Started)(H:Type)(enc:TypeId×Value->H)(F:Stop.Interp):
  ReturnsInHanded {} Tryz.checked os 5 .any ((Rows.OpenSpec.upto Rows.stepApartSpec).pre6 enc Tryz.prog Tryz.f5 Rows.stepApartUptoRow.domain false) (((Rows.OpenSpec.upto Rows.stepApartSpec).at F).post enc Tryz.prog Tryz.f5 false true false false):=by
 refine returnsInHanded_of_cond (C:=Tryz.checked) (s:=(Rows.OpenSpec.upto Rows.stepApartSpec)) (k:=Rows.uptoSmall) rfl own started (by kernel_rfl) Tryz.func5
  (OpenSpec.witness (enc:=enc) (C:=Tryz.checked) (s:=(Rows.OpenSpec.upto Rows.stepApartSpec)) (k:=Rows.uptoSmall) rfl false ⟨#[],#[.slice none 0 0,.int .i64 0],[]⟩ 8 (by kernel_rfl) (by kernel_rfl) (by kernel_rfl)
   (x:=([.nil,.lit (.int .i64 0)],[],[])) (by kernel_rfl) rfl (by kernel_rfl)) ?_
 intro W base args ds gs before Hl hW _ hk _;have hgs:gs=[]:=by
  obtain⟨p,q,_,hV,_⟩:=hW;cases gs with
  |nil=>rfl
  |cons _ _=>simp[DataW.TrodVars,Rows.stepApartSpec,Rows.OpenSpec.upto,OpenSpec.ofChange]at hV
 subst hgs;rw[List.append_nil]at hk;exact Uu Fo ao9 (s:=Rows.stepApartSpec) rfl (fun H ds hl=>by
  match ds,hl with
  | [a,b],_=>rfl) apa H Rows.uptoBulk (cX8 H) enc W base args ds [] before Hl hW (cX9 hk)
theorem pZ:Rows.stepApartUptoRow.holds Tryz.pinned (Rows.OpenSpec.upto Rows.stepApartSpec):=
 OpenClaim.holds_of_cond 5 Tryz.f5 rfl rfl rfl rfl rfl rfl rfl ⟨rfl,rfl,rfl,rfl,rfl⟩ rfl rfl rfl rfl rfl apb Tryz.func5 closed isI isW
  (fun os started H enc _ F=>lifted os started H enc F)
end apart
theorem stepApart:Rows.StepApartUptoSaid:=apart.pZ
end Go.Proofs.YtejohpnpnaljdaaGreat
