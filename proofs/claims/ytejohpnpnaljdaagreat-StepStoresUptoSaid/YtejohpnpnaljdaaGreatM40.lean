/- Part of a proof: F15. -/
import Derived.Test.YtejohpnpnaljdaaGreatM21
import Derived.Test.YtejohpnpnaljdaaGreatM36
import Derived.Test.YtejohpnpnaljdaaGreatM38
set_option linter.all false
set_option maxRecDepth 20000
set_option maxHeartbeats 20000000
namespace Go.Proofs.YtejohpnpnaljdaaGreat
open Go Go.Abs Go.Abs.lu
def o5(x:Thread)(c:Cell):Thread:=⟨1,x.bm.set 0 c,x.pc,x.count,x.bV,x.saved,x.dd,x.code⟩
theorem CU{d:Int}{x:Thread}(h:dF d x){c:Cell}(hc:hY c):dF d (o5 x c):=
 ⟨by simp[o5],by simp[o5,h.bm],h.cells.set hc 0,h.pc,h.count,h.bV,h.saved,h.dd,h.code⟩
theorem tJ(ids:Nat->Nat)(i:Nat)(x:Thread)(c:Cell)(h:x.bm.length=8):db ids i (o5 x c)= .agg [.int .i64 1,.bU (ids i) 0 8,.int .i64 x.pc,.int .i64 x.count,.int .i64 x.bV,.int .i64 x.saved,.int .i64 x.dd,.int .u16 x.code]:=by
 simp[db,o5,h]
theorem VY{α:Type}{l:List α}(h:l.length=4):l.take 4=l:=bn (by omega)
@[simp] theorem agz(ay:List Instr)(ah:List Int)(az:List (List Int))(aa:List Int)(aw:Int)(aq:List Cell)(an:List cx)(ax:List Thread)(t cJ cL bW bX:Int)(dx:List Canon)(eg:Int)(ma:Bool)(h:aY)(k:Nat)(S:Nat->Prop)(T:Nat)(vB vC vL:V)(es:List V)(d:Int)(HM:jM h k S T vB vC vL es (bf.mk (aN.mk aa aw) (aK.mk aq an) ax))(HG:cR (Prog.mk ay ah az) d (bf.mk (aN.mk aa aw) (aK.mk aq an) ax))(hd:d<=1099511627776)(hx:ui (sX.mk (Canon.mk cJ cL bW bX) dx eg ma)): ∃v h' k',cy X 213 [(ay,ah,az),.agg [vB,.int .u16 aw,vC,vL,.bU T 0 4],t,.agg [.int .u8 cJ,.int .u16 cL,bW,bX,dx,eg,ma]] h k=some (v,h',k')/\gr (Prog.mk ay ah az) d ⟨aa,aw⟩ h k S v h' k':=by
 have MG:=HG.mono hd;have hv:jc (Prog.mk ay ah az) (bf.mk (aN.mk aa aw) (aK.mk aq an) ax)=true:=MG.ok;have hp:=HG.prog.lens;have uj:=HG.lens;have hL:=HG.lay;have dV:=HM.row;have su:=HM.len;have hl:ax.length=4:=HM.af9;have hkT:=HM.lt T HM.Vs;have zV:dx.length<=1000000000:=by have:=hx.len;simp only at this;omega
 have iB: ∀H,Below k h H->bT H 11 vB=some (.sl false (aa.map (V.int .i64))):=fun H hB=>(HM.dy H (fun i hi _=>hB i (HM.lt i hi)) 8).1;have iC: ∀H,Below k h H->bT H 11 vC=some (.sl false (aq.map Cell.e)):=fun H hB=>(HM.dy H (fun i hi _=>hB i (HM.lt i hi)) 8).2.1;have iL: ∀H,Below k h H->bT H 11 vL=some (.sl false (an.map cx.e)):=fun H hB=>(HM.dy H (fun i hi _=>hB i (HM.lt i hi)) 8).2.2.1;have iE: ∀H,Below k h H->cn (es.map (bT H 10))=some (ax.map Thread.e):=fun H hB=>(HM.dy H (fun i hi _=>hB i (HM.lt i hi)) 7).2.2.2;have te:=VY su;have q: ∀j,¬T=k+j:=fun j=>by omega
 have q0: ¬T=k:=by omega
 cases hr:xZ (sX.mk (Canon.mk cJ cL bW bX) dx eg ma) with
 |false=>
  refine bu (X:=X) Tryz.func213 rfl rfl ?_;simp-implicitDefEqProofs[Nat.add_assoc,hv,hp,uj,dV,su,zV,iB,iC,iL,iE,te,q,q0,hr,bN,bS,cp];exact gr.same HM HG (by simp only[bN,bS,cp])
 |true=>
 by_cases t0:0<=t
 case neg=>
  have QZ:t<0:=by omega
  refine bu (X:=X) Tryz.func213 rfl rfl ?_;simp-implicitDefEqProofs[Nat.add_assoc,hv,hp,uj,dV,su,zV,iB,iC,iL,iE,te,q,q0,hr,QZ,bN,bS,cp];exact gr.same HM HG (by simp only[bN,bS,cp])
 have QZ: ¬t<0:=by omega
 by_cases t4:t<4
 case neg=>
  have WT:4<=t:=by omega
  refine bu (X:=X) Tryz.func213 rfl rfl ?_;simp-implicitDefEqProofs[Nat.add_assoc,hv,hp,uj,dV,su,zV,iB,iC,iL,iE,te,q,q0,hr,QZ,WT,bN,bS,cp];exact gr.same HM HG (by simp only[bN,bS,cp])
 have WT: ¬4<=t:=by omega
 obtain⟨n,rfl⟩:=Int.eq_ofNat_of_zero_le t0;have n4:n<4:=by omega
 have nl:n<ax.length:=by omega
 have nle:n<es.length:=by omega
 obtain⟨vR,JA⟩:=HM.aga n nle nl;simp only at JA;by_cases hs:(ax[n]).state=3
 case neg=>
  refine bu (X:=X) Tryz.func213 rfl rfl ?_;simp-implicitDefEqProofs[Nat.add_assoc,hv,hp,uj,dV,su,zV,iB,iC,iL,iE,te,q,q0,hr,t0,QZ,t4,WT,n4,JA,hs,bN,bS,cp];exact gr.same HM HG (by simp only[bN,bS,cp])
 have ln:=eq_true hs;have hc:=sL (aD:=aa) (key:=aw) (ae:=ah) hx.value;obtain⟨⟨ct,cv⟩,w,sQ⟩: ∃c w,raw aa aw ah ⟨cJ,cL,bW,bX⟩=(c,w):=⟨_,_,rfl⟩;simp only[sQ]at hc;by_cases hw:w=0
 case neg=>
  refine bu (X:=X) Tryz.func213 rfl rfl ?_;simp-implicitDefEqProofs[Nat.add_assoc,hv,hp,uj,hL,dV,su,zV,iB,iC,iL,iE,te,q,q0,hr,t0,QZ,t4,WT,n4,JA,ln,sQ,hw,bN,bS,cp];exact gr.same HM HG (by simp only[bN,bS,cp])
 subst hw;obtain⟨v1,h1,k1,eC,ek,ev,HA,HB⟩:=Bj aa aw aq an ax (k+50) (Prog.mk ay ah az) _ MG;subst ek;subst ev;simp only[Nat.add_assoc,Nat.reduceAdd]at eC HA HB;have HP:=HA.pure;have pT:=HP.nv;have pR:=HP.Ez n nl;simp only at pT pR;have Ct:=ed (pG (k+168) (k+187) (k+206) (k+225)) ax;rw[hl]at Ct;have gg:=eF (ids:=pG (k+168) (k+187) (k+206) (k+225)) nl;have VZ:=(MG.nv n nl).bm;simp only at VZ;have a1:=(HB.2.1 n n4).2;have a2:=(HP.qB n n4).2.2.1;obtain⟨I,hI⟩: ∃I,pG (k+168) (k+187) (k+206) (k+225) n=I:=⟨_,rfl⟩;rw[hI]at pR a1 a2;simp only[hI]at gg;have b1: ∀j,j<50-> ¬I=k+j:=fun j _=>by omega
 have b1': ∀j,j<50-> ¬k+j=I:=fun j _=>by omega
 have b2: ¬I=k+232:=a2;have b2': ¬k+232=I:=fun e=>a2 e.symm;have b3: ¬I<k+50:=by omega
 have b0: ¬I=k:=by omega
 have b0': ¬k=I:=by omega
 refine bu (X:=X) Tryz.func213 rfl rfl ?_;simp-implicitDefEqProofs[Nat.add_assoc,hv,hp,uj,hL,hl,dV,su,zV,iB,iC,iL,iE,te,q,q0,hr,t0,QZ,t4,WT,n4,JA,ln,sQ,eC,mC,nw,yC,pT,pR,Ct,gg,VZ,b1,b1',b2',b3,bN,bS,cp];refine gr.new (m:=kq (bf.mk (aN.mk aa aw) (aK.mk aq an) ax) (bf.memory (bf.mk (aN.mk aa aw) (aK.mk aq an) ax)) n (o5 ax[n] ⟨ct,cv⟩)) (HP.put HB (by omega) n4 ?_ ?_ ?_) (HB.less (by omega)) (vO HG (Int.le_refl _) HG.mem HG.coh (CU (HG.nv n nl) hc)) rfl ?_
 ·rw[<-gq nl,tJ _ _ _ _ VZ,hI];simp[aO]
 ·rw[hI];have c5: ¬I=k+3:=by omega
  simp[aO,b2,c5,o5,Cell.bP]
 ·intro i hi1 GW xE uk;rw[hI]at uk;have c1: ¬i<k+50:=by omega
  have c2: ¬i=k+3:=by omega
  have c3: ¬i=k+48:=by omega
  simp[aO,c1,c2,c3,xE,uk]
 ·simp only[bS];intro i hi;have c1:i<k+50:=by omega
  have c2: ∀j,¬i=k+j:=fun j=>by omega
  have c3: ¬i=k:=by omega
  have c4: ¬i=I:=by omega
  simp[aO,c1,c2,c3,c4]
end Go.Proofs.YtejohpnpnaljdaaGreat
