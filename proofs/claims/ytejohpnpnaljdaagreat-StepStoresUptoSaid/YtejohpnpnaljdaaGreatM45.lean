/- Part of a proof: S26. -/
import Derived.Test.YtejohpnpnaljdaaGreatM25
import Derived.Test.YtejohpnpnaljdaaGreatM32
import Derived.Test.YtejohpnpnaljdaaGreatM39
import Derived.Test.YtejohpnpnaljdaaGreatM43
set_option linter.all false
set_option maxRecDepth 20000
set_option maxHeartbeats 20000000
namespace Go.Proofs.YtejohpnpnaljdaaGreat
open Go Go.Abs Go.Abs.lu
@[simp] theorem Qf(bB:List Instr)(bw:List Int)(bC:List (List Int))(aE:List Int)(aG:Int)(aH:List Cell)(aJ:List cx)(aA:List Thread)(bz bg:List Int)(bh:List (List Int))(aP:List (List Canon))(aM:List dT)(aX:List Output)(bF:List Int)(bG:List (List Int))(cu:List Entry)(cF:List Int)(fk rm rn oO CT iN:Int)(ke nE:List Canon)(oP:aA.length=4)(ho:pQ ⟨bz,bg,bh,⟨aP,aM⟩,aX⟩)(hl:gY ⟨bF,bG⟩)(hj:cF.length=4)(hrc:cu.length<=1000000)(qO:0<=fk/\fk<4)(fJ:ke.length<=3)(VK:nE.length<=16)(Db:(iN=8\/iN=9\/iN=11)->1<=ke.length)(DG:fe ke)(hdv:fe nE): ∃(o2:cN) (l2:bR) (wG:List Int) (x:sX),lZ X [(0,16,233),(0,17,3),(0,7,52)] 201 18 (.agg [bB,bw,bC,aE,.int .u16 aG,aH,aJ,aA,.sl false (bz.map (V.int .u16)),.sl false (bg.map (V.int .u16)),bh,aP,aM,aX,bF,.sl false (bG.map cI),cu,cF]) [.agg [fk,rm,rn,oO,CT,iN,ke,nE]]=some (18,.agg [.sl false (bB.map Instr.e),.sl false (bw.map (V.int .i64)),.sl false (bC.map aS),.sl false (aE.map (V.int .i64)),.int .u16 aG,.sl false (aH.map Cell.e),.sl false (aJ.map cx.e),.sl false (aA.map Thread.e),.sl false (o2.clock.map (V.int .u16)),.sl false (o2.random.map (V.int .u16)),.sl false (o2.cO.map aS),.sl false (o2.files.data.map ba),.sl false (o2.files.opens.map dT.e),.sl false (o2.cT.map Output.e),.sl false (l2.owner.map (V.int .i64)),.sl false (l2.queue.map cI),.sl false (cu.map Entry.e),.sl false (wG.map (V.int .i64))],[.agg [.int .u8 x.value.tag,.int .u16 x.value.val,.int .i64 x.value.region,.int .i64 x.value.offset,.sl false (x.data.map Canon.e),.int .i64 x.spawn,.bool x.wait]],.bad)/\pQ o2/\gY l2/\wG.length=4/\ui x:=by
 have FY: ∀(f:Thread->V),List.take 4 (aA.map f)=aA.map f:=fun f=>bn (by simp;omega);have PL: ∀(f:Thread->Option V),List.take 4 (aA.map f)=aA.map f:=fun f=>bn (by simp;omega);have Jm: ∀(hx:aY),cn (aA.map (bT hx 12∘Thread.e))=some (aA.map Thread.e):=fun hx=>m9 (fun _=>rfl) aA;have DN: ∀(f:Int->V),List.take 4 (cF.map f)=cF.map f:=fun f=>bn (by simp;omega);have w0:IntKind.u16.wrap 0=0:=by decide
 have nN:cu.length<=1000000000:=by omega
 have first:(iN=8\/iN=9\/iN=11)-> ∃(h0:0<ke.length) (a b c d:Int),ke[0]=⟨a,b,c,d⟩/\0<=b/\b<=65535:=fun h=>by
  have h0:0<ke.length:=by have:=Db h;omega
  have hv:=DG _ (List.getElem_mem h0);obtain⟨⟨a,b,c,d⟩,e⟩: ∃z,ke[0]=z:=⟨_,rfl⟩;rw[e]at hv;exact⟨h0,a,b,c,d,e,hv.1,hv.2⟩
 by_cases c0:iN=0
 ·subst c0;refine⟨_,_,_,kr 0 true,dN (X:=X) Tryz.func201 rfl rfl ?_,ho,hl,hj,iI _ _⟩;simp-implicitDefEqProofs[w0,oP,hj,FY,Jm,DN,kr]
 by_cases QW:iN=12
 ·subst QW;refine⟨_,_,_,kr 0 true,dN (X:=X) Tryz.func201 rfl rfl ?_,ho,hl,hj,iI _ _⟩;simp-implicitDefEqProofs[w0,oP,hj,FY,Jm,DN,kr]
 by_cases c15:iN=15
 ·subst c15;refine⟨_,_,_,kr 0 true,dN (X:=X) Tryz.func201 rfl rfl ?_,ho,hl,hj,iI _ _⟩;simp-implicitDefEqProofs[w0,oP,hj,FY,Jm,DN,kr]
 by_cases c8:iN=8
 ·obtain⟨h0,a,b,c,d,Gz,b0,b1⟩:=first (.inl c8)
  have Cf:IntKind.i64.wrap b=b:=wrap_i64 (by omega);have hG:=Vh hl b qO;obtain⟨⟨Qg,Qh⟩,xD,hT⟩: ∃l2 xD,oZ ⟨bF,bG⟩ b fk=(l2,xD):=⟨_,_,rfl⟩;have ya:=Gd bF bG b fk hl;rw[hT]at hG ya;simp only at hG ya;subst c8;by_cases w2:xD=2
  ·subst w2;refine⟨⟨bz,bg,bh,⟨aP,aM⟩,aX⟩,⟨Qg,Qh⟩,cF,kr 0 false,dN (X:=X) Tryz.func201 rfl rfl ?_,ho,hG,hj,iI _ _⟩;simp-implicitDefEqProofs[oP,hj,FY,Jm,DN,kr,h0,Gz,Cf,ya]
  by_cases w1:xD=1
  ·subst w1;refine⟨⟨bz,bg,bh,⟨aP,aM⟩,aX⟩,⟨Qg,Qh⟩,cF,⟨⟨0,0,0,0⟩,[], -1,true⟩,dN (X:=X) Tryz.func201 rfl rfl ?_,ho,hG,hj,⟨⟨by simp,by simp⟩,.nil,by simp⟩⟩;simp-implicitDefEqProofs[w0,oP,hj,FY,Jm,DN,h0,Gz,Cf,ya]
  ·refine⟨⟨bz,bg,bh,⟨aP,aM⟩,aX⟩,⟨Qg,Qh⟩,cF,⟨⟨0,0,0,0⟩,[], -1,false⟩,dN (X:=X) Tryz.func201 rfl rfl ?_,ho,hG,hj,⟨⟨by simp,by simp⟩,.nil,by simp⟩⟩;simp-implicitDefEqProofs[w0,oP,hj,FY,Jm,DN,h0,Gz,Cf,ya,w1,w2]
 by_cases c9:iN=9
 ·obtain⟨h0,a,b,c,d,Gz,b0,b1⟩:=first (.inr (.inl c9))
  have Cf:IntKind.i64.wrap b=b:=wrap_i64 (by omega);have hG:=(Cx hl b fk).1;obtain⟨⟨Qg,Qh⟩,own,ok,hT⟩: ∃l2 own ok,fj ⟨bF,bG⟩ b fk=(l2,own,ok):=⟨_,_,_,rfl⟩;have ya:=yA bF bG b fk hl;rw[hT]at hG ya;simp only at hG ya;subst c9;refine⟨⟨bz,bg,bh,⟨aP,aM⟩,aX⟩,⟨Qg,Qh⟩,cF,kr 0 ok,dN (X:=X) Tryz.func201 rfl rfl ?_,ho,hG,hj,iI _ _⟩;simp-implicitDefEqProofs[w0,oP,hj,FY,Jm,DN,kr,h0,Gz,Cf,ya]
 by_cases LA:iN=10
 ·subst LA;obtain⟨⟨s0,r0,p0,n0,a0,v0,t0,d0⟩,⟨s1,r1,p1,n1,a1,v1,t1,d1⟩,⟨s2,r2,p2,n2,a2,v2,t2,d2⟩,⟨s3,r3,p3,n3,a3,v3,t3,d3⟩,rfl⟩:=DB oP;have fin: ∀z:Int,ui ⟨⟨0,IntKind.u16.wrap z,0,0⟩,[],z,false⟩:=fun z=>⟨nP _,.nil,by simp⟩;by_cases e0:s0=0
  ·refine⟨⟨bz,bg,bh,⟨aP,aM⟩,aX⟩,⟨bF,bG⟩,cF,⟨⟨0,IntKind.u16.wrap 0,0,0⟩,[],0,false⟩,dN (X:=X) Tryz.func201 rfl rfl ?_,ho,hl,hj,fin 0⟩;simp-implicitDefEqProofs[hj,DN,w0,di,Thread.bP,e0]
  by_cases e1:s1=0
  ·refine⟨⟨bz,bg,bh,⟨aP,aM⟩,aX⟩,⟨bF,bG⟩,cF,⟨⟨0,IntKind.u16.wrap 1,0,0⟩,[],1,false⟩,dN (X:=X) Tryz.func201 rfl rfl ?_,ho,hl,hj,fin 1⟩;simp-implicitDefEqProofs[hj,DN,di,Thread.bP,e0,e1]
  by_cases e2:s2=0
  ·refine⟨⟨bz,bg,bh,⟨aP,aM⟩,aX⟩,⟨bF,bG⟩,cF,⟨⟨0,IntKind.u16.wrap 2,0,0⟩,[],2,false⟩,dN (X:=X) Tryz.func201 rfl rfl ?_,ho,hl,hj,fin 2⟩;simp-implicitDefEqProofs[hj,DN,di,Thread.bP,e0,e1,e2]
  by_cases e3:s3=0
  ·refine⟨⟨bz,bg,bh,⟨aP,aM⟩,aX⟩,⟨bF,bG⟩,cF,⟨⟨0,IntKind.u16.wrap 3,0,0⟩,[],3,false⟩,dN (X:=X) Tryz.func201 rfl rfl ?_,ho,hl,hj,fin 3⟩;simp-implicitDefEqProofs[hj,DN,di,Thread.bP,e0,e1,e2,e3]
  ·refine⟨⟨bz,bg,bh,⟨aP,aM⟩,aX⟩,⟨bF,bG⟩,cF,kr 0 false,dN (X:=X) Tryz.func201 rfl rfl ?_,ho,hl,hj,iI _ _⟩;simp-implicitDefEqProofs[hj,DN,di,Thread.bP,kr,e0,e1,e2,e3]
 by_cases WR:iN=11
 ·obtain⟨h0,a,b,c,d,Gz,b0,b1⟩:=first (.inr (.inr WR))
  have Cf:IntKind.i64.wrap b=b:=wrap_i64 (by omega);obtain⟨qt,rfl⟩:=Int.eq_ofNat_of_zero_le qO.1;have qt4:qt<4:=by omega
  have avq:(qt:Int)<4:=by omega
  obtain⟨kb,rfl⟩:=Int.eq_ofNat_of_zero_le b0;subst WR;by_cases e1:kb=qt
  ·subst e1;refine⟨⟨bz,bg,bh,⟨aP,aM⟩,aX⟩,⟨bF,bG⟩,cF,kr 0 false,dN (X:=X) Tryz.func201 rfl rfl ?_,ho,hl,hj,iI _ _⟩;simp-implicitDefEqProofs[oP,hj,FY,Jm,DN,kr,h0,Gz,Cf]
  by_cases e2:4<=kb
  ·have e2i:(4:Int)<=kb:=by omega
   refine⟨⟨bz,bg,bh,⟨aP,aM⟩,aX⟩,⟨bF,bG⟩,cF,kr 0 false,dN (X:=X) Tryz.func201 rfl rfl ?_,ho,hl,hj,iI _ _⟩;simp-implicitDefEqProofs[oP,hj,FY,Jm,DN,kr,h0,Gz,Cf,e2i]
  have k4:kb<4:=by omega
  have LK:(kb:Int)<4:=by omega
  have e2i: ¬(4:Int)<=kb:=by omega
  have e1i: ¬(kb:Int)=qt:=by omega
  have kl:kb<aA.length:=by omega
  by_cases e3:(aA[kb]).state=0
  ·have e3':=eq_true e3;refine⟨⟨bz,bg,bh,⟨aP,aM⟩,aX⟩,⟨bF,bG⟩,cF,kr 0 false,dN (X:=X) Tryz.func201 rfl rfl ?_,ho,hl,hj,iI _ _⟩;simp-implicitDefEqProofs[oP,hj,FY,Jm,DN,kr,h0,Gz,Cf,e1i,e2i,k4,LK,e3']
  by_cases e4:(aA[kb]).state=4
  ·have e4':=eq_true e4;refine⟨⟨bz,bg,bh,⟨aP,aM⟩,aX⟩,⟨bF,bG⟩,cF,kr (IntKind.i64.wrap (aA[kb]).code) true,dN (X:=X) Tryz.func201 rfl rfl ?_,ho,hl,hj,iI _ _⟩;simp-implicitDefEqProofs[oP,hj,FY,Jm,DN,kr,h0,Gz,Cf,e1i,e2i,k4,LK,e3,e4']
  ·obtain⟨wG,an5⟩: ∃z,cF.set qt (kb:Int)=z:=⟨_,rfl⟩;have jI:(cF.map (V.int .i64)).set qt (V.int .i64 (kb:Int))=wG.map (V.int .i64):=by rw[<-an5,List.map_set]
   have C8:wG.length=4:=by rw[<-an5];simp[hj]
   have an6: ∀(f:Int->V),List.take 4 (wG.map f)=wG.map f:=fun f=>bn (by simp;omega);refine⟨⟨bz,bg,bh,⟨aP,aM⟩,aX⟩,⟨bF,bG⟩,wG,⟨⟨0,0,0,0⟩,[], -1,true⟩,dN (X:=X) Tryz.func201 rfl rfl ?_,ho,hl,C8,⟨⟨by simp,by simp⟩,.nil,by simp⟩⟩;simp-implicitDefEqProofs[w0,oP,hj,FY,Jm,h0,Gz,Cf,e1i,e2i,k4,LK,e3,e4,qt4,avq,jI,C8,an6]
 obtain⟨⟨oc2,or2,oi2,⟨od2,oo2⟩,ou2⟩,⟨⟨x1,x2,x3,x4⟩,x5,x6,x7⟩,e,ya,hog,hxg⟩:=au3 bz bg bh aP aM aX fk rm rn oO CT iN ke nE ho (by omega) (by omega) hdv;refine⟨⟨oc2,or2,oi2,⟨od2,oo2⟩,ou2⟩,⟨bF,bG⟩,cF,⟨⟨x1,x2,x3,x4⟩,x5,x6,x7⟩,dN (X:=X) Tryz.func201 rfl rfl ?_,hog,hl,hj,hxg⟩;simp-implicitDefEqProofs[oP,hj,FY,Jm,DN,c0,QW,c15,c8,c9,LA,WR,ya]
end Go.Proofs.YtejohpnpnaljdaaGreat
