/- StepKinds in its second form: for every list of numbers and every number whose bulk is at most 1048576, the law answers true and its input reads as before. -/
import Derived.Test.YtejohpnpnaljdaaGreatM13
import Derived.Test.YtejohpnpnaljdaaGreatM52
set_option linter.all false
set_option maxRecDepth 100000
set_option maxHeartbeats 20000000
namespace Go.Abs
open Go
section
variable {X:Env} {f:FuncId} {S:St} {Q:Ex->St->Prop}
end
section
variable {X:Env} {S:St} {rs:List ResultVar} {K:V->aY->Nat->Prop}
end
theorem acw(K:V->aY->Prop):jw none K=False:=rfl
section
variable {X:Env} {fx:FuncId} {cG:List (Option Nat)} {n0 kk n:Nat} {r:List Oper} {ff:Nat->V} {hp:aY} {K:St->Prop} {d:Nat} {ty:TypeId} {ps:String} {af:Array Edge}
end
section
variable (S:St) (N:Norm) (hx:aY)
end
attribute [simp] acw
end Go.Abs
namespace Go.Abs.lu
open Go Go.Abs
@[simp] theorem adg(l:List dT):df (l.map dT.e)=l.map dT.e:=jV (fun x=>by simp[dT.bP]) l
@[simp] theorem ac3(l:List Output):df (l.map Output.e)=l.map Output.e:=jV (fun x=>by simp[Output.bP]) l
@[simp] theorem ac8(l:List Entry):df (l.map Entry.e)=l.map Entry.e:=jV (fun x=>by simp[Entry.bP]) l
end Go.Abs.lu
namespace Go.Proofs.YtejohpnpnaljdaaGreat
open Go Go.Abs Go.Abs.lu
theorem ac4{p:Prog}{c:Int}{m:bf}(H:cR p c m){t:Nat}(ht:t<4):cR p (c+1) (hZ p m t).1:=by
 have hl:t<m.threads.length:=by rw[H.len];exact ht
 have:=uU H (H.nv t hl);unfold hZ;rw[U5 hl];exact vO H (by omega) this.mem (fun g=>ab6 H (H.coh (by omega)) _) this.nv
end Go.Proofs.YtejohpnpnaljdaaGreat
namespace Go.Proofs.YtejohpnpnaljdaaGreat
open Go Go.Abs Go.Abs.lu
theorem acg:kv fG=[.sl false [],.int .u16 0,.sl false [],.sl false [],.sl false []]:=rfl
@[simp] theorem acq(ay:List Instr)(ah:List Int)(az:List (List Int))(aa:List Int)(aw:Int)(aq:List Cell)(an:List cx)(ax:List Thread)(t:Int)(hp:rK (Prog.mk ay ah az))(hm:qA (bf.mk (aN.mk aa aw) (aK.mk aq an) ax))(hr:yl (bf.mk (aN.mk aa aw) (aK.mk aq an) ax)):cz X 36 [.agg [.sl false (ay.map Instr.e),.sl false (ah.map (V.int .i64)),.sl false (az.map aS)],.agg (kv (bf.mk (aN.mk aa aw) (aK.mk aq an) ax)),.int .i64 t]=some (.de [.agg (kv (AY (Prog.mk ay ah az) (bf.mk (aN.mk aa aw) (aK.mk aq an) ax) t).1),.int .i64 (AY (Prog.mk ay ah az) (bf.mk (aN.mk aa aw) (aK.mk aq an) ax) t).2.1,.int .i64 (AY (Prog.mk ay ah az) (bf.mk (aN.mk aa aw) (aK.mk aq an) ax) t).2.2]):=by
 by_cases hv:jc (Prog.mk ay ah az) (bf.mk (aN.mk aa aw) (aK.mk aq an) ax)=true
 case neg=>
  rw[YS (fun h=>hv h.1),acg];refine bd Tryz.func36 rfl rfl ?_;unfold kv;simp(maxSteps:=10000000) (maxDischargeDepth:=30) -implicitDefEqProofs[hp,hm,hv]
 by_cases h0:0<=t
 case neg=>
  rw[YS (fun h=>h0 h.2.1),acg];refine bd Tryz.func36 rfl rfl ?_;unfold kv;simp(maxSteps:=10000000) (maxDischargeDepth:=30) -implicitDefEqProofs[hp,hm,hv,h0]
 by_cases h4:t<4
 case neg=>
  rw[YS (fun h=>h4 h.2.2),acg];refine bd Tryz.func36 rfl rfl ?_;unfold kv;simp(maxSteps:=10000000) (maxDischargeDepth:=30) -implicitDefEqProofs[hp,hm,hv,h0,h4]
 obtain⟨n,rfl⟩:=Int.eq_ofNat_of_zero_le h0;have n4:n<4:=by omega
 have MG:=uT hr hv;have hl:ax.length=4:=MG.len;have nl:n<ax.length:=by omega
 have hx:cg (bf.mk (aN.mk aa aw) (aK.mk aq an) ax) (n:Int).toNat=ax[n]:=by rw[Int.toNat_natCast];exact ie nl
 by_cases hs:(ax[n]).state=1
 case neg=>
  have e:AY (Prog.mk ay ah az) (bf.mk (aN.mk aa aw) (aK.mk aq an) ax) n=(fG,0,10):=by unfold AY;rw[if_pos ⟨hv,h0,h4⟩,hx,if_neg hs]
  rw[e,acg];refine bd Tryz.func36 rfl rfl ?_;unfold kv;simp(maxSteps:=10000000) (maxDischargeDepth:=30) -implicitDefEqProofs[hp,hm,hv,h0,h4,n4,hl,hs]
 have e:AY (Prog.mk ay ah az) (bf.mk (aN.mk aa aw) (aK.mk aq an) ax) n=((hZ (Prog.mk ay ah az) (bf.mk (aN.mk aa aw) (aK.mk aq an) ax) n).1,(hZ (Prog.mk ay ah az) (bf.mk (aN.mk aa aw) (aK.mk aq an) ax) n).2,0):=by unfold AY;rw[if_pos ⟨hv,h0,h4⟩,hx,if_pos hs,Int.toNat_natCast]
 rw[e];refine yu.cz ?_;obtain⟨v1,h1,k1,eC,ek,ev,HA,HB⟩:=Bj aa aw aq an ax 28 (Prog.mk ay ah az) _ MG;subst ek;subst ev;simp only[Nat.reduceAdd]at eC HA HB;have hs':=eq_true hs;have key: ∀(H:aY) (K:Nat),H 26=some ⟨5,[.agg [.bU 33 0 aa.length,.int .u16 aw,.bU 48 0 512,.bU 127 0 4,.bU 210 0 4]],true⟩->LG 28 h1 H->218<=K->
   cy X 65 [.agg [.sl false (ay.map Instr.e),.sl false (ah.map (V.int .i64)),.sl false (az.map aS)],.ptr 26 0 0,.int .i64 (n:Int)] H K=some (.int .i64 (hZ (Prog.mk ay ah az) (bf.mk (aN.mk aa aw) (aK.mk aq an) ax) n).2,cH 65 [.agg [.sl false (ay.map Instr.e),.sl false (ah.map (V.int .i64)),.sl false (az.map aS)],.ptr 26 0 0,.int .i64 (n:Int)] H K,cK 65 [.agg [.sl false (ay.map Instr.e),.sl false (ah.map (V.int .i64)),.sl false (az.map aS)],.ptr 26 0 0,.int .i64 (n:Int)] H K)/\cH 65 [.agg [.sl false (ay.map Instr.e),.sl false (ah.map (V.int .i64)),.sl false (az.map aS)],.ptr 26 0 0,.int .i64 (n:Int)] H K 26=some ⟨5,[.agg [.bU 33 0 aa.length,.int .u16 aw,.bU 48 0 512,.bU 127 0 4,.bU 210 0 4]],true⟩/\
   cH 65 [.agg [.sl false (ay.map Instr.e),.sl false (ah.map (V.int .i64)),.sl false (az.map aS)],.ptr 26 0 0,.int .i64 (n:Int)] H K 2=H 2/\ ∃ft,dc (cH 65 [.agg [.sl false (ay.map Instr.e),.sl false (ah.map (V.int .i64)),.sl false (az.map aS)],.ptr 26 0 0,.int .i64 (n:Int)] H K) (cK 65 [.agg [.sl false (ay.map Instr.e),.sl false (ah.map (V.int .i64)),.sl false (az.map aS)],.ptr 26 0 0,.int .i64 (n:Int)] H K) 26 (.bU 33 0 aa.length) 48 127 210 ft (pG 146 165 184 203) (hZ (Prog.mk ay ah az) (bf.mk (aN.mk aa aw) (aK.mk aq an) ax) n).1/\na 28 (.bU 33 0 aa.length) 48 127 210 ft (pG 146 165 184 203):=fun H K hb hO hK=>by
  obtain⟨⟨a1,a2,a3⟩,aI,aB⟩:=HB;have HI:=Vc (b:=26) (by rw[hb];unfold jo;simp only[hl]) (by omega) (by omega) hK HA ⟨⟨a1,a2,a3⟩,aI,aB⟩ hO;obtain⟨h',k',ft,e,G,g1,g2,g3⟩:=amp ay ah az .bad 0 H K 26 _ _ _ _ _ _ (bf.mk (aN.mk aa aw) (aK.mk aq an) ax) n _ HI MG (by omega) n4 ⟨33,rfl⟩;obtain⟨e1,e2⟩:=tS e;rw[e1,e2];have hb2:=G.sE;have hl2:=G.len;refine⟨e,?_,g3 2 (by omega) (by omega) (by omega) (fun j hj=>by have:=aI j hj;omega) (by omega) (by have:=aI n n4;omega),ft,G,⟨a1,a2,a3⟩,fun j hj=>⟨?_,(aI j hj).2⟩,aB⟩
  ·rw[hb2];unfold jo;rw[hl2];rfl
  ·rcases g2 j hj with q|q
   ·rw[q];exact(aI j hj).1
   ·omega
 have cl:=fun H K a b c=>(key H K a b c).1;have cb:=fun H K a b c=>(key H K a b c).2.1;have c2:=fun H K a b c=>(key H K a b c).2.2.1;have fin: ∀(H:aY) (K k':Nat) (x:Option Ob),H 26=some ⟨5,[.agg [.bU 33 0 aa.length,.int .u16 aw,.bU 48 0 512,.bU 127 0 4,.bU 210 0 4]],true⟩->LG 28 h1 H->218<=K->yu (hZ (Prog.mk ay ah az) (bf.mk (aN.mk aa aw) (aK.mk aq an) ax) n).1 (hZ (Prog.mk ay ah az) (bf.mk (aN.mk aa aw) (aK.mk aq an) ax) n).2 0 (.de [.agg [.bU 33 0 aa.length,.int .u16 aw,.bU 48 0 512,.bU 127 0 4,.bU 210 0 4],.int .i64 (hZ (Prog.mk ay ah az) (bf.mk (aN.mk aa aw) (aK.mk aq an) ax) n).2,.int .i64 0]) (aO (cH 65 [.agg [.sl false (ay.map Instr.e),.sl false (ah.map (V.int .i64)),.sl false (az.map aS)],.ptr 26 0 0,.int .i64 (n:Int)] H K) 2 x) k':=fun H K k' x a b c=>by
  obtain⟨_,_,_,ft,G,GA⟩:=key H K a b c;refine⟨_,48,127,210,ft,_,_,?_,G.at.mono GA (Nat.le_refl _) fun i hi _=>by simp[aO];intro e;omega⟩;unfold jo;rw[G.len];rfl
 unfold kv;refine bu (X:=X) Tryz.func36 rfl rfl ?_;have h4n: ¬(4:Int)<=n:=by omega
 have hn0: ¬(n:Int)<0:=by omega
 simp(maxSteps:=10000000) (maxDischargeDepth:=30) -implicitDefEqProofs[hp,hm,hv,h0,h4,h4n,hn0,n4,hl,hs',eC,mC,nw,cl,cb,c2,uV,yv];refine fin _ _ _ _ ?_ ?_ ?_
 ·simp
 ·simp[uV,yv]
 ·omega
end Go.Proofs.YtejohpnpnaljdaaGreat
namespace Go.Proofs.YtejohpnpnaljdaaGreat
open Go Go.Abs Go.Abs.lu
@[simp] theorem adh(ay:List Instr)(ah:List Int)(az:List (List Int))(aa:List Int)(aw:Int)(aq:List Cell)(an:List cx)(ax:List Thread)(t:Int)(hp:rK (Prog.mk ay ah az))(hm:qA (bf.mk (aN.mk aa aw) (aK.mk aq an) ax))(hr:yl (bf.mk (aN.mk aa aw) (aK.mk aq an) ax)):cz X 36 [.agg [.sl false (ay.map Instr.e),.sl false (ah.map (V.int .i64)),.sl false (az.map aS)],.agg [.sl false (aa.map (V.int .i64)),.int .u16 aw,.sl false (aq.map Cell.e),.sl false (an.map cx.e),.sl false (ax.map Thread.e)],.int .i64 t]=some (.de [.agg [.sl false (((AY (Prog.mk ay ah az) (bf.mk (aN.mk aa aw) (aK.mk aq an) ax) t).1).layout.aD.map (V.int .i64)),.int .u16 ((AY (Prog.mk ay ah az) (bf.mk (aN.mk aa aw) (aK.mk aq an) ax) t).1).layout.key,.sl false (((AY (Prog.mk ay ah az) (bf.mk (aN.mk aa aw) (aK.mk aq an) ax) t).1).memory.cells.map Cell.e),.sl false (((AY (Prog.mk ay ah az) (bf.mk (aN.mk aa aw) (aK.mk aq an) ax) t).1).memory.lines.map cx.e),.sl false (((AY (Prog.mk ay ah az) (bf.mk (aN.mk aa aw) (aK.mk aq an) ax) t).1).threads.map Thread.e)],.int .i64 ((AY (Prog.mk ay ah az) (bf.mk (aN.mk aa aw) (aK.mk aq an) ax) t).2.1),.int .i64 ((AY (Prog.mk ay ah az) (bf.mk (aN.mk aa aw) (aK.mk aq an) ax) t).2.2)]):=by
 exact acq ay ah az aa aw aq an ax t hp hm hr
end Go.Proofs.YtejohpnpnaljdaaGreat
namespace Go.Proofs.YtejohpnpnaljdaaGreat
open Go Go.Abs Go.Abs.lu
@[simp] theorem ac9(ay:List Instr)(ah:List Int)(az:List (List Int))(aa:List Int)(aw:Int)(aq:List Cell)(an:List cx)(ax:List Thread)(t:Int)(hp:rK (Prog.mk ay ah az))(hm:qA (bf.mk (aN.mk aa aw) (aK.mk aq an) ax))(hr:yl (bf.mk (aN.mk aa aw) (aK.mk aq an) ax)):cz X 35 [.agg [.sl false (ay.map Instr.e),.sl false (ah.map (V.int .i64)),.sl false (az.map aS)],.agg [.sl false (aa.map (V.int .i64)),.int .u16 aw,.sl false (aq.map Cell.e),.sl false (an.map cx.e),.sl false (ax.map Thread.e)],.int .i64 t]=some (.de [.agg [.sl false (((AY (Prog.mk ay ah az) (bf.mk (aN.mk aa aw) (aK.mk aq an) ax) t).1).layout.aD.map (V.int .i64)),.int .u16 ((AY (Prog.mk ay ah az) (bf.mk (aN.mk aa aw) (aK.mk aq an) ax) t).1).layout.key,.sl false (((AY (Prog.mk ay ah az) (bf.mk (aN.mk aa aw) (aK.mk aq an) ax) t).1).memory.cells.map Cell.e),.sl false (((AY (Prog.mk ay ah az) (bf.mk (aN.mk aa aw) (aK.mk aq an) ax) t).1).memory.lines.map cx.e),.sl false (((AY (Prog.mk ay ah az) (bf.mk (aN.mk aa aw) (aK.mk aq an) ax) t).1).threads.map Thread.e)],.int .i64 ((AY (Prog.mk ay ah az) (bf.mk (aN.mk aa aw) (aK.mk aq an) ax) t).2.1),.int .i64 ((AY (Prog.mk ay ah az) (bf.mk (aN.mk aa aw) (aK.mk aq an) ax) t).2.2)]):=by
 obtain⟨H0,hH0⟩: ∃H:aY,aO (aO (aO m8 0 (some ⟨3,[.agg [.sl false (ay.map Instr.e),.sl false (ah.map (V.int .i64)),.sl false (az.map aS)]],true⟩)) 1 (some ⟨5,[.agg [.sl false (aa.map (V.int .i64)),.int .u16 aw,.sl false (aq.map Cell.e),.sl false (an.map cx.e),.sl false (ax.map Thread.e)]],true⟩)) 2 (some ⟨5,[.agg [.sl true [],.int .u16 0,.sl true [],.sl true [],.sl true []]],true⟩)=H:=⟨_,rfl⟩;have z0:H0 0=some ⟨3,[.agg [.sl false (ay.map Instr.e),.sl false (ah.map (V.int .i64)),.sl false (az.map aS)]],true⟩:=by rw[<-hH0];simp[aO]
 have z1:H0 1=some ⟨5,[.agg [.sl false (aa.map (V.int .i64)),.int .u16 aw,.sl false (aq.map Cell.e),.sl false (an.map cx.e),.sl false (ax.map Thread.e)]],true⟩:=by rw[<-hH0];simp[aO]
 have z2:H0 2=some ⟨5,[.agg [.sl true [],.int .u16 0,.sl true [],.sl true [],.sl true []]],true⟩:=by rw[<-hH0];simp[aO]
 by_cases hc:jc (Prog.mk ay ah az) (bf.mk (aN.mk aa aw) (aK.mk aq an) ax)=true/\0<=t/\t<4
 case neg=>
  rw[YS hc];unfold fG;obtain⟨h',k',e,hk,hf⟩:=C1 ay ah az aa aw aq an ax t H0 14 hp hm hc;have f2:=hf 2 (by omega);rw[z2]at f2;refine bd Tryz.func35 rfl rfl ?_;simp(maxSteps:=10000000) (maxDischargeDepth:=30) -implicitDefEqProofs[hH0,z0,z1,e,f2]
 obtain⟨hv,h0,h4⟩:=hc;obtain⟨n,rfl⟩:=Int.eq_ofNat_of_zero_le h0;have n4:n<4:=by omega
 have MG:=uT hr hv;have hl:ax.length=4:=MG.len;have nl:n<ax.length:=by omega
 have hx:cg (bf.mk (aN.mk aa aw) (aK.mk aq an) ax) (n:Int).toNat=ax[n]:=by rw[Int.toNat_natCast];exact ie nl
 obtain⟨h1,k1,cB,b,C,L,T,ids,aZ,e,HB⟩:=Ny ay ah az aa aw aq an ax 0 H0 14 n hr hv n4;unfold kv at e;simp only at e;have f2:=HB.fr 2 (by omega);rw[z2]at f2;have hcb:=HB.core.box;have hT:=HB.yq.nv;unfold iS at hcb;simp only at hcb hT;have gg:=eF (ids:=aZ) nl;have gle:=ed aZ ax;rw[hl]at gle;by_cases hs:(ax[n]).state=1
 case neg=>
  have e0:AY (Prog.mk ay ah az) (bf.mk (aN.mk aa aw) (aK.mk aq an) ax) n=(fG,0,10):=by unfold AY;rw[if_pos ⟨hv,h0,h4⟩,hx,if_neg hs]
  rw[e0];unfold fG;refine bd Tryz.func35 rfl rfl ?_;simp(maxSteps:=10000000) (maxDischargeDepth:=30) -implicitDefEqProofs[hH0,z0,z1,e,f2,hcb,hT,gg,gle,n4,hs]
 have e0:AY (Prog.mk ay ah az) (bf.mk (aN.mk aa aw) (aK.mk aq an) ax) n=((hZ (Prog.mk ay ah az) (bf.mk (aN.mk aa aw) (aK.mk aq an) ax) n).1,(hZ (Prog.mk ay ah az) (bf.mk (aN.mk aa aw) (aK.mk aq an) ax) n).2,0):=by unfold AY;rw[if_pos ⟨hv,h0,h4⟩,hx,if_pos hs,Int.toNat_natCast]
 rw[e0];refine yu.cz ?_;have hs':=eq_true hs;obtain⟨HA1,hA2,hA3⟩:=HB.IX;have frm: ∀i,i<k1->h1 i=h1 i:=fun _ _=>rfl;obtain⟨h2,k2,adi,eo,G,g1,g2,g3⟩:=Wd .bad (Prog.mk ay ah az) h1 (k1+13) cB b _ C L T ids aZ (bf.mk (aN.mk aa aw) (aK.mk aq an) ax) n _ (HB.yq.mono (by omega) frm) MG (HB.core.mono (by omega) frm) (by omega) n4 rfl;have GA:na 14 (.sl false (aa.map (V.int .i64))) C L T adi aZ:=by
  obtain⟨q1,q2,q3⟩:=HA1;refine⟨q1,fun j hj=>⟨?_,(q2 j hj).2⟩,q3⟩;rcases g2 j hj with e|e
  ·rw[e];exact(q2 j hj).1
  ·have:=HB.le;omega
 have hke:=HB.le;have mM:=HB.core.lt;obtain⟨e1,e2,e3,e4⟩:=HB.core.ne;have fc:=g3 cB (by omega) e2 e3 (fun j hj=>(HB.core.ni j hj).1) e4 (HB.core.ni n n4).2;rw[hcb]at fc;obtain⟨⟨x1,x2,x3⟩,x4,x5⟩:=HA1;have f22:=g3 2 (by omega) (by omega) (by omega) (fun j hj=>by have:=x4 j hj;omega) (by omega) (by have:=x4 n n4;omega);rw[f2]at f22;have bx:=G.sE;have gl:=G.len;unfold jo at bx;rw[gl]at bx;have hly:(hZ (Prog.mk ay ah az) (bf.mk (aN.mk aa aw) (aK.mk aq an) ax) n).1.layout=⟨aa,aw⟩:=rfl;rw[hly]at bx;simp only at bx;refine bu (X:=X) Tryz.func35 rfl rfl ?_;simp(maxSteps:=10000000) (maxDischargeDepth:=30) -implicitDefEqProofs[hH0,z0,z1,e,f2,hcb,hT,gg,gle,n4,hs',eo,fc,f22,bx,Nat.add_assoc];refine⟨_,C,L,T,adi,aZ,k2,?_,G.at.mono GA (Nat.le_refl _) fun i hi _=>by rw[aO,if_neg (by omega)]⟩;unfold jo;rw[gl,hly]
end Go.Proofs.YtejohpnpnaljdaaGreat
namespace Go.Proofs.YtejohpnpnaljdaaGreat
open Go Go.Abs Go.Abs.lu
theorem acm:qA fG:=by
 unfold fG;exact⟨by simp,by simp,by simp,fun i hi=>by simp at hi,by simp,fun i hi=>by simp at hi⟩
theorem acz{p:Prog}{m:bf}(hr:yl m)(t:Int):qA (AY p m t).1:=by
 unfold AY;by_cases h:jc p m=true/\0<=t/\t<4
 ·rw[if_pos h];split
  ·exact(ac4 (uT hr h.1) (by omega)).lens
  ·exact acm
 ·rw[if_neg h];exact acm
end Go.Proofs.YtejohpnpnaljdaaGreat
namespace Go.Proofs.YtejohpnpnaljdaaGreat
open Go Go.Abs Go.Abs.lu
def ac0(l:List Int)(kt:Int):Nat->Int
 |0=>kt
 |i+1=>I8 l (ac0 l kt i)
theorem ada(l:List Int)(kt:Int):ac0 l kt 0=kt:=rfl
theorem adf(l:List Int)(kt:Int)(i:Nat):ac0 l kt (i+1)=I8 l (ac0 l kt i):=rfl
theorem acx {pc:List Instr} {ps:List Int} {pd:List (List Int)} {mb:List Int} {mk:Int} {mc:List Cell} {ml:List cx} {mt:List Thread} {d:Int} (HG:cR ⟨pc,ps,pd⟩ d ⟨⟨mb,mk⟩,⟨mc,ml⟩,mt⟩) (hd:d<=1099511627776)
  {st:Int} {rg:List Cell} {tp co ha sa tr cd:Int} (h0:0<mt.length) (hx:mt[0]=⟨st,rg,tp,co,ha,sa,tr,cd⟩) (A:Nat) (hA:A<pc.length) (o a b c im:Int):
  ∃xb xk xc xl xt s e,qA ⟨⟨xb,xk⟩,⟨xc,xl⟩,xt⟩/\
   cz X 35 [.agg [.sl false ((pc.map Instr.e).set A (.agg [.int .i64 o,.int .i64 a,.int .i64 b,.int .i64 c,.int .i64 im])),.sl false (ps.map (V.int .i64)),.sl false (pd.map aS)],.agg [.sl false (mb.map (V.int .i64)),.int .u16 mk,.sl false (mc.map Cell.e),.sl false (ml.map cx.e),.sl false ((mt.map Thread.e).set 0 (.agg [.int .i64 st,.sl false (rg.map Cell.e),.int .i64 (A:Int),.int .i64 co,.int .i64 ha,.int .i64 sa,.int .i64 tr,.int .u16 cd]))],.int .i64 0]=some (.de [.agg [.sl false (xb.map (V.int .i64)),.int .u16 xk,.sl false (xc.map Cell.e),.sl false (xl.map cx.e),.sl false (xt.map Thread.e)],.int .i64 s,.int .i64 e])/\
   cz X 36 [.agg [.sl false ((pc.map Instr.e).set A (.agg [.int .i64 o,.int .i64 a,.int .i64 b,.int .i64 c,.int .i64 im])),.sl false (ps.map (V.int .i64)),.sl false (pd.map aS)],.agg [.sl false (mb.map (V.int .i64)),.int .u16 mk,.sl false (mc.map Cell.e),.sl false (ml.map cx.e),.sl false ((mt.map Thread.e).set 0 (.agg [.int .i64 st,.sl false (rg.map Cell.e),.int .i64 (A:Int),.int .i64 co,.int .i64 ha,.int .i64 sa,.int .i64 tr,.int .u16 cd]))],.int .i64 0]=some (.de [.agg [.sl false (xb.map (V.int .i64)),.int .u16 xk,.sl false (xc.map Cell.e),.sl false (xl.map cx.e),.sl false (xt.map Thread.e)],.int .i64 s,.int .i64 e]):=by
 have g:=HG.nv 0 h0;simp only at g;rw[hx]at g;have c64:pc.length<=64:=HG.prog.pk;have hm2:=vO HG (t:=0) (Int.le_refl _) HG.mem HG.coh (x:=⟨st,rg,(A:Int),co,ha,sa,tr,cd⟩) ⟨g.state,g.bm,g.cells,⟨by simp only;omega,by simp only;omega⟩,g.count,g.bV,g.saved,g.dd,g.code⟩;have e1:(pc.map Instr.e).set A (.agg [.int .i64 o,.int .i64 a,.int .i64 b,.int .i64 c,.int .i64 im])=(pc.set A ⟨o,a,b,c,im⟩).map Instr.e:=by rw[List.map_set];rfl
 have e2:(mt.map Thread.e).set 0 (.agg [.int .i64 st,.sl false (rg.map Cell.e),.int .i64 (A:Int),.int .i64 co,.int .i64 ha,.int .i64 sa,.int .i64 tr,.int .u16 cd])=(mt.set 0 ⟨st,rg,(A:Int),co,ha,sa,tr,cd⟩).map Thread.e:=by rw[List.map_set];rfl
 have hp:rK ⟨pc.set A ⟨o,a,b,c,im⟩,ps,pd⟩:=by
  have:=HG.prog.lens;exact⟨this.ae,this.data,by simp only[List.length_set];exact this.code⟩
 rw[e1,e2];unfold kq at hm2;have T1:=ac9 (pc.set A ⟨o,a,b,c,im⟩) ps pd mb mk mc ml (mt.set 0 ⟨st,rg,(A:Int),co,ha,sa,tr,cd⟩) 0 hp hm2.lens hm2.R;have T2:=adh (pc.set A ⟨o,a,b,c,im⟩) ps pd mb mk mc ml (mt.set 0 ⟨st,rg,(A:Int),co,ha,sa,tr,cd⟩) 0 hp hm2.lens hm2.R;have hl:=acz (p:=⟨pc.set A ⟨o,a,b,c,im⟩,ps,pd⟩) hm2.R 0;obtain⟨⟨⟨⟨xb,xk⟩,⟨xc,xl⟩,xt⟩,s,e⟩,hxe⟩: ∃x,AY ⟨pc.set A ⟨o,a,b,c,im⟩,ps,pd⟩ ⟨⟨mb,mk⟩,⟨mc,ml⟩,mt.set 0 ⟨st,rg,(A:Int),co,ha,sa,tr,cd⟩⟩ 0=x:=⟨_,rfl⟩;rw[hxe]at T1 T2 hl;simp only at T1 T2 hl;exact⟨xb,xk,xc,xl,xt,s,e,hl,T1,T2⟩
@[simp] theorem acv(l:List Int)(op:Int)(hl:l.length<=2000000): ∃h' k',cy X 8 [.sl false (l.map (V.int .i64)),.int .i64 op] m8 0=some (.bool true,h',k'):=by
 suffices H: ∃v h' k',cy X 8 [.sl false (l.map (V.int .i64)),.int .i64 op] m8 0=some (v,h',k')/\v= .bool true by
  obtain⟨v,h',k',e,rfl⟩:=H;exact⟨h',k',e⟩
 have hw:=QA;have hd0:dr l 0:=⟨by omega,by omega⟩;obtain⟨kt,⟨pc,ps,pd⟩,d,⟨⟨mb,mk⟩,⟨mc,ml⟩,mt⟩,hM,hdk,HG,hd2,iZ⟩:=Z5 l 0 hd0;simp only[Z1]at hM;have oP:mt.length=4:=HG.len;have ac1:0<mt.length:=by omega
 have c1:1<=pc.length:=HG.prog.amj;have c64:pc.length<=64:=HG.prog.pk;have z1:1<=ps.length:=HG.prog.ae.pos;have z4:ps.length<=4:=HG.prog.ae.le;obtain⟨⟨st,rg,tp,co,ha,sa,tr,cd⟩,hxe⟩: ∃x,mt[0]=x:=⟨_,rfl⟩;have tkf: ∀(f:Thread->V),List.take 4 (mt.map f)=mt.map f:=fun f=>bn (by simp;omega);have hpm:=Int.emod_nonneg tp (b:=(pc.length:Int)) (by omega);have hpl:=Int.emod_lt_of_pos tp (b:=(pc.length:Int)) (by omega);obtain⟨A,hA⟩:=Int.eq_ofNat_of_zero_le hpm;have hAl:A<pc.length:=by omega
 have hAi:(A:Int)<(pc.length:Int):=by omega
 have hcp:=Zb mb mk mc ml mt ⟨pc,ps,pd⟩ _ HG;have c40:pc.length*40<=140737488355328:=by omega
 have c62:pc.length<=4611686018427387904:=by omega
 have MA:=ae6 tp (pc.length:Int) (by omega);rw[hA]at MA;have ab7:=fun v=>ae6 v (pc.length:Int) (by omega);have ab9:=fun v=>ae6 v (ps.length:Int) (by omega);have tki: ∀v:V,List.take pc.length ((pc.map Instr.e).set A v)=(pc.map Instr.e).set A v:=fun v=>bn (by simp);have dli: ∀o a b c im:Int,df ((pc.map Instr.e).set A (.agg [.int .i64 o,.int .i64 a,.int .i64 b,.int .i64 c,.int .i64 im]))=(pc.map Instr.e).set A (.agg [.int .i64 o,.int .i64 a,.int .i64 b,.int .i64 c,.int .i64 im]):=fun o a b c im=>by
  have e:(pc.map Instr.e).set A (.agg [.int .i64 o,.int .i64 a,.int .i64 b,.int .i64 c,.int .i64 im])=(pc.set A ⟨o,a,b,c,im⟩).map Instr.e:=by rw[List.map_set];rfl
  rw[e,ae2]
 have tkt: ∀v:V,List.take 4 ((mt.map Thread.e).set 0 v)=(mt.map Thread.e).set 0 v:=fun v=>bn (by simp;omega);have dlt:df ((mt.map Thread.e).set 0 (.agg [.int .i64 st,.sl false (rg.map Cell.e),.int .i64 (A:Int),.int .i64 co,.int .i64 ha,.int .i64 sa,.int .i64 tr,.int .u16 cd]))=(mt.map Thread.e).set 0 (.agg [.int .i64 st,.sl false (rg.map Cell.e),.int .i64 (A:Int),.int .i64 co,.int .i64 ha,.int .i64 sa,.int .i64 tr,.int .u16 cd]):=by
  have e:(mt.map Thread.e).set 0 (.agg [.int .i64 st,.sl false (rg.map Cell.e),.int .i64 (A:Int),.int .i64 co,.int .i64 ha,.int .i64 sa,.int .i64 tr,.int .u16 cd])=(mt.set 0 ⟨st,rg,(A:Int),co,ha,sa,tr,cd⟩).map Thread.e:=by rw[List.map_set];rfl
  rw[e,nV]
 obtain⟨⟨io,ia,ib,ic,ii⟩,hpi⟩: ∃x,pc[A]=x:=⟨_,rfl⟩;have leaf:=acx HG (by omega) ac1 hxe A hAl;refine bu (X:=X) (K:=fun v _ _=>v= .bool true) Tryz.func8 rfl rfl ?_;simp(maxSteps:=10000000) (maxDischargeDepth:=30) -implicitDefEqProofs[hl,acn,hM,oP,ac1];refine cP (fun i S=>(S.f 1= .int .i64 op/\S.f 5= .ptr 5 0 0/\S.h 5=some ⟨2,[.agg [.sl false ((⟨l,ac0 l kt i⟩:mh).l.map (V.int .i64)),.int .i64 (⟨l,ac0 l kt i⟩:mh).time]],true⟩/\S.f 6= .ptr 6 0 0/\S.h 6=some ⟨3,[.agg [.sl false ((⟨pc,ps,pd⟩:Prog).code.map Instr.e),.sl false ((⟨pc,ps,pd⟩:Prog).ae.map (V.int .i64)),.sl false ((⟨pc,ps,pd⟩:Prog).data.map aS)]],true⟩/\S.f 7= .ptr 7 0 0/\S.h 7=some ⟨5,[.agg [.sl false ((⟨⟨mb,mk⟩,⟨mc,ml⟩,mt⟩:bf).layout.aD.map (V.int .i64)),.int .u16 (⟨⟨mb,mk⟩,⟨mc,ml⟩,mt⟩:bf).layout.key,.sl false ((⟨⟨mb,mk⟩,⟨mc,ml⟩,mt⟩:bf).memory.cells.map Cell.e),.sl false ((⟨⟨mb,mk⟩,⟨mc,ml⟩,mt⟩:bf).memory.lines.map cx.e),.sl false ((⟨⟨mb,mk⟩,⟨mc,ml⟩,mt⟩:bf).threads.map Thread.e)]],true⟩/\S.f 27= .int .i64 (i:Int)/\S.n=1100)/\(dr l (ac0 l kt i))) (26) ?_ 0 (by simp) ?_
 ·rintro i S hii ⟨hI0,hP0⟩;have hwi:=cS i (by omega);by_cases ac7:(i<26)
  ·have ac2:(i:Int)<26:=by omega
   have pa:=adf l kt i;obtain⟨acf,hq⟩: ∃a,ac0 l kt i=a:=⟨_,rfl⟩;rw[hq]at hP0 pa;have hdq:=VH hP0;have N1:=Nl l acf (ps.length:Int) (pc.length:Int) hP0 (by omega) (by omega);obtain⟨⟨o,a,b,c,im⟩,hin⟩: ∃a,yK l (ps.length:Int) (pc.length:Int) acf=a:=⟨_,rfl⟩;rw[hin]at N1;simp only at N1;by_cases h25:(i:Int)<25
   case neg=>
    obtain⟨xb,xk,xc,xl,xt,s,e,hx,T1,T2⟩:=leaf o a b c im;simp(maxSteps:=10000000) (maxDischargeDepth:=30) -implicitDefEqProofs[hI0,hii,hwi,ac7,hq,ac2,N1,h25,hcp,oP,ac1,hxe,hAl,hAi,c40,c62,MA,ab7,ab9,hpi,Instr.bP,tki,dli,tkt,dlt,T1,T2,hx,pa,hdq,Thread.bP,jy,nV,tkf]
   obtain⟨O,hO⟩: ∃O,IntKind.i64.wrap (op+(i:Int)) % 25=O:=⟨_,rfl⟩;have hO2:0<=O/\O<=24:=by omega
   have hU:=Yh O hO2;cases h3:fv O 3
   ·obtain⟨xb,xk,xc,xl,xt,s,e,hx,T1,T2⟩:=leaf O (bif fv O 0 then a else 0) (bif fv O 1 then b else 0) (bif fv O 2 then c else 0) 0;cases h0:fv O 0<;>cases h1:fv O 1<;>cases h2:fv O 2<;>simp only[h0,h1,h2,cond_true,cond_false]at T1 T2<;>(
     simp(maxSteps:=10000000) (maxDischargeDepth:=30) -implicitDefEqProofs[hI0,hii,hwi,ac7,hq,ac2,N1,h25,hO,hO2,hU,h0,h1,h2,h3,hcp,oP,ac1,hxe,hAl,hAi,c40,c62,MA,ab7,ab9,hpi,Instr.bP,tki,dli,tkt,dlt,T1,T2,hx,pa,hdq,Thread.bP,jy,nV,tkf])
   cases hj:jumps O
   case true=>
    obtain⟨xb,xk,xc,xl,xt,s,e,hx,T1,T2⟩:=leaf O (bif fv O 0 then a else 0) (bif fv O 1 then b else 0) (bif fv O 2 then c else 0) (im % (pc.length:Int));cases h0:fv O 0<;>cases h1:fv O 1<;>cases h2:fv O 2<;>simp only[h0,h1,h2,cond_true,cond_false]at T1 T2<;>(
     simp(maxSteps:=10000000) (maxDischargeDepth:=30) -implicitDefEqProofs[hI0,hii,hwi,ac7,hq,ac2,N1,h25,hO,hO2,hU,h0,h1,h2,h3,hj,hcp,oP,ac1,hxe,hAl,hAi,c40,c62,MA,ab7,ab9,hpi,Instr.bP,tki,dli,tkt,dlt,T1,T2,hx,pa,hdq,Thread.bP,jy,nV,tkf])
   by_cases h15:O=15
   ·have adk:=eq_true h15;obtain⟨xb,xk,xc,xl,xt,s,e,hx,T1,T2⟩:=leaf O (bif fv O 0 then a else 0) (bif fv O 1 then b else 0) (bif fv O 2 then c else 0) (im % (ps.length:Int));cases h0:fv O 0<;>cases h1:fv O 1<;>cases h2:fv O 2<;>simp only[h0,h1,h2,cond_true,cond_false]at T1 T2<;>(
     simp(maxSteps:=10000000) (maxDischargeDepth:=30) -implicitDefEqProofs[hI0,hii,hwi,ac7,hq,ac2,N1,h25,hO,hO2,hU,h0,h1,h2,h3,hj,adk,z1,z4,hcp,oP,ac1,hxe,hAl,hAi,c40,c62,MA,ab7,ab9,hpi,Instr.bP,tki,dli,tkt,dlt,T1,T2,hx,pa,hdq,Thread.bP,jy,nV,tkf])
   by_cases QY:O=23
   ·have adl:=eq_true QY;obtain⟨xb,xk,xc,xl,xt,s,e,hx,T1,T2⟩:=leaf O (bif fv O 0 then a else 0) (bif fv O 1 then b else 0) (bif fv O 2 then c else 0) (im % 16);cases h0:fv O 0<;>cases h1:fv O 1<;>cases h2:fv O 2<;>simp only[h0,h1,h2,cond_true,cond_false]at T1 T2<;>(
     simp(maxSteps:=10000000) (maxDischargeDepth:=30) -implicitDefEqProofs[hI0,hii,hwi,ac7,hq,ac2,N1,h25,hO,hO2,hU,h0,h1,h2,h3,hj,h15,adl,hcp,oP,ac1,hxe,hAl,hAi,c40,c62,MA,ab7,ab9,hpi,Instr.bP,tki,dli,tkt,dlt,T1,T2,hx,pa,hdq,Thread.bP,jy,nV,tkf])
   ·obtain⟨xb,xk,xc,xl,xt,s,e,hx,T1,T2⟩:=leaf O (bif fv O 0 then a else 0) (bif fv O 1 then b else 0) (bif fv O 2 then c else 0) im;cases h0:fv O 0<;>cases h1:fv O 1<;>cases h2:fv O 2<;>simp only[h0,h1,h2,cond_true,cond_false]at T1 T2<;>(
     simp(maxSteps:=10000000) (maxDischargeDepth:=30) -implicitDefEqProofs[hI0,hii,hwi,ac7,hq,ac2,N1,h25,hO,hO2,hU,h0,h1,h2,h3,hj,h15,QY,hcp,oP,ac1,hxe,hAl,hAi,c40,c62,MA,ab7,ab9,hpi,Instr.bP,tki,dli,tkt,dlt,T1,T2,hx,pa,hdq,Thread.bP,jy,nV,tkf])
  ·have ac2: ¬(i:Int)<26:=by omega
   simp(maxSteps:=10000000) (maxDischargeDepth:=30) -implicitDefEqProofs[hI0,hii,hwi,ac7,ac2,hw]
 ·have h0:=ada l kt;simp(maxSteps:=10000000) (maxDischargeDepth:=30) -implicitDefEqProofs[h0,hdk]
end Go.Proofs.YtejohpnpnaljdaaGreat
namespace Go.Proofs.YtejohpnpnaljdaaGreat
open Go Go.Abs
namespace kinds
def Pe:List (Bool×List CS):=[(false,[.sl false [.int .i64]]),(false,[.int .i64])]
theorem read:Tryz.f8.params.toList.all (Ih X.P)=true:=by kernel_rfl
theorem ao8:zq X.P Tryz.f8.params.toList=some Pe:=by kernel_rfl
theorem ao9:abv X.P Tryz.f8 Pe 4:=⟨abw,read,ao8,rfl,rfl⟩
theorem apa(vs:List V)(h:zp Pe vs)(hb:mT vs<=1048576): ∃h k,cy X 8 vs ky 0=some (.bool true,h,k):=by
 simp only[Pe,zp,Aa,cX7]at h;obtain⟨_,_,rfl,⟨_,_,rfl,⟨es,rfl,_,hes⟩,rfl⟩,_,_,rfl,⟨_,_,rfl,⟨n,rfl,hn⟩,rfl⟩,rfl⟩:=h;obtain⟨l,rfl⟩:=Ik (es:=es) fun e he=>by
  obtain⟨xs,hx,_,_,rfl,⟨b,rfl,hb⟩,rfl⟩:=hes e he;exact⟨b,hx⟩
 have e1:oz false [V.sl false (l.map (V.int .i64))]= .sl false (l.map (V.int .i64)):=rfl;have e2: ∀n,oz false [V.int .i64 n]= .int .i64 n:=fun _=>rfl;rw[e1,e2]at hb⊢;simp only[mT]at hb;have e3:Up (.sl false (l.map (V.int .i64)))=mT (l.map (V.int .i64))+1:=rfl;rw[e3,Ya]at hb;exact acv l n (by omega)
theorem a0:Rows.stepKindsUptoRow.wf (OpenSpec.ofChange (Rows.OpenSpec.upto Rows.stepKindsSpec).bare)=true:=by kernel_rfl
theorem a1:Tryz.f8.params.all (Tryz.pinned.checked.prog.readableRec ·)=true:=by kernel_rfl
theorem a2:namedTie Tryz.pinned.checked.prog Rows.stepKindsUptoRow.named (Rows.OpenSpec.upto Rows.stepKindsSpec).bare.vars=true:=by kernel_rfl
theorem a3:(Rows.stepKindsUptoRow.stops==[])=true:=by kernel_rfl
theorem a4:(Rows.stepKindsUptoRow.knobs==[])=true:=by kernel_rfl
theorem a5:(Rows.stepKindsUptoRow.inPlace==Tryz.pinned.checked.prog.inPlace 8)=true:=by kernel_rfl
theorem a6:(Rows.stepKindsUptoRow.unfollowed==Tryz.pinned.checked.prog.unfollowed 8)=true:=by kernel_rfl
theorem a7:(Rows.stepKindsUptoRow.recurses==Tryz.pinned.checked.prog.recurses 8)=true:=by kernel_rfl
theorem a8:(Rows.stepKindsUptoRow.named==Tryz.pinned.checked.prog.varsNamed 8)=true:=by kernel_rfl
theorem a9:(Rows.stepKindsUptoRow.maps==(Tryz.f8.params.toList++(Rows.OpenSpec.upto Rows.stepKindsSpec).bare.plain.varTypes Tryz.pinned.checked.prog).any (Tryz.pinned.checked.prog.mapsRec ·))=true:=by kernel_rfl
theorem Px:(Rows.stepKindsUptoRow.ifaces==(Tryz.f8.params.toList++(Rows.OpenSpec.upto Rows.stepKindsSpec).bare.plain.varTypes Tryz.pinned.checked.prog).any (Tryz.pinned.checked.prog.ifacesRec ·))=true:=by kernel_rfl
theorem a11:(Rows.stepKindsUptoRow.mapsOut==Tryz.pinned.checked.prog.mapsAmong Tryz.f8.resultTypes.toList)=true:=by kernel_rfl
theorem a12:(Rows.stepKindsUptoRow.loops==(Tryz.f8.params.toList++(Rows.OpenSpec.upto Rows.stepKindsSpec).bare.plain.varTypes Tryz.pinned.checked.prog).any (Tryz.pinned.checked.prog.loopsFrom ·))=true:=by kernel_rfl
theorem a13:(Rows.stepKindsUptoRow.wideKeys==(Tryz.f8.params.toList++(Rows.OpenSpec.upto Rows.stepKindsSpec).bare.plain.varTypes Tryz.pinned.checked.prog++Tryz.f8.resultTypes.toList).any (Tryz.pinned.checked.prog.wideKeysFrom ·))=true:=by kernel_rfl
theorem a14:(Rows.OpenSpec.upto Rows.stepKindsSpec).bare.vars.all (Tryz.pinned.checked.prog.varReadable ·)=true:=by kernel_rfl
theorem a15:Tryz.f8.resultTypes.all (fun t=>Tryz.pinned.checked.prog.readableRec t&&decide (t<Tryz.pinned.checked.prog.types.size))=true:=by kernel_rfl
theorem a16:(Rows.stepKindsUptoRow.ifacesOut==Tryz.f8.resultTypes.toList.any (Tryz.pinned.checked.prog.ifacesRec ·))=true:=by kernel_rfl
theorem a17:(Rows.stepKindsUptoRow.loopsOut==Tryz.f8.resultTypes.toList.any (Tryz.pinned.checked.prog.loopsFrom ·))=true:=by kernel_rfl
theorem a18:(Rows.stepKindsUptoRow.plainKeys==Tryz.pinned.checked.prog.plainKeys)=true:=by kernel_rfl
theorem a19:Rows.stepKindsUptoRow.shortTexts.isNone=true:=by kernel_rfl
theorem a20:(Rows.stepKindsUptoRow.lifted==Tryz.pinned.checked.prog.liftsFinal)=true:=by kernel_rfl
theorem a21:(Tryz.pinned.checked.prog.make==some Rows.stepKindsUptoRow.make)=true:=by kernel_rfl
theorem a22:(Rows.stepKindsUptoRow.kinds==(if Rows.stepKindsUptoRow.domain.isEmpty then [] else Tryz.f8.params.toList.map fun t=>match Tryz.pinned.checked.prog.underlying t with|some (.int k)=>some k|_=>none))=true:=by kernel_rfl
theorem a23:(Rows.stepKindsUptoRow.pinned==Rows.stepKindsUptoRow.pinnedBy)=true:=by kernel_rfl
theorem a24:(Rows.stepKindsUptoRow.veiled==(Tryz.f8.params.toList++(Rows.OpenSpec.upto Rows.stepKindsSpec).bare.plain.varTypes Tryz.pinned.checked.prog++Tryz.f8.resultTypes.toList).any (Tryz.pinned.checked.prog.veiledRec ·))=true:=by kernel_rfl
theorem a25:Rows.stepKindsUptoRow.veiledFits Tryz.pinned.checked.prog Tryz.f8.params.toList (Tryz.f8.params.toList++(Rows.OpenSpec.upto Rows.stepKindsSpec).bare.plain.varTypes Tryz.pinned.checked.prog++Tryz.f8.resultTypes.toList)=true:=by kernel_rfl
theorem closed:joinedFacts Tryz.pinned.checked.prog 8 Tryz.f8 (Rows.OpenSpec.upto Rows.stepKindsSpec).bare Rows.stepKindsUptoRow=true:=by
 unfold joinedFacts;exact(gW (gW (gW (gW (gW (gW (gW (gW (gW (gW (gW (gW (gW (gW (gW (gW (gW (gW (gW (gW (gW (gW (gW (gW (gW (gW (gW (gW (gW (gW (gW a0 abw) al0) a1) a2) a3) aez) a4) ae0) a5) a6) a7) a8) a9) Px) a11) a12) a13) a14) a15) a16) a17) a18) a19) heard) ae1) a20) a21) a22) a23) a24) a25)
theorem isI:Tryz.f8.isInstance Tryz.pinned.checked.prog Rows.stepKindsUptoRow.origin Rows.stepKindsUptoRow.targs:=of_decide_eq_true (by kernel_rfl)
theorem isW:Tryz.f8.isWrapper Tryz.pinned.checked.prog Rows.stepKindsUptoRow.wrapper Rows.stepKindsUptoRow.mainSum:=by
 unfold Func.isWrapper;first|(rw[if_pos (by decide+kernel)];kernel_rfl)|(rw[if_neg (by decide+kernel)];exact⟨rfl,rfl⟩)
theorem apb:Tryz.pinned.checked.prog.funcNamed Rows.stepKindsUptoRow.func=some 8:=by kernel_rfl
theorem lifted(os:Os)(started:os.Started)(H:Type)(enc:TypeId×Value->H)(F:Stop.Interp):
  ReturnsInHanded {} Tryz.checked os 8 .any ((Rows.OpenSpec.upto Rows.stepKindsSpec).pre6 enc Tryz.prog Tryz.f8 Rows.stepKindsUptoRow.domain false) (((Rows.OpenSpec.upto Rows.stepKindsSpec).at F).post enc Tryz.prog Tryz.f8 false true false false):=by
 refine returnsInHanded_of_cond (C:=Tryz.checked) (s:=(Rows.OpenSpec.upto Rows.stepKindsSpec)) (k:=Rows.uptoSmall) rfl own started (by kernel_rfl) Tryz.func8
  (OpenSpec.witness (enc:=enc) (C:=Tryz.checked) (s:=(Rows.OpenSpec.upto Rows.stepKindsSpec)) (k:=Rows.uptoSmall) rfl false ⟨#[],#[.slice none 0 0,.int .i64 0],[]⟩ 8 (by kernel_rfl) (by kernel_rfl) (by kernel_rfl)
   (x:=([.nil,.lit (.int .i64 0)],[],[])) (by kernel_rfl) rfl (by kernel_rfl)) ?_
 intro W base args ds gs before Hl hW _ hk _;have hgs:gs=[]:=by
  obtain⟨p,q,_,hV,_⟩:=hW;cases gs with
  |nil=>rfl
  |cons _ _=>simp[DataW.TrodVars,Rows.stepKindsSpec,Rows.OpenSpec.upto,OpenSpec.ofChange]at hV
 subst hgs;rw[List.append_nil]at hk;exact Uu Fo ao9 (s:=Rows.stepKindsSpec) rfl (fun H ds hl=>by
  match ds,hl with
  | [a,b],_=>rfl) apa H Rows.uptoBulk (cX8 H) enc W base args ds [] before Hl hW (cX9 hk)
theorem pZ:Rows.stepKindsUptoRow.holds Tryz.pinned (Rows.OpenSpec.upto Rows.stepKindsSpec):=
 OpenClaim.holds_of_cond 8 Tryz.f8 rfl rfl rfl rfl rfl rfl rfl ⟨rfl,rfl,rfl,rfl,rfl⟩ rfl rfl rfl rfl rfl apb Tryz.func8 closed isI isW
  (fun os started H enc _ F=>lifted os started H enc F)
end kinds
theorem stepKinds:Rows.StepKindsUptoSaid:=kinds.pZ
end Go.Proofs.YtejohpnpnaljdaaGreat
