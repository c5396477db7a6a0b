/- StepCounts in its second form: for every list of numbers whose bulk is at most 1048576, the law answers true and its input reads as before. -/
import Derived.Test.YtejohpnpnaljdaaGreatM13
import Derived.Test.YtejohpnpnaljdaaGreatM52
set_option linter.all false
set_option maxRecDepth 100000
set_option maxHeartbeats 20000000
namespace Go.Abs.lu
open Go Go.Abs
@[simp] theorem aeg(l:List dT):df (l.map dT.e)=l.map dT.e:=jV (fun x=>by simp[dT.bP]) l
@[simp] theorem adn(l:List Output):df (l.map Output.e)=l.map Output.e:=jV (fun x=>by simp[Output.bP]) l
@[simp] theorem ad0(l:List Entry):df (l.map Entry.e)=l.map Entry.e:=jV (fun x=>by simp[Entry.bP]) l
end Go.Abs.lu
namespace Go.Proofs.YtejohpnpnaljdaaGreat
open Go Go.Abs Go.Abs.lu
@[simp] theorem adg(a b:List Canon)(hm:a.length<=1000000000):cz X 79 [.sl false (a.map Canon.e),.sl false (b.map Canon.e)]=some (.bool (decide (a=b))):=by
 refine bd Tryz.func79 rfl rfl ?_;simp(maxSteps:=10000000) (maxDischargeDepth:=30) -implicitDefEqProofs[];refine⟨fun h e=>h (by rw[e]),fun hl=> ?_⟩;have hl:a.length=b.length:=by omega
 refine cP (fun i S=>(S.f 0= .sl false (a.map Canon.e)/\S.f 1= .sl false (b.map Canon.e)/\S.f 12= .int .i64 ((a).length:Int)/\S.f 13= .int .i64 (i:Int)/\S.n=1100)/\(a.take i=b.take i)) (a.length) ?_ 0 (by simp) ?_
 ·rintro i S hii ⟨hI0,hP0⟩;have hwi:=cS i (by omega);by_cases ac4:i<a.length
  ·have hb:i<b.length:=by omega
   simp(maxSteps:=10000000) (maxDischargeDepth:=30) -implicitDefEqProofs[hI0,hii,hwi,ac4,hb];refine⟨fun h e=> ?_,fun e1 e2 e3 e4=>Bd ac4 hb hP0 ((Canon.eq_iff _ _).2 ⟨e1,e2,e3,e4⟩)⟩;subst e;simp at h
  ·have hei:a.length=i:=by omega
   subst hei;simp(maxSteps:=10000000) (maxDischargeDepth:=30) -implicitDefEqProofs[hI0,hii,hwi,ac4]<;>(
    exact yb (i:=a.length) (by simp) hl hP0)
 ·simp(maxSteps:=10000000) (maxDischargeDepth:=30) -implicitDefEqProofs[]
end Go.Proofs.YtejohpnpnaljdaaGreat
namespace Go.Proofs.YtejohpnpnaljdaaGreat
open Go Go.Abs Go.Abs.lu
theorem ado{p:Prog}{c:Int}{m:bf}(H:cR p c m){t:Nat}(ht:t<4):cR p (c+1) (hZ p m t).1:=by
 have hl:t<m.threads.length:=by rw[H.len];exact ht
 have:=uU H (H.nv t hl);unfold hZ;rw[U5 hl];exact vO H (by omega) this.mem (fun g=>ab6 H (H.coh (by omega)) _) this.nv
end Go.Proofs.YtejohpnpnaljdaaGreat
namespace Go.Proofs.YtejohpnpnaljdaaGreat
open Go Go.Abs Go.Abs.lu
structure adf (s:State):Prop where
 regions:s.regions.length<=1000000000
 region: ∀i (h:i<s.regions.length),(s.regions[i]).length<=1000000000
 threads:s.threads.length<=1000000000
 view: ∀i (h:i<s.threads.length),(s.threads[i]).bm.length<=1000000000
@[simp] theorem ac8(ac1:List (List Canon))(eH:List View)(ac2:List (List Canon))(iJ:List View)(h:adf (State.mk ac1 eH)):cz X 33 [.agg [.sl false (ac1.map ba),.sl false (eH.map View.e)],.agg [.sl false (ac2.map ba),.sl false (iJ.map View.e)]]=some (.bool (decide ((State.mk ac1 eH)=(State.mk ac2 iJ)))):=by
 refine bd Tryz.func33 rfl rfl ?_;have h1:ac1.length<=1000000000:=h.regions;have h2:=h.region;have h3:eH.length<=1000000000:=h.threads;have h4:=h.view;simp only at h2 h4;have aeh:decide ((State.mk ac1 eH)=(State.mk ac2 iJ))=(decide (ac1=ac2)&&decide (eH=iJ)):=by
  rw[<-Bool.decide_and];simp
 rw[aeh];clear aeh;by_cases e1i:(ac1.length:Int)=ac2.length
 case neg=>
  have e1: ¬ac1=ac2:=fun e=>e1i (by rw[e]);simp(maxSteps:=10000000) (maxDischargeDepth:=30) -implicitDefEqProofs[e1i,e1]
 by_cases e2i:(eH.length:Int)=iJ.length
 case neg=>
  have e2: ¬eH=iJ:=fun e=>e2i (by rw[e]);simp(maxSteps:=10000000) (maxDischargeDepth:=30) -implicitDefEqProofs[e1i,e2i,e2]
 have e1:ac1.length=ac2.length:=by omega
 have e2:eH.length=iJ.length:=by omega
 simp(maxSteps:=10000000) (maxDischargeDepth:=30) -implicitDefEqProofs[e1i,e2i];refine cP (fun i S=>(S.f 2= .ptr 2 0 0/\S.h 2=some ⟨2,[.agg [.sl false (ac1.map ba),.sl false (eH.map View.e)]],true⟩/\S.f 3= .ptr 3 0 0/\S.h 3=some ⟨2,[.agg [.sl false (ac2.map ba),.sl false (iJ.map View.e)]],true⟩/\S.f 27= .int .i64 ((ac1).length:Int)/\S.f 28= .int .i64 (i:Int)/\S.n=1100)/\(ac1.take i=ac2.take i)) (ac1.length) ?_ 0 (by simp) ?_
 ·rintro i S hii ⟨hI0,hP0⟩;have hwi:=cS i (by omega);by_cases ac4:i<ac1.length
  ·have g1:i<ac2.length:=by omega
   have g2:=h2 i ac4;by_cases q:ac1[i]=ac2[i]
   ·have:=Bd ac4 g1 hP0 q;have g2b:=q▸g2;simp(maxSteps:=10000000) (maxDischargeDepth:=30) -implicitDefEqProofs[hI0,hii,hwi,ac4,g1,g2,g2b,q,this]
   ·have: ¬ac1=ac2:=fun h=>q (by subst h;rfl);simp(maxSteps:=10000000) (maxDischargeDepth:=30) -implicitDefEqProofs[hI0,hii,hwi,ac4,g1,g2,q,this]
  ·have hei:ac1.length=i:=by omega
   subst hei;have er:ac1=ac2:=yb (i:=ac1.length) (by omega) e1 hP0;simp(maxSteps:=10000000) (maxDischargeDepth:=30) -implicitDefEqProofs[hI0,hii,hwi,ac4,er];refine cP (fun j S=>(S.f 3= .ptr 3 0 0/\S.h 3=some ⟨2,[.agg [.sl false (ac2.map ba),.sl false (iJ.map View.e)]],true⟩/\S.f 45= .sl false (eH.map View.e)/\S.f 46= .int .i64 ((eH).length:Int)/\S.f 47= .int .i64 (j:Int)/\S.n=1100)/\(eH.take j=iJ.take j)) (eH.length) ?_ 0 (by simp) ?_
   ·rintro j S jk ⟨hI1,hP1⟩;have hwj:=cS j (by omega);by_cases adk:j<eH.length
    ·have g1:j<iJ.length:=by omega
     have g2:=h4 j adk;have ne: ¬eH[j]=iJ[j]-> ¬eH=iJ:=fun q h=>q (by subst h;rfl);rw[View.eq_iff]at ne;by_cases q0:(eH[j]).state=(iJ[j]).state
     case neg=>
      have n:=ne (fun h=>q0 (by simp only[h]));simp(maxSteps:=10000000) (maxDischargeDepth:=30) -implicitDefEqProofs[hii,hwi,ac4,hI1,jk,hwj,adk,g1,g2,q0,n]
     by_cases q1:(eH[j]).pc=(iJ[j]).pc
     case neg=>
      have n:=ne (fun h=>q1 (by simp only[h]));simp(maxSteps:=10000000) (maxDischargeDepth:=30) -implicitDefEqProofs[hii,hwi,ac4,hI1,jk,hwj,adk,g1,g2,q0,q1,n]
     by_cases q2:(eH[j]).count=(iJ[j]).count
     case neg=>
      have n:=ne (fun h=>q2 (by simp only[h]));simp(maxSteps:=10000000) (maxDischargeDepth:=30) -implicitDefEqProofs[hii,hwi,ac4,hI1,jk,hwj,adk,g1,g2,q0,q1,q2,n]
     by_cases q3:(eH[j]).bV=(iJ[j]).bV
     case neg=>
      have n:=ne (fun h=>q3 (by simp only[h]));simp(maxSteps:=10000000) (maxDischargeDepth:=30) -implicitDefEqProofs[hii,hwi,ac4,hI1,jk,hwj,adk,g1,g2,q0,q1,q2,q3,n]
     by_cases q4:(eH[j]).saved=(iJ[j]).saved
     case neg=>
      have n:=ne (fun h=>q4 (by simp only[h]));simp(maxSteps:=10000000) (maxDischargeDepth:=30) -implicitDefEqProofs[hii,hwi,ac4,hI1,jk,hwj,adk,g1,g2,q0,q1,q2,q3,q4,n]
     by_cases q5:(eH[j]).dd=(iJ[j]).dd
     case neg=>
      have n:=ne (fun h=>q5 (by simp only[h]));simp(maxSteps:=10000000) (maxDischargeDepth:=30) -implicitDefEqProofs[hii,hwi,ac4,hI1,jk,hwj,adk,g1,g2,q0,q1,q2,q3,q4,q5,n]
     by_cases q6:(eH[j]).code=(iJ[j]).code
     case neg=>
      have n:=ne (fun h=>q6 (by simp only[h]));simp(maxSteps:=10000000) (maxDischargeDepth:=30) -implicitDefEqProofs[hii,hwi,ac4,hI1,jk,hwj,adk,g1,g2,q0,q1,q2,q3,q4,q5,q6,n]
     by_cases qr:(eH[j]).bm=(iJ[j]).bm
     case neg=>
      have n:=ne (fun h=>qr (by simp only[h]));simp(maxSteps:=10000000) (maxDischargeDepth:=30) -implicitDefEqProofs[hii,hwi,ac4,hI1,jk,hwj,adk,g1,g2,q0,q1,q2,q3,q4,q5,q6,qr,n]
     have g2b:=qr▸g2;have up:=Bd adk g1 hP1 ((View.eq_iff _ _).2 (by simp only[q0,q1,q2,q3,q4,q5,q6,qr,and_self]));simp(maxSteps:=10000000) (maxDischargeDepth:=30) -implicitDefEqProofs[hii,hwi,ac4,hI1,jk,hwj,adk,g1,g2b,q0,q1,q2,q3,q4,q5,q6,qr,up]
    ·have hej:eH.length=j:=by omega
     subst hej;simp(maxSteps:=10000000) (maxDischargeDepth:=30) -implicitDefEqProofs[hii,hwi,ac4,hI1,jk,hwj,adk]<;>(
      have et:eH=iJ:=yb (i:=eH.length) (by omega) e2 hP1;simp[et])
   ·simp(maxSteps:=10000000) (maxDischargeDepth:=30) -implicitDefEqProofs[hI0,hii,hwi,ac4]<;>(
     first|rfl|exact⟨by omega,rfl⟩|omega)
 ·simp(maxSteps:=10000000) (maxDischargeDepth:=30) -implicitDefEqProofs[]<;>(
   first|rfl|exact⟨by omega,rfl⟩|omega)
end Go.Proofs.YtejohpnpnaljdaaGreat
namespace Go.Proofs.YtejohpnpnaljdaaGreat
open Go Go.Abs Go.Abs.lu
@[simp] theorem aeb(ay:List Instr)(ah:List Int)(az:List (List Int))(aa:List Int)(aw:Int)(aq:List Cell)(an:List cx)(ax:List Thread)(t:Int)(hp:rK (Prog.mk ay ah az))(hm:qA (bf.mk (aN.mk aa aw) (aK.mk aq an) ax))(hr:yl (bf.mk (aN.mk aa aw) (aK.mk aq an) ax)):cz X 35 [.agg [.sl false (ay.map Instr.e),.sl false (ah.map (V.int .i64)),.sl false (az.map aS)],.agg [.sl false (aa.map (V.int .i64)),.int .u16 aw,.sl false (aq.map Cell.e),.sl false (an.map cx.e),.sl false (ax.map Thread.e)],.int .i64 t]=some (.de [.agg [.sl false (((AY (Prog.mk ay ah az) (bf.mk (aN.mk aa aw) (aK.mk aq an) ax) t).1).layout.aD.map (V.int .i64)),.int .u16 ((AY (Prog.mk ay ah az) (bf.mk (aN.mk aa aw) (aK.mk aq an) ax) t).1).layout.key,.sl false (((AY (Prog.mk ay ah az) (bf.mk (aN.mk aa aw) (aK.mk aq an) ax) t).1).memory.cells.map Cell.e),.sl false (((AY (Prog.mk ay ah az) (bf.mk (aN.mk aa aw) (aK.mk aq an) ax) t).1).memory.lines.map cx.e),.sl false (((AY (Prog.mk ay ah az) (bf.mk (aN.mk aa aw) (aK.mk aq an) ax) t).1).threads.map Thread.e)],.int .i64 ((AY (Prog.mk ay ah az) (bf.mk (aN.mk aa aw) (aK.mk aq an) ax) t).2.1),.int .i64 ((AY (Prog.mk ay ah az) (bf.mk (aN.mk aa aw) (aK.mk aq an) ax) t).2.2)]):=by
 obtain⟨H0,hH0⟩: ∃H:aY,aO (aO (aO m8 0 (some ⟨3,[.agg [.sl false (ay.map Instr.e),.sl false (ah.map (V.int .i64)),.sl false (az.map aS)]],true⟩)) 1 (some ⟨5,[.agg [.sl false (aa.map (V.int .i64)),.int .u16 aw,.sl false (aq.map Cell.e),.sl false (an.map cx.e),.sl false (ax.map Thread.e)]],true⟩)) 2 (some ⟨5,[.agg [.sl true [],.int .u16 0,.sl true [],.sl true [],.sl true []]],true⟩)=H:=⟨_,rfl⟩;have z0:H0 0=some ⟨3,[.agg [.sl false (ay.map Instr.e),.sl false (ah.map (V.int .i64)),.sl false (az.map aS)]],true⟩:=by rw[<-hH0];simp[aO]
 have z1:H0 1=some ⟨5,[.agg [.sl false (aa.map (V.int .i64)),.int .u16 aw,.sl false (aq.map Cell.e),.sl false (an.map cx.e),.sl false (ax.map Thread.e)]],true⟩:=by rw[<-hH0];simp[aO]
 have z2:H0 2=some ⟨5,[.agg [.sl true [],.int .u16 0,.sl true [],.sl true [],.sl true []]],true⟩:=by rw[<-hH0];simp[aO]
 by_cases hc:jc (Prog.mk ay ah az) (bf.mk (aN.mk aa aw) (aK.mk aq an) ax)=true/\0<=t/\t<4
 case neg=>
  rw[YS hc];unfold fG;obtain⟨h',k',e,hk,hf⟩:=C1 ay ah az aa aw aq an ax t H0 14 hp hm hc;have f2:=hf 2 (by omega);rw[z2]at f2;refine bd Tryz.func35 rfl rfl ?_;simp(maxSteps:=10000000) (maxDischargeDepth:=30) -implicitDefEqProofs[hH0,z0,z1,e,f2]
 obtain⟨hv,h0,h4⟩:=hc;obtain⟨n,rfl⟩:=Int.eq_ofNat_of_zero_le h0;have n4:n<4:=by omega
 have MG:=uT hr hv;have hl:ax.length=4:=MG.len;have nl:n<ax.length:=by omega
 have hx:cg (bf.mk (aN.mk aa aw) (aK.mk aq an) ax) (n:Int).toNat=ax[n]:=by rw[Int.toNat_natCast];exact ie nl
 obtain⟨h1,k1,cB,b,C,L,T,ids,aZ,e,HB⟩:=Ny ay ah az aa aw aq an ax 0 H0 14 n hr hv n4;unfold kv at e;simp only at e;have f2:=HB.fr 2 (by omega);rw[z2]at f2;have hcb:=HB.core.box;have hT:=HB.yq.nv;unfold iS at hcb;simp only at hcb hT;have gg:=eF (ids:=aZ) nl;have gle:=ed aZ ax;rw[hl]at gle;by_cases hs:(ax[n]).state=1
 case neg=>
  have e0:AY (Prog.mk ay ah az) (bf.mk (aN.mk aa aw) (aK.mk aq an) ax) n=(fG,0,10):=by unfold AY;rw[if_pos ⟨hv,h0,h4⟩,hx,if_neg hs]
  rw[e0];unfold fG;refine bd Tryz.func35 rfl rfl ?_;simp(maxSteps:=10000000) (maxDischargeDepth:=30) -implicitDefEqProofs[hH0,z0,z1,e,f2,hcb,hT,gg,gle,n4,hs]
 have e0:AY (Prog.mk ay ah az) (bf.mk (aN.mk aa aw) (aK.mk aq an) ax) n=((hZ (Prog.mk ay ah az) (bf.mk (aN.mk aa aw) (aK.mk aq an) ax) n).1,(hZ (Prog.mk ay ah az) (bf.mk (aN.mk aa aw) (aK.mk aq an) ax) n).2,0):=by unfold AY;rw[if_pos ⟨hv,h0,h4⟩,hx,if_pos hs,Int.toNat_natCast]
 rw[e0];refine yu.cz ?_;have hs':=eq_true hs;obtain⟨HA1,hA2,hA3⟩:=HB.IX;have frm: ∀i,i<k1->h1 i=h1 i:=fun _ _=>rfl;obtain⟨h2,k2,aem,eo,G,g1,g2,g3⟩:=Wd .bad (Prog.mk ay ah az) h1 (k1+13) cB b _ C L T ids aZ (bf.mk (aN.mk aa aw) (aK.mk aq an) ax) n _ (HB.yq.mono (by omega) frm) MG (HB.core.mono (by omega) frm) (by omega) n4 rfl;have GA:na 14 (.sl false (aa.map (V.int .i64))) C L T aem aZ:=by
  obtain⟨q1,q2,q3⟩:=HA1;refine⟨q1,fun j hj=>⟨?_,(q2 j hj).2⟩,q3⟩;rcases g2 j hj with e|e
  ·rw[e];exact(q2 j hj).1
  ·have:=HB.le;omega
 have hke:=HB.le;have mM:=HB.core.lt;obtain⟨e1,e2,e3,e4⟩:=HB.core.ne;have fc:=g3 cB (by omega) e2 e3 (fun j hj=>(HB.core.ni j hj).1) e4 (HB.core.ni n n4).2;rw[hcb]at fc;obtain⟨⟨x1,x2,x3⟩,x4,x5⟩:=HA1;have f22:=g3 2 (by omega) (by omega) (by omega) (fun j hj=>by have:=x4 j hj;omega) (by omega) (by have:=x4 n n4;omega);rw[f2]at f22;have bx:=G.sE;have gl:=G.len;unfold jo at bx;rw[gl]at bx;have hly:(hZ (Prog.mk ay ah az) (bf.mk (aN.mk aa aw) (aK.mk aq an) ax) n).1.layout=⟨aa,aw⟩:=rfl;rw[hly]at bx;simp only at bx;refine bu (X:=X) Tryz.func35 rfl rfl ?_;simp(maxSteps:=10000000) (maxDischargeDepth:=30) -implicitDefEqProofs[hH0,z0,z1,e,f2,hcb,hT,gg,gle,n4,hs',eo,fc,f22,bx,Nat.add_assoc];refine⟨_,C,L,T,aem,aZ,k2,?_,G.at.mono GA (Nat.le_refl _) fun i hi _=>by rw[aO,if_neg (by omega)]⟩;unfold jo;rw[gl,hly]
end Go.Proofs.YtejohpnpnaljdaaGreat
namespace Go.Proofs.YtejohpnpnaljdaaGreat
open Go Go.Abs Go.Abs.lu
def ac3(p:Prog)(m:bf):Nat->bf
 |0=>m
 |k+1=>(hZ p (ac3 p m k) 0).1
theorem adr(p:Prog)(m:bf)(k:Nat):ac3 p m (k+1)=(hZ p (ac3 p m k) 0).1:=rfl
theorem adu(p:Prog)(m:bf):ac3 p m 0=m:=rfl
theorem adx{p:Prog}{d:Int}{m:bf}(h:cR p d m)(hd:d<=1099511627776)(hs:(cg m 0).state=1):AY p m 0=((hZ p m 0).1,(hZ p m 0).2,0):=by
 unfold AY;rw[if_pos ⟨(h.mono hd).ok,by omega,by omega⟩];simp only[Int.toNat_zero];rw[if_pos hs]
end Go.Proofs.YtejohpnpnaljdaaGreat
namespace Go.Proofs.YtejohpnpnaljdaaGreat
open Go Go.Abs Go.Abs.lu
theorem Zh.dy{k n:Nat}{s:State}{v:V}{h:aY}(H:Zh k n s v h)(h1:0<s.regions.length)(h2:0<s.threads.length)(d:Nat):bT h (d+6) v=some (.agg [.sl false (s.regions.map ba),.sl false (s.threads.map View.e)]):=by
 obtain⟨R,T,ri,vi,rfl,Q⟩:=H.R h1 h2;have l1:(ig ri s.regions).length=s.regions.length:=by simp[ig]
 have l2:(iv vi s.threads).length=s.threads.length:=by simp[iv]
 have t1:(ig ri s.regions).take s.regions.length=ig ri s.regions:=bn (by omega);have t2:(iv vi s.threads).take s.threads.length=iv vi s.threads:=bn (by omega);have e1:cn ((ig ri s.regions).map (bT h (d+4)))=some (s.regions.map ba):=by
  refine lj _ _ fun i hi=> ?_;have:=Q.rat i hi;simp[bT,cn,this,qy]
 have e2:cn ((iv vi s.threads).map (bT h (d+4)))=some (s.threads.map View.e):=by
  refine lj _ _ fun i hi=> ?_;have:=Q.vat i hi;simp[oL,bT,cn,this,View.bP]
 simp[bT,cn,Q.row,Q.vow,l1,l2,t1,t2,e1,e2]
theorem ac7{p:Prog}{d:Int}{m:bf}(HG:cR p d m):adf (px p m)/\0<(px p m).regions.length/\0<(px p m).threads.length:=by
 have hz:=HG.lay.sz;have h4:=HG.len;refine⟨⟨by simp[px,iX];have:=hz.le;omega,fun i hi=> ?_,by simp[px,mI];omega,fun i hi=> ?_⟩,by simp[px,iX];have:=hz.pos;omega,by simp[px,mI];omega⟩
 ·simp only[px,iX,List.length_map,List.length_range]at hi;have:=hz.elem i hi;simp only[px,iX,List.getElem_map,List.getElem_range,rN,sI];rw[cZ hi];omega
 ·simp only[px,mI,List.length_map]at hi;have:=(HG.nv i hi).bm;simp only[px,mI,List.getElem_map,yD,List.length_map];omega
@[simp] theorem ady(ay:List Instr)(ah:List Int)(az:List (List Int))(aa:List Int)(aw:Int)(aq:List Cell)(an:List cx)(ax:List Thread)(d:Int)(HG:cR (Prog.mk ay ah az) d (bf.mk (aN.mk aa aw) (aK.mk aq an) ax)):cz X 29 [.agg [.sl false (ay.map Instr.e),.sl false (ah.map (V.int .i64)),.sl false (az.map aS)],.agg [.sl false (aa.map (V.int .i64)),.int .u16 aw,.sl false (aq.map Cell.e),.sl false (an.map cx.e),.sl false (ax.map Thread.e)]]=some (.agg [.sl false ((px (Prog.mk ay ah az) (bf.mk (aN.mk aa aw) (aK.mk aq an) ax)).regions.map ba),.sl false ((px (Prog.mk ay ah az) (bf.mk (aN.mk aa aw) (aK.mk aq an) ax)).threads.map View.e)]):=by
 obtain⟨v,h',k',e,H⟩:=Zi ay ah az aa aw aq an ax 0 d HG;have hl:=ac7 HG;unfold Go.Abs.cz;have e':=e;unfold m8 at e';rw[e'];have hi:=H.dy hl.2.1 hl.2.2 (depth-6);rw[show depth-6+6=depth from rfl]at hi;simp only[hi,Option.map_some,V.jm,df];simp
theorem adh{p:Prog}{m:bf}{x:Thread}:(mB p m x).2.2=2-> ∃w,w≠0/\mB p m x=(m.memory,gd x w,2):=by
 unfold mB;refine nZ (P:=fun r:aK×Thread×Int=>r.2.2=2-> ∃w,w≠0/\r=(m.memory,gd x w,2)) (fun _=> ?_) (fun _ _=>⟨2,by omega,rfl⟩);unfold fR;repeat' (refine nZ (P:=fun r:aK×Thread×Int=>r.2.2=2-> ∃w,w≠0/\r=(m.memory,gd x w,2)) (fun _=> ?_) fun _=> ?_)
 all_goals first|(intro h;simp at h;done)|(intro _;exact⟨_,by assumption,rfl⟩)|(intro _;exact⟨_,by decide,rfl⟩)
theorem adi{p:Prog}{m:bf}{x:Thread}:(mB p m x).2.2= -1->x.pc<p.code.length/\
  (dW (p.code.getD x.pc.toNat nU).op=true->(mB p m x).2.1.count=x.count+1)/\
  (dW (p.code.getD x.pc.toNat nU).op=false->(mB p m x).2.1.count=x.count/\(mB p m x).2.1.pc=x.pc+1):=by
 unfold mB;by_cases Gq:x.pc<p.code.length
 case neg=>rw[if_neg Gq];intro h;simp at h
 rw[if_pos Gq];refine fun h=>⟨Gq,?_⟩;revert h;generalize p.code.getD x.pc.toNat nU=i;unfold fR;repeat' (refine nZ (P:=fun r:aK×Thread×Int=>r.2.2= -1->(dW i.op=true->r.2.1.count=x.count+1)/\(dW i.op=false->r.2.1.count=x.count/\r.2.1.pc=x.pc+1)) (fun _=> ?_) fun _=> ?_)
 all_goals intro h
 all_goals first
  |(simp at h;done)
  |(refine⟨fun hb=> ?_,fun hb=> ?_⟩<;>first|rfl|exact⟨rfl,rfl⟩|(exfalso;simp only[dW,jumps,Bool.or_eq_true,Bool.or_eq_false_iff,decide_eq_true_eq,decide_eq_false_iff_not]at hb;omega))
theorem ada{p:Prog}{m:bf}{x:Thread}(h:(mB p m x).2.2=1):x.pc<p.code.length/\(p.code.getD x.pc.toNat nU).op=23/\(mB p m x).2.1=rL x:=by
 obtain⟨c1,c2,c3,c4⟩:=LD h;exact⟨c1,c2,c3⟩
@[simp] theorem ac9(l:List Int)(hl:l.length<=2000000): ∃h' k',cy X 10 [.sl false (l.map (V.int .i64))] m8 0=some (.bool true,h',k'):=by
 suffices H: ∃v h' k',cy X 10 [.sl false (l.map (V.int .i64))] m8 0=some (v,h',k')/\v= .bool true by
  obtain⟨v,h',k',e,rfl⟩:=H;exact⟨h',k',e⟩
 have hw:=QA;have hd0:dr l 0:=⟨by omega,by omega⟩;obtain⟨kt,⟨pc,ps,pd⟩,d,⟨⟨mb,mk⟩,⟨mc,ml⟩,mt⟩,hM,hdk,HG,hd2,iZ⟩:=Z5 l 0 hd0;simp only[Z1]at hM;have oP:mt.length=4:=HG.len;have aev:0<mt.length:=by omega
 have c64:pc.length<=64:=HG.prog.pk;refine bu (X:=X) (K:=fun v _ _=>v= .bool true) Tryz.func10 rfl rfl ?_;simp(maxSteps:=10000000) (maxDischargeDepth:=30) -implicitDefEqProofs[hl,acn,hM,oP,aev];refine cP (fun i S=>(S.f 3= .ptr 3 0 0/\S.h 3=some ⟨3,[.agg [.sl false ((⟨pc,ps,pd⟩:Prog).code.map Instr.e),.sl false ((⟨pc,ps,pd⟩:Prog).ae.map (V.int .i64)),.sl false ((⟨pc,ps,pd⟩:Prog).data.map aS)]],true⟩/\S.f 4= .ptr 4 0 0/\S.h 4=some ⟨5,[.agg [.sl false ((ac3 ⟨pc,ps,pd⟩ ⟨⟨mb,mk⟩,⟨mc,ml⟩,mt⟩ i).layout.aD.map (V.int .i64)),.int .u16 (ac3 ⟨pc,ps,pd⟩ ⟨⟨mb,mk⟩,⟨mc,ml⟩,mt⟩ i).layout.key,.sl false ((ac3 ⟨pc,ps,pd⟩ ⟨⟨mb,mk⟩,⟨mc,ml⟩,mt⟩ i).memory.cells.map Cell.e),.sl false ((ac3 ⟨pc,ps,pd⟩ ⟨⟨mb,mk⟩,⟨mc,ml⟩,mt⟩ i).memory.lines.map cx.e),.sl false ((ac3 ⟨pc,ps,pd⟩ ⟨⟨mb,mk⟩,⟨mc,ml⟩,mt⟩ i).threads.map Thread.e)]],true⟩/\S.f 18= .int .i64 (i:Int)/\S.n=1100)/\(cR ⟨pc,ps,pd⟩ (d+i) (ac3 ⟨pc,ps,pd⟩ ⟨⟨mb,mk⟩,⟨mc,ml⟩,mt⟩ i)/\(cg (ac3 ⟨pc,ps,pd⟩ ⟨⟨mb,mk⟩,⟨mc,ml⟩,mt⟩ i) 0).state=1)) (12) ?_ 0 (by simp) ?_
 ·rintro i S hii ⟨hI0,hP0⟩;have hwi:=cS i (by omega);by_cases ac4:(i<12)
  ·have ad5:(i:Int)<12:=by omega
   obtain⟨ab7,hys⟩:=hP0;have o1:=adx ab7 (by omega) hys;have gz:=ado ab7 (t:=0) (by omega);have gyl:=ab7.lens;have gyr:=ab7.R;have pa:=adr ⟨pc,ps,pd⟩ ⟨⟨mb,mk⟩,⟨mc,ml⟩,mt⟩ i;have hoe:=tD ⟨pc,ps,pd⟩ (ac3 ⟨pc,ps,pd⟩ ⟨⟨mb,mk⟩,⟨mc,ml⟩,mt⟩ i) 0;have adl:=yo ab7 (t:=0) (by omega);have adm:=QB ab7 (t:=0) (by omega);obtain⟨⟨⟨ab9,yk⟩,⟨acf,acg⟩,acm⟩,hy⟩: ∃a,ac3 ⟨pc,ps,pd⟩ ⟨⟨mb,mk⟩,⟨mc,ml⟩,mt⟩ i=a:=⟨_,rfl⟩;rw[hy]at ab7 hys o1 gz gyl gyr pa hoe adl adm;have T1:=aeb pc ps pd ab9 yk acf acg acm 0 HG.prog.lens gyl gyr;rw[o1]at T1;have hyl:acm.length=4:=ab7.len;have hy0:0<acm.length:=by omega
   have hyt:cg ⟨⟨ab9,yk⟩,⟨acf,acg⟩,acm⟩ 0=acm[0]:=ie hy0;have tky: ∀(f:Thread->V),List.take 4 (acm.map f)=acm.map f:=fun f=>bn (by simp;omega);have gt:=ab7.nv 0 hy0;simp only at gt;obtain⟨⟨st,rg,tp,co,ha,sa,tr,cd⟩,hye⟩: ∃x,acm[0]=x:=⟨_,rfl⟩;rw[hyt,hye]at hys hoe adl;rw[hye]at gt;have gtc:=gt.count;have gtp:=gt.pc;simp only at hys gtc gtp;subst hys;obtain⟨q,rfl⟩:=Int.eq_ofNat_of_zero_le gtp.1;have kd:=adi (p:=⟨pc,ps,pd⟩) (m:=⟨⟨ab9,yk⟩,⟨acf,acg⟩,acm⟩) (x:=⟨1,rg,(q:Int),co,ha,sa,tr,cd⟩);have kt:=adh (p:=⟨pc,ps,pd⟩) (m:=⟨⟨ab9,yk⟩,⟨acf,acg⟩,acm⟩) (x:=⟨1,rg,(q:Int),co,ha,sa,tr,cd⟩);have kc:=ada (p:=⟨pc,ps,pd⟩) (m:=⟨⟨ab9,yk⟩,⟨acf,acg⟩,acm⟩) (x:=⟨1,rg,(q:Int),co,ha,sa,tr,cd⟩);have acq:=(uU ab7 gt.self).YG;have w1:IntKind.i64.wrap (co+1)=co+1:=wrap_i64 (by omega);have w2:=cS q (by omega);obtain⟨⟨⟨⟨zb,acv⟩,⟨zc,zl⟩,acw⟩,s⟩,hz⟩: ∃a,hZ ⟨pc,ps,pd⟩ ⟨⟨ab9,yk⟩,⟨acf,acg⟩,acm⟩ 0=a:=⟨_,rfl⟩;rw[hz]at T1 gz pa hoe adl adm;simp only at T1 gz pa adl adm;have hzl:acw.length=4:=gz.len;have hz0:0<acw.length:=by omega
   have hzt:cg ⟨⟨zb,acv⟩,⟨zc,zl⟩,acw⟩ 0=acw[0]:=ie hz0;rw[hzt]at adl;have T2:=WM pc ps pd zb acv zc zl acw HG.prog.lens gz.lens;rw[(gz.mono (by omega)).ok]at T2;simp only[aF]at hoe;obtain⟨hoe,hse⟩:=hoe;obtain⟨⟨st2,rg2,tp2,co2,ha2,sa2,tr2,cd2⟩,hze⟩: ∃x,acw[0]=x:=⟨_,rfl⟩;rw[hze]at adl;rw[<-adl,<-hse]at kd kc;rw[<-hse]at kt;rcases adm with h|h|h
   ·subst h;obtain⟨k1,k2,k3⟩:=kd rfl;simp only[Int.toNat_natCast]at k1 k2 k3;have hq:q<pc.length:=by omega
    have hq': ¬(pc.length:Int)<=(q:Int):=by omega
    have hgd:pc.getD q nU=pc[q]:=by simp[List.getD,hq]
    rw[hgd]at k2 k3;have afb:st2=1:=by
     have:=(acq (by rw[<-hse])).1;rw[<-adl]at this;exact this
    subst afb;have hnx:cg ⟨⟨zb,acv⟩,⟨zc,zl⟩,acw⟩ 0=⟨1,rg2,tp2,co2,ha2,sa2,tr2,cd2⟩:=by rw[hzt,hze]
    cases hb:dW (pc[q]).op
    ·obtain⟨rfl,rfl⟩:=k3 hb;simp(maxSteps:=10000000) (maxDischargeDepth:=30) -implicitDefEqProofs[hI0,hii,hwi,ac4,hy,ad5,T1,T2,hyl,hy0,hye,hzl,hz0,hze,hq,hq',hb,w1,w2,pa,gz,Thread.bP,jy,nV,tky];exact⟨Int.add_assoc d (i:Int) 1▸gz,by rw[hnx]⟩
    ·have k2:=k2 hb;subst k2;simp(maxSteps:=10000000) (maxDischargeDepth:=30) -implicitDefEqProofs[hI0,hii,hwi,ac4,hy,ad5,T1,T2,hyl,hy0,hye,hzl,hz0,hze,hq,hq',hb,w1,w2,pa,gz,Thread.bP,jy,nV,tky];exact⟨Int.add_assoc d (i:Int) 1▸gz,by rw[hnx]⟩
   ·subst h;obtain⟨k1,k2,k3⟩:=kc rfl;simp only[Int.toNat_natCast]at k1 k2;have hq:q<pc.length:=by omega
    have hq': ¬(pc.length:Int)<=(q:Int):=by omega
    have hgd:pc.getD q nU=pc[q]:=by simp[List.getD,hq]
    rw[hgd]at k2;simp only[rL,Thread.mk.injEq]at k3;obtain⟨rfl,rfl,rfl,rfl,rfl,rfl,rfl,rfl⟩:=k3;have hb:dW 23=false:=by decide
    simp(maxSteps:=10000000) (maxDischargeDepth:=30) -implicitDefEqProofs[hI0,hii,hwi,ac4,hy,ad5,T1,T2,hyl,hy0,hye,hzl,hz0,hze,hq,hq',k2,hb,w1,w2,hw,Thread.bP,jy,nV,tky]
   ·subst h;obtain⟨w,hw0,k1⟩:=kt rfl;rw[k1]at hoe adl;simp only[kq,bf.mk.injEq,aN.mk.injEq,aK.mk.injEq,gd,Thread.mk.injEq]at hoe adl;obtain⟨⟨rfl,rfl⟩,⟨rfl,rfl⟩,hzs⟩:=hoe;obtain⟨rfl,rfl,rfl,rfl,rfl,rfl,rfl,rfl⟩:=adl;have hwp:0<tr2:=by
     have:=(gz.nv 0 hz0).dd;simp only[hze]at this;omega
    have hcp:=Zb zb acv zc zl acw ⟨pc,ps,pd⟩ _ gz;have tkz: ∀(f:Thread->V),List.take 4 (acw.map f)=acw.map f:=fun f=>bn (by simp;omega);have afd:(acw.map Thread.e).set 0 (.agg [.int .i64 1,.sl false (rg2.map Cell.e),.int .i64 (q:Int),.int .i64 co2,.int .i64 ha2,.int .i64 sa2,.int .i64 tr,.int .u16 cd])=acm.map Thread.e:=by
     have e:(V.agg [.int .i64 1,.sl false (rg2.map Cell.e),.int .i64 (q:Int),.int .i64 co2,.int .i64 ha2,.int .i64 sa2,.int .i64 tr,.int .u16 cd])=Thread.e ⟨1,rg2,(q:Int),co2,ha2,sa2,tr,cd⟩:=rfl;rw[e,<-hye,<-List.map_set,hzs,List.set_set,List.set_getElem_self]
    have acx:=ady pc ps pd zb acv zc zl acm _ ab7;have acz:=ac7 ab7;obtain⟨⟨R,T⟩,hS⟩: ∃s,px ⟨pc,ps,pd⟩ ⟨⟨zb,acv⟩,⟨zc,zl⟩,acm⟩=s:=⟨_,rfl⟩;rw[hS]at acx acz;simp only at acx;have ac0:=ac8 R T R T acz.1;simp(maxSteps:=10000000) (maxDischargeDepth:=30) -implicitDefEqProofs[hI0,hii,hwi,ac4,hy,ad5,T1,T2,hcp,hyl,hy0,hye,hzl,hz0,hze,afd,acx,ac0,hwp,hw,Thread.bP,jy,nV,tky,tkz]
  ·have ad5: ¬(i:Int)<12:=by omega
   simp(maxSteps:=10000000) (maxDischargeDepth:=30) -implicitDefEqProofs[hI0,hii,hwi,ac4,ad5,hw]
 ·have h0:=adu ⟨pc,ps,pd⟩ ⟨⟨mb,mk⟩,⟨mc,ml⟩,mt⟩;simp(maxSteps:=10000000) (maxDischargeDepth:=30) -implicitDefEqProofs[h0,iZ,HG]
end Go.Proofs.YtejohpnpnaljdaaGreat
namespace Go.Proofs.YtejohpnpnaljdaaGreat
open Go Go.Abs
namespace counts
def Pe:List (Bool×List CS):=[(false,[.sl false [.int .i64]])]
theorem read:Tryz.f10.params.toList.all (Ih X.P)=true:=by kernel_rfl
theorem ao8:zq X.P Tryz.f10.params.toList=some Pe:=by kernel_rfl
theorem ao9:abv X.P Tryz.f10 Pe 4:=⟨abw,read,ao8,rfl,rfl⟩
theorem apa(vs:List V)(h:zp Pe vs)(hb:mT vs<=1048576): ∃h k,cy X 10 vs ky 0=some (.bool true,h,k):=by
 simp only[Pe,zp,Aa,cX7]at h;obtain⟨_,_,rfl,⟨_,_,rfl,⟨es,rfl,_,hes⟩,rfl⟩,rfl⟩:=h;obtain⟨l,rfl⟩:=Ik (es:=es) fun e he=>by
  obtain⟨xs,hx,_,_,rfl,⟨b,rfl,hb⟩,rfl⟩:=hes e he;exact⟨b,hx⟩
 have e1:oz false [V.sl false (l.map (V.int .i64))]= .sl false (l.map (V.int .i64)):=rfl;rw[e1]at hb⊢;simp only[mT]at hb;have e3:Up (.sl false (l.map (V.int .i64)))=mT (l.map (V.int .i64))+1:=rfl;rw[e3,Ya]at hb;exact ac9 l (by omega)
theorem a0:Rows.stepCountsUptoRow.wf (OpenSpec.ofChange (Rows.OpenSpec.upto Rows.stepCountsSpec).bare)=true:=by kernel_rfl
theorem a1:Tryz.f10.params.all (Tryz.pinned.checked.prog.readableRec ·)=true:=by kernel_rfl
theorem a2:namedTie Tryz.pinned.checked.prog Rows.stepCountsUptoRow.named (Rows.OpenSpec.upto Rows.stepCountsSpec).bare.vars=true:=by kernel_rfl
theorem a3:(Rows.stepCountsUptoRow.stops==[])=true:=by kernel_rfl
theorem a4:(Rows.stepCountsUptoRow.knobs==[])=true:=by kernel_rfl
theorem a5:(Rows.stepCountsUptoRow.inPlace==Tryz.pinned.checked.prog.inPlace 10)=true:=by kernel_rfl
theorem a6:(Rows.stepCountsUptoRow.unfollowed==Tryz.pinned.checked.prog.unfollowed 10)=true:=by kernel_rfl
theorem a7:(Rows.stepCountsUptoRow.recurses==Tryz.pinned.checked.prog.recurses 10)=true:=by kernel_rfl
theorem a8:(Rows.stepCountsUptoRow.named==Tryz.pinned.checked.prog.varsNamed 10)=true:=by kernel_rfl
theorem a9:(Rows.stepCountsUptoRow.maps==(Tryz.f10.params.toList++(Rows.OpenSpec.upto Rows.stepCountsSpec).bare.plain.varTypes Tryz.pinned.checked.prog).any (Tryz.pinned.checked.prog.mapsRec ·))=true:=by kernel_rfl
theorem Px:(Rows.stepCountsUptoRow.ifaces==(Tryz.f10.params.toList++(Rows.OpenSpec.upto Rows.stepCountsSpec).bare.plain.varTypes Tryz.pinned.checked.prog).any (Tryz.pinned.checked.prog.ifacesRec ·))=true:=by kernel_rfl
theorem a11:(Rows.stepCountsUptoRow.mapsOut==Tryz.pinned.checked.prog.mapsAmong Tryz.f10.resultTypes.toList)=true:=by kernel_rfl
theorem a12:(Rows.stepCountsUptoRow.loops==(Tryz.f10.params.toList++(Rows.OpenSpec.upto Rows.stepCountsSpec).bare.plain.varTypes Tryz.pinned.checked.prog).any (Tryz.pinned.checked.prog.loopsFrom ·))=true:=by kernel_rfl
theorem a13:(Rows.stepCountsUptoRow.wideKeys==(Tryz.f10.params.toList++(Rows.OpenSpec.upto Rows.stepCountsSpec).bare.plain.varTypes Tryz.pinned.checked.prog++Tryz.f10.resultTypes.toList).any (Tryz.pinned.checked.prog.wideKeysFrom ·))=true:=by kernel_rfl
theorem a14:(Rows.OpenSpec.upto Rows.stepCountsSpec).bare.vars.all (Tryz.pinned.checked.prog.varReadable ·)=true:=by kernel_rfl
theorem a15:Tryz.f10.resultTypes.all (fun t=>Tryz.pinned.checked.prog.readableRec t&&decide (t<Tryz.pinned.checked.prog.types.size))=true:=by kernel_rfl
theorem a16:(Rows.stepCountsUptoRow.ifacesOut==Tryz.f10.resultTypes.toList.any (Tryz.pinned.checked.prog.ifacesRec ·))=true:=by kernel_rfl
theorem a17:(Rows.stepCountsUptoRow.loopsOut==Tryz.f10.resultTypes.toList.any (Tryz.pinned.checked.prog.loopsFrom ·))=true:=by kernel_rfl
theorem a18:(Rows.stepCountsUptoRow.plainKeys==Tryz.pinned.checked.prog.plainKeys)=true:=by kernel_rfl
theorem a19:Rows.stepCountsUptoRow.shortTexts.isNone=true:=by kernel_rfl
theorem a20:(Rows.stepCountsUptoRow.lifted==Tryz.pinned.checked.prog.liftsFinal)=true:=by kernel_rfl
theorem a21:(Tryz.pinned.checked.prog.make==some Rows.stepCountsUptoRow.make)=true:=by kernel_rfl
theorem a22:(Rows.stepCountsUptoRow.kinds==(if Rows.stepCountsUptoRow.domain.isEmpty then [] else Tryz.f10.params.toList.map fun t=>match Tryz.pinned.checked.prog.underlying t with|some (.int k)=>some k|_=>none))=true:=by kernel_rfl
theorem a23:(Rows.stepCountsUptoRow.pinned==Rows.stepCountsUptoRow.pinnedBy)=true:=by kernel_rfl
theorem a24:(Rows.stepCountsUptoRow.veiled==(Tryz.f10.params.toList++(Rows.OpenSpec.upto Rows.stepCountsSpec).bare.plain.varTypes Tryz.pinned.checked.prog++Tryz.f10.resultTypes.toList).any (Tryz.pinned.checked.prog.veiledRec ·))=true:=by kernel_rfl
theorem a25:Rows.stepCountsUptoRow.veiledFits Tryz.pinned.checked.prog Tryz.f10.params.toList (Tryz.f10.params.toList++(Rows.OpenSpec.upto Rows.stepCountsSpec).bare.plain.varTypes Tryz.pinned.checked.prog++Tryz.f10.resultTypes.toList)=true:=by kernel_rfl
theorem closed:joinedFacts Tryz.pinned.checked.prog 10 Tryz.f10 (Rows.OpenSpec.upto Rows.stepCountsSpec).bare Rows.stepCountsUptoRow=true:=by
 unfold joinedFacts;exact(gW (gW (gW (gW (gW (gW (gW (gW (gW (gW (gW (gW (gW (gW (gW (gW (gW (gW (gW (gW (gW (gW (gW (gW (gW (gW (gW (gW (gW (gW (gW a0 abw) al0) a1) a2) a3) aez) a4) ae0) a5) a6) a7) a8) a9) Px) a11) a12) a13) a14) a15) a16) a17) a18) a19) heard) ae1) a20) a21) a22) a23) a24) a25)
theorem isI:Tryz.f10.isInstance Tryz.pinned.checked.prog Rows.stepCountsUptoRow.origin Rows.stepCountsUptoRow.targs:=of_decide_eq_true (by kernel_rfl)
theorem isW:Tryz.f10.isWrapper Tryz.pinned.checked.prog Rows.stepCountsUptoRow.wrapper Rows.stepCountsUptoRow.mainSum:=by
 unfold Func.isWrapper;first|(rw[if_pos (by decide+kernel)];kernel_rfl)|(rw[if_neg (by decide+kernel)];exact⟨rfl,rfl⟩)
theorem apb:Tryz.pinned.checked.prog.funcNamed Rows.stepCountsUptoRow.func=some 10:=by kernel_rfl
theorem lifted(os:Os)(started:os.Started)(H:Type)(enc:TypeId×Value->H)(F:Stop.Interp):
  ReturnsInHanded {} Tryz.checked os 10 .any ((Rows.OpenSpec.upto Rows.stepCountsSpec).pre6 enc Tryz.prog Tryz.f10 Rows.stepCountsUptoRow.domain false) (((Rows.OpenSpec.upto Rows.stepCountsSpec).at F).post enc Tryz.prog Tryz.f10 false true false false):=by
 refine returnsInHanded_of_cond (C:=Tryz.checked) (s:=(Rows.OpenSpec.upto Rows.stepCountsSpec)) (k:=Rows.uptoSmall) rfl own started (by kernel_rfl) Tryz.func10
  (OpenSpec.witness (enc:=enc) (C:=Tryz.checked) (s:=(Rows.OpenSpec.upto Rows.stepCountsSpec)) (k:=Rows.uptoSmall) rfl false ⟨#[],#[.slice none 0 0],[]⟩ 8 (by kernel_rfl) (by kernel_rfl) (by kernel_rfl)
   (x:=([.nil],[],[])) (by kernel_rfl) rfl (by kernel_rfl)) ?_
 intro W base args ds gs before Hl hW _ hk _;have hgs:gs=[]:=by
  obtain⟨p,q,_,hV,_⟩:=hW;cases gs with
  |nil=>rfl
  |cons _ _=>simp[DataW.TrodVars,Rows.stepCountsSpec,Rows.OpenSpec.upto,OpenSpec.ofChange]at hV
 subst hgs;rw[List.append_nil]at hk;exact Uu Fo ao9 (s:=Rows.stepCountsSpec) rfl (fun H ds hl=>by
  match ds,hl with
  | [a],_=>rfl) apa H Rows.uptoBulk (cX8 H) enc W base args ds [] before Hl hW (cX9 hk)
theorem pZ:Rows.stepCountsUptoRow.holds Tryz.pinned (Rows.OpenSpec.upto Rows.stepCountsSpec):=
 OpenClaim.holds_of_cond 10 Tryz.f10 rfl rfl rfl rfl rfl rfl rfl ⟨rfl,rfl,rfl,rfl,rfl⟩ rfl rfl rfl rfl rfl apb Tryz.func10 closed isI isW
  (fun os started H enc _ F=>lifted os started H enc F)
end counts
theorem stepCounts:Rows.StepCountsUptoSaid:=counts.pZ
end Go.Proofs.YtejohpnpnaljdaaGreat
