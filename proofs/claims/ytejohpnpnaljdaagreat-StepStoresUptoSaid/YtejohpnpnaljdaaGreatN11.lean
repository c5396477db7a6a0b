/- StepStores in its second form: for every list of numbers and every number whose bulk is at most 1048576, the law answers true and its input reads as before. -/
import Derived.Test.YtejohpnpnaljdaaGreatM13
import Derived.Test.YtejohpnpnaljdaaGreatM52
set_option linter.all false
set_option maxRecDepth 100000
set_option maxHeartbeats 20000000
namespace Go.Abs.lu
open Go Go.Abs
@[simp] theorem agx(l:List dT):df (l.map dT.e)=l.map dT.e:=jV (fun x=>by simp[dT.bP]) l
@[simp] theorem afz(l:List Output):df (l.map Output.e)=l.map Output.e:=jV (fun x=>by simp[Output.bP]) l
@[simp] theorem agf(l:List Entry):df (l.map Entry.e)=l.map Entry.e:=jV (fun x=>by simp[Entry.bP]) l
end Go.Abs.lu
namespace Go.Proofs.YtejohpnpnaljdaaGreat
open Go Go.Abs Go.Abs.lu
theorem afd{p:Prog}{c:Int}{m:bf}(H:cR p c m){t:Nat}(ht:t<4):cR p (c+1) (hZ p m t).1:=by
 have hl:t<m.threads.length:=by rw[H.len];exact ht
 have:=uU H (H.nv t hl);unfold hZ;rw[U5 hl];exact vO H (by omega) this.mem (fun g=>ab6 H (H.coh (by omega)) _) this.nv
end Go.Proofs.YtejohpnpnaljdaaGreat
namespace Go.Proofs.YtejohpnpnaljdaaGreat
open Go Go.Abs Go.Abs.lu
structure afm (s:State):Prop where
 regions:s.regions.length<=1000000000
 region: ∀i (h:i<s.regions.length),(s.regions[i]).length<=1000000000
 threads:s.threads.length<=1000000000
 view: ∀i (h:i<s.threads.length),(s.threads[i]).bm.length<=1000000000
end Go.Proofs.YtejohpnpnaljdaaGreat
namespace Go.Proofs.YtejohpnpnaljdaaGreat
open Go Go.Abs Go.Abs.lu
@[simp] theorem afw(ay:List Instr)(ah:List Int)(az:List (List Int))(aa:List Int)(aw:Int)(aq:List Cell)(an:List cx)(ax:List Thread)(t:Int)(hp:rK (Prog.mk ay ah az))(hm:qA (bf.mk (aN.mk aa aw) (aK.mk aq an) ax))(hr:yl (bf.mk (aN.mk aa aw) (aK.mk aq an) ax)):cz X 35 [.agg [.sl false (ay.map Instr.e),.sl false (ah.map (V.int .i64)),.sl false (az.map aS)],.agg [.sl false (aa.map (V.int .i64)),.int .u16 aw,.sl false (aq.map Cell.e),.sl false (an.map cx.e),.sl false (ax.map Thread.e)],.int .i64 t]=some (.de [.agg [.sl false (((AY (Prog.mk ay ah az) (bf.mk (aN.mk aa aw) (aK.mk aq an) ax) t).1).layout.aD.map (V.int .i64)),.int .u16 ((AY (Prog.mk ay ah az) (bf.mk (aN.mk aa aw) (aK.mk aq an) ax) t).1).layout.key,.sl false (((AY (Prog.mk ay ah az) (bf.mk (aN.mk aa aw) (aK.mk aq an) ax) t).1).memory.cells.map Cell.e),.sl false (((AY (Prog.mk ay ah az) (bf.mk (aN.mk aa aw) (aK.mk aq an) ax) t).1).memory.lines.map cx.e),.sl false (((AY (Prog.mk ay ah az) (bf.mk (aN.mk aa aw) (aK.mk aq an) ax) t).1).threads.map Thread.e)],.int .i64 ((AY (Prog.mk ay ah az) (bf.mk (aN.mk aa aw) (aK.mk aq an) ax) t).2.1),.int .i64 ((AY (Prog.mk ay ah az) (bf.mk (aN.mk aa aw) (aK.mk aq an) ax) t).2.2)]):=by
 obtain⟨H0,hH0⟩: ∃H:aY,aO (aO (aO m8 0 (some ⟨3,[.agg [.sl false (ay.map Instr.e),.sl false (ah.map (V.int .i64)),.sl false (az.map aS)]],true⟩)) 1 (some ⟨5,[.agg [.sl false (aa.map (V.int .i64)),.int .u16 aw,.sl false (aq.map Cell.e),.sl false (an.map cx.e),.sl false (ax.map Thread.e)]],true⟩)) 2 (some ⟨5,[.agg [.sl true [],.int .u16 0,.sl true [],.sl true [],.sl true []]],true⟩)=H:=⟨_,rfl⟩;have z0:H0 0=some ⟨3,[.agg [.sl false (ay.map Instr.e),.sl false (ah.map (V.int .i64)),.sl false (az.map aS)]],true⟩:=by rw[<-hH0];simp[aO]
 have z1:H0 1=some ⟨5,[.agg [.sl false (aa.map (V.int .i64)),.int .u16 aw,.sl false (aq.map Cell.e),.sl false (an.map cx.e),.sl false (ax.map Thread.e)]],true⟩:=by rw[<-hH0];simp[aO]
 have z2:H0 2=some ⟨5,[.agg [.sl true [],.int .u16 0,.sl true [],.sl true [],.sl true []]],true⟩:=by rw[<-hH0];simp[aO]
 by_cases hc:jc (Prog.mk ay ah az) (bf.mk (aN.mk aa aw) (aK.mk aq an) ax)=true/\0<=t/\t<4
 case neg=>
  rw[YS hc];unfold fG;obtain⟨h',k',e,hk,hf⟩:=C1 ay ah az aa aw aq an ax t H0 14 hp hm hc;have f2:=hf 2 (by omega);rw[z2]at f2;refine bd Tryz.func35 rfl rfl ?_;simp(maxSteps:=10000000) (maxDischargeDepth:=30) -implicitDefEqProofs[hH0,z0,z1,e,f2]
 obtain⟨hv,h0,h4⟩:=hc;obtain⟨n,rfl⟩:=Int.eq_ofNat_of_zero_le h0;have n4:n<4:=by omega
 have MG:=uT hr hv;have hl:ax.length=4:=MG.len;have nl:n<ax.length:=by omega
 have hx:cg (bf.mk (aN.mk aa aw) (aK.mk aq an) ax) (n:Int).toNat=ax[n]:=by rw[Int.toNat_natCast];exact ie nl
 obtain⟨h1,k1,cB,b,C,L,T,ids,aZ,e,HB⟩:=Ny ay ah az aa aw aq an ax 0 H0 14 n hr hv n4;unfold kv at e;simp only at e;have f2:=HB.fr 2 (by omega);rw[z2]at f2;have hcb:=HB.core.box;have hT:=HB.yq.nv;unfold iS at hcb;simp only at hcb hT;have gg:=eF (ids:=aZ) nl;have gle:=ed aZ ax;rw[hl]at gle;by_cases hs:(ax[n]).state=1
 case neg=>
  have e0:AY (Prog.mk ay ah az) (bf.mk (aN.mk aa aw) (aK.mk aq an) ax) n=(fG,0,10):=by unfold AY;rw[if_pos ⟨hv,h0,h4⟩,hx,if_neg hs]
  rw[e0];unfold fG;refine bd Tryz.func35 rfl rfl ?_;simp(maxSteps:=10000000) (maxDischargeDepth:=30) -implicitDefEqProofs[hH0,z0,z1,e,f2,hcb,hT,gg,gle,n4,hs]
 have e0:AY (Prog.mk ay ah az) (bf.mk (aN.mk aa aw) (aK.mk aq an) ax) n=((hZ (Prog.mk ay ah az) (bf.mk (aN.mk aa aw) (aK.mk aq an) ax) n).1,(hZ (Prog.mk ay ah az) (bf.mk (aN.mk aa aw) (aK.mk aq an) ax) n).2,0):=by unfold AY;rw[if_pos ⟨hv,h0,h4⟩,hx,if_pos hs,Int.toNat_natCast]
 rw[e0];refine yu.cz ?_;have hs':=eq_true hs;obtain⟨HA1,hA2,hA3⟩:=HB.IX;have frm: ∀i,i<k1->h1 i=h1 i:=fun _ _=>rfl;obtain⟨h2,k2,ahm,eo,G,g1,g2,g3⟩:=Wd .bad (Prog.mk ay ah az) h1 (k1+13) cB b _ C L T ids aZ (bf.mk (aN.mk aa aw) (aK.mk aq an) ax) n _ (HB.yq.mono (by omega) frm) MG (HB.core.mono (by omega) frm) (by omega) n4 rfl;have GA:na 14 (.sl false (aa.map (V.int .i64))) C L T ahm aZ:=by
  obtain⟨q1,q2,q3⟩:=HA1;refine⟨q1,fun j hj=>⟨?_,(q2 j hj).2⟩,q3⟩;rcases g2 j hj with e|e
  ·rw[e];exact(q2 j hj).1
  ·have:=HB.le;omega
 have hke:=HB.le;have mM:=HB.core.lt;obtain⟨e1,e2,e3,e4⟩:=HB.core.ne;have fc:=g3 cB (by omega) e2 e3 (fun j hj=>(HB.core.ni j hj).1) e4 (HB.core.ni n n4).2;rw[hcb]at fc;obtain⟨⟨x1,x2,x3⟩,x4,x5⟩:=HA1;have f22:=g3 2 (by omega) (by omega) (by omega) (fun j hj=>by have:=x4 j hj;omega) (by omega) (by have:=x4 n n4;omega);rw[f2]at f22;have bx:=G.sE;have gl:=G.len;unfold jo at bx;rw[gl]at bx;have hly:(hZ (Prog.mk ay ah az) (bf.mk (aN.mk aa aw) (aK.mk aq an) ax) n).1.layout=⟨aa,aw⟩:=rfl;rw[hly]at bx;simp only at bx;refine bu (X:=X) Tryz.func35 rfl rfl ?_;simp(maxSteps:=10000000) (maxDischargeDepth:=30) -implicitDefEqProofs[hH0,z0,z1,e,f2,hcb,hT,gg,gle,n4,hs',eo,fc,f22,bx,Nat.add_assoc];refine⟨_,C,L,T,ahm,aZ,k2,?_,G.at.mono GA (Nat.le_refl _) fun i hi _=>by rw[aO,if_neg (by omega)]⟩;unfold jo;rw[gl,hly]
end Go.Proofs.YtejohpnpnaljdaaGreat
namespace Go.Proofs.YtejohpnpnaljdaaGreat
open Go Go.Abs Go.Abs.lu
def ady(p:Prog)(m:bf):Nat->bf
 |0=>m
 |k+1=>(hZ p (ady p m k) 0).1
theorem aeg(p:Prog)(m:bf)(k:Nat):ady p m (k+1)=(hZ p (ady p m k) 0).1:=rfl
theorem aff(p:Prog)(m:bf):ady p m 0=m:=rfl
theorem af0{p:Prog}{d:Int}{m:bf}(h:cR p d m)(hd:d<=1099511627776)(hs:(cg m 0).state=1):AY p m 0=((hZ p m 0).1,(hZ p m 0).2,0):=by
 unfold AY;rw[if_pos ⟨(h.mono hd).ok,by omega,by omega⟩];simp only[Int.toNat_zero];rw[if_pos hs]
end Go.Proofs.YtejohpnpnaljdaaGreat
namespace Go.Proofs.YtejohpnpnaljdaaGreat
open Go Go.Abs Go.Abs.lu
theorem Zh.dy{k n:Nat}{s:State}{v:V}{h:aY}(H:Zh k n s v h)(h1:0<s.regions.length)(h2:0<s.threads.length)(d:Nat):bT h (d+6) v=some (.agg [.sl false (s.regions.map ba),.sl false (s.threads.map View.e)]):=by
 obtain⟨R,T,ri,vi,rfl,Q⟩:=H.R h1 h2;have l1:(ig ri s.regions).length=s.regions.length:=by simp[ig]
 have l2:(iv vi s.threads).length=s.threads.length:=by simp[iv]
 have t1:(ig ri s.regions).take s.regions.length=ig ri s.regions:=bn (by omega);have t2:(iv vi s.threads).take s.threads.length=iv vi s.threads:=bn (by omega);have e1:cn ((ig ri s.regions).map (bT h (d+4)))=some (s.regions.map ba):=by
  refine lj _ _ fun i hi=> ?_;have:=Q.rat i hi;simp[bT,cn,this,qy]
 have e2:cn ((iv vi s.threads).map (bT h (d+4)))=some (s.threads.map View.e):=by
  refine lj _ _ fun i hi=> ?_;have:=Q.vat i hi;simp[oL,bT,cn,this,View.bP]
 simp[bT,cn,Q.row,Q.vow,l1,l2,t1,t2,e1,e2]
theorem aeb{p:Prog}{d:Int}{m:bf}(HG:cR p d m):afm (px p m)/\0<(px p m).regions.length/\0<(px p m).threads.length:=by
 have hz:=HG.lay.sz;have h4:=HG.len;refine⟨⟨by simp[px,iX];have:=hz.le;omega,fun i hi=> ?_,by simp[px,mI];omega,fun i hi=> ?_⟩,by simp[px,iX];have:=hz.pos;omega,by simp[px,mI];omega⟩
 ·simp only[px,iX,List.length_map,List.length_range]at hi;have:=hz.elem i hi;simp only[px,iX,List.getElem_map,List.getElem_range,rN,sI];rw[cZ hi];omega
 ·simp only[px,mI,List.length_map]at hi;have:=(HG.nv i hi).bm;simp only[px,mI,List.getElem_map,yD,List.length_map];omega
@[simp] theorem afg(ay:List Instr)(ah:List Int)(az:List (List Int))(aa:List Int)(aw:Int)(aq:List Cell)(an:List cx)(ax:List Thread)(d:Int)(HG:cR (Prog.mk ay ah az) d (bf.mk (aN.mk aa aw) (aK.mk aq an) ax)):cz X 29 [.agg [.sl false (ay.map Instr.e),.sl false (ah.map (V.int .i64)),.sl false (az.map aS)],.agg [.sl false (aa.map (V.int .i64)),.int .u16 aw,.sl false (aq.map Cell.e),.sl false (an.map cx.e),.sl false (ax.map Thread.e)]]=some (.agg [.sl false ((px (Prog.mk ay ah az) (bf.mk (aN.mk aa aw) (aK.mk aq an) ax)).regions.map ba),.sl false ((px (Prog.mk ay ah az) (bf.mk (aN.mk aa aw) (aK.mk aq an) ax)).threads.map View.e)]):=by
 obtain⟨v,h',k',e,H⟩:=Zi ay ah az aa aw aq an ax 0 d HG;have hl:=aeb HG;unfold Go.Abs.cz;have e':=e;unfold m8 at e';rw[e'];have hi:=H.dy hl.2.1 hl.2.2 (depth-6);rw[show depth-6+6=depth from rfl]at hi;simp only[hi,Option.map_some,V.jm,df];simp
end Go.Proofs.YtejohpnpnaljdaaGreat
namespace Go.Proofs.YtejohpnpnaljdaaGreat
open Go Go.Abs Go.Abs.lu
theorem d7.aws{B:Nat->Prop}{m:aK}(h:d7 B m):d7 (fun _=>False) m:=fun r hr t ht o ho hb=>h r hr t ht o ho (hb.imp id False.elim)
def aeh(r k:Int):List Instr:=[⟨15,6,0,0,r⟩,⟨17,6,3,0,k⟩,⟨16,4,6,0,k⟩]
theorem ad0(r k:Int):(aeh r k).length=3:=rfl
theorem af1{ps:List Int}{pd:List (List Int)}{pc:List Instr}(h:pO ⟨pc,ps,pd⟩){r k:Int}(hr:0<=r/\r<ps.length)(hk:0<=k/\k<32):pO ⟨aeh r k,ps,pd⟩:=by
 have z4:=h.ae.le;simp only at z4;refine⟨h.ae,h.len,h.data,by simp only[ad0];omega,by simp only[ad0];omega,fun i hi=> ?_,fun i hi=> ?_⟩
 ·have:i=0\/i=1\/i=2:=by simp only[ad0]at hi;omega
  rcases this with rfl|rfl|rfl
  ·show lg ⟨15,6,0,0,r⟩=true;have:r=0\/r=1\/r=2\/r=3:=by omega
   rcases this with rfl|rfl|rfl|rfl<;>rfl
  ·show lg ⟨17,6,3,0,k⟩=true;unfold lg;simp[fv,jumps];omega
  ·show lg ⟨16,4,6,0,k⟩=true;unfold lg;simp[fv,jumps];omega
 ·have:i=0\/i=1\/i=2:=by simp only[ad0]at hi;omega
  rcases this with rfl|rfl|rfl
  ·show ng _ _ ⟨15,6,0,0,r⟩=true;simp[ng,jumps];omega
  ·show ng _ _ ⟨17,6,3,0,k⟩=true;simp[ng,jumps]
  ·show ng _ _ ⟨16,4,6,0,k⟩=true;simp[ng,jumps]
theorem af2{aD ae:List Int}(hL:nr aD ae){r:Nat}(hr:r<ae.length){k:Int}(hk:0<=k/\k<nth ae r):jb aD ae ⟨1,nth aD r⟩ k false=(⟨1,nth aD r+k⟩,0):=by
 have hb:r<aD.length:=by rw[hL.len];exact hr
 rw[cZ hr]at hk;have e:=abt hL hb hr (o:=0) (Int.le_refl 0) (by omega);rw[Int.add_zero,<-cZ hb]at e;have h1:(resolve aD ae (⟨1,nth aD r⟩:Cell).val).2=true:=by simp only;rw[e]
 have h2:(resolve aD ae (⟨1,nth aD r⟩:Cell).val).1=⟨(r:Int),0⟩:=by simp only;rw[e]
 rw[uR rfl h1 h2];have hi:inside ae (r:Int) k=true:=kQ.2 ⟨r,hr,rfl,by omega,by omega⟩;simp only[Bool.false_eq_true,if_false,hi,if_true,Int.zero_add]
structure ag5 (p:Prog) (m:bf) (r k:Nat) (x3:bf):Prop where
 lay:x3.layout=m.layout
 seen: ∀a,look x3.memory a=if a=(nth m.layout.aD r).toNat+k then iR (cg m 0) 3 else look m.memory a
 Ez:(cg x3 0).bm.getD 4 ⟨0,0⟩=iR (cg m 0) 3
theorem af3{ps:List Int}{pd:List (List Int)}{d:Int}{m:bf}{r k:Nat}(H:cR ⟨aeh r k,ps,pd⟩ d m)(hd:d<=2000)(hr:r<ps.length)(hk:(k:Int)<nth ps r)(hs:(cg m 0).state=1)(hp:(cg m 0).pc=0):
  (∀i:Nat,i<3->cR ⟨aeh r k,ps,pd⟩ (d+i) (ady ⟨aeh r k,ps,pd⟩ m i)/\(cg (ady ⟨aeh r k,ps,pd⟩ m i) 0).state=1/\(hZ ⟨aeh r k,ps,pd⟩ (ady ⟨aeh r k,ps,pd⟩ m i) 0).2= -1)/\
  cR ⟨aeh r k,ps,pd⟩ (d+3) (ady ⟨aeh r k,ps,pd⟩ m 3)/\ag5 ⟨aeh r k,ps,pd⟩ m r k (ady ⟨aeh r k,ps,pd⟩ m 3):=by
 obtain⟨p,hpp⟩: ∃p,(⟨aeh r k,ps,pd⟩:Prog)=p:=⟨_,rfl⟩;have hL:nr m.layout.aD ps:=H.lay;have hc:p.code=aeh r k:=by rw[<-hpp]
 have hps:p.ae=ps:=by rw[<-hpp]
 rw[hpp]at H⊢;have t4:(0:Nat)<4:=by omega
 have mv:=af2 hL hr (k:=(k:Int)) ⟨by omega,hk⟩;have sW:r<m.layout.aD.length:=by rw[hL.len];exact hr
 have ab7:=hL.base r sW hr;have hka:(k:Int)<ps[r]:=by rw[<-cZ hr];exact hk
 rw[<-cZ sW]at ab7;obtain⟨B,hB⟩: ∃B:Nat,nth m.layout.aD r=B:=⟨(nth m.layout.aD r).toNat,by omega⟩;rw[hB]at mv ab7;have hA:B+k<512:=by omega
 have ab9:((B:Int)+(k:Int)).toNat=B+k:=by omega
 have gx:=H.cg t4;obtain⟨⟨st,rg,tp,co,ha,sa,tr,cd⟩,hx⟩: ∃x,cg m 0=x:=⟨_,rfl⟩;rw[hx]at hs hp gx;simp only at hs hp;subst hs;subst hp;have hrl:rg.length=8:=gx.bm;have hml:0<m.threads.length:=by rw[H.len];omega
 have s0:mB p m ⟨1,rg,0,co,ha,sa,tr,cd⟩=(m.memory,⟨1,rg.set 6 ⟨1,(B:Int)⟩,1,co,ha,sa,tr,cd⟩, -1):=by
  unfold mB;rw[if_pos (by rw[hc];simp[ad0]),hc];show fR p m _ ⟨15,6,0,0,(r:Int)⟩=_;unfold fR;simp[si,Co,hB]
 have acf:hZ p m 0=(kq m m.memory 0 ⟨1,rg.set 6 ⟨1,(B:Int)⟩,1,co,ha,sa,tr,cd⟩, -1):=by
  rw[tD,hx,s0]
 obtain⟨m1,h1⟩: ∃a,kq m m.memory 0 ⟨1,rg.set 6 ⟨1,(B:Int)⟩,1,co,ha,sa,tr,cd⟩=a:=⟨_,rfl⟩;have e1:ady p m 1=m1:=by rw[aeg,aff,acf];exact h1
 have acg:cR p (d+1) m1:=by have:=afd H t4;rw[acf,h1]at this;exact this
 have x1:cg m1 0=⟨1,rg.set 6 ⟨1,(B:Int)⟩,1,co,ha,sa,tr,cd⟩:=by rw[<-h1];exact Pz hml
 have l1:m1.layout=m.layout:=by rw[<-h1];rfl
 have y1:m1.memory=m.memory:=by rw[<-h1];rfl
 have s1:mB p m1 ⟨1,rg.set 6 ⟨1,(B:Int)⟩,1,co,ha,sa,tr,cd⟩=(mz m.memory (B+k) (rg.getD 3 ⟨0,0⟩),⟨1,rg.set 6 ⟨1,(B:Int)⟩,2,co,ha,sa,tr,cd⟩, -1):=by
  unfold mB;rw[if_pos (by rw[hc];simp[ad0]),hc];show fR p m1 _ ⟨17,6,3,0,(k:Int)⟩=_;have e6:(rg.set 6 (⟨1,(B:Int)⟩:Cell)).getD 6 ⟨0,0⟩=⟨1,(B:Int)⟩:=by simp[List.getD,hrl]
  have e3:(rg.set 6 (⟨1,(B:Int)⟩:Cell)).getD 3 ⟨0,0⟩=rg.getD 3 ⟨0,0⟩:=by simp[List.getD]
  unfold fR;simp only[iR,show(6:Int).toNat=6 from rfl,show(3:Int).toNat=3 from rfl,e6,e3,l1,y1,hps,mv,ab9];simp[si]
 have o1:hZ p m1 0=(kq m1 (mz m.memory (B+k) (rg.getD 3 ⟨0,0⟩)) 0 ⟨1,rg.set 6 ⟨1,(B:Int)⟩,2,co,ha,sa,tr,cd⟩, -1):=by
  rw[tD,x1,s1]
 obtain⟨m2,h2⟩: ∃a,kq m1 (mz m.memory (B+k) (rg.getD 3 ⟨0,0⟩)) 0 ⟨1,rg.set 6 ⟨1,(B:Int)⟩,2,co,ha,sa,tr,cd⟩=a:=⟨_,rfl⟩;have e2:ady p m 2=m2:=by rw[aeg,e1,o1];exact h2
 have acm:cR p (d+2) m2:=by have:=afd acg t4;rw[o1,h2]at this;exact this.mono (by omega)
 have x2:cg m2 0=⟨1,rg.set 6 ⟨1,(B:Int)⟩,2,co,ha,sa,tr,cd⟩:=by rw[<-h2];exact Pz (by rw[acg.len];omega)
 have l2:m2.layout=m.layout:=by rw[<-h2];exact l1
 have y2:m2.memory=mz m.memory (B+k) (rg.getD 3 ⟨0,0⟩):=by rw[<-h2];rfl
 have s2:mB p m2 ⟨1,rg.set 6 ⟨1,(B:Int)⟩,2,co,ha,sa,tr,cd⟩=(cU m2.memory (B+k),⟨1,(rg.set 6 ⟨1,(B:Int)⟩).set 4 (kX m2.memory (B+k)),3,co,ha,sa,tr,cd⟩, -1):=by
  unfold mB;rw[if_pos (by rw[hc];simp[ad0]),hc];show fR p m2 _ ⟨16,4,6,0,(k:Int)⟩=_;have e6:(rg.set 6 (⟨1,(B:Int)⟩:Cell)).getD 6 ⟨0,0⟩=⟨1,(B:Int)⟩:=by simp[List.getD,hrl]
  unfold fR;simp only[iR,Co,show(6:Int).toNat=6 from rfl,show(4:Int).toNat=4 from rfl,e6,l2,hps,mv,ab9];simp[si]
 have o2:hZ p m2 0=(kq m2 (cU m2.memory (B+k)) 0 ⟨1,(rg.set 6 ⟨1,(B:Int)⟩).set 4 (kX m2.memory (B+k)),3,co,ha,sa,tr,cd⟩, -1):=by
  rw[tD,x2,s2]
 have e3:ady p m 3=kq m2 (cU m2.memory (B+k)) 0 ⟨1,(rg.set 6 ⟨1,(B:Int)⟩).set 4 (kX m2.memory (B+k)),3,co,ha,sa,tr,cd⟩:=by rw[aeg,e2,o2]
 have acq:cR p (d+3) (ady p m 3):=by have:=afd acm t4;rw[o2]at this;rw[e3];exact this.mono (by omega)
 have acv:d7 (fun _=>False) m2.memory:=(acm.coh (by omega)).aws;have acw:d7 (fun _=>False) m.memory:=(H.coh (by omega)).aws;refine⟨fun i hi=> ?_,acq,?_,fun a=> ?_,?_⟩
 ·have:i=0\/i=1\/i=2:=by omega
  rcases this with rfl|rfl|rfl
  ·rw[aff];exact⟨H.mono (by omega),by rw[hx],by rw[acf]⟩
  ·rw[e1];exact⟨acg,by rw[x1],by rw[o1]⟩
  ·rw[e2];exact⟨acm,by rw[x2],by rw[o2]⟩
 ·rw[e3];exact l2
 ·rw[e3];show look (cU m2.memory (B+k)) a=_;rw[t6 acm.mem.mem acv hA,y2,aac H.mem.mem acw hA,hB,Int.toNat_natCast,hx];rfl
 ·rw[e3,Pz (by rw[acm.len];omega),hx];show((rg.set 6 (⟨1,(B:Int)⟩:Cell)).set 4 (kX m2.memory (B+k))).getD 4 ⟨0,0⟩=rg.getD 3 ⟨0,0⟩;rw[t9 acm.mem.mem acv hA,y2,aac H.mem.mem acw hA,if_pos rfl];simp[List.getD,hrl]
theorem afk{p:Prog}{d:Int}{m x3:bf}{r k:Nat}(hL:nr m.layout.aD p.ae)(hr:r<p.ae.length)(hk:(k:Int)<nth p.ae r)(S:ag5 p m r k x3):
  (px p x3).regions.length=(px p m).regions.length/\(∀i,((px p x3).regions.getD i []).length=((px p m).regions.getD i []).length)/\
  (∀i j:Nat,i<p.ae.length->(j:Int)<nth p.ae i->(i≠r\/j≠k)->((px p x3).regions.getD i []).getD j ⟨0,0,0,0⟩=((px p m).regions.getD i []).getD j ⟨0,0,0,0⟩)/\
  ((px p x3).regions.getD r []).getD k ⟨0,0,0,0⟩=canon m.layout.aD m.layout.key p.ae (iR (cg m 0) 3):=by
 have row: ∀(y:bf) (i:Nat),y.layout=m.layout->i<p.ae.length->(px p y).regions.getD i []=mg m.layout.aD m.layout.key p.ae y.memory (nth m.layout.aD i).toNat (nth p.ae i).toNat:=fun y i hy hi=>by
  simp only[px,iX,List.getD_eq_getElem?_getD,List.getElem?_map,List.getElem?_range hi,Option.map_some,Option.getD_some,rN,hy]
 have out: ∀(y:bf) (i:Nat),¬i<p.ae.length->(px p y).regions.getD i []=[]:=fun y i hi=>by
  simp only[px,iX,List.getD_eq_getElem?_getD];rw[List.getElem?_eq_none (by simp;omega)];rfl
 have cell: ∀(y:bf) (i j:Nat),(j:Int)<nth p.ae i->(mg m.layout.aD m.layout.key p.ae y.memory (nth m.layout.aD i).toNat (nth p.ae i).toNat).getD j ⟨0,0,0,0⟩=canon m.layout.aD m.layout.key p.ae (look y.memory ((nth m.layout.aD i).toNat+j)):=fun y i j hj=>by
  simp only[mg,List.getD_eq_getElem?_getD,List.getElem?_map,List.getElem?_range (show j<(nth p.ae i).toNat by omega),Option.map_some,Option.getD_some]
 refine⟨by simp[px,iX],fun i=> ?_,fun i j hi hj iK=> ?_,?_⟩
 ·by_cases hi:i<p.ae.length
  ·rw[row x3 i S.lay hi,row m i rfl hi,sI,sI]
  ·rw[out x3 i hi,out m i hi]
 ·rw[row x3 i S.lay hi,row m i rfl hi,cell x3 i j hj,cell m i j hj,S.seen,if_neg];intro e;have bi:i<m.layout.aD.length:=by rw[hL.len];exact hi
  have br:r<m.layout.aD.length:=by rw[hL.len];exact hr
  have q1:=hL.base i bi hi;have q2:=hL.base r br hr;rw[cZ bi,cZ br]at e;rw[cZ hi]at hj;rw[cZ hr]at hk;by_cases g:i=r
  ·subst g;rcases iK with h|h
   ·exact h rfl
   ·omega
  ·have:=hL.apart i r bi hi br hr g;omega
 ·rw[row x3 r S.lay hr,cell x3 r k hk,S.seen,if_pos rfl]
structure aho (ps:List Int) (acx acz:List (List Canon)) (r k:Nat) (cc:Canon):Prop where
 la:acx.length=ps.length
 ac0:acz.length=acx.length
 ra: ∀i (h:i<acx.length) (h':i<ps.length),((acx[i]).length:Int)=ps[i]
 rb: ∀i (h:i<acz.length) (h':i<acx.length),(acz[i]).length=(acx[i]).length
 same: ∀i j (h:i<acx.length) (h':i<acz.length) (g:j<(acx[i]).length) (g':j<(acz[i]).length),(i≠r\/j≠k)->(acz[i])[j]=(acx[i])[j]
 one: ∀(h:r<acz.length) (g:k<(acz[r]).length),(acz[r])[k]=cc
theorem ad5{α:Type}{l:List α}{i:Nat}(h:i<l.length)(d:α):l.getD i d=l[i]:=by
 rw[List.getD_eq_getElem?_getD,List.getElem?_eq_getElem h];rfl
theorem agj{p:Prog}{d:Int}{m x3:bf}{r k:Nat}(hL:nr m.layout.aD p.ae)(hr:r<p.ae.length)(hk:(k:Int)<nth p.ae r)(S:ag5 p m r k x3):aho p.ae (px p m).regions (px p x3).regions r k (canon m.layout.aD m.layout.key p.ae (iR (cg m 0) 3)):=by
 obtain⟨s1,s2,s3,s4⟩:=afk (d:=d) hL hr hk S;have la:(px p m).regions.length=p.ae.length:=by simp[px,iX]
 have ra: ∀i (h:i<(px p m).regions.length) (h':i<p.ae.length),(((px p m).regions[i]).length:Int)=p.ae[i]:=fun i h h'=>by
  have z:=(hL.sz.elem i h').1;simp only[px,iX,List.getElem_map,List.getElem_range,rN,sI];rw[cZ h'];omega
 refine⟨la,s1,ra,fun i h h'=> ?_,fun i j h h' g g' iK=> ?_,fun h g=> ?_⟩
 ·have:=s2 i;rwa[ad5 h,ad5 h']at this
 ·have hp:i<p.ae.length:=by omega
  have:=s3 i j hp (by rw[cZ hp,<-ra i h hp];omega) iK;rwa[ad5 h',ad5 h,ad5 g',ad5 g]at this
 ·rwa[ad5 h,ad5 g]at s4
end Go.Proofs.YtejohpnpnaljdaaGreat
namespace Go.Proofs.YtejohpnpnaljdaaGreat
open Go Go.Abs Go.Abs.lu
@[simp] theorem aft(bK:List Int)(aV:Int)(hd:dr bK aV): ∃(kt:Int) (p:Prog) (d:Int) (m:bf),lZ X [(2,4,52)] 20 2 (.agg [.sl false (bK.map (V.int .i64)),.int .i64 aV]) []=some (2,.agg [.sl false (bK.map (V.int .i64)),.int .i64 kt],Z1 p m,.de [])/\dr bK kt/\cR p d m/\d<=2000/\(cg m 0).state=1:=by
 obtain⟨kt,⟨pc,ps,pd⟩,d,⟨⟨mb,mk⟩,⟨mc,ml⟩,mt⟩,hM,hdk,HG,hd2⟩:=Qw hd;simp only[Z1]at hM;have oP:mt.length=4:=HG.len;have afx:0<mt.length:=by omega
 have tkf: ∀(f:Thread->V),List.take 4 (mt.map f)=mt.map f:=fun f=>bn (by simp;omega);have tko: ∀(f:Thread->Option V),List.take 4 (mt.map f)=mt.map f:=fun f=>bn (by simp;omega);have hNx:=gy bK kt 3 hdk (by omega);have ag6:=dE hdk;have c64:pc.length<=64:=HG.prog.pk;have hwl:IntKind.i64.wrap ((pc.length:Int)+1)=(pc.length:Int)+1:=wrap_i64 (by omega);have hNy:=gy bK (cY bK kt) ((pc.length:Int)+1) ag6 (by omega);have ahs:=dE ag6;have hpv:=dC bK (cY bK kt) (n:=(pc.length:Int)+1) (by omega);have hNz:=gy bK kt ((pc.length:Int)+1) hdk (by omega);have hpz:=dC bK kt (n:=(pc.length:Int)+1) (by omega);obtain⟨⟨st,rg,tp,co,ha,sa,tr,cd⟩,hxe⟩: ∃x,mt[0]=x:=⟨_,rfl⟩;have hx0:cg ⟨⟨mb,mk⟩,⟨mc,ml⟩,mt⟩ 0=mt[0]:=ie afx;have ag7: ∀q:Int,(mt.map Thread.e).set 0 (.agg [.int .i64 1,.sl false (rg.map Cell.e),.int .i64 q,.int .i64 co,.int .i64 ha,.int .i64 sa,.int .i64 tr,.int .u16 cd])=(mt.set 0 (Gn ⟨st,rg,tp,co,ha,sa,tr,cd⟩ q)).map Thread.e:=fun _=>by rw[List.map_set];rfl
 have dV: ∀(hx:aY) (q:Int),cn (List.take 4 ((mt.map (bT hx 12∘Thread.e)).set 0 (some (.agg [.int .i64 1,.sl false (rg.map Cell.e),.int .i64 q,.int .i64 co,.int .i64 ha,.int .i64 sa,.int .i64 tr,.int .u16 cd]))))=some ((mt.set 0 (Gn ⟨st,rg,tp,co,ha,sa,tr,cd⟩ q)).map Thread.e):=fun hx q=>by
  have e:(some (V.agg [.int .i64 1,.sl false (rg.map Cell.e),.int .i64 q,.int .i64 co,.int .i64 ha,.int .i64 sa,.int .i64 tr,.int .u16 cd]))=(bT hx 12∘Thread.e) (Gn ⟨st,rg,tp,co,ha,sa,tr,cd⟩ q):=rfl;rw[e,<-List.map_set,bn (by simp[oP]),jy]
 have aht: ∀x,(mt.set 0 x).length=4:=fun x=>by simp[oP]
 have skf: ∀x (f:Thread->V),List.take 4 ((mt.set 0 x).map f)=(mt.set 0 x).map f:=fun x f=>bn (by simp[oP]);by_cases hs:st=1
 ·subst hs;by_cases h3:dL bK kt 3=0
  ·have h3':=eq_true h3;obtain⟨q,hq⟩: ∃q,dL bK (cY bK kt) ((pc.length:Int)+1)=q:=⟨_,rfl⟩;rw[hq]at hNy hpv;have hr:=Nz HG (pc:=q) (by omega);rw[hx0,hxe]at hr;simp only at hr;refine⟨cY bK (cY bK kt),⟨pc,ps,pd⟩,d,⟨⟨mb,mk⟩,⟨mc,ml⟩,mt.set 0 (Gn ⟨1,rg,tp,co,ha,sa,tr,cd⟩ q)⟩,?_,by assumption,hr.1,hd2,hr.2⟩;unfold Z1;obtain⟨M,hM'⟩: ∃M,mt.set 0 (Gn ⟨1,rg,tp,co,ha,sa,tr,cd⟩ q)=M:=⟨_,rfl⟩;rw[hM'];refine dN Tryz.func20 rfl rfl ?_;simp(maxSteps:=10000000) (maxDischargeDepth:=30) -implicitDefEqProofs[hM,oP,afx,tkf,tko,hNx,hNy,hwl,h3',hxe,Thread.bP,jy,nV];simp[dV,nV,hM']
  ·refine⟨cY bK kt,⟨pc,ps,pd⟩,d,⟨⟨mb,mk⟩,⟨mc,ml⟩,mt⟩,?_,ag6,HG,hd2,by rw[hx0,hxe]⟩;unfold Z1;refine dN Tryz.func20 rfl rfl ?_;simp(maxSteps:=10000000) (maxDischargeDepth:=30) -implicitDefEqProofs[hM,oP,afx,tkf,tko,hNx,h3,hxe,Thread.bP,jy,nV]
 ·have ahu:=dE hdk;obtain⟨q,hq⟩: ∃q,dL bK kt ((pc.length:Int)+1)=q:=⟨_,rfl⟩;rw[hq]at hNz hpz;have hr:=Nz HG (pc:=q) (by omega);rw[hx0,hxe]at hr;simp only at hr;refine⟨cY bK kt,⟨pc,ps,pd⟩,d,⟨⟨mb,mk⟩,⟨mc,ml⟩,mt.set 0 (Gn ⟨st,rg,tp,co,ha,sa,tr,cd⟩ q)⟩,?_,by assumption,hr.1,hd2,hr.2⟩;unfold Z1;obtain⟨M,hM'⟩: ∃M,mt.set 0 (Gn ⟨st,rg,tp,co,ha,sa,tr,cd⟩ q)=M:=⟨_,rfl⟩;rw[hM'];refine dN Tryz.func20 rfl rfl ?_;simp(maxSteps:=10000000) (maxDischargeDepth:=30) -implicitDefEqProofs[hM,oP,afx,tkf,tko,hNx,hNz,hwl,hs,hxe,Thread.bP,jy,nV];simp[dV,nV,hM']
@[simp] theorem aem(l:List Int)(aev:Int)(hl:l.length<=2000000): ∃h' k',cy X 11 [.sl false (l.map (V.int .i64)),.int .i64 aev] m8 0=some (.bool true,h',k'):=by
 suffices H: ∃v h' k',cy X 11 [.sl false (l.map (V.int .i64)),.int .i64 aev] m8 0=some (v,h',k')/\v= .bool true by
  obtain⟨v,h',k',e,rfl⟩:=H;exact⟨h',k',e⟩
 have hw:=QA;have hd0:dr l 0:=⟨by omega,by omega⟩;obtain⟨kt,⟨pc,ps,pd⟩,d,⟨⟨mb,mk⟩,⟨mc,ml⟩,mt⟩,hM,hdk,HG,hd2,iZ⟩:=aft l 0 hd0;simp only[Z1]at hM;have oP:mt.length=4:=HG.len;have afx:0<mt.length:=by omega
 have z1:1<=ps.length:=HG.prog.ae.pos;have z4:ps.length<=4:=HG.prog.ae.le;have tkf: ∀(f:Thread->V),List.take 4 (mt.map f)=mt.map f:=fun f=>bn (by simp;omega);have N1:=gy l kt (ps.length:Int) hdk (by omega);have v1:=dC l kt (n:=(ps.length:Int)) (by omega);obtain⟨rr,Wm⟩: ∃a,dL l kt (ps.length:Int)=a:=⟨_,rfl⟩;rw[Wm]at N1 v1;obtain⟨r,rfl⟩:=Int.eq_ofNat_of_zero_le v1.1;have hr:r<ps.length:=by omega
 have ac1:=HG.prog.ae.elem r hr;simp only at ac1;have M1:=ae6 aev ps[r] ⟨by omega,by omega⟩;have k1:=Int.emod_nonneg aev (b:=ps[r]) (by omega);have k2:=Int.emod_lt_of_pos aev (b:=ps[r]) (by omega);obtain⟨k,hk⟩:=Int.eq_ofNat_of_zero_le k1;rw[hk]at M1 k2;have hkn:(k:Int)<nth ps r:=by rw[cZ hr];exact k2
 obtain⟨⟨st,rg,tp,co,ha,sa,tr,cd⟩,hxe⟩: ∃x,mt[0]=x:=⟨_,rfl⟩;have g:=HG.nv 0 afx;simp only at g;rw[hxe]at g;have hx0:cg ⟨⟨mb,mk⟩,⟨mc,ml⟩,mt⟩ 0=mt[0]:=ie afx;rw[hx0,hxe]at iZ;simp only at iZ;subst iZ;have hrg:rg.length=8:=g.bm;have h3:3<rg.length:=by omega
 have hm1:=vO HG (t:=0) (Int.le_refl _) HG.mem HG.coh (x:=⟨1,rg,0,co,ha,sa,tr,cd⟩) ⟨g.state,g.bm,g.cells,⟨by simp only;omega,by simp only;omega⟩,g.count,g.bV,g.saved,g.dd,g.code⟩;unfold kq at hm1;simp only at hm1;have ag7:(mt.map Thread.e).set 0 (.agg [.int .i64 1,.sl false (rg.map Cell.e),.int .i64 0,.int .i64 co,.int .i64 ha,.int .i64 sa,.int .i64 tr,.int .u16 cd])=(mt.set 0 ⟨1,rg,0,co,ha,sa,tr,cd⟩).map Thread.e:=by rw[List.map_set];rfl
 have hM0:(mt.set 0 ⟨1,rg,0,co,ha,sa,tr,cd⟩)[0]'(by simp[oP])=⟨1,rg,0,co,ha,sa,tr,cd⟩:=List.getElem_set_self _;obtain⟨M,hMs⟩: ∃M,mt.set 0 (⟨1,rg,0,co,ha,sa,tr,cd⟩:Thread)=M:=⟨_,rfl⟩;rw[hMs]at hm1 ag7;simp only[hMs]at hM0;have hM4:M.length=4:=hm1.len;have hMp:0<M.length:=by omega
 have tkm: ∀(f:Thread->V),List.take 4 (M.map f)=M.map f:=fun f=>bn (by simp;omega);have ahf: ∀(f:Thread->Option V),List.take 4 (M.map f)=M.map f:=fun f=>bn (by simp;omega);have ac2:cR ⟨aeh r k,ps,pd⟩ d ⟨⟨mb,mk⟩,⟨mc,ml⟩,M⟩:=⟨af1 HG.prog ⟨by omega,by omega⟩ ⟨by omega,by omega⟩,hm1.lay,hm1.key,hm1.mem,hm1.len,hm1.nv,hm1.coh⟩;have ahg:cg ⟨⟨mb,mk⟩,⟨mc,ml⟩,M⟩ 0=⟨1,rg,0,co,ha,sa,tr,cd⟩:=by rw[ie hMp];exact hM0
 obtain⟨run,acq,ac3⟩:=af3 ac2 hd2 hr hkn (by rw[ahg]) (by rw[ahg]);have hPe:(aeh r k).map Instr.e=[.agg [.int .i64 15,.int .i64 6,.int .i64 0,.int .i64 0,.int .i64 (r:Int)],.agg [.int .i64 17,.int .i64 6,.int .i64 3,.int .i64 0,.int .i64 (k:Int)],.agg [.int .i64 16,.int .i64 4,.int .i64 6,.int .i64 0,.int .i64 (k:Int)]]:=rfl;obtain⟨PC,hPC⟩: ∃PC,aeh r k=PC:=⟨_,rfl⟩;rw[hPC]at ac2 run acq ac3 hPe;have ac4:=agj (d:=d) (p:=⟨PC,ps,pd⟩) ac2.lay hr hkn ac3;have nb:=ac3.lay;have afu:=ac3.Ez;rw[ahg]at afu ac4;obtain⟨⟨ct,cv⟩,hc3⟩: ∃c,rg[3]=c:=⟨_,rfl⟩;have agq:iR ⟨1,rg,0,co,ha,sa,tr,cd⟩ 3=⟨ct,cv⟩:=by rw[<-hc3];simp[iR,List.getD,h3]
 have hcp:hY ⟨ct,cv⟩:=by rw[<-agq];exact iH g _
 rw[agq]at afu ac4;have ac7:=WG mb mk ps ct cv ac2.lay hcp.2;obtain⟨⟨gt,gv,ac8,go⟩,ahp⟩: ∃c,canon mb mk ps ⟨ct,cv⟩=c:=⟨_,rfl⟩;simp only at ac4;rw[ahp]at ac7 ac4;have ac9:=afg PC ps pd mb mk mc ml M d ac2;have SLa:=aeb ac2;obtain⟨⟨⟨xb,xk⟩,⟨xc,xl⟩,xt⟩,hx3⟩: ∃a,ady ⟨PC,ps,pd⟩ ⟨⟨mb,mk⟩,⟨mc,ml⟩,M⟩ 3=a:=⟨_,rfl⟩;rw[hx3]at acq nb afu ac4;simp only[aN.mk.injEq]at nb;obtain⟨rfl,rfl⟩:=nb;have ug:xt.length=4:=acq.len;have ahl:0<xt.length:=by omega
 rw[ie ahl]at afu;have gx:=(acq.nv 0 ahl).bm;simp only at gx afu;obtain⟨⟨st2,rg2,tp2,co2,ha2,sa2,tr2,cd2⟩,ahn⟩: ∃x,xt[0]=x:=⟨_,rfl⟩;rw[ahn]at gx afu;simp only at gx afu;have h4:4<rg2.length:=by omega
 rw[ad5 h4]at afu;have ada:=WM PC ps pd xb xk xc xl xt ac2.prog.lens acq.lens;rw[(acq.mono (by omega)).ok]at ada;have adf:=afg PC ps pd xb xk xc xl xt _ acq;obtain⟨⟨acx,adg⟩,hSa⟩: ∃s,px ⟨PC,ps,pd⟩ ⟨⟨xb,xk⟩,⟨mc,ml⟩,M⟩=s:=⟨_,rfl⟩;obtain⟨⟨acz,adh⟩,hSb⟩: ∃s,px ⟨PC,ps,pd⟩ ⟨⟨xb,xk⟩,⟨xc,xl⟩,xt⟩=s:=⟨_,rfl⟩;rw[hSa]at ac9 ac4 SLa;rw[hSb]at adf ac4;simp only at ac9 adf ac4 SLa;obtain⟨sla,slb,sra,srb,same,ahq⟩:=ac4;have hrb:r<acz.length:=by omega
 have Fk:r<acx.length:=by omega
 have hkb:k<(acz[r]).length:=by have q1:=srb r hrb Fk;have q2:=sra r Fk hr;omega
 have one:=ahq hrb hkb;refine bu (X:=X) (K:=fun v _ _=>v= .bool true) Tryz.func11 rfl rfl ?_;simp(maxSteps:=10000000) (maxDischargeDepth:=30) -implicitDefEqProofs[hl,acn,hM,oP,afx,tkf,N1,M1,hr,hxe,ag7,hM4,hMp,hM0,h3,hrg,hc3,Thread.bP,Cell.bP,jy,nV,tkm,ahf];refine cP (fun i S=>(S.f 6= .ptr 6 0 0/\S.h 6=some ⟨3,[.agg [.sl false ((⟨PC,ps,pd⟩:Prog).code.map Instr.e),.sl false ((⟨PC,ps,pd⟩:Prog).ae.map (V.int .i64)),.sl false ((⟨PC,ps,pd⟩:Prog).data.map aS)]],true⟩/\S.f 7= .ptr 7 0 0/\S.h 7=some ⟨5,[.agg [.sl false ((⟨⟨xb,xk⟩,⟨mc,ml⟩,M⟩:bf).layout.aD.map (V.int .i64)),.int .u16 (⟨⟨xb,xk⟩,⟨mc,ml⟩,M⟩:bf).layout.key,.sl false ((⟨⟨xb,xk⟩,⟨mc,ml⟩,M⟩:bf).memory.cells.map Cell.e),.sl false ((⟨⟨xb,xk⟩,⟨mc,ml⟩,M⟩:bf).memory.lines.map cx.e),.sl false ((⟨⟨xb,xk⟩,⟨mc,ml⟩,M⟩:bf).threads.map Thread.e)]],true⟩/\S.f 8= .int .i64 ((r:Int))/\S.f 9= .int .i64 ((k:Int))/\S.f 10= .ptr 10 0 0/\S.h 10=some ⟨2,[.agg [.int .u8 (⟨ct,cv⟩:Cell).tag,.int .u16 (⟨ct,cv⟩:Cell).val]],true⟩/\S.f 11= .ptr 11 0 0/\S.h 11=some ⟨5,[.agg [.sl false ((ady ⟨PC,ps,pd⟩ ⟨⟨xb,xk⟩,⟨mc,ml⟩,M⟩ i).layout.aD.map (V.int .i64)),.int .u16 (ady ⟨PC,ps,pd⟩ ⟨⟨xb,xk⟩,⟨mc,ml⟩,M⟩ i).layout.key,.sl false ((ady ⟨PC,ps,pd⟩ ⟨⟨xb,xk⟩,⟨mc,ml⟩,M⟩ i).memory.cells.map Cell.e),.sl false ((ady ⟨PC,ps,pd⟩ ⟨⟨xb,xk⟩,⟨mc,ml⟩,M⟩ i).memory.lines.map cx.e),.sl false ((ady ⟨PC,ps,pd⟩ ⟨⟨xb,xk⟩,⟨mc,ml⟩,M⟩ i).threads.map Thread.e)]],true⟩/\S.f 58= .int .i64 (i:Int)/\S.n=1100)/\True) (3) ?_ 0 (by simp) ?_
 ·rintro i S hii ⟨hI0,hP0⟩;have hwi:=cS i (by omega);by_cases afl:(i<3)
  ·have hi3:(i:Int)<3:=by omega
   obtain⟨adi,hys,afv⟩:=run i (by omega);have o1:=af0 adi (by omega) hys;have gyl:=adi.lens;have gyr:=adi.R;have pa:=aeg ⟨PC,ps,pd⟩ ⟨⟨xb,xk⟩,⟨mc,ml⟩,M⟩ i;obtain⟨⟨⟨adk,yk⟩,⟨adl,adm⟩,adn⟩,hy⟩: ∃a,ady ⟨PC,ps,pd⟩ ⟨⟨xb,xk⟩,⟨mc,ml⟩,M⟩ i=a:=⟨_,rfl⟩;rw[hy]at pa o1 afv gyl gyr;have T1:=afw PC ps pd adk yk adl adm adn 0 ac2.prog.lens gyl gyr;rw[o1]at T1;obtain⟨⟨⟨⟨zb,ado⟩,⟨zc,zl⟩,adr⟩,s⟩,hz⟩: ∃a,hZ ⟨PC,ps,pd⟩ ⟨⟨adk,yk⟩,⟨adl,adm⟩,adn⟩ 0=a:=⟨_,rfl⟩;rw[hz]at T1 pa afv;simp only at T1 pa afv;subst afv;simp(maxSteps:=10000000) (maxDischargeDepth:=30) -implicitDefEqProofs[hI0,hii,hwi,afl,hy,hi3, -afw,T1,pa]
  ·have hi3: ¬(i:Int)<3:=by omega
   obtain rfl:i=3:=by omega
   rw[hx3]at hI0;simp(maxSteps:=10000000) (maxDischargeDepth:=30) -implicitDefEqProofs[hI0,hii,hwi,afl,hi3, -WM,ada,ug,ahl,ahn,gx,h4,afu,ac9,adf,hM4,tkm,ahf,Thread.bP,Cell.bP,jy,nV];refine cP (fun a2 S=>(S.f 6= .ptr 6 0 0/\S.h 6=some ⟨3,[.agg [.sl false ((⟨PC,ps,pd⟩:Prog).code.map Instr.e),.sl false ((⟨PC,ps,pd⟩:Prog).ae.map (V.int .i64)),.sl false ((⟨PC,ps,pd⟩:Prog).data.map aS)]],true⟩/\S.f 7= .ptr 7 0 0/\S.h 7=some ⟨5,[.agg [.sl false ((⟨⟨xb,xk⟩,⟨mc,ml⟩,M⟩:bf).layout.aD.map (V.int .i64)),.int .u16 (⟨⟨xb,xk⟩,⟨mc,ml⟩,M⟩:bf).layout.key,.sl false ((⟨⟨xb,xk⟩,⟨mc,ml⟩,M⟩:bf).memory.cells.map Cell.e),.sl false ((⟨⟨xb,xk⟩,⟨mc,ml⟩,M⟩:bf).memory.lines.map cx.e),.sl false ((⟨⟨xb,xk⟩,⟨mc,ml⟩,M⟩:bf).threads.map Thread.e)]],true⟩/\S.f 8= .int .i64 ((r:Int))/\S.f 9= .int .i64 ((k:Int))/\S.f 10= .ptr 10 0 0/\S.h 10=some ⟨2,[.agg [.int .u8 (⟨ct,cv⟩:Cell).tag,.int .u16 (⟨ct,cv⟩:Cell).val]],true⟩/\S.f 15= .ptr 15 0 0/\S.h 15=some ⟨2,[.agg [.sl false ((⟨acx,adg⟩:State).regions.map ba),.sl false ((⟨acx,adg⟩:State).threads.map View.e)]],true⟩/\S.f 16= .ptr 16 0 0/\S.h 16=some ⟨2,[.agg [.sl false ((⟨acz,adh⟩:State).regions.map ba),.sl false ((⟨acz,adh⟩:State).threads.map View.e)]],true⟩/\S.f 98= .int .i64 ((acx.length:Int))/\S.f 99= .int .i64 (a2:Int)/\S.n=1100)/\True) (acx.length) ?_ 0 (by simp) ?_
   ·rintro a2 S af5 ⟨hI1,hP1⟩;have agd:=cS a2 (by omega);by_cases afb:a2<acx.length
    ·have ga:a2<acx.length:=afb;have gb:a2<acz.length:=by omega
     have ahv:(acx[a2]).length<=32:=by
      have QK:a2<ps.length:=by omega
      have q1:=sra a2 ga QK;have q2:=(HG.prog.ae.elem a2 QK).2;simp only at q2;omega
     simp(maxSteps:=10000000) (maxDischargeDepth:=30) -implicitDefEqProofs[hii,hwi,afl,hI1,af5,agd,afb,ga,gb,qy];refine cP (fun j S=>(S.f 6= .ptr 6 0 0/\S.h 6=some ⟨3,[.agg [.sl false ((⟨PC,ps,pd⟩:Prog).code.map Instr.e),.sl false ((⟨PC,ps,pd⟩:Prog).ae.map (V.int .i64)),.sl false ((⟨PC,ps,pd⟩:Prog).data.map aS)]],true⟩/\S.f 7= .ptr 7 0 0/\S.h 7=some ⟨5,[.agg [.sl false ((⟨⟨xb,xk⟩,⟨mc,ml⟩,M⟩:bf).layout.aD.map (V.int .i64)),.int .u16 (⟨⟨xb,xk⟩,⟨mc,ml⟩,M⟩:bf).layout.key,.sl false ((⟨⟨xb,xk⟩,⟨mc,ml⟩,M⟩:bf).memory.cells.map Cell.e),.sl false ((⟨⟨xb,xk⟩,⟨mc,ml⟩,M⟩:bf).memory.lines.map cx.e),.sl false ((⟨⟨xb,xk⟩,⟨mc,ml⟩,M⟩:bf).threads.map Thread.e)]],true⟩/\S.f 8= .int .i64 ((r:Int))/\S.f 9= .int .i64 ((k:Int))/\S.f 10= .ptr 10 0 0/\S.h 10=some ⟨2,[.agg [.int .u8 (⟨ct,cv⟩:Cell).tag,.int .u16 (⟨ct,cv⟩:Cell).val]],true⟩/\S.f 15= .ptr 15 0 0/\S.h 15=some ⟨2,[.agg [.sl false ((⟨acx,adg⟩:State).regions.map ba),.sl false ((⟨acx,adg⟩:State).threads.map View.e)]],true⟩/\S.f 16= .ptr 16 0 0/\S.h 16=some ⟨2,[.agg [.sl false ((⟨acz,adh⟩:State).regions.map ba),.sl false ((⟨acz,adh⟩:State).threads.map View.e)]],true⟩/\S.f 17= .int .i64 ((a2:Int))/\S.f 98= .int .i64 ((acx.length:Int))/\S.f 99= .int .i64 ((a2:Int))/\S.f 107= .int .i64 (((acx[a2]).length:Int))/\S.f 108= .int .i64 (j:Int)/\S.n=1100)/\True) ((acx[a2]).length) ?_ 0 (by simp) ?_
     ·rintro j S jk ⟨hI2,hP2⟩;have hwj:=cS j (by omega);by_cases agt:j<(acx[a2]).length
      ·have adu:j<(acx[a2]).length:=agt;have adx:j<(acz[a2]).length:=by have:=srb a2 gb ga;omega
       by_cases e1:a2=r
       ·subst e1;by_cases e2:j=k
        ·subst e2;simp(maxSteps:=10000000) (maxDischargeDepth:=30) -implicitDefEqProofs[hii,hwi,afl,af5,agd,afb,hI2,jk,hwj,agt,ga,gb,adu,adx,qy]
        ·have hs:=same a2 j ga gb adu adx (.inr e2);have e2i: ¬(j:Int)=(k:Int):=by omega
         simp(maxSteps:=10000000) (maxDischargeDepth:=30) -implicitDefEqProofs[hii,hwi,afl,af5,agd,afb,hI2,jk,hwj,agt,ga,gb,adu,adx,e2,e2i,hs,qy]
       ·have hs:=same a2 j ga gb adu adx (.inl e1);have e1i: ¬(a2:Int)=(r:Int):=by omega
        simp(maxSteps:=10000000) (maxDischargeDepth:=30) -implicitDefEqProofs[hii,hwi,afl,af5,agd,afb,hI2,jk,hwj,agt,ga,gb,adu,adx,e1,e1i,hs,qy]
      ·have hej:(acx[a2]).length=j:=by omega
       subst hej;simp(maxSteps:=10000000) (maxDischargeDepth:=30) -implicitDefEqProofs[hii,hwi,afl,af5,agd,afb,hI2,jk,hwj,agt,ga,gb,qy]
     ·simp(maxSteps:=10000000) (maxDischargeDepth:=30) -implicitDefEqProofs[hii,hwi,afl,hI1,af5,agd,afb,ga,gb,qy]
    ·have ahr:acx.length=a2:=by omega
     subst ahr;simp(maxSteps:=10000000) (maxDischargeDepth:=30) -implicitDefEqProofs[hii,hwi,afl,hI1,af5,agd,afb,hrb,hkb,one,ac7,hw,qy,Canon.bP,Cell.bP]
   ·simp(maxSteps:=10000000) (maxDischargeDepth:=30) -implicitDefEqProofs[hI0,hii,hwi,afl]
 ·have h0:=aff ⟨PC,ps,pd⟩ ⟨⟨xb,xk⟩,⟨mc,ml⟩,M⟩;simp(maxSteps:=10000000) (maxDischargeDepth:=30) -implicitDefEqProofs[h0,hPe,hM4,tkm,ahf,jy,nV]
end Go.Proofs.YtejohpnpnaljdaaGreat
namespace Go.Proofs.YtejohpnpnaljdaaGreat
open Go Go.Abs
namespace afy
def Pe:List (Bool×List CS):=[(false,[.sl false [.int .i64]]),(false,[.int .i64])]
theorem read:Tryz.f11.params.toList.all (Ih X.P)=true:=by kernel_rfl
theorem ao8:zq X.P Tryz.f11.params.toList=some Pe:=by kernel_rfl
theorem ao9:abv X.P Tryz.f11 Pe 4:=⟨abw,read,ao8,rfl,rfl⟩
theorem apa(vs:List V)(h:zp Pe vs)(hb:mT vs<=1048576): ∃h k,cy X 11 vs ky 0=some (.bool true,h,k):=by
 simp only[Pe,zp,Aa,cX7]at h;obtain⟨_,_,rfl,⟨_,_,rfl,⟨es,rfl,_,hes⟩,rfl⟩,_,_,rfl,⟨_,_,rfl,⟨n,rfl,hn⟩,rfl⟩,rfl⟩:=h;obtain⟨l,rfl⟩:=Ik (es:=es) fun e he=>by
  obtain⟨xs,hx,_,_,rfl,⟨b,rfl,hb⟩,rfl⟩:=hes e he;exact⟨b,hx⟩
 have e1:oz false [V.sl false (l.map (V.int .i64))]= .sl false (l.map (V.int .i64)):=rfl;have e2: ∀n,oz false [V.int .i64 n]= .int .i64 n:=fun _=>rfl;rw[e1,e2]at hb⊢;simp only[mT]at hb;have e3:Up (.sl false (l.map (V.int .i64)))=mT (l.map (V.int .i64))+1:=rfl;rw[e3,Ya]at hb;exact aem l n (by omega)
theorem a0:Rows.stepStoresUptoRow.wf (OpenSpec.ofChange (Rows.OpenSpec.upto Rows.stepStoresSpec).bare)=true:=by kernel_rfl
theorem a1:Tryz.f11.params.all (Tryz.pinned.checked.prog.readableRec ·)=true:=by kernel_rfl
theorem a2:namedTie Tryz.pinned.checked.prog Rows.stepStoresUptoRow.named (Rows.OpenSpec.upto Rows.stepStoresSpec).bare.vars=true:=by kernel_rfl
theorem a3:(Rows.stepStoresUptoRow.stops==[])=true:=by kernel_rfl
theorem a4:(Rows.stepStoresUptoRow.knobs==[])=true:=by kernel_rfl
theorem a5:(Rows.stepStoresUptoRow.inPlace==Tryz.pinned.checked.prog.inPlace 11)=true:=by kernel_rfl
theorem a6:(Rows.stepStoresUptoRow.unfollowed==Tryz.pinned.checked.prog.unfollowed 11)=true:=by kernel_rfl
theorem a7:(Rows.stepStoresUptoRow.recurses==Tryz.pinned.checked.prog.recurses 11)=true:=by kernel_rfl
theorem a8:(Rows.stepStoresUptoRow.named==Tryz.pinned.checked.prog.varsNamed 11)=true:=by kernel_rfl
theorem a9:(Rows.stepStoresUptoRow.maps==(Tryz.f11.params.toList++(Rows.OpenSpec.upto Rows.stepStoresSpec).bare.plain.varTypes Tryz.pinned.checked.prog).any (Tryz.pinned.checked.prog.mapsRec ·))=true:=by kernel_rfl
theorem Px:(Rows.stepStoresUptoRow.ifaces==(Tryz.f11.params.toList++(Rows.OpenSpec.upto Rows.stepStoresSpec).bare.plain.varTypes Tryz.pinned.checked.prog).any (Tryz.pinned.checked.prog.ifacesRec ·))=true:=by kernel_rfl
theorem a11:(Rows.stepStoresUptoRow.mapsOut==Tryz.pinned.checked.prog.mapsAmong Tryz.f11.resultTypes.toList)=true:=by kernel_rfl
theorem a12:(Rows.stepStoresUptoRow.loops==(Tryz.f11.params.toList++(Rows.OpenSpec.upto Rows.stepStoresSpec).bare.plain.varTypes Tryz.pinned.checked.prog).any (Tryz.pinned.checked.prog.loopsFrom ·))=true:=by kernel_rfl
theorem a13:(Rows.stepStoresUptoRow.wideKeys==(Tryz.f11.params.toList++(Rows.OpenSpec.upto Rows.stepStoresSpec).bare.plain.varTypes Tryz.pinned.checked.prog++Tryz.f11.resultTypes.toList).any (Tryz.pinned.checked.prog.wideKeysFrom ·))=true:=by kernel_rfl
theorem a14:(Rows.OpenSpec.upto Rows.stepStoresSpec).bare.vars.all (Tryz.pinned.checked.prog.varReadable ·)=true:=by kernel_rfl
theorem a15:Tryz.f11.resultTypes.all (fun t=>Tryz.pinned.checked.prog.readableRec t&&decide (t<Tryz.pinned.checked.prog.types.size))=true:=by kernel_rfl
theorem a16:(Rows.stepStoresUptoRow.ifacesOut==Tryz.f11.resultTypes.toList.any (Tryz.pinned.checked.prog.ifacesRec ·))=true:=by kernel_rfl
theorem a17:(Rows.stepStoresUptoRow.loopsOut==Tryz.f11.resultTypes.toList.any (Tryz.pinned.checked.prog.loopsFrom ·))=true:=by kernel_rfl
theorem a18:(Rows.stepStoresUptoRow.plainKeys==Tryz.pinned.checked.prog.plainKeys)=true:=by kernel_rfl
theorem a19:Rows.stepStoresUptoRow.shortTexts.isNone=true:=by kernel_rfl
theorem a20:(Rows.stepStoresUptoRow.lifted==Tryz.pinned.checked.prog.liftsFinal)=true:=by kernel_rfl
theorem a21:(Tryz.pinned.checked.prog.make==some Rows.stepStoresUptoRow.make)=true:=by kernel_rfl
theorem a22:(Rows.stepStoresUptoRow.kinds==(if Rows.stepStoresUptoRow.domain.isEmpty then [] else Tryz.f11.params.toList.map fun t=>match Tryz.pinned.checked.prog.underlying t with|some (.int k)=>some k|_=>none))=true:=by kernel_rfl
theorem a23:(Rows.stepStoresUptoRow.pinned==Rows.stepStoresUptoRow.pinnedBy)=true:=by kernel_rfl
theorem a24:(Rows.stepStoresUptoRow.veiled==(Tryz.f11.params.toList++(Rows.OpenSpec.upto Rows.stepStoresSpec).bare.plain.varTypes Tryz.pinned.checked.prog++Tryz.f11.resultTypes.toList).any (Tryz.pinned.checked.prog.veiledRec ·))=true:=by kernel_rfl
theorem a25:Rows.stepStoresUptoRow.veiledFits Tryz.pinned.checked.prog Tryz.f11.params.toList (Tryz.f11.params.toList++(Rows.OpenSpec.upto Rows.stepStoresSpec).bare.plain.varTypes Tryz.pinned.checked.prog++Tryz.f11.resultTypes.toList)=true:=by kernel_rfl
theorem closed:joinedFacts Tryz.pinned.checked.prog 11 Tryz.f11 (Rows.OpenSpec.upto Rows.stepStoresSpec).bare Rows.stepStoresUptoRow=true:=by
 unfold joinedFacts;exact(gW (gW (gW (gW (gW (gW (gW (gW (gW (gW (gW (gW (gW (gW (gW (gW (gW (gW (gW (gW (gW (gW (gW (gW (gW (gW (gW (gW (gW (gW (gW a0 abw) al0) a1) a2) a3) aez) a4) ae0) a5) a6) a7) a8) a9) Px) a11) a12) a13) a14) a15) a16) a17) a18) a19) heard) ae1) a20) a21) a22) a23) a24) a25)
theorem isI:Tryz.f11.isInstance Tryz.pinned.checked.prog Rows.stepStoresUptoRow.origin Rows.stepStoresUptoRow.targs:=of_decide_eq_true (by kernel_rfl)
theorem isW:Tryz.f11.isWrapper Tryz.pinned.checked.prog Rows.stepStoresUptoRow.wrapper Rows.stepStoresUptoRow.mainSum:=by
 unfold Func.isWrapper;first|(rw[if_pos (by decide+kernel)];kernel_rfl)|(rw[if_neg (by decide+kernel)];exact⟨rfl,rfl⟩)
theorem apb:Tryz.pinned.checked.prog.funcNamed Rows.stepStoresUptoRow.func=some 11:=by kernel_rfl
theorem lifted(os:Os)(started:os.Started)(H:Type)(enc:TypeId×Value->H)(F:Stop.Interp):
  ReturnsInHanded {} Tryz.checked os 11 .any ((Rows.OpenSpec.upto Rows.stepStoresSpec).pre6 enc Tryz.prog Tryz.f11 Rows.stepStoresUptoRow.domain false) (((Rows.OpenSpec.upto Rows.stepStoresSpec).at F).post enc Tryz.prog Tryz.f11 false true false false):=by
 refine returnsInHanded_of_cond (C:=Tryz.checked) (s:=(Rows.OpenSpec.upto Rows.stepStoresSpec)) (k:=Rows.uptoSmall) rfl own started (by kernel_rfl) Tryz.func11
  (OpenSpec.witness (enc:=enc) (C:=Tryz.checked) (s:=(Rows.OpenSpec.upto Rows.stepStoresSpec)) (k:=Rows.uptoSmall) rfl false ⟨#[],#[.slice none 0 0,.int .i64 0],[]⟩ 8 (by kernel_rfl) (by kernel_rfl) (by kernel_rfl)
   (x:=([.nil,.lit (.int .i64 0)],[],[])) (by kernel_rfl) rfl (by kernel_rfl)) ?_
 intro W base args ds gs before Hl hW _ hk _;have hgs:gs=[]:=by
  obtain⟨p,q,_,hV,_⟩:=hW;cases gs with
  |nil=>rfl
  |cons _ _=>simp[DataW.TrodVars,Rows.stepStoresSpec,Rows.OpenSpec.upto,OpenSpec.ofChange]at hV
 subst hgs;rw[List.append_nil]at hk;exact Uu Fo ao9 (s:=Rows.stepStoresSpec) rfl (fun H ds hl=>by
  match ds,hl with
  | [a,b],_=>rfl) apa H Rows.uptoBulk (cX8 H) enc W base args ds [] before Hl hW (cX9 hk)
theorem pZ:Rows.stepStoresUptoRow.holds Tryz.pinned (Rows.OpenSpec.upto Rows.stepStoresSpec):=
 OpenClaim.holds_of_cond 11 Tryz.f11 rfl rfl rfl rfl rfl rfl rfl ⟨rfl,rfl,rfl,rfl,rfl⟩ rfl rfl rfl rfl rfl apb Tryz.func11 closed isI isW
  (fun os started H enc _ F=>lifted os started H enc F)
end afy
theorem stepStores:Rows.StepStoresUptoSaid:=afy.pZ
end Go.Proofs.YtejohpnpnaljdaaGreat
