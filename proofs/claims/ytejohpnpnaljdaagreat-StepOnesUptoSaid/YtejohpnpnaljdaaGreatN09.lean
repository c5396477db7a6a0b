/- StepOnes in its second form: for every list of numbers and every number whose bulk is at most 1048576, the law answers true and its input reads as before. -/
import Derived.Test.YtejohpnpnaljdaaGreatM13
import Derived.Test.YtejohpnpnaljdaaGreatM52
set_option linter.all false
set_option maxRecDepth 100000
set_option maxHeartbeats 20000000
namespace Go.Abs.lu
open Go Go.Abs
@[simp] theorem adl(l:List dT):df (l.map dT.e)=l.map dT.e:=jV (fun x=>by simp[dT.bP]) l
@[simp] theorem ac9(l:List Output):df (l.map Output.e)=l.map Output.e:=jV (fun x=>by simp[Output.bP]) l
@[simp] theorem adg(l:List Entry):df (l.map Entry.e)=l.map Entry.e:=jV (fun x=>by simp[Entry.bP]) l
end Go.Abs.lu
namespace Go.Proofs.YtejohpnpnaljdaaGreat
open Go Go.Abs Go.Abs.lu
@[simp] theorem adi(ay:List Instr)(ah:List Int)(az:List (List Int))(aa:List Int)(aw:Int)(aq:List Cell)(an:List cx)(ax:List Thread)(t:Int)(hp:rK (Prog.mk ay ah az))(hm:qA (bf.mk (aN.mk aa aw) (aK.mk aq an) ax))(hr:yl (bf.mk (aN.mk aa aw) (aK.mk aq an) ax)):cz X 35 [.agg [.sl false (ay.map Instr.e),.sl false (ah.map (V.int .i64)),.sl false (az.map aS)],.agg [.sl false (aa.map (V.int .i64)),.int .u16 aw,.sl false (aq.map Cell.e),.sl false (an.map cx.e),.sl false (ax.map Thread.e)],.int .i64 t]=some (.de [.agg [.sl false (((AY (Prog.mk ay ah az) (bf.mk (aN.mk aa aw) (aK.mk aq an) ax) t).1).layout.aD.map (V.int .i64)),.int .u16 ((AY (Prog.mk ay ah az) (bf.mk (aN.mk aa aw) (aK.mk aq an) ax) t).1).layout.key,.sl false (((AY (Prog.mk ay ah az) (bf.mk (aN.mk aa aw) (aK.mk aq an) ax) t).1).memory.cells.map Cell.e),.sl false (((AY (Prog.mk ay ah az) (bf.mk (aN.mk aa aw) (aK.mk aq an) ax) t).1).memory.lines.map cx.e),.sl false (((AY (Prog.mk ay ah az) (bf.mk (aN.mk aa aw) (aK.mk aq an) ax) t).1).threads.map Thread.e)],.int .i64 ((AY (Prog.mk ay ah az) (bf.mk (aN.mk aa aw) (aK.mk aq an) ax) t).2.1),.int .i64 ((AY (Prog.mk ay ah az) (bf.mk (aN.mk aa aw) (aK.mk aq an) ax) t).2.2)]):=by
 obtain⟨H0,hH0⟩: ∃H:aY,aO (aO (aO m8 0 (some ⟨3,[.agg [.sl false (ay.map Instr.e),.sl false (ah.map (V.int .i64)),.sl false (az.map aS)]],true⟩)) 1 (some ⟨5,[.agg [.sl false (aa.map (V.int .i64)),.int .u16 aw,.sl false (aq.map Cell.e),.sl false (an.map cx.e),.sl false (ax.map Thread.e)]],true⟩)) 2 (some ⟨5,[.agg [.sl true [],.int .u16 0,.sl true [],.sl true [],.sl true []]],true⟩)=H:=⟨_,rfl⟩;have z0:H0 0=some ⟨3,[.agg [.sl false (ay.map Instr.e),.sl false (ah.map (V.int .i64)),.sl false (az.map aS)]],true⟩:=by rw[<-hH0];simp[aO]
 have z1:H0 1=some ⟨5,[.agg [.sl false (aa.map (V.int .i64)),.int .u16 aw,.sl false (aq.map Cell.e),.sl false (an.map cx.e),.sl false (ax.map Thread.e)]],true⟩:=by rw[<-hH0];simp[aO]
 have z2:H0 2=some ⟨5,[.agg [.sl true [],.int .u16 0,.sl true [],.sl true [],.sl true []]],true⟩:=by rw[<-hH0];simp[aO]
 by_cases hc:jc (Prog.mk ay ah az) (bf.mk (aN.mk aa aw) (aK.mk aq an) ax)=true/\0<=t/\t<4
 case neg=>
  rw[YS hc];unfold fG;obtain⟨h',k',e,hk,hf⟩:=C1 ay ah az aa aw aq an ax t H0 14 hp hm hc;have f2:=hf 2 (by omega);rw[z2]at f2;refine bd Tryz.func35 rfl rfl ?_;simp(maxSteps:=10000000) (maxDischargeDepth:=30) -implicitDefEqProofs[hH0,z0,z1,e,f2]
 obtain⟨hv,h0,h4⟩:=hc;obtain⟨n,rfl⟩:=Int.eq_ofNat_of_zero_le h0;have n4:n<4:=by omega
 have MG:=uT hr hv;have hl:ax.length=4:=MG.len;have nl:n<ax.length:=by omega
 have hx:cg (bf.mk (aN.mk aa aw) (aK.mk aq an) ax) (n:Int).toNat=ax[n]:=by rw[Int.toNat_natCast];exact ie nl
 obtain⟨h1,k1,cB,b,C,L,T,ids,aZ,e,HB⟩:=Ny ay ah az aa aw aq an ax 0 H0 14 n hr hv n4;unfold kv at e;simp only at e;have f2:=HB.fr 2 (by omega);rw[z2]at f2;have hcb:=HB.core.box;have hT:=HB.yq.nv;unfold iS at hcb;simp only at hcb hT;have gg:=eF (ids:=aZ) nl;have gle:=ed aZ ax;rw[hl]at gle;by_cases hs:(ax[n]).state=1
 case neg=>
  have e0:AY (Prog.mk ay ah az) (bf.mk (aN.mk aa aw) (aK.mk aq an) ax) n=(fG,0,10):=by unfold AY;rw[if_pos ⟨hv,h0,h4⟩,hx,if_neg hs]
  rw[e0];unfold fG;refine bd Tryz.func35 rfl rfl ?_;simp(maxSteps:=10000000) (maxDischargeDepth:=30) -implicitDefEqProofs[hH0,z0,z1,e,f2,hcb,hT,gg,gle,n4,hs]
 have e0:AY (Prog.mk ay ah az) (bf.mk (aN.mk aa aw) (aK.mk aq an) ax) n=((hZ (Prog.mk ay ah az) (bf.mk (aN.mk aa aw) (aK.mk aq an) ax) n).1,(hZ (Prog.mk ay ah az) (bf.mk (aN.mk aa aw) (aK.mk aq an) ax) n).2,0):=by unfold AY;rw[if_pos ⟨hv,h0,h4⟩,hx,if_pos hs,Int.toNat_natCast]
 rw[e0];refine yu.cz ?_;have hs':=eq_true hs;obtain⟨HA1,hA2,hA3⟩:=HB.IX;have frm: ∀i,i<k1->h1 i=h1 i:=fun _ _=>rfl;obtain⟨h2,k2,ado,eo,G,g1,g2,g3⟩:=Wd .bad (Prog.mk ay ah az) h1 (k1+13) cB b _ C L T ids aZ (bf.mk (aN.mk aa aw) (aK.mk aq an) ax) n _ (HB.yq.mono (by omega) frm) MG (HB.core.mono (by omega) frm) (by omega) n4 rfl;have GA:na 14 (.sl false (aa.map (V.int .i64))) C L T ado aZ:=by
  obtain⟨q1,q2,q3⟩:=HA1;refine⟨q1,fun j hj=>⟨?_,(q2 j hj).2⟩,q3⟩;rcases g2 j hj with e|e
  ·rw[e];exact(q2 j hj).1
  ·have:=HB.le;omega
 have hke:=HB.le;have mM:=HB.core.lt;obtain⟨e1,e2,e3,e4⟩:=HB.core.ne;have fc:=g3 cB (by omega) e2 e3 (fun j hj=>(HB.core.ni j hj).1) e4 (HB.core.ni n n4).2;rw[hcb]at fc;obtain⟨⟨x1,x2,x3⟩,x4,x5⟩:=HA1;have f22:=g3 2 (by omega) (by omega) (by omega) (fun j hj=>by have:=x4 j hj;omega) (by omega) (by have:=x4 n n4;omega);rw[f2]at f22;have bx:=G.sE;have gl:=G.len;unfold jo at bx;rw[gl]at bx;have hly:(hZ (Prog.mk ay ah az) (bf.mk (aN.mk aa aw) (aK.mk aq an) ax) n).1.layout=⟨aa,aw⟩:=rfl;rw[hly]at bx;simp only at bx;refine bu (X:=X) Tryz.func35 rfl rfl ?_;simp(maxSteps:=10000000) (maxDischargeDepth:=30) -implicitDefEqProofs[hH0,z0,z1,e,f2,hcb,hT,gg,gle,n4,hs',eo,fc,f22,bx,Nat.add_assoc];refine⟨_,C,L,T,ado,aZ,k2,?_,G.at.mono GA (Nat.le_refl _) fun i hi _=>by rw[aO,if_neg (by omega)]⟩;unfold jo;rw[gl,hly]
end Go.Proofs.YtejohpnpnaljdaaGreat
namespace Go.Proofs.YtejohpnpnaljdaaGreat
open Go Go.Abs Go.Abs.lu
def tight(u:Int)(x:Thread):Int:=(u-x.count-1)*65+(65-x.pc)
theorem ac7{p:Prog}{c:Int}{m:bf}(H:cR p c m){t:Nat}(ht:t<4)(hg:(hZ p m t).2= -1)(u:Int):(cg m t).pc<=64/\tight u (cg (hZ p m t).1 t)+1<=tight u (cg m t):=by
 have h1:=H.cg ht;have h2:=uU H h1;have e:(hZ p m t).2=(mB p m (cg m t)).2.2:=rfl;have h3:=h2.YG (e▸hg);have Gq:(cg m t).pc<p.code.length:=by
  refine Classical.byContradiction fun hn=> ?_;rw[e]at hg;unfold mB at hg;rw[if_neg hn]at hg;simp at hg
 have h64:=H.prog.pk;rw[yo H ht];have h4:=h2.nv.pc;unfold tight;refine⟨by omega,?_⟩;rcases h3.2 with q|⟨q,q'⟩
 ·rw[q];omega
 ·rw[q,q'];omega
end Go.Proofs.YtejohpnpnaljdaaGreat
namespace Go.Proofs.YtejohpnpnaljdaaGreat
open Go Go.Abs Go.Abs.lu
def ac1(p:Prog)(m:bf):Nat->bf
 |0=>m
 |k+1=>(hZ p (ac1 p m k) 0).1
theorem ac2(p:Prog)(m:bf)(k:Nat):ac1 p m (k+1)=(hZ p (ac1 p m k) 0).1:=rfl
theorem ac3(p:Prog)(m:bf):ac1 p m 0=m:=rfl
structure ac4 (p:Prog) (d:Int) (m:bf) (n:Int) (k:Nat):Prop where
 g:cR p d (ac1 p m k)
 st:(cg (ac1 p m k) 0).state=1
 lt:(cg (ac1 p m k) 0).count<(cg m 0).count+n
 le:(k:Int)<=n*65
 ab7:(k:Int)+tight ((cg m 0).count+n) (cg (ac1 p m k) 0)<=n*65
 go:dI p 0 ((cg m 0).count+n) (20000-k) (ac1 p m k)=dm p m 0 n
theorem ac4.zero{p:Prog}{d:Int}{m:bf}{n:Int}(h:cR p d m)(hs:(cg m 0).state=1)(hn:1<=n):ac4 p (d+n) m n 0:=by
 refine⟨h.mono (by omega),hs,by rw[ac3];omega,by omega,?_,?_⟩
 ·rw[ac3];have:=(h.cg (t:=0) (by omega)).pc;unfold tight;omega
 ·rw[ac3,zP hs]
theorem ac4.step{p:Prog}{d:Int}{m:bf}{n:Int}{k:Nat}(I:ac4 p d m n k)(hm:cR p (d-n) m)(hn:n<=6)(ho:(hZ p (ac1 p m k) 0).2= -1):
  cR p d (ac1 p m (k+1))/\(k:Int)+1<=n*65/\
  ((cg (ac1 p m (k+1)) 0).count=(cg m 0).count+n->dm p m 0 n=(ac1 p m (k+1),0))/\
  (¬(cg (ac1 p m (k+1)) 0).count=(cg m 0).count+n->ac4 p d m n (k+1)):=by
 have hc0:=(hm.cg (t:=0) (by omega)).count;have hG:=yp I.g (t:=0) (by omega) (by have:=I.lt;omega);have ht:=ac7 I.g (t:=0) (by omega) ho ((cg m 0).count+n);have hl:=sF I.g (t:=0) (by omega) ho ((cg m 0).count+n);have h1:=I.lt;have h2:=I.ab7;have h3:=(I.g.cg (t:=0) (by omega)).pc;have h4:=I.go;have hk:(k:Int)+1<=n*65:=by
  have:=ht.1;unfold tight at h2;omega
 have hpl:20000-k=(20000-(k+1))+1:=by omega
 rw[hpl]at h4;rw[ac2];refine⟨hG,hk,fun hc=> ?_,fun hc=> ?_⟩
 ·rw[<-h4,Am ho hc]
 ·refine⟨by rw[ac2];exact hG,by rw[ac2,hl.2.1];exact I.st,by rw[ac2];have:=hl.2.2.2;omega,by simpa using hk,by rw[ac2];have:=ht.2;omega,?_⟩;rw[ac2,<-h4,yx ho hc]
theorem ac4.stop{p:Prog}{d:Int}{m:bf}{n:Int}{k:Nat}(I:ac4 p d m n k)(hn:n<=6)(ho: ¬(hZ p (ac1 p m k) 0).2= -1):dm p m 0 n=hZ p (ac1 p m k) 0:=by
 have hpl:20000-k=(20000-(k+1))+1:=by have:=I.le;omega
 have h4:=I.go;rw[hpl,yw ho]at h4;exact h4.symm
theorem ada{p:Prog}{d:Int}{m:bf}(h:cR p d m)(hd:d<=1099511627776)(hs:(cg m 0).state=1):AY p m 0=((hZ p m 0).1,(hZ p m 0).2,0):=by
 unfold AY;rw[if_pos ⟨(h.mono hd).ok,by omega,by omega⟩];simp only[Int.toNat_zero];rw[if_pos hs]
@[simp] theorem ac8(l:List Int)(n:Int)(hl:l.length<=2000000): ∃h' k',cy X 9 [.sl false (l.map (V.int .i64)),.int .i64 n] m8 0=some (.bool true,h',k'):=by
 suffices H: ∃v h' k',cy X 9 [.sl false (l.map (V.int .i64)),.int .i64 n] m8 0=some (v,h',k')/\v= .bool true by
  obtain⟨v,h',k',e,rfl⟩:=H;exact⟨h',k',e⟩
 have hw:=QA;have hd0:dr l 0:=⟨by omega,by omega⟩;obtain⟨kt,⟨pc,ps,pd⟩,d,⟨⟨mb,mk⟩,⟨mc,ml⟩,mt⟩,hM,hdk,HG,hd2,iZ⟩:=Z5 l 0 hd0;simp only[Z1]at hM;have oP:mt.length=4:=HG.len;have adh:0<mt.length:=by omega
 obtain⟨N,hN⟩: ∃N,1+n % 6=N:=⟨_,rfl⟩;have hN1:1<=N/\N<=6:=by omega
 have wN:IntKind.i64.wrap (1+n % 6)=N:=by rw[hN];exact wrap_i64 (by omega)
 have ab9:IntKind.i64.wrap (N*65)=N*65:=wrap_i64 (by omega);have S1:=sU pc ps pd mb mk mc ml mt 0 N HG.prog.lens HG.lens HG.R;rw[ahk HG (by omega) (n:=N) (by omega)]at S1;have gx:=(sG HG (t:=0) (by omega) hN1.1 iZ).yq;have hm0:cg ⟨⟨mb,mk⟩,⟨mc,ml⟩,mt⟩ 0=mt[0]:=ie adh;have acf:=ac4.zero HG iZ hN1.1;have hcx:=(HG.nv 0 adh).count;simp only at hcx;have wq:IntKind.i64.wrap ((mt[0]).count+N)=(mt[0]).count+N:=wrap_i64 (by omega);obtain⟨⟨⟨⟨xb,xk⟩,⟨xc,xl⟩,xt⟩,s⟩,hx⟩: ∃a,dm ⟨pc,ps,pd⟩ ⟨⟨mb,mk⟩,⟨mc,ml⟩,mt⟩ 0 N=a:=⟨_,rfl⟩;rw[hx]at S1 gx;simp only at S1 gx;have hxl:=gx.lens;obtain⟨acg,hM0⟩: ∃M,(⟨⟨mb,mk⟩,⟨mc,ml⟩,mt⟩:bf)=M:=⟨_,rfl⟩;refine bu (X:=X) (K:=fun v _ _=>v= .bool true) Tryz.func9 rfl rfl ?_;simp(maxSteps:=10000000) (maxDischargeDepth:=30) -implicitDefEqProofs[hl,acn,hM,hN1,wN,S1,oP,adh];refine cP (fun kk S=>(S.f 1= .int .i64 (N)/\S.f 5= .ptr 5 0 0/\S.h 5=some ⟨3,[.agg [.sl false ((⟨pc,ps,pd⟩:Prog).code.map Instr.e),.sl false ((⟨pc,ps,pd⟩:Prog).ae.map (V.int .i64)),.sl false ((⟨pc,ps,pd⟩:Prog).data.map aS)]],true⟩/\S.f 6= .ptr 6 0 0/\S.h 6=some ⟨5,[.agg [.sl false ((⟨⟨mb,mk⟩,⟨mc,ml⟩,mt⟩:bf).layout.aD.map (V.int .i64)),.int .u16 (⟨⟨mb,mk⟩,⟨mc,ml⟩,mt⟩:bf).layout.key,.sl false ((⟨⟨mb,mk⟩,⟨mc,ml⟩,mt⟩:bf).memory.cells.map Cell.e),.sl false ((⟨⟨mb,mk⟩,⟨mc,ml⟩,mt⟩:bf).memory.lines.map cx.e),.sl false ((⟨⟨mb,mk⟩,⟨mc,ml⟩,mt⟩:bf).threads.map Thread.e)]],true⟩/\S.f 7= .ptr 7 0 0/\S.h 7=some ⟨5,[.agg [.sl false ((⟨⟨xb,xk⟩,⟨xc,xl⟩,xt⟩:bf).layout.aD.map (V.int .i64)),.int .u16 (⟨⟨xb,xk⟩,⟨xc,xl⟩,xt⟩:bf).layout.key,.sl false ((⟨⟨xb,xk⟩,⟨xc,xl⟩,xt⟩:bf).memory.cells.map Cell.e),.sl false ((⟨⟨xb,xk⟩,⟨xc,xl⟩,xt⟩:bf).memory.lines.map cx.e),.sl false ((⟨⟨xb,xk⟩,⟨xc,xl⟩,xt⟩:bf).threads.map Thread.e)]],true⟩/\S.f 8= .int .i64 (s)/\S.f 10= .ptr 10 0 0/\S.h 10=some ⟨5,[.agg [.sl false ((ac1 ⟨pc,ps,pd⟩ ⟨⟨mb,mk⟩,⟨mc,ml⟩,mt⟩ kk).layout.aD.map (V.int .i64)),.int .u16 (ac1 ⟨pc,ps,pd⟩ ⟨⟨mb,mk⟩,⟨mc,ml⟩,mt⟩ kk).layout.key,.sl false ((ac1 ⟨pc,ps,pd⟩ ⟨⟨mb,mk⟩,⟨mc,ml⟩,mt⟩ kk).memory.cells.map Cell.e),.sl false ((ac1 ⟨pc,ps,pd⟩ ⟨⟨mb,mk⟩,⟨mc,ml⟩,mt⟩ kk).memory.lines.map cx.e),.sl false ((ac1 ⟨pc,ps,pd⟩ ⟨⟨mb,mk⟩,⟨mc,ml⟩,mt⟩ kk).threads.map Thread.e)]],true⟩/\S.f 11= .int .i64 ((kk:Int))/\S.n=1100)/\(ac4 ⟨pc,ps,pd⟩ (d+N) ⟨⟨mb,mk⟩,⟨mc,ml⟩,mt⟩ N kk)) (400) ?_ 0 (by simp) ?_
 ·rintro kk S adm ⟨hI0,hP0⟩;have adn:=cS kk (by omega);by_cases adf:(kk<400)
  ·have hk4:(kk:Int)<400:=by omega
   have hk1: ¬N*65<(kk:Int):=by have:=hP0.le;omega
   have acm:=hP0.g;have hys:=hP0.st;have o1:=ada acm (by omega) hys;have gz:=yp acm (t:=0) (by omega) (by have:=hP0.lt;have:=HG.cg (t:=0) (by omega);have:=this.count;omega);have gyl:=acm.lens;have gyr:=acm.R;have adk:=fun ho=>hP0.stop (by omega) ho;have hgo:=fun ho=>hP0.step (HG.mono (by omega)) (by omega) ho;have pa:=ac2 ⟨pc,ps,pd⟩ ⟨⟨mb,mk⟩,⟨mc,ml⟩,mt⟩ kk;obtain⟨⟨⟨acq,yk⟩,⟨acv,acw⟩,acx⟩,hy⟩: ∃a,ac1 ⟨pc,ps,pd⟩ ⟨⟨mb,mk⟩,⟨mc,ml⟩,mt⟩ kk=a:=⟨_,rfl⟩;rw[hy]at o1 gz adk hgo pa gyl gyr;have T1:=adi pc ps pd acq yk acv acw acx 0 HG.prog.lens gyl gyr;rw[o1]at T1;obtain⟨⟨⟨⟨zb,acz⟩,⟨zc,zl⟩,ac0⟩,t⟩,hz⟩: ∃a,hZ ⟨pc,ps,pd⟩ ⟨⟨acq,yk⟩,⟨acv,acw⟩,acx⟩ 0=a:=⟨_,rfl⟩;rw[hz]at T1 gz adk hgo pa;simp only at T1 gz adk hgo pa;have hzl:ac0.length=4:=gz.len;have hz0:0<ac0.length:=by omega
   have hzt:cg ⟨⟨zb,acz⟩,⟨zc,zl⟩,ac0⟩ 0=ac0[0]:=ie hz0;rw[pa,hzt,hm0,hx]at hgo;rw[hx]at adk;by_cases ho:t= -1
   ·have ho':=eq_true ho;obtain⟨g1,g2,g3,g4⟩:=hgo ho;by_cases hc:(ac0[0]).count=(mt[0]).count+N
    ·have e:=g3 hc;simp only[aF,bf.mk.injEq,aN.mk.injEq,aK.mk.injEq]at e;obtain⟨⟨⟨rfl,rfl⟩,⟨rfl,rfl⟩,rfl⟩,rfl⟩:=e;simp(maxSteps:=10000000) (maxDischargeDepth:=30) -implicitDefEqProofs[hI0,adm,adn,adf,hy,hk1,ab9,T1,hzl,hz0,oP,adh,ho',hc,wq,hw,hxl]
    ·have g4:=g4 hc;simp(maxSteps:=10000000) (maxDischargeDepth:=30) -implicitDefEqProofs[hI0,adm,adn,adf,hy,hk1,ab9,T1,hzl,hz0,oP,adh,ho',hc,wq,hw,hxl,pa,g4]
   ·have e:=adk ho;simp only[aF,bf.mk.injEq,aN.mk.injEq,aK.mk.injEq]at e;obtain⟨⟨⟨rfl,rfl⟩,⟨rfl,rfl⟩,rfl⟩,rfl⟩:=e;simp(maxSteps:=10000000) (maxDischargeDepth:=30) -implicitDefEqProofs[hI0,adm,adn,adf,hy,hk1,ab9,T1,hzl,hz0,oP,adh,ho,wq,hw,hxl]
  ·exfalso;have:=hP0.le;omega
 ·simp(maxSteps:=10000000) (maxDischargeDepth:=30) -implicitDefEqProofs[ac3,acf]
end Go.Proofs.YtejohpnpnaljdaaGreat
namespace Go.Proofs.YtejohpnpnaljdaaGreat
open Go Go.Abs
namespace adj
def Pe:List (Bool×List CS):=[(false,[.sl false [.int .i64]]),(false,[.int .i64])]
theorem read:Tryz.f9.params.toList.all (Ih X.P)=true:=by kernel_rfl
theorem ao8:zq X.P Tryz.f9.params.toList=some Pe:=by kernel_rfl
theorem ao9:abv X.P Tryz.f9 Pe 4:=⟨abw,read,ao8,rfl,rfl⟩
theorem apa(vs:List V)(h:zp Pe vs)(hb:mT vs<=1048576): ∃h k,cy X 9 vs ky 0=some (.bool true,h,k):=by
 simp only[Pe,zp,Aa,cX7]at h;obtain⟨_,_,rfl,⟨_,_,rfl,⟨es,rfl,_,hes⟩,rfl⟩,_,_,rfl,⟨_,_,rfl,⟨n,rfl,hn⟩,rfl⟩,rfl⟩:=h;obtain⟨l,rfl⟩:=Ik (es:=es) fun e he=>by
  obtain⟨xs,hx,_,_,rfl,⟨b,rfl,hb⟩,rfl⟩:=hes e he;exact⟨b,hx⟩
 have e1:oz false [V.sl false (l.map (V.int .i64))]= .sl false (l.map (V.int .i64)):=rfl;have e2: ∀n,oz false [V.int .i64 n]= .int .i64 n:=fun _=>rfl;rw[e1,e2]at hb⊢;simp only[mT]at hb;have e3:Up (.sl false (l.map (V.int .i64)))=mT (l.map (V.int .i64))+1:=rfl;rw[e3,Ya]at hb;exact ac8 l n (by omega)
theorem a0:Rows.stepOnesUptoRow.wf (OpenSpec.ofChange (Rows.OpenSpec.upto Rows.stepOnesSpec).bare)=true:=by kernel_rfl
theorem a1:Tryz.f9.params.all (Tryz.pinned.checked.prog.readableRec ·)=true:=by kernel_rfl
theorem a2:namedTie Tryz.pinned.checked.prog Rows.stepOnesUptoRow.named (Rows.OpenSpec.upto Rows.stepOnesSpec).bare.vars=true:=by kernel_rfl
theorem a3:(Rows.stepOnesUptoRow.stops==[])=true:=by kernel_rfl
theorem a4:(Rows.stepOnesUptoRow.knobs==[])=true:=by kernel_rfl
theorem a5:(Rows.stepOnesUptoRow.inPlace==Tryz.pinned.checked.prog.inPlace 9)=true:=by kernel_rfl
theorem a6:(Rows.stepOnesUptoRow.unfollowed==Tryz.pinned.checked.prog.unfollowed 9)=true:=by kernel_rfl
theorem a7:(Rows.stepOnesUptoRow.recurses==Tryz.pinned.checked.prog.recurses 9)=true:=by kernel_rfl
theorem a8:(Rows.stepOnesUptoRow.named==Tryz.pinned.checked.prog.varsNamed 9)=true:=by kernel_rfl
theorem a9:(Rows.stepOnesUptoRow.maps==(Tryz.f9.params.toList++(Rows.OpenSpec.upto Rows.stepOnesSpec).bare.plain.varTypes Tryz.pinned.checked.prog).any (Tryz.pinned.checked.prog.mapsRec ·))=true:=by kernel_rfl
theorem Px:(Rows.stepOnesUptoRow.ifaces==(Tryz.f9.params.toList++(Rows.OpenSpec.upto Rows.stepOnesSpec).bare.plain.varTypes Tryz.pinned.checked.prog).any (Tryz.pinned.checked.prog.ifacesRec ·))=true:=by kernel_rfl
theorem a11:(Rows.stepOnesUptoRow.mapsOut==Tryz.pinned.checked.prog.mapsAmong Tryz.f9.resultTypes.toList)=true:=by kernel_rfl
theorem a12:(Rows.stepOnesUptoRow.loops==(Tryz.f9.params.toList++(Rows.OpenSpec.upto Rows.stepOnesSpec).bare.plain.varTypes Tryz.pinned.checked.prog).any (Tryz.pinned.checked.prog.loopsFrom ·))=true:=by kernel_rfl
theorem a13:(Rows.stepOnesUptoRow.wideKeys==(Tryz.f9.params.toList++(Rows.OpenSpec.upto Rows.stepOnesSpec).bare.plain.varTypes Tryz.pinned.checked.prog++Tryz.f9.resultTypes.toList).any (Tryz.pinned.checked.prog.wideKeysFrom ·))=true:=by kernel_rfl
theorem a14:(Rows.OpenSpec.upto Rows.stepOnesSpec).bare.vars.all (Tryz.pinned.checked.prog.varReadable ·)=true:=by kernel_rfl
theorem a15:Tryz.f9.resultTypes.all (fun t=>Tryz.pinned.checked.prog.readableRec t&&decide (t<Tryz.pinned.checked.prog.types.size))=true:=by kernel_rfl
theorem a16:(Rows.stepOnesUptoRow.ifacesOut==Tryz.f9.resultTypes.toList.any (Tryz.pinned.checked.prog.ifacesRec ·))=true:=by kernel_rfl
theorem a17:(Rows.stepOnesUptoRow.loopsOut==Tryz.f9.resultTypes.toList.any (Tryz.pinned.checked.prog.loopsFrom ·))=true:=by kernel_rfl
theorem a18:(Rows.stepOnesUptoRow.plainKeys==Tryz.pinned.checked.prog.plainKeys)=true:=by kernel_rfl
theorem a19:Rows.stepOnesUptoRow.shortTexts.isNone=true:=by kernel_rfl
theorem a20:(Rows.stepOnesUptoRow.lifted==Tryz.pinned.checked.prog.liftsFinal)=true:=by kernel_rfl
theorem a21:(Tryz.pinned.checked.prog.make==some Rows.stepOnesUptoRow.make)=true:=by kernel_rfl
theorem a22:(Rows.stepOnesUptoRow.kinds==(if Rows.stepOnesUptoRow.domain.isEmpty then [] else Tryz.f9.params.toList.map fun t=>match Tryz.pinned.checked.prog.underlying t with|some (.int k)=>some k|_=>none))=true:=by kernel_rfl
theorem a23:(Rows.stepOnesUptoRow.pinned==Rows.stepOnesUptoRow.pinnedBy)=true:=by kernel_rfl
theorem a24:(Rows.stepOnesUptoRow.veiled==(Tryz.f9.params.toList++(Rows.OpenSpec.upto Rows.stepOnesSpec).bare.plain.varTypes Tryz.pinned.checked.prog++Tryz.f9.resultTypes.toList).any (Tryz.pinned.checked.prog.veiledRec ·))=true:=by kernel_rfl
theorem a25:Rows.stepOnesUptoRow.veiledFits Tryz.pinned.checked.prog Tryz.f9.params.toList (Tryz.f9.params.toList++(Rows.OpenSpec.upto Rows.stepOnesSpec).bare.plain.varTypes Tryz.pinned.checked.prog++Tryz.f9.resultTypes.toList)=true:=by kernel_rfl
theorem closed:joinedFacts Tryz.pinned.checked.prog 9 Tryz.f9 (Rows.OpenSpec.upto Rows.stepOnesSpec).bare Rows.stepOnesUptoRow=true:=by
 unfold joinedFacts;exact(gW (gW (gW (gW (gW (gW (gW (gW (gW (gW (gW (gW (gW (gW (gW (gW (gW (gW (gW (gW (gW (gW (gW (gW (gW (gW (gW (gW (gW (gW (gW a0 abw) al0) a1) a2) a3) aez) a4) ae0) a5) a6) a7) a8) a9) Px) a11) a12) a13) a14) a15) a16) a17) a18) a19) heard) ae1) a20) a21) a22) a23) a24) a25)
theorem isI:Tryz.f9.isInstance Tryz.pinned.checked.prog Rows.stepOnesUptoRow.origin Rows.stepOnesUptoRow.targs:=of_decide_eq_true (by kernel_rfl)
theorem isW:Tryz.f9.isWrapper Tryz.pinned.checked.prog Rows.stepOnesUptoRow.wrapper Rows.stepOnesUptoRow.mainSum:=by
 unfold Func.isWrapper;first|(rw[if_pos (by decide+kernel)];kernel_rfl)|(rw[if_neg (by decide+kernel)];exact⟨rfl,rfl⟩)
theorem apb:Tryz.pinned.checked.prog.funcNamed Rows.stepOnesUptoRow.func=some 9:=by kernel_rfl
theorem lifted(os:Os)(started:os.Started)(H:Type)(enc:TypeId×Value->H)(F:Stop.Interp):
  ReturnsInHanded {} Tryz.checked os 9 .any ((Rows.OpenSpec.upto Rows.stepOnesSpec).pre6 enc Tryz.prog Tryz.f9 Rows.stepOnesUptoRow.domain false) (((Rows.OpenSpec.upto Rows.stepOnesSpec).at F).post enc Tryz.prog Tryz.f9 false true false false):=by
 refine returnsInHanded_of_cond (C:=Tryz.checked) (s:=(Rows.OpenSpec.upto Rows.stepOnesSpec)) (k:=Rows.uptoSmall) rfl own started (by kernel_rfl) Tryz.func9
  (OpenSpec.witness (enc:=enc) (C:=Tryz.checked) (s:=(Rows.OpenSpec.upto Rows.stepOnesSpec)) (k:=Rows.uptoSmall) rfl false ⟨#[],#[.slice none 0 0,.int .i64 0],[]⟩ 8 (by kernel_rfl) (by kernel_rfl) (by kernel_rfl)
   (x:=([.nil,.lit (.int .i64 0)],[],[])) (by kernel_rfl) rfl (by kernel_rfl)) ?_
 intro W base args ds gs before Hl hW _ hk _;have hgs:gs=[]:=by
  obtain⟨p,q,_,hV,_⟩:=hW;cases gs with
  |nil=>rfl
  |cons _ _=>simp[DataW.TrodVars,Rows.stepOnesSpec,Rows.OpenSpec.upto,OpenSpec.ofChange]at hV
 subst hgs;rw[List.append_nil]at hk;exact Uu Fo ao9 (s:=Rows.stepOnesSpec) rfl (fun H ds hl=>by
  match ds,hl with
  | [a,b],_=>rfl) apa H Rows.uptoBulk (cX8 H) enc W base args ds [] before Hl hW (cX9 hk)
theorem pZ:Rows.stepOnesUptoRow.holds Tryz.pinned (Rows.OpenSpec.upto Rows.stepOnesSpec):=
 OpenClaim.holds_of_cond 9 Tryz.f9 rfl rfl rfl rfl rfl rfl rfl ⟨rfl,rfl,rfl,rfl,rfl⟩ rfl rfl rfl rfl rfl apb Tryz.func9 closed isI isW
  (fun os started H enc _ F=>lifted os started H enc F)
end adj
theorem stepOnes:Rows.StepOnesUptoSaid:=adj.pZ
end Go.Proofs.YtejohpnpnaljdaaGreat
