/- StepSlices in its second form: for every machine, list of numbers and two numbers whose bulk is at most 1048576, the law answers true and its input reads as before. -/
import Derived.Test.YtejohpnpnaljdaaGreatM13
import Derived.Test.YtejohpnpnaljdaaGreatM52
set_option linter.all false
set_option maxRecDepth 100000
set_option maxHeartbeats 20000000
namespace Go.Abs.lu
open Go Go.Abs
@[simp] theorem aff(l:List dT):df (l.map dT.e)=l.map dT.e:=jV (fun x=>by simp[dT.bP]) l
@[simp] theorem aem(l:List Output):df (l.map Output.e)=l.map Output.e:=jV (fun x=>by simp[Output.bP]) l
@[simp] theorem aev(l:List Entry):df (l.map Entry.e)=l.map Entry.e:=jV (fun x=>by simp[Entry.bP]) l
end Go.Abs.lu
namespace Go.Proofs.YtejohpnpnaljdaaGreat
open Go Go.Abs Go.Abs.lu
@[simp] theorem ac8(ay:List Instr)(ah:List Int)(az:List (List Int))(aa:List Int)(aw:Int)(aq:List Cell)(an:List cx)(ax:List Thread)(t n:Int)(hp:rK (Prog.mk ay ah az))(hm:qA (bf.mk (aN.mk aa aw) (aK.mk aq an) ax))(hr:yl (bf.mk (aN.mk aa aw) (aK.mk aq an) ax)):cz X 24 [.agg [.sl false (ay.map Instr.e),.sl false (ah.map (V.int .i64)),.sl false (az.map aS)],.agg [.sl false (aa.map (V.int .i64)),.int .u16 aw,.sl false (aq.map Cell.e),.sl false (an.map cx.e),.sl false (ax.map Thread.e)],.int .i64 t,.int .i64 n]=some (.de [.agg [.sl false (((pr (Prog.mk ay ah az) (bf.mk (aN.mk aa aw) (aK.mk aq an) ax) t n).1).layout.aD.map (V.int .i64)),.int .u16 ((pr (Prog.mk ay ah az) (bf.mk (aN.mk aa aw) (aK.mk aq an) ax) t n).1).layout.key,.sl false (((pr (Prog.mk ay ah az) (bf.mk (aN.mk aa aw) (aK.mk aq an) ax) t n).1).memory.cells.map Cell.e),.sl false (((pr (Prog.mk ay ah az) (bf.mk (aN.mk aa aw) (aK.mk aq an) ax) t n).1).memory.lines.map cx.e),.sl false (((pr (Prog.mk ay ah az) (bf.mk (aN.mk aa aw) (aK.mk aq an) ax) t n).1).threads.map Thread.e)],.int .i64 ((pr (Prog.mk ay ah az) (bf.mk (aN.mk aa aw) (aK.mk aq an) ax) t n).2.1),.int .i64 ((pr (Prog.mk ay ah az) (bf.mk (aN.mk aa aw) (aK.mk aq an) ax) t n).2.2)]):=by
 by_cases hv:jc (Prog.mk ay ah az) (bf.mk (aN.mk aa aw) (aK.mk aq an) ax)=true
 case neg=>
  rw[zB (fun h=>hv h.1)];refine bd Tryz.func24 rfl rfl ?_;unfold fG;simp(maxSteps:=10000000) (maxDischargeDepth:=30) -implicitDefEqProofs[hp,hm,hv]
 by_cases h0:0<=t
 case neg=>
  have h0':t<0:=by omega
  rw[zB (fun h=>h0 h.2.1.1)];refine bd Tryz.func24 rfl rfl ?_;unfold fG;simp(maxSteps:=10000000) (maxDischargeDepth:=30) -implicitDefEqProofs[hp,hm,hv,h0,h0']
 have h0': ¬t<0:=by omega
 by_cases h4:t<4
 case neg=>
  have h4':4<=t:=by omega
  rw[zB (fun h=>h4 h.2.1.2)];refine bd Tryz.func24 rfl rfl ?_;unfold fG;simp(maxSteps:=10000000) (maxDischargeDepth:=30) -implicitDefEqProofs[hp,hm,hv,h0,h0',h4,h4']
 have h4': ¬4<=t:=by omega
 by_cases n1:1<=n
 case neg=>
  have n1':n<1:=by omega
  rw[zB (fun h=>n1 h.2.2.1)];refine bd Tryz.func24 rfl rfl ?_;unfold fG;simp(maxSteps:=10000000) (maxDischargeDepth:=30) -implicitDefEqProofs[hp,hm,hv,h0,h0',h4,h4',n1,n1']
 have n1': ¬n<1:=by omega
 by_cases n64:n<=64
 case neg=>
  have afm:64<n:=by omega
  rw[zB (fun h=>n64 h.2.2.2)];refine bd Tryz.func24 rfl rfl ?_;unfold fG;simp(maxSteps:=10000000) (maxDischargeDepth:=30) -implicitDefEqProofs[hp,hm,hv,h0,h0',h4,h4',n1,n1',n64,afm]
 obtain⟨k,rfl⟩:=Int.eq_ofNat_of_zero_le h0;have e:pr (Prog.mk ay ah az) (bf.mk (aN.mk aa aw) (aK.mk aq an) ax) k n=((dm (Prog.mk ay ah az) (bf.mk (aN.mk aa aw) (aK.mk aq an) ax) k n).1,(dm (Prog.mk ay ah az) (bf.mk (aN.mk aa aw) (aK.mk aq an) ax) k n).2,0):=by unfold pr;rw[if_pos ⟨hv,⟨h0,h4⟩,n1,n64⟩,Int.toNat_natCast]
 rw[e];exact yu.cz (YT ay ah az aa aw aq an ax k n k hr hv (by omega) ⟨n1,n64⟩)
end Go.Proofs.YtejohpnpnaljdaaGreat
namespace Go.Proofs.YtejohpnpnaljdaaGreat
open Go Go.Abs Go.Abs.lu
def ac1(l:List Thread):Bool:=l.all fun t=>decide (t.bm.length<=20)
def ac2(l:List cx):Bool:=l.all fun t=>decide (t.cells.length<=20)
theorem adl{l:List Thread}{i:Nat}(h:i<l.length):ac1 (l.take (i+1))=(ac1 (l.take i)&&decide ((l[i]).bm.length<=20)):=tz h
theorem adm{l:List Thread}{i:Nat}(h:i<l.length)(hp: ¬(l[i]).bm.length<=20):ac1 l=false:=r8 h (by simpa using hp)
theorem adh{l:List Thread}:ac1 (l.take l.length)=ac1 l:=by rw[List.take_length]
theorem adn{l:List cx}{i:Nat}(h:i<l.length):ac2 (l.take (i+1))=(ac2 (l.take i)&&decide ((l[i]).cells.length<=20)):=tz h
theorem ado{l:List cx}{i:Nat}(h:i<l.length)(hp: ¬(l[i]).cells.length<=20):ac2 l=false:=r8 h (by simpa using hp)
theorem adi{l:List cx}:ac2 (l.take l.length)=ac2 l:=by rw[List.take_length]
def acz(m:bf):Bool:=ac1 m.threads&& (ac2 m.memory.lines&& (decide ((m.memory.cells.length:Int)<=600)&& (decide ((m.memory.lines.length:Int)<=20)&& (decide ((m.threads.length:Int)<=20)&&decide ((m.layout.aD.length:Int)<=20)))))
@[simp] theorem acx(aa:List Int)(aw:Int)(aq:List Cell)(an:List cx)(ax:List Thread)(h:qA (bf.mk (aN.mk aa aw) (aK.mk aq an) ax)):cz X 17 [.agg [.sl false (aa.map (V.int .i64)),.int .u16 aw,.sl false (aq.map Cell.e),.sl false (an.map cx.e),.sl false (ax.map Thread.e)]]=some (.bool (acz (bf.mk (aN.mk aa aw) (aK.mk aq an) ax))):=by
 refine bd Tryz.func17 rfl rfl ?_;have hm1:aa.length<=1000000000:=h.aD;have hm2:aq.length<=1000000000:=h.cells;have hm3:an.length<=1000000000:=h.lines;have hm5:ax.length<=1000000000:=h.threads;simp(maxSteps:=10000000) (maxDischargeDepth:=30) -implicitDefEqProofs[];refine cP (fun i S=>(S.f 1= .ptr 1 0 0/\S.h 1=some ⟨5,[.agg [.sl false (aa.map (V.int .i64)),.int .u16 aw,.sl false (aq.map Cell.e),.sl false (an.map cx.e),.sl false (ax.map Thread.e)]],true⟩/\S.f 8= .sl false (ax.map Thread.e)/\S.f 9= .int .i64 ((ax).length:Int)/\S.f 10= .int .i64 (i:Int)/\S.n=1100)/\(ac1 (ax.take i)=true)) (ax.length) ?_ 0 (by simp) ?_
 ·rintro i S hii ⟨hI0,hP0⟩;have hwi:=cS i (by omega);by_cases adg:i<ax.length
  ·have up:=adl adg;rw[hP0]at up;by_cases q:(ax[i]).bm.length<=20
   ·have ab7: ¬20<((ax[i]).bm.length:Int):=by omega
    simp[q]at up;simp(maxSteps:=10000000) (maxDischargeDepth:=30) -implicitDefEqProofs[hI0,hii,hwi,adg,ab7,up]
   ·have ab7:20<((ax[i]).bm.length:Int):=by omega
    have e:=adm adg q;have e2:acz (bf.mk (aN.mk aa aw) (aK.mk aq an) ax)=false:=by unfold acz;simp only;rw[e];rfl
    simp(maxSteps:=10000000) (maxDischargeDepth:=30) -implicitDefEqProofs[hI0,hii,hwi,adg,ab7,e2]
  ·have hei:ax.length=i:=by omega
   subst hei;rw[adh]at hP0;simp(maxSteps:=10000000) (maxDischargeDepth:=30) -implicitDefEqProofs[hI0,hii,hwi,adg];refine cP (fun j S=>(S.f 1= .ptr 1 0 0/\S.h 1=some ⟨5,[.agg [.sl false (aa.map (V.int .i64)),.int .u16 aw,.sl false (aq.map Cell.e),.sl false (an.map cx.e),.sl false (ax.map Thread.e)]],true⟩/\S.f 21= .sl false (an.map cx.e)/\S.f 22= .int .i64 ((an).length:Int)/\S.f 23= .int .i64 (j:Int)/\S.n=1100)/\(ac2 (an.take j)=true)) (an.length) ?_ 0 (by simp) ?_
   ·rintro j S jk ⟨hI1,hP1⟩;have hwj:=cS j (by omega);by_cases aeg:j<an.length
    ·have up:=adn aeg;rw[hP1]at up;by_cases q:(an[j]).cells.length<=20
     ·have ab7: ¬20<((an[j]).cells.length:Int):=by omega
      simp[q]at up;simp(maxSteps:=10000000) (maxDischargeDepth:=30) -implicitDefEqProofs[hii,hwi,adg,hI1,jk,hwj,aeg,ab7,up]
     ·have ab7:20<((an[j]).cells.length:Int):=by omega
      have e:=ado aeg q;have e2:acz (bf.mk (aN.mk aa aw) (aK.mk aq an) ax)=false:=by unfold acz;simp only;rw[e,hP0];rfl
      simp(maxSteps:=10000000) (maxDischargeDepth:=30) -implicitDefEqProofs[hii,hwi,adg,hI1,jk,hwj,aeg,ab7,e2]
    ·have hej:an.length=j:=by omega
     subst hej;rw[adi]at hP1;have e:acz (bf.mk (aN.mk aa aw) (aK.mk aq an) ax)=(decide ((aq.length:Int)<=600)&& (decide ((an.length:Int)<=20)&& (decide ((ax.length:Int)<=20)&&decide ((aa.length:Int)<=20)))):=by unfold acz;simp only;rw[hP0,hP1];rfl
     rw[e];by_cases a1:(aq.length:Int)<=600
     case neg=>simp(maxSteps:=10000000) (maxDischargeDepth:=30) -implicitDefEqProofs[hii,hwi,adg,hI1,jk,hwj,aeg,a1]
     by_cases a2:(an.length:Int)<=20
     case neg=>simp(maxSteps:=10000000) (maxDischargeDepth:=30) -implicitDefEqProofs[hii,hwi,adg,hI1,jk,hwj,aeg,a1,a2]
     by_cases a3:(ax.length:Int)<=20
     case neg=>simp(maxSteps:=10000000) (maxDischargeDepth:=30) -implicitDefEqProofs[hii,hwi,adg,hI1,jk,hwj,aeg,a1,a2,a3]
     simp(maxSteps:=10000000) (maxDischargeDepth:=30) -implicitDefEqProofs[hii,hwi,adg,hI1,jk,hwj,aeg,a1,a2,a3]
   ·simp(maxSteps:=10000000) (maxDischargeDepth:=30) -implicitDefEqProofs[hI0,hii,hwi,adg]<;>(
     rfl)
 ·simp(maxSteps:=10000000) (maxDischargeDepth:=30) -implicitDefEqProofs[]<;>(
   rfl)
end Go.Proofs.YtejohpnpnaljdaaGreat
namespace Go.Proofs.YtejohpnpnaljdaaGreat
open Go Go.Abs Go.Abs.lu
theorem ady{p:Prog}{c:Int}{m:bf}(H:cR p c m){t:Nat}(ht:t<4){n:Int}(hn:1<=n):cR p (c+n) (dm p m t n).1:=by
 by_cases hs:(cg m t).state=1
 ·exact(sG H ht hn hs).yq
 ·have e0:m.threads.getD t da=cg m t:=rfl;unfold dm;rw[e0,if_neg hs];exact H.mono (by omega)
theorem adr:qA fG:=by
 unfold fG;exact⟨by simp,by simp,by simp,fun i hi=>by simp at hi,by simp,fun i hi=>by simp at hi⟩
theorem ac4{p:Prog}{m:bf}(hr:yl m)(t n:Int):qA (pr p m t n).1:=by
 unfold pr;by_cases h:jc p m=true/\(0<=t/\t<4)/\1<=n/\n<=64
 ·rw[if_pos h];exact(ady (uT hr h.1) (by omega) h.2.2.1).lens
 ·rw[if_neg h];exact adr
def afk(a b c t n:Int):List (List Int):=[[0,1+a],[b,1+c],[t,n],[t % 6-1,n % 68-1]]
@[simp] theorem adf(acf:List Int)(acq:Int)(acg:List Cell)(acm:List cx)(acv:List Thread)(l:List Int)(t n:Int)(hl:l.length<=2000000)(afg:qA (bf.mk (aN.mk acf acq) (aK.mk acg acm) acv))(Wm:yl (bf.mk (aN.mk acf acq) (aK.mk acg acm) acv)): ∃h' k',cy X 3 [.agg [.sl false (acf.map (V.int .i64)),.int .u16 acq,.sl false (acg.map Cell.e),.sl false (acm.map cx.e),.sl false (acv.map Thread.e)],.sl false (l.map (V.int .i64)),.int .i64 t,.int .i64 n] m8 0=some (.bool true,h',k'):=by
 suffices H: ∃v h' k',cy X 3 [.agg [.sl false (acf.map (V.int .i64)),.int .u16 acq,.sl false (acg.map Cell.e),.sl false (acm.map cx.e),.sl false (acv.map Thread.e)],.sl false (l.map (V.int .i64)),.int .i64 t,.int .i64 n] m8 0=some (v,h',k')/\v= .bool true by
  obtain⟨v,h',k',e,rfl⟩:=H;exact⟨h',k',e⟩
 have hw:=QA;have hLt:=acx acf acq acg acm acv afg;refine bu (X:=X) (K:=fun v _ _=>v= .bool true) Tryz.func3 rfl rfl ?_;by_cases hB:acz (bf.mk (aN.mk acf acq) (aK.mk acg acm) acv)=true
 case neg=>
  have hB':acz (bf.mk (aN.mk acf acq) (aK.mk acg acm) acv)=false:=by simpa using hB
  rw[hB']at hLt;simp(maxSteps:=10000000) (maxDischargeDepth:=30) -implicitDefEqProofs[-acx,hLt,hw]
 rw[hB]at hLt;have hd0:dr l 0:=⟨by omega,by omega⟩;obtain⟨kt,⟨pc,ps,pd⟩,d,⟨⟨mb,mk⟩,⟨mc,ml⟩,mt⟩,hM,hdk,HG,hd2,iZ⟩:=Z5 l 0 hd0;simp only[Z1]at hM;have oP:mt.length=4:=HG.len;have hN1:=gy l kt 8 hdk (by omega);have hv1:=dC l kt (n:=8) (by omega);have afl:=dE hdk;have hN2:=gy l (cY l kt) 4 afl (by omega);have hv2:=dC l (cY l kt) (n:=4) (by omega);have aft:=dE afl;have hN3:=gy l (cY l (cY l kt)) 64 aft (by omega);have hv3:=dC l (cY l (cY l kt)) (n:=64) (by omega);obtain⟨a,ha⟩: ∃a,dL l kt 8=a:=⟨_,rfl⟩;obtain⟨b,hb⟩: ∃a,dL l (cY l kt) 4=a:=⟨_,rfl⟩;obtain⟨c,hc⟩: ∃a,dL l (cY l (cY l kt)) 64=a:=⟨_,rfl⟩;rw[ha]at hN1 hv1;rw[hb]at hN2 hv2;rw[hc]at hN3 hv3;have w1:IntKind.i64.wrap (1+a)=1+a:=wrap_i64 (by omega);have w3:IntKind.i64.wrap (1+c)=1+c:=wrap_i64 (by omega);have w4:IntKind.i64.wrap (t % 6-1)=t % 6-1:=wrap_i64 (by omega);have w5:IntKind.i64.wrap (n % 68-1)=n % 68-1:=wrap_i64 (by omega);obtain⟨ab9,hKS⟩: ∃ab9,afk a b c t n=ab9:=⟨_,rfl⟩;have hK4:ab9.length=4:=by rw[<-hKS];rfl
 have hK2: ∀i (h:i<ab9.length),(ab9[i]).length=2:=fun i h=>by
  subst hKS;have:i=0\/i=1\/i=2\/i=3:=by simp[afk]at h;omega
  rcases this with rfl|rfl|rfl|rfl<;>rfl
 have hKe:ab9.map cI=[.sl false [.int .i64 0,.int .i64 (1+a)],.sl false [.int .i64 b,.int .i64 (1+c)],.sl false [.int .i64 t,.int .i64 n],.sl false [.int .i64 (t % 6-1),.int .i64 (n % 68-1)]]:=by rw[<-hKS];rfl
 simp(maxSteps:=10000000) (maxDischargeDepth:=30) -implicitDefEqProofs[hl,acn, -acx,hLt,hM,hN1,hN2,hN3,w1,w3,w4,w5,oP];refine cP (fun i S=>(S.f 4= .ptr 4 0 0/\S.h 4=some ⟨5,[.agg [.sl false (acf.map (V.int .i64)),.int .u16 acq,.sl false (acg.map Cell.e),.sl false (acm.map cx.e),.sl false (acv.map Thread.e)]],true⟩/\S.f 10= .ptr 10 0 0/\S.h 10=some ⟨3,[.agg [.sl false ((⟨pc,ps,pd⟩:Prog).code.map Instr.e),.sl false ((⟨pc,ps,pd⟩:Prog).ae.map (V.int .i64)),.sl false ((⟨pc,ps,pd⟩:Prog).data.map aS)]],true⟩/\S.f 11= .ptr 11 0 0/\S.h 11=some ⟨5,[.agg [.sl false ((⟨⟨mb,mk⟩,⟨mc,ml⟩,mt⟩:bf).layout.aD.map (V.int .i64)),.int .u16 (⟨⟨mb,mk⟩,⟨mc,ml⟩,mt⟩:bf).layout.key,.sl false ((⟨⟨mb,mk⟩,⟨mc,ml⟩,mt⟩:bf).memory.cells.map Cell.e),.sl false ((⟨⟨mb,mk⟩,⟨mc,ml⟩,mt⟩:bf).memory.lines.map cx.e),.sl false ((⟨⟨mb,mk⟩,⟨mc,ml⟩,mt⟩:bf).threads.map Thread.e)]],true⟩/\S.f 57= .sl false (ab9.map cI)/\S.f 58= .int .i64 4/\S.f 59= .int .i64 (i:Int)/\S.n=1100)/\True) (4) ?_ 0 (by simp) ?_
 ·rintro i S hii ⟨hI0,hP0⟩;have hwi:=cS i (by omega);by_cases adg:i<4
  ·have hi4:(i:Int)<4:=by omega
   have hiK:i<ab9.length:=by omega
   have h2:=hK2 i hiK;have h20:0<(ab9[i]).length:=by omega
   have h21:1<(ab9[i]).length:=by omega
   have S1:=sU pc ps pd mb mk mc ml mt (ab9[i])[0] (ab9[i])[1] HG.prog.lens HG.lens HG.R;have S2:=ac8 pc ps pd mb mk mc ml mt (ab9[i])[0] (ab9[i])[1] HG.prog.lens HG.lens HG.R;have hx:=ac4 (p:=⟨pc,ps,pd⟩) HG.R (ab9[i])[0] (ab9[i])[1];obtain⟨⟨⟨⟨xb,xk⟩,⟨xc,xl⟩,xt⟩,s,e⟩,hxe⟩: ∃x,pr ⟨pc,ps,pd⟩ ⟨⟨mb,mk⟩,⟨mc,ml⟩,mt⟩ (ab9[i])[0] (ab9[i])[1]=x:=⟨_,rfl⟩;rw[hxe]at S1 S2 hx;simp only at S1 S2 hx;simp(maxSteps:=10000000) (maxDischargeDepth:=30) -implicitDefEqProofs[hI0,hii,hwi,adg, -sU, -ac8,hi4,hiK,h2,h20,h21,S1,S2,hx,iV]
  ·have hei:4=i:=by omega
   subst hei;have S1:=sU pc ps pd acf acq acg acm acv 0 3 HG.prog.lens afg Wm;have S2:=ac8 pc ps pd acf acq acg acm acv 0 3 HG.prog.lens afg Wm;have hx:=ac4 (p:=⟨pc,ps,pd⟩) Wm 0 3;obtain⟨⟨⟨⟨xb,xk⟩,⟨xc,xl⟩,xt⟩,s,e⟩,hxe⟩: ∃x,pr ⟨pc,ps,pd⟩ (bf.mk (aN.mk acf acq) (aK.mk acg acm) acv) 0 3=x:=⟨_,rfl⟩;rw[hxe]at S1 S2 hx;simp only at S1 S2 hx;simp(maxSteps:=10000000) (maxDischargeDepth:=30) -implicitDefEqProofs[hI0,hii,hwi,adg, -sU, -ac8,S1,S2,hx,hw]
 ·rw[hKe];simp(maxSteps:=10000000) (maxDischargeDepth:=30) -implicitDefEqProofs[]
end Go.Proofs.YtejohpnpnaljdaaGreat
namespace Go.Proofs.YtejohpnpnaljdaaGreat
open Go Go.Abs Go.Abs.lu
theorem ac0{α:Type}(f:α->V)(P:α->Prop): ∀{es:List V},(∀e∈es,∃a,e=f a/\P a)-> ∃l:List α,es=l.map f/\ ∀a∈l,P a
 | [],_=>⟨[],rfl,fun a h=>by cases h⟩
 |e::es,h=>by
  obtain⟨a,ha,hp⟩:=h e (by simp);obtain⟨l,hl,hq⟩:=ac0 f P (es:=es) fun x hx=>h x (by simp[hx]);refine⟨a::l,by rw[ha,hl];rfl,fun b hb=> ?_⟩;rcases List.mem_cons.1 hb with rfl|hb
  ·exact hp
  ·exact hq b hb
theorem acw{α:Type}(f:α->V)(hf: ∀x,1<=Up (f x)): ∀l:List α,l.length<=mT (l.map f)
 | []=>by simp
 |x::l=>by
  have h1:=acw f hf l;have h2:=hf x;simp only[List.map_cons,mT,List.length_cons];omega
theorem ac9{α:Type}(f:α->V): ∀(l:List α) (x:α),x∈l->Up (f x)<=mT (l.map f)
 |y::l,x,h=>by
  simp only[List.map_cons,mT];rcases List.mem_cons.1 h with rfl|h
  ·omega
  ·have:=ac9 f l x h;omega
def ac7:List CS:=[.int .u8,.int .u16]
def adu:List CS:=[.int .i64,.bool,.sl true ac7]
def ada:List CS:=[.int .i64,.sl true ac7,.int .i64,.int .i64,.int .i64,.int .i64,.int .i64,.int .u16]
def adx:List CS:=[.sl false [.int .i64],.int .u16,.sl true ac7,.sl true adu,.sl true ada]
def afb(c:Cell):Prop:=0<=c.tag/\0<=c.val/\c.val<=65535
theorem afd{n:Int}(h:IntKind.u16.min<=n/\n<=IntKind.u16.max):0<=n/\n<=65535:=h
theorem u8R{n:Int}(h:IntKind.u8.min<=n/\n<=IntKind.u8.max):0<=n/\n<=255:=h
theorem ad0{xs:List V}(h:Aa ac7 xs): ∃c:Cell,V.agg xs=c.e/\afb c:=by
 simp only[ac7,Aa,cX7]at h;obtain⟨_,_,rfl,⟨a,rfl,ha⟩,_,_,rfl,⟨b,rfl,hb⟩,rfl⟩:=h;exact⟨⟨a,b⟩,rfl,(u8R ha).1,(afd hb).1,(afd hb).2⟩
theorem ac3{es:List V}(h: ∀e∈es,∃xs,e=(if true then .agg xs else xs.headD .bad)/\Aa ac7 xs): ∃l:List Cell,es=l.map Cell.e/\xf l:=by
 obtain⟨l,h1,h2⟩:=ac0 Cell.e afb fun e he=>by
  obtain⟨xs,rfl,hx⟩:=h e he;exact ad0 hx
 exact⟨l,h1,fun i hi=>h2 _ (List.getElem_mem hi)⟩
theorem ad5{xs:List V}(h:Aa adu xs): ∃c:cx,V.agg xs=c.e/\xf c.cells:=by
 simp only[adu,Aa,cX7]at h;obtain⟨_,_,rfl,⟨a,rfl,_⟩,_,_,rfl,⟨b,rfl⟩,_,_,rfl,⟨es,rfl,_,hes⟩,rfl⟩:=h;obtain⟨l,rfl,hl⟩:=ac3 hes;exact⟨⟨a,b,l⟩,rfl,hl⟩
theorem adk{xs:List V}(h:Aa ada xs): ∃c:Thread,V.agg xs=c.e/\xf c.bm/\0<=c.code/\c.code<=65535:=by
 simp only[ada,Aa,cX7]at h;obtain⟨_,_,rfl,⟨a,rfl,_⟩,_,_,rfl,⟨es,rfl,_,hes⟩,_,_,rfl,⟨b,rfl,_⟩,_,_,rfl,⟨c,rfl,_⟩,_,_,rfl,⟨d,rfl,_⟩,_,_,rfl,⟨e,rfl,_⟩,_,_,rfl,⟨f,rfl,_⟩,_,_,rfl,⟨g,rfl,hg⟩,rfl⟩:=h;obtain⟨l,rfl,hl⟩:=ac3 hes;exact⟨⟨a,l,b,c,d,e,f,g⟩,rfl,hl,(afd hg).1,(afd hg).2⟩
theorem aeb{xs:List V}(h:Aa adx xs)(hb:mT xs<=1048576): ∃m:bf,V.agg xs=m.e/\yl m/\qA m:=by
 simp only[adx,Aa]at h;obtain⟨_,_,rfl,ha,_,_,rfl,hk,_,_,rfl,hc,_,_,rfl,hl,_,_,rfl,ht,rfl⟩:=h;simp only[cX7]at ha hk hc hl ht;obtain⟨ws0,rfl,_,has⟩:=ha;obtain⟨k,rfl,hk⟩:=hk;obtain⟨cs,rfl,_,v7⟩:=hc;obtain⟨ls,rfl,_,hls⟩:=hl;obtain⟨ts,rfl,_,hts⟩:=ht;obtain⟨bs,rfl⟩:=Ik (es:=ws0) fun e he=>by
  obtain⟨xs,hx,ho⟩:=has e he;simp only[Aa,cX7]at ho;obtain⟨_,_,rfl,⟨b,rfl,hb⟩,rfl⟩:=ho;exact⟨b,hx⟩
 obtain⟨cells,rfl,hcR⟩:=ac3 v7;obtain⟨lines,rfl,hlR⟩:=ac0 cx.e (fun c=>xf c.cells) (es:=ls) fun e he=>by
  obtain⟨xs,rfl,hx⟩:=hls e he;exact ad5 hx
 obtain⟨threads,rfl,htR⟩:=ac0 Thread.e (fun c=>xf c.bm/\0<=c.code/\c.code<=65535) (es:=ts) fun e he=>by
  obtain⟨xs,rfl,hx⟩:=hts e he;exact adk hx
 simp only[mT,Up]at hb;have s1:=acw (V.int .i64) (fun x=>by simp[Up]) bs;have c1: ∀x:Cell,1<=Up x.e:=fun x=>by simp[Cell.e,Up,mT]
 have s2:=acw Cell.e c1 cells;have s3:=acw cx.e (fun x=>by simp[cx.e,Up,mT]) lines;have s4:=acw Thread.e (fun x=>by simp[Thread.e,Up,mT]) threads;refine⟨⟨⟨bs,k⟩,⟨cells,lines⟩,threads⟩,rfl,⟨afd hk,hcR,fun i hi=>hlR _ (List.getElem_mem hi),fun i hi=>(htR _ (List.getElem_mem hi)).1,fun i hi=>(htR _ (List.getElem_mem hi)).2⟩,⟨by simp only;omega,by simp only;omega,by simp only;omega,fun i hi=> ?_,by simp only;omega,fun i hi=> ?_⟩⟩
 ·have h1:=ac9 cx.e lines _ (List.getElem_mem hi);have h2:=acw Cell.e c1 (lines[i]).cells;simp only[cx.e,Up,mT]at h1;simp only;omega
 ·have h1:=ac9 Thread.e threads _ (List.getElem_mem hi);have h2:=acw Cell.e c1 (threads[i]).bm;simp only[Thread.e,Up,mT]at h1;simp only;omega
end Go.Proofs.YtejohpnpnaljdaaGreat
namespace Go.Proofs.YtejohpnpnaljdaaGreat
open Go Go.Abs
namespace aeh
def Pe:List (Bool×List CS):=[(true,adx),(false,[.sl false [.int .i64]]),(false,[.int .i64]),(false,[.int .i64])]
theorem read:Tryz.f3.params.toList.all (Ih X.P)=true:=by kernel_rfl
theorem ao8:zq X.P Tryz.f3.params.toList=some Pe:=by kernel_rfl
theorem ao9:abv X.P Tryz.f3 Pe 4:=⟨abw,read,ao8,rfl,rfl⟩
theorem apa(vs:List V)(h:zp Pe vs)(hb:mT vs<=1048576): ∃h k,cy X 3 vs ky 0=some (.bool true,h,k):=by
 simp only[Pe,zp]at h;obtain⟨xs,_,rfl,hx,_,_,rfl,h2,_,_,rfl,h3,_,_,rfl,h4,rfl⟩:=h;simp only[Aa,cX7]at h2 h3 h4;obtain⟨_,_,rfl,⟨es,rfl,_,hes⟩,rfl⟩:=h2;obtain⟨_,_,rfl,⟨t,rfl,ht⟩,rfl⟩:=h3;obtain⟨_,_,rfl,⟨n,rfl,hn⟩,rfl⟩:=h4;obtain⟨l,rfl⟩:=Ik (es:=es) fun e he=>by
  obtain⟨xs,hx,_,_,rfl,⟨b,rfl,hb⟩,rfl⟩:=hes e he;exact⟨b,hx⟩
 have e1:oz false [V.sl false (l.map (V.int .i64))]= .sl false (l.map (V.int .i64)):=rfl;have e2: ∀n,oz false [V.int .i64 n]= .int .i64 n:=fun _=>rfl;have e0:oz true xs= .agg xs:=rfl;rw[e0,e1,e2,e2]at hb⊢;simp only[mT]at hb;have e3:Up (.sl false (l.map (V.int .i64)))=mT (l.map (V.int .i64))+1:=rfl;have e4:Up (.agg xs)=mT xs:=by simp only[Up]
 rw[e3,e4,Ya]at hb;obtain⟨m,hm,hR,hL⟩:=aeb hx (by omega);rw[hm];obtain⟨⟨mb,mk⟩,⟨mc,ml⟩,mt⟩:=m;exact adf mb mk mc ml mt l t n (by omega) hL hR
theorem a0:Rows.stepSlicesUptoRow.wf (OpenSpec.ofChange (Rows.OpenSpec.upto Rows.stepSlicesSpec).bare)=true:=by kernel_rfl
theorem a1:Tryz.f3.params.all (Tryz.pinned.checked.prog.readableRec ·)=true:=by kernel_rfl
theorem a2:namedTie Tryz.pinned.checked.prog Rows.stepSlicesUptoRow.named (Rows.OpenSpec.upto Rows.stepSlicesSpec).bare.vars=true:=by kernel_rfl
theorem a3:(Rows.stepSlicesUptoRow.stops==[])=true:=by kernel_rfl
theorem a4:(Rows.stepSlicesUptoRow.knobs==[])=true:=by kernel_rfl
theorem a5:(Rows.stepSlicesUptoRow.inPlace==Tryz.pinned.checked.prog.inPlace 3)=true:=by kernel_rfl
theorem a6:(Rows.stepSlicesUptoRow.unfollowed==Tryz.pinned.checked.prog.unfollowed 3)=true:=by kernel_rfl
theorem a7:(Rows.stepSlicesUptoRow.recurses==Tryz.pinned.checked.prog.recurses 3)=true:=by kernel_rfl
theorem a8:(Rows.stepSlicesUptoRow.named==Tryz.pinned.checked.prog.varsNamed 3)=true:=by kernel_rfl
theorem a9:(Rows.stepSlicesUptoRow.maps==(Tryz.f3.params.toList++(Rows.OpenSpec.upto Rows.stepSlicesSpec).bare.plain.varTypes Tryz.pinned.checked.prog).any (Tryz.pinned.checked.prog.mapsRec ·))=true:=by kernel_rfl
theorem Px:(Rows.stepSlicesUptoRow.ifaces==(Tryz.f3.params.toList++(Rows.OpenSpec.upto Rows.stepSlicesSpec).bare.plain.varTypes Tryz.pinned.checked.prog).any (Tryz.pinned.checked.prog.ifacesRec ·))=true:=by kernel_rfl
theorem a11:(Rows.stepSlicesUptoRow.mapsOut==Tryz.pinned.checked.prog.mapsAmong Tryz.f3.resultTypes.toList)=true:=by kernel_rfl
theorem a12:(Rows.stepSlicesUptoRow.loops==(Tryz.f3.params.toList++(Rows.OpenSpec.upto Rows.stepSlicesSpec).bare.plain.varTypes Tryz.pinned.checked.prog).any (Tryz.pinned.checked.prog.loopsFrom ·))=true:=by kernel_rfl
theorem a13:(Rows.stepSlicesUptoRow.wideKeys==(Tryz.f3.params.toList++(Rows.OpenSpec.upto Rows.stepSlicesSpec).bare.plain.varTypes Tryz.pinned.checked.prog++Tryz.f3.resultTypes.toList).any (Tryz.pinned.checked.prog.wideKeysFrom ·))=true:=by kernel_rfl
theorem a14:(Rows.OpenSpec.upto Rows.stepSlicesSpec).bare.vars.all (Tryz.pinned.checked.prog.varReadable ·)=true:=by kernel_rfl
theorem a15:Tryz.f3.resultTypes.all (fun t=>Tryz.pinned.checked.prog.readableRec t&&decide (t<Tryz.pinned.checked.prog.types.size))=true:=by kernel_rfl
theorem a16:(Rows.stepSlicesUptoRow.ifacesOut==Tryz.f3.resultTypes.toList.any (Tryz.pinned.checked.prog.ifacesRec ·))=true:=by kernel_rfl
theorem a17:(Rows.stepSlicesUptoRow.loopsOut==Tryz.f3.resultTypes.toList.any (Tryz.pinned.checked.prog.loopsFrom ·))=true:=by kernel_rfl
theorem a18:(Rows.stepSlicesUptoRow.plainKeys==Tryz.pinned.checked.prog.plainKeys)=true:=by kernel_rfl
theorem a19:Rows.stepSlicesUptoRow.shortTexts.isNone=true:=by kernel_rfl
theorem a20:(Rows.stepSlicesUptoRow.lifted==Tryz.pinned.checked.prog.liftsFinal)=true:=by kernel_rfl
theorem a21:(Tryz.pinned.checked.prog.make==some Rows.stepSlicesUptoRow.make)=true:=by kernel_rfl
theorem a22:(Rows.stepSlicesUptoRow.kinds==(if Rows.stepSlicesUptoRow.domain.isEmpty then [] else Tryz.f3.params.toList.map fun t=>match Tryz.pinned.checked.prog.underlying t with|some (.int k)=>some k|_=>none))=true:=by kernel_rfl
theorem a23:(Rows.stepSlicesUptoRow.pinned==Rows.stepSlicesUptoRow.pinnedBy)=true:=by kernel_rfl
theorem a24:(Rows.stepSlicesUptoRow.veiled==(Tryz.f3.params.toList++(Rows.OpenSpec.upto Rows.stepSlicesSpec).bare.plain.varTypes Tryz.pinned.checked.prog++Tryz.f3.resultTypes.toList).any (Tryz.pinned.checked.prog.veiledRec ·))=true:=by kernel_rfl
theorem a25:Rows.stepSlicesUptoRow.veiledFits Tryz.pinned.checked.prog Tryz.f3.params.toList (Tryz.f3.params.toList++(Rows.OpenSpec.upto Rows.stepSlicesSpec).bare.plain.varTypes Tryz.pinned.checked.prog++Tryz.f3.resultTypes.toList)=true:=by kernel_rfl
theorem closed:joinedFacts Tryz.pinned.checked.prog 3 Tryz.f3 (Rows.OpenSpec.upto Rows.stepSlicesSpec).bare Rows.stepSlicesUptoRow=true:=by
 unfold joinedFacts;exact(gW (gW (gW (gW (gW (gW (gW (gW (gW (gW (gW (gW (gW (gW (gW (gW (gW (gW (gW (gW (gW (gW (gW (gW (gW (gW (gW (gW (gW (gW (gW a0 abw) al0) a1) a2) a3) aez) a4) ae0) a5) a6) a7) a8) a9) Px) a11) a12) a13) a14) a15) a16) a17) a18) a19) heard) ae1) a20) a21) a22) a23) a24) a25)
theorem isI:Tryz.f3.isInstance Tryz.pinned.checked.prog Rows.stepSlicesUptoRow.origin Rows.stepSlicesUptoRow.targs:=of_decide_eq_true (by kernel_rfl)
theorem isW:Tryz.f3.isWrapper Tryz.pinned.checked.prog Rows.stepSlicesUptoRow.wrapper Rows.stepSlicesUptoRow.mainSum:=by
 unfold Func.isWrapper;first|(rw[if_pos (by decide+kernel)];kernel_rfl)|(rw[if_neg (by decide+kernel)];exact⟨rfl,rfl⟩)
theorem apb:Tryz.pinned.checked.prog.funcNamed Rows.stepSlicesUptoRow.func=some 3:=by kernel_rfl
theorem lifted(os:Os)(started:os.Started)(H:Type)(enc:TypeId×Value->H)(F:Stop.Interp):
  ReturnsInHanded {} Tryz.checked os 3 .any ((Rows.OpenSpec.upto Rows.stepSlicesSpec).pre6 enc Tryz.prog Tryz.f3 Rows.stepSlicesUptoRow.domain false) (((Rows.OpenSpec.upto Rows.stepSlicesSpec).at F).post enc Tryz.prog Tryz.f3 false true false false):=by
 refine returnsInHanded_of_cond (C:=Tryz.checked) (s:=(Rows.OpenSpec.upto Rows.stepSlicesSpec)) (k:=Rows.uptoSmall) rfl own started (by kernel_rfl) Tryz.func3
  (OpenSpec.witness (enc:=enc) (C:=Tryz.checked) (s:=(Rows.OpenSpec.upto Rows.stepSlicesSpec)) (k:=Rows.uptoSmall) rfl false ⟨#[],#[.agg #[.slice none 0 0,.int .u16 0,.slice none 0 0,.slice none 0 0,.slice none 0 0],.slice none 0 0,.int .i64 0,.int .i64 0],[]⟩ 8 (by kernel_rfl) (by kernel_rfl) (by kernel_rfl)
   (x:=([.agg [.agg [.nil,.lit (.int .u16 0)],.agg [.nil,.nil],.nil],.nil,.lit (.int .i64 0),.lit (.int .i64 0)],[],[])) (by kernel_rfl) rfl (by kernel_rfl)) ?_
 intro W base args ds gs before Hl hW _ hk _;have hgs:gs=[]:=by
  obtain⟨p,q,_,hV,_⟩:=hW;cases gs with
  |nil=>rfl
  |cons _ _=>simp[DataW.TrodVars,Rows.stepSlicesSpec,Rows.OpenSpec.upto,OpenSpec.ofChange]at hV
 subst hgs;rw[List.append_nil]at hk;exact Uu Fo ao9 (s:=Rows.stepSlicesSpec) rfl (fun H ds hl=>by
  match ds,hl with
  | [a,b,c,d],_=>rfl) apa H Rows.uptoBulk (cX8 H) enc W base args ds [] before Hl hW (cX9 hk)
theorem pZ:Rows.stepSlicesUptoRow.holds Tryz.pinned (Rows.OpenSpec.upto Rows.stepSlicesSpec):=
 OpenClaim.holds_of_cond 3 Tryz.f3 rfl rfl rfl rfl rfl rfl rfl ⟨rfl,rfl,rfl,rfl,rfl⟩ rfl rfl rfl rfl rfl apb Tryz.func3 closed isI isW
  (fun os started H enc _ F=>lifted os started H enc F)
end aeh
theorem stepSlices:Rows.StepSlicesUptoSaid:=aeh.pZ
end Go.Proofs.YtejohpnpnaljdaaGreat
