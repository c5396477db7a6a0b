/- StepLayouts in its second form: for every list of numbers and every two numbers whose bulk is at most 1048576, the law answers true and its input reads as before. -/
import Derived.Test.YtejohpnpnaljdaaGreatM13
import Derived.Test.YtejohpnpnaljdaaGreatM52
set_option linter.all false
set_option maxRecDepth 100000
set_option maxHeartbeats 20000000
namespace Go.Abs.lu
open Go Go.Abs
@[simp] theorem aid(l:List dT):df (l.map dT.e)=l.map dT.e:=jV (fun x=>by simp[dT.bP]) l
@[simp] theorem ahz(l:List Output):df (l.map Output.e)=l.map Output.e:=jV (fun x=>by simp[Output.bP]) l
@[simp] theorem ah9(l:List Entry):df (l.map Entry.e)=l.map Entry.e:=jV (fun x=>by simp[Entry.bP]) l
end Go.Abs.lu
namespace Go.Proofs.YtejohpnpnaljdaaGreat
open Go Go.Abs Go.Abs.lu
@[simp] theorem ag7(a b:List Canon)(hm:a.length<=1000000000):cz X 79 [.sl false (a.map Canon.e),.sl false (b.map Canon.e)]=some (.bool (decide (a=b))):=by
 refine bd Tryz.func79 rfl rfl ?_;simp(maxSteps:=10000000) (maxDischargeDepth:=30) -implicitDefEqProofs[];refine⟨fun h e=>h (by rw[e]),fun hl=> ?_⟩;have hl:a.length=b.length:=by omega
 refine cP (fun i S=>(S.f 0= .sl false (a.map Canon.e)/\S.f 1= .sl false (b.map Canon.e)/\S.f 12= .int .i64 ((a).length:Int)/\S.f 13= .int .i64 (i:Int)/\S.n=1100)/\(a.take i=b.take i)) (a.length) ?_ 0 (by simp) ?_
 ·rintro i S hii ⟨hI0,hP0⟩;have hwi:=cS i (by omega);by_cases afm:i<a.length
  ·have hb:i<b.length:=by omega
   simp(maxSteps:=10000000) (maxDischargeDepth:=30) -implicitDefEqProofs[hI0,hii,hwi,afm,hb];refine⟨fun h e=> ?_,fun e1 e2 e3 e4=>Bd afm hb hP0 ((Canon.eq_iff _ _).2 ⟨e1,e2,e3,e4⟩)⟩;subst e;simp at h
  ·have hei:a.length=i:=by omega
   subst hei;simp(maxSteps:=10000000) (maxDischargeDepth:=30) -implicitDefEqProofs[hI0,hii,hwi,afm]<;>(
    exact yb (i:=a.length) (by simp) hl hP0)
 ·simp(maxSteps:=10000000) (maxDischargeDepth:=30) -implicitDefEqProofs[]
end Go.Proofs.YtejohpnpnaljdaaGreat
namespace Go.Proofs.YtejohpnpnaljdaaGreat
open Go Go.Abs Go.Abs.lu
def afv(x:Canon):Bool:=decide (x.tag=1)&&decide (x.region= -1)
def af1(l:List Canon):Bool:=l.all fun x=> !afv x
def aft(l:List (List Canon)):Bool:=l.all af1
theorem ahr{l:List Canon}{i:Nat}(h:i<l.length):af1 (l.take (i+1))=(af1 (l.take i)&& !afv l[i]):=tz h
theorem ahs{l:List Canon}{i:Nat}(h:i<l.length)(hp:afv l[i]=true):af1 l=false:=r8 h (by simp[hp])
theorem ahg{l:List Canon}:af1 (l.take l.length)=af1 l:=by rw[List.take_length]
theorem ahl{l:List (List Canon)}{i:Nat}(h:i<l.length):aft (l.take (i+1))=(aft (l.take i)&&af1 l[i]):=tz h
theorem ahm{l:List (List Canon)}{i:Nat}(h:i<l.length)(hp:af1 l[i]=false):aft l=false:=r8 h hp
theorem ahf{l:List (List Canon)}:aft (l.take l.length)=aft l:=by rw[List.take_length]
@[simp] theorem afl(bk:List (List Canon))(aQ:List View)(h1:bk.length<=1000000000)(h2:aQ.length<=1000000000)(h3: ∀l∈oK (State.mk bk aQ) aQ.length,l.length<=1000000000):cz X 30 [.agg [.sl false (bk.map ba),.sl false (aQ.map View.e)]]=some (.bool (!aft (oK (State.mk bk aQ) aQ.length))):=by
 refine bd Tryz.func30 rfl rfl ?_;have hln:=CB (State.mk bk aQ) (k:=aQ.length) (Nat.le_refl _);simp only at hln;obtain⟨ls,hls⟩: ∃ls,oK (State.mk bk aQ) aQ.length=ls:=⟨_,rfl⟩;rw[hls]at h3 hln⊢;simp(maxSteps:=10000000) (maxDischargeDepth:=30) -implicitDefEqProofs[h1,h2,hls];refine cP (fun i S=>(S.f 8= .sl false ((ls).map ba)/\S.f 9= .int .i64 ((ls.length:Int))/\S.f 10= .int .i64 (i:Int)/\S.n=1100)/\(aft (ls.take i)=true)) (ls.length) ?_ 0 (by simp) ?_
 ·rintro i S hii ⟨hI0,hP0⟩;have hwi:=cS i (by omega);by_cases afm:i<ls.length
  ·have hlj:=h3 _ (List.getElem_mem afm);simp(maxSteps:=10000000) (maxDischargeDepth:=30) -implicitDefEqProofs[hI0,hii,hwi,afm];refine cP (fun j S=>(S.f 8= .sl false ((ls).map ba)/\S.f 9= .int .i64 ((ls.length:Int))/\S.f 10= .int .i64 (i:Int)/\S.f 14= .sl false ((ls[i]).map Canon.e)/\S.f 15= .int .i64 (((ls[i]).length:Int))/\S.f 16= .int .i64 (j:Int)/\S.n=1100)/\(af1 ((ls[i]).take j)=true)) ((ls[i]).length) ?_ 0 (by simp) ?_
   ·rintro j S jk ⟨hI1,hP1⟩;have hwj:=cS j (by omega);by_cases af5:j<(ls[i]).length
    ·have hup:=ahr af5;rw[hP1]at hup;by_cases c1:((ls[i])[j]).tag=1
     ·by_cases c2:((ls[i])[j]).region= -1
      ·have hw:afv (ls[i])[j]=true:=by unfold afv;simp[c1,c2]
       have hb:=ahm afm (ahs af5 hw);have c1':=eq_true c1;have c2':=eq_true c2;simp(maxSteps:=10000000) (maxDischargeDepth:=30) -implicitDefEqProofs[hii,hwi,afm,hI1,jk,hwj,af5,c1',c2',hb]
      ·have hw:afv (ls[i])[j]=false:=by unfold afv;simp[c2]
       rw[hw]at hup;have c1':=eq_true c1;simp(maxSteps:=10000000) (maxDischargeDepth:=30) -implicitDefEqProofs[hii,hwi,afm,hI1,jk,hwj,af5,c1',c2,hup]
     ·have hw:afv (ls[i])[j]=false:=by unfold afv;simp[c1]
      rw[hw]at hup;simp(maxSteps:=10000000) (maxDischargeDepth:=30) -implicitDefEqProofs[hii,hwi,afm,hI1,jk,hwj,af5,c1,hup]
    ·have hej:(ls[i]).length=j:=by omega
     subst hej;rw[ahg]at hP1;have hup:=ahl afm;rw[hP0,hP1]at hup;simp(maxSteps:=10000000) (maxDischargeDepth:=30) -implicitDefEqProofs[hii,hwi,afm,hI1,jk,hwj,af5,hup,hwi];try omega
   ·simp(maxSteps:=10000000) (maxDischargeDepth:=30) -implicitDefEqProofs[hI0,hii,hwi,afm]<;>(
     rfl)
  ·have hei:ls.length=i:=by omega
   subst hei;simp(maxSteps:=10000000) (maxDischargeDepth:=30) -implicitDefEqProofs[hI0,hii,hwi,afm]<;>(
    rw[ahf]at hP0;simp[hP0])
 ·simp(maxSteps:=10000000) (maxDischargeDepth:=30) -implicitDefEqProofs[]<;>(
   rfl)
end Go.Proofs.YtejohpnpnaljdaaGreat
namespace Go.Proofs.YtejohpnpnaljdaaGreat
open Go Go.Abs Go.Abs.lu
structure ag5 (s:State):Prop where
 regions:s.regions.length<=1000000000
 region: ∀i (h:i<s.regions.length),(s.regions[i]).length<=1000000000
 threads:s.threads.length<=1000000000
 view: ∀i (h:i<s.threads.length),(s.threads[i]).bm.length<=1000000000
@[simp] theorem afx(aff:List (List Canon))(eH:List View)(afg:List (List Canon))(iJ:List View)(h:ag5 (State.mk aff eH)):cz X 33 [.agg [.sl false (aff.map ba),.sl false (eH.map View.e)],.agg [.sl false (afg.map ba),.sl false (iJ.map View.e)]]=some (.bool (decide ((State.mk aff eH)=(State.mk afg iJ)))):=by
 refine bd Tryz.func33 rfl rfl ?_;have h1:aff.length<=1000000000:=h.regions;have h2:=h.region;have h3:eH.length<=1000000000:=h.threads;have h4:=h.view;simp only at h2 h4;have ais:decide ((State.mk aff eH)=(State.mk afg iJ))=(decide (aff=afg)&&decide (eH=iJ)):=by
  rw[<-Bool.decide_and];simp
 rw[ais];clear ais;by_cases e1i:(aff.length:Int)=afg.length
 case neg=>
  have e1: ¬aff=afg:=fun e=>e1i (by rw[e]);simp(maxSteps:=10000000) (maxDischargeDepth:=30) -implicitDefEqProofs[e1i,e1]
 by_cases e2i:(eH.length:Int)=iJ.length
 case neg=>
  have e2: ¬eH=iJ:=fun e=>e2i (by rw[e]);simp(maxSteps:=10000000) (maxDischargeDepth:=30) -implicitDefEqProofs[e1i,e2i,e2]
 have e1:aff.length=afg.length:=by omega
 have e2:eH.length=iJ.length:=by omega
 simp(maxSteps:=10000000) (maxDischargeDepth:=30) -implicitDefEqProofs[e1i,e2i];refine cP (fun i S=>(S.f 2= .ptr 2 0 0/\S.h 2=some ⟨2,[.agg [.sl false (aff.map ba),.sl false (eH.map View.e)]],true⟩/\S.f 3= .ptr 3 0 0/\S.h 3=some ⟨2,[.agg [.sl false (afg.map ba),.sl false (iJ.map View.e)]],true⟩/\S.f 27= .int .i64 ((aff).length:Int)/\S.f 28= .int .i64 (i:Int)/\S.n=1100)/\(aff.take i=afg.take i)) (aff.length) ?_ 0 (by simp) ?_
 ·rintro i S hii ⟨hI0,hP0⟩;have hwi:=cS i (by omega);by_cases afm:i<aff.length
  ·have g1:i<afg.length:=by omega
   have g2:=h2 i afm;by_cases q:aff[i]=afg[i]
   ·have:=Bd afm g1 hP0 q;have g2b:=q▸g2;simp(maxSteps:=10000000) (maxDischargeDepth:=30) -implicitDefEqProofs[hI0,hii,hwi,afm,g1,g2,g2b,q,this]
   ·have: ¬aff=afg:=fun h=>q (by subst h;rfl);simp(maxSteps:=10000000) (maxDischargeDepth:=30) -implicitDefEqProofs[hI0,hii,hwi,afm,g1,g2,q,this]
  ·have hei:aff.length=i:=by omega
   subst hei;have er:aff=afg:=yb (i:=aff.length) (by omega) e1 hP0;simp(maxSteps:=10000000) (maxDischargeDepth:=30) -implicitDefEqProofs[hI0,hii,hwi,afm,er];refine cP (fun j S=>(S.f 3= .ptr 3 0 0/\S.h 3=some ⟨2,[.agg [.sl false (afg.map ba),.sl false (iJ.map View.e)]],true⟩/\S.f 45= .sl false (eH.map View.e)/\S.f 46= .int .i64 ((eH).length:Int)/\S.f 47= .int .i64 (j:Int)/\S.n=1100)/\(eH.take j=iJ.take j)) (eH.length) ?_ 0 (by simp) ?_
   ·rintro j S jk ⟨hI1,hP1⟩;have hwj:=cS j (by omega);by_cases af5:j<eH.length
    ·have g1:j<iJ.length:=by omega
     have g2:=h4 j af5;have ne: ¬eH[j]=iJ[j]-> ¬eH=iJ:=fun q h=>q (by subst h;rfl);rw[View.eq_iff]at ne;by_cases q0:(eH[j]).state=(iJ[j]).state
     case neg=>
      have n:=ne (fun h=>q0 (by simp only[h]));simp(maxSteps:=10000000) (maxDischargeDepth:=30) -implicitDefEqProofs[hii,hwi,afm,hI1,jk,hwj,af5,g1,g2,q0,n]
     by_cases q1:(eH[j]).pc=(iJ[j]).pc
     case neg=>
      have n:=ne (fun h=>q1 (by simp only[h]));simp(maxSteps:=10000000) (maxDischargeDepth:=30) -implicitDefEqProofs[hii,hwi,afm,hI1,jk,hwj,af5,g1,g2,q0,q1,n]
     by_cases q2:(eH[j]).count=(iJ[j]).count
     case neg=>
      have n:=ne (fun h=>q2 (by simp only[h]));simp(maxSteps:=10000000) (maxDischargeDepth:=30) -implicitDefEqProofs[hii,hwi,afm,hI1,jk,hwj,af5,g1,g2,q0,q1,q2,n]
     by_cases q3:(eH[j]).bV=(iJ[j]).bV
     case neg=>
      have n:=ne (fun h=>q3 (by simp only[h]));simp(maxSteps:=10000000) (maxDischargeDepth:=30) -implicitDefEqProofs[hii,hwi,afm,hI1,jk,hwj,af5,g1,g2,q0,q1,q2,q3,n]
     by_cases q4:(eH[j]).saved=(iJ[j]).saved
     case neg=>
      have n:=ne (fun h=>q4 (by simp only[h]));simp(maxSteps:=10000000) (maxDischargeDepth:=30) -implicitDefEqProofs[hii,hwi,afm,hI1,jk,hwj,af5,g1,g2,q0,q1,q2,q3,q4,n]
     by_cases q5:(eH[j]).dd=(iJ[j]).dd
     case neg=>
      have n:=ne (fun h=>q5 (by simp only[h]));simp(maxSteps:=10000000) (maxDischargeDepth:=30) -implicitDefEqProofs[hii,hwi,afm,hI1,jk,hwj,af5,g1,g2,q0,q1,q2,q3,q4,q5,n]
     by_cases q6:(eH[j]).code=(iJ[j]).code
     case neg=>
      have n:=ne (fun h=>q6 (by simp only[h]));simp(maxSteps:=10000000) (maxDischargeDepth:=30) -implicitDefEqProofs[hii,hwi,afm,hI1,jk,hwj,af5,g1,g2,q0,q1,q2,q3,q4,q5,q6,n]
     by_cases qr:(eH[j]).bm=(iJ[j]).bm
     case neg=>
      have n:=ne (fun h=>qr (by simp only[h]));simp(maxSteps:=10000000) (maxDischargeDepth:=30) -implicitDefEqProofs[hii,hwi,afm,hI1,jk,hwj,af5,g1,g2,q0,q1,q2,q3,q4,q5,q6,qr,n]
     have g2b:=qr▸g2;have up:=Bd af5 g1 hP1 ((View.eq_iff _ _).2 (by simp only[q0,q1,q2,q3,q4,q5,q6,qr,and_self]));simp(maxSteps:=10000000) (maxDischargeDepth:=30) -implicitDefEqProofs[hii,hwi,afm,hI1,jk,hwj,af5,g1,g2b,q0,q1,q2,q3,q4,q5,q6,qr,up]
    ·have hej:eH.length=j:=by omega
     subst hej;simp(maxSteps:=10000000) (maxDischargeDepth:=30) -implicitDefEqProofs[hii,hwi,afm,hI1,jk,hwj,af5]<;>(
      have et:eH=iJ:=yb (i:=eH.length) (by omega) e2 hP1;simp[et])
   ·simp(maxSteps:=10000000) (maxDischargeDepth:=30) -implicitDefEqProofs[hI0,hii,hwi,afm]<;>(
     first|rfl|exact⟨by omega,rfl⟩|omega)
 ·simp(maxSteps:=10000000) (maxDischargeDepth:=30) -implicitDefEqProofs[]<;>(
   first|rfl|exact⟨by omega,rfl⟩|omega)
end Go.Proofs.YtejohpnpnaljdaaGreat
namespace Go.Proofs.YtejohpnpnaljdaaGreat
open Go Go.Abs Go.Abs.lu
theorem afy{p:Prog}{c:Int}{m:bf}(H:cR p c m){t:Nat}(ht:t<4){n:Int}(hn:1<=n):cR p (c+n) (dm p m t n).1:=by
 by_cases hs:(cg m t).state=1
 ·exact(sG H ht hn hs).yq
 ·have e0:m.threads.getD t da=cg m t:=rfl;unfold dm;rw[e0,if_neg hs];exact H.mono (by omega)
end Go.Proofs.YtejohpnpnaljdaaGreat
namespace Go.Proofs.YtejohpnpnaljdaaGreat
open Go Go.Abs Go.Abs.lu
theorem Zh.dy{k n:Nat}{s:State}{v:V}{h:aY}(H:Zh k n s v h)(h1:0<s.regions.length)(h2:0<s.threads.length)(d:Nat):bT h (d+6) v=some (.agg [.sl false (s.regions.map ba),.sl false (s.threads.map View.e)]):=by
 obtain⟨R,T,ri,vi,rfl,Q⟩:=H.R h1 h2;have l1:(ig ri s.regions).length=s.regions.length:=by simp[ig]
 have l2:(iv vi s.threads).length=s.threads.length:=by simp[iv]
 have t1:(ig ri s.regions).take s.regions.length=ig ri s.regions:=bn (by omega);have t2:(iv vi s.threads).take s.threads.length=iv vi s.threads:=bn (by omega);have e1:cn ((ig ri s.regions).map (bT h (d+4)))=some (s.regions.map ba):=by
  refine lj _ _ fun i hi=> ?_;have:=Q.rat i hi;simp[bT,cn,this,qy]
 have e2:cn ((iv vi s.threads).map (bT h (d+4)))=some (s.threads.map View.e):=by
  refine lj _ _ fun i hi=> ?_;have:=Q.vat i hi;simp[oL,bT,cn,this,View.bP]
 simp[bT,cn,Q.row,Q.vow,l1,l2,t1,t2,e1,e2]
theorem afw{p:Prog}{d:Int}{m:bf}(HG:cR p d m):ag5 (px p m)/\0<(px p m).regions.length/\0<(px p m).threads.length:=by
 have hz:=HG.lay.sz;have h4:=HG.len;refine⟨⟨by simp[px,iX];have:=hz.le;omega,fun i hi=> ?_,by simp[px,mI];omega,fun i hi=> ?_⟩,by simp[px,iX];have:=hz.pos;omega,by simp[px,mI];omega⟩
 ·simp only[px,iX,List.length_map,List.length_range]at hi;have:=hz.elem i hi;simp only[px,iX,List.getElem_map,List.getElem_range,rN,sI];rw[cZ hi];omega
 ·simp only[px,mI,List.length_map]at hi;have:=(HG.nv i hi).bm;simp only[px,mI,List.getElem_map,yD,List.length_map];omega
@[simp] theorem agx(ay:List Instr)(ah:List Int)(az:List (List Int))(aa:List Int)(aw:Int)(aq:List Cell)(an:List cx)(ax:List Thread)(d:Int)(HG:cR (Prog.mk ay ah az) d (bf.mk (aN.mk aa aw) (aK.mk aq an) ax)):cz X 29 [.agg [.sl false (ay.map Instr.e),.sl false (ah.map (V.int .i64)),.sl false (az.map aS)],.agg [.sl false (aa.map (V.int .i64)),.int .u16 aw,.sl false (aq.map Cell.e),.sl false (an.map cx.e),.sl false (ax.map Thread.e)]]=some (.agg [.sl false ((px (Prog.mk ay ah az) (bf.mk (aN.mk aa aw) (aK.mk aq an) ax)).regions.map ba),.sl false ((px (Prog.mk ay ah az) (bf.mk (aN.mk aa aw) (aK.mk aq an) ax)).threads.map View.e)]):=by
 obtain⟨v,h',k',e,H⟩:=Zi ay ah az aa aw aq an ax 0 d HG;have hl:=afw HG;unfold Go.Abs.cz;have e':=e;unfold m8 at e';rw[e'];have hi:=H.dy hl.2.1 hl.2.2 (depth-6);rw[show depth-6+6=depth from rfl]at hi;simp only[hi,Option.map_some,V.jm,df];simp
end Go.Proofs.YtejohpnpnaljdaaGreat
namespace Go.Proofs.YtejohpnpnaljdaaGreat
open Go Go.Abs Go.Abs.lu
theorem afu(n:Int):IntKind.u16.wrap n=n % 65536:=by
 simp only[IntKind.wrap,IntKind.signed,IntKind.bits,Bool.false_and];simp
def CrP(A:List Int)(ab7:Int)(B:List Int)(ab9:Int)(sz:List Int)(c c':Cell):Prop:=
 (c.tag=0/\c'.tag=0/\c.val=c'.val)\/(c.tag=2/\c'.tag=2/\IntKind.u16.wrap (c.val-ab7)=IntKind.u16.wrap (c'.val-ab9))\/
 (c.tag=1/\c'.tag=1/\ ∃k:Nat,∃o:Int,k<sz.length/\resolve A sz c.val=(⟨(k:Int),o⟩,true)/\resolve B sz c'.val=(⟨(k:Int),o⟩,true))
section
variable {A:List Int} {ab7:Int} {B:List Int} {ab9:Int} {sz:List Int}
theorem afz{aD ae:List Int}{a:Int}{k:Nat}{o:Int}(h:resolve aD ae a=(⟨(k:Int),o⟩,true)): ∃(h1:k<aD.length) (h2:k<ae.length),a=aD[k]+o/\0<=o/\o<ae[k]:=by
 obtain⟨j,hj,hj',e,b1,b2⟩:=jB (aD:=aD) (ae:=ae) (a:=a) (by rw[h]);rw[h]at e;simp only[AT.mk.injEq]at e;have ej:j=k:=by omega
 subst ej;exact⟨hj,hj',by omega,by omega,by omega⟩
theorem CrP.canon{c c':Cell}(h:CrP A ab7 B ab9 sz c c'):canon A ab7 sz c=Go.Proofs.YtejohpnpnaljdaaGreat.canon B ab9 sz c'/\afv (Go.Proofs.YtejohpnpnaljdaaGreat.canon A ab7 sz c)=false:=by
 unfold Go.Proofs.YtejohpnpnaljdaaGreat.canon;rcases h with⟨t,t',e⟩|⟨t,t',e⟩|⟨t,t',k,o,hk,r,r'⟩
 ·rw[if_pos t,if_pos t',e];exact⟨rfl,rfl⟩
 ·have n1: ¬c.tag=0:=by omega
  have n2: ¬c'.tag=0:=by omega
  rw[if_neg n1,if_neg n2,if_pos t,if_pos t',e];exact⟨rfl,rfl⟩
 ·have n1: ¬c.tag=0:=by omega
  have n2: ¬c'.tag=0:=by omega
  have n3: ¬c.tag=2:=by omega
  have n4: ¬c'.tag=2:=by omega
  rw[if_neg n1,if_neg n2,if_neg n3,if_neg n4,r,r'];simp only[if_true];refine⟨trivial,?_⟩;unfold afv;have: ¬((k:Int)= -1):=by omega
  simp[this]
theorem CrP.tag{c c':Cell}(h:CrP A ab7 B ab9 sz c c'):c.tag=c'.tag:=by
 rcases h with⟨t,t',e⟩|⟨t,t',e⟩|⟨t,t',_⟩<;>omega
theorem CrP.num(v:Int):CrP A ab7 B ab9 sz ⟨0,v⟩ ⟨0,v⟩:= .inl ⟨rfl,rfl,rfl⟩
theorem CrP.val{c c':Cell}(h:CrP A ab7 B ab9 sz c c')(t:c.tag=0):c.val=c'.val:=by
 rcases h with⟨_,_,e⟩|⟨t',_⟩|⟨t',_⟩
 ·exact e
 ·omega
 ·omega
theorem CrP.ptr(hA:nr A sz)(hB:nr B sz){k:Nat}(hk:k<sz.length){o:Int}(h0:0<=o)(h1:o<sz[k]):CrP A ab7 B ab9 sz ⟨1,nth A k+o⟩ ⟨1,nth B k+o⟩:=by
 have a1:k<A.length:=by rw[hA.len];exact hk
 have b1:k<B.length:=by rw[hB.len];exact hk
 exact .inr (.inr ⟨rfl,rfl,k,o,hk,by rw[cZ a1];exact abt hA a1 hk h0 h1,by rw[cZ b1];exact abt hB b1 hk h0 h1⟩)
def aie(A:List Int)(ab7:Int)(B:List Int)(ab9:Int)(sz:List Int)(r r':Cell×Int):Prop:=r.2=r'.2/\(r.2=0->CrP A ab7 B ab9 sz r.1 r'.1)
theorem aie.same(r:Cell×Int)(h:r.1.tag=0):aie A ab7 B ab9 sz r r:=⟨rfl,fun _=>by
 obtain⟨⟨t,v⟩,w⟩:=r;simp only at h;subst h;exact .num v⟩
theorem agq(hA:nr A sz)(hB:nr B sz){p p':Cell}(h:CrP A ab7 B ab9 sz p p')(n:Int)(back:Bool):aie A ab7 B ab9 sz (jb A sz p n back) (jb B sz p' n back):=by
 have ht:=h.tag;by_cases t:p.tag=1
 case neg=>rw[uQ t,uQ (by omega)];exact .same _ rfl
 rcases h with⟨t',_⟩|⟨t',_⟩|⟨_,t',k,o,hk,r,r'⟩
 ·omega
 ·omega
 ·unfold jb;rw[if_pos t,if_pos t',r,r'];simp only[if_true];by_cases hi:inside sz (k:Int) (if back=true then o-n else o+n)=true
  ·rw[if_pos hi,if_pos hi];refine⟨rfl,fun _=> ?_⟩;obtain⟨j,hj,ej,b1,b2⟩:=kQ.1 hi;have e:j=k:=by omega
   subst e;rw[Int.toNat_natCast];exact .ptr hA hB hk b1 b2
  ·rw[if_neg hi,if_neg hi];exact .same _ rfl
theorem ah0{b b' c c':Cell}(hb:CrP A ab7 B ab9 sz b b')(hc:CrP A ab7 B ab9 sz c c')(tb:b.tag=1)(acf:c.tag=1):mA A sz b c=mA B sz b' c':=by
 rcases hb with⟨t',_⟩|⟨t',_⟩|⟨_,_,k,o,hk,r,r'⟩
 ·omega
 ·omega
 rcases hc with⟨t',_⟩|⟨t',_⟩|⟨_,_,k2,o2,wy,r2,r2'⟩
 ·omega
 ·omega
 unfold mA;rw[r,r',r2,r2']
theorem aiw{b b' c c':Cell}(acg:hY b)(Pb':hY b')(Pc:hY c)(Pc':hY c')(hb:CrP A ab7 B ab9 sz b b')(hc:CrP A ab7 B ab9 sz c c'):(b.tag=c.tag/\b.val=c.val)↔(b'.tag=c'.tag/\b'.val=c'.val):=by
 have q1:=acg.2;have q2:=Pb'.2;have q3:=Pc.2;have q4:=Pc'.2;rcases hb with⟨t,t',e⟩|⟨t,t',e⟩|⟨t,t',k,o,hk,r,r'⟩<;>rcases hc with⟨s,s',f⟩|⟨s,s',f⟩|⟨s,s',k2,o2,wy,r2,r2'⟩<;>rw[t,t',s,s']
 ·rw[e,f]
 ·simp
 ·simp
 ·simp
 ·rw[afu,afu]at e f;constructor<;>(rintro⟨_,h⟩;refine⟨rfl,?_⟩;omega)
 ·simp
 ·simp
 ·simp
 ·obtain⟨a1,a2,v1,v2,v3⟩:=afz r;obtain⟨a1',a2',v1',v2',v3'⟩:=afz r';obtain⟨c1,c2,w1,w2,w3⟩:=afz r2;obtain⟨c1',c2',w1',w2',w3'⟩:=afz r2';constructor
  ·rintro⟨_,h⟩;rw[h]at r;rw[r]at r2;simp only[aF,AT.mk.injEq,and_true]at r2;have e1:k=k2:=by omega
   have e2:o=o2:=by omega
   subst e1;subst e2;exact⟨rfl,by rw[v1',w1']⟩
  ·rintro⟨_,h⟩;rw[h]at r';rw[r']at r2';simp only[aF,AT.mk.injEq,and_true]at r2';have e1:k=k2:=by omega
   have e2:o=o2:=by omega
   subst e1;subst e2;exact⟨rfl,by rw[v1,w1]⟩
theorem aht(op b c:Int):(xe op b c).1.tag=0:=by
 unfold xe;repeat' split
 all_goals rfl
theorem aix(hA:nr A sz)(hB:nr B sz)(op:Int){b b' c c':Cell}(acg:hY b)(Pb':hY b')(Pc:hY c)(Pc':hY c')(hb:CrP A ab7 B ab9 sz b b')(hc:CrP A ab7 B ab9 sz c c'):aie A ab7 B ab9 sz (n7 A sz op b c) (n7 B sz op b' c'):=by
 have tb:=hb.tag;have acf:=hc.tag;unfold n7;by_cases h0:op<3\/14<op
 ·rw[if_pos h0,if_pos h0];exact .same _ rfl
 rw[if_neg h0,if_neg h0];by_cases h14:op=14
 ·rw[if_pos h14,if_pos h14];have e:=aiw acg Pb' Pc Pc' hb hc;by_cases h:b.tag=c.tag/\b.val=c.val
  ·rw[if_pos h,if_pos (e.1 h)];exact .same _ rfl
  ·rw[if_neg h,if_neg (fun g=>h (e.2 g))];exact .same _ rfl
 rw[if_neg h14,if_neg h14,<-tb,<-acf];by_cases h1:b.tag=0/\c.tag=0
 ·rw[if_pos h1,if_pos h1,<-hb.val h1.1,<-hc.val h1.2];exact .same _ (aht ..)
 rw[if_neg h1,if_neg h1];by_cases h2:op=3/\b.tag=1/\c.tag=0
 ·rw[if_pos h2,if_pos h2,<-hc.val h2.2.2];exact agq hA hB hb _ _
 rw[if_neg h2,if_neg h2];by_cases h3:op=3/\b.tag=0/\c.tag=1
 ·rw[if_pos h3,if_pos h3,<-hb.val h3.2.1];exact agq hA hB hc _ _
 rw[if_neg h3,if_neg h3];by_cases h4:op=4/\b.tag=1/\c.tag=0
 ·rw[if_pos h4,if_pos h4,<-hc.val h4.2.2];exact agq hA hB hb _ _
 rw[if_neg h4,if_neg h4];by_cases h5:(op=4\/op=13)/\b.tag=1/\c.tag=1
 ·rw[if_pos h5,if_pos h5,<-ah0 hb hc h5.2.1 h5.2.2];cases mA A sz b c with
  |none=>exact .same _ rfl
  |some n=>
   simp only;split
   ·split
    ·exact .same _ rfl
    ·exact .same _ rfl
   ·exact .same _ rfl
 ·rw[if_neg h5,if_neg h5];exact .same _ rfl
end
end Go.Proofs.YtejohpnpnaljdaaGreat
namespace Go.Proofs.YtejohpnpnaljdaaGreat
open Go Go.Abs Go.Abs.lu
structure TrR (A:List Int) (ab7:Int) (B:List Int) (ab9:Int) (sz:List Int) (x x':Thread):Prop where
 state:x.state=x'.state
 pc:x.pc=x'.pc
 count:x.count=x'.count
 bV:x.bV=x'.bV
 saved:x.saved=x'.saved
 dd:x.dd=x'.dd
 code:x.code=x'.code
 len:x.bm.length=x'.bm.length
 bm: ∀i,CrP A ab7 B ab9 sz (x.bm.getD i ⟨0,0⟩) (x'.bm.getD i ⟨0,0⟩)
def MrP(A:List Int)(ab7:Int)(B:List Int)(ab9:Int)(sz:List Int)(m m':aK):Prop:= ∀k,k<sz.length-> ∀o:Int,0<=o->o<nth sz k->CrP A ab7 B ab9 sz (look m (nth A k+o).toNat) (look m' (nth B k+o).toNat)
abbrev aif(m:aK):Prop:=d7 (fun _=>False) m
structure acm (ab7 ab9:Int) (sz:List Int) (A B:List Int) (a b:bf):Prop where
 aih:a.layout=⟨A,ab7⟩
 aii:b.layout=⟨B,ab9⟩
 mem:MrP A ab7 B ab9 sz a.memory b.memory
 ca:aif a.memory
 cb:aif b.memory
 nv: ∀t,TrR A ab7 B ab9 sz (cg a t) (cg b t)
structure InR (A:List Int) (ab7:Int) (B:List Int) (ab9:Int) (sz:List Int) (r r':aK×Thread×Int):Prop where
 stop:r.2.2=r'.2.2
 nv:TrR A ab7 B ab9 sz r.2.1 r'.2.1
 mem:MrP A ab7 B ab9 sz r.1 r'.1
 ca:aif r.1
 cb:aif r'.1
section
variable {A:List Int} {ab7:Int} {B:List Int} {ab9:Int} {sz:List Int} {x x':Thread}
theorem agd(l:List Cell)(a i:Nat)(c:Cell):(l.set a c).getD i ⟨0,0⟩=if a=i/\a<l.length then c else l.getD i ⟨0,0⟩:=by
 simp only[List.getD_eq_getElem?_getD,List.getElem?_set];by_cases h:a=i
 ·subst h;by_cases g:a<l.length
  ·simp[g]
  ·simp[g]
 ·simp[h]
theorem TrR.set(h:TrR A ab7 B ab9 sz x x'){c c':Cell}(hc:CrP A ab7 B ab9 sz c c')(a:Int):(Co x a c).length=(Co x' a c').length/\ ∀i,CrP A ab7 B ab9 sz ((Co x a c).getD i ⟨0,0⟩) ((Co x' a c').getD i ⟨0,0⟩):=by
 unfold Co;refine⟨by simp[h.len],fun i=> ?_⟩;rw[agd,agd,h.len];split
 ·exact hc
 ·exact h.bm i
theorem TrR.dG(h:TrR A ab7 B ab9 sz x x'):x.bm.length=x'.bm.length/\ ∀i,CrP A ab7 B ab9 sz (x.bm.getD i ⟨0,0⟩) (x'.bm.getD i ⟨0,0⟩):=⟨h.len,h.bm⟩
theorem TrR.go(h:TrR A ab7 B ab9 sz x x'){r r':List Cell}(hr:r.length=r'.length/\ ∀i,CrP A ab7 B ab9 sz (r.getD i ⟨0,0⟩) (r'.getD i ⟨0,0⟩)):TrR A ab7 B ab9 sz (si x (x.pc+1) r) (si x' (x'.pc+1) r'):=
 ⟨h.state,by simp only[si];rw[h.pc],h.count,h.bV,h.saved,h.dd,h.code,hr.1,hr.2⟩
theorem TrR.jump(h:TrR A ab7 B ab9 sz x x'){pc pc':Int}(hp:pc=pc'){r r':List Cell}(hr:r.length=r'.length/\ ∀i,CrP A ab7 B ab9 sz (r.getD i ⟨0,0⟩) (r'.getD i ⟨0,0⟩)){s s':Int}(hs:s=s'):TrR A ab7 B ab9 sz (kK x pc r s) (kK x' pc' r' s'):=
 ⟨h.state,hp,by simp only[kK];rw[h.count],h.bV,hs,h.dd,h.code,hr.1,hr.2⟩
theorem TrR.gd(h:TrR A ab7 B ab9 sz x x'){w w':Int}(hw:w=w'):TrR A ab7 B ab9 sz (gd x w) (Go.Proofs.YtejohpnpnaljdaaGreat.gd x' w'):=
 ⟨rfl,h.pc,h.count,h.bV,h.saved,hw,rfl,h.len,h.bm⟩
theorem TrR.rL(h:TrR A ab7 B ab9 sz x x'):TrR A ab7 B ab9 sz (rL x) (Go.Proofs.YtejohpnpnaljdaaGreat.rL x'):=
 ⟨rfl,by simp only[Go.Proofs.YtejohpnpnaljdaaGreat.rL];rw[h.pc],h.count,h.bV,h.saved,h.dd,h.code,h.len,h.bm⟩
theorem TrR.Ez(h:TrR A ab7 B ab9 sz x x')(a:Int):CrP A ab7 B ab9 sz (iR x a) (iR x' a):=h.bm _
theorem ahw{aD:List Int}(hL:nr aD sz){k k2:Nat}(hk:k<sz.length)(wy:k2<sz.length){o o2:Int}(h0:0<=o)(h1:o<nth sz k)(g0:0<=o2)(g1:o2<nth sz k2)(h:nth aD k+o=nth aD k2+o2):k=k2/\o=o2:=by
 have a1:k<aD.length:=by rw[hL.len];exact hk
 have b1:k2<aD.length:=by rw[hL.len];exact wy
 rw[cZ hk]at h1;rw[cZ wy]at g1;rw[cZ a1,cZ b1]at h;have r1:=abt hL a1 hk h0 h1;have r2:=abt hL b1 wy g0 g1;rw[h,r2]at r1;simp only[aF,AT.mk.injEq,and_true]at r1;omega
theorem ahu{aD:List Int}(hL:nr aD sz){k:Nat}(hk:k<sz.length){o:Int}(h0:0<=o)(h1:o<nth sz k):0<=nth aD k+o/\nth aD k+o<512:=by
 have a1:k<aD.length:=by rw[hL.len];exact hk
 have:=hL.base k a1 hk;rw[cZ hk]at h1;rw[cZ a1];omega
theorem agf{aD:List Int}(hL:nr aD sz){c:Cell}{k:Nat}{o:Int}(hk:k<sz.length)(hr:resolve aD sz c.val=(⟨(k:Int),o⟩,true)):c.val=nth aD k+o/\0<=o/\o<nth sz k:=by
 obtain⟨h1,h2,v1,v2,v3⟩:=afz hr;rw[cZ h1,cZ h2];exact⟨v1,v2,v3⟩
theorem aij(hA:nr A sz)(hB:nr B sz){p:Prog}(qE:p.ae=sz){d:Int}{a b:bf}(R:acm ab7 ab9 sz A B a b)(GA:cR p d a)(acq:cR p d b)(h:TrR A ab7 B ab9 sz x x')(gx:dF d x)(gx':dF d x'){i:Instr}(hi:Cm p.code.length p.ae.length i):InR A ab7 B ab9 sz (fR p a x i) (fR p b x' i):=by
 have la:a.layout.aD=A:=by rw[R.aih]
 have acv:b.layout.aD=B:=by rw[R.aii]
 have Fk:=h.Ez i.a;have hrb:=h.Ez i.b;have hrc:=h.Ez i.c;have afk: ∀{t t':Thread} {s:Int},TrR A ab7 B ab9 sz t t'->InR A ab7 B ab9 sz (a.memory,t,s) (b.memory,t',s):=fun ht=>⟨rfl,ht,R.mem,R.ca,R.cb⟩;unfold fR;rw[la,acv,qE];by_cases QY:i.op=23
 ·rw[if_pos QY,if_pos QY];exact afk h.rL
 rw[if_neg QY,if_neg QY];by_cases h0:i.op=0
 ·rw[if_pos h0,if_pos h0];exact afk (h.go h.dG)
 rw[if_neg h0,if_neg h0];by_cases h1:i.op=1
 ·rw[if_pos h1,if_pos h1];exact afk (h.go (h.set (.num _) _))
 rw[if_neg h1,if_neg h1];by_cases h2:i.op=2
 ·rw[if_pos h2,if_pos h2];exact afk (h.go (h.set hrb _))
 rw[if_neg h2,if_neg h2];by_cases h15:i.op=15
 ·rw[if_pos h15,if_pos h15];have hl:=hi.lea h15;rw[qE]at hl;have hk:i.dy.toNat<sz.length:=by have:=hi.dy;omega
  have e:=CrP.ptr (ab7:=ab7) (ab9:=ab9) hA hB hk (o:=0) (by omega) (by have:=(hA.sz.elem _ hk).1;omega);simp only[Int.add_zero]at e;exact afk (h.go (h.set e _))
 rw[if_neg h15,if_neg h15];by_cases h16:i.op=16
 ·rw[if_pos h16,if_pos h16];have mv:=agq hA hB hrb i.dy false;have o1:=qV hA (p:=iR x i.b) (n:=i.dy) (back:=false);have o2:=qV hB (p:=iR x' i.b) (n:=i.dy) (back:=false);obtain⟨⟨c,w⟩,e1⟩: ∃r,jb A sz (iR x i.b) i.dy false=r:=⟨_,rfl⟩;obtain⟨⟨c',w'⟩,e2⟩: ∃r,jb B sz (iR x' i.b) i.dy false=r:=⟨_,rfl⟩;rw[e1]at mv o1⊢;rw[e2]at mv o2⊢;obtain⟨ew,hc⟩:=mv;simp only at ew hc o1 o2⊢;subst ew;by_cases hw:w=0
  ·rw[if_pos hw,if_pos hw];obtain⟨acw,rfl,ha⟩:=o1 hw;obtain⟨acx,rfl,hb⟩:=o2 hw;simp only[Int.toNat_natCast];rcases hc hw with⟨t,_⟩|⟨t,_⟩|⟨_,_,k,o,hk,r,r'⟩
   ·cases t
   ·cases t
   obtain⟨u1,u2,u3⟩:=agf hA hk r;obtain⟨v1,v2,v3⟩:=agf hB hk r';simp only at u1 v1;have ml:=R.mem k hk o u2 u3;rw[<-u1,<-v1,Int.toNat_natCast,Int.toNat_natCast,<-t9 GA.mem.mem R.ca ha,<-t9 acq.mem.mem R.cb hb]at ml;refine⟨rfl,h.go (h.set ml _),fun k2 wy o2 g0 g1=> ?_,aaa GA.mem.mem R.ca ha,aaa acq.mem.mem R.cb hb⟩;simp only;rw[t6 GA.mem.mem R.ca ha,t6 acq.mem.mem R.cb hb];exact R.mem k2 wy o2 g0 g1
  ·rw[if_neg hw,if_neg hw];exact afk (h.gd rfl)
 rw[if_neg h16,if_neg h16];by_cases h17:i.op=17
 ·rw[if_pos h17,if_pos h17];have mv:=agq hA hB Fk i.dy false;have o1:=qV hA (p:=iR x i.a) (n:=i.dy) (back:=false);have o2:=qV hB (p:=iR x' i.a) (n:=i.dy) (back:=false);obtain⟨⟨c,w⟩,e1⟩: ∃r,jb A sz (iR x i.a) i.dy false=r:=⟨_,rfl⟩;obtain⟨⟨c',w'⟩,e2⟩: ∃r,jb B sz (iR x' i.a) i.dy false=r:=⟨_,rfl⟩;rw[e1]at mv o1⊢;rw[e2]at mv o2⊢;obtain⟨ew,hc⟩:=mv;simp only at ew hc o1 o2⊢;subst ew;by_cases hw:w=0
  ·rw[if_pos hw,if_pos hw];obtain⟨acw,rfl,ha⟩:=o1 hw;obtain⟨acx,rfl,hb⟩:=o2 hw;simp only[Int.toNat_natCast];rcases hc hw with⟨t,_⟩|⟨t,_⟩|⟨_,_,k,o,hk,r,r'⟩
   ·cases t
   ·cases t
   obtain⟨u1,u2,u3⟩:=agf hA hk r;obtain⟨v1,v2,v3⟩:=agf hB hk r';simp only at u1 v1;refine⟨rfl,h.go h.dG,fun k2 wy o2 g0 g1=> ?_,aad GA.mem.mem R.ca ha (fun e=>e) _,aad acq.mem.mem R.cb hb (fun e=>e) _⟩;simp only;rw[aac GA.mem.mem R.ca ha,aac acq.mem.mem R.cb hb];have i1:=ahu hA wy g0 g1;have i2:=ahu hB wy g0 g1;by_cases e:k2=k/\o2=o
   ·obtain⟨rfl,rfl⟩:=e;rw[if_pos (by omega),if_pos (by omega)];exact hrb
   ·rw[if_neg (fun q=>e (ahw hA wy hk g0 g1 u2 u3 (by omega))),if_neg (fun q=>e (ahw hB wy hk g0 g1 v2 v3 (by omega)))];exact R.mem k2 wy o2 g0 g1
  ·rw[if_neg hw,if_neg hw];exact afk (h.gd rfl)
 rw[if_neg h17,if_neg h17];by_cases h18:i.op=18
 ·rw[if_pos h18,if_pos h18];exact afk (h.jump rfl h.dG h.saved)
 rw[if_neg h18,if_neg h18];by_cases h19:i.op=19
 ·rw[if_pos h19,if_pos h19,<-Fk.tag];split
  ·rename_i t;rw[<-Fk.val t,<-h.pc];exact afk (h.jump rfl h.dG h.saved)
  ·exact afk (h.gd rfl)
 rw[if_neg h19,if_neg h19];by_cases h20:i.op=20
 ·rw[if_pos h20,if_pos h20,<-Fk.tag];split
  ·rename_i t;rw[<-Fk.val t,<-h.pc];exact afk (h.jump rfl h.dG h.saved)
  ·exact afk (h.gd rfl)
 rw[if_neg h20,if_neg h20];by_cases h21:i.op=21
 ·rw[if_pos h21,if_pos h21,<-h.pc];exact afk (h.jump rfl (h.set (.num _) _) h.saved)
 rw[if_neg h21,if_neg h21];by_cases h22:i.op=22
 ·rw[if_pos h22,if_pos h22,<-Fk.tag];split
  ·rename_i t;rw[<-Fk.val t];split
   ·exact afk (h.gd rfl)
   ·exact afk (h.jump rfl h.dG h.saved)
  ·exact afk (h.gd rfl)
 rw[if_neg h22,if_neg h22];by_cases h24:i.op=24
 ·rw[if_pos h24,if_pos h24,<-h.saved];split
  ·exact afk (h.gd rfl)
  ·exact afk (h.jump rfl h.dG rfl)
 rw[if_neg h24,if_neg h24];have acz:=aix hA hB i.op (iH gx i.b) (iH gx' i.b) (iH gx i.c) (iH gx' i.c) hrb hrc;rw[<-acz.1];split
 ·rename_i hw;exact afk (h.go (h.set (acz.2 hw) _))
 ·exact afk (h.gd rfl)
theorem aia(hA:nr A sz)(hB:nr B sz){p:Prog}(qE:p.ae=sz){d:Int}{a b:bf}(R:acm ab7 ab9 sz A B a b)(GA:cR p d a)(acq:cR p d b)(h:TrR A ab7 B ab9 sz x x')(gx:dF d x)(gx':dF d x'):InR A ab7 B ab9 sz (mB p a x) (mB p b x'):=by
 unfold mB;rw[<-h.pc];split
 ·rename_i hp;have hk:x.pc.toNat<p.code.length:=by have:=gx.pc;omega
  have e:p.code.getD x.pc.toNat nU=p.code[x.pc.toNat]:=by simp[List.getD,hk]
  rw[e];exact aij hA hB qE R GA acq h gx gx' (GA.prog.zy hk)
 ·exact⟨rfl,h.gd rfl,R.mem,R.ca,R.cb⟩
theorem aik(hA:nr A sz)(hB:nr B sz){p:Prog}(qE:p.ae=sz){d:Int}{a b:bf}(R:acm ab7 ab9 sz A B a b)(GA:cR p d a)(acq:cR p d b){t:Nat}(ht:t<4):(hZ p a t).2=(hZ p b t).2/\acm ab7 ab9 sz A B (hZ p a t).1 (hZ p b t).1:=by
 have S:=aia hA hB qE R GA acq (R.nv t) (GA.cg ht) (acq.cg ht);rw[tD,tD];refine⟨S.stop,⟨R.aih,R.aii,S.mem,S.ca,S.cb,fun u=> ?_⟩⟩;have la:t<a.threads.length:=by rw[GA.len];exact ht
 have acv:t<b.threads.length:=by rw[acq.len];exact ht
 unfold cg kq;simp only[List.getD_eq_getElem?_getD,List.getElem?_set];by_cases e:t=u
 ·subst e;simp only[la,acv,if_true,Option.getD_some];exact S.nv
 ·simp only[e,if_false];have:=R.nv u;unfold cg at this;simpa only[List.getD_eq_getElem?_getD] using this
theorem ait(hA:nr A sz)(hB:nr B sz){p:Prog}(qE:p.ae=sz){t:Nat}(ht:t<4){u d:Int}(hud:u<=d): ∀(f:Nat) (a b:bf),acm ab7 ab9 sz A B a b->cR p d a->cR p d b->(cg a t).count<u->(dI p t u f a).2=(dI p t u f b).2/\acm ab7 ab9 sz A B (dI p t u f a).1 (dI p t u f b).1
 |0,a,b,R,_,_,_=>⟨rfl,R⟩
 |f+1,a,b,R,GA,acq,hc=>by
  obtain⟨e,R1⟩:=aik hA hB qE R GA acq ht;have hcb:(cg b t).count<u:=by rw[<-(R.nv t).count];exact hc
  have ga:=yp GA ht (by omega);have gb:=yp acq ht (by omega);by_cases ho:(hZ p a t).2= -1
  case neg=>
   rw[Gp ho,Gp (by rw[<-e];exact ho)];exact⟨e,R1⟩
  have ho':(hZ p b t).2= -1:=by rw[<-e];exact ho
  have ec:=(R1.nv t).count;by_cases hu:(cg (hZ p a t).1 t).count=u
  ·rw[Wg ho hu,Wg ho' (by rw[<-ec];exact hu)];exact⟨rfl,R1⟩
  ·rw[C2 ho hu,C2 ho' (by rw[<-ec];exact hu)];have g:=(uU GA (GA.cg ht)).YG (by rw[tD]at ho;exact ho);have ht2:=yo GA ht;exact ait hA hB qE ht hud f _ _ R1 ga gb (by rw[ht2]at hu⊢;omega)
theorem ahn(hA:nr A sz)(hB:nr B sz){p:Prog}(qE:p.ae=sz){t:Nat}(ht:t<4){d:Int}{a b:bf}(R:acm ab7 ab9 sz A B a b)(GA:cR p d a)(acq:cR p d b){n:Int}(hn:1<=n):(dm p a t n).2=(dm p b t n).2/\acm ab7 ab9 sz A B (dm p a t n).1 (dm p b t n).1:=by
 have hs:=(R.nv t).state;have hc:=(R.nv t).count;have e0:a.threads.getD t da=cg a t:=rfl;have e1:b.threads.getD t da=cg b t:=rfl;unfold dm;rw[e0,e1,<-hs,<-hc];split
 ·have:=(GA.cg ht).count;exact ait hA hB qE ht (u:=(cg a t).count+n) (d:=d+n) (by omega) 20000 a b R (GA.mono (by omega)) (acq.mono (by omega)) (by omega)
 ·exact⟨rfl,R⟩
theorem ah1(hA:nr A sz)(hB:nr B sz){p:Prog}(qE:p.ae=sz){d:Int}{a b:bf}(R:acm ab7 ab9 sz A B a b)(GA:cR p d a)(acq:cR p d b):px p a=px p b:=by
 unfold px;rw[qE,R.aih,R.aii];simp only[State.mk.injEq];constructor
 ·unfold iX;refine List.map_congr_left fun r hr=> ?_;have hk:r<sz.length:=List.mem_range.1 hr;unfold rN mg;refine List.map_congr_left fun j hj=> ?_;have hj':=List.mem_range.1 hj;have zz:=hA.sz.elem r hk;have e:=R.mem r hk (j:Int) (by omega) (by rw[cZ hk]at hj'⊢;omega);have i1:=ahu hA hk (o:=0) (by omega) (by rw[cZ hk];omega);have i2:=ahu hB hk (o:=0) (by omega) (by rw[cZ hk];omega);rw[show(nth A r+(j:Int)).toNat=(nth A r).toNat+j by omega,show(nth B r+(j:Int)).toNat=(nth B r).toNat+j by omega]at e;exact e.canon.1
 ·unfold mI;apply List.ext_getElem
  ·simp[GA.len,acq.len]
  ·intro i h1 h2;simp only[List.length_map]at h1 h2;simp only[List.getElem_map];have h:=R.nv i;rw[ie h1,ie h2]at h;unfold yD;simp only[View.mk.injEq];refine⟨h.state,h.pc,h.count,h.bV,h.saved,h.dd,h.code,?_⟩;apply List.ext_getElem
   ·simpa using h.len
   ·intro j g1 g2;simp only[List.length_map]at g1 g2;simp only[List.getElem_map];have q:=h.bm j;rw[List.getD_eq_getElem?_getD,List.getD_eq_getElem?_getD,List.getElem?_eq_getElem g1,List.getElem?_eq_getElem g2]at q;exact q.canon.1
end
end Go.Proofs.YtejohpnpnaljdaaGreat
namespace Go.Proofs.YtejohpnpnaljdaaGreat
open Go Go.Abs Go.Abs.lu
theorem aho{aD:List Int}{key:Int}{ae:List Int}{cells:List Cell}{b:Nat}{x:List Canon}(h:b+x.length<=cells.length): ∀k,k<=x.length-> ∀i,(I3 aD key ae cells b x k).getD i ⟨0,0⟩=if b<=i/\i<b+k then PZ aD key ae (x.getD (i-b) ⟨0,0,0,0⟩) else cells.getD i ⟨0,0⟩
 |0,_,i=>by rw[if_neg (by omega)];rfl
 |k+1,hk,i=>by
  rw[I3,agd,Ni,aho h k (by omega) i];by_cases e:b+k=i
  ·rw[if_pos ⟨e,by omega⟩,if_pos (by omega)];congr 2;omega
  ·rw[if_neg (fun g=>e g.1)];by_cases e2:b<=i/\i<b+k
   ·rw[if_pos e2,if_pos (by omega)]
   ·rw[if_neg e2,if_neg (by omega)]
theorem af0{aD:List Int}{key:Int}{sz:List Int}(hL:nr aD sz){rs:List (List Canon)}(hr:rs.length=sz.length)(hl: ∀i (h:i<rs.length) (h':i<sz.length),((rs[i]).length:Int)=sz[i]): ∀n,n<=rs.length-> ∀k (hk:k<rs.length),k<n-> ∀o (ho:o<(rs[k]).length),(ik aD key sz rs n).getD (nth aD k+(o:Int)).toNat ⟨0,0⟩=PZ aD key sz (rs[k])[o]
 |0,_,k,hk,hkn,o,ho=>by omega
 |n+1,hn,k,hk,hkn,o,ho=>by
  have hn':n<rs.length:=by omega
  have ac0:n<aD.length:=by rw[hL.len];omega
  have ac1:k<aD.length:=by rw[hL.len];omega
  have sn:n<sz.length:=by omega
  have ac2:k<sz.length:=by omega
  have q1:=hL.base n ac0 sn;have q2:=hL.base k ac1 ac2;have l1:=hl n hn' sn;have l2:=hl k hk ac2;rw[VC hn',aho (by rw[EK];rw[cZ ac0];omega) _ (Nat.le_refl _),cZ ac0,cZ ac1];by_cases e:k=n
  ·subst e;rw[if_pos (by omega)];congr 1;rw[show(aD[k]+(o:Int)).toNat-(aD[k]).toNat=o by omega];rw[List.getD_eq_getElem?_getD,List.getElem?_eq_getElem ho];rfl
  ·have ap:=hL.apart k n ac1 ac2 ac0 sn e;rw[if_neg (by omega)];have:=af0 (key:=key) hL hr hl n (by omega) k hk (by omega) o ho;rw[cZ ac1]at this;exact this
theorem aib{A B sz:List Int}{ab7 ab9:Int}(hA:nr A sz)(hB:nr B sz){c:Canon}(hp:proper sz c=true)(hc:zF c):CrP A ab7 B ab9 sz (PZ A ab7 sz c) (PZ B ab9 sz c):=by
 have hpf: ¬proper sz c=false:=by rw[hp];simp
 unfold PZ raw;rw[if_neg hpf,if_neg hpf];by_cases t0:c.tag=0
 ·rw[if_pos t0,if_pos t0];exact .num _
 rw[if_neg t0,if_neg t0];by_cases t2:c.tag=2
 ·rw[if_pos t2,if_pos t2];refine .inr (.inl ⟨rfl,rfl,?_⟩);simp only[afu];omega
 rw[if_neg t2,if_neg t2];unfold proper at hp;rw[if_neg (by omega)]at hp;split at hp
 case isFalse=>cases hp
 simp only[Bool.and_eq_true,decide_eq_true_eq]at hp;obtain⟨k,hk,ek,ac3,o1⟩:=kQ.1 hp.2;have a1:k<A.length:=by rw[hA.len];exact hk
 have b1:k<B.length:=by rw[hB.len];exact hk
 have qa:=hA.base k a1 hk;have qb:=hB.base k b1 hk;rw[ek,Int.toNat_natCast];have e:=CrP.ptr (ab7:=ab7) (ab9:=ab9) hA hB hk ac3 o1;rw[cZ a1,cZ b1]at e⊢;simp only[afu];rw[Int.emod_eq_of_lt (by omega) (by omega),Int.emod_eq_of_lt (by omega) (by omega)];exact e
theorem ag6{aD:List Int}{key:Int}{sz:List Int}{l:List Canon}{i:Nat}:(u6 aD key sz l).getD i ⟨0,0⟩=if h:i<l.length then PZ aD key sz l[i] else⟨0,0⟩:=by
 unfold u6;rw[List.getD_eq_getElem?_getD,List.getElem?_map];by_cases h:i<l.length
 ·rw[dif_pos h,List.getElem?_eq_getElem h];rfl
 ·rw[dif_neg h,List.getElem?_eq_none (by omega)];rfl
theorem af2(cells:List Cell)(a:Nat):look ⟨cells,bY⟩ a=cells.getD a ⟨0,0⟩:=by
 have e:(iD ⟨cells,bY⟩ (a/4 % 4)).tag= -1:=by
  have:a/4 % 4=0\/a/4 % 4=1\/a/4 % 4=2\/a/4 % 4=3:=by omega
  rcases this with h|h|h|h<;>rw[h]<;>rfl
 rw[look_eq,e,if_neg (by omega)]
theorem ahp{p:Prog}{s:State}(h:agi p s=true):(∀l∈s.regions,∀c∈l,proper p.ae c=true)/\ ∀v∈s.threads,∀c∈v.bm,proper p.ae c=true:=by
 unfold agi kL oK at h;rw[List.all_eq_true]at h;have h1:=fun l hl=>List.all_eq_true.1 (h l hl);refine⟨fun l hl c hc=>h1 l (List.mem_append_left _ hl) c hc,fun v hv c hc=>h1 v.bm (List.mem_append_right _ ?_) c hc⟩;rw[List.take_length];exact List.mem_map.2 ⟨v,hv,rfl⟩
theorem ail{p:Prog}{d:Int}{A B:List Int}{ab7 ab9:Int}(hA:nr A p.ae)(hB:nr B p.ae){s:State}(hs:rk p d s)(hi:agi p s=true):acm ab7 ab9 p.ae A B (DL p ⟨A,ab7⟩ s) (DL p ⟨B,ab9⟩ s):=by
 obtain⟨i1,i2⟩:=ahp hi;have hr:s.regions.length=p.ae.length:=hs.p.regions;have hl:=fun i h h'=>(hs.p.region i h h').1;refine⟨rfl,rfl,fun k hk o h0 h1=> ?_,aav _ _,aav _ _,fun t=> ?_⟩
 ·unfold DL;simp only;rw[af2,af2];obtain⟨j,rfl⟩:=Int.eq_ofNat_of_zero_le h0;have hk':k<s.regions.length:=by omega
  have hj:j<(s.regions[k]).length:=by have:=hl k hk' hk;rw[cZ hk]at h1;omega
  rw[af0 hA hr hl _ (Nat.le_refl _) k hk' hk' j hj,af0 hB hr hl _ (Nat.le_refl _) k hk' hk' j hj];exact aib hA hB (i1 _ (List.getElem_mem hk') _ (List.getElem_mem hj)) (hs.rv _ (List.getElem_mem hk') _ (List.getElem_mem hj))
 ·unfold cg DL nc;simp only[List.getD_eq_getElem?_getD,List.getElem?_map];by_cases ht:t<s.threads.length
  ·rw[List.getElem?_eq_getElem ht];simp only[Option.map_some,Option.getD_some];refine⟨rfl,rfl,rfl,rfl,rfl,rfl,rfl,by simp[Zl,I4],fun i=> ?_⟩;unfold Zl;simp only;rw[ag6,ag6];split
   ·rename_i h;exact aib hA hB (i2 _ (List.getElem_mem ht) _ (List.getElem_mem h)) ((hs.tv _ (List.getElem_mem ht)).1 _ (List.getElem_mem h))
   ·exact .num 0
  ·rw[List.getElem?_eq_none (by omega)];exact⟨rfl,rfl,rfl,rfl,rfl,rfl,rfl,rfl,fun i=>by simp[da];exact .num 0⟩
theorem agt{aD sz:List Int}{key:Int}(hL:nr aD sz){c:Cell}(hc:hY c)(hw:afv (canon aD key sz c)=false):proper sz (canon aD key sz c)=true:=by
 revert hw;unfold canon;split
 ·intro _;simp[proper]
 split
 ·intro _;simp[proper]
 split
 ·rename_i h;obtain⟨k,hk,hk',e,b1,b2⟩:=jB h;intro _;rw[e];have:inside sz (k:Int) (c.val-aD[k])=true:=kQ.2 ⟨k,hk',rfl,by omega,by omega⟩;simp[proper,this]
 ·intro hw;simp[afv]at hw
theorem ahv{p:Prog}{d:Int}{m:bf}(h:cR p d m)(hw:aft (oK (px p m) (px p m).threads.length)=true):agi p (px p m)=true:=by
 have hL:=h.lay;unfold aft at hw;unfold agi kL;rw[List.all_eq_true]at hw⊢;intro l hl;have h1:=hw l hl;unfold af1 at h1;unfold mJ;rw[List.all_eq_true]at h1⊢;intro c hc;have h2:=h1 c hc;have aim: ∃x,hY x/\c=canon m.layout.aD m.layout.key p.ae x:=by
  unfold oK at hl;rcases List.mem_append.1 hl with hl|hl
  ·simp only[px,iX]at hl;obtain⟨r,_,rfl⟩:=List.mem_map.1 hl;unfold rN mg at hc;obtain⟨j,_,rfl⟩:=List.mem_map.1 hc;exact⟨_,dB.look h.mem _,rfl⟩
  ·obtain⟨v,hv,rfl⟩:=List.mem_map.1 hl;have hv:=List.mem_of_mem_take hv;simp only[px,mI]at hv;obtain⟨x,hx,rfl⟩:=List.mem_map.1 hv;simp only[yD]at hc;obtain⟨y,hy,rfl⟩:=List.mem_map.1 hc;obtain⟨i,hi,rfl⟩:=List.getElem_of_mem hx;exact⟨y,(h.nv i hi).cells y hy,rfl⟩
 obtain⟨x,hx,rfl⟩:=aim;exact agt hL hx (by simpa using h2)
end Go.Proofs.YtejohpnpnaljdaaGreat
namespace Go.Proofs.YtejohpnpnaljdaaGreat
open Go Go.Abs Go.Abs.lu
def af3(p:Prog)(n:Int)(m:bf):Nat->bf
 |0=>m
 |i+1=>(dm p (af3 p n m i) 0 n).1
theorem ahx(p:Prog)(n:Int)(m:bf):af3 p n m 0=m:=rfl
theorem ahy(p:Prog)(n:Int)(m:bf)(i:Nat):af3 p n m (i+1)=(dm p (af3 p n m i) 0 n).1:=rfl
structure aic (p:Prog) (n d ab7 ab9:Int) (ac4 ac7:List Int) (A B:bf) (i:Nat):Prop where
 ga:cR p (d+9*i) (af3 p n A i)
 gb:cR p (d+9*i) (af3 p n B i)
 r:acm ab7 ab9 p.ae ac4 ac7 (af3 p n A i) (af3 p n B i)
theorem aic.next{p:Prog}{n d ab7 ab9:Int}{ac4 ac7:List Int}{A B:bf}{i:Nat}(h:aic p n d ab7 ab9 ac4 ac7 A B i)(hA:nr ac4 p.ae)(hB:nr ac7 p.ae)(hn:1<=n/\n<=9):aic p n d ab7 ab9 ac4 ac7 A B (i+1):=
 ⟨(afy h.ga (t:=0) (by omega) hn.1).mono (by omega),(afy h.gb (t:=0) (by omega) hn.1).mono (by omega),(ahn hA hB rfl (t:=0) (by omega) h.r h.ga h.gb hn.1).2⟩
theorem ah8{p:Prog}{l:aN}{s:State}(h:agi p s=true):AZ p l s=(DL p l s,true):=if_pos h
@[simp] theorem agj(l:List Int)(cD n:Int)(hl:l.length<=2000000): ∃h' k',cy X 6 [.sl false (l.map (V.int .i64)),.int .i64 cD,.int .i64 n] m8 0=some (.bool true,h',k'):=by
 suffices H: ∃v h' k',cy X 6 [.sl false (l.map (V.int .i64)),.int .i64 cD,.int .i64 n] m8 0=some (v,h',k')/\v= .bool true by
  obtain⟨v,h',k',e,rfl⟩:=H;exact⟨h',k',e⟩
 have hw:=QA;have hd0:dr l 0:=⟨by omega,by omega⟩;obtain⟨kt,⟨pc,ps,pd⟩,d,⟨⟨mb,mk⟩,⟨mc,ml⟩,mt⟩,hM,hdk,HG,hd2,iZ⟩:=Z5 l 0 hd0;simp only[Z1]at hM;have oP:mt.length=4:=HG.len;have aiu:0<mt.length:=by omega
 have ac8:=agx pc ps pd mb mk mc ml mt d HG;have SG:=P9 HG (by omega);have ac9:=afw HG;have TI:=fun h=>ahv HG h;obtain⟨⟨R,T⟩,hS⟩: ∃s,px ⟨pc,ps,pd⟩ ⟨⟨mb,mk⟩,⟨mc,ml⟩,mt⟩=s:=⟨_,rfl⟩;rw[hS]at ac8 SG ac9 TI;simp only at ac8 ac9 TI;have h3: ∀x∈oK ⟨R,T⟩ T.length,x.length<=1000000000:=fun x hx=>by
  unfold oK at hx;rcases List.mem_append.1 hx with hx|hx
  ·obtain⟨i,hi,rfl⟩:=List.getElem_of_mem hx;exact ac9.1.region i hi
  ·obtain⟨v,hv,rfl⟩:=List.mem_map.1 hx;obtain⟨i,hi,rfl⟩:=List.getElem_of_mem (List.mem_of_mem_take hv);exact ac9.1.view i hi
 have ada:=afl R T ac9.1.regions ac9.1.threads h3;obtain⟨N,hN⟩: ∃N,1+n % 9=N:=⟨_,rfl⟩;have hN1:1<=N/\N<=9:=by omega
 have wN:IntKind.i64.wrap (1+n % 9)=N:=by rw[hN];exact wrap_i64 (by omega)
 refine bu (X:=X) (K:=fun v _ _=>v= .bool true) Tryz.func6 rfl rfl ?_;cases hW:aft (oK ⟨R,T⟩ T.length) with
 |false=>
  rw[hW]at ada;simp(maxSteps:=10000000) (maxDischargeDepth:=30) -implicitDefEqProofs[hl,acn,hM,oP,aiu,ac8, -afl,ada,hw]
 |true=>
  rw[hW]at ada;have hi:=TI hW;obtain⟨adf,hsd⟩: ∃a,cD % 1048576=a:=⟨_,rfl⟩;have aiv:0<=adf/\adf<=1048575:=by omega
  have hz:mw ps:=HG.prog.ae;have adg:=Yv ps adf hz aiv;have hLy:=F9 hz aiv.1;have hky:=nP (40503*adf);obtain⟨adh,hyb⟩: ∃a,dP ps adf=a:=⟨_,rfl⟩;obtain⟨yk,hyk⟩: ∃a,IntKind.u16.wrap (40503*adf)=a:=⟨_,rfl⟩;rw[hyb]at adg hLy;rw[hyk]at adg hky;have hLm:nr mb ps:=HG.lay;have I1:=VE pc ps pd mb mk R T HG.prog hLm SG.p;have I2:=VE pc ps pd adh yk R T HG.prog hLy SG.p;rw[ah8 hi]at I1 I2;have GA:=Zw (l:=⟨mb,mk⟩) HG.prog HG.lay HG.key SG;have acq:=Zw (l:=⟨adh,yk⟩) HG.prog hLy hky SG;have RAB:=ail (ab7:=mk) (ab9:=yk) HG.lay hLy SG hi;obtain⟨⟨⟨ab,ak⟩,⟨ac,al⟩,at'⟩,hA⟩: ∃a,DL ⟨pc,ps,pd⟩ ⟨mb,mk⟩ ⟨R,T⟩=a:=⟨_,rfl⟩;obtain⟨⟨⟨bb,ac1⟩,⟨adi,bl⟩,bt⟩,hB⟩: ∃a,DL ⟨pc,ps,pd⟩ ⟨adh,yk⟩ ⟨R,T⟩=a:=⟨_,rfl⟩;rw[hA]at I1 GA RAB;rw[hB]at I2 acq RAB;simp only at I1 I2 GA acq;have J0:aic ⟨pc,ps,pd⟩ N d mk yk mb adh ⟨⟨ab,ak⟩,⟨ac,al⟩,at'⟩ ⟨⟨bb,ac1⟩,⟨adi,bl⟩,bt⟩ 0:=⟨GA.mono (by omega),acq.mono (by omega),RAB⟩;have hat:at'.length=4:=GA.len;have hbt:bt.length=4:=acq.len;have tka: ∀(f:Thread->V),List.take 4 (at'.map f)=at'.map f:=fun f=>bn (by simp;omega);have tkb: ∀(f:Thread->V),List.take 4 (bt.map f)=bt.map f:=fun f=>bn (by simp;omega);simp(maxSteps:=10000000) (maxDischargeDepth:=30) -implicitDefEqProofs[hl,acn,hM,oP,aiu,ac8, -afl,ada, -Yv,hsd,adg,I1,I2,hat,hbt,tka,tkb,jy,nV];refine cP (fun i S=>(S.f 2= .int .i64 (n)/\S.f 7= .ptr 7 0 0/\S.h 7=some ⟨3,[.agg [.sl false ((⟨pc,ps,pd⟩:Prog).code.map Instr.e),.sl false ((⟨pc,ps,pd⟩:Prog).ae.map (V.int .i64)),.sl false ((⟨pc,ps,pd⟩:Prog).data.map aS)]],true⟩/\S.f 12= .ptr 12 0 0/\S.h 12=some ⟨5,[.agg [.sl false ((af3 ⟨pc,ps,pd⟩ N ⟨⟨ab,ak⟩,⟨ac,al⟩,at'⟩ i).layout.aD.map (V.int .i64)),.int .u16 (af3 ⟨pc,ps,pd⟩ N ⟨⟨ab,ak⟩,⟨ac,al⟩,at'⟩ i).layout.key,.sl false ((af3 ⟨pc,ps,pd⟩ N ⟨⟨ab,ak⟩,⟨ac,al⟩,at'⟩ i).memory.cells.map Cell.e),.sl false ((af3 ⟨pc,ps,pd⟩ N ⟨⟨ab,ak⟩,⟨ac,al⟩,at'⟩ i).memory.lines.map cx.e),.sl false ((af3 ⟨pc,ps,pd⟩ N ⟨⟨ab,ak⟩,⟨ac,al⟩,at'⟩ i).threads.map Thread.e)]],true⟩/\S.f 14= .ptr 14 0 0/\S.h 14=some ⟨5,[.agg [.sl false ((af3 ⟨pc,ps,pd⟩ N ⟨⟨bb,ac1⟩,⟨adi,bl⟩,bt⟩ i).layout.aD.map (V.int .i64)),.int .u16 (af3 ⟨pc,ps,pd⟩ N ⟨⟨bb,ac1⟩,⟨adi,bl⟩,bt⟩ i).layout.key,.sl false ((af3 ⟨pc,ps,pd⟩ N ⟨⟨bb,ac1⟩,⟨adi,bl⟩,bt⟩ i).memory.cells.map Cell.e),.sl false ((af3 ⟨pc,ps,pd⟩ N ⟨⟨bb,ac1⟩,⟨adi,bl⟩,bt⟩ i).memory.lines.map cx.e),.sl false ((af3 ⟨pc,ps,pd⟩ N ⟨⟨bb,ac1⟩,⟨adi,bl⟩,bt⟩ i).threads.map Thread.e)]],true⟩/\S.f 64= .int .i64 (i:Int)/\S.n=1100)/\(aic ⟨pc,ps,pd⟩ N d mk yk mb adh ⟨⟨ab,ak⟩,⟨ac,al⟩,at'⟩ ⟨⟨bb,ac1⟩,⟨adi,bl⟩,bt⟩ i)) (3) ?_ 0 (by simp) ?_
  ·rintro i S hii ⟨hI0,hP0⟩;have hwi:=cS i (by omega);by_cases afm:(i<3)
   ·have hi3:(i:Int)<3:=by omega
    have adk:=hP0.next HG.lay hLy hN1;have adl:=hP0.ga;have gB:=hP0.gb;have adm:=ahk adl (by omega) (n:=N) (by omega);have adn:=ahk gB (by omega) (n:=N) (by omega);have ado:=ahn HG.lay hLy rfl (t:=0) (by omega) hP0.r adl gB hN1.1;have gC:=afy adl (t:=0) (by omega) hN1.1;have gD:=afy gB (t:=0) (by omega) hN1.1;have sa:=ahy ⟨pc,ps,pd⟩ N ⟨⟨ab,ak⟩,⟨ac,al⟩,at'⟩ i;have adr:=ahy ⟨pc,ps,pd⟩ N ⟨⟨bb,ac1⟩,⟨adi,bl⟩,bt⟩ i;have ac4:=adl.lens;have adu:=adl.R;have ac7:=gB.lens;have adx:=gB.R;obtain⟨⟨⟨xb,xk⟩,⟨xc,xl⟩,xt⟩,hx⟩: ∃a,af3 ⟨pc,ps,pd⟩ N ⟨⟨ab,ak⟩,⟨ac,al⟩,at'⟩ i=a:=⟨_,rfl⟩;obtain⟨⟨⟨yb',yk'⟩,⟨ady,ad0⟩,ad5⟩,hy⟩: ∃a,af3 ⟨pc,ps,pd⟩ N ⟨⟨bb,ac1⟩,⟨adi,bl⟩,bt⟩ i=a:=⟨_,rfl⟩;rw[hx]at adm ado gC sa ac4 adu;rw[hy]at adn ado gD adr ac7 adx;have T1:=sU pc ps pd xb xk xc xl xt 0 N HG.prog.lens ac4 adu;have T2:=sU pc ps pd yb' yk' ady ad0 ad5 0 N HG.prog.lens ac7 adx;rw[adm]at T1;rw[adn]at T2;obtain⟨⟨⟨⟨cb,ck⟩,⟨cc,cl⟩,ct⟩,u⟩,hc⟩: ∃a,dm ⟨pc,ps,pd⟩ ⟨⟨xb,xk⟩,⟨xc,xl⟩,xt⟩ 0 N=a:=⟨_,rfl⟩;obtain⟨⟨⟨⟨aeb,dk⟩,⟨aeg,dl⟩,dt⟩,v⟩,hd⟩: ∃a,dm ⟨pc,ps,pd⟩ ⟨⟨yb',yk'⟩,⟨ady,ad0⟩,ad5⟩ 0 N=a:=⟨_,rfl⟩;rw[hc]at T1 ado gC sa;rw[hd]at T2 ado gD adr;simp only at T1 T2 ado gC gD sa adr;obtain⟨rfl,rr⟩:=ado;have aeh:=WM pc ps pd cb ck cc cl ct HG.prog.lens gC.lens;rw[(gC.mono (by omega)).ok]at aeh;have aem:=WM pc ps pd aeb dk aeg dl dt HG.prog.lens gD.lens;rw[(gD.mono (by omega)).ok]at aem;have aev:=agx pc ps pd cb ck cc cl ct _ gC;have afb:=agx pc ps pd aeb dk aeg dl dt _ gD;rw[ah1 HG.lay hLy rfl rr gC gD]at aev;have SL2:=afw gD;obtain⟨⟨R2,T2'⟩,hS2⟩: ∃s,px ⟨pc,ps,pd⟩ ⟨⟨aeb,dk⟩,⟨aeg,dl⟩,dt⟩=s:=⟨_,rfl⟩;rw[hS2]at aev afb SL2;simp only at aev afb;have afd:=afx R2 T2' R2 T2' SL2.1;simp(maxSteps:=10000000) (maxDischargeDepth:=30) -implicitDefEqProofs[hI0,hii,hwi,afm,hx,hy,hi3,wN, -sU,T1,T2, -WM,aeh,aem,aev,afb, -afx,afd,sa,adr,adk]
   ·have hi3: ¬(i:Int)<3:=by omega
    simp(maxSteps:=10000000) (maxDischargeDepth:=30) -implicitDefEqProofs[hI0,hii,hwi,afm,hi3,hw]
  ·have h0:=ahx ⟨pc,ps,pd⟩ N ⟨⟨ab,ak⟩,⟨ac,al⟩,at'⟩;have h1:=ahx ⟨pc,ps,pd⟩ N ⟨⟨bb,ac1⟩,⟨adi,bl⟩,bt⟩;simp(maxSteps:=10000000) (maxDischargeDepth:=30) -implicitDefEqProofs[h0,h1,J0,hat,hbt,tka,tkb]
end Go.Proofs.YtejohpnpnaljdaaGreat
namespace Go.Proofs.YtejohpnpnaljdaaGreat
open Go Go.Abs
namespace ahq
def Pe:List (Bool×List CS):=[(false,[.sl false [.int .i64]]),(false,[.int .i64]),(false,[.int .i64])]
theorem read:Tryz.f6.params.toList.all (Ih X.P)=true:=by kernel_rfl
theorem ao8:zq X.P Tryz.f6.params.toList=some Pe:=by kernel_rfl
theorem ao9:abv X.P Tryz.f6 Pe 4:=⟨abw,read,ao8,rfl,rfl⟩
theorem apa(vs:List V)(h:zp Pe vs)(hb:mT vs<=1048576): ∃h k,cy X 6 vs ky 0=some (.bool true,h,k):=by
 simp only[Pe,zp,Aa,cX7]at h;obtain⟨_,_,rfl,⟨_,_,rfl,⟨es,rfl,_,hes⟩,rfl⟩,_,_,rfl,⟨_,_,rfl,⟨n,rfl,hn⟩,rfl⟩,_,_,rfl,⟨_,_,rfl,⟨k,rfl,hk⟩,rfl⟩,rfl⟩:=h;obtain⟨l,rfl⟩:=Ik (es:=es) fun e he=>by
  obtain⟨xs,hx,_,_,rfl,⟨b,rfl,hb⟩,rfl⟩:=hes e he;exact⟨b,hx⟩
 have e1:oz false [V.sl false (l.map (V.int .i64))]= .sl false (l.map (V.int .i64)):=rfl;have e2: ∀n,oz false [V.int .i64 n]= .int .i64 n:=fun _=>rfl;rw[e1,e2,e2]at hb⊢;simp only[mT]at hb;have e3:Up (.sl false (l.map (V.int .i64)))=mT (l.map (V.int .i64))+1:=rfl;rw[e3,Ya]at hb;exact agj l n k (by omega)
theorem a0:Rows.stepLayoutsUptoRow.wf (OpenSpec.ofChange (Rows.OpenSpec.upto Rows.stepLayoutsSpec).bare)=true:=by kernel_rfl
theorem a1:Tryz.f6.params.all (Tryz.pinned.checked.prog.readableRec ·)=true:=by kernel_rfl
theorem a2:namedTie Tryz.pinned.checked.prog Rows.stepLayoutsUptoRow.named (Rows.OpenSpec.upto Rows.stepLayoutsSpec).bare.vars=true:=by kernel_rfl
theorem a3:(Rows.stepLayoutsUptoRow.stops==[])=true:=by kernel_rfl
theorem a4:(Rows.stepLayoutsUptoRow.knobs==[])=true:=by kernel_rfl
theorem a5:(Rows.stepLayoutsUptoRow.inPlace==Tryz.pinned.checked.prog.inPlace 6)=true:=by kernel_rfl
theorem a6:(Rows.stepLayoutsUptoRow.unfollowed==Tryz.pinned.checked.prog.unfollowed 6)=true:=by kernel_rfl
theorem a7:(Rows.stepLayoutsUptoRow.recurses==Tryz.pinned.checked.prog.recurses 6)=true:=by kernel_rfl
theorem a8:(Rows.stepLayoutsUptoRow.named==Tryz.pinned.checked.prog.varsNamed 6)=true:=by kernel_rfl
theorem a9:(Rows.stepLayoutsUptoRow.maps==(Tryz.f6.params.toList++(Rows.OpenSpec.upto Rows.stepLayoutsSpec).bare.plain.varTypes Tryz.pinned.checked.prog).any (Tryz.pinned.checked.prog.mapsRec ·))=true:=by kernel_rfl
theorem Px:(Rows.stepLayoutsUptoRow.ifaces==(Tryz.f6.params.toList++(Rows.OpenSpec.upto Rows.stepLayoutsSpec).bare.plain.varTypes Tryz.pinned.checked.prog).any (Tryz.pinned.checked.prog.ifacesRec ·))=true:=by kernel_rfl
theorem a11:(Rows.stepLayoutsUptoRow.mapsOut==Tryz.pinned.checked.prog.mapsAmong Tryz.f6.resultTypes.toList)=true:=by kernel_rfl
theorem a12:(Rows.stepLayoutsUptoRow.loops==(Tryz.f6.params.toList++(Rows.OpenSpec.upto Rows.stepLayoutsSpec).bare.plain.varTypes Tryz.pinned.checked.prog).any (Tryz.pinned.checked.prog.loopsFrom ·))=true:=by kernel_rfl
theorem a13:(Rows.stepLayoutsUptoRow.wideKeys==(Tryz.f6.params.toList++(Rows.OpenSpec.upto Rows.stepLayoutsSpec).bare.plain.varTypes Tryz.pinned.checked.prog++Tryz.f6.resultTypes.toList).any (Tryz.pinned.checked.prog.wideKeysFrom ·))=true:=by kernel_rfl
theorem a14:(Rows.OpenSpec.upto Rows.stepLayoutsSpec).bare.vars.all (Tryz.pinned.checked.prog.varReadable ·)=true:=by kernel_rfl
theorem a15:Tryz.f6.resultTypes.all (fun t=>Tryz.pinned.checked.prog.readableRec t&&decide (t<Tryz.pinned.checked.prog.types.size))=true:=by kernel_rfl
theorem a16:(Rows.stepLayoutsUptoRow.ifacesOut==Tryz.f6.resultTypes.toList.any (Tryz.pinned.checked.prog.ifacesRec ·))=true:=by kernel_rfl
theorem a17:(Rows.stepLayoutsUptoRow.loopsOut==Tryz.f6.resultTypes.toList.any (Tryz.pinned.checked.prog.loopsFrom ·))=true:=by kernel_rfl
theorem a18:(Rows.stepLayoutsUptoRow.plainKeys==Tryz.pinned.checked.prog.plainKeys)=true:=by kernel_rfl
theorem a19:Rows.stepLayoutsUptoRow.shortTexts.isNone=true:=by kernel_rfl
theorem a20:(Rows.stepLayoutsUptoRow.lifted==Tryz.pinned.checked.prog.liftsFinal)=true:=by kernel_rfl
theorem a21:(Tryz.pinned.checked.prog.make==some Rows.stepLayoutsUptoRow.make)=true:=by kernel_rfl
theorem a22:(Rows.stepLayoutsUptoRow.kinds==(if Rows.stepLayoutsUptoRow.domain.isEmpty then [] else Tryz.f6.params.toList.map fun t=>match Tryz.pinned.checked.prog.underlying t with|some (.int k)=>some k|_=>none))=true:=by kernel_rfl
theorem a23:(Rows.stepLayoutsUptoRow.pinned==Rows.stepLayoutsUptoRow.pinnedBy)=true:=by kernel_rfl
theorem a24:(Rows.stepLayoutsUptoRow.veiled==(Tryz.f6.params.toList++(Rows.OpenSpec.upto Rows.stepLayoutsSpec).bare.plain.varTypes Tryz.pinned.checked.prog++Tryz.f6.resultTypes.toList).any (Tryz.pinned.checked.prog.veiledRec ·))=true:=by kernel_rfl
theorem a25:Rows.stepLayoutsUptoRow.veiledFits Tryz.pinned.checked.prog Tryz.f6.params.toList (Tryz.f6.params.toList++(Rows.OpenSpec.upto Rows.stepLayoutsSpec).bare.plain.varTypes Tryz.pinned.checked.prog++Tryz.f6.resultTypes.toList)=true:=by kernel_rfl
theorem closed:joinedFacts Tryz.pinned.checked.prog 6 Tryz.f6 (Rows.OpenSpec.upto Rows.stepLayoutsSpec).bare Rows.stepLayoutsUptoRow=true:=by
 unfold joinedFacts;exact(gW (gW (gW (gW (gW (gW (gW (gW (gW (gW (gW (gW (gW (gW (gW (gW (gW (gW (gW (gW (gW (gW (gW (gW (gW (gW (gW (gW (gW (gW (gW a0 abw) al0) a1) a2) a3) aez) a4) ae0) a5) a6) a7) a8) a9) Px) a11) a12) a13) a14) a15) a16) a17) a18) a19) heard) ae1) a20) a21) a22) a23) a24) a25)
theorem isI:Tryz.f6.isInstance Tryz.pinned.checked.prog Rows.stepLayoutsUptoRow.origin Rows.stepLayoutsUptoRow.targs:=of_decide_eq_true (by kernel_rfl)
theorem isW:Tryz.f6.isWrapper Tryz.pinned.checked.prog Rows.stepLayoutsUptoRow.wrapper Rows.stepLayoutsUptoRow.mainSum:=by
 unfold Func.isWrapper;first|(rw[if_pos (by decide+kernel)];kernel_rfl)|(rw[if_neg (by decide+kernel)];exact⟨rfl,rfl⟩)
theorem apb:Tryz.pinned.checked.prog.funcNamed Rows.stepLayoutsUptoRow.func=some 6:=by kernel_rfl
theorem lifted(os:Os)(started:os.Started)(H:Type)(enc:TypeId×Value->H)(F:Stop.Interp):
  ReturnsInHanded {} Tryz.checked os 6 .any ((Rows.OpenSpec.upto Rows.stepLayoutsSpec).pre6 enc Tryz.prog Tryz.f6 Rows.stepLayoutsUptoRow.domain false) (((Rows.OpenSpec.upto Rows.stepLayoutsSpec).at F).post enc Tryz.prog Tryz.f6 false true false false):=by
 refine returnsInHanded_of_cond (C:=Tryz.checked) (s:=(Rows.OpenSpec.upto Rows.stepLayoutsSpec)) (k:=Rows.uptoSmall) rfl own started (by kernel_rfl) Tryz.func6
  (OpenSpec.witness (enc:=enc) (C:=Tryz.checked) (s:=(Rows.OpenSpec.upto Rows.stepLayoutsSpec)) (k:=Rows.uptoSmall) rfl false ⟨#[],#[.slice none 0 0,.int .i64 0,.int .i64 0],[]⟩ 8 (by kernel_rfl) (by kernel_rfl) (by kernel_rfl)
   (x:=([.nil,.lit (.int .i64 0),.lit (.int .i64 0)],[],[])) (by kernel_rfl) rfl (by kernel_rfl)) ?_
 intro W base args ds gs before Hl hW _ hk _;have hgs:gs=[]:=by
  obtain⟨p,q,_,hV,_⟩:=hW;cases gs with
  |nil=>rfl
  |cons _ _=>simp[DataW.TrodVars,Rows.stepLayoutsSpec,Rows.OpenSpec.upto,OpenSpec.ofChange]at hV
 subst hgs;rw[List.append_nil]at hk;exact Uu Fo ao9 (s:=Rows.stepLayoutsSpec) rfl (fun H ds hl=>by
  match ds,hl with
  | [a,b,c],_=>rfl) apa H Rows.uptoBulk (cX8 H) enc W base args ds [] before Hl hW (cX9 hk)
theorem pZ:Rows.stepLayoutsUptoRow.holds Tryz.pinned (Rows.OpenSpec.upto Rows.stepLayoutsSpec):=
 OpenClaim.holds_of_cond 6 Tryz.f6 rfl rfl rfl rfl rfl rfl rfl ⟨rfl,rfl,rfl,rfl,rfl⟩ rfl rfl rfl rfl rfl apb Tryz.func6 closed isI isW
  (fun os started H enc _ F=>lifted os started H enc F)
end ahq
theorem stepLayouts:Rows.StepLayoutsUptoSaid:=ahq.pZ
end Go.Proofs.YtejohpnpnaljdaaGreat
