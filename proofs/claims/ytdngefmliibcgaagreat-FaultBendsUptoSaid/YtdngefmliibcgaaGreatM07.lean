/- Part of a proof: S10. -/
import Derived.Test.YtdngefmliibcgaaGreatM03
import Derived.Test.YtdngefmliibcgaaGreatM05
import Derived.Test.YtdngefmliibcgaaGreatM06
set_option linter.all false
set_option maxRecDepth 20000
set_option maxHeartbeats 20000000
namespace Go.Proofs.YtdngefmliibcgaaGreat
open Go Go.Abs Go.Abs.fJ
structure rA (p:Prog):Prop where
 aq:rf p.aq
 len:p.data.length=p.aq.length
 data: ∀i (h:i<p.data.length) (h':i<p.aq.length),((p.data[i]).length:Int)≤p.aq[i]
 Zs:1≤p.code.length
 qk:p.code.length≤64
 Tv: ∀i (h:i<p.code.length),mR p.code[i]=true
 range: ∀i (h:i<p.code.length),oG p.code.length p.aq.length p.code[i]=true
theorem DA{p:Prog}(h:gS p=0):rA p:=by
 have h1:je p.aq=true:=by
  rw[←Bool.not_eq_false];intro e;unfold gS at h;rw[if_pos e]at h;cases h
 have h2:p.data.length=p.aq.length:=by
  refine Classical.byContradiction fun e=> ?_;unfold gS at h;rw[if_neg (by simp[h1]),if_pos e]at h;cases h
 have h3:jO p p.data.length=true:=by
  rw[←Bool.not_eq_false];intro e;rw[vU h1 h2 e]at h;cases h
 have h4: ¬p.code.length<1:=fun e=>by rw[ur h1 h2 h3 e]at h;cases h
 have h5: ¬64<p.code.length:=fun e=>by rw[vV h1 h2 h3 e]at h;cases h
 rw[rk h1 h2 h3 h4 h5]at h;have h6:lq p.code=true:=by
  rw[←Bool.not_eq_false];intro e;rw[if_pos e]at h;cases h
 rw[if_neg (by simp[h6])]at h;have h7:mj p.code.length p.aq.length p.code=true:=by
  rw[←Bool.not_eq_false];intro e;rw[if_pos e]at h;cases h
 refine⟨kR.1 h1,h2,fun i hi nh=> ?_,by omega,by omega,fun i hi=> ?_,fun i hi=> ?_⟩
 ·have:=List.all_eq_true.1 h3 i (List.mem_range.2 hi);rw[db nh]at this;simpa[List.getD,hi] using this
 ·exact List.all_eq_true.1 h6 _ (List.getElem_mem hi)
 ·exact List.all_eq_true.1 h7 _ (List.getElem_mem hi)
theorem Ay{p:Prog}(h:rA p):gS p=0:=by
 have h3:jO p p.data.length=true:=by
  unfold jO;rw[List.all_eq_true];intro i hi;have hi:=List.mem_range.1 hi;have nh:i<p.aq.length:=by have:=h.len;omega
  rw[db nh];simpa[List.getD,hi] using h.data i hi nh
 have h1:=h.Zs;have h2:=h.qk;rw[rk (kR.2 h.aq) h.len h3 (by omega) (by omega),if_neg,if_neg]
 ·rw[Bool.not_eq_false];unfold mj;rw[List.all_eq_true];intro x hx;obtain⟨i,hi,rfl⟩:=List.getElem_of_mem hx;exact h.range i hi
 ·rw[Bool.not_eq_false];unfold lq;rw[List.all_eq_true];intro x hx;obtain⟨i,hi,rfl⟩:=List.getElem_of_mem hx;exact h.Tv i hi
def pI(cells:List Cell)(b:Nat)(d:List Int):Nat→List Cell
 |0=>cells
 |k+1=>(pI cells b d k).set (b+k) ⟨((pI cells b d k).getD (b+k) ⟨0,0⟩).tag,nth d k⟩
theorem JP(cells:List Cell)(b:Nat)(d:List Int):pI cells b d 0=cells:=rfl
theorem Q1{cells:List Cell}{b:Nat}{d:List Int}{k:Nat}(h:k<d.length):pI cells b d (k+1)=(pI cells b d k).set (b+k) ⟨((pI cells b d k).getD (b+k) ⟨0,0⟩).tag,d[k]⟩:=by
 rw[pI,db h]
theorem DB(cells:List Cell)(b:Nat)(d:List Int)(k:Nat):(pI cells b d k).length=cells.length:=by
 induction k with
 |zero=>rfl
 |succ k ih=>rw[pI,List.length_set,ih]
def oY(p:Prog)(aE:List Int):Nat→List Cell
 |0=>List.replicate 512 ⟨0,0⟩
 |r+1=>pI (oY p aE r) (nth aE r).toNat (p.data.getD r []) (p.data.getD r []).length
theorem Az(p:Prog)(aE:List Int):oY p aE 0=List.replicate 512 ⟨0,0⟩:=rfl
theorem Q2(p:Prog)(aE:List Int){r:Nat}(h:r<p.data.length):oY p aE (r+1)=pI (oY p aE r) (nth aE r).toNat p.data[r] (p.data[r]).length:=by
 rw[oY];simp[List.getD,h]
theorem DC(p:Prog)(aE:List Int)(r:Nat):(oY p aE r).length=512:=by
 induction r with
 |zero=>simp[oY]
 |succ r ih=>rw[oY,DB,ih]
def kJ(p:Prog)(l:Layout):aJ:=⟨l,⟨oY p l.aE p.data.length,ep⟩,[⟨1,List.replicate 8 ⟨0,0⟩,0,0, -1, -1,0,0⟩,⟨0,List.replicate 8 ⟨0,0⟩,0,0, -1, -1,0,0⟩,⟨0,List.replicate 8 ⟨0,0⟩,0,0, -1, -1,0,0⟩,⟨0,List.replicate 8 ⟨0,0⟩,0,0, -1, -1,0,0⟩]⟩
structure Zt (v:View):Prop where
 state:0≤v.state∧v.state≤4
 pc:0≤v.pc∧v.pc≤255
 count:0≤v.count∧v.count≤1099511627776
 bK: -1≤v.bK∧v.bK≤255
 saved: -1≤v.saved∧v.saved≤255
 cz:0≤v.cz∧v.cz≤6
 aO:v.aO.length=8
 apj:fR v.aO=true
structure VG (p:Prog) (s:State):Prop where
 regions:s.regions.length=p.aq.length
 region: ∀i (h:i<s.regions.length) (h':i<p.aq.length),((s.regions[i]).length:Int)=p.aq[i]∧fR s.regions[i]=true
 threads:s.threads.length=4
 view: ∀i (h:i<s.threads.length),Zt s.threads[i]
@[simp] theorem Xi(s:List Thread)(hm:s.length≤1000000000)(hx: ∀i (h:i<s.length),(s[i]).aO.length≤1000000000):ba X 219 [.sl false (s.map Thread.enc),.fn 148 [] []]=some (.int .i64 (rh mh s)):=by
 refine aN Tryz.func219 rfl rfl ?_;simp(maxSteps:=10000000) (maxDischargeDepth:=30) (implicitDefEqProofs:=false)[];refine fh (fun i S=>(S.f 0= .sl false (s.map Thread.enc)∧S.f 1= .fn 148 [] []∧S.f 7= .int .i64 ((s).length:Int)∧S.f 8= .int .i64 (i:Int)∧S.n=1100)∧(ku (s.take i)=true)) (s.length) ?_ 0 (by simp) ?_
 ·rintro i S dQ ⟨eg,jn⟩;have dh:=dY i (by omega);by_cases bk:i<s.length
  ·have g:=hx i bk;have up:=Dv bk;rw[jn]at up;cases h:mh s[i] with
   |false=>
    have e:=rj bk jn h;simp(maxSteps:=10000000) (maxDischargeDepth:=30) (implicitDefEqProofs:=false)[eg,dQ,dh,bk,g,h,e]
   |true=>
    rw[h]at up;simp(maxSteps:=10000000) (maxDischargeDepth:=30) (implicitDefEqProofs:=false)[eg,dQ,dh,bk,g,h,up]
  ·have mP:s.length=i:=by omega
   subst mP;simp(maxSteps:=10000000) (maxDischargeDepth:=30) (implicitDefEqProofs:=false)[eg,dQ,dh,bk]<;>(
    rw[BA]at jn;exact(pG jn).symm)
 ·simp(maxSteps:=10000000) (maxDischargeDepth:=30) (implicitDefEqProofs:=false)[]<;>(
   rfl)
@[simp] theorem Xj(s:List Thread)(hm:s.length≤1000000000)(hx: ∀i (h:i<s.length),(s[i]).aO.length≤1000000000):ba X 147 [.sl false (s.map Thread.enc),.fn 148 [] []]=some (.bool (!ku s)):=by
 refine aN Tryz.func147 rfl rfl ?_;simp(maxSteps:=10000000) (maxDischargeDepth:=30) (implicitDefEqProofs:=false)[hm,hx,pF,ku]
@[simp] theorem Q5(ay:List Instr)(aw:List Int)(aA:List (List Int))(ae:List Int)(an:Int)(ak:List Cell)(ah:List bT)(au:List Thread)(hp:G4 (Prog.mk ay aw aA))(hm:G5 (aJ.mk (Layout.mk ae an) (aF.mk ak ah) au)):ba X 72 [.agg [.sl false (ay.map Instr.enc),.sl false (aw.map (V.int .i64)),.sl false (aA.map bE)],.agg [.sl false (ae.map (V.int .i64)),.int .u16 an,.sl false (ak.map Cell.enc),.sl false (ah.map bT.enc),.sl false (au.map Thread.enc)]]=some (.bool (jP (Prog.mk ay aw aA) (aJ.mk (Layout.mk ae an) (aF.mk ak ah) au))):=by
 refine aN Tryz.func72 rfl rfl ?_;have Sy:aw.length≤1000000000:=hp.aq;have KJ:aA.length≤1000000000:=hp.data;have Xo:ay.length≤1000000000:=hp.code;have uM:ae.length≤1000000000:=hm.aE;have wN:ak.length≤1000000000:=hm.cells;have hm3:ah.length≤1000000000:=hm.lines;have VJ: ∀i (h:i<ah.length),(ah[i]).cells.length≤1000000000:=hm.line;have hm5:au.length≤1000000000:=hm.threads;have hm6: ∀i (h:i<au.length),(au[i]).aO.length≤1000000000:=hm.aO;by_cases c1:gS (Prog.mk ay aw aA)=0
 case neg=>
  simp(maxSteps:=10000000) (maxDischargeDepth:=30) (implicitDefEqProofs:=false)[Sy,KJ,Xo,c1,jP]
 cases c2:gQ ae aw
 case false=>
  simp(maxSteps:=10000000) (maxDischargeDepth:=30) (implicitDefEqProofs:=false)[Sy,KJ,Xo,uM,c1,c2,jP]
 cases c3:yo ⟨ak,ah⟩
 case false=>
  simp(maxSteps:=10000000) (maxDischargeDepth:=30) (implicitDefEqProofs:=false)[Sy,KJ,Xo,uM,wN,hm3,VJ,c1,c2,c3,jP]
 by_cases c4i:(au.length:Int)=4
 case neg=>
  have c4: ¬au.length=4:=by omega
  simp(maxSteps:=10000000) (maxDischargeDepth:=30) (implicitDefEqProofs:=false)[Sy,KJ,Xo,uM,wN,hm3,VJ,c1,c2,c3,c4i,c4,jP]
 have c4:au.length=4:=by omega
 cases c5:ku au
 case false=>
  simp(maxSteps:=10000000) (maxDischargeDepth:=30) (implicitDefEqProofs:=false)[Sy,KJ,Xo,uM,wN,hm3,VJ,hm5,hm6,c1,c2,c3,c4,c5,jP]
 simp(maxSteps:=10000000) (maxDischargeDepth:=30) (implicitDefEqProofs:=false)[Sy,KJ,Xo,uM,wN,hm3,VJ,hm5,hm6,c1,c2,c3,c4,c5,jP]
@[simp] theorem Xp(s:List Canon)(hm:s.length≤1000000000):ba X 287 [.sl false (s.map Canon.enc),.fn 258 [] []]=some (.int .i64 (rh fN s)):=by
 refine aN Tryz.func287 rfl rfl ?_;simp(maxSteps:=10000000) (maxDischargeDepth:=30) (implicitDefEqProofs:=false)[];refine fh (fun i S=>(S.f 0= .sl false (s.map Canon.enc)∧S.f 1= .fn 258 [] []∧S.f 7= .int .i64 ((s).length:Int)∧S.f 8= .int .i64 (i:Int)∧S.n=1100)∧(fR (s.take i)=true)) (s.length) ?_ 0 (by simp) ?_
 ·rintro i S dQ ⟨eg,jn⟩;have dh:=dY i (by omega);by_cases bk:i<s.length
  ·have up:=Dw bk;rw[jn]at up;cases h:fN s[i] with
   |false=>
    have e:=rj bk jn h;simp(maxSteps:=10000000) (maxDischargeDepth:=30) (implicitDefEqProofs:=false)[eg,dQ,dh,bk,h,e]
   |true=>
    rw[h]at up;simp(maxSteps:=10000000) (maxDischargeDepth:=30) (implicitDefEqProofs:=false)[eg,dQ,dh,bk,h,up]
  ·have mP:s.length=i:=by omega
   subst mP;simp(maxSteps:=10000000) (maxDischargeDepth:=30) (implicitDefEqProofs:=false)[eg,dQ,dh,bk]<;>(
    rw[Ax]at jn;exact(pG jn).symm)
 ·simp(maxSteps:=10000000) (maxDischargeDepth:=30) (implicitDefEqProofs:=false)[]<;>(
   rfl)
@[simp] theorem Xq(s:List Canon)(hm:s.length≤1000000000):ba X 257 [.sl false (s.map Canon.enc),.fn 258 [] []]=some (.bool (!fR s)):=by
 refine aN Tryz.func257 rfl rfl ?_;simp(maxSteps:=10000000) (maxDischargeDepth:=30) (implicitDefEqProofs:=false)[hm,pF,fR]
@[simp] theorem KS(l:List Canon)(Dr:Int)(hm:l.length≤1000000000):ba X 213 [.sl false (l.map Canon.enc),.int .i64 Dr]=some (.bool (fR l&&decide ((l.length:Int)≤Dr))):=by
 refine aN Tryz.func213 rfl rfl ?_;by_cases h:(l.length:Int)≤Dr
 ·cases c:fR l<;>simp(maxSteps:=10000000) (maxDischargeDepth:=30) (implicitDefEqProofs:=false)[hm,h,c]
 ·simp(maxSteps:=10000000) (maxDischargeDepth:=30) (implicitDefEqProofs:=false)[hm,h]
@[simp] theorem G9(v from_ to:Int):ba X 212 [.int .i64 v,.int .i64 from_,.int .i64 to]=some (.bool (decide (from_≤v)&&decide (v≤to))):=by
 refine aN Tryz.func212 rfl rfl ?_;simp(maxSteps:=10000000) (maxDischargeDepth:=30) (implicitDefEqProofs:=false)[];by_cases h:from_≤v<;>simp[h];omega
@[simp] theorem KT(cm dN dO cO kT ed:Int)(bY cJ:List Canon)(h1:bY.length≤1000000000)(h2:cJ.length≤1000000000):ba X 141 [.agg [.int .i64 cm,.int .i64 dN,.int .i64 dO,.int .i64 cO,.int .i64 kT,.int .i64 ed,.sl false (bY.map Canon.enc),.sl false (cJ.map Canon.enc)]]=some (.bool (gJ (Request.mk cm dN dO cO kT ed bY cJ))):=by
 refine aN Tryz.func141 rfl rfl ?_;have mw:(cm<4)=(cm≤3):=by apply propext;omega
 by_cases c1:0≤cm
 case neg=>simp(maxSteps:=10000000) (maxDischargeDepth:=30) (implicitDefEqProofs:=false)[mw,c1,gJ]
 by_cases c2:cm≤3
 case neg=>simp(maxSteps:=10000000) (maxDischargeDepth:=30) (implicitDefEqProofs:=false)[mw,c1,c2,gJ]
 by_cases c3:0≤dN
 case neg=>simp(maxSteps:=10000000) (maxDischargeDepth:=30) (implicitDefEqProofs:=false)[mw,c1,c2,c3,gJ]
 by_cases c4:dN≤3
 case neg=>simp(maxSteps:=10000000) (maxDischargeDepth:=30) (implicitDefEqProofs:=false)[mw,c1,c2,c3,c4,gJ]
 by_cases c5:0≤dO
 case neg=>simp(maxSteps:=10000000) (maxDischargeDepth:=30) (implicitDefEqProofs:=false)[mw,c1,c2,c3,c4,c5,gJ]
 by_cases c6:dO≤6
 case neg=>simp(maxSteps:=10000000) (maxDischargeDepth:=30) (implicitDefEqProofs:=false)[mw,c1,c2,c3,c4,c5,c6,gJ]
 by_cases c7:0≤cO
 case neg=>simp(maxSteps:=10000000) (maxDischargeDepth:=30) (implicitDefEqProofs:=false)[mw,c1,c2,c3,c4,c5,c6,c7,gJ]
 by_cases c8:cO≤1099511627776
 case neg=>simp(maxSteps:=10000000) (maxDischargeDepth:=30) (implicitDefEqProofs:=false)[mw,c1,c2,c3,c4,c5,c6,c7,c8,gJ]
 by_cases c9:0≤kT
 case neg=>simp(maxSteps:=10000000) (maxDischargeDepth:=30) (implicitDefEqProofs:=false)[mw,c1,c2,c3,c4,c5,c6,c7,c8,c9,gJ]
 by_cases D7:kT≤255
 case neg=>simp(maxSteps:=10000000) (maxDischargeDepth:=30) (implicitDefEqProofs:=false)[mw,c1,c2,c3,c4,c5,c6,c7,c8,c9,D7,gJ]
 by_cases G8:0≤ed
 case neg=>simp(maxSteps:=10000000) (maxDischargeDepth:=30) (implicitDefEqProofs:=false)[mw,c1,c2,c3,c4,c5,c6,c7,c8,c9,D7,G8,gJ]
 by_cases KR:ed≤15
 case neg=>simp(maxSteps:=10000000) (maxDischargeDepth:=30) (implicitDefEqProofs:=false)[mw,c1,c2,c3,c4,c5,c6,c7,c8,c9,D7,G8,KR,gJ]
 cases PE:fR bY
 case false=>simp(maxSteps:=10000000) (maxDischargeDepth:=30) (implicitDefEqProofs:=false)[mw,c1,c2,c3,c4,c5,c6,c7,c8,c9,D7,G8,KR,PE,h1,gJ]
 by_cases Dx:(bY.length:Int)≤3
 case neg=>
  have PF: ¬bY.length≤3:=by omega
  simp(maxSteps:=10000000) (maxDischargeDepth:=30) (implicitDefEqProofs:=false)[mw,c1,c2,c3,c4,c5,c6,c7,c8,c9,D7,G8,KR,PE,Dx,PF,h1,gJ]
 have PF:bY.length≤3:=by omega
 cases Xb:fR cJ
 case false=>simp(maxSteps:=10000000) (maxDischargeDepth:=30) (implicitDefEqProofs:=false)[mw,c1,c2,c3,c4,c5,c6,c7,c8,c9,D7,G8,KR,PE,Dx,PF,Xb,h1,h2,gJ]
 by_cases Q6:(cJ.length:Int)≤16
 case neg=>
  have Zz: ¬cJ.length≤16:=by omega
  simp(maxSteps:=10000000) (maxDischargeDepth:=30) (implicitDefEqProofs:=false)[mw,c1,c2,c3,c4,c5,c6,c7,c8,c9,D7,G8,KR,PE,Dx,PF,Xb,Q6,Zz,h1,h2,gJ]
 have Zz:cJ.length≤16:=by omega
 simp(maxSteps:=10000000) (maxDischargeDepth:=30) (implicitDefEqProofs:=false)[mw,c1,c2,c3,c4,c5,c6,c7,c8,c9,D7,G8,KR,PE,Dx,PF,Xb,Q6,Zz,h1,h2,gJ]
@[simp] theorem tc(s1 s2:List Canon)(hm:s1.length≤1000000000):ba X 184 [.sl false (s1.map Canon.enc),.sl false (s2.map Canon.enc)]=some (.bool (decide (s1=s2))):=by
 refine aN Tryz.func184 rfl rfl ?_;by_cases e0:(s1.length:Int)=s2.length
 case neg=>
  have n: ¬s1=s2:=fun e=>e0 (by rw[e]);simp(maxSteps:=10000000) (maxDischargeDepth:=30) (implicitDefEqProofs:=false)[e0,n]
 have e1:s1.length=s2.length:=by omega
 simp(maxSteps:=10000000) (maxDischargeDepth:=30) (implicitDefEqProofs:=false)[e0];refine fh (fun i S=>(S.f 0= .sl false (s1.map Canon.enc)∧S.f 1= .sl false (s2.map Canon.enc)∧S.f 12= .int .i64 ((s1).length:Int)∧S.f 13= .int .i64 (i:Int)∧S.n=1100)∧(s1.take i=s2.take i)) (s1.length) ?_ 0 (by simp) ?_
 ·rintro i S dQ ⟨eg,jn⟩;have dh:=dY i (by omega);by_cases bk:i<s1.length
  ·have g1:i<s2.length:=by omega
   by_cases q:s1[i]=s2[i]
   ·have:=GZ bk g1 jn q;simp(maxSteps:=10000000) (maxDischargeDepth:=30) (implicitDefEqProofs:=false)[eg,dQ,dh,bk,g1,q,this]
   ·have: ¬s1=s2:=fun h=>q (by subst h;rfl);simp(maxSteps:=10000000) (maxDischargeDepth:=30) (implicitDefEqProofs:=false)[eg,dQ,dh,bk, -Canon.mk.injEq,g1,q,this];intro a1 a2 a3 a4;exact absurd ((Canon.eq_iff _ _).2 ⟨a1,a2,a3,a4⟩) q
  ·have mP:s1.length=i:=by omega
   subst mP;simp(maxSteps:=10000000) (maxDischargeDepth:=30) (implicitDefEqProofs:=false)[eg,dQ,dh,bk]<;>(
    exact Dn (i:=s1.length) (by omega) e1 jn)
 ·simp(maxSteps:=10000000) (maxDischargeDepth:=30) (implicitDefEqProofs:=false)[]<;>(
   first|rfl|omega|exact⟨by omega,rfl⟩)
@[simp] theorem aH(mz rm rn oH Dy rp:Int)(oW oX:List Canon)(mA rq ry oI Dz rz:Int)(qi qj:List Canon)(h1:oW.length≤1000000000)(h2:oX.length≤1000000000):ba X 112 [.agg [.int .i64 mz,.int .i64 rm,.int .i64 rn,.int .i64 oH,.int .i64 Dy,.int .i64 rp,.sl false (oW.map Canon.enc),.sl false (oX.map Canon.enc)],.agg [.int .i64 mA,.int .i64 rq,.int .i64 ry,.int .i64 oI,.int .i64 Dz,.int .i64 rz,.sl false (qi.map Canon.enc),.sl false (qj.map Canon.enc)]]=some (.bool (decide ((Request.mk mz rm rn oH Dy rp oW oX)=(Request.mk mA rq ry oI Dz rz qi qj)))):=by
 refine aN Tryz.func112 rfl rfl ?_;have key:((Request.mk mz rm rn oH Dy rp oW oX)=(Request.mk mA rq ry oI Dz rz qi qj))↔(mz=mA∧rm=rq∧rn=ry∧oH=oI∧Dy=Dz∧rp=rz∧oW=qi∧oX=qj):=by simp
 by_cases c1:mz=mA
 case neg=>simp(maxSteps:=10000000) (maxDischargeDepth:=30) (implicitDefEqProofs:=false)[c1]
 by_cases c2:rm=rq
 case neg=>simp(maxSteps:=10000000) (maxDischargeDepth:=30) (implicitDefEqProofs:=false)[c1,c2]
 by_cases c3:rn=ry
 case neg=>simp(maxSteps:=10000000) (maxDischargeDepth:=30) (implicitDefEqProofs:=false)[c1,c2,c3]
 by_cases c4:oH=oI
 case neg=>simp(maxSteps:=10000000) (maxDischargeDepth:=30) (implicitDefEqProofs:=false)[c1,c2,c3,c4]
 by_cases c5:Dy=Dz
 case neg=>simp(maxSteps:=10000000) (maxDischargeDepth:=30) (implicitDefEqProofs:=false)[c1,c2,c3,c4,c5]
 by_cases c6:rp=rz
 case neg=>simp(maxSteps:=10000000) (maxDischargeDepth:=30) (implicitDefEqProofs:=false)[c1,c2,c3,c4,c5,c6]
 by_cases c7:oW=qi
 case neg=>simp(maxSteps:=10000000) (maxDischargeDepth:=30) (implicitDefEqProofs:=false)[c1,c2,c3,c4,c5,c6,c7,h1]
 have h1b:qi.length≤1000000000:=c7▸h1;by_cases c8:oX=qj
 case neg=>simp(maxSteps:=10000000) (maxDischargeDepth:=30) (implicitDefEqProofs:=false)[c1,c2,c3,c4,c5,c6,c7,c8,h1,h1b,h2]
 have h2b:qj.length≤1000000000:=c8▸h2;simp(maxSteps:=10000000) (maxDischargeDepth:=30) (implicitDefEqProofs:=false)[c1,c2,c3,c4,c5,c6,c7,c8,h1,h1b,h2,h2b]
theorem wrap_u8{n:Int}(h:0≤n∧n≤255):IntKind.u8.wrap n=n:=by
 simp only[IntKind.wrap,IntKind.signed,IntKind.bits,Bool.false_and];simp;omega
theorem wrap_u64{n:Int}(h:0≤n∧n≤4611686018427387904):IntKind.u64.wrap n=n:=by
 simp only[IntKind.wrap,IntKind.signed,IntKind.bits,Bool.false_and];simp;omega
def pw(n:Int):Int:=2^n.toNat
theorem yq(k:Nat):pw (k:Int)=2^k:=rfl
theorem ZA: ∀k,k<16→IntKind.u16.wrap ((2:Int)^k)=2^k:=by decide+kernel
theorem afo: ∀k,k<8→IntKind.u8.wrap ((2:Int)^k)=2^k:=by decide+kernel
theorem lu(v:Int){n:Nat}(h:1≤n): ∃k:Nat,v % (n:Int)=(k:Int)∧k<n:=by
 have h1:=Int.emod_nonneg v (show(n:Int)≠0 by omega);have h2:=Int.emod_lt_of_pos v (show 0<(n:Int) by omega);exact⟨(v % (n:Int)).toNat,by omega,by omega⟩
def AA(v bit:Int):Int:=Go.Abs.bits .u16 .xor v (pw (bit % 16))
@[simp] theorem Tx(v bit:Int):ba X 99 [.int .u16 v,.int .i64 bit]=some (.int .u16 (AA v bit)):=by
 refine aN Tryz.func99 rfl rfl ?_;obtain⟨k,hk,G3⟩:=lu bit (n:=16) (by omega);have mI:bit % 16=k:=hk;have e:=pD (v:=bit) (n:=16) (by omega);have hr:bit.tmod 16=k∨bit.tmod 16=k-16:=by
  by_cases hn:bit.tmod 16<0
  ·rw[if_pos hn]at e;omega
  ·rw[if_neg hn]at e;omega
 have hw:IntKind.i64.wrap (bit.tmod 16+16)=bit.tmod 16+16:=wrap_i64 (by omega);have ht:(bit.tmod 16+16).tmod 16=k:=by
  rw[Int.tmod_eq_emod_of_nonneg (by omega)];omega
 have P6: ¬(k:Int)<0:=by omega
 have hp:=ZA k G3;have hm:min k 16=k:=by omega
 have Q3:IntKind.u16.bits=16:=rfl;unfold AA;rw[mI];simp(maxSteps:=10000000) (maxDischargeDepth:=30) (implicitDefEqProofs:=false)[hw,ht,hp,hm,Q3,P6,yq]
def nW(b:List Int)(f:bR):List Int:=
 if f.kind=6∧0<b.length then b.set (f.gP % b.length).toNat (Go.Abs.bits .u8 .xor (nth b (f.gP % b.length).toNat) (pw (f.bit % 8))) else b
@[simp] theorem uw(b:List Int)(fy cR fa dc bX df:Int)(hb:b.length≤1000000000):ba X 48 [.sl false (b.map (V.int .u8)),.agg [.int .i64 fy,.int .i64 cR,.int .i64 fa,.int .i64 dc,.int .i64 bX,.int .i64 df]]=some (.sl false ((nW b (bR.mk fy cR fa dc bX df)).map (V.int .u8))):=by
 refine aN Tryz.func48 rfl rfl ?_;have La:b.length≤140737488355328:=by omega
 have A6:b.length≤4611686018427387904:=by omega
 by_cases hk:fa=6
 case neg=>simp(maxSteps:=10000000) (maxDischargeDepth:=30) (implicitDefEqProofs:=false)[hk,La,A6,nW]
 have mI:=eq_true hk;by_cases h0:0<b.length
 case neg=>
  have h0':b=[]:=List.eq_nil_of_length_eq_zero (by omega);subst h0';simp(maxSteps:=10000000) (maxDischargeDepth:=30) (implicitDefEqProofs:=false)[mI,nW]
 obtain⟨k,e1,k1⟩:=lu bX (n:=b.length) (by omega);obtain⟨j,e2,j1⟩:=lu df (n:=8) (by omega);have e2':df % 8=j:=e2;have hp:=afo j j1;have hm:min j 8=j:=by omega
 have hb8:IntKind.u8.bits=8:=rfl;have hjn: ¬(j:Int)<0:=by omega
 have hn:1≤(b.length:Int)∧(b.length:Int)≤4611686018427387904:=by omega
 have G2:(k:Int)<b.length:=by omega
 have h0i:(0:Int)<b.length:=by omega
 have zh:=db k1;unfold nW;rw[if_pos ⟨hk,h0⟩];simp only[e1,e2',Int.toNat_natCast];simp(maxSteps:=10000000) (maxDischargeDepth:=30) (implicitDefEqProofs:=false)[mI,La,A6,h0,h0i,hn,e1,e2',hp,hm,hb8,hjn,G2,k1,zh,yq];rw[←List.map_set,aQ (by simp),vd]
def mS(f:bR):Bool:=decide (1≤f.kind)&& (decide (f.kind≤6)&& (decide (0≤f.time)&&decide (0≤f.bQ)))
@[simp] theorem PH(fy cR fa dc bX df:Int):ba X 44 [.agg [.int .i64 fy,.int .i64 cR,.int .i64 fa,.int .i64 dc,.int .i64 bX,.int .i64 df]]=some (.bool (mS (bR.mk fy cR fa dc bX df))):=by
 refine aN Tryz.func44 rfl rfl ?_;unfold mS;by_cases h1:1≤fa<;>by_cases h2:fa≤6<;>by_cases h3:0≤fy<;>simp(maxSteps:=10000000) (maxDischargeDepth:=30) (implicitDefEqProofs:=false)[h1,h2,h3]
@[simp] theorem yu(aq:List Int)(hs:aq.length≤1000)(hb: ∀x∈aq,0≤x∧x≤1000000):ba X 101 [.sl false (aq.map (V.int .i64))]=some (.int .i64 (total aq)):=by
 refine aN Tryz.func101 rfl rfl ?_;simp(maxSteps:=10000000) (maxDischargeDepth:=30) (implicitDefEqProofs:=false)[];refine fh (fun i S=>(S.f 3= .int .i64 (total (aq.take i))∧S.f 6= .sl false (aq.map (V.int .i64))∧S.f 7= .int .i64 ((aq).length:Int)∧S.f 8= .int .i64 (i:Int)∧S.n=1100)∧(0≤total (aq.take i)∧total (aq.take i)≤1000000*i)) (aq.length) ?_ 0 (by simp) ?_
 ·rintro i S dQ ⟨eg,jn⟩;have dh:=dY i (by omega);by_cases bk:i<aq.length
  ·simp(maxSteps:=10000000) (maxDischargeDepth:=30) (implicitDefEqProofs:=false)[eg,dQ,dh,bk]<;>(
    have hx:=hb _ (List.getElem_mem bk);rw[gG bk,nP];rw[wrap_i64 (by omega)];exact⟨rfl,by omega,by omega⟩)
  ·have mP:aq.length=i:=by omega
   subst mP;simp(maxSteps:=10000000) (maxDischargeDepth:=30) (implicitDefEqProofs:=false)[eg,dQ,dh,bk]
 ·simp(maxSteps:=10000000) (maxDischargeDepth:=30) (implicitDefEqProofs:=false)[]<;>(
   simp[total])
@[simp] theorem DF(aq:List Int)(i:Int)(hz:rf aq)(hi:0≤i∧i≤1000000):ba X 100 [.sl false (aq.map (V.int .i64)),.int .i64 i]=some (.cg [.agg [.int .i64 ((j7 aq i 0).1).region,.int .i64 ((j7 aq i 0).1).offset],.int .i64 ((j7 aq i 0).2)]):=by
 refine aN Tryz.func100 rfl rfl ?_;have hz':=hz.le;simp(maxSteps:=10000000) (maxDischargeDepth:=30) (implicitDefEqProofs:=false)[hi];refine fh (fun k S=>(S.f 1= .int .i64 (i-total (aq.take k))∧S.f 4= .ptr 4 0 0∧S.h 4=some ⟨2,[.agg [.int .i64 0,.int .i64 0]],true⟩∧S.f 10= .sl false (aq.map (V.int .i64))∧S.f 11= .int .i64 ((aq).length:Int)∧S.f 12= .int .i64 (k:Int)∧S.n=1100)∧(j7 aq i 0=j7 (aq.drop k) (i-total (aq.take k)) k∧0≤total (aq.take k)∧total (aq.take k)≤32*k∧total (aq.take k)≤i)) (aq.length) ?_ 0 (by simp) ?_
 ·rintro k S zX ⟨eg,jn⟩;have QP:=dY k (by omega);by_cases nm:k<aq.length
  ·have he:=hz.elem k nm;obtain⟨FU,hP2,hP3,hP4⟩:=jn;have hs:j7 (aq.drop k) (i-total (aq.take k)) k=if 0≤i-total (aq.take k)∧i-total (aq.take k)<aq[k] then(⟨k,i-total (aq.take k)⟩,0) else j7 (aq.drop (k+1)) (i-total (aq.take k)-aq[k]) (k+1):=by
    rw[drop_cons nm];rfl
   have ht:total (aq.take (k+1))=total (aq.take k)+aq[k]:=by rw[gG nm,nP]
   have hw:IntKind.i64.wrap (i-total (aq.take k)-aq[k])=i-total (aq.take k)-aq[k]:=wrap_i64 (by omega);rw[FU,hs];by_cases hc:i-total (aq.take k)<aq[k]
   ·rw[if_pos ⟨by omega,hc⟩];simp(maxSteps:=10000000) (maxDischargeDepth:=30) (implicitDefEqProofs:=false)[eg,zX,QP,nm,ht,hw,hc]
   ·rw[if_neg (fun h=>hc h.2)];have e3:i-(total (aq.take k)+aq[k])=i-total (aq.take k)-aq[k]:=by omega
    simp(maxSteps:=10000000) (maxDischargeDepth:=30) (implicitDefEqProofs:=false)[eg,zX,QP,nm,ht,hw,hc,e3];all_goals omega
  ·have Zk:aq.length=k:=by omega
   subst Zk;simp(maxSteps:=10000000) (maxDischargeDepth:=30) (implicitDefEqProofs:=false)[eg,zX,QP,nm]<;>(
    rw[jn.1];simp[j7])
 ·simp(maxSteps:=10000000) (maxDischargeDepth:=30) (implicitDefEqProofs:=false)[]<;>(
   simp[total];omega)
end Go.Proofs.YtdngefmliibcgaaGreat
