/- Part of a proof: S10. -/
import Derived.Test.YtejohpnpnaljdaaGreatM03
import Derived.Test.YtejohpnpnaljdaaGreatM19
import Derived.Test.YtejohpnpnaljdaaGreatM21
set_option linter.all false
set_option maxRecDepth 20000
set_option maxHeartbeats 20000000
namespace Go.Proofs.YtejohpnpnaljdaaGreat
open Go Go.Abs Go.Abs.lu
structure pO (p:Prog):Prop where
 ae:mw p.ae
 len:p.data.length=p.ae.length
 data: ∀i (h:i<p.data.length) (h':i<p.ae.length),((p.data[i]).length:Int)<=p.ae[i]
 amj:1<=p.code.length
 pk:p.code.length<=64
 acb: ∀i (h:i<p.code.length),lg p.code[i]=true
 range: ∀i (h:i<p.code.length),ng p.code.length p.ae.length p.code[i]=true
theorem ID{p:Prog}(h:gA p=0):pO p:=by
 have h1:je p.ae=true:=by
  rw[<-Bool.not_eq_false];intro e;unfold gA at h;rw[if_pos e]at h;cases h
 have h2:p.data.length=p.ae.length:=by
  refine Classical.byContradiction fun e=> ?_;unfold gA at h;rw[if_neg (by simp[h1]),if_pos e]at h;cases h
 have h3:kU p p.data.length=true:=by
  rw[<-Bool.not_eq_false];intro e;rw[uO h1 h2 e]at h;cases h
 have h4: ¬p.code.length<1:=fun e=>by rw[tC h1 h2 h3 e]at h;cases h
 have h5: ¬64<p.code.length:=fun e=>by rw[uP h1 h2 h3 e]at h;cases h
 rw[rJ h1 h2 h3 h4 h5]at h;have h6:mH p.code=true:=by
  rw[<-Bool.not_eq_false];intro e;rw[if_pos e]at h;cases h
 rw[if_neg (by simp[h6])]at h;have h7:lN p.code.length p.ae.length p.code=true:=by
  rw[<-Bool.not_eq_false];intro e;rw[if_pos e]at h;cases h
 refine⟨lD.1 h1,h2,fun i hi nf=> ?_,by omega,by omega,fun i hi=> ?_,fun i hi=> ?_⟩
 ·have:=List.all_eq_true.1 h3 i (List.mem_range.2 hi);rw[cZ nf]at this;simpa[List.getD,hi] using this
 ·exact List.all_eq_true.1 h6 _ (List.getElem_mem hi)
 ·exact List.all_eq_true.1 h7 _ (List.getElem_mem hi)
theorem vM{p:Prog}(h:pO p):gA p=0:=by
 have h3:kU p p.data.length=true:=by
  unfold kU;rw[List.all_eq_true];intro i hi;have hi:=List.mem_range.1 hi;have nf:i<p.ae.length:=by have:=h.len;omega
  rw[cZ nf];simpa[List.getD,hi] using h.data i hi nf
 have h1:=h.amj;have h2:=h.pk;rw[rJ (lD.2 h.ae) h.len h3 (by omega) (by omega),if_neg,if_neg]
 ·rw[Bool.not_eq_false];unfold lN;rw[List.all_eq_true];intro x hx;obtain⟨i,hi,rfl⟩:=List.getElem_of_mem hx;exact h.range i hi
 ·rw[Bool.not_eq_false];unfold mH;rw[List.all_eq_true];intro x hx;obtain⟨i,hi,rfl⟩:=List.getElem_of_mem hx;exact h.acb i hi
def v9(cells:List Cell)(b:Nat)(d:List Int):Nat->List Cell
 |0=>cells
 |k+1=>(v9 cells b d k).set (b+k) ⟨((v9 cells b d k).getD (b+k) ⟨0,0⟩).tag,nth d k⟩
theorem M8{cells:List Cell}{b:Nat}{d:List Int}{k:Nat}(h:k<d.length):v9 cells b d (k+1)=(v9 cells b d k).set (b+k) ⟨((v9 cells b d k).getD (b+k) ⟨0,0⟩).tag,d[k]⟩:=by
 rw[v9,cZ h]
theorem IE(cells:List Cell)(b:Nat)(d:List Int)(k:Nat):(v9 cells b d k).length=cells.length:=by
 induction k with
 |zero=>rfl
 |succ k ih=>rw[v9,List.length_set,ih]
def qU(p:Prog)(aD:List Int):Nat->List Cell
 |0=>List.replicate 512 ⟨0,0⟩
 |r+1=>v9 (qU p aD r) (nth aD r).toNat (p.data.getD r []) (p.data.getD r []).length
theorem Pw(p:Prog)(aD:List Int):qU p aD 0=List.replicate 512 ⟨0,0⟩:=rfl
theorem YC(p:Prog)(aD:List Int){r:Nat}(h:r<p.data.length):qU p aD (r+1)=v9 (qU p aD r) (nth aD r).toNat p.data[r] (p.data[r]).length:=by
 rw[qU];simp[List.getD,h]
theorem IF(p:Prog)(aD:List Int)(r:Nat):(qU p aD r).length=512:=by
 induction r with
 |zero=>simp[qU]
 |succ r ih=>rw[qU,IE,ih]
theorem UZ(x:Cell)(v:Int):(Cell.e x).put 1 (.int .u16 v)=Cell.e ⟨x.tag,v⟩:=rfl
@[simp] theorem YD(ay:List Instr)(ah:List Int)(az:List (List Int))(aj:List Int)(bH:Int)(hp:pO (Prog.mk ay ah az))(hL:nr aj ah):cz X 108 [(ay,ah,az),(aj,bH)]=some (.de [.agg [.sl false (((⟨qU (Prog.mk ay ah az) aj az.length,bY⟩:aK)).cells.map Cell.e),.sl false (((⟨qU (Prog.mk ay ah az) aj az.length,bY⟩:aK)).lines.map cx.e)],.int .i64 0]):=by
 refine bd Tryz.func108 rfl rfl ?_;have hz:=hp.ae;simp only at hz;have z4:=hz.le;have hlen:az.length=ah.length:=hp.len;have hb:aj.length=ah.length:=hL.len;have ju:=lL.2 hL;have b1:aj.length<=1000000000/\ah.length<=1000000000:=by omega
 have hle:(bY.map cx.e).length=4:=rfl;simp-implicitDefEqProofs[ju,b1,hlen];refine cP (fun r S=>(S.f 2= .ptr 2 0 0/\S.h 2=some ⟨3,[.agg [ay,ah,az]],true⟩/\S.f 3= .ptr 3 0 0/\S.h 3=some ⟨2,[.agg [aj,.int .u16 bH]],true⟩/\S.f 4= .ptr 4 0 0/\S.h 4=some ⟨2,[.agg [.sl false (([]:List Cell).map Cell.e),.sl false (([]:List cx).map cx.e)]],true⟩/\S.f 6= .ptr 6 0 0/\S.h 1000=some ⟨2,(⟨qU (Prog.mk ay ah az) aj r,bY⟩:aK).cells.map Cell.e,false⟩/\S.h 6=some ⟨2,[.agg [.bU 1000 0 ((⟨qU (Prog.mk ay ah az) aj r,bY⟩:aK).cells.map Cell.e).length,.sl false ((⟨qU (Prog.mk ay ah az) aj r,bY⟩:aK).lines.map cx.e)]],true⟩/\S.f 30= .sl false (az.map aS)/\S.f 31= .int .i64 ((az).length:Int)/\S.f 32= .int .i64 (r:Int)/\S.n=1101)/\True) (az.length) ?_ 0 (by simp) ?_
 ·rintro r S hir ⟨dA,hX⟩;have QL:=cS r (by omega);by_cases FP:r<az.length
  ·have r1:r<ah.length:=by omega
   have r2:r<aj.length:=by omega
   have hd:((az[r]).length:Int)<=ah[r]:=hp.data r FP r1;have Gv: ¬ah[r]<((az[r]).length:Int):=by omega
   have JC:=hL.base r r2 r1;have hzz:=hz.elem r r1;obtain⟨b,YE⟩: ∃b:Nat,aj[r]=b:=⟨(aj[r]).toNat,by omega⟩;have jX:qU (Prog.mk ay ah az) aj (r+1)=v9 (qU (Prog.mk ay ah az) aj r) b az[r] (az[r]).length:=by
    rw[YC _ _ FP,cZ r2,YE];rfl
   have C6:=IF (Prog.mk ay ah az) aj r;simp-implicitDefEqProofs[dA,FP,r1,Gv];refine cP (fun k S=>(S.f 2= .ptr 2 0 0/\S.h 2=some ⟨3,[.agg [ay,ah,az]],true⟩/\S.f 3= .ptr 3 0 0/\S.h 3=some ⟨2,[.agg [aj,.int .u16 bH]],true⟩/\S.f 4= .ptr 4 0 0/\S.h 4=some ⟨2,[.agg [.sl false (([]:List Cell).map Cell.e),.sl false (([]:List cx).map cx.e)]],true⟩/\S.f 6= .ptr 6 0 0/\S.h 1000=some ⟨2,(⟨v9 (qU (Prog.mk ay ah az) aj r) b az[r] k,bY⟩:aK).cells.map Cell.e,false⟩/\S.h 6=some ⟨2,[.agg [.bU 1000 0 ((⟨v9 (qU (Prog.mk ay ah az) aj r) b az[r] k,bY⟩:aK).cells.map Cell.e).length,.sl false ((⟨v9 (qU (Prog.mk ay ah az) aj r) b az[r] k,bY⟩:aK).lines.map cx.e)]],true⟩/\S.f 7= .int .i64 ((r:Int))/\S.f 30= .sl false (az.map aS)/\S.f 31= .int .i64 ((az).length:Int)/\S.f 32= .int .i64 (r:Int)/\S.f 46= .sl false ((az[r]).map (V.int .u16))/\S.f 47= .int .i64 (((az[r]).length:Int))/\S.f 48= .int .i64 (k:Int)/\S.n=1101)/\True) ((az[r]).length) ?_ 0 (by simp) ?_
   ·rintro k S E6 ⟨mW,uN⟩;have DA:=cS k (by omega);by_cases jW:k<(az[r]).length
    ·have A5:=IE (qU (Prog.mk ay ah az) aj r) b az[r] k;rw[C6]at A5;have hu:=M8 (cells:=qU (Prog.mk ay ah az) aj r) (b:=b) jW;obtain⟨q,hq⟩: ∃q:Nat,b+k=q:=⟨_,rfl⟩;rw[hq]at hu;have eX:q<512:=by omega
     have yk:(q:Int)<512:=by omega
     have hw:IntKind.i64.wrap ((b:Int)+k)=(q:Int):=by rw[wrap_i64 (by omega)];omega
     simp-implicitDefEqProofs[mW,DA,jW,r2,YE,A5,eX,yk,hw,hu,UZ,List.getD]
    ·have FH:(az[r]).length=k:=by omega
     subst FH;simp-implicitDefEqProofs[FP,mW,jX,QL]
   ·simp-implicitDefEqProofs[dA]<;>(
     exact⟨rfl,rfl⟩)
  ·have her:az.length=r:=by omega
   subst her;simp-implicitDefEqProofs[dA]<;>(
    rw[hlen])
 ·simp-implicitDefEqProofs<;>(
   simp[Pw,hlen,Cell.bP])
def ez(p:Prog)(l:aN):bf:=⟨l,⟨qU p l.aD p.data.length,bY⟩,[⟨1,List.replicate 8 ⟨0,0⟩,0,0, -1, -1,0,0⟩,⟨0,List.replicate 8 ⟨0,0⟩,0,0, -1, -1,0,0⟩,⟨0,List.replicate 8 ⟨0,0⟩,0,0, -1, -1,0,0⟩,⟨0,List.replicate 8 ⟨0,0⟩,0,0, -1, -1,0,0⟩]⟩
@[simp] theorem wz(ay:List Instr)(ah:List Int)(az:List (List Int))(aj:List Int)(bH:Int)(hp:pO (Prog.mk ay ah az))(hL:nr aj ah):cz X 61 [(ay,ah,az),(aj,bH)]=some (.de [.agg [.sl false ((ez (Prog.mk ay ah az) (aN.mk aj bH)).layout.aD.map (V.int .i64)),.int .u16 (ez (Prog.mk ay ah az) (aN.mk aj bH)).layout.key,.sl false ((ez (Prog.mk ay ah az) (aN.mk aj bH)).memory.cells.map Cell.e),.sl false ((ez (Prog.mk ay ah az) (aN.mk aj bH)).memory.lines.map cx.e),.sl false ((ez (Prog.mk ay ah az) (aN.mk aj bH)).threads.map Thread.e)],.int .i64 0]):=by
 refine bd Tryz.func61 rfl rfl ?_;have hz:=hp.ae;simp only at hz;have z4:=hz.le;have hlen:az.length=ah.length:=hp.len;have hb:aj.length=ah.length:=hL.len;have ju:=lL.2 hL;have qp:gA (Prog.mk ay ah az)=0:=vM hp;have QX:ay.length<=64:=hp.pk;have b1:aj.length<=1000000000/\ah.length<=1000000000:=by omega
 have b2:az.length<=1000000000:=by omega
 have b3:ay.length<=1000000000:=by omega
 have b4:aj.length<=4:=by omega
 simp-implicitDefEqProofs[di,hp,hL,ju,qp,b1,b2,b3,ez];all_goals ((repeat' (first|apply And.intro|intro _))<;>first|omega|rfl)
structure Ar (v:View):Prop where
 state:0<=v.state/\v.state<=4
 pc:0<=v.pc/\v.pc<=255
 count:0<=v.count/\v.count<=1099511627776
 bV: -1<=v.bV/\v.bV<=255
 saved: -1<=v.saved/\v.saved<=255
 dd:0<=v.dd/\v.dd<=6
 bm:v.bm.length=8
 ana:iQ v.bm=true
structure LS (p:Prog) (s:State):Prop where
 regions:s.regions.length=p.ae.length
 region: ∀i (h:i<s.regions.length) (h':i<p.ae.length),((s.regions[i]).length:Int)=p.ae[i]/\iQ s.regions[i]=true
 threads:s.threads.length=4
 view: ∀i (h:i<s.threads.length),Ar s.threads[i]
@[simp] theorem Q3(l:List View)(hl:l.length=4)(hv: ∀i (h:i<l.length),Ar l[i]):cz X 121 [l]=some (.bool true):=by
 refine bd Tryz.func121 rfl rfl ?_;simp-implicitDefEqProofs;refine cP (fun i S=>(S.f 0= .sl false (l.map View.e)/\S.f 6= .sl false (l.map View.e)/\S.f 7= .int .i64 ((l).length:Int)/\S.f 8= .int .i64 (i:Int)/\S.n=1100)/\True) (l.length) ?_ 0 (by simp) ?_
 ·rintro i S kY ⟨dA,hX⟩;have eY:=cS i (by omega);by_cases bI:i<l.length
  ·obtain⟨⟨a1,a2⟩,⟨b1,b2⟩,⟨c1,c2⟩,⟨d1,d2⟩,⟨e1,e2⟩,⟨f1,f2⟩,g1,g2⟩:=hv i bI;have g3:(l[i]).bm.length<=1000000000:=by omega
   simp-implicitDefEqProofs[dA,eY,bI,a1,a2,b1,b2,c1,c2,d1,d2,e1,e2,f1,f2,g1,g2]
  ·have ko:l.length=i:=by omega
   subst ko;simp-implicitDefEqProofs[dA]<;>(
    omega)
 ·simp-implicitDefEqProofs<;>(
   trivial)
@[simp] theorem W0(ay:List Instr)(ah:List Int)(az:List (List Int))(bk:List (List Canon))(aQ:List View)(hp:pO (Prog.mk ay ah az))(hs:LS (Prog.mk ay ah az) (State.mk bk aQ)):cz X 75 [(ay,ah,az),.agg [bk,aQ]]=some (.bool true):=by
 refine bd Tryz.func75 rfl rfl ?_;have hz:mw ah:=hp.ae;have z4:=hz.le;have hlen:az.length=ah.length:=hp.len;have qp:gA (Prog.mk ay ah az)=0:=vM hp;have QX:ay.length<=64:=hp.pk;have b1:ah.length<=1000000000:=by omega
 have b2:az.length<=1000000000:=by omega
 have b3:ay.length<=1000000000:=by omega
 have r1:bk.length=ah.length:=hs.regions;have r2:=hs.region;have r3:aQ.length=4:=hs.threads;have r4:=hs.view;simp only at r2 r4;have r1i:(bk.length:Int)=ah.length:=by omega
 simp-implicitDefEqProofs[qp,b1,b2,b3,r1i,r3,r4];refine cP (fun i S=>(S.f 2= .ptr 2 0 0/\S.h 2=some ⟨3,[.agg [ay,ah,az]],true⟩/\S.f 26= .sl false (bk.map ba)/\S.f 27= .int .i64 ((bk).length:Int)/\S.f 28= .int .i64 (i:Int)/\S.n=1100)/\True) (bk.length) ?_ 0 (by simp) ?_
 ·rintro i S kY ⟨dA,hX⟩;have eY:=cS i (by omega);by_cases bI:i<bk.length
  ·have q1:i<ah.length:=by omega
   obtain⟨q2,q3⟩:=r2 i bI q1;have q4:=hz.elem i q1;have q5:(bk[i]).length<=1000000000:=by omega
   have q6:((bk[i]).length:Int)<=32:=by omega
   simp-implicitDefEqProofs[dA,eY,bI,q1,q2,q3,q5,q4];try omega
  ·have ko:bk.length=i:=by omega
   subst ko;simp-implicitDefEqProofs[dA]
 ·simp-implicitDefEqProofs<;>(
   first|trivial|omega|(constructor<;>first|omega|trivial))
end Go.Proofs.YtejohpnpnaljdaaGreat
