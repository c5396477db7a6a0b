/- Part of a proof: S18. -/
import Derived.Test.YtejohpnpnaljdaaGreatM24
import Derived.Test.YtejohpnpnaljdaaGreatM29
set_option linter.all false
set_option maxRecDepth 20000
set_option maxHeartbeats 20000000
namespace Go.Proofs.YtejohpnpnaljdaaGreat
open Go Go.Abs Go.Abs.lu
@[simp] theorem ain(s:List Thread)(hm:s.length<=1000000000)(hx: ∀i (h:i<s.length),(s[i]).bm.length<=1000000000):cz X 127 [s,.fn 84 [] []]=some (.int .i64 (yd lM s)):=by
 refine bd Tryz.func127 rfl rfl ?_;simp-implicitDefEqProofs;refine cP (fun i S=>(S.f 0= .sl false (s.map Thread.e)/\S.f 1= .fn 84 [] []/\S.f 7= .int .i64 ((s).length:Int)/\S.f 8= .int .i64 (i:Int)/\S.n=1100)/\(lh (s.take i)=true)) (s.length) ?_ 0 (by simp) ?_
 ·rintro i S kY ⟨dA,hX⟩;have eY:=cS i (by omega);by_cases bI:i<s.length
  ·have g:=hx i bI;have up:=Ak bI;rw[hX]at up;cases h:lM s[i] with
   |false=>
    have e:=B9 bI hX h;simp-implicitDefEqProofs[dA,bI,g,h,e]
   |true=>
    rw[h]at up;simp-implicitDefEqProofs[dA,eY,bI,g,h,up]
  ·have ko:s.length=i:=by omega
   subst ko;simp-implicitDefEqProofs[dA]<;>(
    rw[yi]at hX;exact(zu hX).symm)
 ·simp-implicitDefEqProofs<;>(
   rfl)
@[simp] theorem aio(s:List Thread)(hm:s.length<=1000000000)(hx: ∀i (h:i<s.length),(s[i]).bm.length<=1000000000):cz X 83 [s,.fn 84 [] []]=some (.bool (!lh s)):=by
 refine bd Tryz.func83 rfl rfl ?_;simp-implicitDefEqProofs[hm,hx,zt,lh]
@[simp] theorem Zj(ay:List Instr)(ah:List Int)(az:List (List Int))(aa:List Int)(aw:Int)(aq:List Cell)(an:List cx)(ax:List Thread)(hp:rK (Prog.mk ay ah az))(hm:qA (bf.mk (aN.mk aa aw) (aK.mk aq an) ax)):cz X 34 [(ay,ah,az),(aa,aw,aq,an,ax)]=some (.bool (jc (Prog.mk ay ah az) (bf.mk (aN.mk aa aw) (aK.mk aq an) ax))):=by
 refine bd Tryz.func34 rfl rfl ?_;have Dt:ah.length<=1000000000:=hp.ae;have A9:az.length<=1000000000:=hp.data;have QU:ay.length<=1000000000:=hp.code;have rX:aa.length<=1000000000:=hm.aD;have tO:aq.length<=1000000000:=hm.cells;have M6:an.length<=1000000000:=hm.lines;have QV: ∀i (h:i<an.length),(an[i]).cells.length<=1000000000:=hm.line;have hm5:ax.length<=1000000000:=hm.threads;have hm6: ∀i (h:i<ax.length),(ax[i]).bm.length<=1000000000:=hm.bm;by_cases c1:gA (Prog.mk ay ah az)=0
 case neg=>
  simp-implicitDefEqProofs[Dt,A9,QU,c1,jc]
 cases c2:fP aa ah
 case false=>
  simp-implicitDefEqProofs[Dt,A9,QU,rX,c1,c2,jc]
 cases c3:tA ⟨aq,an⟩
 case false=>
  simp-implicitDefEqProofs[Dt,A9,QU,rX,tO,M6,QV,c1,c2,c3,jc]
 by_cases c4i:(ax.length:Int)=4
 case neg=>
  have c4: ¬ax.length=4:=by omega
  simp-implicitDefEqProofs[Dt,A9,QU,rX,tO,M6,QV,c1,c2,c3,c4i,c4,jc]
 have c4:ax.length=4:=by omega
 cases c5:lh ax
 case false=>
  simp-implicitDefEqProofs[Dt,A9,QU,rX,tO,M6,QV,hm6,c1,c2,c3,c4,c5,jc]
 simp-implicitDefEqProofs[Dt,A9,QU,rX,tO,M6,QV,hm6,c1,c2,c3,c4,c5,jc]
end Go.Proofs.YtejohpnpnaljdaaGreat
