/- Part of a proof: S11. -/
import Derived.Test.YtejohpnpnaljdaaGreatM20
set_option linter.all false
set_option maxRecDepth 20000
set_option maxHeartbeats 20000000
namespace Go.Proofs.YtejohpnpnaljdaaGreat
open Go Go.Abs Go.Abs.lu
def F4(x:Thread):Bool:=decide (x.state=1)&& (decide (¬x.bV= -1)&&decide (x.saved= -1))
def xZ(x:sX):Bool:=nY x.value&& (iQ x.data&& (decide (x.data.length<=16)&& (decide (-1<=x.spawn)&&decide (x.spawn<4))))
@[simp] theorem uZ(aa:List Int)(aw:Int)(aq:List Cell)(an:List cx)(ax:List Thread)(t:Int)(ht:0<=t/\t<ax.length)(hl:ax.length=4):cz X 177 [(aa,aw,aq,an,ax),t]=some (.bool (F4 (ax.getD t.toNat da))):=by
 refine bd Tryz.func177 rfl rfl ?_;obtain⟨k,rfl⟩:=Int.eq_ofNat_of_zero_le ht.1;have hk:k<ax.length:=by omega
 have hk4:k<4:=by omega
 have v8: ¬(4:Int)<=k:=by omega
 have agc:(k:Int)<4:=by omega
 have hk0: ¬(k:Int)<0:=by omega
 have hx:ax.getD (k:Int).toNat da=ax[k]:=by simp[List.getD,hk]
 rw[hx];by_cases h1:(ax[k]).state=1
 ·have sV:=eq_true h1;by_cases h2:(ax[k]).bV= -1
  ·have E4:=eq_true h2;simp-implicitDefEqProofs[hk4,v8,agc,hk0,hl,sV,E4,F4]
  ·simp-implicitDefEqProofs[hk4,v8,agc,hk0,hl,sV,h2,F4]
 ·simp-implicitDefEqProofs[hk4,v8,agc,hk0,hl,h1,F4]
@[simp] theorem WY(cJ cL bW bX:Int)(dx:List Canon)(eg:Int)(ma:Bool)(hm:dx.length<=1000000000):cz X 211 [.agg [.int .u8 cJ,.int .u16 cL,bW,bX,dx,eg,ma]]=some (.bool (xZ (sX.mk (Canon.mk cJ cL bW bX) dx eg ma))):=by
 refine bd Tryz.func211 rfl rfl ?_;cases h1:nY (sX.mk (Canon.mk cJ cL bW bX) dx eg ma).value
 case false=>simp-implicitDefEqProofs[h1,xZ]
 cases h2:iQ dx
 case false=>simp-implicitDefEqProofs[h1,h2,hm,xZ]
 by_cases h3:(dx.length:Int)<=16
 case neg=>
  have h3n: ¬dx.length<=16:=by omega
  simp-implicitDefEqProofs[h1,h2,h3,h3n,hm,xZ]
 have h3n:dx.length<=16:=by omega
 by_cases h4: -1<=eg
 ·simp-implicitDefEqProofs[h1,h2,h3,h3n,h4,hm,xZ]
 ·simp-implicitDefEqProofs[h1,h2,h3,h3n,h4,hm,xZ]
def oK(s:State)(k:Nat):List (List Canon):=s.regions++(s.threads.take k).map (·.bm)
theorem PW{s:State}{k:Nat}(h:k<s.threads.length):oK s (k+1)=oK s k++ [(s.threads[k]).bm]:=by
 unfold oK;rw[fY h,List.map_append,<-List.append_assoc];rfl
theorem CB(s:State){k:Nat}(h:k<=s.threads.length):(oK s k).length=s.regions.length+k:=by
 unfold oK;simp;omega
@[simp] theorem WZ(bk:List (List Canon))(aQ:List View)(h1:bk.length<=1000000000)(h2:aQ.length<=1000000000):cz X 73 [.agg [bk,aQ]]=some (.sl false ((oK (State.mk bk aQ) aQ.length).map ba)):=by
 refine bd Tryz.func73 rfl rfl ?_;simp-implicitDefEqProofs;refine⟨by omega,fun _ _=> ?_⟩;refine cP (fun i S=>(S.f 3= .bU 3 0 (((oK (State.mk bk aQ) i).map ba)).length/\S.h 3=some ⟨1,((oK (State.mk bk aQ) i).map ba),false⟩/\S.f 10= .sl false (aQ.map View.e)/\S.f 11= .int .i64 ((aQ).length:Int)/\S.f 12= .int .i64 (i:Int)/\S.n=1100)/\True) (aQ.length) ?_ 0 (by simp) ?_
 ·rintro i S kY ⟨dA,hX⟩;have eY:=cS i (by omega);by_cases bI:i<aQ.length
  ·have hu:=PW (s:=(State.mk bk aQ)) bI;have hlen:=CB (State.mk bk aQ) (k:=i) (by simp only;omega);simp only at hu hlen;simp-implicitDefEqProofs[dA,eY,bI,hu];all_goals ((repeat' (first|apply And.intro|intro _))<;>first|omega|rfl)
  ·have ko:aQ.length=i:=by omega
   subst ko;simp-implicitDefEqProofs[dA]
 ·simp-implicitDefEqProofs<;>(
   simp[oK])
end Go.Proofs.YtejohpnpnaljdaaGreat
