/- Part of a proof: D4. -/
import Derived.Test.YtejohpnpnaljdaaGreatM20
import Derived.Test.YtejohpnpnaljdaaGreatM22
import Derived.Test.YtejohpnpnaljdaaGreatM23
import Derived.Test.YtejohpnpnaljdaaGreatM24
import Derived.Test.YtejohpnpnaljdaaGreatM38
import Derived.Test.YtejohpnpnaljdaaGreatM43
import Derived.Test.YtejohpnpnaljdaaGreatM44
set_option linter.all false
set_option maxRecDepth 20000
set_option maxHeartbeats 20000000
namespace Go.Proofs.YtejohpnpnaljdaaGreat
open Go Go.Abs Go.Abs.lu
theorem iY(l:List Int)(k:Int){n:Int}(h:0<=n):((iM l k n).length:Int)<=n:=by
 unfold iM;rw[Av];have:=dC l k (n:=n+1) (by omega);omega
def wD(l:List Int)(k:Int):Int:=lQ l k 5
def wE(l:List Int)(k:Int):Int:=lQ l (wD l k) 3
def wF(l:List Int)(k:Int):Int:=lQ l (wE l k) 8
def Ay(l:List Int)(k:Int):Int:=lQ l (wF l k) 4
def Az(l:List Int)(k:Int):Int:=lQ l (Ay l k) 5
def Jc(l:List Int)(k:Int):Int:=lQ l (Az l k) 5
def rQ(l:List Int)(k:Int):cN:=yz [iM l k 5,iM l (wD l k) 3] [iM l (wE l k) 8,iM l (wF l k) 4] (iM l (Ay l k) 5) (iM l (Az l k) 5)
@[simp] theorem VM{l:List Int}{k:Int}(h:dr l k):dr l (Jc l k):=kD (kD (kD (kD (kD (kD h)))))
theorem VN(l:List Int)(k:Int):sJ (rQ l k):=by
 have a1:=iY l k (n:=5) (by omega);have a2:=iY l (wD l k) (n:=3) (by omega);have a3:=iY l (wE l k) (n:=8) (by omega);have a4:=iY l (wF l k) (n:=4) (by omega);have a5:=iY l (Ay l k) (n:=5) (by omega);have a6:=iY l (Az l k) (n:=5) (by omega);refine Nc (by simp) (fun i h=> ?_) (by simp) (fun i h=> ?_) (by omega) (by omega)
 ·have:i=0\/i=1:=by simp at h;omega
  rcases this with rfl|rfl
  ·simp;omega
  ·simp;omega
 ·have:i=0\/i=1:=by simp at h;omega
  rcases this with rfl|rfl
  ·simp;omega
  ·simp;omega
@[simp] theorem we(bK:List Int)(aV:Int)(hd:dr bK aV):lZ X ([]) 135 2 (aV,bK) []=some (2,.agg [.sl false ((⟨bK,Jc bK aV⟩:mh).l.map (V.int .i64)),.int .i64 (⟨bK,Jc bK aV⟩:mh).time],[.agg [.sl false ((rQ bK aV).clock.map (V.int .u16)),.sl false ((rQ bK aV).random.map (V.int .u16)),.sl false ((rQ bK aV).cO.map aS),.sl false ((rQ bK aV).files.data.map ba),.sl false ((rQ bK aV).files.opens.map dT.e),.sl false ((rQ bK aV).cT.map Output.e)]],.bad):=by
 refine dN Tryz.func135 rfl rfl ?_;have a1:=iY bK aV (n:=5) (by omega);have a2:=iY bK (wD bK aV) (n:=3) (by omega);have a3:=iY bK (wE bK aV) (n:=8) (by omega);have a4:=iY bK (wF bK aV) (n:=4) (by omega);have a5:=iY bK (Ay bK aV) (n:=5) (by omega);have a6:=iY bK (Az bK aV) (n:=5) (by omega);have e1:lQ bK aV 5=wD bK aV:=rfl;have e2:lQ bK (wD bK aV) 3=wE bK aV:=rfl;have e3:lQ bK (wE bK aV) 8=wF bK aV:=rfl;have e4:lQ bK (wF bK aV) 4=Ay bK aV:=rfl;have e5:lQ bK (Ay bK aV) 5=Az bK aV:=rfl;have e6:lQ bK (Az bK aV) 5=Jc bK aV:=rfl;have d1:dr bK (wD bK aV):=kD hd;have d2:dr bK (wE bK aV):=kD d1;have d3:dr bK (wF bK aV):=kD d2;have d4:dr bK (Ay bK aV):=kD d3;have d5:dr bK (Az bK aV):=kD d4;have hf: ∀i (h:i< [iM bK aV 5,iM bK (wD bK aV) 3].length),([iM bK aV 5,iM bK (wD bK aV) 3][i]).length<=64:=fun i h=>by
  have:i=0\/i=1:=by simp at h;omega
  rcases this with rfl|rfl
  ·simp;omega
  ·simp;omega
 have hi: ∀i (h:i< [iM bK (wE bK aV) 8,iM bK (wF bK aV) 4].length),([iM bK (wE bK aV) 8,iM bK (wF bK aV) 4][i]).length<=64:=fun i h=>by
  have:i=0\/i=1:=by simp at h;omega
  rcases this with rfl|rfl
  ·simp;omega
  ·simp;omega
 have key:=DI [iM bK aV 5,iM bK (wD bK aV) 3] [iM bK (wE bK aV) 8,iM bK (wF bK aV) 4] (iM bK (Ay bK aV) 5) (iM bK (Az bK aV) 5) (by simp) hf (by simp) hi (by omega) (by omega);simp only[List.map_cons,List.map_nil,aS]at key;simp-implicitDefEqProofs[hd,d1,d2,d3,d4,d5,e1,e2,e3,e4,e5,e6,key,rQ]
theorem dz{ae:List Int}{cD:Int}{k r:Nat}{bs:List Int}{at_:Int}(h:((k:Int)+cD) % ae.length=(r:Int)):B7 ae cD (bs,at_) k=(bs.set r at_,at_+nth ae r+1+cD/ (50*ae.length) % 40):=by
 unfold B7;rw[h];rfl
theorem anj(a cD q g:Int)(hs:cD % 1=0)(hq:1+cD/ (1:Int) % 50=q)(hg:cD/ (50*(1:Int)) % 40=g):dP [a] cD=[q]:=by
 have hl:([a]:List Int).length=1:=rfl;have pN:((([a]:List Int).length:Nat):Int)=1:=rfl;have A8:cD/ (50*((([a]:List Int).length:Nat):Int)) % 40=g:=by rw[pN];exact hg
 have e0:lx [a] cD 0=(List.replicate 1 0,q):=by unfold lx;rw[<-hq];rfl
 unfold dP;rw[hl,fm,e0];rw[dz (k:=0) (r:=0) (by rw[pN];omega)];simp only[A8];rfl
theorem ank(a b cD q g:Int)(hs:cD % 2=0)(hq:1+cD/ (2:Int) % 50=q)(hg:cD/ (50*(2:Int)) % 40=g):dP [a,b] cD=[q,q+a+1+g]:=by
 have hl:([a,b]:List Int).length=2:=rfl;have pN:((([a,b]:List Int).length:Nat):Int)=2:=rfl;have A8:cD/ (50*((([a,b]:List Int).length:Nat):Int)) % 40=g:=by rw[pN];exact hg
 have e0:lx [a,b] cD 0=(List.replicate 2 0,q):=by unfold lx;rw[<-hq];rfl
 unfold dP;rw[hl,fm,fm,e0];rw[dz (k:=0) (r:=0) (by rw[pN];omega)];rw[dz (k:=1) (r:=1) (by rw[pN];omega)];simp only[A8];rfl
theorem anl(a b cD q g:Int)(hs:cD % 2=1)(hq:1+cD/ (2:Int) % 50=q)(hg:cD/ (50*(2:Int)) % 40=g):dP [a,b] cD=[q+b+1+g,q]:=by
 have hl:([a,b]:List Int).length=2:=rfl;have pN:((([a,b]:List Int).length:Nat):Int)=2:=rfl;have A8:cD/ (50*((([a,b]:List Int).length:Nat):Int)) % 40=g:=by rw[pN];exact hg
 have e0:lx [a,b] cD 0=(List.replicate 2 0,q):=by unfold lx;rw[<-hq];rfl
 unfold dP;rw[hl,fm,fm,e0];rw[dz (k:=0) (r:=1) (by rw[pN];omega)];rw[dz (k:=1) (r:=0) (by rw[pN];omega)];simp only[A8];rfl
theorem anm(a b c cD q g:Int)(hs:cD % 3=0)(hq:1+cD/ (3:Int) % 50=q)(hg:cD/ (50*(3:Int)) % 40=g):dP [a,b,c] cD=[q,q+a+1+g,q+a+1+g+b+1+g]:=by
 have hl:([a,b,c]:List Int).length=3:=rfl;have pN:((([a,b,c]:List Int).length:Nat):Int)=3:=rfl;have A8:cD/ (50*((([a,b,c]:List Int).length:Nat):Int)) % 40=g:=by rw[pN];exact hg
 have e0:lx [a,b,c] cD 0=(List.replicate 3 0,q):=by unfold lx;rw[<-hq];rfl
 unfold dP;rw[hl,fm,fm,fm,e0];rw[dz (k:=0) (r:=0) (by rw[pN];omega)];rw[dz (k:=1) (r:=1) (by rw[pN];omega)];rw[dz (k:=2) (r:=2) (by rw[pN];omega)];simp only[A8];rfl
theorem ann(a b c cD q g:Int)(hs:cD % 3=1)(hq:1+cD/ (3:Int) % 50=q)(hg:cD/ (50*(3:Int)) % 40=g):dP [a,b,c] cD=[q+b+1+g+c+1+g,q,q+b+1+g]:=by
 have hl:([a,b,c]:List Int).length=3:=rfl;have pN:((([a,b,c]:List Int).length:Nat):Int)=3:=rfl;have A8:cD/ (50*((([a,b,c]:List Int).length:Nat):Int)) % 40=g:=by rw[pN];exact hg
 have e0:lx [a,b,c] cD 0=(List.replicate 3 0,q):=by unfold lx;rw[<-hq];rfl
 unfold dP;rw[hl,fm,fm,fm,e0];rw[dz (k:=0) (r:=1) (by rw[pN];omega)];rw[dz (k:=1) (r:=2) (by rw[pN];omega)];rw[dz (k:=2) (r:=0) (by rw[pN];omega)];simp only[A8];rfl
theorem ano(a b c cD q g:Int)(hs:cD % 3=2)(hq:1+cD/ (3:Int) % 50=q)(hg:cD/ (50*(3:Int)) % 40=g):dP [a,b,c] cD=[q+c+1+g,q+c+1+g+a+1+g,q]:=by
 have hl:([a,b,c]:List Int).length=3:=rfl;have pN:((([a,b,c]:List Int).length:Nat):Int)=3:=rfl;have A8:cD/ (50*((([a,b,c]:List Int).length:Nat):Int)) % 40=g:=by rw[pN];exact hg
 have e0:lx [a,b,c] cD 0=(List.replicate 3 0,q):=by unfold lx;rw[<-hq];rfl
 unfold dP;rw[hl,fm,fm,fm,e0];rw[dz (k:=0) (r:=2) (by rw[pN];omega)];rw[dz (k:=1) (r:=0) (by rw[pN];omega)];rw[dz (k:=2) (r:=1) (by rw[pN];omega)];simp only[A8];rfl
theorem anp(a b c d cD q g:Int)(hs:cD % 4=0)(hq:1+cD/ (4:Int) % 50=q)(hg:cD/ (50*(4:Int)) % 40=g):dP [a,b,c,d] cD=[q,q+a+1+g,q+a+1+g+b+1+g,q+a+1+g+b+1+g+c+1+g]:=by
 have hl:([a,b,c,d]:List Int).length=4:=rfl;have pN:((([a,b,c,d]:List Int).length:Nat):Int)=4:=rfl;have A8:cD/ (50*((([a,b,c,d]:List Int).length:Nat):Int)) % 40=g:=by rw[pN];exact hg
 have e0:lx [a,b,c,d] cD 0=(List.replicate 4 0,q):=by unfold lx;rw[<-hq];rfl
 unfold dP;rw[hl,fm,fm,fm,fm,e0];rw[dz (k:=0) (r:=0) (by rw[pN];omega)];rw[dz (k:=1) (r:=1) (by rw[pN];omega)];rw[dz (k:=2) (r:=2) (by rw[pN];omega)];rw[dz (k:=3) (r:=3) (by rw[pN];omega)];simp only[A8];rfl
theorem anq(a b c d cD q g:Int)(hs:cD % 4=1)(hq:1+cD/ (4:Int) % 50=q)(hg:cD/ (50*(4:Int)) % 40=g):dP [a,b,c,d] cD=[q+b+1+g+c+1+g+d+1+g,q,q+b+1+g,q+b+1+g+c+1+g]:=by
 have hl:([a,b,c,d]:List Int).length=4:=rfl;have pN:((([a,b,c,d]:List Int).length:Nat):Int)=4:=rfl;have A8:cD/ (50*((([a,b,c,d]:List Int).length:Nat):Int)) % 40=g:=by rw[pN];exact hg
 have e0:lx [a,b,c,d] cD 0=(List.replicate 4 0,q):=by unfold lx;rw[<-hq];rfl
 unfold dP;rw[hl,fm,fm,fm,fm,e0];rw[dz (k:=0) (r:=1) (by rw[pN];omega)];rw[dz (k:=1) (r:=2) (by rw[pN];omega)];rw[dz (k:=2) (r:=3) (by rw[pN];omega)];rw[dz (k:=3) (r:=0) (by rw[pN];omega)];simp only[A8];rfl
theorem anr(a b c d cD q g:Int)(hs:cD % 4=2)(hq:1+cD/ (4:Int) % 50=q)(hg:cD/ (50*(4:Int)) % 40=g):dP [a,b,c,d] cD=[q+c+1+g+d+1+g,q+c+1+g+d+1+g+a+1+g,q,q+c+1+g]:=by
 have hl:([a,b,c,d]:List Int).length=4:=rfl;have pN:((([a,b,c,d]:List Int).length:Nat):Int)=4:=rfl;have A8:cD/ (50*((([a,b,c,d]:List Int).length:Nat):Int)) % 40=g:=by rw[pN];exact hg
 have e0:lx [a,b,c,d] cD 0=(List.replicate 4 0,q):=by unfold lx;rw[<-hq];rfl
 unfold dP;rw[hl,fm,fm,fm,fm,e0];rw[dz (k:=0) (r:=2) (by rw[pN];omega)];rw[dz (k:=1) (r:=3) (by rw[pN];omega)];rw[dz (k:=2) (r:=0) (by rw[pN];omega)];rw[dz (k:=3) (r:=1) (by rw[pN];omega)];simp only[A8];rfl
theorem ans(a b c d cD q g:Int)(hs:cD % 4=3)(hq:1+cD/ (4:Int) % 50=q)(hg:cD/ (50*(4:Int)) % 40=g):dP [a,b,c,d] cD=[q+d+1+g,q+d+1+g+a+1+g,q+d+1+g+a+1+g+b+1+g,q]:=by
 have hl:([a,b,c,d]:List Int).length=4:=rfl;have pN:((([a,b,c,d]:List Int).length:Nat):Int)=4:=rfl;have A8:cD/ (50*((([a,b,c,d]:List Int).length:Nat):Int)) % 40=g:=by rw[pN];exact hg
 have e0:lx [a,b,c,d] cD 0=(List.replicate 4 0,q):=by unfold lx;rw[<-hq];rfl
 unfold dP;rw[hl,fm,fm,fm,fm,e0];rw[dz (k:=0) (r:=3) (by rw[pN];omega)];rw[dz (k:=1) (r:=0) (by rw[pN];omega)];rw[dz (k:=2) (r:=1) (by rw[pN];omega)];rw[dz (k:=3) (r:=2) (by rw[pN];omega)];simp only[A8];rfl
theorem F9{ae:List Int}{cD:Int}(hz:mw ae)(hs:0<=cD):nr (dP ae cD) ae:=by
 have L2:=hz;obtain⟨h1,h2,h3⟩:=hz;have g0: ∀n:Int,0<=cD/n % 50/\cD/n % 50<=49:=fun n=>by omega
 have g1: ∀n:Int,0<=cD/n % 40/\cD/n % 40<=39:=fun n=>by omega
 match ae,L2,h1,h2,h3 with
 | [],_,_,h2,_=>simp at h2
 |_::_::_::_::_::_,_,_,_,h3=>simp at h3
 | [a],L2,h1,_,_=>
  obtain⟨q,hq⟩: ∃q,1+cD/ (1:Int) % 50=q:=⟨_,rfl⟩;obtain⟨g,hg⟩: ∃g,cD/ (50*(1:Int)) % 40=g:=⟨_,rfl⟩;have q0:=g0 1;have q1:=g1 (50*1);rw[hg]at q1;have ha:1<=a/\a<=32:=h1 0 (by simp);have hm:cD % 1=0:=by omega
  rcases hm with hm
  ·rw[anj a cD q g hm hq hg];refine⟨L2,rfl,fun i hi nf=> ?_,fun i j hi nf hj y9 jk=> ?_⟩
   ·have:i=0:=by simp at hi;omega
    rcases this with rfl<;>simp<;>omega
   ·have:i=0:=by simp at hi;omega
    have:j=0:=by simp at hj;omega
    rcases ‹i=0› with rfl<;>rcases ‹j=0› with rfl<;>first|(exact absurd rfl jk)|(simp;omega)
 | [a,b],L2,h1,_,_=>
  obtain⟨q,hq⟩: ∃q,1+cD/ (2:Int) % 50=q:=⟨_,rfl⟩;obtain⟨g,hg⟩: ∃g,cD/ (50*(2:Int)) % 40=g:=⟨_,rfl⟩;have q0:=g0 2;have q1:=g1 (50*2);rw[hg]at q1;have ha:1<=a/\a<=32:=h1 0 (by simp);have hb:1<=b/\b<=32:=h1 1 (by simp);have hm:cD % 2=0\/cD % 2=1:=by omega
  rcases hm with hm|hm
  ·rw[ank a b cD q g hm hq hg];refine⟨L2,rfl,fun i hi nf=> ?_,fun i j hi nf hj y9 jk=> ?_⟩
   ·have:i=0\/i=1:=by simp at hi;omega
    rcases this with rfl|rfl<;>simp<;>omega
   ·have:i=0\/i=1:=by simp at hi;omega
    have:j=0\/j=1:=by simp at hj;omega
    rcases ‹i=0\/i=1› with rfl|rfl<;>rcases ‹j=0\/j=1› with rfl|rfl<;>first|(exact absurd rfl jk)|(simp;omega)
  ·rw[anl a b cD q g hm hq hg];refine⟨L2,rfl,fun i hi nf=> ?_,fun i j hi nf hj y9 jk=> ?_⟩
   ·have:i=0\/i=1:=by simp at hi;omega
    rcases this with rfl|rfl<;>simp<;>omega
   ·have:i=0\/i=1:=by simp at hi;omega
    have:j=0\/j=1:=by simp at hj;omega
    rcases ‹i=0\/i=1› with rfl|rfl<;>rcases ‹j=0\/j=1› with rfl|rfl<;>first|(exact absurd rfl jk)|(simp;omega)
 | [a,b,c],L2,h1,_,_=>
  obtain⟨q,hq⟩: ∃q,1+cD/ (3:Int) % 50=q:=⟨_,rfl⟩;obtain⟨g,hg⟩: ∃g,cD/ (50*(3:Int)) % 40=g:=⟨_,rfl⟩;have q0:=g0 3;have q1:=g1 (50*3);rw[hg]at q1;have ha:1<=a/\a<=32:=h1 0 (by simp);have hb:1<=b/\b<=32:=h1 1 (by simp);have hc:1<=c/\c<=32:=h1 2 (by simp);have hm:cD % 3=0\/cD % 3=1\/cD % 3=2:=by omega
  rcases hm with hm|hm|hm
  ·rw[anm a b c cD q g hm hq hg];refine⟨L2,rfl,fun i hi nf=> ?_,fun i j hi nf hj y9 jk=> ?_⟩
   ·have:i=0\/i=1\/i=2:=by simp at hi;omega
    rcases this with rfl|rfl|rfl<;>simp<;>omega
   ·have:i=0\/i=1\/i=2:=by simp at hi;omega
    have:j=0\/j=1\/j=2:=by simp at hj;omega
    rcases ‹i=0\/i=1\/i=2› with rfl|rfl|rfl<;>rcases ‹j=0\/j=1\/j=2› with rfl|rfl|rfl<;>first|(exact absurd rfl jk)|(simp;omega)
  ·rw[ann a b c cD q g hm hq hg];refine⟨L2,rfl,fun i hi nf=> ?_,fun i j hi nf hj y9 jk=> ?_⟩
   ·have:i=0\/i=1\/i=2:=by simp at hi;omega
    rcases this with rfl|rfl|rfl<;>simp<;>omega
   ·have:i=0\/i=1\/i=2:=by simp at hi;omega
    have:j=0\/j=1\/j=2:=by simp at hj;omega
    rcases ‹i=0\/i=1\/i=2› with rfl|rfl|rfl<;>rcases ‹j=0\/j=1\/j=2› with rfl|rfl|rfl<;>first|(exact absurd rfl jk)|(simp;omega)
  ·rw[ano a b c cD q g hm hq hg];refine⟨L2,rfl,fun i hi nf=> ?_,fun i j hi nf hj y9 jk=> ?_⟩
   ·have:i=0\/i=1\/i=2:=by simp at hi;omega
    rcases this with rfl|rfl|rfl<;>simp<;>omega
   ·have:i=0\/i=1\/i=2:=by simp at hi;omega
    have:j=0\/j=1\/j=2:=by simp at hj;omega
    rcases ‹i=0\/i=1\/i=2› with rfl|rfl|rfl<;>rcases ‹j=0\/j=1\/j=2› with rfl|rfl|rfl<;>first|(exact absurd rfl jk)|(simp;omega)
 | [a,b,c,d],L2,h1,_,_=>
  obtain⟨q,hq⟩: ∃q,1+cD/ (4:Int) % 50=q:=⟨_,rfl⟩;obtain⟨g,hg⟩: ∃g,cD/ (50*(4:Int)) % 40=g:=⟨_,rfl⟩;have q0:=g0 4;have q1:=g1 (50*4);rw[hg]at q1;have ha:1<=a/\a<=32:=h1 0 (by simp);have hb:1<=b/\b<=32:=h1 1 (by simp);have hc:1<=c/\c<=32:=h1 2 (by simp);have hd:1<=d/\d<=32:=h1 3 (by simp);have hm:cD % 4=0\/cD % 4=1\/cD % 4=2\/cD % 4=3:=by omega
  rcases hm with hm|hm|hm|hm
  ·rw[anp a b c d cD q g hm hq hg];refine⟨L2,rfl,fun i hi nf=> ?_,fun i j hi nf hj y9 jk=> ?_⟩
   ·have:i=0\/i=1\/i=2\/i=3:=by simp at hi;omega
    rcases this with rfl|rfl|rfl|rfl<;>simp<;>omega
   ·have:i=0\/i=1\/i=2\/i=3:=by simp at hi;omega
    have:j=0\/j=1\/j=2\/j=3:=by simp at hj;omega
    rcases ‹i=0\/i=1\/i=2\/i=3› with rfl|rfl|rfl|rfl<;>rcases ‹j=0\/j=1\/j=2\/j=3› with rfl|rfl|rfl|rfl<;>first|(exact absurd rfl jk)|(simp;omega)
  ·rw[anq a b c d cD q g hm hq hg];refine⟨L2,rfl,fun i hi nf=> ?_,fun i j hi nf hj y9 jk=> ?_⟩
   ·have:i=0\/i=1\/i=2\/i=3:=by simp at hi;omega
    rcases this with rfl|rfl|rfl|rfl<;>simp<;>omega
   ·have:i=0\/i=1\/i=2\/i=3:=by simp at hi;omega
    have:j=0\/j=1\/j=2\/j=3:=by simp at hj;omega
    rcases ‹i=0\/i=1\/i=2\/i=3› with rfl|rfl|rfl|rfl<;>rcases ‹j=0\/j=1\/j=2\/j=3› with rfl|rfl|rfl|rfl<;>first|(exact absurd rfl jk)|(simp;omega)
  ·rw[anr a b c d cD q g hm hq hg];refine⟨L2,rfl,fun i hi nf=> ?_,fun i j hi nf hj y9 jk=> ?_⟩
   ·have:i=0\/i=1\/i=2\/i=3:=by simp at hi;omega
    rcases this with rfl|rfl|rfl|rfl<;>simp<;>omega
   ·have:i=0\/i=1\/i=2\/i=3:=by simp at hi;omega
    have:j=0\/j=1\/j=2\/j=3:=by simp at hj;omega
    rcases ‹i=0\/i=1\/i=2\/i=3› with rfl|rfl|rfl|rfl<;>rcases ‹j=0\/j=1\/j=2\/j=3› with rfl|rfl|rfl|rfl<;>first|(exact absurd rfl jk)|(simp;omega)
  ·rw[ans a b c d cD q g hm hq hg];refine⟨L2,rfl,fun i hi nf=> ?_,fun i j hi nf hj y9 jk=> ?_⟩
   ·have:i=0\/i=1\/i=2\/i=3:=by simp at hi;omega
    rcases this with rfl|rfl|rfl|rfl<;>simp<;>omega
   ·have:i=0\/i=1\/i=2\/i=3:=by simp at hi;omega
    have:j=0\/j=1\/j=2\/j=3:=by simp at hj;omega
    rcases ‹i=0\/i=1\/i=2\/i=3› with rfl|rfl|rfl|rfl<;>rcases ‹j=0\/j=1\/j=2\/j=3› with rfl|rfl|rfl|rfl<;>first|(exact absurd rfl jk)|(simp;omega)
structure yN (n:Nat) (i:Instr):Prop where
 op:0<=i.op/\i.op<=24
 a:0<=i.a/\i.a<8/\(fv i.op 0=false->i.a=0)
 b:0<=i.b/\i.b<8/\(fv i.op 1=false->i.b=0)
 c:0<=i.c/\i.c<8/\(fv i.op 2=false->i.c=0)
 dy:0<=i.dy/\i.dy<=65535/\(fv i.op 3=false->i.dy=0)
 lea:i.op=15->i.dy<n
 sys:i.op=23->i.dy<=15
theorem P7{N:Int}{i:Instr}(h:jumps i.op=true):(se N i).dy=if N<=i.dy then 0 else i.dy:=by
 unfold se;by_cases g:N<=i.dy
 ·rw[if_pos ⟨h,g⟩,if_pos g]
 ·rw[if_neg (fun q=>g q.2),if_neg g]
theorem Jd(N:Int)(i:Instr):(se N i).op=i.op/\(se N i).a=i.a/\(se N i).b=i.b/\(se N i).c=i.c:=by
 unfold se;split<;>exact⟨rfl,rfl,rfl,rfl⟩
theorem L3{op:Int}(h:jumps op=true):fv op 3=true:=by
 unfold jumps at h;simp at h;rcases h with((rfl|rfl)|rfl)|rfl<;>rfl
theorem yN.fix{n:Nat}{i:Instr}(H:yN n i)(hn:n<=4){N:Nat}(h1:1<=N)(h2:N<=64):lg (se N i)=true/\ng N n (se N i)=true:=by
 obtain⟨e1,e2,e3,e4⟩:=Jd N i;obtain⟨f1,⟨f2,f3,f4⟩,⟨f5,f6,f7⟩,⟨f8,f9,f10⟩,⟨f11,f12,f13⟩,f14,f15⟩:=H;have hi:0<=(se N i).dy/\(se N i).dy<=i.dy:=by
  unfold se;split
  ·simp only;omega
  ·omega
 have hj:jumps i.op=true->(se N i).dy<N:=fun h=>by rw[P7 h];split<;>omega
 constructor
 ·unfold lg;rw[e1,e2,e3,e4];rw[if_neg (by omega),if_neg (by
   intro h;rcases h with h|h|h; · omega
   ·omega
   ·exact h.2 (f4 h.1)),if_neg (by
    intro h;rcases h with h|h|h; · omega
    ·omega
    ·exact h.2 (f7 h.1)),if_neg (by
     intro h;rcases h with h|h|h; · omega
     ·omega
     ·exact h.2 (f10 h.1)),if_neg (by
   intro h;rcases h with h|h|h
   ·omega
   ·omega
   ·have:=f13 h.1;exact h.2 (by omega))]
  split
  ·rename_i h;have:=hj h;simp;omega
  split
  ·rename_i h;have:=f14 h;simp;omega
  split
  ·rename_i h;have:=f15 h;simp;omega
  ·rfl
 ·unfold ng;rw[e1];simp only[Bool.and_eq_true,Bool.not_eq_true',Bool.and_eq_false_iff,decide_eq_false_iff_not];constructor
  ·cases h:jumps i.op
   ·exact .inl rfl
   ·exact .inr (by have:=hj h;omega)
  ·by_cases h:i.op=15
   ·exact .inr (by have:=f14 h;omega)
   ·exact .inl h
def ly(n:Nat)(l:List Instr):Prop:= ∀i∈l,yN n i
theorem ly.nil(n:Nat):ly n []:=fun i h=>by cases h
theorem ly.cons{n:Nat}{i:Instr}{l:List Instr}(h:yN n i)(hl:ly n l):ly n (i::l):=fun x hx=>by
 rcases List.mem_cons.1 hx with rfl|hx
 ·exact h
 ·exact hl x hx
theorem ly.append{n:Nat}{a b:List Instr}(ha:ly n a)(hb:ly n b):ly n (a++b):=fun x hx=>by
 rcases List.mem_append.1 hx with h|h
 ·exact ha x h
 ·exact hb x h
theorem ly.take{n:Nat}{a:List Instr}(ha:ly n a)(k:Nat):ly n (a.take k):=fun x hx=>ha x (List.mem_of_mem_take hx)
theorem xx{n:Nat}{r v:Int}(h:0<=r/\r<8)(hv:0<=v/\v<=65535):yN n ⟨1,r,0,0,v⟩:=⟨by simp,⟨h.1,h.2,fun q=>by cases q⟩,by simp,by simp,⟨hv.1,hv.2,fun q=>by cases q⟩,fun q=>by simp at q,fun q=>by simp at q⟩
theorem CL{n:Nat}{a b:Int}(h:0<=a/\a<8)(hb:0<=b/\b<8):yN n ⟨2,a,b,0,0⟩:=⟨by simp,⟨h.1,h.2,fun q=>by cases q⟩,⟨hb.1,hb.2,fun q=>by cases q⟩,by simp,by simp,fun q=>by simp at q,fun q=>by simp at q⟩
theorem vd{n:Nat}{v:Int}(hv:0<=v/\v<=15):yN n ⟨23,0,0,0,v⟩:=⟨by simp,by simp,by simp,by simp,⟨hv.1,by simp only;omega,fun q=>by cases q⟩,fun q=>by simp at q,fun _=>hv.2⟩
theorem ER{n:Nat}{a v:Int}(h:0<=a/\a<8)(hn:n<=4)(hv:0<=v/\v<n):yN n ⟨15,a,0,0,v⟩:=⟨by simp,⟨h.1,h.2,fun q=>by cases q⟩,by simp,by simp,⟨hv.1,by simp only;omega,fun q=>by cases q⟩,fun _=>hv.2,fun q=>by simp at q⟩
theorem gp{n:Nat}{o a b c:Int}(ho:3<=o/\o<=14)(h:0<=a/\a<8)(hb:0<=b/\b<8)(hc:0<=c/\c<8):yN n ⟨o,a,b,c,0⟩:=by
 have v7:o=3\/o=4\/o=5\/o=6\/o=7\/o=8\/o=9\/o=10\/o=11\/o=12\/o=13\/o=14:=by omega
 have u:fv o 0=true/\fv o 1=true/\fv o 2=true:=by
  rcases v7 with rfl|rfl|rfl|rfl|rfl|rfl|rfl|rfl|rfl|rfl|rfl|rfl<;>exact⟨rfl,rfl,rfl⟩
 exact⟨by simp only;omega,⟨h.1,h.2,fun q=>by rw[u.1]at q;cases q⟩,⟨hb.1,hb.2,fun q=>by rw[u.2.1]at q;cases q⟩,⟨hc.1,hc.2,fun q=>by rw[u.2.2]at q;cases q⟩,by simp,fun q=>by simp only at q;omega,fun q=>by simp only at q;omega⟩
theorem acr{n:Nat}{o a b v:Int}(ho:o=16\/o=17)(h:0<=a/\a<8)(hb:0<=b/\b<8)(hv:0<=v/\v<=65535):yN n ⟨o,a,b,0,v⟩:=by
 rcases ho with rfl|rfl<;>exact⟨by simp,⟨h.1,h.2,fun q=>by cases q⟩,⟨hb.1,hb.2,fun q=>by cases q⟩,by simp,⟨hv.1,hv.2,fun q=>by cases q⟩,fun q=>by simp at q,fun q=>by simp at q⟩
theorem ant{n:Nat}{a v:Int}(h:0<=a/\a<8)(hv:0<=v/\v<=65535):yN n ⟨20,a,0,0,v⟩:=⟨by simp,⟨h.1,h.2,fun q=>by cases q⟩,by simp,by simp,⟨hv.1,hv.2,fun q=>by cases q⟩,fun q=>by simp at q,fun q=>by simp at q⟩
theorem anu{n:Nat}{v:Int}(hv:0<=v/\v<=65535):yN n ⟨18,0,0,0,v⟩:=⟨by simp,by simp,by simp,by simp,⟨hv.1,hv.2,fun q=>by cases q⟩,fun q=>by simp at q,fun q=>by simp at q⟩
theorem anv{n:Nat}:yN n ⟨24,0,0,0,0⟩:=⟨by simp,by simp,by simp,by simp,by simp,fun q=>by simp at q,fun q=>by simp at q⟩
theorem Ga(l:List Int)(u:Bool)(k:Int):0<=va l u k/\va l u k<8/\(u=false->va l u k=0):=by
 have:=dC l k (n:=8) (by omega);cases u
 ·exact⟨by simp[va],by simp[va],fun _=>rfl⟩
 ·exact⟨by simp[va];omega,by simp[va];omega,fun q=>by cases q⟩
theorem ago{n:Nat}(l:List Int){iW:Int}(k:Int)(hn:1<=n/\n<=4)(hm:1<=iW/\iW<=1000):yN n (yK l n iW k):=by
 have ho:=dC l k (n:=25) (by omega);unfold yK;obtain⟨op,iA⟩: ∃op,dL l k 25=op:=⟨_,rfl⟩;rw[iA]at ho⊢;have hi:0<=I7 l op n iW (k3 l op k)/\I7 l op n iW (k3 l op k)<=65535/\(fv op 3=false->I7 l op n iW (k3 l op k)=0)/\(op=15->I7 l op n iW (k3 l op k)<n)/\(op=23->I7 l op n iW (k3 l op k)<=15):=by
  unfold I7;have a1:=dC l (k3 l op k) (n:=iW) (by omega);have a2:=dC l (k3 l op k) (n:=n) (by omega);have a3:=dC l (k3 l op k) (n:=16) (by omega);have a4:=sM l (k3 l op k);by_cases j:jumps op=true
  ·rw[if_pos j];refine⟨by omega,by omega,fun q=> ?_,fun q=> ?_,fun q=> ?_⟩
   ·rw[L3 j]at q;cases q
   ·subst q;cases j
   ·subst q;cases j
  rw[if_neg j];by_cases Zp:op=15
  ·rw[if_pos Zp];refine⟨by omega,by omega,fun q=> ?_,fun q=>by omega,fun q=>by omega⟩;subst Zp;cases q
  rw[if_neg Zp];by_cases Zq:op=23
  ·rw[if_pos Zq];refine⟨by omega,by omega,fun q=> ?_,fun q=>by omega,fun q=>by omega⟩;subst Zq;cases q
  rw[if_neg Zq];by_cases u:fv op 3=true
  ·rw[if_pos u];exact⟨by omega,by omega,fun q=>(by rw[u]at q;cases q),fun q=>absurd q Zp,fun q=>absurd q Zq⟩
  ·rw[if_neg u];exact⟨by omega,by omega,fun _=>rfl,fun q=>absurd q Zp,fun q=>absurd q Zq⟩
 exact⟨by simp only;omega,Ga ..,Ga ..,Ga ..,⟨hi.1,hi.2.1,hi.2.2.1⟩,hi.2.2.2.1,hi.2.2.2.2⟩
theorem Zs{l ae:List Int}{iW at_ r n sr c k:Int}(hz:mw ae)(hm:1<=iW/\iW<=1000)(ha:0<=at_/\at_<=1000)(hr:0<=r/\r<ae.length)(hn:0<=n/\n<=100)(hsr:1<=sr/\sr<=32):ly ae.length (l6 l ae iW at_ r n sr c k):=by
 have z1:=hz.pos;have z4:=hz.le;have d: ∀(k n:Int),1<=n->0<=dL l k n/\dL l k n<n:=fun k n h=>dC l k h;have N:=ly.nil ae.length;have w:=sM l (cY l k);have a3:=d k 3 (by omega);have a4:=d k 4 (by omega);have a5:=d k 5 (by omega);have a8:=d k 8 (by omega);have a2:=d k 2 (by omega);have am:=d k iW hm.1;have b3:=d (cY l k) 3 (by omega);have b2:=d (cY l k) 2 (by omega);have b4:=d (cY l k) 4 (by omega);have bs:=d (cY l k) sr hsr.1;have c3:=d (cY l (cY l k)) 3 (by omega);have c2:=d (cY l (cY l k)) 2 (by omega);have e3:=d (cY l (cY l (cY l k))) 3 (by omega);have bx:=d (cY l k) (if dL l k 2=0 then iW else 5) (by split<;>omega);have bx2:dL l (cY l k) (if dL l k 2=0 then iW else 5)<=1000:=by
  have:=bx.2;split at this<;>rename_i hh<;>simp only[hh,if_true,if_false]<;>omega
 unfold l6;refine ka (P:=ly ae.length) ?_ (ka (P:=ly ae.length) ?_ (ka (P:=ly ae.length) ?_ (ka (P:=ly ae.length) ?_ (ka (P:=ly ae.length) ?_ (ka (P:=ly ae.length) ?_ (ka (P:=ly ae.length) ?_ (ka (P:=ly ae.length) ?_ (ka (P:=ly ae.length) ?_ (ka (P:=ly ae.length) ?_ (ka (P:=ly ae.length) ?_ (ka (P:=ly ae.length) ?_ (ka (P:=ly ae.length) ?_ (ka (P:=ly ae.length) ?_ (ka (P:=ly ae.length) ?_ ?_))))))))))))))
 ·exact .cons (xx (by omega) (by omega)) N
 ·refine .cons (gp ?_ (by omega) (by omega) (by omega)) N;unfold L0;repeat' split
  all_goals omega
 ·exact .cons (ER (by omega) z4 hr) N
 ·exact .cons (ER (by omega) z4 hr) (.cons (acr (.inr rfl) (by omega) (by omega) (by omega)) N)
 ·exact .cons (ER (by omega) z4 hr) (.cons (acr (.inl rfl) (by omega) (by omega) (by omega)) N)
 ·exact .cons (xx (by omega) (by omega)) (.cons (ER (by omega) z4 hr) (.cons (xx (by omega) (by omega)) (.cons (vd (by omega)) N)))
 ·exact .cons (xx (by omega) (by omega)) (.cons (ER (by omega) z4 hr) (.cons (xx (by omega) (by omega)) (.cons (vd (by omega)) (.cons (CL (by omega) (by omega)) N))))
 ·exact .cons (xx (by omega) (by omega)) (.cons (xx (by omega) (by omega)) (.cons (vd (by omega)) (.cons (CL (by omega) (by omega)) N)))
 ·exact .cons (CL (by omega) (by omega)) (.cons (ER (by omega) z4 hr) (.cons (xx (by omega) (by omega)) (.cons (vd (by split<;>omega)) N)))
 ·refine ka (P:=ly ae.length) ?_ ?_
  ·exact .cons (CL (by omega) (by omega)) (.cons (vd (by omega)) N)
  ·exact .cons (CL (by omega) (by omega)) (.cons (xx (by omega) (by omega)) (.cons (vd (by omega)) N))
 ·exact .cons (vd (by
  repeat' split
  all_goals omega)) (.cons (CL (by omega) (by omega)) N)
 ·exact .cons (xx (by omega) (by omega)) (.cons (vd (by split<;>omega)) N)
 ·exact .cons (xx (by omega) (by omega)) (.cons (CL (by omega) (by omega)) (.cons (vd (by omega)) N))
 ·exact .cons (xx (by omega) ⟨bx.1,by omega⟩) (.cons (vd (by split<;>omega)) N)
 ·exact .cons (xx (by omega) (by omega)) (.cons (xx (by omega) (by omega)) (.cons (gp (by omega) (by omega) (by omega) (by omega)) (.cons (ant (by omega) (by omega)) N)))
 ·exact .cons (ago l k ⟨z1,z4⟩ hm) N
theorem Zt{l ae:List Int}{iW at_:Int}(k:Int)(hz:mw ae)(hm:1<=iW/\iW<=1000)(ha:0<=at_/\at_<=1000):ly ae.length (tW l ae iW at_ k):=by
 have z1:=hz.pos;have hr:0<=yL l ae k/\yL l ae k<ae.length:=dC l k (by omega);obtain⟨r,hrn⟩: ∃r:Nat,yL l ae k=r:=⟨(yL l ae k).toNat,by omega⟩;have nN:r<ae.length:=by omega
 have su:=hz.elem r nN;have hsr:nth ae (yL l ae k).toNat=ae[r]:=by rw[hrn,Int.toNat_natCast,cZ nN]
 have hN:0<=EM l ae k/\EM l ae k<=100:=by
  unfold EM;rw[hsr];have h5:=acp (x:=ae[r]+1) (by omega);have:=dC l (cY l k) (n:=m5 (ae[r]+1)) h5.1;omega
 unfold tW;exact Zs hz hm ha hr hN (by rw[hsr];exact su)
theorem Je(l:List Int){ae:List Int}(k:Int)(hz:mw ae): ∀i,ly ae.length (eV l ae k i).1
 |0=>ly.nil _
 |i+1=>by
  have h1:=Je l k hz i;have h2:=xr l ae k i;rw[vU];simp only;split
  ·exact h1.append (Zt _ hz (by omega) (by omega))
  ·exact h1
theorem Zu(l:List Int)(k:Int):ly (nz l k).length (Ax l k)/\1<=(Ax l k).length/\(Ax l k).length<=64:=by
 have hz:=zI l k;have h1:ly (nz l k).length (wC l k).1:=Je _ _ hz _;have hl:(wC l k).1.length<=62:=xr _ _ _ _;unfold Ax P6;refine⟨ly.take (ly.append ?_ (.cons (xx (by omega) ?_) (.cons (vd (by omega)) (ly.nil _)))) _,by simp;omega,by simp;omega⟩
 ·have a:=dC l (cY l (wC l k).2) (n:=(wC l k).1.length+1) (by omega);unfold tlV;split
  ·exact h1.append (.cons (anu (by omega)) (ly.nil _))
  split
  ·exact h1.append (.cons anv (ly.nil _))
  ·exact h1
 ·have:=dC l (Gy l (wC l k).2) (n:=9) (by omega);omega
theorem CM(l:List Int)(k:Int): ∀i,∀x∈ (jN l k i).1,0<=x/\x<=65535
 |0=>fun x hx=>by cases hx
 |i+1=>fun x hx=>by
  rw[xo]at hx;rcases List.mem_append.1 hx with h|h
  ·exact CM l k i x h
  ·simp at h;subst h;exact sM _ _
theorem sP(l:List Int)(k n:Int): ∀x∈iM l k n,0<=x/\x<=65535:=CM l _ _
theorem CN(l ae:List Int)(k:Int): ∀i,∀d∈ (gV l ae k i).1,∀x∈d,0<=x/\x<=65535
 |0=>fun d hd=>by cases hd
 |i+1=>fun d hd x hx=>by
  rw[tI]at hd;rcases List.mem_append.1 hd with h|h
  ·exact CN l ae k i d h x hx
  ·simp at h;subst h;exact sP _ _ _ x hx
theorem yO(l ae:List Int)(k:Int)(hz: ∀j (h:j<ae.length),1<=ae[j]): ∀i,i<=ae.length-> ∀j (h:j<(gV l ae k i).1.length) (h':j<ae.length),(((gV l ae k i).1[j]).length:Int)<=ae[j]
 |0,_,j,h,_=>by simp[yM]at h
 |i+1,hi,j,h,h'=>by
  have hl:=vc l ae k i;have il:i<ae.length:=by omega
  simp only[tI]at h⊢;rw[List.length_append,hl]at h;simp only[List.length_cons,List.length_nil]at h;by_cases e:j<i
  ·rw[List.getElem_append_left (by omega)];exact yO l ae k hz i (by omega) j (by omega) h'
  ·have e2:j=i:=by omega
   subst e2;rw[List.getElem_append_right (by omega)];simp only[hl,Nat.sub_self,List.getElem_cons_zero];rw[cZ il];exact iY _ _ (by have:=hz j il;omega)
theorem VO(l:List Int)(k:Int):pO (pS l k)/\ ∀d∈ (pS l k).data,∀x∈d,0<=x/\x<=65535:=by
 have hz:=zI l k;obtain⟨h1,h2,h3⟩:=Zu l k;refine⟨⟨hz,?_,?_,?_,?_,?_,?_⟩,?_⟩
 ·simp only[pS];rw[vc]
 ·simp only[pS];exact yO _ _ _ (fun j h=>(hz.elem j h).1) _ (Nat.le_refl _)
 ·simp only[pS,List.length_map];exact h2
 ·simp only[pS,List.length_map];exact h3
 ·intro i hi;simp only[pS,List.length_map]at hi;simp only[pS,List.getElem_map];exact((h1 _ (List.getElem_mem hi)).fix hz.le h2 h3).1
 ·intro i hi;simp only[pS,List.length_map]at hi;simp only[pS,List.getElem_map,List.length_map];exact((h1 _ (List.getElem_mem hi)).fix hz.le h2 h3).2
 ·simp only[pS];exact CN _ _ _ _
def acs(p:Prog):Prop:= ∀d∈p.data,∀x∈d,0<=x/\x<=65535
theorem VP{cells:List Cell}{b:Nat}{d:List Int}(h:dB cells)(hd: ∀x∈d,0<=x/\x<=65535): ∀k,k<=d.length->dB (v9 cells b d k)
 |0,_=>h
 |k+1,hk=>by
  have h1:=VP (b:=b) h hd k (by omega);have wy:k<d.length:=by omega
  rw[M8 wy];have hc:=(h1.getD (b+k)).1;have hv:=hd d[k] (List.getElem_mem wy);exact h1.set (c:=⟨((v9 cells b d k).getD (b+k) ⟨0,0⟩).tag,d[k]⟩) ⟨hc,hv⟩ _
theorem ve(n:Nat):dB (List.replicate n ⟨0,0⟩):=fun c hc=>by
 rw[List.eq_of_mem_replicate hc];exact j6
theorem L4{p:Prog}(aD:List Int)(hd:acs p): ∀r,dB (qU p aD r)
 |0=>ve 512
 |r+1=>by
  unfold qU;refine VP (L4 aD hd r) (fun x hx=> ?_) _ (Nat.le_refl _);by_cases h:r<p.data.length
  ·simp only[List.getD,List.getElem?_eq_getElem h,Option.getD_some]at hx;exact hd _ (List.getElem_mem h) x hx
  ·simp[List.getD,List.getElem?_eq_none (Nat.le_of_not_lt h)]at hx
theorem ES{l:List Cell}(h:dB l):eD l=true:=by
 unfold eD;rw[List.all_eq_true];intro c hc;have:=(h c hc).1;simp[l4];omega
theorem ET{p:Prog}{l:aN}(hp:pO p)(hd:acs p)(hL:nr l.aD p.ae)(hk:0<=l.key/\l.key<=65535):cR p 0 (ez p l):=by
 have t0: ∀s:Int,0<=s/\s<=4->dF 0 ⟨s,List.replicate 8 ⟨0,0⟩,0,0, -1, -1,0,0⟩:=fun s hs=>⟨hs,by simp,ve 8,by simp,by simp,by simp,by simp,by simp,by simp⟩;have el: ∀i,i<4->bY[i]?=some eQ:=fun i hi=>by unfold bY;rw[List.getElem?_replicate,if_pos hi]
 refine⟨hp,hL,hk,⟨⟨IF ..,rfl,ES (L4 _ hd _),fun i hi=> ?_⟩,L4 _ hd _,fun i=> ?_⟩,rfl,fun i hi=> ?_,fun _=>aav _ _⟩
 ·have e:(ez p l).memory.lines[i]=eQ:=by
   have:=el i (by simpa[ez,bY] using hi);have e2:(ez p l).memory.lines[i]?=some eQ:=this;rw[List.getElem?_eq_getElem hi]at e2;exact Option.some.inj e2
  rw[e];exact vH.1 rfl
 ·unfold iD;by_cases hi:i<4
  ·simp only[ez,List.getD,el i hi,Option.getD_some];exact fun c hc=>by cases hc
  ·have:(ez p l).memory.lines[i]?=none:=List.getElem?_eq_none (by simp[ez,bY];omega);simp only[List.getD,this,Option.getD_none];exact fun c hc=>by cases hc
 ·have:i=0\/i=1\/i=2\/i=3:=by simp[ez]at hi;omega
  rcases this with rfl|rfl|rfl|rfl
  ·exact t0 1 (by omega)
  ·exact t0 0 (by omega)
  ·exact t0 0 (by omega)
  ·exact t0 0 (by omega)
theorem Zv(l:List Int)(k:Int):mV (rQ l k):=by
 refine⟨VN l k,?_,?_⟩
 ·intro d hd x hx;unfold rQ yz at hd;simp only[List.mem_cons,List.not_mem_nil,or_false]at hd;rcases hd with rfl|rfl
  ·exact sP _ _ _ x hx
  ·exact sP _ _ _ x hx
 ·intro d hd;unfold rQ yz mU at hd;simp only[List.map_cons,List.map_nil,List.mem_cons,List.not_mem_nil,or_false]at hd;rcases hd with rfl|rfl
  ·exact fe.af8 (sP _ _ _)
  ·exact fe.af8 (sP _ _ _)
theorem Jf(ae l:List Int):mJ ae (l.map yy)=true:=by
 unfold mJ;rw[List.all_eq_true];intro c hc;obtain⟨x,_,rfl⟩:=List.mem_map.1 hc;simp[proper,yy]
theorem Gb(l:List Int)(k:Int)(ae:List Int):kL ae (rQ l k).files.data=true:=by
 unfold kL rQ yz mU;simp only[List.map_cons,List.map_nil,List.all_cons,List.all_nil,Jf,Bool.and_self]
theorem Jg(n:Int):0<=IntKind.u16.wrap n/\IntKind.u16.wrap n<=65535:=by
 simp only[IntKind.wrap,IntKind.signed,IntKind.bits,Bool.false_and];simp;omega
structure rk (p:Prog) (d:Int) (s:State):Prop where
 p:LS p s
 rv: ∀l∈s.regions,fe l
 tv: ∀v∈s.threads,fe v.bm/\(0<=v.code/\v.code<=65535)/\v.count<=d
theorem P8:zF ⟨0,0,0,0⟩:=⟨by simp,by simp⟩
theorem fe.getD{l:List Canon}(h:fe l)(i:Nat):zF (l.getD i ⟨0,0,0,0⟩):=by
 rcases Nat.lt_or_ge i l.length with g|g
 ·rw[List.getD_eq_getElem?_getD,List.getElem?_eq_getElem g];exact h _ (List.getElem_mem g)
 ·rw[List.getD_eq_getElem?_getD,List.getElem?_eq_none g];exact P8
theorem acu{aD:List Int}{key:Int}{ae:List Int}{cells:List Cell}{b:Nat}{x:List Canon}(h:dB cells)(hx:fe x): ∀k,dB (I3 aD key ae cells b x k)
 |0=>h
 |k+1=>(acu h hx k).set (sL (hx.getD k)) _
theorem Nm{aD:List Int}{key:Int}{ae:List Int}{rs:List (List Canon)}(h: ∀l∈rs,fe l): ∀r,dB (ik aD key ae rs r)
 |0=>ve 512
 |r+1=>acu (Nm h r) (by
   rcases Nat.lt_or_ge r rs.length with g|g
   ·rw[List.getD_eq_getElem?_getD,List.getElem?_eq_getElem g];exact h _ (List.getElem_mem g)
   ·rw[List.getD_eq_getElem?_getD,List.getElem?_eq_none g];exact .nil) _
theorem L5{cells:List Cell}(h:cells.length=512)(hc:dB cells):pn ⟨cells,bY⟩:=by
 have el: ∀i,i<4->bY[i]?=some eQ:=fun i hi=>by unfold bY;rw[List.getElem?_replicate,if_pos hi]
 refine⟨⟨h,rfl,ES hc,fun i hi=> ?_⟩,hc,fun i=> ?_⟩
 ·have e:(aK.mk cells bY).lines[i]=eQ:=by
   have e2:(aK.mk cells bY).lines[i]?=some eQ:=el i (by simpa[bY] using hi);rw[List.getElem?_eq_getElem hi]at e2;exact Option.some.inj e2
  rw[e];exact vH.1 rfl
 ·unfold iD;by_cases hi:i<4
  ·simp only[List.getD,el i hi,Option.getD_some];exact fun c hc=>by cases hc
  ·have:(aK.mk cells bY).lines[i]?=none:=List.getElem?_eq_none (by simp[bY];omega);simp only[List.getD,this,Option.getD_none];exact fun c hc=>by cases hc
theorem agp{aD:List Int}{key:Int}{ae:List Int}{l:List Canon}(h:fe l):dB (u6 aD key ae l):=fun c hc=>by
 unfold u6 at hc;obtain⟨x,hx,rfl⟩:=List.mem_map.1 hc;exact sL (h x hx)
theorem Zw{p:Prog}{d:Int}{l:aN}{s:State}(hp:pO p)(hL:nr l.aD p.ae)(hk:0<=l.key/\l.key<=65535)(hs:rk p d s):cR p d (DL p l s):=by
 refine⟨hp,hL,hk,L5 (EK ..) (Nm hs.rv _),by simp[DL,zH,hs.p.threads],fun i hi=> ?_,fun _=>aav _ _⟩;have nf:i<s.threads.length:=by simpa[DL,zH] using hi
 have e:(DL p l s).threads[i]=Zl l.aD l.key p.ae s.threads[i]:=by simp[DL,nc]
 rw[e];have v:=hs.p.view i nf;obtain⟨t1,t2,t3⟩:=hs.tv _ (List.getElem_mem nf);exact⟨v.state,by simp[Zl,I4,v.bm],agp t1,v.pc,⟨v.count.1,t3⟩,v.bV,v.saved,v.dd,t2⟩
theorem Nn{aD:List Int}{key:Int}{ae:List Int}(hL:nr aD ae){c:Cell}(hc:hY c):nY (canon aD key ae c)=true:=by
 have z4:=hL.sz.le;unfold canon;split
 ·simp[nY]
 split
 ·simp[nY]
 split
 ·rename_i h;obtain⟨k,hk,tP,e,b1,b2⟩:=jB h;have zz:=hL.sz.elem k tP;rw[e];simp[nY];omega
 ·have:=hc.2;simp[nY];omega
theorem Jh{l:List Canon}(h: ∀c∈l,nY c=true):iQ l=true:=List.all_eq_true.2 h
theorem CO{aD:List Int}{key:Int}{ae:List Int}{mem:aK}(hL:nr aD ae)(hM:pn mem)(r:Nat):iQ (rN aD key ae mem r)=true/\fe (rN aD key ae mem r):=by
 refine⟨Jh fun c hc=> ?_,Ng hM _ _⟩;unfold rN mg at hc;obtain⟨x,hx,rfl⟩:=List.mem_map.1 hc;exact Nn hL (dB.look hM _)
theorem P9{p:Prog}{d:Int}{m:bf}(h:cR p d m)(hd:d<=1099511627776):rk p d (px p m):=by
 have hz:=h.prog.ae;refine⟨⟨by simp[px,sd],fun i hi nf=> ?_,by simp[px,mI,h.len],fun i hi=> ?_⟩,fun l hl=> ?_,fun v hv=> ?_⟩
 ·have e:(px p m).regions[i]=rN m.layout.aD m.layout.key p.ae m.memory i:=by simp[px,iX]
  rw[e];have:=hz.elem i nf;refine⟨?_,(CO h.lay h.mem i).1⟩;unfold rN;rw[sI,cZ nf];omega
 ·have nf:i<m.threads.length:=by simpa[px,mI] using hi
  have e:(px p m).threads[i]=yD m.layout.aD m.layout.key p.ae m.threads[i]:=by simp[px,mI]
  rw[e];have x:=h.nv i nf;exact⟨x.state,x.pc,⟨x.count.1,by have:=x.count.2;simp only[yD];omega⟩,x.bV,x.saved,x.dd,by simp[yD,x.bm],Jh fun c hc=>by
   simp only[yD]at hc;obtain⟨y,hy,rfl⟩:=List.mem_map.1 hc;exact Nn h.lay (x.cells y hy)⟩
 ·simp only[px,iX]at hl;obtain⟨r,_,rfl⟩:=List.mem_map.1 hl;exact(CO h.lay h.mem r).2
 ·simp only[px,mI]at hv;obtain⟨x,hx,rfl⟩:=List.mem_map.1 hv;obtain⟨i,hi,rfl⟩:=List.getElem_of_mem hx;have g:=h.nv i hi;exact⟨fun c hc=>by
   simp only[yD]at hc;obtain⟨y,hy,rfl⟩:=List.mem_map.1 hc;exact F2 (g.cells y hy),g.code,g.count.2⟩
end Go.Proofs.YtejohpnpnaljdaaGreat
