/- part -/
import Derived.Test.YtdngefmliibcgaaGreatV08
set_option linter.all false
set_option maxRecDepth 20000
set_option maxHeartbeats 20000000
namespace Go.Proofs.YtdngefmliibcgaaGreat
open Go Go.Abs Go.Abs.kI Qf
variable  {l an:List Int}{k op c x n:Int}{i:Nat}{bp:List Cell}
def BQ(v:Int):Int:=if v=0 then 6 else if v=1 then 12 else 32
def DQ(l:List Int)(k:Int):Int:=1+eX l (dK l k) (BQ (eX l k 3))
def iY(l:List Int)(k:Int):Nat->List Int×Int
 |0=>([4+eX l k 9],dK l (dK l k))
 |i+1=>((iY l k i).1++ [DQ l (iY l k i).2],dK l (dK l (iY l k i).2))
def BR(l:List Int)(k:Int):iY l k 0=([4+eX l k 9],dK l (dK l k)):=rfl
def uf(l:List Int)(k:Int)(i:Nat):iY l k (i+1)=((iY l k i).1++ [DQ l (iY l k i).2],dK l (dK l (iY l k i).2)):=rfl
@[simp]def Gm(h:eH l k)(i:Nat):eH l (iY l k i).2:=by
 induction i with
 |zero=>exact fy (fy h)
 |succ i ih=>exact fy (fy ih)
def yL(l:List Int)(k:Int)(i:Nat):(iY l k i).1.length=i+1:=by
 induction i with
 |zero=>rfl
 |succ i ih=>rw[uf];simp[ih]
def qw(l:List Int)(k:Int):List Int:=(iY l k (eX l (dK l k) 4).toNat).1
def yM(l:List Int)(k:Int):Int:=(iY l k (eX l (dK l k) 4).toNat).2
@[simp]def JL(h:eH l k):eH l (yM l k):=Gm h _
def NT(l:List Int)(k:Int):1<=DQ l k/\DQ l k<=32:=by
 have h:=ez l (dK l k) (n:=BQ (eX l k 3)) (by unfold BQ;split<;>(try split)<;>omega);have:BQ (eX l k 3)<=32:=by unfold BQ;split<;>(try split)<;>omega
 unfold DQ;omega
def RW(l:List Int)(k:Int)(i:Nat): ∀x∈ (iY l k i).1,1<=x/\x<=32:=by
 induction i with
 |zero=>
  intro x hx;simp[BR]at hx;have:=ez l k (n:=9) (by omega);omega
 |succ i ih=>
  intro x hx;rw[uf]at hx;simp at hx;rcases hx with hx|rfl
  ·exact ih x hx
  ·exact NT _ _
def CR(l:List Int)(k:Int):oI (qw l k):=by
 have h:=ez l (dK l k) (n:=4) (by omega);refine⟨fun i hi=>RW l k _ _ (aaL hi),?_,?_⟩
 ·unfold qw;rw[yL];omega
 ·unfold qw;rw[yL];omega
@[simp]def TQ(bN:List Int)(aW:Int)(hd:eH bN aW):oz X ([]) 125 2 ((KKa bN aW:V)) []=some (2,(KKa (⟨bN,yM bN aW⟩:oB).l (⟨bN,yM bN aW⟩:oB).time:V),[.sl false ((qw bN aW).map (V.int .i64))],.bad):=by
 refine aaD ?_;have h0:=ez bN aW (n:=9) (by omega);have w0:IntKind.i64.wrap (4+eX bN aW 9)=4+eX bN aW 9:=wrap_i64 (by omega);have h1:=ez bN (dK bN aW) (n:=4) (by omega);obtain⟨N,hN⟩: ∃N:Nat,eX bN (dK bN aW) 4=N:=⟨(eX bN (dK bN aW) 4).toNat,by omega⟩;have e1:qw bN aW=(iY bN aW N).1:=by unfold qw;rw[hN];rfl
 have e2:yM bN aW=(iY bN aW N).2:=by unfold yM;rw[hN];rfl
 rw[e1,e2];simp[hd,w0,hN];refine cY (fun i S=>(S.f 0= .ptr 0 0 0/\S.h 0=some ⟨2,[KKa (⟨bN,(iY bN aW i).2⟩:oB).l (⟨bN,(iY bN aW i).2⟩:oB).time],true⟩/\S.f 3= .cx 3 0 ((((iY bN aW i).1).map (V.int .i64))).length/\S.h 3=some ⟨1,(((iY bN aW i).1).map (V.int .i64)),false⟩/\S.f 4= .int .i64 ((N:Int)-i)/\S.n=1100)/\True) (N) (by omega) ?_ ?_ ?_
 ·rintro i S ⟨oY,gS,bL⟩ ⟨df,fg⟩;have Ty:=Gm hd i;have w1:IntKind.i64.wrap ((N:Int)-i-1)=(N:Int)-(i+1:Nat):=by rw[wrap_i64 (by omega)];omega
  have c1:(0:Int)<(N:Int)-i:=by omega
  have rK:=yL bN aW i;have h2:=ez bN (iY bN aW i).2 (n:=3) (by omega);have hs:=NT bN (iY bN aW i).2;have es:DQ bN (iY bN aW i).2=1+eX bN (dK bN (iY bN aW i).2) (BQ (eX bN (iY bN aW i).2 3)):=rfl;have hw:IntKind.i64.wrap (DQ bN (iY bN aW i).2)=DQ bN (iY bN aW i).2:=wrap_i64 (by omega);rw[es]at hw;have hc:eX bN (iY bN aW i).2 3=0\/eX bN (iY bN aW i).2 3=1\/eX bN (iY bN aW i).2 3=2:=by omega
  rcases hc with hc|hc|hc
  ·rw[hc]at hw es;have p:BQ 0=6:=rfl;rw[p]at hw es;simp[df,bL,Ty,w1,hc,hw,es,uf];omega
  ·rw[hc]at hw es;have p:BQ 1=12:=rfl;rw[p]at hw es;simp[df,bL,Ty,w1,hc,hw,es,uf];omega
  ·rw[hc]at hw es;have p:BQ 2=32:=rfl;rw[p]at hw es;simp[df,bL,Ty,w1,hc,hw,es,uf];omega
 ·rintro S ⟨df,fg⟩;simp[df]
 ·simp<;>(
   simp[BR])
@[simp]def AS(bN:List Int)(aW:Int)(an:List Int)(hd:eH bN aW)(hz:oI an):oz X ([]) 65 2 ((KKa bN aW:V)) [an]=some (2,(KKa (⟨bN,dK bN aW⟩:oB).l (⟨bN,dK bN aW⟩:oB).time:V),[(KKB ((⟨fG an (eX bN aW 1048576),IntKind.u16.wrap (40503*eX bN aW 1048576)⟩:Layout)):V)],.bad):=by
 refine aaD ?_;have h0:=ez bN aW (n:=1048576) (by omega);have h1:0<=eX bN aW 1048576/\eX bN aW 1048576<=1048575:=by omega
 simp[hd,hz,h1]
def Gn(l:List Int)(h: ∀i (hi:i<l.length),1<=l[i]/\l[i]<=32):(l.length:Int)<=total l/\total l<=32*l.length:=by
 suffices H: ∀i,i<=l.length->(i:Int)<=total (l.take i)/\total (l.take i)<=32*i by
  have:=H l.length (aaI _);rwa[abC]at this
 intro i;induction i with
 |zero=>intro _;simp[total]
 |succ i ih=>
  intro hi;have h1:=ih (by omega);have h2:=h i (by omega);rw[fD (by omega),tZ];omega
def wv(l an:List Int)(k:Int):Canon:=
 if eX l k 6=4 then⟨1,0,(oJ an (eX l (dK l k) (total an)) 0).1.region,(oJ an (eX l (dK l k) (total an)) 0).1.offset⟩
 else if eX l k 6=5 then⟨2,eX l (dK l k) 10,0,0⟩ else⟨0,uS l (dK l k),0,0⟩
def BS(l:List Int)(k:Int):Int:=if eX l k 6=4 then dK l (dK l k) else if eX l k 6=5 then dK l (dK l k) else BO l (dK l k)
@[simp]def NU(h:eH l k):eH l (BS l k):=by
 unfold BS;split
 ·exact fy (fy h)
 ·split
  ·exact fy (fy h)
  ·exact BP (fy h)
@[simp]def uT(bN:List Int)(aW:Int)(an:List Int)(hd:eH bN aW)(hz:oI an):oz X ([]) 92 2 ((KKa bN aW:V)) [an]=some (2,(KKa (⟨bN,BS bN aW⟩:oB).l (⟨bN,BS bN aW⟩:oB).time:V),[(KKs (wv bN an aW):V)],.bad):=by
 refine aaD ?_;have h0:=ez bN aW (n:=6) (by omega);have ht:=Gn an hz.elem;have z1:=hz.pos;have z2:=hz.le;have zl:an.length<=1000:=by omega
 have zb: ∀x∈an,0<=x/\x<=1000000:=fun x hx=>by
  obtain⟨i,hi,rfl⟩:=abE hx;have:=hz.elem i hi;omega
 have ht1:1<=total an/\total an<=4611686018427387904:=by omega
 have h4:=ez bN (dK bN aW) (n:=total an) ht1.1;have h4':0<=eX bN (dK bN aW) (total an)/\eX bN (dK bN aW) (total an)<=1000000:=by omega
 have h5:=ez bN (dK bN aW) (n:=10) (by omega);have w5:IntKind.u16.wrap (eX bN (dK bN aW) 10)=eX bN (dK bN aW) 10:=wrap_u16 (by omega);have key:=IC an zl zb;by_cases c4:eX bN aW 6=4
 ·simp[hd,hz,key,ht1,h4',c4,wv,BS]
 by_cases c5:eX bN aW 6=5
 ·simp[hd,c5,w5,wv,BS]
 ·simp[hd,c4,c5,wv,BS]
@[simp]def aw2(r n:Int):bU X 128 [r,n]=some ((KKv ((⟨1,r,0,0,n⟩:Instr)):V)):=by
 refine aaA ?_;simp
@[simp]def atq(a b:Int):bU X 200 [a,b]=some ((KKv ((⟨2,a,b,0,0⟩:Instr)):V)):=by
 refine aaA ?_;simp
@[simp]def atr(n:Int):bU X 129 [n]=some ((KKv ((⟨23,0,0,0,n⟩:Instr)):V)):=by
 refine aaA ?_;simp
def yN(l:List Int)(u:Bool)(k:Int):Int:=if u=true then eX l k 8 else 0
def Ew(l:List Int)(u:Bool)(k:Int):Int:=if u=true then dK l k else k
@[simp]def Le{u:Bool}(h:eH l k):eH l (Ew l u k):=by
 unfold Ew;split
 ·exact fy h
 ·exact h
def Wq(l:List Int)(k:Int):yN l true k=eX l k 8:=rfl
def RX(l:List Int)(k:Int):yN l false k=0:=rfl
def Wr(l:List Int)(k:Int):Ew l true k=dK l k:=rfl
def RY(l:List Int)(k:Int):Ew l false k=k:=rfl
def NV(l:List Int)(op n jf k:Int):Int:=if jumps op=true then eX l k jf else if op=15 then eX l k n else if op=23 then eX l k 16 else if iN op 3=true then uS l k else 0
def aks(l:List Int)(op k:Int):Int:=if jumps op=true then dK l k else if op=15 then dK l k else if op=23 then dK l k else if iN op 3=true then BO l k else k
@[simp]def akt(h:eH l k):eH l (aks l op k):=by
 unfold aks;repeat' split
 ·exact fy h
 ·exact fy h
 ·exact fy h
 ·exact BP h
 ·exact h
def k1(l:List Int)(op k:Int):Int:=Ew l (iN op 0) (dK l k)
def k2(l:List Int)(op k:Int):Int:=Ew l (iN op 1) (k1 l op k)
def k3(l:List Int)(op k:Int):Int:=Ew l (iN op 2) (k2 l op k)
def BT(l:List Int)(n jf k:Int):Instr:=
 ⟨eX l k 25,yN l (iN (eX l k 25) 0) (dK l k),yN l (iN (eX l k 25) 1) (k1 l (eX l k 25) k),yN l (iN (eX l k 25) 2) (k2 l (eX l k 25) k),NV l (eX l k 25) n jf (k3 l (eX l k 25) k)⟩
def NW(l:List Int)(k:Int):Int:=aks l (eX l k 25) (k3 l (eX l k 25) k)
@[simp]def adh(h:eH l k):eH l (NW l k):=akt (Le (Le (Le (fy h))))
@[simp]def TS(bN:List Int)(aW n jf:Int)(hd:eH bN aW)(hn:1<=n/\n<=4611686018427387904)(hm:1<=jf/\jf<=4611686018427387904):oz X ([]) 201 2 ((KKa bN aW:V)) [n,jf]=some (2,(KKa (⟨bN,NW bN aW⟩:oB).l (⟨bN,NW bN aW⟩:oB).time:V),[(KKv (BT bN n jf aW):V)],.bad):=by
 refine aaD ?_;have h0:=ez bN aW (n:=25) (by omega);have ho:0<=eX bN aW 25/\eX bN aW 25<=24:=by omega
 obtain⟨op,jK⟩: ∃op,eX bN aW 25=op:=⟨_,rfl⟩;unfold BT NW;rw[jK]at ho⊢;unfold k3 k2 k1 NV aks;have hw: ∀k,IntKind.i64.wrap (uS bN k)=uS bN k:=fun k=>by have:=wq bN k;exact wrap_i64 (by omega)
 cases u0:iN op 0<;>cases u1:iN op 1<;>cases u2:iN op 2<;>simp only[Wq,RX,Wr,RY];all_goals
  by_cases j:jumps op=true
  ·simp(maxSteps:=10000000)(maxDischargeDepth:=30)[hd,jK,ho,u0,u1,u2,j,hm,yN,Ew]
  ·by_cases o15:op=15
   ·subst o15;simp(maxSteps:=10000000)(maxDischargeDepth:=30)[hd,jK,ho,u0,u1,u2,j,hn,yN,Ew]
   ·by_cases o23:op=23
    ·subst o23;simp(maxSteps:=10000000)(maxDischargeDepth:=30)[hd,jK,ho,u0,u1,u2,j,yN,Ew]
    ·cases u3:iN op 3
     ·simp(maxSteps:=10000000)(maxDischargeDepth:=30)[hd,jK,ho,u0,u1,u2,u3,j,o15,o23,yN,Ew]
     ·simp(maxSteps:=10000000)(maxDischargeDepth:=30)[hd,jK,ho,u0,u1,u2,u3,j,o15,o23,hw,yN,Ew]
def apy(v:Int):Int:=if v=0 then 0 else if v=1 then 1 else if v=2 then 2 else if v=3 then 3 else if v=4 then 7 else 63
def adi(l:List Int)(k:Int):Choice:=⟨eX l k 4,apy (eX l (dK l k) 6),decide (eX l (dK l (dK l k)) 4=0)⟩
@[simp]def AT(bN:List Int)(aW:Int)(hd:eH bN aW):oz X ([]) 68 2 ((KKa bN aW:V)) []=some (2,(KKa (⟨bN,dK bN (dK bN (dK bN aW))⟩:oB).l (⟨bN,dK bN (dK bN (dK bN aW))⟩:oB).time:V),[.agg [.int .i64 (adi bN aW).dd,.int .i64 (adi bN aW).fU,.bool (adi bN aW).CN]],.bad):=by
 refine aaD ?_;have h0:=ez bN (dK bN aW) (n:=6) (by omega);have hc:eX bN (dK bN aW) 6=0\/eX bN (dK bN aW) 6=1\/eX bN (dK bN aW) 6=2\/eX bN (dK bN aW) 6=3\/eX bN (dK bN aW) 6=4\/eX bN (dK bN aW) 6=5:=by omega
 rcases hc with hc|hc|hc|hc|hc|hc<;>simp(maxSteps:=10000000)(maxDischargeDepth:=30)[hd,hc,adi,apy]
def RZ(v:Int):Int:=if v=0 then 3 else if v=1 then 4 else if v=2 then 5 else if v=3 then 10 else if v=4 then 13 else if v=5 then 14 else if v=6 then 11 else 9
def oC(l an:List Int)(jf at_ r n sr c k:Int):List Instr:=
 if c=0 then [⟨1,3+eX l k 3,0,0,uS l (dK l k)⟩]
 else if c=1 then [⟨RZ (eX l k 8),3+eX l (dK l k) 3,3+eX l (dK l (dK l k)) 3,3+eX l (dK l (dK l (dK l k))) 3,0⟩]
 else if c=2 then [⟨15,6,0,0,r⟩]
 else if c=3\/c=4 then [⟨15,6,0,0,r⟩,⟨17,6,3+eX l k 5,0,eX l (dK l k) sr⟩]
 else if c=5\/c=6 then [⟨15,6,0,0,r⟩,⟨16,3+eX l k 4,6,0,eX l (dK l k) sr⟩]
 else if c=7\/c=8 then [⟨1,0,0,0,eX l k 3⟩,⟨15,1,0,0,r⟩,⟨1,2,0,0,n⟩,⟨23,0,0,0,13⟩]
 else if c=9 then [⟨1,0,0,0,eX l k 3⟩,⟨15,1,0,0,r⟩,⟨1,2,0,0,n⟩,⟨23,0,0,0,14⟩,⟨2,3,0,0,0⟩]
 else if c=10 then [⟨1,0,0,0,eX l k 3⟩,⟨1,1,0,0,eX l (dK l k) 4⟩,⟨23,0,0,0,3⟩,⟨2,7,0,0,0⟩]
 else if c=11 then [⟨2,0,7,0,0⟩,⟨15,1,0,0,r⟩,⟨1,2,0,0,n⟩,⟨23,0,0,0,if eX l k 2=0 then 1 else 2⟩]
 else if c=12 then(if eX l (dK l k) 2=0 then [⟨2,0,7,0,0⟩,⟨23,0,0,0,4⟩] else [⟨2,0,7,0,0⟩,⟨1,1,0,0,eX l k 4⟩,⟨23,0,0,0,5⟩])
 else if c=13 then [⟨23,0,0,0,if eX l k 3=0 then 6 else if eX l k 3=1 then 7 else 15⟩,⟨2,3+eX l (dK l k) 3,0,0,0⟩]
 else if c=14\/c=15 then [⟨1,0,0,0,eX l k 3⟩,⟨23,0,0,0,if eX l (dK l k) 2=0 then 8 else 9⟩]
 else if c=16 then [⟨1,0,0,0,eX l k jf⟩,⟨2,1,3,0,0⟩,⟨23,0,0,0,10⟩]
 else if c=17 then [⟨1,0,0,0,eX l (dK l k) (if eX l k 2=0 then jf else 5)⟩,⟨23,0,0,0,if eX l (dK l (dK l k)) 2=0 then 12 else 11⟩]
 else if c=18 then [⟨1,5,0,0,1+eX l k 4⟩,⟨1,4,0,0,1⟩,⟨4,5,5,4,0⟩,⟨20,5,0,0,at_+2⟩]
 else [BT l an.length jf k]
def lG(l:List Int)(c k:Int):Int:=
 if c=0 then BO l (dK l k)
 else if c=1 then dK l (dK l (dK l (dK l k)))
 else if c=2 then k
 else if c=3\/c=4 then dK l (dK l k)
 else if c=5\/c=6 then dK l (dK l k)
 else if c=7\/c=8 then dK l k
 else if c=9 then dK l k
 else if c=10 then dK l (dK l k)
 else if c=11 then dK l k
 else if c=12 then dK l (dK l k)
 else if c=13 then dK l (dK l k)
 else if c=14\/c=15 then dK l (dK l k)
 else if c=16 then dK l k
 else if c=17 then dK l (dK l (dK l k))
 else if c=18 then dK l k
 else NW l k
def lY{α:Type}{P:α->Prop}{c:Prop}[Decidable c]{a b:α}(h1:P a)(h2:P b):P (if c then a else b):=by split<;>assumption
def Ws(h:eH l k):eH l (lG l c k):=by
 unfold lG;have h1:=fy h;have h2:=fy h1;have h3:=fy h2;have h4:=fy h3;exact lY (BP h1) (lY h4 (lY h (lY h2 (lY h2 (lY h1 (lY h1 (lY h2 (lY h1 (lY h2 (lY h2 (lY h2 (lY h1 (lY h3 (lY h1 (adh h)))))))))))))))
def m5(x:Int):Int:=if x<5 then x else 5
def apz(h:1<=x):1<=m5 x/\m5 x<=5:=by unfold m5;split<;>omega
def BU(l an:List Int)(k:Int):Int:=eX l k an.length
def JM(l an:List Int)(k:Int):Int:=eX l (dK l k) (m5 (nth an (BU l an k).toNat+1))
def xN(l an:List Int)(jf at_ k:Int):List Instr:=
 oC l an jf at_ (BU l an k) (JM l an k) (nth an (BU l an k).toNat) (eX l (dK l (dK l k)) 20) (dK l (dK l (dK l k)))
def Gp(l:List Int)(k:Int):Int:=lG l (eX l (dK l (dK l k)) 20) (dK l (dK l (dK l k)))
@[simp]def adj(h:eH l k):eH l (Gp l k):=Ws (fy (fy (fy h)))
def c20(h:0<=c/\c<20):c=0\/c=1\/c=2\/c=3\/c=4\/c=5\/c=6\/c=7\/c=8\/c=9\/c=10\/c=11\/c=12\/c=13\/c=14\/c=15\/c=16\/c=17\/c=18\/c=19:=by omega
@[simp]def Wt(bN:List Int)(aW:Int)(an:List Int)(jf at_:Int)(hd:eH bN aW)(hz:oI an)(hm:1<=jf/\jf<=1000)(ha:0<=at_/\at_<=1000):oz X ([]) 127 2 ((KKa bN aW:V)) [an,jf,at_]=some (2,(KKa (⟨bN,Gp bN aW⟩:oB).l (⟨bN,Gp bN aW⟩:oB).time:V),[.sl false ((xN bN an jf at_ aW).map Instr.e)],.bad):=by
 refine aaD ?_;have z1:=hz.pos;have z2:=hz.le;have Bz:1<=(an.length:Int)/\(an.length:Int)<=4611686018427387904:=by omega
 have h0:=ez bN aW (n:=an.length) (by omega);obtain⟨r,hr⟩: ∃r:Nat,eX bN aW an.length=r:=⟨(eX bN aW an.length).toNat,by omega⟩;have qH:r<an.length:=by omega
 have hs:=hz.elem r qH;have e1:BU bN an aW=r:=hr;have e2:JM bN an aW=eX bN (dK bN aW) (m5 (an[r]+1)):=by unfold JM;rw[e1];simp[dE qH]
 have hq:=apz (x:=an[r]+1) (by omega);obtain⟨q,hqe⟩: ∃q,m5 (an[r]+1)=q:=⟨_,rfl⟩;have JN:(if an[r]+1<5 then an[r]+1 else 5)=q:=hqe;rw[hqe]at hq e2;have lS:1<=q/\q<=4611686018427387904:=by omega
 have DM:IntKind.i64.wrap (an[r]+1)=an[r]+1:=wrap_i64 (by omega);obtain⟨n,hn⟩: ∃n,eX bN (dK bN aW) q=n:=⟨_,rfl⟩;have h2:=ez bN (dK bN (dK bN aW)) (n:=20) (by omega);obtain⟨c,hc⟩: ∃c,eX bN (dK bN (dK bN aW)) 20=c:=⟨_,rfl⟩;obtain⟨k,hk⟩: ∃k,dK bN (dK bN (dK bN aW))=k:=⟨_,rfl⟩;have vQ:eH bN k:=by rw[<-hk];exact fy (fy (fy hd))
 have ev:xN bN an jf at_ aW=oC bN an jf at_ r n an[r] c k:=by
  unfold xN;rw[hc,hk,e1,e2,hn];simp[dE qH]
 have ek:Gp bN aW=lG bN c k:=by unfold Gp;rw[hc,hk]
 rw[ev,ek];rw[hc]at h2;have w3: ∀k,IntKind.i64.wrap (3+eX bN k 3)=3+eX bN k 3:=fun k=>by have:=ez bN k (n:=3) (by omega);exact wrap_i64 (by omega)
 have w4: ∀k,IntKind.i64.wrap (3+eX bN k 4)=3+eX bN k 4:=fun k=>by have:=ez bN k (n:=4) (by omega);exact wrap_i64 (by omega)
 have w5: ∀k,IntKind.i64.wrap (3+eX bN k 5)=3+eX bN k 5:=fun k=>by have:=ez bN k (n:=5) (by omega);exact wrap_i64 (by omega)
 have w1: ∀k,IntKind.i64.wrap (1+eX bN k 4)=1+eX bN k 4:=fun k=>by have:=ez bN k (n:=4) (by omega);exact wrap_i64 (by omega)
 have ww: ∀k,IntKind.i64.wrap (uS bN k)=uS bN k:=fun k=>by have:=wq bN k;exact wrap_i64 (by omega)
 have wa:IntKind.i64.wrap (at_+2)=at_+2:=wrap_i64 (by omega);have Tt:1<=jf/\jf<=4611686018427387904:=by omega
 have oG:1<=an[r]/\an[r]<=4611686018427387904:=by omega
 rcases c20 h2 with rfl|rfl|rfl|rfl|rfl|rfl|rfl|rfl|rfl|rfl|rfl|rfl|rfl|rfl|rfl|rfl|rfl|rfl|rfl|rfl
 ·simp(maxSteps:=10000000)(maxDischargeDepth:=30)[hd,Bz,hr,qH,DM,JN,lS,hn,hc,hk,vQ,w3,ww,Instr.bS,oC,lG]
 ·have h8:=ez bN k (n:=8) (by omega);have Wu:eX bN k 8=0\/eX bN k 8=1\/eX bN k 8=2\/eX bN k 8=3\/eX bN k 8=4\/eX bN k 8=5\/eX bN k 8=6\/eX bN k 8=7:=by omega
  rcases Wu with h8|h8|h8|h8|h8|h8|h8|h8<;>simp(maxSteps:=10000000)(maxDischargeDepth:=30)[hd,Bz,hr,qH,DM,JN,lS,hn,hc,hk,vQ,w3,h8,RZ,Instr.bS,oC,lG]
 ·simp(maxSteps:=10000000)(maxDischargeDepth:=30)[hd,Bz,hr,qH,DM,JN,lS,hn,hc,hk,vQ,Instr.bS,oC,lG]
 ·simp(maxSteps:=10000000)(maxDischargeDepth:=30)[hd,Bz,hr,qH,DM,JN,lS,hn,hc,hk,vQ,w5,oG,Instr.bS,oC,lG]
 ·simp(maxSteps:=10000000)(maxDischargeDepth:=30)[hd,Bz,hr,qH,DM,JN,lS,hn,hc,hk,vQ,w5,oG,Instr.bS,oC,lG]
 ·simp(maxSteps:=10000000)(maxDischargeDepth:=30)[hd,Bz,hr,qH,DM,JN,lS,hn,hc,hk,vQ,w4,oG,Instr.bS,oC,lG]
 ·simp(maxSteps:=10000000)(maxDischargeDepth:=30)[hd,Bz,hr,qH,DM,JN,lS,hn,hc,hk,vQ,w4,oG,Instr.bS,oC,lG]
 ·simp(maxSteps:=10000000)(maxDischargeDepth:=30)[hd,Bz,hr,qH,DM,JN,lS,hn,hc,hk,vQ,Instr.bS,oC,lG]
 ·simp(maxSteps:=10000000)(maxDischargeDepth:=30)[hd,Bz,hr,qH,DM,JN,lS,hn,hc,hk,vQ,Instr.bS,oC,lG]
 ·simp(maxSteps:=10000000)(maxDischargeDepth:=30)[hd,Bz,hr,qH,DM,JN,lS,hn,hc,hk,vQ,Instr.bS,oC,lG]
 ·simp(maxSteps:=10000000)(maxDischargeDepth:=30)[hd,Bz,hr,qH,DM,JN,lS,hn,hc,hk,vQ,Instr.bS,oC,lG]
 ·have h8:=ez bN k (n:=2) (by omega);have Wu:eX bN k 2=0\/eX bN k 2=1:=by omega
  rcases Wu with h8|h8<;>simp(maxSteps:=10000000)(maxDischargeDepth:=30)[hd,Bz,hr,qH,DM,JN,lS,hn,hc,hk,vQ,h8,Instr.bS,oC,lG]
 ·have h8:=ez bN (dK bN k) (n:=2) (by omega);have Wu:eX bN (dK bN k) 2=0\/eX bN (dK bN k) 2=1:=by omega
  rcases Wu with h8|h8<;>simp(maxSteps:=10000000)(maxDischargeDepth:=30)[hd,Bz,hr,qH,DM,JN,lS,hn,hc,hk,vQ,h8,Instr.bS,oC,lG]
 ·have h8:=ez bN k (n:=3) (by omega);have Wu:eX bN k 3=0\/eX bN k 3=1\/eX bN k 3=2:=by omega
  rcases Wu with h8|h8|h8<;>simp(maxSteps:=10000000)(maxDischargeDepth:=30)[hd,Bz,hr,qH,DM,JN,lS,hn,hc,hk,vQ,w3,h8,Instr.bS,oC,lG]
 ·have h8:=ez bN (dK bN k) (n:=2) (by omega);have Wu:eX bN (dK bN k) 2=0\/eX bN (dK bN k) 2=1:=by omega
  rcases Wu with h8|h8<;>simp(maxSteps:=10000000)(maxDischargeDepth:=30)[hd,Bz,hr,qH,DM,JN,lS,hn,hc,hk,vQ,h8,Instr.bS,oC,lG]
 ·have h8:=ez bN (dK bN k) (n:=2) (by omega);have Wu:eX bN (dK bN k) 2=0\/eX bN (dK bN k) 2=1:=by omega
  rcases Wu with h8|h8<;>simp(maxSteps:=10000000)(maxDischargeDepth:=30)[hd,Bz,hr,qH,DM,JN,lS,hn,hc,hk,vQ,h8,Instr.bS,oC,lG]
 ·simp(maxSteps:=10000000)(maxDischargeDepth:=30)[hd,Bz,hr,qH,DM,JN,lS,hn,hc,hk,vQ,Tt,Instr.bS,oC,lG]
 ·have h8:=ez bN k (n:=2) (by omega);have Wu:eX bN k 2=0\/eX bN k 2=1:=by omega
  have h9:=ez bN (dK bN (dK bN k)) (n:=2) (by omega);have h9':eX bN (dK bN (dK bN k)) 2=0\/eX bN (dK bN (dK bN k)) 2=1:=by omega
  rcases Wu with h8|h8<;>rcases h9' with h9|h9<;>simp(maxSteps:=10000000)(maxDischargeDepth:=30)[hd,Bz,hr,qH,DM,JN,lS,hn,hc,hk,vQ,Tt,h8,h9,Instr.bS,oC,lG]
 ·simp(maxSteps:=10000000)(maxDischargeDepth:=30)[hd,Bz,hr,qH,DM,JN,lS,hn,hc,hk,vQ,w1,wa,Instr.bS,oC,lG]
 ·simp(maxSteps:=10000000)(maxDischargeDepth:=30)[hd,Bz,hr,qH,DM,JN,lS,hn,hc,hk,vQ,Tt,Instr.bS,oC,lG]
def ig(l an:List Int)(k:Int):Nat->List Instr×Int
 |0=>([],k)
 |i+1=>(if(ig l an k i).1.length+(xN l an ((ig l an k i).1.length+1) (ig l an k i).1.length (ig l an k i).2).length<=62
   then(ig l an k i).1++xN l an ((ig l an k i).1.length+1) (ig l an k i).1.length (ig l an k i).2 else(ig l an k i).1,
  Gp l (ig l an k i).2)
def yO(l an:List Int)(k:Int):ig l an k 0=([],k):=rfl
def zN(l an:List Int)(k:Int)(i:Nat):ig l an k (i+1)=(if(ig l an k i).1.length+(xN l an ((ig l an k i).1.length+1) (ig l an k i).1.length (ig l an k i).2).length<=62
   then(ig l an k i).1++xN l an ((ig l an k i).1.length+1) (ig l an k i).1.length (ig l an k i).2 else(ig l an k i).1,
  Gp l (ig l an k i).2):=rfl
@[simp]def CT(h:eH l k)(i:Nat):eH l (ig l an k i).2:=by
 induction i with
 |zero=>exact h
 |succ i ih=>exact adj ih
def AU(l an:List Int)(k:Int)(i:Nat):(ig l an k i).1.length<=62:=by
 induction i with
 |zero=>simp[yO]
 |succ i ih=>
  rw[zN];simp only;split
  ·rename_i h;simpa using h
  ·exact ih
def jF(l an:List Int)(k:Int):Nat->List (List Int)×Int
 |0=>([],k)
 |i+1=>((jF l an k i).1++ [ki l (jF l an k i).2 (nth an i)],nZ l (jF l an k i).2 (nth an i))
def BV(l an:List Int)(k:Int):jF l an k 0=([],k):=rfl
def xi(l an:List Int)(k:Int)(i:Nat):jF l an k (i+1)=((jF l an k i).1++ [ki l (jF l an k i).2 (nth an i)],nZ l (jF l an k i).2 (nth an i)):=rfl
def yP(l an:List Int)(k:Int)(i:Nat):(jF l an k i).1.length=i:=by
 induction i with
 |zero=>rfl
 |succ i ih=>rw[xi];simp[ih]
def JO(l an:List Int)(jf at_ k:Int):(xN l an jf at_ k).length<=5:=by
 unfold xN oC;have n1: ∀(a:Instr),[a].length<=5:=fun _=>by simp
 have n2: ∀(a b:Instr),[a,b].length<=5:=fun _ _=>by simp
 have n3: ∀(a b c:Instr),[a,b,c].length<=5:=fun _ _ _=>by simp
 have n4: ∀(a b c d:Instr),[a,b,c,d].length<=5:=fun _ _ _ _=>by simp
 have n5: ∀(a b c d e:Instr),[a,b,c,d,e].length<=5:=fun _ _ _ _ _=>by simp
 exact lY (P:=fun x:List Instr=>x.length<=5) (n1 _) (lY (P:=fun x:List Instr=>x.length<=5) (n1 _) (lY (P:=fun x:List Instr=>x.length<=5) (n1 _) (lY (P:=fun x:List Instr=>x.length<=5) (n2 _ _) (lY (P:=fun x:List Instr=>x.length<=5) (n2 _ _)
  (lY (P:=fun x:List Instr=>x.length<=5) (n4 _ _ _ _) (lY (P:=fun x:List Instr=>x.length<=5) (n5 _ _ _ _ _) (lY (P:=fun x:List Instr=>x.length<=5) (n4 _ _ _ _) (lY (P:=fun x:List Instr=>x.length<=5) (n4 _ _ _ _)
  (lY (P:=fun x:List Instr=>x.length<=5) (lY (P:=fun x:List Instr=>x.length<=5) (n2 _ _) (n3 _ _ _)) (lY (P:=fun x:List Instr=>x.length<=5) (n2 _ _) (lY (P:=fun x:List Instr=>x.length<=5) (n2 _ _) (lY (P:=fun x:List Instr=>x.length<=5) (n3 _ _ _)
  (lY (P:=fun x:List Instr=>x.length<=5) (n2 _ _) (lY (P:=fun x:List Instr=>x.length<=5) (n4 _ _ _ _) (n1 _)))))))))))))))
@[simp]def AV(h:eH l k)(i:Nat):eH l (jF l an k i).2:=by
 induction i with
 |zero=>exact h
 |succ i ih=>exact mD ih
def vy(n:Int)(i:Instr):Instr:=if jumps i.op=true/\n<=i.eu then{i with eu:=0} else i
def tlV(l:List Int)(code:List Instr)(k:Int):List Instr:=
 if eX l k 4=0 then code++ [⟨18,0,0,0,eX l (dK l k) (code.length+1)⟩] else if eX l k 4=1 then code++ [⟨24,0,0,0,0⟩] else code
def L8(l:List Int)(k:Int):Int:=if eX l k 4=0 then dK l (dK l k) else dK l k
@[simp]def ats(h:eH l k):eH l (L8 l k):=by unfold L8;split<;>simp[h]
def Wv(l:List Int)(code:List Instr)(k:Int):List Instr:=(tlV l code k++([⟨1,0,0,0,eX l (L8 l k) 9⟩,⟨23,0,0,0,0⟩]:List Instr)).take 64
def kT(n:Int)(c:List Instr):Nat->List Instr
 |0=>c
 |i+1=>(kT n c i).set i (vy n (c.getD i ⟨0,0,0,0,0⟩))
def AW(n:Int)(c:List Instr):kT n c 0=c:=rfl
def sc(n:Int)(c:List Instr)(i:Nat):(kT n c i).length=c.length:=by
 induction i with
 |zero=>rfl
 |succ i ih=>rw[kT,aaN,ih]
def Gq(n:Int)(c:List Instr): ∀(i j:Nat),i<=j->(kT n c i)[j]?=c[j]?
 |0,_,_=>rfl
 |i+1,j,h=>by rw[kT,adw (by omega),Gq n c i j (by omega)]
def NY(n:Int)(c:List Instr): ∀(i j:Nat),j<i->(kT n c i)[j]?=(c[j]?).map (vy n)
 |0,_,h=>by omega
 |i+1,j,h=>by
  rw[kT];by_cases he:i=j
  ·subst he;by_cases hl:i<c.length
   ·rw[List.getElem?_set_self (by rw[sc];exact hl)];simp[List.getD,hl]
   ·rw[abI (by rw[aaN,sc];omega),abI (by omega)];rfl
  ·rw[adw he,NY n c i j (by omega)]
def CU(n:Int)(c:List Instr):kT n c c.length=c.map (vy n):=by
 apply abF;intro j;rw[abG];by_cases h:j<c.length
 ·exact NY n c _ _ h
 ·rw[abI (by rw[sc];omega),abI (by omega)];rfl
def Gs{c:List Instr}(h:i<c.length)(h':i<(kT n c i).length):(kT n c i)[i]=c[i]:=by
 have:=Gq n c i i (aaI _);rw[aaJ h,aaJ h']at this;simpa using this
def wx{c:List Instr}(h:i<c.length)(hj: ¬(jumps (c[i]).op=true/\n<=(c[i]).eu)):kT n c (i+1)=kT n c i:=by
 rw[kT];have e:vy n (c.getD i ⟨0,0,0,0,0⟩)=c[i]:=by simp only[List.getD,aaJ h,abV];unfold vy;rw[if_neg hj]
 rw[e];apply abF;intro j;by_cases he:i=j
 ·subst he;rw[List.getElem?_set_self (by rw[sc];exact h),Gq n c i i (aaI _),aaJ h]
 ·rw[adw he]
def CV{c:List Instr}(h:i<c.length)(hj:jumps (c[i]).op=true/\n<=(c[i]).eu):kT n c (i+1)=(kT n c i).set i ⟨(c[i]).op,(c[i]).a,(c[i]).b,(c[i]).c,0⟩:=by
 rw[kT];congr 1;simp only[List.getD,aaJ h,abV];unfold vy;rw[if_pos hj]
def CW(x:Instr):(Instr.e x).put 4 (.int .i64 0)=Instr.e ⟨x.op,x.a,x.b,x.c,0⟩:=rfl
def NZ(l an:List Int)(k:Int)(i:Nat):(ig l an k i).1.length<=5*i:=by
 induction i with
 |zero=>simp[yO]
 |succ i ih=>
  rw[zN];have:=JO l an ((ig l an k i).1.length+1) (ig l an k i).1.length (ig l an k i).2;simp only;split
  ·rw[aaY];omega
  ·omega
def CX(l:List Instr)(i:Nat)(x:Instr):(l.map Instr.e).set i ((KKU x.op x.a x.b x.c 0:V))=(l.set i ⟨x.op,x.a,x.b,x.c,0⟩).map Instr.e:=by rw[abO];rfl
def Lf(l:List Int)(k:Int):Int:=(jF l (qw l k) (yM l k) (qw l k).length).2
def An(l:List Int)(k:Int):List Instr×Int:=ig l (qw l k) (dK l (Lf l k)) (1+eX l (Lf l k) 12).toNat
def DR(l:List Int)(k:Int):List Instr:=Wv l (An l k).1 (An l k).2
def sH(l:List Int)(k:Int):Prog:=⟨(DR l k).map (vy (DR l k).length),qw l k,(jF l (qw l k) (yM l k) (qw l k).length).1⟩
def JP(l:List Int)(k:Int):Int:=dK l (L8 l (An l k).2)
@[simp]def Aa(bN:List Int)(aW:Int)(hd:eH bN aW):oz X ([]) 63 2 ((KKa bN aW:V)) []=some (2,(KKa (⟨bN,JP bN aW⟩:oB).l (⟨bN,JP bN aW⟩:oB).time:V),[(KKi (sH bN aW):V)],.bad):=by
 refine aaD ?_;have hz:=CR bN aW;obtain⟨sz,s7⟩: ∃sz,qw bN aW=sz:=⟨_,rfl⟩;obtain⟨ks,hks⟩: ∃ks,yM bN aW=ks:=⟨_,rfl⟩;have vQ:eH bN ks:=by rw[<-hks];exact JL hd
 rw[s7]at hz;have z1:=hz.pos;have z2:=hz.le;obtain⟨kd,hkd⟩: ∃kd,(jF bN sz ks sz.length).2=kd:=⟨_,rfl⟩;obtain⟨ET,adk⟩: ∃ET,(jF bN sz ks sz.length).1=ET:=⟨_,rfl⟩;have hdd:eH bN kd:=by rw[<-hkd];exact AV vQ _
 have L7:=ez bN kd (n:=12) (by omega);obtain⟨N,hN⟩: ∃N:Nat,1+eX bN kd 12=N:=⟨(1+eX bN kd 12).toNat,by omega⟩;obtain⟨cc,s9⟩: ∃cc,(ig bN sz (dK bN kd) N).1=cc:=⟨_,rfl⟩;obtain⟨kc,hkc⟩: ∃kc,(ig bN sz (dK bN kd) N).2=kc:=⟨_,rfl⟩;have a0u:eH bN (dK bN kd):=fy hdd;have hdc:eH bN kc:=by rw[<-hkc];exact CT a0u _
 have pS:cc.length<=60:=by
  have:=NZ bN sz (dK bN kd) N;rw[s9]at this;omega
 have ep0:Lf bN aW=kd:=by unfold Lf;rw[s7,hks,hkd]
 have ec:An bN aW=(cc,kc):=by unfold An;rw[s7,ep0,hN,<-s9,<-hkc];rfl
 obtain⟨ce,rH⟩: ∃ce,Wv bN cc kc=ce:=⟨_,rfl⟩;have ee:DR bN aW=ce:=by unfold DR;rw[ec];exact rH
 have ev:sH bN aW=⟨ce.map (vy ce.length),sz,ET⟩:=by unfold sH;rw[ee,s7,hks,adk]
 have ek:JP bN aW=dK bN (L8 bN kc):=by unfold JP;rw[ec]
 rw[ev,ek];have bae:IntKind.i64.wrap (1+eX bN kd 12)=N:=by rw[hN];exact wrap_i64 (by omega)
 simp(maxSteps:=10000000)(maxDischargeDepth:=30)[hd,s7,hks];refine cY (fun i S=>(S.f 0= .ptr 0 0 0/\S.h 0=some ⟨2,[KKa (⟨bN,(jF bN sz ks i).2⟩:oB).l (⟨bN,(jF bN sz ks i).2⟩:oB).time],true⟩/\S.f 2= .ptr 2 0 0/\S.h 2=some ⟨3,[KKQ ([]:List Instr) ([]:List Int) ([]:List (List Int))],true⟩/\S.f 3= .ptr 3 0 0/\S.h 1000=some ⟨5,(⟨[],sz,(jF bN sz ks i).1⟩:Prog).code.map Instr.e,false⟩/\S.h 1001=some ⟨1,(⟨[],sz,(jF bN sz ks i).1⟩:Prog).data.map aV,false⟩/\S.h 3=some ⟨3,[.agg [.cx 1000 0 ((⟨[],sz,(jF bN sz ks i).1⟩:Prog).code.map Instr.e).length,.sl false ((⟨[],sz,(jF bN sz ks i).1⟩:Prog).an.map (V.int .i64)),.cx 1001 0 ((⟨[],sz,(jF bN sz ks i).1⟩:Prog).data.map aV).length]],true⟩/\S.f 13= .sl false ((sz).map (V.int .i64))/\S.f 14= .int .i64 ((sz.length:Int))/\S.f 15=(i:Int)/\S.n=1102)/\True) (sz.length) (by omega) ?_ ?_ ?_
 ·rintro i S ⟨oY,gS,bL⟩ ⟨df,fg⟩;have Ty:=AV (an:=sz) vQ i;have he:=hz.elem i bL;have HY:nth sz i=sz[i]:=dE bL;have hn2:0<=sz[i]/\sz[i]<=1000:=by omega
  have hlen:(jF bN sz ks i).1.length<=4:=by rw[yP];omega
  simp(maxSteps:=10000000)(maxDischargeDepth:=30)[df,oY,gS,bL,Ty,HY,hn2,xi];exact⟨by omega,fun _ _=>rfl⟩
 ·rintro S ⟨df,fg⟩;rw[hkd,adk]at df;simp(maxSteps:=10000000)(maxDischargeDepth:=30)[df,hdd,bae];refine cY (fun j S=>(S.f 0= .ptr 0 0 0/\S.h 0=some ⟨2,[KKa (⟨bN,(ig bN sz (dK bN kd) j).2⟩:oB).l (⟨bN,(ig bN sz (dK bN kd) j).2⟩:oB).time],true⟩/\S.f 2= .ptr 2 0 0/\S.h 2=some ⟨3,[KKQ ([]:List Instr) ([]:List Int) ([]:List (List Int))],true⟩/\S.f 3= .ptr 3 0 0/\S.h 1000=some ⟨5,(⟨(ig bN sz (dK bN kd) j).1,sz,ET⟩:Prog).code.map Instr.e,false⟩/\S.h 1001=some ⟨1,(⟨(ig bN sz (dK bN kd) j).1,sz,ET⟩:Prog).data.map aV,false⟩/\S.h 3=some ⟨3,[.agg [.cx 1000 0 ((⟨(ig bN sz (dK bN kd) j).1,sz,ET⟩:Prog).code.map Instr.e).length,.sl false ((⟨(ig bN sz (dK bN kd) j).1,sz,ET⟩:Prog).an.map (V.int .i64)),.cx 1001 0 ((⟨(ig bN sz (dK bN kd) j).1,sz,ET⟩:Prog).data.map aV).length]],true⟩/\S.f 6= .int .i64 ((N:Int)-j)/\S.n=1102)/\True) (N) (by omega) ?_ ?_ ?_
  ·rintro j S ⟨mj,uD,jq⟩ ⟨lB,r9⟩;have hdj:=CT (an:=sz) a0u j;have L6:=AU bN sz (dK bN kd) j;obtain⟨cj,xX⟩: ∃cj,(ig bN sz (dK bN kd) j).1=cj:=⟨_,rfl⟩;obtain⟨kj,hkj⟩: ∃kj,(ig bN sz (dK bN kd) j).2=kj:=⟨_,rfl⟩;have lu:=zN bN sz (dK bN kd) j;rw[xX,hkj]at lu;rw[xX]at L6;rw[hkj]at hdj;rw[xX,hkj]at lB;have w1:IntKind.i64.wrap ((N:Int)-j-1)=(N:Int)-(j+1:Nat):=by rw[wrap_i64 (by omega)];omega
   have c1:(0:Int)<(N:Int)-j:=by omega
   have w2:IntKind.i64.wrap ((cj.length:Int)+1)=(cj.length:Int)+1:=wrap_i64 (by omega);have hm:1<=(cj.length:Int)+1/\(cj.length:Int)+1<=1000:=by omega
   have ha:0<=(cj.length:Int)/\(cj.length:Int)<=1000:=by omega
   obtain⟨pt,hpt⟩: ∃pt,xN bN sz ((cj.length:Int)+1) cj.length kj=pt:=⟨_,rfl⟩;have Pr:pt.length<=5:=by rw[<-hpt];exact JO ..
   have w3:IntKind.i64.wrap ((cj.length:Int)+pt.length)=(cj.length:Int)+pt.length:=wrap_i64 (by omega);rw[hpt]at lu;by_cases hf:cj.length+pt.length<=62
   ·have KF:(cj.length:Int)+pt.length<=62:=by omega
    rw[if_pos hf]at lu;simp(maxSteps:=10000000)(maxDischargeDepth:=30)[lB,mj,uD,jq,hdj,hz,w1,c1,w2,hm,ha,hpt,w3,hf,KF,lu];omega
   ·have KF: ¬(cj.length:Int)+pt.length<=62:=by omega
    rw[if_neg hf]at lu;simp(maxSteps:=10000000)(maxDischargeDepth:=30)[lB,mj,uD,jq,hdj,hz,w1,c1,w2,hm,ha,hpt,w3,hf,KF,lu]
  ·rintro S ⟨lB,r9⟩;rw[s9,hkc]at lB;have h4:=ez bN kc (n:=4) (by omega);have akw:=fy hdc;have att:=fy akw;have w5:IntKind.i64.wrap ((cc.length:Int)+1)=(cc.length:Int)+1:=wrap_i64 (by omega);have sV:1<=(cc.length:Int)+1/\(cc.length:Int)+1<=4611686018427387904:=by omega
   by_cases Jl:eX bN kc 4=0
   case pos=>
    have hkt:L8 bN kc=dK bN (dK bN kc):=by unfold L8;rw[if_pos Jl]
    have hlen:(cc++([⟨18,0,0,0,eX bN (dK bN kc) (cc.length+1)⟩]:List Instr)++([⟨1,0,0,0,eX bN (dK bN (dK bN kc)) 9⟩,⟨23,0,0,0,0⟩]:List Instr)).length=cc.length+3:=by simp
    have N0:ce=(cc++([⟨18,0,0,0,eX bN (dK bN kc) (cc.length+1)⟩]:List Instr)++([⟨1,0,0,0,eX bN (dK bN (dK bN kc)) 9⟩,⟨23,0,0,0,0⟩]:List Instr)):=by
     rw[<-rH];unfold Wv tlV;rw[hkt,if_pos Jl];exact aZ (by rw[hlen];omega)
    have N1:ce.length=cc.length+3:=by rw[N0,hlen]
    have BW: ¬(64:Int)<(cc.length:Int)+1+2:=by omega
    have L5: ∀x,List.take (cc.length+1) (List.map Instr.e cc++ [x])=List.map Instr.e cc++ [x]:=fun x=>aZ (by simp);simp(maxSteps:=10000000)(maxDischargeDepth:=30)[lB,hdc,akw,att,Jl,w5,sV,BW,L5]
    repeat (refine⟨by omega,fun _ _=> ?_⟩)
    refine cY (fun i S=>(S.f 0= .ptr 0 0 0/\S.h 0=some ⟨2,[KKa (⟨bN,dK bN (L8 bN kc)⟩:oB).l (⟨bN,dK bN (L8 bN kc)⟩:oB).time],true⟩/\S.f 2= .ptr 2 0 0/\S.h 2=some ⟨3,[KKQ ([]:List Instr) ([]:List Int) ([]:List (List Int))],true⟩/\S.f 3= .ptr 3 0 0/\S.h 1000=some ⟨5,(⟨kT ce.length ce i,sz,ET⟩:Prog).code.map Instr.e,false⟩/\S.h 1001=some ⟨1,(⟨kT ce.length ce i,sz,ET⟩:Prog).data.map aV,false⟩/\S.h 3=some ⟨3,[.agg [.cx 1000 0 ((⟨kT ce.length ce i,sz,ET⟩:Prog).code.map Instr.e).length,.sl false ((⟨kT ce.length ce i,sz,ET⟩:Prog).an.map (V.int .i64)),.cx 1001 0 ((⟨kT ce.length ce i,sz,ET⟩:Prog).data.map aV).length]],true⟩/\S.f 101= .int .i64 ((ce.length:Int))/\S.f 102=(i:Int)/\S.n=1102)/\True) (ce.length) (by omega) ?_ ?_ ?_
    ·rintro i S ⟨oY,gS,bL⟩ ⟨Am,Py⟩;have f1:=sc ce.length ce i;have f2:=Gs (n:=ce.length) bL;have f3:i<(kT ce.length ce i).length:=by rw[f1];exact bL
     have f4:=f2 f3;cases hj:jumps (ce[i]).op
     case false=>
      have f5:=wx (n:=ce.length) bL (fun h=>by rw[hj]at h;cases h.1);simp(maxSteps:=10000000)(maxDischargeDepth:=30)[Am,oY,gS,bL,f1,f3,f4,f5,hj]
     case true=>
      by_cases hm:(ce.length:Int)<=(ce[i]).eu
      ·have f5:=CV (n:=ce.length) bL ⟨hj,hm⟩;simp(maxSteps:=10000000)(maxDischargeDepth:=30)[Am,oY,gS,bL,f1,f3,f4,f5,hj,hm,CX,CW];try rw[abO]
      ·have f5:=wx (n:=ce.length) bL (fun h=>hm h.2);simp(maxSteps:=10000000)(maxDischargeDepth:=30)[Am,oY,gS,bL,f1,f3,f4,f5,hj,hm]
    ·rintro S ⟨Am,Py⟩;simp(maxSteps:=10000000)(maxDischargeDepth:=30)[Am]<;>(
      rw[CU,adB])
    ·simp(maxSteps:=10000000)(maxDischargeDepth:=30)[lB]<;>(
      simp[N0,AW,hkt,N1,Instr.bS];try omega)
   case neg=>
    by_cases EK:eX bN kc 4=1
    case pos=>
     have hkt:L8 bN kc=dK bN kc:=by unfold L8;rw[if_neg Jl]
     have hlen:(cc++([⟨24,0,0,0,0⟩]:List Instr)++([⟨1,0,0,0,eX bN (dK bN kc) 9⟩,⟨23,0,0,0,0⟩]:List Instr)).length=cc.length+3:=by simp
     have N0:ce=(cc++([⟨24,0,0,0,0⟩]:List Instr)++([⟨1,0,0,0,eX bN (dK bN kc) 9⟩,⟨23,0,0,0,0⟩]:List Instr)):=by
      rw[<-rH];unfold Wv tlV;rw[hkt,if_neg Jl,if_pos EK];exact aZ (by rw[hlen];omega)
     have N1:ce.length=cc.length+3:=by rw[N0,hlen]
     have BW: ¬(64:Int)<(cc.length:Int)+1+2:=by omega
     have L5: ∀x,List.take (cc.length+1) (List.map Instr.e cc++ [x])=List.map Instr.e cc++ [x]:=fun x=>aZ (by simp);simp(maxSteps:=10000000)(maxDischargeDepth:=30)[lB,hdc,akw,att,Jl,EK,w5,sV,BW,L5]
     repeat (refine⟨by omega,fun _ _=> ?_⟩)
     refine cY (fun i S=>(S.f 0= .ptr 0 0 0/\S.h 0=some ⟨2,[KKa (⟨bN,dK bN (L8 bN kc)⟩:oB).l (⟨bN,dK bN (L8 bN kc)⟩:oB).time],true⟩/\S.f 2= .ptr 2 0 0/\S.h 2=some ⟨3,[KKQ ([]:List Instr) ([]:List Int) ([]:List (List Int))],true⟩/\S.f 3= .ptr 3 0 0/\S.h 1000=some ⟨5,(⟨kT ce.length ce i,sz,ET⟩:Prog).code.map Instr.e,false⟩/\S.h 1001=some ⟨1,(⟨kT ce.length ce i,sz,ET⟩:Prog).data.map aV,false⟩/\S.h 3=some ⟨3,[.agg [.cx 1000 0 ((⟨kT ce.length ce i,sz,ET⟩:Prog).code.map Instr.e).length,.sl false ((⟨kT ce.length ce i,sz,ET⟩:Prog).an.map (V.int .i64)),.cx 1001 0 ((⟨kT ce.length ce i,sz,ET⟩:Prog).data.map aV).length]],true⟩/\S.f 101= .int .i64 ((ce.length:Int))/\S.f 102=(i:Int)/\S.n=1102)/\True) (ce.length) (by omega) ?_ ?_ ?_
     ·rintro i S ⟨oY,gS,bL⟩ ⟨hI3,hP3⟩;have f1:=sc ce.length ce i;have f2:=Gs (n:=ce.length) bL;have f3:i<(kT ce.length ce i).length:=by rw[f1];exact bL
      have f4:=f2 f3;cases hj:jumps (ce[i]).op
      case false=>
       have f5:=wx (n:=ce.length) bL (fun h=>by rw[hj]at h;cases h.1);simp(maxSteps:=10000000)(maxDischargeDepth:=30)[hI3,oY,gS,bL,f1,f3,f4,f5,hj]
      case true=>
       by_cases hm:(ce.length:Int)<=(ce[i]).eu
       ·have f5:=CV (n:=ce.length) bL ⟨hj,hm⟩;simp(maxSteps:=10000000)(maxDischargeDepth:=30)[hI3,oY,gS,bL,f1,f3,f4,f5,hj,hm,CX,CW];try rw[abO]
       ·have f5:=wx (n:=ce.length) bL (fun h=>hm h.2);simp(maxSteps:=10000000)(maxDischargeDepth:=30)[hI3,oY,gS,bL,f1,f3,f4,f5,hj,hm]
     ·rintro S ⟨hI3,hP3⟩;simp(maxSteps:=10000000)(maxDischargeDepth:=30)[hI3]<;>(
       rw[CU,adB])
     ·simp(maxSteps:=10000000)(maxDischargeDepth:=30)[lB]<;>(
       simp[N0,AW,hkt,N1,Instr.bS];try omega)
    case neg=>
     have hkt:L8 bN kc=dK bN kc:=by unfold L8;rw[if_neg Jl]
     have hlen:(cc++([⟨1,0,0,0,eX bN (dK bN kc) 9⟩,⟨23,0,0,0,0⟩]:List Instr)).length=cc.length+2:=by simp
     have N0:ce=(cc++([⟨1,0,0,0,eX bN (dK bN kc) 9⟩,⟨23,0,0,0,0⟩]:List Instr)):=by
      rw[<-rH];unfold Wv tlV;rw[hkt,if_neg Jl,if_neg EK];exact aZ (by rw[hlen];omega)
     have N1:ce.length=cc.length+2:=by rw[N0,hlen]
     have BW: ¬64<(cc.length:Int)+2:=by omega
     simp(maxSteps:=10000000)(maxDischargeDepth:=30)[lB,hdc,akw,att,Jl,EK,w5,sV,BW]
     repeat (refine⟨by omega,fun _ _=> ?_⟩)
     refine cY (fun i S=>(S.f 0= .ptr 0 0 0/\S.h 0=some ⟨2,[KKa (⟨bN,dK bN (L8 bN kc)⟩:oB).l (⟨bN,dK bN (L8 bN kc)⟩:oB).time],true⟩/\S.f 2= .ptr 2 0 0/\S.h 2=some ⟨3,[KKQ ([]:List Instr) ([]:List Int) ([]:List (List Int))],true⟩/\S.f 3= .ptr 3 0 0/\S.h 1000=some ⟨5,(⟨kT ce.length ce i,sz,ET⟩:Prog).code.map Instr.e,false⟩/\S.h 1001=some ⟨1,(⟨kT ce.length ce i,sz,ET⟩:Prog).data.map aV,false⟩/\S.h 3=some ⟨3,[.agg [.cx 1000 0 ((⟨kT ce.length ce i,sz,ET⟩:Prog).code.map Instr.e).length,.sl false ((⟨kT ce.length ce i,sz,ET⟩:Prog).an.map (V.int .i64)),.cx 1001 0 ((⟨kT ce.length ce i,sz,ET⟩:Prog).data.map aV).length]],true⟩/\S.f 101= .int .i64 ((ce.length:Int))/\S.f 102=(i:Int)/\S.n=1102)/\True) (ce.length) (by omega) ?_ ?_ ?_
     ·rintro i S ⟨oY,gS,bL⟩ ⟨hI4,hP4⟩;have f1:=sc ce.length ce i;have f2:=Gs (n:=ce.length) bL;have f3:i<(kT ce.length ce i).length:=by rw[f1];exact bL
      have f4:=f2 f3;cases hj:jumps (ce[i]).op
      case false=>
       have f5:=wx (n:=ce.length) bL (fun h=>by rw[hj]at h;cases h.1);simp(maxSteps:=10000000)(maxDischargeDepth:=30)[hI4,oY,gS,bL,f1,f3,f4,f5,hj]
      case true=>
       by_cases hm:(ce.length:Int)<=(ce[i]).eu
       ·have f5:=CV (n:=ce.length) bL ⟨hj,hm⟩;simp(maxSteps:=10000000)(maxDischargeDepth:=30)[hI4,oY,gS,bL,f1,f3,f4,f5,hj,hm,CX,CW];try rw[abO]
       ·have f5:=wx (n:=ce.length) bL (fun h=>hm h.2);simp(maxSteps:=10000000)(maxDischargeDepth:=30)[hI4,oY,gS,bL,f1,f3,f4,f5,hj,hm]
     ·rintro S ⟨hI4,hP4⟩;simp(maxSteps:=10000000)(maxDischargeDepth:=30)[hI4]<;>(
       rw[CU,adB])
     ·simp(maxSteps:=10000000)(maxDischargeDepth:=30)[lB]<;>(
       simp[N0,AW,hkt,N1,Instr.bS];try omega)
  ·simp(maxSteps:=10000000)(maxDischargeDepth:=30)[df]<;>(
    simp[yO])
 ·simp(maxSteps:=10000000)(maxDischargeDepth:=30)[]<;>(
   simp[BV])
def GD: ∀(k:List UInt8) (l:List Int) (i:Nat) (h:i<k.length) (h':i<l.length),iI (k.take (i+1)) (l.take (i+1))=(iI (k.take i) (l.take i)&&Ap ((k[i]).toNat:Int) l[i])
 | [],_,i,h,_=>by simp at h
 |_::_,[],i,_,h'=>by simp at h'
 |a::k,b::l,0,_,_=>by simp[iI]
 |a::k,b::l,i+1,h,h'=>by
  have:=GD k l i (by simpa using h) (by simpa using h');simp only[List.take_succ_cons,iI,this,acU,Bool.and_assoc]
def GF: ∀(k:List UInt8) (l:List Int) (i:Nat) (h:i<k.length) (h':i<l.length),Ap ((k[i]).toNat:Int) l[i]=false->iI k l=false
 | [],_,i,h,_,_=>by simp at h
 |_::_,[],i,_,h',_=>by simp at h'
 |a::k,b::l,0,_,_,e=>by simp only[acB]at e;simp[iI,e]
 |a::k,b::l,i+1,h,h',e=>by
  have:=GF k l i (by simpa using h) (by simpa using h') (by simpa using e);simp[iI,this]
def pb(h:0<=c/\c<=15):(dh c).length<=3:=by
 rcases mW h with rfl|rfl|rfl|rfl|rfl|rfl|rfl|rfl|rfl|rfl|rfl|rfl|rfl|rfl|rfl|rfl<;>decide
def mz(c:Int)(bp:List Cell):List Int:=(bp.take (dh c).length).map (·.tag)
def GH(h:0<=c/\c<=15)(hr:bp.length=8):(mz c bp).length=(dh c).length:=by
 have:=pb h;simp[mz,hr];omega
def JV(h:i<(mz c bp).length)(hr:i<bp.length):(mz c bp)[i]=(bp[i]).tag:=by simp[mz]
def C6(aD an:List Int)(n:Nat)(c:Int)(bp:List Cell):vE aD an n c bp=if iI (dh c) (mz c bp)=false then 6
 else if 0<my c/\((ko aD an (bp.getD 1 ⟨0,0⟩) (bp.getD 2 ⟨0,0⟩).val).2≠0\/16<(bp.getD 2 ⟨0,0⟩).val) then 6
 else if(c=10\/c=12)/\(n:Int)<=(bp.getD 0 ⟨0,0⟩).val then 6 else 0:=rfl
@[simp]def IF(ax:List Instr)(ae:List Int)(ay:List (List Int))(aa:List Int)(aq:Int)(ak:List Cell)(ah:List cw)(au:List Thread)(t:Int)(hm:au.length=4)(ht:0<=t/\t<4)(hL:nW aa ae)(hl:ax.length<=1000)(hr:(au.getD t.toNat cn).bp.length=8)(FH:yR (au.getD t.toNat cn).bp)(hp:1<=(au.getD t.toNat cn).pc/\(au.getD t.toNat cn).pc<=ax.length)(hc:0<=(kU ax (au.getD t.toNat cn).pc).eu/\(kU ax (au.getD t.toNat cn).pc).eu<=15):bU X 194 [KKQ ax ae ay,KKY aa aq ak ah au,.int .i64 t]=some (.int .i64 (vE aa ae ax.length (kU ax (au.getD t.toNat cn).pc).eu (au.getD t.toNat cn).bp)):=by
 refine aaA ?_;obtain⟨k,rfl⟩:=aaG ht.1;have hk:k<au.length:=by omega
 have xY:(k:Int)<4:=by omega
 have hk4:k<4:=by omega
 have hx:au.getD (k:Int).toNat cn=au[k]:=by simp[List.getD,hk]
 rw[hx]at hr FH hp hc⊢;obtain⟨j,hj⟩: ∃j:Nat,(au[k]).pc-1=j:=⟨((au[k]).pc-1).toNat,by omega⟩;have tI:j<ax.length:=by omega
 have R8:(j:Int)<ax.length:=by omega
 have yo:kU ax (au[k]).pc=ax[j]:=by unfold kU;rw[hj];simp[List.getD,tI]
 rw[yo]at hc⊢;have hwp:IntKind.i64.wrap ((au[k]).pc-1)=j:=by rw[hj];exact wrap_i64 (by omega)
 obtain⟨c,s9⟩: ∃c,(ax[j]).eu=c:=⟨_,rfl⟩;rw[s9]at hc⊢;obtain⟨bp,Ey⟩: ∃r,(au[k]).bp=r:=⟨_,rfl⟩;rw[Ey]at hr FH⊢;have k3:=pb hc;have tl:=GH hc hr;have c0:=FH 0 (by omega);have c1:=FH 1 (by omega);have c2:=FH 2 (by omega);obtain⟨r0,e0⟩: ∃x,bp[0]'(by omega)=x:=⟨_,rfl⟩;obtain⟨⟨r1t,Sa⟩,e1⟩: ∃x,bp[1]'(by omega)=x:=⟨_,rfl⟩;obtain⟨r2,e2⟩: ∃x,bp[2]'(by omega)=x:=⟨_,rfl⟩;rw[e0]at c0;rw[e1]at c1;rw[e2]at c2;simp only at c1;have g0:bp.getD 0 ⟨0,0⟩=r0:=by simp[List.getD,hr,e0]
 have g1:bp.getD 1 ⟨0,0⟩=⟨r1t,Sa⟩:=by simp[List.getD,hr,e1]
 have g2:bp.getD 2 ⟨0,0⟩=r2:=by simp[List.getD,hr,e2]
 have l0:0<bp.length:=by omega
 have l1:1<bp.length:=by omega
 have l2:2<bp.length:=by omega
 have v1:0<=Sa/\Sa<=65535:=by omega
 have v2':r2.val<=1000000:=by omega
 have w0:IntKind.i64.wrap r0.val=r0.val:=wrap_i64 (by omega);have w2:IntKind.i64.wrap r2.val=r2.val:=wrap_i64 (by omega);rw[C6,g0,g1,g2];simp[hm,xY,hk4,tI,R8,hwp,s9,hc,Ey];refine cY (fun i S=>(S.f 3= .ptr 3 0 0/\S.h 3=some ⟨3,[KKQ ax ae ay],true⟩/\S.f 4= .ptr 4 0 0/\S.h 4=some ⟨5,[KKY aa aq ak ah au],true⟩/\S.f 7= .ptr 7 0 0/\S.h 7=some ⟨8,[KKe (au[k])],true⟩/\S.f 8= .int .i64 (c)/\S.f 9= .str (dh c)/\S.f 29= .int .i64 (((dh c).length:Int))/\S.f 30=(i:Int)/\S.n=1100)/\(iI ((dh c).take i) ((mz c bp).take i)=true)) ((dh c).length) (by omega) ?_ ?_ ?_
 ·rintro i S ⟨oY,gS,bL⟩ ⟨df,fg⟩;have i8:i<8:=by omega
  have Ym:(i:Int)<8:=by omega
  have il:i<bp.length:=by omega
  have it:i<(mz c bp).length:=by omega
  have up:=GD (dh c) (mz c bp) i bL it;have ta:=JV it il;have bad:=GF (dh c) (mz c bp) i bL it;rw[ta]at up bad;rw[fg]at up;cases hf:Ap ((dh c)[i].toNat:Int) (bp[i]).tag with
  |false=>
   have hb:=bad hf;simp[df,bL,Ey,hr,i8,Ym,hf,hb]
  |true=>
   rw[hf]at up;simp[df,gS,bL,Ey,hr,i8,Ym,hf,up]
 ·rintro S ⟨df,fg⟩;have Jd:iI (dh c) (mz c bp)=true:=by
   rw[abC,aZ (by omega)]at fg;exact fg
  by_cases hb:0<my c
  ·by_cases hw:(ko aa ae ⟨r1t,Sa⟩ r2.val).2=0
   ·by_cases h16:16<r2.val
    ·simp[df,Cell.bS,Jd,hb,hL,v1,v2',w2,Ey,hr,e1,e2,hw,h16]
    ·have n10: ¬c=10:=fun e=>by rw[e]at hb;revert hb;decide
     have n12: ¬c=12:=fun e=>by rw[e]at hb;revert hb;decide
     simp[df,Cell.bS,Jd,hb,hL,v1,v2',w2,Ey,hr,e1,e2,hw,h16,n10,n12]
   ·simp[df,Cell.bS,Jd,hb,hL,v1,v2',w2,Ey,hr,e1,e2,hw]
  ·by_cases Lh:c=10
   ·have Oc:=eq_true Lh;by_cases hv:(ax.length:Int)<=r0.val
    ·simp[df,Cell.bS,Jd,hb,w0,Ey,hr,e0,Oc,hv]
    ·simp[df,Cell.bS,Jd,hb,w0,Ey,hr,e0,Oc,hv]
   ·by_cases Pw:c=12
    ·have adx:=eq_true Pw;by_cases hv:(ax.length:Int)<=r0.val
     ·simp[df,Cell.bS,Jd,hb,w0,Ey,hr,e0,Lh,adx,hv]
     ·simp[df,Cell.bS,Jd,hb,w0,Ey,hr,e0,Lh,adx,hv]
    ·simp[df,Jd,hb,Lh,Pw]
 ·simp<;>(
   first|rfl|exact⟨rfl,rfl⟩|(simp[iI,Ey];done)|(rw[Ey];first|rfl|simp[iI]))
def Lq(l:List Int)(k:Int):Int:=dK l (dK l k)
def dK4(l:List Int)(k:Int):Int:=Lq l (Lq l k)
def uX(l:List Int)(n jf k:Int):cS:=⟨eX l k jf,eX l (dK l k) n,1+eX l (Lq l k) 6,eX l (dK l (Lq l k)) 2*eX l (dK4 l k) 4,eX l (dK l (dK4 l k)) 40,eX l (Lq l (dK4 l k)) 16⟩
def aem(l:List Int)(k:Int):Int:=dK l (Lq l (dK4 l k))
@[simp]def uY(bN:List Int)(aW n jf:Int)(hd:eH bN aW)(hn:1<=n/\n<=4611686018427387904)(hm:1<=jf/\jf<=4611686018427387904):oz X ([]) 43 2 ((KKa bN aW:V)) [n,jf]=some (2,(KKa (⟨bN,aem bN aW⟩:oB).l (⟨bN,aem bN aW⟩:oB).time:V),[(KKu (uX bN n jf aW):V)],.bad):=by
 refine aaD ?_;have h2:=ez bN (Lq bN aW) (n:=6) (by omega);have h3:=ez bN (dK bN (Lq bN aW)) (n:=2) (by omega);have h4:=ez bN (dK4 bN aW) (n:=4) (by omega);have w2:IntKind.i64.wrap (1+eX bN (Lq bN aW) 6)=1+eX bN (Lq bN aW) 6:=wrap_i64 (by omega);have Pz:0<=eX bN (dK bN (Lq bN aW)) 2*eX bN (dK4 bN aW) 4/\eX bN (dK bN (Lq bN aW)) 2*eX bN (dK4 bN aW) 4<=4:=by
  have:eX bN (dK bN (Lq bN aW)) 2=0\/eX bN (dK bN (Lq bN aW)) 2=1:=by omega
  rcases this with e|e<;>rw[e]<;>omega
 have w4:IntKind.i64.wrap (eX bN (dK bN (Lq bN aW)) 2*eX bN (dK4 bN aW) 4)=eX bN (dK bN (Lq bN aW)) 2*eX bN (dK4 bN aW) 4:=wrap_i64 (by omega);unfold uX aem;unfold dK4 Lq at*;simp(maxSteps:=10000000)(maxDischargeDepth:=30)[hd,hn,hm,w2,w4]
def kC(l:List Int)(k:Int)(h:0<=n):((ki l k n).length:Int)<=n:=by
 unfold ki;rw[DP];have:=ez l k (n:=n+1) (by omega);omega
def Av(l:List Int)(k:Int):Int:=nZ l k 5
def Aw(l:List Int)(k:Int):Int:=nZ l (Av l k) 3
def Ax(l:List Int)(k:Int):Int:=nZ l (Aw l k) 8
def D7(l:List Int)(k:Int):Int:=nZ l (Ax l k) 4
def D8(l:List Int)(k:Int):Int:=nZ l (D7 l k) 5
def OF(l:List Int)(k:Int):Int:=nZ l (D8 l k) 5
def vc(l:List Int)(k:Int):cU:=B0 [ki l k 5,ki l (Av l k) 3] [ki l (Aw l k) 8,ki l (Ax l k) 4] (ki l (D7 l k) 5) (ki l (D8 l k) 5)
@[simp]def ae6(h:eH l k):eH l (OF l k):=mD (mD (mD (mD (mD (mD h)))))
def ae7(l:List Int)(k:Int):wy (vc l k):=by
 have a1:=kC l k (n:=5) (by omega);have a2:=kC l (Av l k) (n:=3) (by omega);have a3:=kC l (Aw l k) (n:=8) (by omega);have a4:=kC l (Ax l k) (n:=4) (by omega);have a5:=kC l (D7 l k) (n:=5) (by omega);have a6:=kC l (D8 l k) (n:=5) (by omega);refine TV (by simp) (fun i h=> ?_) (by simp) (fun i h=> ?_) (by omega) (by omega)
 ·have:i=0\/i=1:=by simp at h;omega
  rcases this with rfl|rfl
  ·simp;omega
  ·simp;omega
 ·have:i=0\/i=1:=by simp at h;omega
  rcases this with rfl|rfl
  ·simp;omega
  ·simp;omega
@[simp]def Ac(bN:List Int)(aW:Int)(hd:eH bN aW):oz X ([]) 66 2 ((KKa bN aW:V)) []=some (2,(KKa (⟨bN,OF bN aW⟩:oB).l (⟨bN,OF bN aW⟩:oB).time:V),[(KKh (vc bN aW):V)],.bad):=by
 refine aaD ?_;have a1:=kC bN aW (n:=5) (by omega);have a2:=kC bN (Av bN aW) (n:=3) (by omega);have a3:=kC bN (Aw bN aW) (n:=8) (by omega);have a4:=kC bN (Ax bN aW) (n:=4) (by omega);have a5:=kC bN (D7 bN aW) (n:=5) (by omega);have a6:=kC bN (D8 bN aW) (n:=5) (by omega);have e1:nZ bN aW 5=Av bN aW:=rfl;have e2:nZ bN (Av bN aW) 3=Aw bN aW:=rfl;have e3:nZ bN (Aw bN aW) 8=Ax bN aW:=rfl;have e4:nZ bN (Ax bN aW) 4=D7 bN aW:=rfl;have e5:nZ bN (D7 bN aW) 5=D8 bN aW:=rfl;have e6:nZ bN (D8 bN aW) 5=OF bN aW:=rfl;have d1:eH bN (Av bN aW):=mD hd;have d2:eH bN (Aw bN aW):=mD d1;have d3:eH bN (Ax bN aW):=mD d2;have d4:eH bN (D7 bN aW):=mD d3;have d5:eH bN (D8 bN aW):=mD d4;have hf: ∀i (h:i< [ki bN aW 5,ki bN (Av bN aW) 3].length),([ki bN aW 5,ki bN (Av bN aW) 3][i]).length<=64:=fun i h=>by
  have:i=0\/i=1:=by simp at h;omega
  rcases this with rfl|rfl
  ·simp;omega
  ·simp;omega
 have hi: ∀i (h:i< [ki bN (Aw bN aW) 8,ki bN (Ax bN aW) 4].length),([ki bN (Aw bN aW) 8,ki bN (Ax bN aW) 4][i]).length<=64:=fun i h=>by
  have:i=0\/i=1:=by simp at h;omega
  rcases this with rfl|rfl
  ·simp;omega
  ·simp;omega
 have key:=IE [ki bN aW 5,ki bN (Av bN aW) 3] [ki bN (Aw bN aW) 8,ki bN (Ax bN aW) 4] (ki bN (D7 bN aW) 5) (ki bN (D8 bN aW) 5) (by simp) hf (by simp) hi (by omega) (by omega);simp only[aaV,abM,aV]at key;simp[hd,d1,d2,d3,d4,d5,e1,e2,e3,e4,e5,e6,key,vc]
end Go.Proofs.YtdngefmliibcgaaGreat
