/- Part of a proof: D2. -/
import Derived.Test.YtdngefmliibcgaaGreatM19
set_option linter.all false
set_option maxRecDepth 20000
set_option maxHeartbeats 20000000
namespace Go.Proofs.YtdngefmliibcgaaGreat
open Go Go.Abs Go.Abs.kX Qf
variable  {l an:List Int}{k op c x n:Int}{i:Nat}{bz:List Cell}
def BK(v:Int):Int:=if v=0 then 6 else if v=1 then 12 else 32
def DB(l:List Int)(k:Int):Int:=1+eZ l (dI l k) (BK (eZ l k 3))
def iY(l:List Int)(k:Int):Nat->List Int×Int
 |0=>([4+eZ l k 9],dI l (dI l k))
 |i+1=>((iY l k i).1++ [DB l (iY l k i).2],dI l (dI l (iY l k i).2))
def BL(l:List Int)(k:Int):iY l k 0=([4+eZ l k 9],dI l (dI l k)):=rfl
def ug(l:List Int)(k:Int)(i:Nat):iY l k (i+1)=((iY l k i).1++ [DB l (iY l k i).2],dI l (dI l (iY l k i).2)):=rfl
@[simp]def F5(h:eh l k)(i:Nat):eh l (iY l k i).2:=by
 induction i with
 |zero=>exact eJ (eJ h)
 |succ i ih=>exact eJ (eJ ih)
def yD(l:List Int)(k:Int)(i:Nat):(iY l k i).1.length=i+1:=by
 induction i with
 |zero=>rfl
 |succ i ih=>rw[ug];simp[ih]
def qx(l:List Int)(k:Int):List Int:=(iY l k (eZ l (dI l k) 4).toNat).1
def yE(l:List Int)(k:Int):Int:=(iY l k (eZ l (dI l k) 4).toNat).2
@[simp]def Jr(h:eh l k):eh l (yE l k):=F5 h _
def No(l:List Int)(k:Int):1<=DB l k/\DB l k<=32:=by
 have h:=eX l (dI l k) (n:=BK (eZ l k 3)) (by unfold BK;split<;>(try split)<;>omega);have:BK (eZ l k 3)<=32:=by unfold BK;split<;>(try split)<;>omega
 unfold DB;omega
def Rn(l:List Int)(k:Int)(i:Nat): ∀x∈ (iY l k i).1,1<=x/\x<=32:=by
 induction i with
 |zero=>
  intro x hx;simp[BL]at hx;have:=eX l k (n:=9) (by omega);omega
 |succ i ih=>
  intro x hx;rw[ug]at hx;simp at hx;rcases hx with hx|rfl
  ·exact ih x hx
  ·exact No _ _
def CI(l:List Int)(k:Int):oO (qx l k):=by
 have h:=eX l (dI l k) (n:=4) (by omega);refine⟨fun i hi=>Rn l k _ _ (aaL hi),?_,?_⟩
 ·unfold qx;rw[yD];omega
 ·unfold qx;rw[yD];omega
@[simp]def Tk(bN:List Int)(aW:Int)(hd:eh bN aW):oF X ([]) 125 2 ((KKa bN aW:V)) []=some (2,(KKa (⟨bN,yE bN aW⟩:oH).l (⟨bN,yE bN aW⟩:oH).time:V),[.sl false ((qx bN aW).map (V.int .i64))],.bad):=by
 refine aaD ?_;have h0:=eX bN aW (n:=9) (by omega);have w0:IntKind.i64.wrap (4+eZ bN aW 9)=4+eZ bN aW 9:=wrap_i64 (by omega);have h1:=eX bN (dI bN aW) (n:=4) (by omega);obtain⟨N,hN⟩: ∃N:Nat,eZ bN (dI bN aW) 4=N:=⟨(eZ bN (dI bN aW) 4).toNat,by omega⟩;have e1:qx bN aW=(iY bN aW N).1:=by unfold qx;rw[hN];rfl
 have e2:yE bN aW=(iY bN aW N).2:=by unfold yE;rw[hN];rfl
 rw[e1,e2];simp[hd,w0,hN];refine cZ (fun i S=>(S.f 0= .ptr 0 0 0/\S.h 0=some ⟨2,[KKa (⟨bN,(iY bN aW i).2⟩:oH).l (⟨bN,(iY bN aW i).2⟩:oH).time],true⟩/\S.f 3= .cu 3 0 ((((iY bN aW i).1).map (V.int .i64))).length/\S.h 3=some ⟨1,(((iY bN aW i).1).map (V.int .i64)),false⟩/\S.f 4= .int .i64 ((N:Int)-i)/\S.n=1100)/\True) (N) (by omega) ?_ ?_ ?_
 ·rintro i S ⟨pq,ie,bL⟩ ⟨df,fp⟩;have SY:=F5 hd i;have w1:IntKind.i64.wrap ((N:Int)-i-1)=(N:Int)-(i+1:Nat):=by rw[wrap_i64 (by omega)];omega
  have c1:(0:Int)<(N:Int)-i:=by omega
  have rK:=yD bN aW i;have h2:=eX bN (iY bN aW i).2 (n:=3) (by omega);have hs:=No bN (iY bN aW i).2;have es:DB bN (iY bN aW i).2=1+eZ bN (dI bN (iY bN aW i).2) (BK (eZ bN (iY bN aW i).2 3)):=rfl;have hw:IntKind.i64.wrap (DB bN (iY bN aW i).2)=DB bN (iY bN aW i).2:=wrap_i64 (by omega);rw[es]at hw;have hc:eZ bN (iY bN aW i).2 3=0\/eZ bN (iY bN aW i).2 3=1\/eZ bN (iY bN aW i).2 3=2:=by omega
  rcases hc with hc|hc|hc
  ·rw[hc]at hw es;have p:BK 0=6:=rfl;rw[p]at hw es;simp[df,bL,SY,w1,hc,hw,es,ug];omega
  ·rw[hc]at hw es;have p:BK 1=12:=rfl;rw[p]at hw es;simp[df,bL,SY,w1,hc,hw,es,ug];omega
  ·rw[hc]at hw es;have p:BK 2=32:=rfl;rw[p]at hw es;simp[df,bL,SY,w1,hc,hw,es,ug];omega
 ·rintro S ⟨df,fp⟩;simp[df]
 ·simp[]<;>(
   simp[BL])
@[simp]def AN(bN:List Int)(aW:Int)(an:List Int)(hd:eh bN aW)(hz:oO an):oF X ([]) 65 2 ((KKa bN aW:V)) [an]=some (2,(KKa (⟨bN,dI bN aW⟩:oH).l (⟨bN,dI bN aW⟩:oH).time:V),[(KKA ((⟨fG an (eZ bN aW 1048576),IntKind.u16.wrap (40503*eZ bN aW 1048576)⟩:Layout)):V)],.bad):=by
 refine aaD ?_;have h0:=eX bN aW (n:=1048576) (by omega);have h1:0<=eZ bN aW 1048576/\eZ bN aW 1048576<=1048575:=by omega
 simp[hd,hz,h1]
def Np(l:List Int)(h: ∀i (hi:i<l.length),1<=l[i]/\l[i]<=32):(l.length:Int)<=total l/\total l<=32*l.length:=by
 suffices H: ∀i,i<=l.length->(i:Int)<=total (l.take i)/\total (l.take i)<=32*i by
  have:=H l.length (aaI _);rwa[abi]at this
 intro i;induction i with
 |zero=>intro _;simp[total]
 |succ i ih=>
  intro hi;have h1:=ih (by omega);have h2:=h i (by omega);rw[fD (by omega),ub];omega
def wi(l an:List Int)(k:Int):Canon:=
 if eZ l k 6=4 then⟨1,0,(py an (eZ l (dI l k) (total an)) 0).1.region,(py an (eZ l (dI l k) (total an)) 0).1.offset⟩
 else if eZ l k 6=5 then⟨2,eZ l (dI l k) 10,0,0⟩ else⟨0,uQ l (dI l k),0,0⟩
def BM(l:List Int)(k:Int):Int:=if eZ l k 6=4 then dI l (dI l k) else if eZ l k 6=5 then dI l (dI l k) else BI l (dI l k)
@[simp]def Nq(h:eh l k):eh l (BM l k):=by
 unfold BM;split
 ·exact eJ (eJ h)
 ·split
  ·exact eJ (eJ h)
  ·exact BJ (eJ h)
@[simp]def uR(bN:List Int)(aW:Int)(an:List Int)(hd:eh bN aW)(hz:oO an):oF X ([]) 92 2 ((KKa bN aW:V)) [an]=some (2,(KKa (⟨bN,BM bN aW⟩:oH).l (⟨bN,BM bN aW⟩:oH).time:V),[(KKr (wi bN an aW):V)],.bad):=by
 refine aaD ?_;have h0:=eX bN aW (n:=6) (by omega);have ht:=Np an hz.elem;have z1:=hz.pos;have z2:=hz.le;have zl:an.length<=1000:=by omega
 have zb: ∀x∈an,0<=x/\x<=1000000:=fun x hx=>by
  obtain⟨i,hi,rfl⟩:=abE hx;have:=hz.elem i hi;omega
 have ht1:1<=total an/\total an<=4611686018427387904:=by omega
 have h4:=eX bN (dI bN aW) (n:=total an) ht1.1;have h4':0<=eZ bN (dI bN aW) (total an)/\eZ bN (dI bN aW) (total an)<=1000000:=by omega
 have h5:=eX bN (dI bN aW) (n:=10) (by omega);have w5:IntKind.u16.wrap (eZ bN (dI bN aW) 10)=eZ bN (dI bN aW) 10:=wrap_u16 (by omega);have key:=Ih an zl zb;by_cases c4:eZ bN aW 6=4
 ·simp[hd,hz,key,ht1,h4',c4,wi,BM]
 by_cases c5:eZ bN aW 6=5
 ·simp[hd,c5,w5,wi,BM]
 ·simp[hd,c4,c5,wi,BM]
@[simp]def avq(r n:Int):bW X 128 [r,n]=some ((KKu ((⟨1,r,0,0,n⟩:Instr)):V)):=by
 refine aaA ?_;simp
@[simp]def aso(a b:Int):bW X 200 [a,b]=some ((KKu ((⟨2,a,b,0,0⟩:Instr)):V)):=by
 refine aaA ?_;simp
@[simp]def asq(n:Int):bW X 129 [n]=some ((KKu ((⟨23,0,0,0,n⟩:Instr)):V)):=by
 refine aaA ?_;simp
def yF(l:List Int)(u:Bool)(k:Int):Int:=if u=true then eZ l k 8 else 0
def Ee(l:List Int)(u:Bool)(k:Int):Int:=if u=true then dI l k else k
@[simp]def KT{u:Bool}(h:eh l k):eh l (Ee l u k):=by
 unfold Ee;split
 ·exact eJ h
 ·exact h
def VY(l:List Int)(k:Int):yF l true k=eZ l k 8:=rfl
def Rp(l:List Int)(k:Int):yF l false k=0:=rfl
def VZ(l:List Int)(k:Int):Ee l true k=dI l k:=rfl
def Rq(l:List Int)(k:Int):Ee l false k=k:=rfl
def Nr(l:List Int)(op n jf k:Int):Int:=if jumps op=true then eZ l k jf else if op=15 then eZ l k n else if op=23 then eZ l k 16 else if iM op 3=true then uQ l k else 0
def ajv(l:List Int)(op k:Int):Int:=if jumps op=true then dI l k else if op=15 then dI l k else if op=23 then dI l k else if iM op 3=true then BI l k else k
@[simp]def ajw(h:eh l k):eh l (ajv l op k):=by
 unfold ajv;repeat' split
 ·exact eJ h
 ·exact eJ h
 ·exact eJ h
 ·exact BJ h
 ·exact h
def k1(l:List Int)(op k:Int):Int:=Ee l (iM op 0) (dI l k)
def k2(l:List Int)(op k:Int):Int:=Ee l (iM op 1) (k1 l op k)
def k3(l:List Int)(op k:Int):Int:=Ee l (iM op 2) (k2 l op k)
def BN(l:List Int)(n jf k:Int):Instr:=
 ⟨eZ l k 25,yF l (iM (eZ l k 25) 0) (dI l k),yF l (iM (eZ l k 25) 1) (k1 l (eZ l k 25) k),yF l (iM (eZ l k 25) 2) (k2 l (eZ l k 25) k),Nr l (eZ l k 25) n jf (k3 l (eZ l k 25) k)⟩
def Ns(l:List Int)(k:Int):Int:=ajv l (eZ l k 25) (k3 l (eZ l k 25) k)
@[simp]def acb(h:eh l k):eh l (Ns l k):=ajw (KT (KT (KT (eJ h))))
@[simp]def Tl(bN:List Int)(aW n jf:Int)(hd:eh bN aW)(hn:1<=n/\n<=4611686018427387904)(hm:1<=jf/\jf<=4611686018427387904):oF X ([]) 201 2 ((KKa bN aW:V)) [n,jf]=some (2,(KKa (⟨bN,Ns bN aW⟩:oH).l (⟨bN,Ns bN aW⟩:oH).time:V),[(KKu (BN bN n jf aW):V)],.bad):=by
 refine aaD ?_;have h0:=eX bN aW (n:=25) (by omega);have ho:0<=eZ bN aW 25/\eZ bN aW 25<=24:=by omega
 obtain⟨op,jJ⟩: ∃op,eZ bN aW 25=op:=⟨_,rfl⟩;unfold BN Ns;rw[jJ]at ho⊢;unfold k3 k2 k1 Nr ajv;have hw: ∀k,IntKind.i64.wrap (uQ bN k)=uQ bN k:=fun k=>by have:=wh bN k;exact wrap_i64 (by omega)
 cases u0:iM op 0<;>cases u1:iM op 1<;>cases u2:iM op 2<;>simp only[VY,Rp,VZ,Rq];all_goals
  by_cases j:jumps op=true
  ·simp(maxSteps:=10000000)(maxDischargeDepth:=30)[hd,jJ,ho,u0,u1,u2,j,hm,yF,Ee]
  ·by_cases o15:op=15
   ·subst o15;simp(maxSteps:=10000000)(maxDischargeDepth:=30)[hd,jJ,ho,u0,u1,u2,j,hn,yF,Ee]
   ·by_cases o23:op=23
    ·subst o23;simp(maxSteps:=10000000)(maxDischargeDepth:=30)[hd,jJ,ho,u0,u1,u2,j,yF,Ee]
    ·cases u3:iM op 3
     ·simp(maxSteps:=10000000)(maxDischargeDepth:=30)[hd,jJ,ho,u0,u1,u2,u3,j,o15,o23,yF,Ee]
     ·simp(maxSteps:=10000000)(maxDischargeDepth:=30)[hd,jJ,ho,u0,u1,u2,u3,j,o15,o23,hw,yF,Ee]
def aow(v:Int):Int:=if v=0 then 0 else if v=1 then 1 else if v=2 then 2 else if v=3 then 3 else if v=4 then 7 else 63
def acd(l:List Int)(k:Int):Choice:=⟨eZ l k 4,aow (eZ l (dI l k) 6),decide (eZ l (dI l (dI l k)) 4=0)⟩
@[simp]def AO(bN:List Int)(aW:Int)(hd:eh bN aW):oF X ([]) 68 2 ((KKa bN aW:V)) []=some (2,(KKa (⟨bN,dI bN (dI bN (dI bN aW))⟩:oH).l (⟨bN,dI bN (dI bN (dI bN aW))⟩:oH).time:V),[.agg [.int .i64 (acd bN aW).dd,.int .i64 (acd bN aW).fQ,.bool (acd bN aW).CD]],.bad):=by
 refine aaD ?_;have h0:=eX bN (dI bN aW) (n:=6) (by omega);have hc:eZ bN (dI bN aW) 6=0\/eZ bN (dI bN aW) 6=1\/eZ bN (dI bN aW) 6=2\/eZ bN (dI bN aW) 6=3\/eZ bN (dI bN aW) 6=4\/eZ bN (dI bN aW) 6=5:=by omega
 rcases hc with hc|hc|hc|hc|hc|hc<;>simp(maxSteps:=10000000)(maxDischargeDepth:=30)[hd,hc,acd,aow]
def Rr(v:Int):Int:=if v=0 then 3 else if v=1 then 4 else if v=2 then 5 else if v=3 then 10 else if v=4 then 13 else if v=5 then 14 else if v=6 then 11 else 9
def oI(l an:List Int)(jf at_ r n sr c k:Int):List Instr:=
 if c=0 then [⟨1,3+eZ l k 3,0,0,uQ l (dI l k)⟩]
 else if c=1 then [⟨Rr (eZ l k 8),3+eZ l (dI l k) 3,3+eZ l (dI l (dI l k)) 3,3+eZ l (dI l (dI l (dI l k))) 3,0⟩]
 else if c=2 then [⟨15,6,0,0,r⟩]
 else if c=3\/c=4 then [⟨15,6,0,0,r⟩,⟨17,6,3+eZ l k 5,0,eZ l (dI l k) sr⟩]
 else if c=5\/c=6 then [⟨15,6,0,0,r⟩,⟨16,3+eZ l k 4,6,0,eZ l (dI l k) sr⟩]
 else if c=7\/c=8 then [⟨1,0,0,0,eZ l k 3⟩,⟨15,1,0,0,r⟩,⟨1,2,0,0,n⟩,⟨23,0,0,0,13⟩]
 else if c=9 then [⟨1,0,0,0,eZ l k 3⟩,⟨15,1,0,0,r⟩,⟨1,2,0,0,n⟩,⟨23,0,0,0,14⟩,⟨2,3,0,0,0⟩]
 else if c=10 then [⟨1,0,0,0,eZ l k 3⟩,⟨1,1,0,0,eZ l (dI l k) 4⟩,⟨23,0,0,0,3⟩,⟨2,7,0,0,0⟩]
 else if c=11 then [⟨2,0,7,0,0⟩,⟨15,1,0,0,r⟩,⟨1,2,0,0,n⟩,⟨23,0,0,0,if eZ l k 2=0 then 1 else 2⟩]
 else if c=12 then(if eZ l (dI l k) 2=0 then [⟨2,0,7,0,0⟩,⟨23,0,0,0,4⟩] else [⟨2,0,7,0,0⟩,⟨1,1,0,0,eZ l k 4⟩,⟨23,0,0,0,5⟩])
 else if c=13 then [⟨23,0,0,0,if eZ l k 3=0 then 6 else if eZ l k 3=1 then 7 else 15⟩,⟨2,3+eZ l (dI l k) 3,0,0,0⟩]
 else if c=14\/c=15 then [⟨1,0,0,0,eZ l k 3⟩,⟨23,0,0,0,if eZ l (dI l k) 2=0 then 8 else 9⟩]
 else if c=16 then [⟨1,0,0,0,eZ l k jf⟩,⟨2,1,3,0,0⟩,⟨23,0,0,0,10⟩]
 else if c=17 then [⟨1,0,0,0,eZ l (dI l k) (if eZ l k 2=0 then jf else 5)⟩,⟨23,0,0,0,if eZ l (dI l (dI l k)) 2=0 then 12 else 11⟩]
 else if c=18 then [⟨1,5,0,0,1+eZ l k 4⟩,⟨1,4,0,0,1⟩,⟨4,5,5,4,0⟩,⟨20,5,0,0,at_+2⟩]
 else [BN l an.length jf k]
def lC(l:List Int)(c k:Int):Int:=
 if c=0 then BI l (dI l k)
 else if c=1 then dI l (dI l (dI l (dI l k)))
 else if c=2 then k
 else if c=3\/c=4 then dI l (dI l k)
 else if c=5\/c=6 then dI l (dI l k)
 else if c=7\/c=8 then dI l k
 else if c=9 then dI l k
 else if c=10 then dI l (dI l k)
 else if c=11 then dI l k
 else if c=12 then dI l (dI l k)
 else if c=13 then dI l (dI l k)
 else if c=14\/c=15 then dI l (dI l k)
 else if c=16 then dI l k
 else if c=17 then dI l (dI l (dI l k))
 else if c=18 then dI l k
 else Ns l k
def lV{α:Type}{P:α->Prop}{c:Prop}[Decidable c]{a b:α}(h1:P a)(h2:P b):P (if c then a else b):=by split<;>assumption
def V0(h:eh l k):eh l (lC l c k):=by
 unfold lC;have h1:=eJ h;have h2:=eJ h1;have h3:=eJ h2;have h4:=eJ h3;exact lV (BJ h1) (lV h4 (lV h (lV h2 (lV h2 (lV h1 (lV h1 (lV h2 (lV h1 (lV h2 (lV h2 (lV h2 (lV h1 (lV h3 (lV h1 (acb h)))))))))))))))
def m5(x:Int):Int:=if x<5 then x else 5
def aox(h:1<=x):1<=m5 x/\m5 x<=5:=by unfold m5;split<;>omega
def BO(l an:List Int)(k:Int):Int:=eZ l k an.length
def Js(l an:List Int)(k:Int):Int:=eZ l (dI l k) (m5 (nth an (BO l an k).toNat+1))
def xF(l an:List Int)(jf at_ k:Int):List Instr:=
 oI l an jf at_ (BO l an k) (Js l an k) (nth an (BO l an k).toNat) (eZ l (dI l (dI l k)) 20) (dI l (dI l (dI l k)))
def F6(l:List Int)(k:Int):Int:=lC l (eZ l (dI l (dI l k)) 20) (dI l (dI l (dI l k)))
@[simp]def ace(h:eh l k):eh l (F6 l k):=V0 (eJ (eJ (eJ h)))
def c20(h:0<=c/\c<20):c=0\/c=1\/c=2\/c=3\/c=4\/c=5\/c=6\/c=7\/c=8\/c=9\/c=10\/c=11\/c=12\/c=13\/c=14\/c=15\/c=16\/c=17\/c=18\/c=19:=by omega
@[simp]def V1(bN:List Int)(aW:Int)(an:List Int)(jf at_:Int)(hd:eh bN aW)(hz:oO an)(hm:1<=jf/\jf<=1000)(ha:0<=at_/\at_<=1000):oF X ([]) 127 2 ((KKa bN aW:V)) [an,jf,at_]=some (2,(KKa (⟨bN,F6 bN aW⟩:oH).l (⟨bN,F6 bN aW⟩:oH).time:V),[.sl false ((xF bN an jf at_ aW).map Instr.e)],.bad):=by
 refine aaD ?_;have z1:=hz.pos;have z2:=hz.le;have Bt:1<=(an.length:Int)/\(an.length:Int)<=4611686018427387904:=by omega
 have h0:=eX bN aW (n:=an.length) (by omega);obtain⟨r,hr⟩: ∃r:Nat,eZ bN aW an.length=r:=⟨(eZ bN aW an.length).toNat,by omega⟩;have qJ:r<an.length:=by omega
 have hs:=hz.elem r qJ;have e1:BO bN an aW=r:=hr;have e2:Js bN an aW=eZ bN (dI bN aW) (m5 (an[r]+1)):=by unfold Js;rw[e1];simp[dC qJ]
 have hq:=aox (x:=an[r]+1) (by omega);obtain⟨q,hqe⟩: ∃q,m5 (an[r]+1)=q:=⟨_,rfl⟩;have Jt:(if an[r]+1<5 then an[r]+1 else 5)=q:=hqe;rw[hqe]at hq e2;have lO:1<=q/\q<=4611686018427387904:=by omega
 have Dx:IntKind.i64.wrap (an[r]+1)=an[r]+1:=wrap_i64 (by omega);obtain⟨n,hn⟩: ∃n,eZ bN (dI bN aW) q=n:=⟨_,rfl⟩;have h2:=eX bN (dI bN (dI bN aW)) (n:=20) (by omega);obtain⟨c,hc⟩: ∃c,eZ bN (dI bN (dI bN aW)) 20=c:=⟨_,rfl⟩;obtain⟨k,hk⟩: ∃k,dI bN (dI bN (dI bN aW))=k:=⟨_,rfl⟩;have vr:eh bN k:=by rw[<-hk];exact eJ (eJ (eJ hd))
 have ev:xF bN an jf at_ aW=oI bN an jf at_ r n an[r] c k:=by
  unfold xF;rw[hc,hk,e1,e2,hn];simp[dC qJ]
 have ek:F6 bN aW=lC bN c k:=by unfold F6;rw[hc,hk]
 rw[ev,ek];rw[hc]at h2;have w3: ∀k,IntKind.i64.wrap (3+eZ bN k 3)=3+eZ bN k 3:=fun k=>by have:=eX bN k (n:=3) (by omega);exact wrap_i64 (by omega)
 have w4: ∀k,IntKind.i64.wrap (3+eZ bN k 4)=3+eZ bN k 4:=fun k=>by have:=eX bN k (n:=4) (by omega);exact wrap_i64 (by omega)
 have w5: ∀k,IntKind.i64.wrap (3+eZ bN k 5)=3+eZ bN k 5:=fun k=>by have:=eX bN k (n:=5) (by omega);exact wrap_i64 (by omega)
 have w1: ∀k,IntKind.i64.wrap (1+eZ bN k 4)=1+eZ bN k 4:=fun k=>by have:=eX bN k (n:=4) (by omega);exact wrap_i64 (by omega)
 have ww: ∀k,IntKind.i64.wrap (uQ bN k)=uQ bN k:=fun k=>by have:=wh bN k;exact wrap_i64 (by omega)
 have wa:IntKind.i64.wrap (at_+2)=at_+2:=wrap_i64 (by omega);have SS:1<=jf/\jf<=4611686018427387904:=by omega
 have oM:1<=an[r]/\an[r]<=4611686018427387904:=by omega
 rcases c20 h2 with rfl|rfl|rfl|rfl|rfl|rfl|rfl|rfl|rfl|rfl|rfl|rfl|rfl|rfl|rfl|rfl|rfl|rfl|rfl|rfl
 ·simp(maxSteps:=10000000)(maxDischargeDepth:=30)[hd,Bt,hr,qJ,Dx,Jt,lO,hn,hc,hk,vr,w3,ww,Instr.bS,oI,lC]
 ·have h8:=eX bN k (n:=8) (by omega);have V2:eZ bN k 8=0\/eZ bN k 8=1\/eZ bN k 8=2\/eZ bN k 8=3\/eZ bN k 8=4\/eZ bN k 8=5\/eZ bN k 8=6\/eZ bN k 8=7:=by omega
  rcases V2 with h8|h8|h8|h8|h8|h8|h8|h8<;>simp(maxSteps:=10000000)(maxDischargeDepth:=30)[hd,Bt,hr,qJ,Dx,Jt,lO,hn,hc,hk,vr,w3,h8,Rr,Instr.bS,oI,lC]
 ·simp(maxSteps:=10000000)(maxDischargeDepth:=30)[hd,Bt,hr,qJ,Dx,Jt,lO,hn,hc,hk,vr,Instr.bS,oI,lC]
 ·simp(maxSteps:=10000000)(maxDischargeDepth:=30)[hd,Bt,hr,qJ,Dx,Jt,lO,hn,hc,hk,vr,w5,oM,Instr.bS,oI,lC]
 ·simp(maxSteps:=10000000)(maxDischargeDepth:=30)[hd,Bt,hr,qJ,Dx,Jt,lO,hn,hc,hk,vr,w5,oM,Instr.bS,oI,lC]
 ·simp(maxSteps:=10000000)(maxDischargeDepth:=30)[hd,Bt,hr,qJ,Dx,Jt,lO,hn,hc,hk,vr,w4,oM,Instr.bS,oI,lC]
 ·simp(maxSteps:=10000000)(maxDischargeDepth:=30)[hd,Bt,hr,qJ,Dx,Jt,lO,hn,hc,hk,vr,w4,oM,Instr.bS,oI,lC]
 ·simp(maxSteps:=10000000)(maxDischargeDepth:=30)[hd,Bt,hr,qJ,Dx,Jt,lO,hn,hc,hk,vr,Instr.bS,oI,lC]
 ·simp(maxSteps:=10000000)(maxDischargeDepth:=30)[hd,Bt,hr,qJ,Dx,Jt,lO,hn,hc,hk,vr,Instr.bS,oI,lC]
 ·simp(maxSteps:=10000000)(maxDischargeDepth:=30)[hd,Bt,hr,qJ,Dx,Jt,lO,hn,hc,hk,vr,Instr.bS,oI,lC]
 ·simp(maxSteps:=10000000)(maxDischargeDepth:=30)[hd,Bt,hr,qJ,Dx,Jt,lO,hn,hc,hk,vr,Instr.bS,oI,lC]
 ·have h8:=eX bN k (n:=2) (by omega);have V2:eZ bN k 2=0\/eZ bN k 2=1:=by omega
  rcases V2 with h8|h8<;>simp(maxSteps:=10000000)(maxDischargeDepth:=30)[hd,Bt,hr,qJ,Dx,Jt,lO,hn,hc,hk,vr,h8,Instr.bS,oI,lC]
 ·have h8:=eX bN (dI bN k) (n:=2) (by omega);have V2:eZ bN (dI bN k) 2=0\/eZ bN (dI bN k) 2=1:=by omega
  rcases V2 with h8|h8<;>simp(maxSteps:=10000000)(maxDischargeDepth:=30)[hd,Bt,hr,qJ,Dx,Jt,lO,hn,hc,hk,vr,h8,Instr.bS,oI,lC]
 ·have h8:=eX bN k (n:=3) (by omega);have V2:eZ bN k 3=0\/eZ bN k 3=1\/eZ bN k 3=2:=by omega
  rcases V2 with h8|h8|h8<;>simp(maxSteps:=10000000)(maxDischargeDepth:=30)[hd,Bt,hr,qJ,Dx,Jt,lO,hn,hc,hk,vr,w3,h8,Instr.bS,oI,lC]
 ·have h8:=eX bN (dI bN k) (n:=2) (by omega);have V2:eZ bN (dI bN k) 2=0\/eZ bN (dI bN k) 2=1:=by omega
  rcases V2 with h8|h8<;>simp(maxSteps:=10000000)(maxDischargeDepth:=30)[hd,Bt,hr,qJ,Dx,Jt,lO,hn,hc,hk,vr,h8,Instr.bS,oI,lC]
 ·have h8:=eX bN (dI bN k) (n:=2) (by omega);have V2:eZ bN (dI bN k) 2=0\/eZ bN (dI bN k) 2=1:=by omega
  rcases V2 with h8|h8<;>simp(maxSteps:=10000000)(maxDischargeDepth:=30)[hd,Bt,hr,qJ,Dx,Jt,lO,hn,hc,hk,vr,h8,Instr.bS,oI,lC]
 ·simp(maxSteps:=10000000)(maxDischargeDepth:=30)[hd,Bt,hr,qJ,Dx,Jt,lO,hn,hc,hk,vr,SS,Instr.bS,oI,lC]
 ·have h8:=eX bN k (n:=2) (by omega);have V2:eZ bN k 2=0\/eZ bN k 2=1:=by omega
  have h9:=eX bN (dI bN (dI bN k)) (n:=2) (by omega);have h9':eZ bN (dI bN (dI bN k)) 2=0\/eZ bN (dI bN (dI bN k)) 2=1:=by omega
  rcases V2 with h8|h8<;>rcases h9' with h9|h9<;>simp(maxSteps:=10000000)(maxDischargeDepth:=30)[hd,Bt,hr,qJ,Dx,Jt,lO,hn,hc,hk,vr,SS,h8,h9,Instr.bS,oI,lC]
 ·simp(maxSteps:=10000000)(maxDischargeDepth:=30)[hd,Bt,hr,qJ,Dx,Jt,lO,hn,hc,hk,vr,w1,wa,Instr.bS,oI,lC]
 ·simp(maxSteps:=10000000)(maxDischargeDepth:=30)[hd,Bt,hr,qJ,Dx,Jt,lO,hn,hc,hk,vr,SS,Instr.bS,oI,lC]
def ig(l an:List Int)(k:Int):Nat->List Instr×Int
 |0=>([],k)
 |i+1=>(if(ig l an k i).1.length+(xF l an ((ig l an k i).1.length+1) (ig l an k i).1.length (ig l an k i).2).length<=62
   then(ig l an k i).1++xF l an ((ig l an k i).1.length+1) (ig l an k i).1.length (ig l an k i).2 else(ig l an k i).1,
  F6 l (ig l an k i).2)
def yG(l an:List Int)(k:Int):ig l an k 0=([],k):=rfl
def zF(l an:List Int)(k:Int)(i:Nat):ig l an k (i+1)=(if(ig l an k i).1.length+(xF l an ((ig l an k i).1.length+1) (ig l an k i).1.length (ig l an k i).2).length<=62
   then(ig l an k i).1++xF l an ((ig l an k i).1.length+1) (ig l an k i).1.length (ig l an k i).2 else(ig l an k i).1,
  F6 l (ig l an k i).2):=rfl
@[simp]def CJ(h:eh l k)(i:Nat):eh l (ig l an k i).2:=by
 induction i with
 |zero=>exact h
 |succ i ih=>exact ace ih
def AP(l an:List Int)(k:Int)(i:Nat):(ig l an k i).1.length<=62:=by
 induction i with
 |zero=>simp[yG]
 |succ i ih=>
  rw[zF];simp only;split
  ·rename_i h;simpa using h
  ·exact ih
def jE(l an:List Int)(k:Int):Nat->List (List Int)×Int
 |0=>([],k)
 |i+1=>((jE l an k i).1++ [kf l (jE l an k i).2 (nth an i)],oz l (jE l an k i).2 (nth an i))
def BP(l an:List Int)(k:Int):jE l an k 0=([],k):=rfl
def wZ(l an:List Int)(k:Int)(i:Nat):jE l an k (i+1)=((jE l an k i).1++ [kf l (jE l an k i).2 (nth an i)],oz l (jE l an k i).2 (nth an i)):=rfl
def yH(l an:List Int)(k:Int)(i:Nat):(jE l an k i).1.length=i:=by
 induction i with
 |zero=>rfl
 |succ i ih=>rw[wZ];simp[ih]
def Ju(l an:List Int)(jf at_ k:Int):(xF l an jf at_ k).length<=5:=by
 unfold xF oI;have n1: ∀(a:Instr),[a].length<=5:=fun _=>by simp
 have n2: ∀(a b:Instr),[a,b].length<=5:=fun _ _=>by simp
 have n3: ∀(a b c:Instr),[a,b,c].length<=5:=fun _ _ _=>by simp
 have n4: ∀(a b c d:Instr),[a,b,c,d].length<=5:=fun _ _ _ _=>by simp
 have n5: ∀(a b c d e:Instr),[a,b,c,d,e].length<=5:=fun _ _ _ _ _=>by simp
 exact lV (P:=fun x:List Instr=>x.length<=5) (n1 _) (lV (P:=fun x:List Instr=>x.length<=5) (n1 _) (lV (P:=fun x:List Instr=>x.length<=5) (n1 _) (lV (P:=fun x:List Instr=>x.length<=5) (n2 _ _) (lV (P:=fun x:List Instr=>x.length<=5) (n2 _ _)
  (lV (P:=fun x:List Instr=>x.length<=5) (n4 _ _ _ _) (lV (P:=fun x:List Instr=>x.length<=5) (n5 _ _ _ _ _) (lV (P:=fun x:List Instr=>x.length<=5) (n4 _ _ _ _) (lV (P:=fun x:List Instr=>x.length<=5) (n4 _ _ _ _)
  (lV (P:=fun x:List Instr=>x.length<=5) (lV (P:=fun x:List Instr=>x.length<=5) (n2 _ _) (n3 _ _ _)) (lV (P:=fun x:List Instr=>x.length<=5) (n2 _ _) (lV (P:=fun x:List Instr=>x.length<=5) (n2 _ _) (lV (P:=fun x:List Instr=>x.length<=5) (n3 _ _ _)
  (lV (P:=fun x:List Instr=>x.length<=5) (n2 _ _) (lV (P:=fun x:List Instr=>x.length<=5) (n4 _ _ _ _) (n1 _)))))))))))))))
@[simp]def AQ(h:eh l k)(i:Nat):eh l (jE l an k i).2:=by
 induction i with
 |zero=>exact h
 |succ i ih=>exact mI ih
def vt(n:Int)(i:Instr):Instr:=if jumps i.op=true/\n<=i.ed then{i with ed:=0} else i
def tlV(l:List Int)(code:List Instr)(k:Int):List Instr:=
 if eZ l k 4=0 then code++ [⟨18,0,0,0,eZ l (dI l k) (code.length+1)⟩] else if eZ l k 4=1 then code++ [⟨24,0,0,0,0⟩] else code
def LD(l:List Int)(k:Int):Int:=if eZ l k 4=0 then dI l (dI l k) else dI l k
@[simp]def asr(h:eh l k):eh l (LD l k):=by unfold LD;split<;>simp[h]
def V3(l:List Int)(code:List Instr)(k:Int):List Instr:=(tlV l code k++([⟨1,0,0,0,eZ l (LD l k) 9⟩,⟨23,0,0,0,0⟩]:List Instr)).take 64
def kP(n:Int)(c:List Instr):Nat->List Instr
 |0=>c
 |i+1=>(kP n c i).set i (vt n (c.getD i ⟨0,0,0,0,0⟩))
def AR(n:Int)(c:List Instr):kP n c 0=c:=rfl
def sb(n:Int)(c:List Instr)(i:Nat):(kP n c i).length=c.length:=by
 induction i with
 |zero=>rfl
 |succ i ih=>rw[kP,aaN,ih]
def F7(n:Int)(c:List Instr): ∀(i j:Nat),i<=j->(kP n c i)[j]?=c[j]?
 |0,_,_=>rfl
 |i+1,j,h=>by rw[kP,acZ (by omega),F7 n c i j (by omega)]
def Nt(n:Int)(c:List Instr): ∀(i j:Nat),j<i->(kP n c i)[j]?=(c[j]?).map (vt n)
 |0,_,h=>by omega
 |i+1,j,h=>by
  rw[kP];by_cases he:i=j
  ·subst he;by_cases hl:i<c.length
   ·rw[List.getElem?_set_self (by rw[sb];exact hl)];simp[List.getD,hl]
   ·rw[abC (by rw[aaN,sb];omega),abC (by omega)];rfl
  ·rw[acZ he,Nt n c i j (by omega)]
def CK(n:Int)(c:List Instr):kP n c c.length=c.map (vt n):=by
 apply abA;intro j;rw[abm];by_cases h:j<c.length
 ·exact Nt n c _ _ h
 ·rw[abC (by rw[sb];omega),abC (by omega)];rfl
def F8{c:List Instr}(h:i<c.length)(h':i<(kP n c i).length):(kP n c i)[i]=c[i]:=by
 have:=F7 n c i i (aaI _);rw[aaJ h,aaJ h']at this;simpa using this
def wj{c:List Instr}(h:i<c.length)(hj: ¬(jumps (c[i]).op=true/\n<=(c[i]).ed)):kP n c (i+1)=kP n c i:=by
 rw[kP];have e:vt n (c.getD i ⟨0,0,0,0,0⟩)=c[i]:=by simp only[List.getD,aaJ h,abR];unfold vt;rw[if_neg hj]
 rw[e];apply abA;intro j;by_cases he:i=j
 ·subst he;rw[List.getElem?_set_self (by rw[sb];exact h),F7 n c i i (aaI _),aaJ h]
 ·rw[acZ he]
def CL{c:List Instr}(h:i<c.length)(hj:jumps (c[i]).op=true/\n<=(c[i]).ed):kP n c (i+1)=(kP n c i).set i ⟨(c[i]).op,(c[i]).a,(c[i]).b,(c[i]).c,0⟩:=by
 rw[kP];congr 1;simp only[List.getD,aaJ h,abR];unfold vt;rw[if_pos hj]
def CM(x:Instr):(Instr.e x).put 4 (.int .i64 0)=Instr.e ⟨x.op,x.a,x.b,x.c,0⟩:=rfl
def Nu(l an:List Int)(k:Int)(i:Nat):(ig l an k i).1.length<=5*i:=by
 induction i with
 |zero=>simp[yG]
 |succ i ih=>
  rw[zF];have:=Ju l an ((ig l an k i).1.length+1) (ig l an k i).1.length (ig l an k i).2;simp only;split
  ·rw[aaY];omega
  ·omega
def CN(l:List Instr)(i:Nat)(x:Instr):(l.map Instr.e).set i ((KKU x.op x.a x.b x.c 0:V))=(l.set i ⟨x.op,x.a,x.b,x.c,0⟩).map Instr.e:=by rw[abL];rfl
def KU(l:List Int)(k:Int):Int:=(jE l (qx l k) (yE l k) (qx l k).length).2
def Ai(l:List Int)(k:Int):List Instr×Int:=ig l (qx l k) (dI l (KU l k)) (1+eZ l (KU l k) 12).toNat
def DC(l:List Int)(k:Int):List Instr:=V3 l (Ai l k).1 (Ai l k).2
def sH(l:List Int)(k:Int):Prog:=⟨(DC l k).map (vt (DC l k).length),qx l k,(jE l (qx l k) (yE l k) (qx l k).length).1⟩
def Jv(l:List Int)(k:Int):Int:=dI l (LD l (Ai l k).2)
@[simp]def zU(bN:List Int)(aW:Int)(hd:eh bN aW):oF X ([]) 63 2 ((KKa bN aW:V)) []=some (2,(KKa (⟨bN,Jv bN aW⟩:oH).l (⟨bN,Jv bN aW⟩:oH).time:V),[(KKk (sH bN aW):V)],.bad):=by
 refine aaD ?_;have hz:=CI bN aW;obtain⟨sz,sY⟩: ∃sz,qx bN aW=sz:=⟨_,rfl⟩;obtain⟨ks,hks⟩: ∃ks,yE bN aW=ks:=⟨_,rfl⟩;have vr:eh bN ks:=by rw[<-hks];exact Jr hd
 rw[sY]at hz;have z1:=hz.pos;have z2:=hz.le;obtain⟨kd,hkd⟩: ∃kd,(jE bN sz ks sz.length).2=kd:=⟨_,rfl⟩;obtain⟨EA,acf⟩: ∃EA,(jE bN sz ks sz.length).1=EA:=⟨_,rfl⟩;have hdd:eh bN kd:=by rw[<-hkd];exact AQ vr _
 have LC:=eX bN kd (n:=12) (by omega);obtain⟨N,hN⟩: ∃N:Nat,1+eZ bN kd 12=N:=⟨(1+eZ bN kd 12).toNat,by omega⟩;obtain⟨cc,s7⟩: ∃cc,(ig bN sz (dI bN kd) N).1=cc:=⟨_,rfl⟩;obtain⟨kc,hkc⟩: ∃kc,(ig bN sz (dI bN kd) N).2=kc:=⟨_,rfl⟩;have azf:eh bN (dI bN kd):=eJ hdd;have hdc:eh bN kc:=by rw[<-hkc];exact CJ azf _
 have pW:cc.length<=60:=by
  have:=Nu bN sz (dI bN kd) N;rw[s7]at this;omega
 have ep0:KU bN aW=kd:=by unfold KU;rw[sY,hks,hkd]
 have ec:Ai bN aW=(cc,kc):=by unfold Ai;rw[sY,ep0,hN,<-s7,<-hkc];rfl
 obtain⟨ce,sw⟩: ∃ce,V3 bN cc kc=ce:=⟨_,rfl⟩;have ee:DC bN aW=ce:=by unfold DC;rw[ec];exact sw
 have ev:sH bN aW=⟨ce.map (vt ce.length),sz,EA⟩:=by unfold sH;rw[ee,sY,hks,acf]
 have ek:Jv bN aW=dI bN (LD bN kc):=by unfold Jv;rw[ec]
 rw[ev,ek];have a8q:IntKind.i64.wrap (1+eZ bN kd 12)=N:=by rw[hN];exact wrap_i64 (by omega)
 simp(maxSteps:=10000000)(maxDischargeDepth:=30)[hd,sY,hks];refine cZ (fun i S=>(S.f 0= .ptr 0 0 0/\S.h 0=some ⟨2,[KKa (⟨bN,(jE bN sz ks i).2⟩:oH).l (⟨bN,(jE bN sz ks i).2⟩:oH).time],true⟩/\S.f 2= .ptr 2 0 0/\S.h 2=some ⟨3,[KKQ ([]:List Instr) ([]:List Int) ([]:List (List Int))],true⟩/\S.f 3= .ptr 3 0 0/\S.h 1000=some ⟨5,(⟨[],sz,(jE bN sz ks i).1⟩:Prog).code.map Instr.e,false⟩/\S.h 1001=some ⟨1,(⟨[],sz,(jE bN sz ks i).1⟩:Prog).data.map aV,false⟩/\S.h 3=some ⟨3,[.agg [.cu 1000 0 ((⟨[],sz,(jE bN sz ks i).1⟩:Prog).code.map Instr.e).length,.sl false ((⟨[],sz,(jE bN sz ks i).1⟩:Prog).an.map (V.int .i64)),.cu 1001 0 ((⟨[],sz,(jE bN sz ks i).1⟩:Prog).data.map aV).length]],true⟩/\S.f 13= .sl false ((sz).map (V.int .i64))/\S.f 14= .int .i64 ((sz.length:Int))/\S.f 15=(i:Int)/\S.n=1102)/\True) (sz.length) (by omega) ?_ ?_ ?_
 ·rintro i S ⟨pq,ie,bL⟩ ⟨df,fp⟩;have SY:=AQ (an:=sz) vr i;have he:=hz.elem i bL;have Ho:nth sz i=sz[i]:=dC bL;have hn2:0<=sz[i]/\sz[i]<=1000:=by omega
  have hlen:(jE bN sz ks i).1.length<=4:=by rw[yH];omega
  simp(maxSteps:=10000000)(maxDischargeDepth:=30)[df,pq,ie,bL,SY,Ho,hn2,wZ];exact⟨by omega,fun _ _=>rfl⟩
 ·rintro S ⟨df,fp⟩;rw[hkd,acf]at df;simp(maxSteps:=10000000)(maxDischargeDepth:=30)[df,hdd,a8q];refine cZ (fun j S=>(S.f 0= .ptr 0 0 0/\S.h 0=some ⟨2,[KKa (⟨bN,(ig bN sz (dI bN kd) j).2⟩:oH).l (⟨bN,(ig bN sz (dI bN kd) j).2⟩:oH).time],true⟩/\S.f 2= .ptr 2 0 0/\S.h 2=some ⟨3,[KKQ ([]:List Instr) ([]:List Int) ([]:List (List Int))],true⟩/\S.f 3= .ptr 3 0 0/\S.h 1000=some ⟨5,(⟨(ig bN sz (dI bN kd) j).1,sz,EA⟩:Prog).code.map Instr.e,false⟩/\S.h 1001=some ⟨1,(⟨(ig bN sz (dI bN kd) j).1,sz,EA⟩:Prog).data.map aV,false⟩/\S.h 3=some ⟨3,[.agg [.cu 1000 0 ((⟨(ig bN sz (dI bN kd) j).1,sz,EA⟩:Prog).code.map Instr.e).length,.sl false ((⟨(ig bN sz (dI bN kd) j).1,sz,EA⟩:Prog).an.map (V.int .i64)),.cu 1001 0 ((⟨(ig bN sz (dI bN kd) j).1,sz,EA⟩:Prog).data.map aV).length]],true⟩/\S.f 6= .int .i64 ((N:Int)-j)/\S.n=1102)/\True) (N) (by omega) ?_ ?_ ?_
  ·rintro j S ⟨mz,vp,jP⟩ ⟨mA,sF⟩;have hdj:=CJ (an:=sz) azf j;have LB:=AP bN sz (dI bN kd) j;obtain⟨cj,xQ⟩: ∃cj,(ig bN sz (dI bN kd) j).1=cj:=⟨_,rfl⟩;obtain⟨kj,hkj⟩: ∃kj,(ig bN sz (dI bN kd) j).2=kj:=⟨_,rfl⟩;have ln:=zF bN sz (dI bN kd) j;rw[xQ,hkj]at ln;rw[xQ]at LB;rw[hkj]at hdj;rw[xQ,hkj]at mA;have w1:IntKind.i64.wrap ((N:Int)-j-1)=(N:Int)-(j+1:Nat):=by rw[wrap_i64 (by omega)];omega
   have c1:(0:Int)<(N:Int)-j:=by omega
   have w2:IntKind.i64.wrap ((cj.length:Int)+1)=(cj.length:Int)+1:=wrap_i64 (by omega);have hm:1<=(cj.length:Int)+1/\(cj.length:Int)+1<=1000:=by omega
   have ha:0<=(cj.length:Int)/\(cj.length:Int)<=1000:=by omega
   obtain⟨pt,hpt⟩: ∃pt,xF bN sz ((cj.length:Int)+1) cj.length kj=pt:=⟨_,rfl⟩;have OV:pt.length<=5:=by rw[<-hpt];exact Ju ..
   have w3:IntKind.i64.wrap ((cj.length:Int)+pt.length)=(cj.length:Int)+pt.length:=wrap_i64 (by omega);rw[hpt]at ln;by_cases hf:cj.length+pt.length<=62
   ·have Kk:(cj.length:Int)+pt.length<=62:=by omega
    rw[if_pos hf]at ln;simp(maxSteps:=10000000)(maxDischargeDepth:=30)[mA,mz,vp,jP,hdj,hz,w1,c1,w2,hm,ha,hpt,w3,hf,Kk,ln];omega
   ·have Kk: ¬(cj.length:Int)+pt.length<=62:=by omega
    rw[if_neg hf]at ln;simp(maxSteps:=10000000)(maxDischargeDepth:=30)[mA,mz,vp,jP,hdj,hz,w1,c1,w2,hm,ha,hpt,w3,hf,Kk,ln]
  ·rintro S ⟨mA,sF⟩;rw[s7,hkc]at mA;have h4:=eX bN kc (n:=4) (by omega);have ajz:=eJ hdc;have ass:=eJ ajz;have w5:IntKind.i64.wrap ((cc.length:Int)+1)=(cc.length:Int)+1:=wrap_i64 (by omega);have sT:1<=(cc.length:Int)+1/\(cc.length:Int)+1<=4611686018427387904:=by omega
   by_cases IY:eZ bN kc 4=0
   case pos=>
    have hkt:LD bN kc=dI bN (dI bN kc):=by unfold LD;rw[if_pos IY]
    have hlen:(cc++([⟨18,0,0,0,eZ bN (dI bN kc) (cc.length+1)⟩]:List Instr)++([⟨1,0,0,0,eZ bN (dI bN (dI bN kc)) 9⟩,⟨23,0,0,0,0⟩]:List Instr)).length=cc.length+3:=by simp
    have Nv:ce=(cc++([⟨18,0,0,0,eZ bN (dI bN kc) (cc.length+1)⟩]:List Instr)++([⟨1,0,0,0,eZ bN (dI bN (dI bN kc)) 9⟩,⟨23,0,0,0,0⟩]:List Instr)):=by
     rw[<-sw];unfold V3 tlV;rw[hkt,if_pos IY];exact aZ (by rw[hlen];omega)
    have Nw:ce.length=cc.length+3:=by rw[Nv,hlen]
    have BQ: ¬(64:Int)<(cc.length:Int)+1+2:=by omega
    have LA: ∀x,List.take (cc.length+1) (List.map Instr.e cc++ [x])=List.map Instr.e cc++ [x]:=fun x=>aZ (by simp);simp(maxSteps:=10000000)(maxDischargeDepth:=30)[mA,hdc,ajz,ass,IY,w5,sT,BQ,LA]
    repeat (refine⟨by omega,fun _ _=> ?_⟩)
    refine cZ (fun i S=>(S.f 0= .ptr 0 0 0/\S.h 0=some ⟨2,[KKa (⟨bN,dI bN (LD bN kc)⟩:oH).l (⟨bN,dI bN (LD bN kc)⟩:oH).time],true⟩/\S.f 2= .ptr 2 0 0/\S.h 2=some ⟨3,[KKQ ([]:List Instr) ([]:List Int) ([]:List (List Int))],true⟩/\S.f 3= .ptr 3 0 0/\S.h 1000=some ⟨5,(⟨kP ce.length ce i,sz,EA⟩:Prog).code.map Instr.e,false⟩/\S.h 1001=some ⟨1,(⟨kP ce.length ce i,sz,EA⟩:Prog).data.map aV,false⟩/\S.h 3=some ⟨3,[.agg [.cu 1000 0 ((⟨kP ce.length ce i,sz,EA⟩:Prog).code.map Instr.e).length,.sl false ((⟨kP ce.length ce i,sz,EA⟩:Prog).an.map (V.int .i64)),.cu 1001 0 ((⟨kP ce.length ce i,sz,EA⟩:Prog).data.map aV).length]],true⟩/\S.f 101= .int .i64 ((ce.length:Int))/\S.f 102=(i:Int)/\S.n=1102)/\True) (ce.length) (by omega) ?_ ?_ ?_
    ·rintro i S ⟨pq,ie,bL⟩ ⟨Ah,O2⟩;have f1:=sb ce.length ce i;have f2:=F8 (n:=ce.length) bL;have f3:i<(kP ce.length ce i).length:=by rw[f1];exact bL
     have f4:=f2 f3;cases hj:jumps (ce[i]).op
     case false=>
      have f5:=wj (n:=ce.length) bL (fun h=>by rw[hj]at h;cases h.1);simp(maxSteps:=10000000)(maxDischargeDepth:=30)[Ah,pq,ie,bL,f1,f3,f4,f5,hj]
     case true=>
      by_cases hm:(ce.length:Int)<=(ce[i]).ed
      ·have f5:=CL (n:=ce.length) bL ⟨hj,hm⟩;simp(maxSteps:=10000000)(maxDischargeDepth:=30)[Ah,pq,ie,bL,f1,f3,f4,f5,hj,hm,CN,CM];try rw[abL]
      ·have f5:=wj (n:=ce.length) bL (fun h=>hm h.2);simp(maxSteps:=10000000)(maxDischargeDepth:=30)[Ah,pq,ie,bL,f1,f3,f4,f5,hj,hm]
    ·rintro S ⟨Ah,O2⟩;simp(maxSteps:=10000000)(maxDischargeDepth:=30)[Ah]<;>(
      rw[CK,adz])
    ·simp(maxSteps:=10000000)(maxDischargeDepth:=30)[mA]<;>(
      simp[Nv,AR,hkt,Nw,Instr.bS];try omega)
   case neg=>
    by_cases Er:eZ bN kc 4=1
    case pos=>
     have hkt:LD bN kc=dI bN kc:=by unfold LD;rw[if_neg IY]
     have hlen:(cc++([⟨24,0,0,0,0⟩]:List Instr)++([⟨1,0,0,0,eZ bN (dI bN kc) 9⟩,⟨23,0,0,0,0⟩]:List Instr)).length=cc.length+3:=by simp
     have Nv:ce=(cc++([⟨24,0,0,0,0⟩]:List Instr)++([⟨1,0,0,0,eZ bN (dI bN kc) 9⟩,⟨23,0,0,0,0⟩]:List Instr)):=by
      rw[<-sw];unfold V3 tlV;rw[hkt,if_neg IY,if_pos Er];exact aZ (by rw[hlen];omega)
     have Nw:ce.length=cc.length+3:=by rw[Nv,hlen]
     have BQ: ¬(64:Int)<(cc.length:Int)+1+2:=by omega
     have LA: ∀x,List.take (cc.length+1) (List.map Instr.e cc++ [x])=List.map Instr.e cc++ [x]:=fun x=>aZ (by simp);simp(maxSteps:=10000000)(maxDischargeDepth:=30)[mA,hdc,ajz,ass,IY,Er,w5,sT,BQ,LA]
     repeat (refine⟨by omega,fun _ _=> ?_⟩)
     refine cZ (fun i S=>(S.f 0= .ptr 0 0 0/\S.h 0=some ⟨2,[KKa (⟨bN,dI bN (LD bN kc)⟩:oH).l (⟨bN,dI bN (LD bN kc)⟩:oH).time],true⟩/\S.f 2= .ptr 2 0 0/\S.h 2=some ⟨3,[KKQ ([]:List Instr) ([]:List Int) ([]:List (List Int))],true⟩/\S.f 3= .ptr 3 0 0/\S.h 1000=some ⟨5,(⟨kP ce.length ce i,sz,EA⟩:Prog).code.map Instr.e,false⟩/\S.h 1001=some ⟨1,(⟨kP ce.length ce i,sz,EA⟩:Prog).data.map aV,false⟩/\S.h 3=some ⟨3,[.agg [.cu 1000 0 ((⟨kP ce.length ce i,sz,EA⟩:Prog).code.map Instr.e).length,.sl false ((⟨kP ce.length ce i,sz,EA⟩:Prog).an.map (V.int .i64)),.cu 1001 0 ((⟨kP ce.length ce i,sz,EA⟩:Prog).data.map aV).length]],true⟩/\S.f 101= .int .i64 ((ce.length:Int))/\S.f 102=(i:Int)/\S.n=1102)/\True) (ce.length) (by omega) ?_ ?_ ?_
     ·rintro i S ⟨pq,ie,bL⟩ ⟨hI3,hP3⟩;have f1:=sb ce.length ce i;have f2:=F8 (n:=ce.length) bL;have f3:i<(kP ce.length ce i).length:=by rw[f1];exact bL
      have f4:=f2 f3;cases hj:jumps (ce[i]).op
      case false=>
       have f5:=wj (n:=ce.length) bL (fun h=>by rw[hj]at h;cases h.1);simp(maxSteps:=10000000)(maxDischargeDepth:=30)[hI3,pq,ie,bL,f1,f3,f4,f5,hj]
      case true=>
       by_cases hm:(ce.length:Int)<=(ce[i]).ed
       ·have f5:=CL (n:=ce.length) bL ⟨hj,hm⟩;simp(maxSteps:=10000000)(maxDischargeDepth:=30)[hI3,pq,ie,bL,f1,f3,f4,f5,hj,hm,CN,CM];try rw[abL]
       ·have f5:=wj (n:=ce.length) bL (fun h=>hm h.2);simp(maxSteps:=10000000)(maxDischargeDepth:=30)[hI3,pq,ie,bL,f1,f3,f4,f5,hj,hm]
     ·rintro S ⟨hI3,hP3⟩;simp(maxSteps:=10000000)(maxDischargeDepth:=30)[hI3]<;>(
       rw[CK,adz])
     ·simp(maxSteps:=10000000)(maxDischargeDepth:=30)[mA]<;>(
       simp[Nv,AR,hkt,Nw,Instr.bS];try omega)
    case neg=>
     have hkt:LD bN kc=dI bN kc:=by unfold LD;rw[if_neg IY]
     have hlen:(cc++([⟨1,0,0,0,eZ bN (dI bN kc) 9⟩,⟨23,0,0,0,0⟩]:List Instr)).length=cc.length+2:=by simp
     have Nv:ce=(cc++([⟨1,0,0,0,eZ bN (dI bN kc) 9⟩,⟨23,0,0,0,0⟩]:List Instr)):=by
      rw[<-sw];unfold V3 tlV;rw[hkt,if_neg IY,if_neg Er];exact aZ (by rw[hlen];omega)
     have Nw:ce.length=cc.length+2:=by rw[Nv,hlen]
     have BQ: ¬64<(cc.length:Int)+2:=by omega
     simp(maxSteps:=10000000)(maxDischargeDepth:=30)[mA,hdc,ajz,ass,IY,Er,w5,sT,BQ]
     repeat (refine⟨by omega,fun _ _=> ?_⟩)
     refine cZ (fun i S=>(S.f 0= .ptr 0 0 0/\S.h 0=some ⟨2,[KKa (⟨bN,dI bN (LD bN kc)⟩:oH).l (⟨bN,dI bN (LD bN kc)⟩:oH).time],true⟩/\S.f 2= .ptr 2 0 0/\S.h 2=some ⟨3,[KKQ ([]:List Instr) ([]:List Int) ([]:List (List Int))],true⟩/\S.f 3= .ptr 3 0 0/\S.h 1000=some ⟨5,(⟨kP ce.length ce i,sz,EA⟩:Prog).code.map Instr.e,false⟩/\S.h 1001=some ⟨1,(⟨kP ce.length ce i,sz,EA⟩:Prog).data.map aV,false⟩/\S.h 3=some ⟨3,[.agg [.cu 1000 0 ((⟨kP ce.length ce i,sz,EA⟩:Prog).code.map Instr.e).length,.sl false ((⟨kP ce.length ce i,sz,EA⟩:Prog).an.map (V.int .i64)),.cu 1001 0 ((⟨kP ce.length ce i,sz,EA⟩:Prog).data.map aV).length]],true⟩/\S.f 101= .int .i64 ((ce.length:Int))/\S.f 102=(i:Int)/\S.n=1102)/\True) (ce.length) (by omega) ?_ ?_ ?_
     ·rintro i S ⟨pq,ie,bL⟩ ⟨hI4,hP4⟩;have f1:=sb ce.length ce i;have f2:=F8 (n:=ce.length) bL;have f3:i<(kP ce.length ce i).length:=by rw[f1];exact bL
      have f4:=f2 f3;cases hj:jumps (ce[i]).op
      case false=>
       have f5:=wj (n:=ce.length) bL (fun h=>by rw[hj]at h;cases h.1);simp(maxSteps:=10000000)(maxDischargeDepth:=30)[hI4,pq,ie,bL,f1,f3,f4,f5,hj]
      case true=>
       by_cases hm:(ce.length:Int)<=(ce[i]).ed
       ·have f5:=CL (n:=ce.length) bL ⟨hj,hm⟩;simp(maxSteps:=10000000)(maxDischargeDepth:=30)[hI4,pq,ie,bL,f1,f3,f4,f5,hj,hm,CN,CM];try rw[abL]
       ·have f5:=wj (n:=ce.length) bL (fun h=>hm h.2);simp(maxSteps:=10000000)(maxDischargeDepth:=30)[hI4,pq,ie,bL,f1,f3,f4,f5,hj,hm]
     ·rintro S ⟨hI4,hP4⟩;simp(maxSteps:=10000000)(maxDischargeDepth:=30)[hI4]<;>(
       rw[CK,adz])
     ·simp(maxSteps:=10000000)(maxDischargeDepth:=30)[mA]<;>(
       simp[Nv,AR,hkt,Nw,Instr.bS];try omega)
  ·simp(maxSteps:=10000000)(maxDischargeDepth:=30)[df]<;>(
    simp[yG])
 ·simp(maxSteps:=10000000)(maxDischargeDepth:=30)[]<;>(
   simp[BP])
def Gk: ∀(k:List UInt8) (l:List Int) (i:Nat) (h:i<k.length) (h':i<l.length),iH (k.take (i+1)) (l.take (i+1))=(iH (k.take i) (l.take i)&&Aj ((k[i]).toNat:Int) l[i])
 | [],_,i,h,_=>by simp at h
 |_::_,[],i,_,h'=>by simp at h'
 |a::k,b::l,0,_,_=>by simp[iH]
 |a::k,b::l,i+1,h,h'=>by
  have:=Gk k l i (by simpa using h) (by simpa using h');simp only[List.take_succ_cons,iH,this,acR,Bool.and_assoc]
def Gl: ∀(k:List UInt8) (l:List Int) (i:Nat) (h:i<k.length) (h':i<l.length),Aj ((k[i]).toNat:Int) l[i]=false->iH k l=false
 | [],_,i,h,_,_=>by simp at h
 |_::_,[],i,_,h',_=>by simp at h'
 |a::k,b::l,0,_,_,e=>by simp only[aco]at e;simp[iH,e]
 |a::k,b::l,i+1,h,h',e=>by
  have:=Gl k l i (by simpa using h) (by simpa using h') (by simpa using e);simp[iH,this]
def pf(h:0<=c/\c<=15):(de c).length<=3:=by
 rcases na h with rfl|rfl|rfl|rfl|rfl|rfl|rfl|rfl|rfl|rfl|rfl|rfl|rfl|rfl|rfl|rfl<;>decide
def mD(c:Int)(bz:List Cell):List Int:=(bz.take (de c).length).map (·.tag)
def Gm(h:0<=c/\c<=15)(hr:bz.length=8):(mD c bz).length=(de c).length:=by
 have:=pf h;simp[mD,hr];omega
def Jz(h:i<(mD c bz).length)(hr:i<bz.length):(mD c bz)[i]=(bz[i]).tag:=by simp[mD]
def CX(aD an:List Int)(n:Nat)(c:Int)(bz:List Cell):vx aD an n c bz=if iH (de c) (mD c bz)=false then 6
 else if 0<mC c/\((kh aD an (bz.getD 1 ⟨0,0⟩) (bz.getD 2 ⟨0,0⟩).val).2≠0\/16<(bz.getD 2 ⟨0,0⟩).val) then 6
 else if(c=10\/c=12)/\(n:Int)<=(bz.getD 0 ⟨0,0⟩).val then 6 else 0:=rfl
@[simp]def Ik(ax:List Instr)(ae:List Int)(ay:List (List Int))(aa:List Int)(aq:Int)(ak:List Cell)(ah:List cy)(au:List Thread)(t:Int)(hm:au.length=4)(ht:0<=t/\t<4)(hL:ov aa ae)(hl:ax.length<=1000)(hr:(au.getD t.toNat cw).bz.length=8)(Fo:yJ (au.getD t.toNat cw).bz)(hp:1<=(au.getD t.toNat cw).pc/\(au.getD t.toNat cw).pc<=ax.length)(hc:0<=(kQ ax (au.getD t.toNat cw).pc).ed/\(kQ ax (au.getD t.toNat cw).pc).ed<=15):bW X 194 [KKQ ax ae ay,KKY aa aq ak ah au,.int .i64 t]=some (.int .i64 (vx aa ae ax.length (kQ ax (au.getD t.toNat cw).pc).ed (au.getD t.toNat cw).bz)):=by
 refine aaA ?_;obtain⟨k,rfl⟩:=aaG ht.1;have hk:k<au.length:=by omega
 have xS:(k:Int)<4:=by omega
 have hk4:k<4:=by omega
 have hx:au.getD (k:Int).toNat cw=au[k]:=by simp[List.getD,hk]
 rw[hx]at hr Fo hp hc⊢;obtain⟨j,hj⟩: ∃j:Nat,(au[k]).pc-1=j:=⟨((au[k]).pc-1).toNat,by omega⟩;have tH:j<ax.length:=by omega
 have Rw:(j:Int)<ax.length:=by omega
 have yf:kQ ax (au[k]).pc=ax[j]:=by unfold kQ;rw[hj];simp[List.getD,tH]
 rw[yf]at hc⊢;have hwp:IntKind.i64.wrap ((au[k]).pc-1)=j:=by rw[hj];exact wrap_i64 (by omega)
 obtain⟨c,s7⟩: ∃c,(ax[j]).ed=c:=⟨_,rfl⟩;rw[s7]at hc⊢;obtain⟨bz,Ef⟩: ∃r,(au[k]).bz=r:=⟨_,rfl⟩;rw[Ef]at hr Fo⊢;have k3:=pf hc;have tl:=Gm hc hr;have c0:=Fo 0 (by omega);have c1:=Fo 1 (by omega);have c2:=Fo 2 (by omega);obtain⟨r0,e0⟩: ∃x,bz[0]'(by omega)=x:=⟨_,rfl⟩;obtain⟨⟨r1t,Rx⟩,e1⟩: ∃x,bz[1]'(by omega)=x:=⟨_,rfl⟩;obtain⟨r2,e2⟩: ∃x,bz[2]'(by omega)=x:=⟨_,rfl⟩;rw[e0]at c0;rw[e1]at c1;rw[e2]at c2;simp only at c1;have g0:bz.getD 0 ⟨0,0⟩=r0:=by simp[List.getD,hr,e0]
 have g1:bz.getD 1 ⟨0,0⟩=⟨r1t,Rx⟩:=by simp[List.getD,hr,e1]
 have g2:bz.getD 2 ⟨0,0⟩=r2:=by simp[List.getD,hr,e2]
 have l0:0<bz.length:=by omega
 have l1:1<bz.length:=by omega
 have l2:2<bz.length:=by omega
 have v1:0<=Rx/\Rx<=65535:=by omega
 have v2':r2.val<=1000000:=by omega
 have w0:IntKind.i64.wrap r0.val=r0.val:=wrap_i64 (by omega);have w2:IntKind.i64.wrap r2.val=r2.val:=wrap_i64 (by omega);rw[CX,g0,g1,g2];simp[hm,xS,hk4,tH,Rw,hwp,s7,hc,Ef];refine cZ (fun i S=>(S.f 3= .ptr 3 0 0/\S.h 3=some ⟨3,[KKQ ax ae ay],true⟩/\S.f 4= .ptr 4 0 0/\S.h 4=some ⟨5,[KKY aa aq ak ah au],true⟩/\S.f 7= .ptr 7 0 0/\S.h 7=some ⟨8,[KKe (au[k])],true⟩/\S.f 8= .int .i64 (c)/\S.f 9= .str (de c)/\S.f 29= .int .i64 (((de c).length:Int))/\S.f 30=(i:Int)/\S.n=1100)/\(iH ((de c).take i) ((mD c bz).take i)=true)) ((de c).length) (by omega) ?_ ?_ ?_
 ·rintro i S ⟨pq,ie,bL⟩ ⟨df,fp⟩;have i8:i<8:=by omega
  have XO:(i:Int)<8:=by omega
  have il:i<bz.length:=by omega
  have it:i<(mD c bz).length:=by omega
  have up:=Gk (de c) (mD c bz) i bL it;have ta:=Jz it il;have bad:=Gl (de c) (mD c bz) i bL it;rw[ta]at up bad;rw[fp]at up;cases hf:Aj ((de c)[i].toNat:Int) (bz[i]).tag with
  |false=>
   have hb:=bad hf;simp[df,bL,Ef,hr,i8,XO,hf,hb]
  |true=>
   rw[hf]at up;simp[df,ie,bL,Ef,hr,i8,XO,hf,up]
 ·rintro S ⟨df,fp⟩;have IP:iH (de c) (mD c bz)=true:=by
   rw[abi,aZ (by omega)]at fp;exact fp
  by_cases hb:0<mC c
  ·by_cases hw:(kh aa ae ⟨r1t,Rx⟩ r2.val).2=0
   ·by_cases h16:16<r2.val
    ·simp[df,Cell.bS,IP,hb,hL,v1,v2',w2,Ef,hr,e1,e2,hw,h16]
    ·have n10: ¬c=10:=fun e=>by rw[e]at hb;revert hb;decide
     have n12: ¬c=12:=fun e=>by rw[e]at hb;revert hb;decide
     simp[df,Cell.bS,IP,hb,hL,v1,v2',w2,Ef,hr,e1,e2,hw,h16,n10,n12]
   ·simp[df,Cell.bS,IP,hb,hL,v1,v2',w2,Ef,hr,e1,e2,hw]
  ·by_cases KW:c=10
   ·have NH:=eq_true KW;by_cases hv:(ax.length:Int)<=r0.val
    ·simp[df,Cell.bS,IP,hb,w0,Ef,hr,e0,NH,hv]
    ·simp[df,Cell.bS,IP,hb,w0,Ef,hr,e0,NH,hv]
   ·by_cases OZ:c=12
    ·have acs:=eq_true OZ;by_cases hv:(ax.length:Int)<=r0.val
     ·simp[df,Cell.bS,IP,hb,w0,Ef,hr,e0,KW,acs,hv]
     ·simp[df,Cell.bS,IP,hb,w0,Ef,hr,e0,KW,acs,hv]
    ·simp[df,IP,hb,KW,OZ]
 ·simp[]<;>(
   first|rfl|exact⟨rfl,rfl⟩|(simp[iH,Ef];done)|(rw[Ef];first|rfl|simp[iH]))
def NS(l:List Int)(k:Int):Int:=dI l (dI l k)
def dK4(l:List Int)(k:Int):Int:=NS l (NS l k)
def BZ(l:List Int)(n jf k:Int):dF:=⟨eZ l k jf,eZ l (dI l k) n,1+eZ l (NS l k) 6,eZ l (dI l (NS l k)) 2*eZ l (dK4 l k) 4,eZ l (dI l (dK4 l k)) 40,eZ l (NS l (dK4 l k)) 16⟩
def JH(l:List Int)(k:Int):Int:=dI l (NS l (dK4 l k))
def adk(h:eh l k):eh l (JH l k):=eJ (eJ (eJ (eJ (eJ (eJ (eJ h))))))
@[simp]def mW(bN:List Int)(aW n jf:Int)(hd:eh bN aW)(hn:1<=n/\n<=4611686018427387904)(hm:1<=jf/\jf<=4611686018427387904):oF X ([]) 43 2 ((KKa bN aW:V)) [n,jf]=some (2,(KKa (⟨bN,JH bN aW⟩:oH).l (⟨bN,JH bN aW⟩:oH).time:V),[.agg [.int .i64 (BZ bN n jf aW).time,.int .i64 (BZ bN n jf aW).dP,.int .i64 (BZ bN n jf aW).kind,.int .i64 (BZ bN n jf aW).dd,.int .i64 (BZ bN n jf aW).tZ,.int .i64 (BZ bN n jf aW).bit]],.bad):=by
 refine aaD ?_;have h2:=eX bN (NS bN aW) (n:=6) (by omega);have h3:=eX bN (dI bN (NS bN aW)) (n:=2) (by omega);have h4:=eX bN (dK4 bN aW) (n:=4) (by omega);have w2:IntKind.i64.wrap (1+eZ bN (NS bN aW) 6)=1+eZ bN (NS bN aW) 6:=wrap_i64 (by omega);have O3:0<=eZ bN (dI bN (NS bN aW)) 2*eZ bN (dK4 bN aW) 4/\eZ bN (dI bN (NS bN aW)) 2*eZ bN (dK4 bN aW) 4<=4:=by
  have:eZ bN (dI bN (NS bN aW)) 2=0\/eZ bN (dI bN (NS bN aW)) 2=1:=by omega
  rcases this with e|e<;>rw[e]<;>omega
 have w4:IntKind.i64.wrap (eZ bN (dI bN (NS bN aW)) 2*eZ bN (dK4 bN aW) 4)=eZ bN (dI bN (NS bN aW)) 2*eZ bN (dK4 bN aW) 4:=wrap_i64 (by omega);unfold BZ JH;unfold dK4 NS at*;simp(maxSteps:=10000000)(maxDischargeDepth:=30)[hd,hn,hm,w2,w4]
def ky(l:List Int)(k:Int)(h:0<=n):((kf l k n).length:Int)<=n:=by
 unfold kf;rw[DA];have:=eX l k (n:=n+1) (by omega);omega
def Aq(l:List Int)(k:Int):Int:=oz l k 5
def Ar(l:List Int)(k:Int):Int:=oz l (Aq l k) 3
def As(l:List Int)(k:Int):Int:=oz l (Ar l k) 8
def DQ(l:List Int)(k:Int):Int:=oz l (As l k) 4
def DR(l:List Int)(k:Int):Int:=oz l (DQ l k) 5
def N7(l:List Int)(k:Int):Int:=oz l (DR l k) 5
def u5(l:List Int)(k:Int):cS:=BV [kf l k 5,kf l (Aq l k) 3] [kf l (Ar l k) 8,kf l (As l k) 4] (kf l (DQ l k) 5) (kf l (DR l k) 5)
@[simp]def ad6(h:eh l k):eh l (N7 l k):=mI (mI (mI (mI (mI (mI h)))))
def ad7(l:List Int)(k:Int):wm (u5 l k):=by
 have a1:=ky l k (n:=5) (by omega);have a2:=ky l (Aq l k) (n:=3) (by omega);have a3:=ky l (Ar l k) (n:=8) (by omega);have a4:=ky l (As l k) (n:=4) (by omega);have a5:=ky l (DQ l k) (n:=5) (by omega);have a6:=ky l (DR l k) (n:=5) (by omega);refine To (by simp) (fun i h=> ?_) (by simp) (fun i h=> ?_) (by omega) (by omega)
 ·have:i=0\/i=1:=by simp at h;omega
  rcases this with rfl|rfl
  ·simp;omega
  ·simp;omega
 ·have:i=0\/i=1:=by simp at h;omega
  rcases this with rfl|rfl
  ·simp;omega
  ·simp;omega
@[simp]def zW(bN:List Int)(aW:Int)(hd:eh bN aW):oF X ([]) 66 2 ((KKa bN aW:V)) []=some (2,(KKa (⟨bN,N7 bN aW⟩:oH).l (⟨bN,N7 bN aW⟩:oH).time:V),[(KKh (u5 bN aW):V)],.bad):=by
 refine aaD ?_;have a1:=ky bN aW (n:=5) (by omega);have a2:=ky bN (Aq bN aW) (n:=3) (by omega);have a3:=ky bN (Ar bN aW) (n:=8) (by omega);have a4:=ky bN (As bN aW) (n:=4) (by omega);have a5:=ky bN (DQ bN aW) (n:=5) (by omega);have a6:=ky bN (DR bN aW) (n:=5) (by omega);have e1:oz bN aW 5=Aq bN aW:=rfl;have e2:oz bN (Aq bN aW) 3=Ar bN aW:=rfl;have e3:oz bN (Ar bN aW) 8=As bN aW:=rfl;have e4:oz bN (As bN aW) 4=DQ bN aW:=rfl;have e5:oz bN (DQ bN aW) 5=DR bN aW:=rfl;have e6:oz bN (DR bN aW) 5=N7 bN aW:=rfl;have d1:eh bN (Aq bN aW):=mI hd;have d2:eh bN (Ar bN aW):=mI d1;have d3:eh bN (As bN aW):=mI d2;have d4:eh bN (DQ bN aW):=mI d3;have d5:eh bN (DR bN aW):=mI d4;have hf: ∀i (h:i< [kf bN aW 5,kf bN (Aq bN aW) 3].length),([kf bN aW 5,kf bN (Aq bN aW) 3][i]).length<=64:=fun i h=>by
  have:i=0\/i=1:=by simp at h;omega
  rcases this with rfl|rfl
  ·simp;omega
  ·simp;omega
 have hi: ∀i (h:i< [kf bN (Ar bN aW) 8,kf bN (As bN aW) 4].length),([kf bN (Ar bN aW) 8,kf bN (As bN aW) 4][i]).length<=64:=fun i h=>by
  have:i=0\/i=1:=by simp at h;omega
  rcases this with rfl|rfl
  ·simp;omega
  ·simp;omega
 have key:=Ij [kf bN aW 5,kf bN (Aq bN aW) 3] [kf bN (Ar bN aW) 8,kf bN (As bN aW) 4] (kf bN (DQ bN aW) 5) (kf bN (DR bN aW) 5) (by simp) hf (by simp) hi (by omega) (by omega);simp only[aaU,abI,aV]at key;simp[hd,d1,d2,d3,d4,d5,e1,e2,e3,e4,e5,e6,key,u5]
end Go.Proofs.YtdngefmliibcgaaGreat
