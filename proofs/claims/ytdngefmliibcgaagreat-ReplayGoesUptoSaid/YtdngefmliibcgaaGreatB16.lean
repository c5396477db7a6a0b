import Derived.Test.YtdngefmliibcgaaGreatB15
set_option linter.all false
set_option maxRecDepth 20000
set_option maxHeartbeats 0
namespace Go.Proofs.YtdngefmliibcgaaGreat
open Go Go.Abs Go.Abs.jJ Qf
variable  {c k x dz r at_ N op a b v o kD:Int}{l ax bs:List Int}{n i:Nat}
def TD(v:Int):Int:=if v=0 then 3 else if v=1 then 4 else if v=2 then 5 else if v=3 then 10 else if v=4 then 13 else if v=5 then 14 else if v=6 then 11 else 9
def ph(l ax:List Int)(D at_ r n s c k:Int):List hu:=
 if c=0 then [⟨1,3+gY l k 3,0,0,xS l (fj l k)⟩]
 else if c=1 then [⟨TD (gY l k 8),3+gY l (fj l k) 3,3+gY l (fj l (fj l k)) 3,3+gY l (fj l (fj l (fj l k))) 3,0⟩]
 else if c=2 then [⟨15,6,0,0,r⟩]
 else if c=3\/c=4 then [⟨15,6,0,0,r⟩,⟨17,6,3+gY l k 5,0,gY l (fj l k) s⟩]
 else if c=5\/c=6 then [⟨15,6,0,0,r⟩,⟨16,3+gY l k 4,6,0,gY l (fj l k) s⟩]
 else if c=7\/c=8 then [⟨1,0,0,0,gY l k 3⟩,⟨15,1,0,0,r⟩,⟨1,2,0,0,n⟩,⟨23,0,0,0,13⟩]
 else if c=9 then [⟨1,0,0,0,gY l k 3⟩,⟨15,1,0,0,r⟩,⟨1,2,0,0,n⟩,⟨23,0,0,0,14⟩,⟨2,3,0,0,0⟩]
 else if c=10 then [⟨1,0,0,0,gY l k 3⟩,⟨1,1,0,0,gY l (fj l k) 4⟩,⟨23,0,0,0,3⟩,⟨2,7,0,0,0⟩]
 else if c=11 then [⟨2,0,7,0,0⟩,⟨15,1,0,0,r⟩,⟨1,2,0,0,n⟩,⟨23,0,0,0,if gY l k 2=0 then 1 else 2⟩]
 else if c=12 then(if gY l (fj l k) 2=0 then [⟨2,0,7,0,0⟩,⟨23,0,0,0,4⟩] else [⟨2,0,7,0,0⟩,⟨1,1,0,0,gY l k 4⟩,⟨23,0,0,0,5⟩])
 else if c=13 then [⟨23,0,0,0,if gY l k 3=0 then 6 else if gY l k 3=1 then 7 else 15⟩,⟨2,3+gY l (fj l k) 3,0,0,0⟩]
 else if c=14\/c=15 then [⟨1,0,0,0,gY l k 3⟩,⟨23,0,0,0,if gY l (fj l k) 2=0 then 8 else 9⟩]
 else if c=16 then [⟨1,0,0,0,gY l k D⟩,⟨2,1,3,0,0⟩,⟨23,0,0,0,10⟩]
 else if c=17 then [⟨1,0,0,0,gY l (fj l k) (if gY l k 2=0 then D else 5)⟩,⟨23,0,0,0,if gY l (fj l (fj l k)) 2=0 then 12 else 11⟩]
 else if c=18 then [⟨1,5,0,0,1+gY l k 4⟩,⟨1,4,0,0,1⟩,⟨4,5,5,4,0⟩,⟨20,5,0,0,at_+2⟩]
 else [Dp l ax.length D k]
def lQ(l:List Int)(c k:Int):Int:=
 if c=0 then Fc l (fj l k)
 else if c=1 then fj l (fj l (fj l (fj l k)))
 else if c=2 then k
 else if c=3\/c=4 then fj l (fj l k)
 else if c=5\/c=6 then fj l (fj l k)
 else if c=7\/c=8 then fj l k
 else if c=9 then fj l k
 else if c=10 then fj l (fj l k)
 else if c=11 then fj l k
 else if c=12 then fj l (fj l k)
 else if c=13 then fj l (fj l k)
 else if c=14\/c=15 then fj l (fj l k)
 else if c=16 then fj l k
 else if c=17 then fj l (fj l (fj l k))
 else if c=18 then fj l k
 else P8 l k
def mz{l:Type}{P:l->Prop}{c:Prop}[Decidable c]{a b:l}(h1:P a)(h:P b):P (if c then a else b):=by split<;>assumption
def Yo(h:fA l k):fA l (lQ l c k):=by
 unfold lQ;have h1:=jH h;have K:=jH h1;have S:=jH K;have a:=jH S;exact mz (ID h1) (mz a (mz h (mz K (mz K (mz h1 (mz h1 (mz K (mz h1 (mz K (mz K (mz K (mz h1 (mz S (mz h1 (Y' h)))))))))))))))
def m5(x:Int):Int:=if x<5 then x else 5
def GB(h:1<=x):1<=m5 x/\m5 x<=5:=by unfold m5;split<;>omega
def Dq(l ax:List Int)(k:Int):Int:=gY l k ax.length
def La(l ax:List Int)(k:Int):Int:=gY l (fj l k) (m5 (nth ax (Dq l ax k).toNat+1))
def Au(l ax:List Int)(D at_ k:Int):List hu:=
 ph l ax D at_ (Dq l ax k) (La l ax k) (nth ax (Dq l ax k).toNat) (gY l (fj l (fj l k)) 20) (fj l (fj l (fj l k)))
def IH(l:List Int)(k:Int):Int:=lQ l (gY l (fj l (fj l k)) 20) (fj l (fj l (fj l k)))
@[simp]def Y_(h:fA l k):fA l (IH l k):=Yo (jH (jH (jH h)))
def NW(h:0<=c/\c<20):c=0\/c=1\/c=2\/c=3\/c=4\/c=5\/c=6\/c=7\/c=8\/c=9\/c=10\/c=11\/c=12\/c=13\/c=14\/c=15\/c=16\/c=17\/c=18\/c=19:=ab
@[simp]def Yp(Q:List Int)(b:Int)(ax:List Int)(D at_:Int)(d:fA Q b)(O:tA ax)(S:1<=D/\D<=1000)(t:0<=at_/\at_<=1000):qP X ([]) 127 2 ((pm Q b:V)) [ax,D,at_]=some (2,(pm (⟨Q,IH Q b⟩:qC).l (⟨Q,IH Q b⟩:qC).time:V),[.sl false ((Au Q ax D at_ b).map hu.e)],.bad):=by
 refine uF ?_;have Z:=O.pos;have o:=O.le;have A:1<=(ax.length:Int)/\(ax.length:Int)<=4611686018427387904:=ab
 have h0:=gF Q b (n:=ax.length) ab;obtain⟨r,C⟩: ∃r:Nat,gY Q b ax.length=r:=⟨(gY Q b ax.length).toNat,ab⟩;have E:r<ax.length:=ab
 have s:=O.elem r E;have i:Dq Q ax b=r:=C;have p:La Q ax b=gY Q (fj Q b) (m5 (ax[r]+1)):=by unfold La;rw[i];simp[dA E]
 have u:=GB (x:=ax[r]+1) ab;obtain⟨q,e⟩:=x_ (m5 (ax[r]+1));have L:(if ax[r]+1<5 then ax[r]+1 else 5)=q:=e;rw[e]at u p;have l:1<=q/\q<=4611686018427387904:=ab
 have P:=z_ (ax[r]+1);obtain⟨n,W⟩:=x_ (gY Q (fj Q b) q);have K:=gF Q (fj Q (fj Q b)) (n:=20) ab;obtain⟨c,m⟩:=x_ (gY Q (fj Q (fj Q b)) 20);obtain⟨k,y⟩:=x_ (fj Q (fj Q (fj Q b)));have z:fA Q k:=by rw[<-y];exact jH (jH (jH d))
 have ev:Au Q ax D at_ b=ph Q ax D at_ r n ax[r] c k:=by
  unfold Au;rw[m,y,i,p,W];simp[dA E]
 have g:IH Q b=lQ Q c k:=by unfold IH;rw[m,y]
 rw[ev,g];rw[m]at K;have T: ∀k,IntKind.i64.wrap (3+gY Q k 3)=3+gY Q k 3:=fun k=>by have:=gF Q k (n:=3) ab;exact wrap_i64 ab
 have f: ∀k,IntKind.i64.wrap (3+gY Q k 4)=3+gY Q k 4:=fun k=>h7
 have j: ∀k,IntKind.i64.wrap (3+gY Q k 5)=3+gY Q k 5:=fun k=>by have:=gF Q k (n:=5) ab;exact wrap_i64 ab
 have F: ∀k,IntKind.i64.wrap (1+gY Q k 4)=1+gY Q k 4:=fun k=>h7
 have ww: ∀k,IntKind.i64.wrap (xS Q k)=xS Q k:=fun k=>by have:=Aq Q k;exact wrap_i64 ab
 have a:=z_ (at_+2);have U:1<=D/\D<=4611686018427387904:=ab
 have w:1<=ax[r]/\ax[r]<=4611686018427387904:=ab
 rcases NW K with rfl|rfl|rfl|rfl|rfl|rfl|rfl|rfl|rfl|rfl|rfl|rfl|rfl|rfl|rfl|rfl|rfl|rfl|rfl|rfl
 .simp(maxSteps:=10000000)(maxDischargeDepth:=30)[d,A,C,E,P,L,l,W,m,y,z,T,ww,hu.cN,ph,lQ]
 .have h:=gF Q k (n:=8) ab;have Y:gY Q k 8=0\/gY Q k 8=1\/gY Q k 8=2\/gY Q k 8=3\/gY Q k 8=4\/gY Q k 8=5\/gY Q k 8=6\/gY Q k 8=7:=ab
  rcases Y with h|h|h|h|h|h|h|h<;>simp(maxSteps:=10000000)(maxDischargeDepth:=30)[d,A,C,E,P,L,l,W,m,y,z,T,h,TD,hu.cN,ph,lQ]
 .exact jR
 .exact m4
 .exact m4
 .exact m6
 .exact m6
 .exact jR
 .exact jR
 .exact jR
 .exact jR
 .have h:=gF Q k (n:=2) ab;have Y:gY Q k 2=0\/gY Q k 2=1:=ab
  exact jS
 .have h:=gF Q (fj Q k) (n:=2) ab;have Y:gY Q (fj Q k) 2=0\/gY Q (fj Q k) 2=1:=ab
  exact jS
 .have h:=gF Q k (n:=3) ab;have Y:gY Q k 3=0\/gY Q k 3=1\/gY Q k 3=2:=ab
  rcases Y with h|h|h<;>simp(maxSteps:=10000000)(maxDischargeDepth:=30)[d,A,C,E,P,L,l,W,m,y,z,T,h,hu.cN,ph,lQ]
 .have h:=gF Q (fj Q k) (n:=2) ab;have Y:gY Q (fj Q k) 2=0\/gY Q (fj Q k) 2=1:=ab
  exact jS
 .have h:=gF Q (fj Q k) (n:=2) ab;have Y:gY Q (fj Q k) 2=0\/gY Q (fj Q k) 2=1:=ab
  exact jS
 .exact nk
 .have h:=gF Q k (n:=2) ab;have Y:gY Q k 2=0\/gY Q k 2=1:=ab
  have R:=gF Q (fj Q (fj Q k)) (n:=2) ab;have B:gY Q (fj Q (fj Q k)) 2=0\/gY Q (fj Q (fj Q k)) 2=1:=ab
  rcases Y with h|h<;>rcases B with R|R<;>simp(maxSteps:=10000000)(maxDischargeDepth:=30)[d,A,C,E,P,L,l,W,m,y,z,U,h,R,hu.cN,ph,lQ]
 .simp(maxSteps:=10000000)(maxDischargeDepth:=30)[d,A,C,E,P,L,l,W,m,y,z,F,a,hu.cN,ph,lQ]
 .exact nk
def iz(l ax:List Int)(k:Int):Nat->List hu×Int
 |0=>([],k)
 |i+1=>(if(iz l ax k i).1.length+(Au l ax ((iz l ax k i).1.length+1) (iz l ax k i).1.length (iz l ax k i).2).length<=62
   then(iz l ax k i).1++Au l ax ((iz l ax k i).1.length+1) (iz l ax k i).1.length (iz l ax k i).2 else(iz l ax k i).1,
  IH l (iz l ax k i).2)
def Av(l ax:List Int)(k:Int):iz l ax k 0=([],k):=rfl
def A9(l ax:List Int)(k:Int)(i:Nat):iz l ax k (i+1)=(if(iz l ax k i).1.length+(Au l ax ((iz l ax k i).1.length+1) (iz l ax k i).1.length (iz l ax k i).2).length<=62
   then(iz l ax k i).1++Au l ax ((iz l ax k i).1.length+1) (iz l ax k i).1.length (iz l ax k i).2 else(iz l ax k i).1,
  IH l (iz l ax k i).2):=rfl
@[simp]def Ej(h:fA l k)(i:Nat):fA l (iz l ax k i).2:=by
 induction i with
 |zero=>exact h
 |succ i j=>exact Y_ j
def II(l ax:List Int)(k:Int)(i:Nat):(iz l ax k i).1.length<=62:=by
 induction i with
 |zero=>simp[Av]
 |succ i j=>
  rw[A9];simp only;split
  .rename_i h;simpa using h
  .exact j
def jX(l ax:List Int)(k:Int):Nat->List (List Int)×Int
 |0=>([],k)
 |i+1=>((jX l ax k i).1++ [kM l (jX l ax k i).2 (nth ax i)],oY l (jX l ax k i).2 (nth ax i))
def Dr(l ax:List Int)(k:Int):jX l ax k 0=([],k):=rfl
def Ct(l ax:List Int)(k:Int)(i:Nat):jX l ax k (i+1)=((jX l ax k i).1++ [kM l (jX l ax k i).2 (nth ax i)],oY l (jX l ax k i).2 (nth ax i)):=rfl
def Aw(l ax:List Int)(k:Int)(i:Nat):(jX l ax k i).1.length=i:=by
 induction i with
 |zero=>rfl
 |succ i h=>rw[Ct];simp[h]
def Lc(l ax:List Int)(D at_ k:Int):(Au l ax D at_ k).length<=5:=by
 unfold Au ph;have s: ∀(a:hu),[a].length<=5:=fun _=>ai
 have n: ∀(a b:hu),[a,b].length<=5:=fun _ _=>ai
 have I: ∀(a b c:hu),[a,b,c].length<=5:=fun _ _ _=>ai
 have Q: ∀(a b c d:hu),[a,b,c,d].length<=5:=fun _ _ _ _=>ai
 have Y: ∀(a b c d e:hu),[a,b,c,d,e].length<=5:=fun _ _ _ _ _=>ai
 exact mz (P:=fun x:List hu=>x.length<=5) (s _) (mz (P:=fun x:List hu=>x.length<=5) (s _) (mz (P:=fun x:List hu=>x.length<=5) (s _) (mz (P:=fun x:List hu=>x.length<=5) (n _ _) (mz (P:=fun x:List hu=>x.length<=5) (n _ _)
  (mz (P:=fun x:List hu=>x.length<=5) (Q _ _ _ _) (mz (P:=fun x:List hu=>x.length<=5) (Y _ _ _ _ _) (mz (P:=fun x:List hu=>x.length<=5) (Q _ _ _ _) (mz (P:=fun x:List hu=>x.length<=5) (Q _ _ _ _)
  (mz (P:=fun x:List hu=>x.length<=5) (mz (P:=fun x:List hu=>x.length<=5) (n _ _) (I _ _ _)) (mz (P:=fun x:List hu=>x.length<=5) (n _ _) (mz (P:=fun x:List hu=>x.length<=5) (n _ _) (mz (P:=fun x:List hu=>x.length<=5) (I _ _ _)
  (mz (P:=fun x:List hu=>x.length<=5) (n _ _) (mz (P:=fun x:List hu=>x.length<=5) (Q _ _ _ _) (s _)))))))))))))))
@[simp]def Cu(h:fA l k)(i:Nat):fA l (jX l ax k i).2:=by
 induction i with
 |zero=>exact h
 |succ i j=>exact mU j
def wY(n:Int)(i:hu):hu:=if jumps i.op=true/\n<=i.eA then{i with eA:=0} else i
def x7(l:List Int)(hw:List hu)(k:Int):List hu:=
 if gY l k 4=0 then hw++ [⟨18,0,0,0,gY l (fj l k) (hw.length+1)⟩] else if gY l k 4=1 then hw++ [⟨24,0,0,0,0⟩] else hw
def Nn(l:List Int)(k:Int):Int:=if gY l k 4=0 then fj l (fj l k) else fj l k
@[simp]def Rb(h:fA l k):fA l (Nn l k):=by unfold Nn;split<;>simp[h]
def Yr(l:List Int)(hw:List hu)(k:Int):List hu:=(x7 l hw k++([⟨1,0,0,0,gY l (Nn l k) 9⟩,⟨23,0,0,0,0⟩]:List hu)).take 64
def lp(n:Int)(c:List hu):Nat->List hu
 |0=>c
 |i+1=>(lp n c i).set i (wY n (c.getD i ⟨0,0,0,0,0⟩))
def Cv(n:Int)(c:List hu):lp n c 0=c:=rfl
def tK(n:Int)(c:List hu)(i:Nat):(lp n c i).length=c.length:=by
 induction i with
 |zero=>rfl
 |succ i h=>rw[lp,rm,h]
def IJ(n:Int)(c:List hu): ∀(i j:Nat),i<=j->(lp n c i)[j]?=c[j]?
 |0,_,_=>rfl
 |i+1,j,h=>by rw[lp,y0 ab,IJ n c i j ab]
def P9(n:Int)(c:List hu): ∀(i j:Nat),j<i->(lp n c i)[j]?=(c[j]?).map (wY n)
 |0,_,h=>ab
 |i+1,j,h=>by
  rw[lp];by_cases e:i=j
  .subst e;by_cases l:i<c.length
   .rw[List.getElem?_set_self (by rw[tK];exact l)];simp[List.getD,l]
   .rw[uf (by rw[rm,tK];omega),uf ab];rfl
  .rw[y0 e,P9 n c i j ab]
def Ek(n:Int)(c:List hu):lp n c c.length=c.map (wY n):=by
 apply tl;intro j;rw[tm];by_cases h:j<c.length
 .exact P9 n c _ _ h
 .rw[uf (by rw[tK];omega),uf ab];rfl
def IK{n:Int}{c:List hu}(h:i<c.length)(h':i<(lp n c i).length):(lp n c i)[i]=c[i]:=by
 have:=IJ n c i i (iX _);rw[rk h,rk h']at this;exact ns
def xT{n:Int}{c:List hu}(h:i<c.length)(q: ¬(jumps (c[i]).op=true/\n<=(c[i]).eA)):lp n c (i+1)=lp n c i:=by
 rw[lp];have e:wY n (c.getD i ⟨0,0,0,0,0⟩)=c[i]:=by simp only[List.getD,rk h,tj];unfold wY;rw[if_neg q]
 rw[e];apply tl;intro j;by_cases C:i=j
 .subst C;rw[List.getElem?_set_self (by rw[tK];exact h),IJ n c i i (iX _),rk h]
 .rw[y0 C]
def El{n:Int}{c:List hu}(h:i<c.length)(j:jumps (c[i]).op=true/\n<=(c[i]).eA):lp n c (i+1)=(lp n c i).set i ⟨(c[i]).op,(c[i]).a,(c[i]).b,(c[i]).c,0⟩:=by
 rw[lp];congr 1;simp only[List.getD,rk h,tj];unfold wY;rw[if_pos j]
def Em(x:hu):(hu.e x).put 4 (.int .i64 0)=hu.e ⟨x.op,x.a,x.b,x.c,0⟩:=rfl
def Qa(l ax:List Int)(k:Int)(i:Nat):(iz l ax k i).1.length<=5*i:=by
 induction i with
 |zero=>simp[Av]
 |succ i h=>
  rw[A9];have:=Lc l ax ((iz l ax k i).1.length+1) (iz l ax k i).1.length (iz l ax k i).2;simp only;split
  .rw[ta];omega
  .omega
def En(l:List hu)(i:Nat)(x:hu):(l.map hu.e).set i ((qr x.op x.a x.b x.c 0:V))=(l.set i ⟨x.op,x.a,x.b,x.c,0⟩).map hu.e:=by rw[sB];rfl
def MN(l:List Int)(k:Int):Int:=(jX l (rC l k) (As l k) (rC l k).length).2
def BO(l:List Int)(k:Int):List hu×Int:=iz l (rC l k) (fj l (MN l k)) (1+gY l (MN l k) 12).toNat
def Fg(l:List Int)(k:Int):List hu:=Yr l (BO l k).1 (BO l k).2
def vN(l:List Int)(k:Int):g9:=⟨(Fg l k).map (wY (Fg l k).length),rC l k,(jX l (rC l k) (As l k) (rC l k).length).1⟩
def Ld(l:List Int)(k:Int):Int:=fj l (Nn l (BO l k).2)
@[simp]def Bt(c:List Int)(b:Int)(hd:fA c b):qP X ([]) 63 2 ((pm c b:V)) []=some (2,(pm (⟨c,Ld c b⟩:qC).l (⟨c,Ld c b⟩:qC).time:V),[(wa (vN c b):V)],.bad):=by
 refine uF ?_;have U:=Ei c b;obtain⟨sz,L⟩:=x_ (rC c b);obtain⟨s,u⟩:=x_ (As c b);have h3:fA c s:=by rw[<-u];exact K9 hd
 rw[L]at U;have n0:=U.pos;have e2:=U.le;obtain⟨d,P⟩:=x_ ((jX c sz s sz.length).2);obtain⟨xd,C⟩:=x_ ((jX c sz s sz.length).1);have W:fA c d:=by rw[<-P];exact Cu h3 _
 have hB:=gF c d (n:=12) ab;obtain⟨N,aa⟩: ∃N:Nat,1+gY c d 12=N:=⟨(1+gY c d 12).toNat,ab⟩;obtain⟨D,hb⟩:=x_ ((iz c sz (fj c d) N).1);obtain⟨k,F⟩:=x_ ((iz c sz (fj c d) N).2);have Y:fA c (fj c d):=jH W;have B:fA c k:=by rw[<-F];exact Ej Y _
 have HG:D.length<=60:=by
  have:=Qa c sz (fj c d) N;rw[hb]at this;omega
 have an:MN c b=d:=by unfold MN;rw[L,u,P]
 have mm:BO c b=(D,k):=by unfold BO;rw[L,an,aa,<-hb,<-F];rfl
 obtain⟨e,hx⟩:=x_ (Yr c D k);have ae:Fg c b=e:=by unfold Fg;rw[mm];exact hx
 have ev:vN c b=⟨e.map (wY e.length),sz,xd⟩:=by unfold vN;rw[ae,L,u,C]
 have hg:Ld c b=fj c (Nn c k):=by unfold Ld;rw[mm]
 rw[ev,hg];have ho:IntKind.i64.wrap (1+gY c d 12)=N:=by rw[aa];exact wrap_i64 ab
 simp(maxSteps:=10000000)(maxDischargeDepth:=30)[hd,L,u];refine dO (fun i S=>(S.f 0= .ptr 0 0 0/\S.h 0=some ⟨2,[pm (⟨c,(jX c sz s i).2⟩:qC).l (⟨c,(jX c sz s i).2⟩:qC).time],true⟩/\S.f 2= .ptr 2 0 0/\S.h 2=some ⟨3,[iB ([]:List hu) ([]:List Int) ([]:List (List Int))],true⟩/\S.f 3= .ptr 3 0 0/\S.h 1000=some ⟨5,(⟨[],sz,(jX c sz s i).1⟩:g9).hw.map hu.e,false⟩/\S.h 1001=some ⟨1,(⟨[],sz,(jX c sz s i).1⟩:g9).ap.map bw,false⟩/\S.h 3=some ⟨3,[.agg [.cX 1000 0 ((⟨[],sz,(jX c sz s i).1⟩:g9).hw.map hu.e).length,.sl false ((⟨[],sz,(jX c sz s i).1⟩:g9).ax.map (V.int .i64)),.cX 1001 0 ((⟨[],sz,(jX c sz s i).1⟩:g9).ap.map bw).length]],true⟩/\S.f 13= .sl false ((sz).map (V.int .i64))/\S.f 14= .int .i64 ((sz.length:Int))/\S.f 15=(i:Int)/\S.n=1102)/\True) (sz.length) ab ?_ ?_ ?_
 .rintro i S ⟨G,O,z⟩ ⟨A,fG⟩;have ah:=Cu (ax:=sz) h3 i;have he:=U.elem i z;have ay:nth sz i=sz[i]:=dA z;have au:0<=sz[i]/\sz[i]<=1000:=ab
  have l:(jX c sz s i).1.length<=4:=by rw[Aw];omega
  simp(maxSteps:=10000000)(maxDischargeDepth:=30)[A,G,O,z,ah,ay,au,Ct];exact⟨ab,fun _ _=>rfl⟩
 .rintro S ⟨A,fG⟩;rw[P,C]at A;simp(maxSteps:=10000000)(maxDischargeDepth:=30)[A,W,ho];refine dO (fun j S=>(S.f 0= .ptr 0 0 0/\S.h 0=some ⟨2,[pm (⟨c,(iz c sz (fj c d) j).2⟩:qC).l (⟨c,(iz c sz (fj c d) j).2⟩:qC).time],true⟩/\S.f 2= .ptr 2 0 0/\S.h 2=some ⟨3,[iB ([]:List hu) ([]:List Int) ([]:List (List Int))],true⟩/\S.f 3= .ptr 3 0 0/\S.h 1000=some ⟨5,(⟨(iz c sz (fj c d) j).1,sz,xd⟩:g9).hw.map hu.e,false⟩/\S.h 1001=some ⟨1,(⟨(iz c sz (fj c d) j).1,sz,xd⟩:g9).ap.map bw,false⟩/\S.h 3=some ⟨3,[.agg [.cX 1000 0 ((⟨(iz c sz (fj c d) j).1,sz,xd⟩:g9).hw.map hu.e).length,.sl false ((⟨(iz c sz (fj c d) j).1,sz,xd⟩:g9).ax.map (V.int .i64)),.cX 1001 0 ((⟨(iz c sz (fj c d) j).1,sz,xd⟩:g9).ap.map bw).length]],true⟩/\S.f 6= .int .i64 ((N:Int)-j)/\S.n=1102)/\True) (N) ab ?_ ?_ ?_
  .rintro j S ⟨lM,ht,hs⟩ ⟨H,hp⟩;have T:=Ej (ax:=sz) Y j;have hr:=II c sz (fj c d) j;obtain⟨J,hi⟩:=x_ ((iz c sz (fj c d) j).1);obtain⟨ak,R⟩:=x_ ((iz c sz (fj c d) j).2);have y:=A9 c sz (fj c d) j;rw[hi,R]at y;rw[hi]at hr;rw[R]at T;rw[hi,R]at H;have w1:IntKind.i64.wrap ((N:Int)-j-1)=(N:Int)-(j+1:Nat):=g7
   have c1:(0:Int)<(N:Int)-j:=ab
   have w2:=z_ ((J.length:Int)+1);have m:1<=(J.length:Int)+1/\(J.length:Int)+1<=1000:=ab
   have ha:0<=(J.length:Int)/\(J.length:Int)<=1000:=ab
   obtain⟨pt,p⟩:=x_ (Au c sz ((J.length:Int)+1) J.length ak);have g1:pt.length<=5:=by rw[<-p];exact Lc ..
   have hv:=z_ ((J.length:Int)+pt.length);rw[p]at y;by_cases hf:J.length+pt.length<=62
   .have hk:(J.length:Int)+pt.length<=62:=ab
    rw[if_pos hf]at y;simp(maxSteps:=10000000)(maxDischargeDepth:=30)[H,lM,ht,hs,T,U,w1,c1,w2,m,ha,p,hv,hf,hk,y];omega
   .have hk: ¬(J.length:Int)+pt.length<=62:=ab
    rw[if_neg hf]at y;simp(maxSteps:=10000000)(maxDischargeDepth:=30)[H,lM,ht,hs,T,U,w1,c1,w2,m,ha,p,hv,hf,hk,y]
  .rintro S ⟨H,hp⟩;rw[hb,F]at H;have h4:=gF c k (n:=4) ab;have r:=jH B;have v:=jH r;have hc:=z_ ((D.length:Int)+1);have aq:1<=(D.length:Int)+1/\(D.length:Int)+1<=4611686018427387904:=ab
   by_cases K:gY c k 4=0
   case pos=>
    have t:Nn c k=fj c (fj c k):=by unfold Nn;rw[if_pos K]
    have l:(D++([⟨18,0,0,0,gY c (fj c k) (D.length+1)⟩]:List hu)++([⟨1,0,0,0,gY c (fj c (fj c k)) 9⟩,⟨23,0,0,0,0⟩]:List hu)).length=D.length+3:=ai
    have Q:e=(D++([⟨18,0,0,0,gY c (fj c k) (D.length+1)⟩]:List hu)++([⟨1,0,0,0,gY c (fj c (fj c k)) 9⟩,⟨23,0,0,0,0⟩]:List hu)):=by
     rw[<-hx];unfold Yr x7;rw[t,if_pos K];exact bQ eW
    have a:e.length=D.length+3:=by rw[Q,l]
    have Z: ¬(64:Int)<(D.length:Int)+1+2:=ab
    have hn: ∀x,List.take (D.length+1) (List.map hu.e D++ [x])=List.map hu.e D++ [x]:=fun x=>bQ ai;simp(maxSteps:=10000000)(maxDischargeDepth:=30)[H,B,r,v,K,hc,aq,Z,hn]
    repeat (refine⟨ab,fun _ _=> ?_⟩)
    refine dO (fun i S=>(S.f 0= .ptr 0 0 0/\S.h 0=some ⟨2,[pm (⟨c,fj c (Nn c k)⟩:qC).l (⟨c,fj c (Nn c k)⟩:qC).time],true⟩/\S.f 2= .ptr 2 0 0/\S.h 2=some ⟨3,[iB ([]:List hu) ([]:List Int) ([]:List (List Int))],true⟩/\S.f 3= .ptr 3 0 0/\S.h 1000=some ⟨5,(⟨lp e.length e i,sz,xd⟩:g9).hw.map hu.e,false⟩/\S.h 1001=some ⟨1,(⟨lp e.length e i,sz,xd⟩:g9).ap.map bw,false⟩/\S.h 3=some ⟨3,[.agg [.cX 1000 0 ((⟨lp e.length e i,sz,xd⟩:g9).hw.map hu.e).length,.sl false ((⟨lp e.length e i,sz,xd⟩:g9).ax.map (V.int .i64)),.cX 1001 0 ((⟨lp e.length e i,sz,xd⟩:g9).ap.map bw).length]],true⟩/\S.f 101= .int .i64 ((e.length:Int))/\S.f 102=(i:Int)/\S.n=1102)/\True) (e.length) ab ?_ ?_ ?_
    .rintro i S ⟨G,O,z⟩ ⟨h1,e1⟩;have o:=tK e.length e i;have w:=IK (n:=e.length) z;have E:i<(lp e.length e i).length:=by rw[o];exact z
     have M:=w E;cases q:jumps (e[i]).op
     case false=>
      have f:=xT (n:=e.length) z (fun h=>fB);simp(maxSteps:=10000000)(maxDischargeDepth:=30)[h1,G,O,z,o,E,M,f,q]
     case true=>
      by_cases m:(e.length:Int)<=(e[i]).eA
      .have f:=El (n:=e.length) z ⟨q,m⟩;simp(maxSteps:=10000000)(maxDischargeDepth:=30)[h1,G,O,z,o,E,M,f,q,m,En,Em];try rw[sB]
      .have f:=xT (n:=e.length) z (fun h=>m h.2);simp(maxSteps:=10000000)(maxDischargeDepth:=30)[h1,G,O,z,o,E,M,f,q,m]
    .rintro S ⟨h1,e1⟩;simp(maxSteps:=10000000)(maxDischargeDepth:=30)[h1]<;>(
      rw[Ek,w3])
    .simp(maxSteps:=10000000)(maxDischargeDepth:=30)[H]<;>(
      simp[Q,Cv,t,a,hu.cN];try omega)
   case neg=>
    by_cases h2:gY c k 4=1
    case pos=>
     have t:Nn c k=fj c k:=by unfold Nn;rw[if_neg K]
     have l:(D++([⟨24,0,0,0,0⟩]:List hu)++([⟨1,0,0,0,gY c (fj c k) 9⟩,⟨23,0,0,0,0⟩]:List hu)).length=D.length+3:=ai
     have Q:e=(D++([⟨24,0,0,0,0⟩]:List hu)++([⟨1,0,0,0,gY c (fj c k) 9⟩,⟨23,0,0,0,0⟩]:List hu)):=by
      rw[<-hx];unfold Yr x7;rw[t,if_neg K,if_pos h2];exact bQ eW
     have a:e.length=D.length+3:=by rw[Q,l]
     have Z: ¬(64:Int)<(D.length:Int)+1+2:=ab
     have hn: ∀x,List.take (D.length+1) (List.map hu.e D++ [x])=List.map hu.e D++ [x]:=fun x=>bQ ai;simp(maxSteps:=10000000)(maxDischargeDepth:=30)[H,B,r,v,K,h2,hc,aq,Z,hn]
     repeat (refine⟨ab,fun _ _=> ?_⟩)
     refine dO (fun i S=>(S.f 0= .ptr 0 0 0/\S.h 0=some ⟨2,[pm (⟨c,fj c (Nn c k)⟩:qC).l (⟨c,fj c (Nn c k)⟩:qC).time],true⟩/\S.f 2= .ptr 2 0 0/\S.h 2=some ⟨3,[iB ([]:List hu) ([]:List Int) ([]:List (List Int))],true⟩/\S.f 3= .ptr 3 0 0/\S.h 1000=some ⟨5,(⟨lp e.length e i,sz,xd⟩:g9).hw.map hu.e,false⟩/\S.h 1001=some ⟨1,(⟨lp e.length e i,sz,xd⟩:g9).ap.map bw,false⟩/\S.h 3=some ⟨3,[.agg [.cX 1000 0 ((⟨lp e.length e i,sz,xd⟩:g9).hw.map hu.e).length,.sl false ((⟨lp e.length e i,sz,xd⟩:g9).ax.map (V.int .i64)),.cX 1001 0 ((⟨lp e.length e i,sz,xd⟩:g9).ap.map bw).length]],true⟩/\S.f 101= .int .i64 ((e.length:Int))/\S.f 102=(i:Int)/\S.n=1102)/\True) (e.length) ab ?_ ?_ ?_
     .rintro i S ⟨G,O,z⟩ ⟨g,hl⟩;have o:=tK e.length e i;have w:=IK (n:=e.length) z;have E:i<(lp e.length e i).length:=by rw[o];exact z
      have M:=w E;cases q:jumps (e[i]).op
      case false=>
       have f:=xT (n:=e.length) z (fun h=>fB);simp(maxSteps:=10000000)(maxDischargeDepth:=30)[g,G,O,z,o,E,M,f,q]
      case true=>
       by_cases m:(e.length:Int)<=(e[i]).eA
       .have f:=El (n:=e.length) z ⟨q,m⟩;simp(maxSteps:=10000000)(maxDischargeDepth:=30)[g,G,O,z,o,E,M,f,q,m,En,Em];try rw[sB]
       .have f:=xT (n:=e.length) z (fun h=>m h.2);simp(maxSteps:=10000000)(maxDischargeDepth:=30)[g,G,O,z,o,E,M,f,q,m]
     .rintro S ⟨g,hl⟩;simp(maxSteps:=10000000)(maxDischargeDepth:=30)[g]<;>(
       rw[Ek,w3])
     .simp(maxSteps:=10000000)(maxDischargeDepth:=30)[H]<;>(
       simp[Q,Cv,t,a,hu.cN];try omega)
    case neg=>
     have t:Nn c k=fj c k:=by unfold Nn;rw[if_neg K]
     have l:(D++([⟨1,0,0,0,gY c (fj c k) 9⟩,⟨23,0,0,0,0⟩]:List hu)).length=D.length+2:=ai
     have Q:e=(D++([⟨1,0,0,0,gY c (fj c k) 9⟩,⟨23,0,0,0,0⟩]:List hu)):=by
      rw[<-hx];unfold Yr x7;rw[t,if_neg K,if_neg h2];exact bQ eW
     have a:e.length=D.length+2:=by rw[Q,l]
     have Z: ¬64<(D.length:Int)+2:=ab
     simp(maxSteps:=10000000)(maxDischargeDepth:=30)[H,B,r,v,K,h2,hc,aq,Z]
     repeat (refine⟨ab,fun _ _=> ?_⟩)
     refine dO (fun i S=>(S.f 0= .ptr 0 0 0/\S.h 0=some ⟨2,[pm (⟨c,fj c (Nn c k)⟩:qC).l (⟨c,fj c (Nn c k)⟩:qC).time],true⟩/\S.f 2= .ptr 2 0 0/\S.h 2=some ⟨3,[iB ([]:List hu) ([]:List Int) ([]:List (List Int))],true⟩/\S.f 3= .ptr 3 0 0/\S.h 1000=some ⟨5,(⟨lp e.length e i,sz,xd⟩:g9).hw.map hu.e,false⟩/\S.h 1001=some ⟨1,(⟨lp e.length e i,sz,xd⟩:g9).ap.map bw,false⟩/\S.h 3=some ⟨3,[.agg [.cX 1000 0 ((⟨lp e.length e i,sz,xd⟩:g9).hw.map hu.e).length,.sl false ((⟨lp e.length e i,sz,xd⟩:g9).ax.map (V.int .i64)),.cX 1001 0 ((⟨lp e.length e i,sz,xd⟩:g9).ap.map bw).length]],true⟩/\S.f 101= .int .i64 ((e.length:Int))/\S.f 102=(i:Int)/\S.n=1102)/\True) (e.length) ab ?_ ?_ ?_
     .rintro i S ⟨G,O,z⟩ ⟨I,aw⟩;have o:=tK e.length e i;have w:=IK (n:=e.length) z;have E:i<(lp e.length e i).length:=by rw[o];exact z
      have M:=w E;cases q:jumps (e[i]).op
      case false=>
       have f:=xT (n:=e.length) z (fun h=>fB);simp(maxSteps:=10000000)(maxDischargeDepth:=30)[I,G,O,z,o,E,M,f,q]
      case true=>
       by_cases m:(e.length:Int)<=(e[i]).eA
       .have f:=El (n:=e.length) z ⟨q,m⟩;simp(maxSteps:=10000000)(maxDischargeDepth:=30)[I,G,O,z,o,E,M,f,q,m,En,Em];try rw[sB]
       .have f:=xT (n:=e.length) z (fun h=>m h.2);simp(maxSteps:=10000000)(maxDischargeDepth:=30)[I,G,O,z,o,E,M,f,q,m]
     .rintro S ⟨I,aw⟩;simp(maxSteps:=10000000)(maxDischargeDepth:=30)[I]<;>(
       rw[Ek,w3])
     .simp(maxSteps:=10000000)(maxDischargeDepth:=30)[H]<;>(
       simp[Q,Cv,t,a,hu.cN];try omega)
  .simp(maxSteps:=10000000)(maxDischargeDepth:=30)[A]<;>(
    simp[Av])
 .simp(maxSteps:=10000000)(maxDischargeDepth:=30)[]<;>(
   simp[Dr])
def fm{k r:Nat}(h:((k:Int)+dz) % ax.length=(r:Int)):Hx ax dz (bs,at_) k=(bs.set r at_,at_+nth ax r+1+dz/ (50*ax.length) % 40):=by unfold Hx<;>grind
def a4s(a dz q g:Int)(s:dz % 1=0)(h:1+dz/ (1:Int) % 50=q)(S:dz/ (50*(1:Int)) % 40=g):fy [a] dz=[q]:=by
 have l:([a]:List Int).length=1:=rfl;have H:((([a]:List Int).length:Nat):Int)=1:=rfl;have D:dz/ (50*((([a]:List Int).length:Nat):Int)) % 40=g:=bM
 have e:oB [a] dz 0=(List.replicate 1 0,q):=bk
 unfold fy;rw[l,iM,e];rw[fm (k:=0) (r:=0) aj]
 grind
def a4t(a b dz q g:Int)(s:dz % 2=0)(h:1+dz/ (2:Int) % 50=q)(S:dz/ (50*(2:Int)) % 40=g):fy [a,b] dz=[q,q+a+1+g]:=by
 have l:([a,b]:List Int).length=2:=rfl;have H:((([a,b]:List Int).length:Nat):Int)=2:=rfl;have D:dz/ (50*((([a,b]:List Int).length:Nat):Int)) % 40=g:=bM
 have e:oB [a,b] dz 0=(List.replicate 2 0,q):=bk
 unfold fy;rw[l,iM,iM,e];rw[fm (k:=0) (r:=0) aj];rw[fm (k:=1) (r:=1) aj];exact n8
def a4u(a b dz q g:Int)(s:dz % 2=1)(h:1+dz/ (2:Int) % 50=q)(S:dz/ (50*(2:Int)) % 40=g):fy [a,b] dz=[q+b+1+g,q]:=by
 have l:([a,b]:List Int).length=2:=rfl;have H:((([a,b]:List Int).length:Nat):Int)=2:=rfl;have D:dz/ (50*((([a,b]:List Int).length:Nat):Int)) % 40=g:=bM
 have e:oB [a,b] dz 0=(List.replicate 2 0,q):=bk
 unfold fy;rw[l,iM,iM,e];rw[fm (k:=0) (r:=1) aj];rw[fm (k:=1) (r:=0) aj];exact n8
def a4v(a b c dz q g:Int)(s:dz % 3=0)(h:1+dz/ (3:Int) % 50=q)(S:dz/ (50*(3:Int)) % 40=g):fy [a,b,c] dz=[q,q+a+1+g,q+a+1+g+b+1+g]:=by
 have l:([a,b,c]:List Int).length=3:=rfl;have H:((([a,b,c]:List Int).length:Nat):Int)=3:=rfl;have D:dz/ (50*((([a,b,c]:List Int).length:Nat):Int)) % 40=g:=bM
 have e:oB [a,b,c] dz 0=(List.replicate 3 0,q):=bk
 unfold fy;rw[l,iM,iM,iM,e];rw[fm (k:=0) (r:=0) aj];rw[fm (k:=1) (r:=1) aj];rw[fm (k:=2) (r:=2) aj];exact n8
def a4w(a b c dz q g:Int)(s:dz % 3=1)(h:1+dz/ (3:Int) % 50=q)(S:dz/ (50*(3:Int)) % 40=g):fy [a,b,c] dz=[q+b+1+g+c+1+g,q,q+b+1+g]:=by
 have l:([a,b,c]:List Int).length=3:=rfl;have H:((([a,b,c]:List Int).length:Nat):Int)=3:=rfl;have D:dz/ (50*((([a,b,c]:List Int).length:Nat):Int)) % 40=g:=bM
 have e:oB [a,b,c] dz 0=(List.replicate 3 0,q):=bk
 unfold fy;rw[l,iM,iM,iM,e];rw[fm (k:=0) (r:=1) aj];rw[fm (k:=1) (r:=2) aj];rw[fm (k:=2) (r:=0) aj];exact n8
def a4x(a b c dz q g:Int)(s:dz % 3=2)(h:1+dz/ (3:Int) % 50=q)(S:dz/ (50*(3:Int)) % 40=g):fy [a,b,c] dz=[q+c+1+g,q+c+1+g+a+1+g,q]:=by
 have l:([a,b,c]:List Int).length=3:=rfl;have H:((([a,b,c]:List Int).length:Nat):Int)=3:=rfl;have D:dz/ (50*((([a,b,c]:List Int).length:Nat):Int)) % 40=g:=bM
 have e:oB [a,b,c] dz 0=(List.replicate 3 0,q):=bk
 unfold fy;rw[l,iM,iM,iM,e];rw[fm (k:=0) (r:=2) aj];rw[fm (k:=1) (r:=0) aj];rw[fm (k:=2) (r:=1) aj];exact n8
def a4y(a b c d dz q g:Int)(s:dz % 4=0)(h:1+dz/ (4:Int) % 50=q)(S:dz/ (50*(4:Int)) % 40=g):fy [a,b,c,d] dz=[q,q+a+1+g,q+a+1+g+b+1+g,q+a+1+g+b+1+g+c+1+g]:=by
 have l:([a,b,c,d]:List Int).length=4:=rfl;have H:((([a,b,c,d]:List Int).length:Nat):Int)=4:=rfl;have D:dz/ (50*((([a,b,c,d]:List Int).length:Nat):Int)) % 40=g:=bM
 have e:oB [a,b,c,d] dz 0=(List.replicate 4 0,q):=bk
 unfold fy;rw[l,iM,iM,iM,iM,e];rw[fm (k:=0) (r:=0) aj];rw[fm (k:=1) (r:=1) aj];rw[fm (k:=2) (r:=2) aj];rw[fm (k:=3) (r:=3) aj];exact n8
def a4z(a b c d dz q g:Int)(s:dz % 4=1)(h:1+dz/ (4:Int) % 50=q)(S:dz/ (50*(4:Int)) % 40=g):fy [a,b,c,d] dz=[q+b+1+g+c+1+g+d+1+g,q,q+b+1+g,q+b+1+g+c+1+g]:=by
 have l:([a,b,c,d]:List Int).length=4:=rfl;have H:((([a,b,c,d]:List Int).length:Nat):Int)=4:=rfl;have D:dz/ (50*((([a,b,c,d]:List Int).length:Nat):Int)) % 40=g:=bM
 have e:oB [a,b,c,d] dz 0=(List.replicate 4 0,q):=bk
 unfold fy;rw[l,iM,iM,iM,iM,e];rw[fm (k:=0) (r:=1) aj];rw[fm (k:=1) (r:=2) aj];rw[fm (k:=2) (r:=3) aj];rw[fm (k:=3) (r:=0) aj];exact n8
def a40(a b c d dz q g:Int)(s:dz % 4=2)(h:1+dz/ (4:Int) % 50=q)(S:dz/ (50*(4:Int)) % 40=g):fy [a,b,c,d] dz=[q+c+1+g+d+1+g,q+c+1+g+d+1+g+a+1+g,q,q+c+1+g]:=by
 have l:([a,b,c,d]:List Int).length=4:=rfl;have H:((([a,b,c,d]:List Int).length:Nat):Int)=4:=rfl;have D:dz/ (50*((([a,b,c,d]:List Int).length:Nat):Int)) % 40=g:=bM
 have e:oB [a,b,c,d] dz 0=(List.replicate 4 0,q):=bk
 unfold fy;rw[l,iM,iM,iM,iM,e];rw[fm (k:=0) (r:=2) aj];rw[fm (k:=1) (r:=3) aj];rw[fm (k:=2) (r:=0) aj];rw[fm (k:=3) (r:=1) aj];exact n8
def a41(a b c d dz q g:Int)(s:dz % 4=3)(h:1+dz/ (4:Int) % 50=q)(S:dz/ (50*(4:Int)) % 40=g):fy [a,b,c,d] dz=[q+d+1+g,q+d+1+g+a+1+g,q+d+1+g+a+1+g+b+1+g,q]:=by
 have l:([a,b,c,d]:List Int).length=4:=rfl;have H:((([a,b,c,d]:List Int).length:Nat):Int)=4:=rfl;have D:dz/ (50*((([a,b,c,d]:List Int).length:Nat):Int)) % 40=g:=bM
 have e:oB [a,b,c,d] dz 0=(List.replicate 4 0,q):=bk
 unfold fy;rw[l,iM,iM,iM,iM,e];rw[fm (k:=0) (r:=3) aj];rw[fm (k:=1) (r:=0) aj];rw[fm (k:=2) (r:=1) aj];rw[fm (k:=3) (r:=2) aj];exact n8
def yR(z:tA ax)(s:0<=dz):fM (fy ax dz) ax:=by
 have Q:=z;obtain⟨h1,K,T⟩:=z;have o: ∀n:Int,0<=dz/n % 50/\dz/n % 50<=49:=fun n=>ab
 have v: ∀n:Int,0<=dz/n % 40/\dz/n % 40<=39:=fun n=>ab
 match ax,Q,h1,K,T with
 | [],_,_,K,_=>grind
 |_::_::_::_::_::_,_,_,_,T=>grind
 | [a],Q,h1,_,_=>
  obtain⟨q,u⟩: ∃q,1+dz/ (1:Int) % 50=q:=⟨_,rfl⟩;obtain⟨g,S⟩: ∃g,dz/ (50*(1:Int)) % 40=g:=⟨_,rfl⟩;have N:=v (50*1);have W:1<=a/\a<=32:=h1 0 ai;have hm:dz % 1=0:=ab
  .rw[a4s a dz q g hm u S];refine⟨Q,rfl,fun i h M=> ?_,fun i j h M r B l=> ?_⟩<;>grind
 | [a,b],Q,h1,_,_=>
  obtain⟨q,u⟩: ∃q,1+dz/ (2:Int) % 50=q:=⟨_,rfl⟩;obtain⟨g,S⟩: ∃g,dz/ (50*(2:Int)) % 40=g:=⟨_,rfl⟩;have N:=v (50*2);have W:1<=a/\a<=32:=h1 0 ai;have e:1<=b/\b<=32:=h1 1 ai;have hm:dz % 2=0\/dz % 2=1:=ab
  rcases hm with hm|hm
  .rw[a4t a b dz q g hm u S];refine⟨Q,rfl,fun i h M=> ?_,fun i j h M r B l=> ?_⟩
   .grind
   .have:i=0\/i=1:=aQ
    have:j=0\/j=1:=bA
    grind
  .rw[a4u a b dz q g hm u S];refine⟨Q,rfl,fun i h M=> ?_,fun i j h M r B l=> ?_⟩
   .grind
   .have:i=0\/i=1:=aQ
    have:j=0\/j=1:=bA
    grind
 | [a,b,c],Q,h1,_,_=>
  obtain⟨q,u⟩: ∃q,1+dz/ (3:Int) % 50=q:=⟨_,rfl⟩;obtain⟨g,S⟩: ∃g,dz/ (50*(3:Int)) % 40=g:=⟨_,rfl⟩;have F:=o 3;have N:=v (50*3);rw[S]at N;have W:1<=a/\a<=32:=h1 0 ai;have e:1<=b/\b<=32:=h1 1 ai;have m:1<=c/\c<=32:=h1 2 ai;have hm:dz % 3=0\/dz % 3=1\/dz % 3=2:=ab
  rcases hm with hm|hm|hm
  .rw[a4v a b c dz q g hm u S];refine⟨Q,rfl,fun i h M=> ?_,fun i j h M r B l=> ?_⟩
   .have:i=0\/i=1\/i=2:=aQ
    exact nI
   .have:i=0\/i=1\/i=2:=aQ
    have:j=0\/j=1\/j=2:=bA
    exact j4
  .rw[a4w a b c dz q g hm u S];refine⟨Q,rfl,fun i h M=> ?_,fun i j h M r B l=> ?_⟩
   .have:i=0\/i=1\/i=2:=aQ
    exact nI
   .have:i=0\/i=1\/i=2:=aQ
    have:j=0\/j=1\/j=2:=bA
    exact j4
  .rw[a4x a b c dz q g hm u S];refine⟨Q,rfl,fun i h M=> ?_,fun i j h M r B l=> ?_⟩
   .have:i=0\/i=1\/i=2:=aQ
    exact nI
   .have:i=0\/i=1\/i=2:=aQ
    have:j=0\/j=1\/j=2:=bA
    exact j4
 | [a,b,c,d],Q,h1,_,_=>
  obtain⟨q,u⟩: ∃q,1+dz/ (4:Int) % 50=q:=⟨_,rfl⟩;obtain⟨g,S⟩: ∃g,dz/ (50*(4:Int)) % 40=g:=⟨_,rfl⟩;have F:=o 4;have N:=v (50*4);rw[S]at N;have W:1<=a/\a<=32:=h1 0 ai;have e:1<=b/\b<=32:=h1 1 ai;have m:1<=c/\c<=32:=h1 2 ai;have w:1<=d/\d<=32:=h1 3 ai;have hm:dz % 4=0\/dz % 4=1\/dz % 4=2\/dz % 4=3:=ab
  rcases hm with hm|hm|hm|hm
  .rw[a4y a b c d dz q g hm u S];refine⟨Q,rfl,fun i h M=> ?_,fun i j h M r B l=> ?_⟩
   .have:i=0\/i=1\/i=2\/i=3:=aQ
    exact k5
   .have:i=0\/i=1\/i=2\/i=3:=aQ
    have:j=0\/j=1\/j=2\/j=3:=bA
    exact jh
  .rw[a4z a b c d dz q g hm u S];refine⟨Q,rfl,fun i h M=> ?_,fun i j h M r B l=> ?_⟩
   .have:i=0\/i=1\/i=2\/i=3:=aQ
    exact k5
   .have:i=0\/i=1\/i=2\/i=3:=aQ
    have:j=0\/j=1\/j=2\/j=3:=bA
    exact jh
  .rw[a40 a b c d dz q g hm u S];refine⟨Q,rfl,fun i h M=> ?_,fun i j h M r B l=> ?_⟩
   .have:i=0\/i=1\/i=2\/i=3:=aQ
    exact k5
   .have:i=0\/i=1\/i=2\/i=3:=aQ
    have:j=0\/j=1\/j=2\/j=3:=bA
    exact jh
  .rw[a41 a b c d dz q g hm u S];refine⟨Q,rfl,fun i h M=> ?_,fun i j h M r B l=> ?_⟩
   .have:i=0\/i=1\/i=2\/i=3:=aQ
    exact k5
   .have:i=0\/i=1\/i=2\/i=3:=aQ
    have:j=0\/j=1\/j=2\/j=3:=bA
    exact jh
structure Ds (n:Nat) (i:hu):Prop where
 op:0<=i.op/\i.op<=24
 a:0<=i.a/\i.a<8/\(iP i.op 0=false->i.a=0)
 b:0<=i.b/\i.b<8/\(iP i.op 1=false->i.b=0)
 c:0<=i.c/\i.c<8/\(iP i.op 2=false->i.c=0)
 eA:0<=i.eA/\i.eA<=65535/\(iP i.op 3=false->i.eA=0)
 lea:i.op=15->i.eA<n
 sys:i.op=23->i.eA<=15
def Ys{i:hu}(h:jumps i.op=true):(wY N i).eA=if N<=i.eA then 0 else i.eA:=by unfold wY<;>grind
def Qe(N:Int)(i:hu):(wY N i).op=i.op/\(wY N i).a=i.a/\(wY N i).b=i.b/\(wY N i).c=i.c:=by unfold wY<;>grind
def TE(h:jumps op=true):iP op 3=true:=by
 unfold jumps at h;simp at h;rcases h with((rfl|rfl)|rfl)|rfl<;>rfl
def Ds.fix{i:hu}(H:Ds n i)(X:n<=4){N:Nat}(h1:1<=N)(K:N<=64):nW (wY N i)=true/\qX N n (wY N i)=true:=by
 obtain⟨m,q,x,e⟩:=Qe N i;obtain⟨p,⟨w,F,M⟩,⟨U,c,l⟩,⟨s,A,E⟩,⟨O,W,g⟩,o,f⟩:=H;have k:0<=(wY N i).eA/\(wY N i).eA<=i.eA:=by
  unfold wY;split
  .grind
  .omega
 have j:jumps i.op=true->(wY N i).eA<N:=fun h=>by rw[Ys h];omega
 constructor
 .unfold nW<;>grind
 .unfold qX<;>grind
def oC(n:Nat)(l:List hu):Prop:= ∀i∈l,Ds n i
def oC.nil(n:Nat):oC n []:=fun i h=>bF
def oC.cons{i:hu}{l:List hu}(h:Ds n i)(G:oC n l):oC n (i::l):=fun x hx=>by
 rcases List.mem_cons.1 hx with rfl|hx
 .exact h
 .exact G x hx
def oC.append{a b:List hu}(W:oC n a)(e:oC n b):oC n (a++b):=fun x hx=>by
 rcases List.mem_append.1 hx with h|h
 .exact W x h
 .exact e x h
def oC.take{n:Nat}{a:List hu}(h:oC n a)(k:Nat):oC n (a.take k):=fun x hx=>h x (sw hx)
def Cw(h:0<=r/\r<8)(i:0<=v/\v<=65535):Ds n ⟨1,r,0,0,v⟩:=⟨ai,⟨h.1,h.2,fun q=>b7⟩,ai,ai,⟨i.1,i.2,fun q=>b7⟩,fun q=>aj,fun q=>aj⟩
def IL(h:0<=a/\a<8)(e:0<=b/\b<8):Ds n ⟨2,a,b,0,0⟩:=⟨ai,⟨h.1,h.2,fun q=>b7⟩,⟨e.1,e.2,fun q=>b7⟩,ai,ai,fun q=>aj,fun q=>aj⟩
def Ax(h:0<=v/\v<=15):Ds n ⟨23,0,0,0,v⟩:=⟨ai,ai,ai,ai,⟨h.1,aj,fun q=>b7⟩,fun q=>aj,fun _=>h.2⟩
def Le(h:0<=a/\a<8)(W:n<=4)(i:0<=v/\v<n):Ds n ⟨15,a,0,0,v⟩:=⟨ai,⟨h.1,h.2,fun q=>b7⟩,ai,ai,⟨i.1,aj,fun q=>b7⟩,fun _=>i.2,fun q=>aj⟩
def jy(f:3<=o/\o<=14)(h:0<=a/\a<8)(e:0<=b/\b<8)(m:0<=c/\c<8):Ds n ⟨o,a,b,c,0⟩:=by
 have B:o=3\/o=4\/o=5\/o=6\/o=7\/o=8\/o=9\/o=10\/o=11\/o=12\/o=13\/o=14:=ab
 have u:iP o 0=true/\iP o 1=true/\iP o 2=true:=by
  rcases B with rfl|rfl|rfl|rfl|rfl|rfl|rfl|rfl|rfl|rfl|rfl|rfl<;>exact⟨rfl,rfl,rfl⟩
 exact⟨aj,⟨h.1,h.2,fun q=>aj⟩,⟨e.1,e.2,fun q=>aj⟩,⟨m.1,m.2,fun q=>aj⟩,ai,fun q=>aj,fun q=>aj⟩
def GA(f:o=16\/o=17)(h:0<=a/\a<8)(e:0<=b/\b<8)(i:0<=v/\v<=65535):Ds n ⟨o,a,b,0,v⟩:=by
 rcases f with rfl|rfl<;>exact⟨ai,⟨h.1,h.2,fun q=>b7⟩,⟨e.1,e.2,fun q=>b7⟩,ai,⟨i.1,i.2,fun q=>b7⟩,fun q=>aj,fun q=>aj⟩
def a42(h:0<=a/\a<8)(i:0<=v/\v<=65535):Ds n ⟨20,a,0,0,v⟩:=⟨ai,⟨h.1,h.2,fun q=>b7⟩,ai,ai,⟨i.1,i.2,fun q=>b7⟩,fun q=>aj,fun q=>aj⟩
def a43(h:0<=v/\v<=65535):Ds n ⟨18,0,0,0,v⟩:=⟨ai,ai,ai,ai,⟨h.1,h.2,fun q=>b7⟩,fun q=>aj,fun q=>aj⟩
def a44:Ds n ⟨24,0,0,0,0⟩:=⟨ai,ai,ai,ai,ai,fun q=>aj,fun q=>aj⟩
def MO(l:List Int)(u:Bool)(k:Int):0<=At l u k/\At l u k<8/\(u=false->At l u k=0):=by
 have:=gF l k (n:=8) ab;cases u
 .exact⟨by simp[At],by simp[At],fun _=>rfl⟩
 .exact⟨by simp[At];omega,by simp[At];omega,fun q=>b7⟩
def Q'(l:List Int)(k:Int)(W:1<=n/\n<=4)(m:1<=kD/\kD<=1000):Ds n (Dp l n kD k):=by
 have e:=gF l k (n:=25) ab;unfold Dp;obtain⟨op,g⟩:=x_ (gY l k 25);rw[g]at e⊢;have h:0<=P7 l op n kD (k3 l op k)/\P7 l op n kD (k3 l op k)<=65535/\(iP op 3=false->P7 l op n kD (k3 l op k)=0)/\(op=15->P7 l op n kD (k3 l op k)<n)/\(op=23->P7 l op n kD (k3 l op k)<=15):=by
  unfold P7;have a1:=gF l (k3 l op k) (n:=kD) ab;have a2:=gF l (k3 l op k) (n:=n) ab;have a3:=gF l (k3 l op k) (n:=16) ab;have a4:=Aq l (k3 l op k);by_cases j:jumps op=true
  .refine⟨ab,ab,fun q=> ?_,fun q=> ?_,fun q=> ?_⟩
   .rw[TE j]at q;cases q
   .subst q;cases j
   .subst q;cases j
  rw[if_neg j];by_cases I:op=15
  .refine⟨ab,ab,fun q=> ?_,fun q=>ab,fun q=>ab⟩;subst I;cases q
  rw[if_neg I];by_cases o:op=23
  .refine⟨ab,ab,fun q=> ?_,fun q=>ab,fun q=>ab⟩;subst o;cases q
  rw[if_neg o];by_cases u:iP op 3=true
  .grind
  .grind
 exact⟨aj,MO ..,MO ..,MO ..,⟨h.1,h.2.1,h.2.2.1⟩,h.2.2.2.1,h.2.2.2.2⟩
def Uz{n s:Int}(O:tA ax)(m:1<=kD/\kD<=1000)(X:0<=at_/\at_<=1000)(C:0<=r/\r<ax.length)(W:0<=n/\n<=100)(x:1<=s/\s<=32):oC ax.length (ph l ax kD at_ r n s c k):=by
 have Y:=O.pos;have z:=O.le;have d: ∀(k n:Int),1<=n->0<=gY l k n/\gY l k n<n:=fun k n h=>gF l k h;have N:=oC.nil ax.length;have w:=Aq l (fj l k);have a3:=d k 3 ab;have a4:=d k 4 ab;have a5:=d k 5 ab;have a8:=d k 8 ab;have a2:=d k 2 ab;have R:=d k kD m.1;have g:=d (fj l k) 3 ab;have V:=d (fj l k) 2 ab;have o:=d (fj l k) 4 ab;have U:=d (fj l k) s x.1;have j:=d (fj l (fj l k)) 3 ab;have f:=d (fj l (fj l k)) 2 ab;have e:=d (fj l (fj l (fj l k))) 3 ab;have b:=d (fj l k) (if gY l k 2=0 then kD else 5) ab;have q:gY l (fj l k) (if gY l k 2=0 then kD else 5)<=1000:=by
  have:=b.2;split at this<;>rename_i a<;>simp only[a,if_true,if_false]<;>omega
 unfold ph;refine mz (P:=oC ax.length) ?_ (mz (P:=oC ax.length) ?_ (mz (P:=oC ax.length) ?_ (mz (P:=oC ax.length) ?_ (mz (P:=oC ax.length) ?_ (mz (P:=oC ax.length) ?_ (mz (P:=oC ax.length) ?_ (mz (P:=oC ax.length) ?_ (mz (P:=oC ax.length) ?_ (mz (P:=oC ax.length) ?_ (mz (P:=oC ax.length) ?_ (mz (P:=oC ax.length) ?_ (mz (P:=oC ax.length) ?_ (mz (P:=oC ax.length) ?_ (mz (P:=oC ax.length) ?_ ?_))))))))))))))
 .exact .cons (Cw ab ab) N
 .refine .cons (jy ?_ ab ab ab) N;unfold TD<;>grind
 .exact .cons (Le ab z C) N
 .exact .cons (Le ab z C) (.cons (GA (.inr rfl) ab ab ab) N)
 .exact .cons (Le ab z C) (.cons (GA (.inl rfl) ab ab ab) N)
 .exact .cons (Cw ab ab) (.cons (Le ab z C) (.cons (Cw ab ab) (.cons (Ax ab) N)))
 .exact .cons (Cw ab ab) (.cons (Le ab z C) (.cons (Cw ab ab) (.cons (Ax ab) (.cons (IL ab ab) N))))
 .exact .cons (Cw ab ab) (.cons (Cw ab ab) (.cons (Ax ab) (.cons (IL ab ab) N)))
 .exact .cons (IL ab ab) (.cons (Le ab z C) (.cons (Cw ab ab) (.cons (Ax ee) N)))
 .refine mz (P:=oC ax.length) ?_ ?_
  .exact .cons (IL ab ab) (.cons (Ax ab) N)
  .exact .cons (IL ab ab) (.cons (Cw ab ab) (.cons (Ax ab) N))
 .exact .cons (Ax (by
  repeat' split
  all_goals omega)) (.cons (IL ab ab) N)
 .exact .cons (Cw ab ab) (.cons (Ax ee) N)
 .exact .cons (Cw ab ab) (.cons (IL ab ab) (.cons (Ax ab) N))
 .exact .cons (Cw ab ⟨b.1,ab⟩) (.cons (Ax ee) N)
 .exact .cons (Cw ab ab) (.cons (Cw ab ab) (.cons (jy ab ab ab ab) (.cons (a42 ab ab) N)))
 .exact .cons (Q' l k ⟨Y,z⟩ m) N
def Uy(k:Int)(h:tA ax)(m:1<=kD/\kD<=1000)(a:0<=at_/\at_<=1000):oC ax.length (Au l ax kD at_ k):=by
 have z:=h.pos;have C:0<=Dq l ax k/\Dq l ax k<ax.length:=gF l k ab;obtain⟨r,E⟩: ∃r:Nat,Dq l ax k=r:=⟨(Dq l ax k).toNat,ab⟩;have V:r<ax.length:=ab
 have u:=h.elem r V;have s:nth ax (Dq l ax k).toNat=ax[r]:=by rw[E,X7,dA V]
 have N:0<=La l ax k/\La l ax k<=100:=by
  unfold La;rw[s];have i:=GB (x:=ax[r]+1) ab;have:=gF l (fj l k) (n:=m5 (ax[r]+1)) i.1;omega
 exact Uz h m a C N ab
def Qf(l:List Int){ax:List Int}(k:Int)(h:tA ax): ∀i,oC ax.length (iz l ax k i).1
 |0=>oC.nil _
 |i+1=>by
  have h1:=Qf l k h i;rw[A9];split
  .exact h1.append (Uy _ h ab ab)
  omega
def Uq(l:List Int)(k:Int):oC (rC l k).length (Fg l k)/\1<=(Fg l k).length/\(Fg l k).length<=64:=by
 have h:=Ei l k;have h1:oC (rC l k).length (BO l k).1:=Qf _ _ h _;have G:(BO l k).1.length<=62:=II _ _ _ _;unfold Fg Yr;refine⟨oC.take (oC.append ?_ (.cons (Cw ab ?_) (.cons (Ax ab) (oC.nil _)))) _,aj,aj⟩
 .have a:=gF l (fj l (BO l k).2) (n:=(BO l k).1.length+1) ab;unfold x7;split
  .exact h1.append (.cons (a43 ab) (oC.nil _))
  split
  .exact h1.append (.cons a44 (oC.nil _))
  omega
 .have:=gF l (Nn l (BO l k).2) (n:=9) ab;omega
def IM(l:List Int)(k:Int): ∀i,∀x∈ (lP l k i).1,0<=x/\x<=65535
 |0=>fun x hx=>by cases hx
 |i+1=>fun x hx=>by
  rcases List.mem_append.1 hx with h|h
  .exact IM l k i x h
  .simp at h;subst h;exact Aq _ _
def xU(l:List Int)(k n:Int): ∀x∈kM l k n,0<=x/\x<=65535:=IM l _ _
def IN(l ax:List Int)(k:Int): ∀i,∀d∈ (jX l ax k i).1,∀x∈d,0<=x/\x<=65535
 |0=>fun d u=>by cases u
 |i+1=>fun d u x hx=>by
  rcases List.mem_append.1 u with h|h
  .exact IN l ax k i d h x hx
  .simp at h;subst h;exact xU _ _ _ x hx
def Dt(l ax:List Int)(k:Int)(z: ∀j (h:j<ax.length),1<=ax[j]): ∀i,i<=ax.length-> ∀j (h:j<(jX l ax k i).1.length) (h':j<ax.length),(((jX l ax k i).1[j]).length:Int)<=ax[j]
 |0,_,j,h,_=>by simp[Dr]at h
 |i+1,m,j,h,h'=>by
  have G:=Aw l ax k i;have N:i<ax.length:=ab
  simp only[Ct]at h⊢;rw[ta,G]at h;simp only[s9,w4]at h;by_cases e:j<i
  .rw[JV ab];exact Dt l ax k z i ab j ab h'
  .have p:j=i:=ab
   subst p;rw[J0 ab];simp only[G,xv,xL];rw[dA N];exact kT _ _ aj
def Y6(l:List Int)(k:Int):o9 (vN l k)/\ ∀d∈ (vN l k).ap,∀x∈d,0<=x/\x<=65535:=by
 have z:=Ei l k;obtain⟨h1,K,S⟩:=Uq l k;refine⟨⟨z,?_,?_,?_,?_,?_,?_⟩,?_⟩
 .simp only[vN];rw[Aw]
 .exact Dt _ _ _ (fun j h=>(z.elem j h).1) _ (iX _)
 .simp only[vN,r9];omega
 .simp only[vN,r9];omega
 .intro i m;simp only[vN,r9]at m;simp only[vN,uc];exact((h1 _ (rx m)).fix z.le K S).1
 .intro i m;simp only[vN,r9]at m;simp only[vN,uc,r9];exact((h1 _ (rx m)).fix z.le K S).2
 .exact IN _ _ _ _
def BS(p:g9):Prop:= ∀d∈p.ap,∀x∈d,0<=x/\x<=65535
def H8{cells:List ac}{b:Nat}{d:List Int}(h:fq cells)(u: ∀x∈d,0<=x/\x<=65535): ∀k,k<=d.length->fq (uQ cells b d k)
 |0,_=>h
 |k+1,y=>by
  have h1:=H8 (b:=b) h u k ab;have s:k<d.length:=ab
  rw[UI s];have m:=(h1.getD (b+k)).1;have v:=u d[k] (rx s);exact h1.set (c:=⟨((uQ cells b d k).getD (b+k) ⟨0,0⟩).gs,d[k]⟩) ⟨m,v⟩ _
def Fj(n:Nat):fq (List.replicate n ⟨0,0⟩):=fun c h=>by
 rw[D' h];exact mo
def TF{p:g9}(aK:List Int)(d:BS p): ∀r,fq (pa p aK r)
 |0=>Fj 512
 |r+1=>by
  refine H8 (TF aK d r) (fun x hx=> ?_) _ (iX _);by_cases h:r<p.ap.length
  .simp only[List.getD,rk h,tj]at hx;exact d _ (rx h) x hx
  grind
def Yt{l:List ac}(h:fq l):hX l=true:=by
 unfold hX;rw[rZ];intro c m;have:=(h c m).1;simp[oG];omega
def l5{p:g9}{l:iy}(hp:o9 p)(d:BS p)(L:fM l.aK p.ax)(k:0<=l.key/\l.key<=65535):cJ p 0 (dx p l):=by
 have t0: ∀s:Int,0<=s/\s<=4->eS 0 ⟨s,List.replicate 8 ⟨0,0⟩,0,0, -1, -1,0,0⟩:=fun s K=>⟨K,ai,Fj 8,ai,ai,ai,ai,ai,ai⟩;have el: ∀i,i<4->fp[i]?=some jf:=fun i h=>by unfold fp<;>grind
 refine⟨hp,L,k,⟨⟨C6 ..,rfl,Yt (TF _ d _),fun i h=> ?_⟩,TF _ d _,fun i=> ?_⟩,rfl,fun i h=> ?_,fun _=>D7 _ _⟩
 .have e:(dx p l).gt.ge[i]=jf:=by
   have:=el i (by simpa[dx,fp] using h);have q:(dx p l).gt.ge[i]?=some jf:=this;rw[rk h]at q;exact BZ q
  rw[e];exact D4.1 rfl
 .unfold eZ;by_cases h:i<4
  .simp only[dx,List.getD,el i h,tj];exact fun c m=>by cases m
  .have:(dx p l).gt.ge[i]?=none:=uf (by simp[dx,fp];omega);simp only[List.getD,this,zR];exact fun c m=>by cases m
 .have:i=0\/i=1\/i=2\/i=3:=by simp[dx]at h;omega
  rcases this with rfl|rfl|rfl|rfl
  .exact t0 1 ab
  .exact t0 0 ab
  .exact t0 0 ab
  .exact t0 0 ab
def Um(l:List Int)(k:Int):lB (wz l k):=by
 refine⟨Y7 l k,?_,?_⟩
 .intro d h x hx;unfold wz Db at h;simp only[B_,CT,or_false]at h;rcases h with rfl|rfl
  .exact xU _ _ _ x hx
  .exact xU _ _ _ x hx
 .intro d h;unfold wz Db qI at h;simp only[r2,r_,B_,CT,or_false]at h;rcases h with rfl|rfl
  .exact fg.A' (xU _ _ _)
  .exact fg.A' (xU _ _ _)
def Qg(ax l:List Int):qZ ax (l.map Ag)=true:=by
 unfold qZ;rw[rZ];intro c h;exact qG
def MP(l:List Int)(k:Int)(ax:List Int):pg ax (wz l k).iG.ap=true:=by
 unfold pg wz Db qI;simp only[r2,r_,vA,yp,Qg,Bool.and_self]
def Qh(n:Int):0<=IntKind.u16.wrap n/\IntKind.u16.wrap n<=65535:=dj
end Go.Proofs.YtdngefmliibcgaaGreat
