import Derived.Test.YtdngefmliibcgaaGreatB12
set_option linter.all false
set_option maxRecDepth 20000
set_option maxHeartbeats 0
namespace Go.Proofs.YtdngefmliibcgaaGreat
open Go Go.Abs Go.Abs.jJ Qf
variable  {l:List Int}{k n op:Int}
@[simp]def KC(l vs:List V):Go.Abs.Bx (.ed l) vs= .ed vs:=rfl
@[simp]def zq1(v:V)(vs:List V):Go.Abs.Bx .bad (v::vs)=v:=rfl
structure qC where
 l:List Int
 time:Int
structure fA (l:List Int) (k:Int):Prop where
 pos:0<=k
 len:(l.length:Int)<=4611686018427387904
def gY(l:List Int)(k n:Int):Int:=if k<l.length then nth l k.toNat % n else 0
def fj(l:List Int)(k:Int):Int:=if k<l.length then k+1 else k
@[simp]def jH(h:fA l k):fA l (fj l k):=by
 refine⟨?_,h.len⟩;have:=h.pos;unfold fj;split<;>omega
def gF(l:List Int)(k:Int)(h:1<=n):0<=gY l k n/\gY l k n<n:=by
 unfold gY;split
 .exact⟨t9 _ ab,t4 _ ab⟩
 .omega
@[simp]def Eh(c:List Int)(b n:Int)(d:fA c b)(W:1<=n/\n<=4611686018427387904):qP X ([]) 58 2 ((pm c b:V)) [n]=some (2,(pm (⟨c,fj c b⟩:qC).l (⟨c,fj c b⟩:qC).time:V),[.int .i64 (gY c b n)],.bad):=by
 refine uF ?_;have h1:=d.pos;have K:=d.len;by_cases h:b<c.length
 .obtain⟨k,rfl⟩:=jp h1;have y:k<c.length:=ab
  have t: ¬c.length<=k:=ab
  have q:=o7 k ab;have D:IntKind.i64.wrap ((k:Int)+1-1)=k:=g7
  have w:=z_ k;have i:fj c (k:Int)=(k:Int)+1:=by unfold fj;rw[if_pos h]
  have e:gY c (k:Int) n=c[k] % n:=by unfold gY;rw[if_pos h];simp[dA y]
  simp[y,t,q,w,i,e,W]
 .have i:fj c b=b:=by unfold fj;rw[if_neg h]
  have e:gY c b n=0:=by unfold gY;rw[if_neg h]
  have h':(c.length:Int)<=b:=ab
  simp[h',i,e]
def xS(l:List Int)(k:Int):Int:=if gY l k 5<=2 then gY l (fj l k) 8 else if gY l k 5=3 then 65535-gY l (fj l k) 3 else gY l (fj l k) 65536
def Fc(l:List Int)(k:Int):Int:=fj l (fj l k)
def Za(l:List Int)(k:Int):Fc l k=fj l (fj l k):=rfl
@[simp]def ID(h:fA l k):fA l (Fc l k):=jH (jH h)
def Aq(l:List Int)(k:Int):0<=xS l k/\xS l k<=65535:=by
 have h1:=gF l (fj l k) (n:=8) ab;have K:=gF l (fj l k) (n:=3) ab;have h:=gF l (fj l k) (n:=65536) ab;unfold xS;split
 .omega
 .split<;>omega
@[simp]def Yl(c:List Int)(b:Int)(d:fA c b):qP X ([]) 172 2 ((pm c b:V)) []=some (2,(pm (⟨c,Fc c b⟩:qC).l (⟨c,Fc c b⟩:qC).time:V),[.int .u16 (xS c b)],.bad):=by
 refine uF ?_;have h0:=gF c b (n:=5) ab;have h1:=gF c (fj c b) (n:=8) ab;have K:=gF c (fj c b) (n:=3) ab;have S:=gF c (fj c b) (n:=65536) ab;have D:=y_ (gY c (fj c b) 8);have L:=y_ (65535-gY c (fj c b) 3);have w:=z_ (65535-gY c (fj c b) 3);have T:=y_ (gY c (fj c b) 65536);have h:gY c b 5=0\/gY c b 5=1\/gY c b 5=2\/gY c b 5=3\/gY c b 5=4:=ab
 rcases h with h|h|h|h|h<;>simp[d,h,D,L,w,T,xS,Za]
def lP(l:List Int)(k:Int):Nat->List Int×Int
 |0=>([],k)
 |i+1=>((lP l k i).1++ [xS l (lP l k i).2],Fc l (lP l k i).2)
def ML(l:List Int)(k:Int):lP l k 0=([],k):=rfl
def IE(l:List Int)(k:Int)(i:Nat):lP l k (i+1)=((lP l k i).1++ [xS l (lP l k i).2],Fc l (lP l k i).2):=rfl
@[simp]def IF(h:fA l k)(i:Nat):fA l (lP l k i).2:=by
 induction i with
 |zero=>exact h
 |succ i j=>exact ID j
def Fe(l:List Int)(k:Int)(i:Nat):(lP l k i).1.length=i:=by
 induction i with
 |zero=>rfl
 |succ i h=>rw[IE];simp[h]
def kM(l:List Int)(k n:Int):List Int:=(lP l (fj l k) (gY l k (n+1)).toNat).1
def oY(l:List Int)(k n:Int):Int:=(lP l (fj l k) (gY l k (n+1)).toNat).2
@[simp]def mU(h:fA l k):fA l (oY l k n):=IF (jH h) _
@[simp]def U8(c:List Int)(b n:Int)(u:fA c b)(W:0<=n/\n<=1000):qP X ([]) 126 2 ((pm c b:V)) [n]=some (2,(pm (⟨c,oY c b n⟩:qC).l (⟨c,oY c b n⟩:qC).time:V),[.sl false ((kM c b n).map (V.int .u16))],.bad):=by
 refine uF ?_;have v:=z_ (n+1);have h0:=gF c b (n:=n+1) ab;obtain⟨N,a⟩: ∃N:Nat,gY c b (n+1)=N:=⟨(gY c b (n+1)).toNat,ab⟩;have j:kM c b n=(lP c (fj c b) N).1:=by unfold kM;rw[a];rfl
 have e:oY c b n=(lP c (fj c b) N).2:=by unfold oY;rw[a];rfl
 have h:=jH u;have E:1<=n+1/\n+1<=4611686018427387904:=ab
 rw[j,e];simp[u,v,E,a];refine dO (fun i S=>(S.f 0= .ptr 0 0 0/\S.h 0=some ⟨2,[pm (⟨c,(lP c (fj c b) i).2⟩:qC).l (⟨c,(lP c (fj c b) i).2⟩:qC).time],true⟩/\S.f 5= .cX 5 0 ((((lP c (fj c b) i).1).map (V.int .u16))).length/\S.h 5=some ⟨1,(((lP c (fj c b) i).1).map (V.int .u16)),false⟩/\S.f 6= .int .i64 ((N:Int)-i)/\S.n=1100)/\True) (N) ab ?_ ?_ ?_
 .rintro i S ⟨q,O,z⟩ ⟨d,f⟩;have U:=IF h i;have w:IntKind.i64.wrap ((N:Int)-i-1)=(N:Int)-(i+1:Nat):=g7
  have T:(0:Int)<(N:Int)-i:=ab
  have l:=Fe c (fj c b) i;simp[d,z,U,w,IE];omega
 .exact l0
 .simp<;>(
   simp[ML])
def Dm(v:Int):Int:=if v=0 then 6 else if v=1 then 12 else 32
def Ff(l:List Int)(k:Int):Int:=1+gY l (fj l k) (Dm (gY l k 3))
def jd(l:List Int)(k:Int):Nat->List Int×Int
 |0=>([4+gY l k 9],fj l (fj l k))
 |i+1=>((jd l k i).1++ [Ff l (jd l k i).2],fj l (fj l (jd l k i).2))
def Dn(l:List Int)(k:Int):jd l k 0=([4+gY l k 9],fj l (fj l k)):=rfl
def vM(l:List Int)(k:Int)(i:Nat):jd l k (i+1)=((jd l k i).1++ [Ff l (jd l k i).2],fj l (fj l (jd l k i).2)):=rfl
@[simp]def IG(h:fA l k)(i:Nat):fA l (jd l k i).2:=by
 induction i with
 |zero=>exact jH (jH h)
 |succ i j=>exact jH (jH j)
def Ar(l:List Int)(k:Int)(i:Nat):(jd l k i).1.length=i+1:=by
 induction i with
 |zero=>rfl
 |succ i h=>rw[vM];simp[h]
def rC(l:List Int)(k:Int):List Int:=(jd l k (gY l (fj l k) 4).toNat).1
def As(l:List Int)(k:Int):Int:=(jd l k (gY l (fj l k) 4).toNat).2
@[simp]def K9(h:fA l k):fA l (As l k):=IG h _
def P6(l:List Int)(k:Int):1<=Ff l k/\Ff l k<=32:=by
 have h:=gF l (fj l k) (n:=Dm (gY l k 3)) fk;have:Dm (gY l k 3)<=32:=fk
 unfold Ff;omega
def TA(l:List Int)(k:Int)(i:Nat): ∀x∈ (jd l k i).1,1<=x/\x<=32:=by
 induction i with
 |zero=>
  intro x hx;simp[Dn]at hx;have:=gF l k (n:=9) ab;omega
 |succ i h=>
  intro x hx;rw[vM]at hx;simp at hx;rcases hx with hx|rfl
  .exact h x hx
  .exact P6 _ _
def Ei(l:List Int)(k:Int):tA (rC l k):=by
 have h:=gF l (fj l k) (n:=4) ab;refine⟨fun i j=>TA l k _ _ (rx j),?_,?_⟩
 .unfold rC;rw[Ar];omega
 .unfold rC;rw[Ar];omega
@[simp]def U9(c:List Int)(b:Int)(u:fA c b):qP X ([]) 125 2 ((pm c b:V)) []=some (2,(pm (⟨c,As c b⟩:qC).l (⟨c,As c b⟩:qC).time:V),[.sl false ((rC c b).map (V.int .i64))],.bad):=by
 refine uF ?_;have h0:=gF c b (n:=9) ab;have v:=z_ (4+gY c b 9);have h1:=gF c (fj c b) (n:=4) ab;obtain⟨N,a⟩: ∃N:Nat,gY c (fj c b) 4=N:=⟨(gY c (fj c b) 4).toNat,ab⟩;have j:rC c b=(jd c b N).1:=by unfold rC;rw[a];rfl
 have e:As c b=(jd c b N).2:=by unfold As;rw[a];rfl
 rw[j,e];simp[u,v,a];refine dO (fun i S=>(S.f 0= .ptr 0 0 0/\S.h 0=some ⟨2,[pm (⟨c,(jd c b i).2⟩:qC).l (⟨c,(jd c b i).2⟩:qC).time],true⟩/\S.f 3= .cX 3 0 ((((jd c b i).1).map (V.int .i64))).length/\S.h 3=some ⟨1,(((jd c b i).1).map (V.int .i64)),false⟩/\S.f 4= .int .i64 ((N:Int)-i)/\S.n=1100)/\True) (N) ab ?_ ?_ ?_
 .rintro i S ⟨q,O,z⟩ ⟨d,f⟩;have U:=IG u i;have w:IntKind.i64.wrap ((N:Int)-i-1)=(N:Int)-(i+1:Nat):=g7
  have T:(0:Int)<(N:Int)-i:=ab
  have r:=Ar c b i;have K:=gF c (jd c b i).2 (n:=3) ab;have s:=P6 c (jd c b i).2;have es:Ff c (jd c b i).2=1+gY c (fj c (jd c b i).2) (Dm (gY c (jd c b i).2 3)):=rfl;have h:=z_ (Ff c (jd c b i).2);rw[es]at h;have m:gY c (jd c b i).2 3=0\/gY c (jd c b i).2 3=1\/gY c (jd c b i).2 3=2:=ab
  rcases m with m|m|m
  .rw[m]at h es;have p:Dm 0=6:=rfl;exact nT
  .rw[m]at h es;have p:Dm 1=12:=rfl;exact nT
  .rw[m]at h es;have p:Dm 2=32:=rfl;exact nT
 .exact l0
 .simp<;>(
   simp[Dn])
@[simp]def Cr(c:List Int)(b:Int)(ax:List Int)(d:fA c b)(h:tA ax):qP X ([]) 65 2 ((pm c b:V)) [ax]=some (2,(pm (⟨c,fj c b⟩:qC).l (⟨c,fj c b⟩:qC).time:V),[(y7 ((⟨fy ax (gY c b 1048576),IntKind.u16.wrap (40503*gY c b 1048576)⟩:iy)):V)],.bad):=by
 refine uF ?_;have h0:=gF c b (n:=1048576) ab;have h1:0<=gY c b 1048576/\gY c b 1048576<=1048575:=ab
 simp[d,h,h1]
@[simp]def aza(r n:Int):cG X 128 [r,n]=some ((y8 ((⟨1,r,0,0,n⟩:hu)):V)):=by
 exact lT
@[simp]def av1(a b:Int):cG X 200 [a,b]=some ((y8 ((⟨2,a,b,0,0⟩:hu)):V)):=by
 exact lT
@[simp]def av2(n:Int):cG X 129 [n]=some ((y8 ((⟨23,0,0,0,n⟩:hu)):V)):=by
 exact lT
def At(l:List Int)(u:Bool)(k:Int):Int:=if u=true then gY l k 8 else 0
def FO(l:List Int)(u:Bool)(k:Int):Int:=if u=true then fj l k else k
@[simp]def MM{u:Bool}(h:fA l k):fA l (FO l u k):=by
 unfold FO;split
 .exact jH h
 .exact h
def Ym(l:List Int)(k:Int):At l true k=gY l k 8:=rfl
def TB(l:List Int)(k:Int):At l false k=0:=rfl
def Yn(l:List Int)(k:Int):FO l true k=fj l k:=rfl
def TC(l:List Int)(k:Int):FO l false k=k:=rfl
def P7(l:List Int)(op n D k:Int):Int:=if jumps op=true then gY l k D else if op=15 then gY l k n else if op=23 then gY l k 16 else if iP op 3=true then xS l k else 0
def zd(l:List Int)(op k:Int):Int:=if jumps op=true then fj l k else if op=15 then fj l k else if op=23 then fj l k else if iP op 3=true then Fc l k else k
@[simp]def UA(h:fA l k):fA l (zd l op k):=by
 unfold zd;repeat' split
 .exact jH h
 .exact jH h
 .exact jH h
 .exact ID h
 .exact h
def k1(l:List Int)(op k:Int):Int:=FO l (iP op 0) (fj l k)
def k2(l:List Int)(op k:Int):Int:=FO l (iP op 1) (k1 l op k)
def k3(l:List Int)(op k:Int):Int:=FO l (iP op 2) (k2 l op k)
def Dp(l:List Int)(n D k:Int):hu:=
 ⟨gY l k 25,At l (iP (gY l k 25) 0) (fj l k),At l (iP (gY l k 25) 1) (k1 l (gY l k 25) k),At l (iP (gY l k 25) 2) (k2 l (gY l k 25) k),P7 l (gY l k 25) n D (k3 l (gY l k 25) k)⟩
def P8(l:List Int)(k:Int):Int:=zd l (gY l k 25) (k3 l (gY l k 25) k)
@[simp]def Y'(h:fA l k):fA l (P8 l k):=UA (MM (MM (MM (jH h))))
@[simp]def Va(c:List Int)(b n D:Int)(d:fA c b)(W:1<=n/\n<=4611686018427387904)(m:1<=D/\D<=4611686018427387904):qP X ([]) 201 2 ((pm c b:V)) [n,D]=some (2,(pm (⟨c,P8 c b⟩:qC).l (⟨c,P8 c b⟩:qC).time:V),[(y8 (Dp c n D b):V)],.bad):=by
 refine uF ?_;have h0:=gF c b (n:=25) ab;have h:0<=gY c b 25/\gY c b 25<=24:=ab
 obtain⟨op,g⟩:=x_ (gY c b 25);unfold Dp P8;rw[g]at h⊢;unfold k3 k2 k1 P7 zd;have w: ∀k,IntKind.i64.wrap (xS c k)=xS c k:=fun k=>by have:=Aq c k;exact wrap_i64 ab
 cases i:iP op 0<;>cases p:iP op 1<;>cases u:iP op 2<;>simp only[Ym,TB,Yn,TC];all_goals
  by_cases j:jumps op=true
  .simp(maxSteps:=10000000)(maxDischargeDepth:=30)[d,g,h,i,p,u,j,m,At,FO]
  .by_cases I:op=15
   .subst I;simp(maxSteps:=10000000)(maxDischargeDepth:=30)[d,g,h,i,p,u,j,W,At,FO]
   .by_cases o:op=23
    .subst o;simp(maxSteps:=10000000)(maxDischargeDepth:=30)[d,g,h,i,p,u,j,At,FO]
    .cases F:iP op 3
     .simp(maxSteps:=10000000)(maxDischargeDepth:=30)[d,g,h,i,p,u,F,j,I,o,At,FO]
     .simp(maxSteps:=10000000)(maxDischargeDepth:=30)[d,g,h,i,p,u,F,j,I,o,w,At,FO]
def GD(v:Int):Int:=if v=0 then 0 else if v=1 then 1 else if v=2 then 2 else if v=3 then 3 else if v=4 then 7 else 63
def yb(l:List Int)(k:Int):Choice:=⟨gY l k 4,GD (gY l (fj l k) 6),decide (gY l (fj l (fj l k)) 4=0)⟩
@[simp]def Cs(c:List Int)(b:Int)(d:fA c b):qP X ([]) 68 2 ((pm c b:V)) []=some (2,(pm (⟨c,fj c (fj c (fj c b))⟩:qC).l (⟨c,fj c (fj c (fj c b))⟩:qC).time:V),[.agg [.int .i64 (yb c b).cw,.int .i64 (yb c b).fX,.bool (yb c b).D3]],.bad):=by
 refine uF ?_;have h0:=gF c (fj c b) (n:=6) ab;have h:gY c (fj c b) 6=0\/gY c (fj c b) 6=1\/gY c (fj c b) 6=2\/gY c (fj c b) 6=3\/gY c (fj c b) 6=4\/gY c (fj c b) 6=5:=ab
 rcases h with h|h|h|h|h|h<;>simp(maxSteps:=10000000)(maxDischargeDepth:=30)[d,h,yb,GD]
def kT(l:List Int)(k:Int)(h:0<=n):((kM l k n).length:Int)<=n:=by
 unfold kM;rw[Fe];have:=gF l k (n:=n+1) ab;omega
def BP(l:List Int)(k:Int):Int:=oY l k 5
def BQ(l:List Int)(k:Int):Int:=oY l (BP l k) 3
def BR(l:List Int)(k:Int):Int:=oY l (BQ l k) 8
def Fh(l:List Int)(k:Int):Int:=oY l (BR l k) 4
def Fi(l:List Int)(k:Int):Int:=oY l (Fh l k) 5
def Qc(l:List Int)(k:Int):Int:=oY l (Fi l k) 5
def wz(l:List Int)(k:Int):dw:=Db [kM l k 5,kM l (BP l k) 3] [kM l (BQ l k) 8,kM l (BR l k) 4] (kM l (Fh l k) 5) (kM l (Fi l k) 5)
@[simp]def Y9(h:fA l k):fA l (Qc l k):=mU (mU (mU (mU (mU (mU h)))))
def Y7(l:List Int)(k:Int):xF (wz l k):=by
 have a1:=kT l k (n:=5) ab;have a2:=kT l (BP l k) (n:=3) ab;have a3:=kT l (BQ l k) (n:=8) ab;have a4:=kT l (BR l k) (n:=4) ab;have a5:=kT l (Fh l k) (n:=5) ab;have a6:=kT l (Fi l k) (n:=5) ab;refine UN ai (fun i h=> ?_) ai (fun i h=> ?_) ab ab
 .have:i=0\/i=1:=aQ
  rcases this with rfl|rfl
  .simp;omega
  .simp;omega
 .have:i=0\/i=1:=aQ
  rcases this with rfl|rfl
  .simp;omega
  .simp;omega
@[simp]def Bu(c:List Int)(b:Int)(d:fA c b):qP X ([]) 66 2 ((pm c b:V)) []=some (2,(pm (⟨c,Qc c b⟩:qC).l (⟨c,Qc c b⟩:qC).time:V),[(xc (wz c b):V)],.bad):=by
 refine uF ?_;have a1:=kT c b (n:=5) ab;have a2:=kT c (BP c b) (n:=3) ab;have a3:=kT c (BQ c b) (n:=8) ab;have a4:=kT c (BR c b) (n:=4) ab;have a5:=kT c (Fh c b) (n:=5) ab;have a6:=kT c (Fi c b) (n:=5) ab;have l:oY c b 5=BP c b:=rfl;have p:oY c (BP c b) 3=BQ c b:=rfl;have x:oY c (BQ c b) 8=BR c b:=rfl;have F:oY c (BR c b) 4=Fh c b:=rfl;have N:oY c (Fh c b) 5=Fi c b:=rfl;have e:oY c (Fi c b) 5=Qc c b:=rfl;have a:fA c (BP c b):=mU d;have j:fA c (BQ c b):=mU a;have q:fA c (BR c b):=mU j;have y:fA c (Fh c b):=mU q;have G:fA c (Fi c b):=mU y;have f: ∀i (h:i< [kM c b 5,kM c (BP c b) 3].length),([kM c b 5,kM c (BP c b) 3][i]).length<=64:=fun i h=>by
  have:i=0\/i=1:=aQ
  rcases this with rfl|rfl
  .simp;omega
  .simp;omega
 have k: ∀i (h:i< [kM c (BQ c b) 8,kM c (BR c b) 4].length),([kM c (BQ c b) 8,kM c (BR c b) 4][i]).length<=64:=fun i h=>by
  have:i=0\/i=1:=aQ
  rcases this with rfl|rfl
  .simp;omega
  .simp;omega
 have key:=JS [kM c b 5,kM c (BP c b) 3] [kM c (BQ c b) 8,kM c (BR c b) 4] (kM c (Fh c b) 5) (kM c (Fi c b) 5) ai f ai k ab ab;simp only[r2,r_,bw]at key;simp[d,a,j,q,y,G,l,p,x,F,N,e,key,wz]
def N8(l:List Int):Int:=l.foldl (fun v c=>v*256+c) 0
def vO(l:List Int):Prop:= ∀x∈l,0<=x/\x<=255
def vO.drop{l:List Int}(h:vO l)(k:Nat):vO (l.drop k):=fun x hx=>h x (t_ hx)
def vO.take{l:List Int}(h:vO l)(k:Nat):vO (l.take k):=fun x hx=>h x (sw hx)
def ut(r:sA)(k:Nat):sA:=if r.b.length<k then⟨[],true⟩ else⟨r.b.drop k,r.short⟩
def xi(r:sA)(k:Nat):Int:=if r.b.length<k then 0 else N8 (r.b.take k)
def NK(r:sA):sA:=ut (ut (ut r 1) 1) 2
def AT(r:sA):Int:=IntKind.u8.wrap (xi r 1)
def NO(r:sA):fd:=if AT r=1 then⟨1,0,xi (ut r 1) 1-1,xi (ut (ut r 1) 1) 2⟩ else⟨AT r,IntKind.u16.wrap (xi (ut (ut r 1) 1) 2),0,0⟩
def NT(r:sA):Bool:=decide (AT r=1)||decide (xi (ut r 1) 1=0)
def Gz:Nat->sA×List fd×Bool->sA×List fd×Bool
 |0,s=>s
 |k+1,s=>if s.1.short=true then s else Gz k (NK s.1,s.2.1++ [NO s.1],s.2.2&&NT s.1)
def Mh(r:sA):sA×List fd×Bool:=Gz (xi r 1).toNat (ut r 1,[],true)
end Go.Proofs.YtdngefmliibcgaaGreat
