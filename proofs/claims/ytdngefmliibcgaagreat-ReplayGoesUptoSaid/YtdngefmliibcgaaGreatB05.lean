import Derived.Test.YtdngefmliibcgaaGreatB04
set_option linter.all false
set_option maxRecDepth 20000
set_option maxHeartbeats 0
namespace Go.Proofs.YtdngefmliibcgaaGreat
open Go Go.Abs Go.Abs.jJ Qf
variable  {ap iG dK:List (List Int)}{l:cO}{i o n:Nat}{md nl q:List Int}{f:cn}{h t iE:Int}{d:List fd}
@[simp]def ard:cG X 133 []=some ((uN ((⟨[-1, -1, -1, -1],[[],[],[],[]]⟩:cO)):V)):=by
 refine ij ?_;simp[eJ];all_goals (first|rfl|exact⟨rfl,rfl,rfl,rfl⟩)
@[simp]def Tc(u:List (List Int))(m:u.length<=1000000000)(hx: ∀i (h:i<u.length),(u[i]).length<=1000000000):cG X 204 [u]=some u:=by
 refine ij ?_;simp;refine dO (fun i S=>(S.f 3= .cX 3 0 (((u.take i).map bw)).length/\S.h 3=some ⟨1,((u.take i).map bw),false⟩/\S.f 6=u/\S.f 7=((u).length:Int)/\S.f 8=(i:Int)/\S.n=1100)/\True) (u.length) ab ?_ ?_ ?_
 .rintro i S ⟨q,O,c⟩ ⟨d,f⟩;have g:=hx i c;have l:min i u.length=i:=ab
  simp[d,O,c,l];all_goals exact j3
 .rintro S ⟨d,f⟩;simp[d]<;>(
   simp)
 .simp<;>(
   simp)
@[simp]def amq(l:List i5)(m:l.length<=1000000000)(hx: ∀i (h:i<l.length),(l[i]).ap.length<=1000000000):cG X 206 [l]=some l:=by
 refine ij ?_;simp;refine dO (fun i S=>(S.f 3= .cX 3 0 (((l.take i).map i5.e)).length/\S.h 3=some ⟨3,((l.take i).map i5.e),false⟩/\S.f 6=l/\S.f 7=((l).length:Int)/\S.f 8=(i:Int)/\S.n=1100)/\True) (l.length) ab ?_ ?_ ?_
 .rintro i S ⟨q,O,c⟩ ⟨d,f⟩;have g:=hx i c;have N:min i l.length=i:=ab
  simp[d,O,c,N];all_goals exact j3
 .rintro S ⟨d,f⟩;simp[d]<;>(
   simp)
 .simp<;>(
   simp)
@[simp]def amr(P:List (List fd))(L:List fR)(l:P.length<=4)(hx: ∀i (h:i<P.length),(P[i]).length<=1000000000)(o:L.length<=1000000000):cG X 205 [sd P L]=some ((vm ((cn.mk P L)):V)):=by
 refine ij ?_;have m:P.length=0\/P.length=1\/P.length=2\/P.length=3\/P.length=4:=ab
 rcases m with h|h|h|h|h
 .obtain rfl:=A_ h;exact k_
 .exact nR
 .exact nQ
 .exact nP
 .exact nL
structure jT (f:cn):Prop where
 ap:f.ap.length<=4
 each: ∀i (h:i<f.ap.length),iH f.ap[i]=true/\(f.ap[i]).length<=64
 iV:f.iV.length=8
 opn: ∀i (h:i<f.iV.length),((f.iV[i]).iE= -1/\(f.iV[i]).iC=0/\(f.iV[i]).write=false)\/
  (∃k,∃g:k<f.ap.length,(f.iV[i]).iE=(k:Int)/\0<=(f.iV[i]).iC/\(f.iV[i]).iC<=(f.ap[k]).length)
@[simp]def aji(b:List (List fd))(L:List fR)(h:jT (cn.mk b L)):cG X 202 [sd b L]=some (.bool true):=by
 refine ij ?_;have h1:b.length<=4:=h.ap;have K:L.length=8:=h.iV;have T:=h.each;have a:=h.opn;simp only at T a;have D: ¬4<(b.length:Int):=ab
 simp[D,K];refine dO (fun i S=>(S.f 1= .ptr 1 0 0/\S.h 1=some ⟨2,[sd b L],true⟩/\S.f 18=b/\S.f 19=((b).length:Int)/\S.f 20=(i:Int)/\S.n=1100)/\True) (b.length) ab ?_ ?_ ?_
 .rintro i S ⟨G,O,c⟩ ⟨d,f⟩;obtain⟨v,E⟩:=T i c;have M:(b[i]).length<=1000000000:=ab
  have g:((b[i]).length:Int)<=64:=ab
  simp[d,O,c,v,M,g]
 .rintro S ⟨d,f⟩;simp[d,K];refine dO (fun j S=>(S.f 1= .ptr 1 0 0/\S.h 1=some ⟨2,[sd b L],true⟩/\S.f 29=L/\S.f 30=((L).length:Int)/\S.f 31=(j:Int)/\S.n=1100)/\True) (L.length) ab ?_ ?_ ?_
  .rintro j S ⟨w,z,P⟩ ⟨m,u⟩;have q:=P;rcases a j q with⟨e,p,x⟩|⟨k,y,e,p,x⟩
   .have l:(-1:Int)<b.length:=ab
    simp[m,z,P,e,p,x,l]
   .have s: ¬(k:Int)= -1:=ab
    have A: ¬(k:Int)< -1:=ab
    have I: ¬(b.length:Int)<=k:=ab
    have Q: ¬(L[j]).iC<0:=ab
    have n: ¬((b[k]).length:Int)<(L[j]).iC:=ab
    simp[m,z,P,y,e,s,A,I,Q,n]
  .rintro S ⟨m,u⟩;simp[m]
  .simp[d]<;>(
    omega)
 .simp<;>(
   trivial)
def Ag(v:Int):fd:=⟨0,v,0,0⟩
def XJ(l:List Int):iH (l.map Ag)=true:=by
 simp[iH,Ag,lZ]
def closed:fR:=⟨-1,0,false⟩
def qI(ap:List (List Int)):cn:=⟨ap.map (·.map Ag),List.replicate 8 closed⟩
def KV(h:ap.length<=4)(hx: ∀i (h:i<ap.length),(ap[i]).length<=64):jT (qI ap):=by
 refine⟨by simpa[qI] using h,fun i j=> ?_,by simp[qI],fun i j=> .inl ?_⟩
 .simp[qI]at j;simp only[qI,uc];exact⟨XJ _,by simpa using hx i j⟩
 .simp only[qI,List.getElem_replicate];exact⟨rfl,rfl,rfl⟩
def vt(l:List (List Int)):List (List fd):=l.map fun d=>d.map Ag
def Z4{l:List (List Int)}(h:i<l.length):vt (l.take (i+1))=vt (l.take i)++ [(l[i]).map Ag]:=by
 unfold vt;rw[kJ h,t2];rfl
def XK(l:List (List Int)):(vt l).length=l.length:=by simp[vt]
def vu(l:List Int):List fd:=l.map Ag
def Pv{l:List Int}(h:i<l.length):vu (l.take (i+1))=vu (l.take i)++ [Ag l[i]]:=by
 unfold vu;rw[kJ h,t2];rfl
def KW(l:List Int):(vu l).length=l.length:=by simp[vu]
def wW:List fR:=[closed,closed,closed,closed,closed,closed,closed,closed]
def Ec(i:Nat):List fR:=List.replicate i closed++List.replicate (8-i) ⟨0,0,false⟩
@[simp]def are(ap:List (List Int))(O:ap.length<=4)(hx: ∀i (h:i<ap.length),(ap[i]).length<=64):cG X 207 [ap]=some (.ed [vm (qI ap),.int .i64 0]):=by
 refine ij ?_;have l:=KV O hx;have eq:qI ap=⟨vt ap,wW⟩:=rfl;rw[eq]at l;rw[eq];simp;refine dO (fun i S=>(S.f 0=ap/\S.f 2= .ptr 2 0 0/\S.h 2=some ⟨2,[sd ([]:List (List fd)) ([]:List fR)],true⟩/\S.f 4= .ptr 4 0 0/\S.h 1000=some ⟨1,(⟨[],Ec i⟩:cn).ap.map bZ,false⟩/\S.h 1001=some ⟨3,(⟨[],Ec i⟩:cn).iV.map fR.e,false⟩/\S.h 4=some ⟨2,[.agg [.cX 1000 0 ((⟨[],Ec i⟩:cn).ap.map bZ).length,.cX 1001 0 ((⟨[],Ec i⟩:cn).iV.map fR.e).length]],true⟩/\S.f 15= .int .i64 (8)/\S.f 16=(i:Int)/\S.n=1102)/\True) (8) ab ?_ ?_ ?_
 .rintro i S ⟨q,p,c⟩ ⟨d,f⟩;have:i=0\/i=1\/i=2\/i=3\/i=4\/i=5\/i=6\/i=7:=ab
  rcases this with rfl|rfl|rfl|rfl|rfl|rfl|rfl|rfl<;>simp[d,c,Ec,closed,fR.cN]<;>rfl
 .rintro S ⟨d,f⟩;have e:Ec 8=wW:=rfl;rw[e]at d;simp[d];refine dO (fun j S=>(S.f 2= .ptr 2 0 0/\S.h 2=some ⟨2,[sd ([]:List (List fd)) ([]:List fR)],true⟩/\S.f 4= .ptr 4 0 0/\S.h 1000=some ⟨1,(⟨vt (ap.take j),wW⟩:cn).ap.map bZ,false⟩/\S.h 1001=some ⟨3,(⟨vt (ap.take j),wW⟩:cn).iV.map fR.e,false⟩/\S.h 4=some ⟨2,[.agg [.cX 1000 0 ((⟨vt (ap.take j),wW⟩:cn).ap.map bZ).length,.cX 1001 0 ((⟨vt (ap.take j),wW⟩:cn).iV.map fR.e).length]],true⟩/\S.f 25=ap/\S.f 26=((ap).length:Int)/\S.f 27=(j:Int)/\S.n=1102)/\True) (ap.length) ab ?_ ?_ ?_
  .rintro j S ⟨M,z,P⟩ ⟨m,u⟩;have x:=hx j P;have T:=Z4 P;have A:(vt (ap.take j)).length=j:=by rw[XK,sr];omega
   simp[m,P];refine dO (fun k S=>(S.f 2= .ptr 2 0 0/\S.h 2=some ⟨2,[sd ([]:List (List fd)) ([]:List fR)],true⟩/\S.f 4= .ptr 4 0 0/\S.h 1000=some ⟨1,(⟨vt (ap.take j),wW⟩:cn).ap.map bZ,false⟩/\S.h 1001=some ⟨3,(⟨vt (ap.take j),wW⟩:cn).iV.map fR.e,false⟩/\S.h 4=some ⟨2,[.agg [.cX 1000 0 ((⟨vt (ap.take j),wW⟩:cn).ap.map bZ).length,.cX 1001 0 ((⟨vt (ap.take j),wW⟩:cn).iV.map fR.e).length]],true⟩/\S.f 8= .cX 8 0 (((vu ((ap[j]).take k)).map fd.e)).length/\S.h 8=some ⟨4,((vu ((ap[j]).take k)).map fd.e),false⟩/\S.f 25=ap/\S.f 26=((ap).length:Int)/\S.f 27=(j:Int)/\S.f 31= .sl false ((ap[j]).map (V.int .u16))/\S.f 32= .int .i64 (((ap[j]).length:Int))/\S.f 33=(k:Int)/\S.n=1102)/\True) ((ap[j]).length) ab ?_ ?_ ?_
   .rintro k S ⟨B,N,o⟩ ⟨E,Y⟩;have g:=Pv o;have w:(vu ((ap[j]).take k)).length=k:=by rw[KW,sr];omega
    simp[E,N,o,g,Ag];all_goals exact i9
   .rintro S ⟨E,Y⟩;simp[z,P,E,T];all_goals exact i9
   .simp[m]<;>(
     first|exact⟨rfl,rfl⟩|rfl)
  .rintro S ⟨m,u⟩;simp[m,l]
  .simp[d]<;>(
    first|exact⟨rfl,rfl⟩|rfl)
 .simp<;>(
   first|exact⟨rfl,rfl⟩|rfl)
def uH(f:cn)(h:Int):Bool:=decide (0<=h)&& (decide (h<f.iV.length)&&decide (¬(f.iV.getD h.toNat closed).iE= -1))
@[simp]def ams(P:List (List fd))(b:List fR)(h:Int):cG X 298 [sd P b,.int .i64 h]=some (.bool (uH (cn.mk P b) h)):=by
 refine ij ?_;by_cases h1:0<=h
 case neg=>simp[h1,uH]
 obtain⟨k,rfl⟩:=jp h1;by_cases K:k<b.length
 case neg=>
  have L: ¬(k:Int)<b.length:=ab
  simp[K,L,uH]
 have L:(k:Int)<b.length:=ab
 by_cases S:(b[k]).iE= -1
 .simp[K,L,S,uH,List.getD]
 .simp[K,L,S,uH,List.getD]
@[simp]def Zc(l:List i5)(m:l.length<=1000000000)(e: ∀i (h:i<l.length),(l[i]).seq=i/\0<=(l[i]).kw/\(l[i]).kw<2/\(l[i]).ap.length<=16):cG X 203 [l]=some (.bool true):=by
 refine ij ?_;simp;refine dO (fun i S=>(S.f 5=l/\S.f 6=((l).length:Int)/\S.f 7=(i:Int)/\S.n=1100)/\True) (l.length) ab ?_ ?_ ?_
 .rintro i S ⟨q,O,c⟩ ⟨d,f⟩;obtain⟨o,H,P,Y⟩:=e i c;have A: ¬(l[i]).kw<0:=ab
  have I: ¬2<=(l[i]).kw:=ab
  have n: ¬16<((l[i]).ap.length:Int):=ab
  simp[d,O,c,o,A,I,n]
 .exact l0
 .simp<;>(
   trivial)
structure xF (o:dw):Prop where
 md:o.md.length<=64
 nl:o.nl.length<=64
 dK:o.dK.length<=2
 input: ∀i (h:i<o.dK.length),(o.dK[i]).length<=64
 iG:jT o.iG
 dT:o.dT.length<=200
 output: ∀i (h:i<o.dT.length),(o.dT[i]).seq=i/\0<=(o.dT[i]).kw/\(o.dT[i]).kw<2/\(o.dT[i]).ap.length<=16/\iH (o.dT[i]).ap=true
@[simp]def BI(d f:List Int)(M:List (List Int))(b:List (List fd))(k:List fR)(c:List i5)(o:xF (dw.mk d f M (cn.mk b k) c)):cG X 130 [xa d f M b k c]=some (.bool true):=by
 refine ij ?_;have h1:d.length<=64:=o.md;have K:f.length<=64:=o.nl;have T:M.length<=2:=o.dK;have a:=o.input;have n:=o.iG;have A:c.length<=200:=o.dT;have y:=o.output;simp only at a n y;have r:(d.length:Int)<=64:=ab
 have L:(f.length:Int)<=64:=ab
 have e:(M.length:Int)<=2:=ab
 have z:(c.length:Int)<=200:=ab
 have l:c.length<=1000000000:=ab
 have G: ∀i (h:i<c.length),(c[i]).seq=i/\0<=(c[i]).kw/\(c[i]).kw<2/\(c[i]).ap.length<=16:=fun i h=>⟨(y i h).1,(y i h).2.1,(y i h).2.2.1,(y i h).2.2.2.1⟩;simp;refine dO (fun i S=>(S.f 1= .ptr 1 0 0/\S.h 1=some ⟨6,[xa d f M b k c],true⟩/\S.f 8=M/\S.f 9=((M).length:Int)/\S.f 10=(i:Int)/\S.n=1100)/\True) (M.length) ab ?_ ?_ ?_
 .rintro i S ⟨s,O,p⟩ ⟨N,I⟩;have g:=a i p;have D: ¬64<((M[i]).length:Int):=ab
  simp[N,O,p,D]
 .rintro S ⟨N,I⟩;simp[N];refine dO (fun j S=>(S.f 1= .ptr 1 0 0/\S.h 1=some ⟨6,[xa d f M b k c],true⟩/\S.f 19=c/\S.f 20=((c).length:Int)/\S.f 21=(j:Int)/\S.n=1100)/\True) (c.length) ab ?_ ?_ ?_
  .rintro j S ⟨x,Y,P⟩ ⟨m,u⟩;obtain⟨Q,V,w,v,t⟩:=y j P;have B:(c[j]).ap.length<=1000000000:=ab
   have q:((c[j]).ap.length:Int)<=16:=ab
   simp[m,Y,P,t,B,q]
  .rintro S ⟨m,u⟩;simp[m,r,L,e,n,z,l,G]
  .simp[N]<;>(
    trivial)
 .simp<;>(
   trivial)
@[simp]def amt(d S:List Int)(M:List (List Int))(b:List (List fd))(N:List fR)(c:List i5)(o:xF (dw.mk d S M (cn.mk b N) c)):cG X 132 [xa d S M b N c]=some ((xc ((dw.mk d S M (cn.mk b N) c)):V)):=by
 refine ij ?_;have h1:d.length<=64:=o.md;have K:S.length<=64:=o.nl;have T:M.length<=2:=o.dK;have a:=o.input;have j:=o.iG;have q:c.length<=200:=o.dT;have y:=o.output;simp only at a j y;have p:b.length<=4:=j.ap;have w:N.length=8:=j.iV;have f:=j.each;simp only at f;have a1:M.length<=1000000000:=ab
 have a2: ∀i (h:i<M.length),(M[i]).length<=1000000000:=fun i h=>by have:=a i h;omega
 have a3: ∀i (h:i<b.length),(b[i]).length<=1000000000:=fun i h=>by have:=(f i h).2;omega
 have a4:N.length<=1000000000:=ab
 have a5:c.length<=1000000000:=ab
 have a6: ∀i (h:i<c.length),(c[i]).ap.length<=1000000000:=fun i h=>by have:=(y i h).2.2.2.1;omega
 simp[a1,a2,a3,a4,a5,a6,p];try omega
@[simp]def ajj(n:Int)(ok:Bool):cG X 254 [n,ok]=some ((AE ((⟨⟨0,if ok=true then IntKind.u16.wrap n else 65535,0,0⟩,[], -1,false⟩:eI)):V)):=by
 refine ij ?_;have h:IntKind.u16.wrap 65535=65535:=aG
 cases ok<;>simp[h]
@[simp]def amu(call:Int):cG X 278 [call]=some (.bool (decide ((1<=call/\call<=7)\/call=13\/call=14))):=by
 refine ij ?_;by_cases h1:1<=call
 .by_cases K:call<=7
  .simp[h1,K]
  .simp[h1,K];by_cases h:call=13<;>simp[h]
 .simp[h1];by_cases h:call=13<;>simp[h]
def Db(iG dK:List (List Int))(md nl:List Int):dw:=⟨md,nl,dK,qI iG,[]⟩
def UN   (h1:iG.length<=4) (K: ∀i (h:i<iG.length),(iG[i]).length<=64) (S:dK.length<=2) (a: ∀i (h:i<dK.length),(dK[i]).length<=64)
  (j:md.length<=64) (q:nl.length<=64):xF (Db iG dK md nl):=
 ⟨j,q,S,a,KV h1 K,by simp[Db],fun i h=>by simp[Db]at h⟩
@[simp]def JS(iG dK:List (List Int))(md nl:List Int)(h1:iG.length<=4)(K: ∀i (h:i<iG.length),(iG[i]).length<=64)(S:dK.length<=2)(a: ∀i (h:i<dK.length),(dK[i]).length<=64)(j:md.length<=64)(q:nl.length<=64):cG X 134 [iG,dK,.sl false (md.map (V.int .u16)),.sl false (nl.map (V.int .u16))]=some (.ed [xc (Db iG dK md nl),.int .i64 0]):=by
 refine ij ?_;have l:=UN h1 K S a j q;have a1:dK.length<=1000000000:=ab
 have a2: ∀i (h:i<dK.length),(dK[i]).length<=1000000000:=fun i h=>by have:=a i h;omega
 have eq:Db iG dK md nl=⟨md,nl,dK,⟨(qI iG).ap,(qI iG).iV⟩,[]⟩:=rfl;rw[eq]at l;rw[eq];have key:=BI md nl dK (qI iG).ap (qI iG).iV [] l;simp only[r_]at key;simp[h1,K,a1,a2,key];try omega
@[simp]def bpt(P:List (List fd))(L:List fR)(l:P.length<=4)(hx: ∀i (h:i<P.length),(P[i]).length<=1000000000)(o:L.length<=1000000000):mh X [(0,1,301)] 205 [sd P L]=some ((sd P L:V)):=by
 refine tS ?_;have m:P.length=0\/P.length=1\/P.length=2\/P.length=3\/P.length=4:=ab
 rcases m with h|h|h|h|h
 .obtain rfl:=A_ h;exact k_
 .exact nR
 .exact nQ
 .exact nP
 .exact nL
@[simp]def bpu(P:List (List fd))(L:List fR)(l:P.length<=4)(hx: ∀i (h:i<P.length),(P[i]).length<=1000000000)(o:L.length<=1000000000):mh X [(0,0,57),(0,1,301)] 205 [sd P L]=some ((sd P L:V)):=by
 refine tS ?_;have m:P.length=0\/P.length=1\/P.length=2\/P.length=3\/P.length=4:=ab
 rcases m with h|h|h|h|h
 .obtain rfl:=A_ h;exact k_
 .exact nR
 .exact nQ
 .exact nP
 .exact nL
def sC(f:cn)(h:Int):cn×Bool:=if uH f h=true then(⟨f.ap,f.iV.set h.toNat closed⟩,true) else(f,false)
structure R1 (f:cn):Prop where
 ap:f.ap.length<=4
 each: ∀i (h:i<f.ap.length),(f.ap[i]).length<=1000000000
 iV:f.iV.length<=1000000000
def jT.lens(h:jT f):R1 f:=⟨h.ap,fun i g=>by have:=(h.each i g).2;omega,by have:=h.iV;omega⟩
def Pw(o:uH f h=true): ∃k:Nat,h=k/\ ∃g:k<f.iV.length,¬(f.iV[k]).iE= -1:=by
 unfold uH at o;simp only[X8,decide_eq_true_eq]at o;obtain⟨h1,K,S⟩:=o;have y:h.toNat<f.iV.length:=ab
 refine⟨h.toNat,ab,y,?_⟩;simpa[List.getD,y] using S
@[simp]def ajk(P:List (List fd))(b:List fR)(h:Int)(K:jT (cn.mk P b)):cG X 283 [sd P b,.int .i64 h]=some (.ed [vm ((sC (cn.mk P b) h).1),.bool ((sC (cn.mk P b) h).2)]):=by
 refine ij ?_;have G:=K.lens;have g:P.length<=4:=G.ap;have l:=G.each;have u:b.length<=1000000000:=G.iV;simp only at l;cases o:uH (cn.mk P b) h with
 |false=>
  have e:sC (cn.mk P b) h=((cn.mk P b),false):=by unfold sC;rw[if_neg (by simp[o])]
  rw[e];simp[g,l,u,o]
 |true=>
  have e:sC (cn.mk P b) h=(⟨P,b.set h.toNat closed⟩,true):=by unfold sC;rw[if_pos o]
  rw[e];obtain⟨k,rfl,y,_⟩:=Pw o;simp only at y;have c:fR.e closed= .agg [.int .i64 (-1),.int .i64 0,.bool false]:=rfl;simp[g,l,u,o,y];rw[show(b[k].e.put 0 (V.agg [.int .i64 (-1),.int .i64 0,.bool false]))=fR.e closed from rfl,<-List.map_set (f:=fR.e),bQ ai,xq,sB];try rfl
@[simp]def a3e(hx:bI)(l:List Int):di (l.map (da hx 12∘V.int .i64))=some (l.map (V.int .i64)):=qQ (fun _=>rfl) l
def Io(l:List Int):ft (l.map (V.int .i64))=l.map (V.int .i64):=tC (fun _=>rfl) l
def af0(x:List Int)(n:Nat)(v:V):(dC x).put n v=v:=rfl
def Px: ∀(S l:List Int),l.Nodup->(∀x∈l,x∈S)->l.length<=S.length
 |S,[],_,_=>ai
 |S,a::l,h,s=>by
  have W:=List.nodup_cons.1 h;have X:=s a ai;have:=Px (S.erase a) l W.2 fun x hx=>by
   have n:x≠a:=fun e=>W.1 (e▸hx);exact(List.mem_erase_of_ne n).2 (s x (by simp[hx]))
  rw[List.length_erase_of_mem X]at this;have:0<S.length:=List.length_pos_of_mem X;simp only[s9];omega
structure Ed (q:List Int):Prop where
 nodup:q.Nodup
 range: ∀x∈q,0<=x/\x<4
def Ed.len(h:Ed q):q.length<=4:=Px [0,1,2,3] q h.nodup fun x hx=>by
 have:=h.range x hx;have:x=0\/x=1\/x=2\/x=3:=ab
 exact ns
structure iN (l:cO):Prop where
 Ch:l.pl.length=4
 Ci:l.i4.length=4
 pl: ∀i (h:i<l.pl.length), -1<=l.pl[i]/\l.pl[i]<4
 i4: ∀i (h:i<l.i4.length),Ed l.i4[i]
def iN.lens(h:iN l):l.pl.length<=1000000000/\ ∀i (g:i<l.i4.length),(l.i4[i]).length<=1000000000:=
 ⟨by rw[h.Ch];omega,fun i g=>by have:=(h.i4 i g).len;omega⟩
def iN.set{l:cO}(h:iN l){k:Nat}{o:Int}(e: -1<=o/\o<4){q:List Int}(u:Ed q):iN ⟨l.pl.set k o,l.i4.set k q⟩:=by
 refine⟨by simp[h.Ch],by simp[h.Ci],fun i g=> ?_,fun i g=> ?_⟩
 .simp only[rm]at g;simp only[r6];split
  .exact e
  .exact h.pl i g
 .simp only[rm]at g;simp only[r6];split
  .exact u
  .exact h.i4 i g
def eY(l:cO)(i8 t:Int):cO×Int×Bool:=
 if i8<0\/4<=i8\/ ¬nth l.pl i8.toNat=t then(l, -1,false)
 else match l.i4.getD i8.toNat [] with
  | []=>(⟨l.pl.set i8.toNat (-1),l.i4⟩, -1,true)
  |x::r=>(⟨l.pl.set i8.toNat x,l.i4.set i8.toNat r⟩,x,true)
def xG(h:iN l)(i8 t:Int):iN (eY l i8 t).1/\ -1<=(eY l i8 t).2.1/\(eY l i8 t).2.1<4:=by
 unfold eY;split
 .exact⟨h,ai⟩
 .rename_i c;have z:i8.toNat<l.i4.length:=by have:=h.Ci;omega
  have q:=h.i4 _ z;have e:l.i4.getD i8.toNat []=l.i4[i8.toNat]:=by simp[List.getD,z]
  rw[e];split
  .rename_i p;have:=h.set (k:=i8.toNat) (o:= -1) ab q;rw[xK]at this;exact⟨this,ai⟩
  .rename_i x r p;rw[p]at q;have hx:=q.range x ai;exact⟨h.set ab ⟨(List.nodup_cons.1 q.nodup).2,fun y G=>q.range y (by simp[G])⟩,aB⟩
def vw(l:cO)(t:Int):Bool:=l.i4.any fun q=>q.contains t
def qD(l:cO)(i8 t:Int):cO×Int:=
 if i8<0\/4<=i8\/nth l.pl i8.toNat=t then(l,2)
 else if vw l t=true then(l,2)
 else if nth l.pl i8.toNat= -1 then(⟨l.pl.set i8.toNat t,l.i4⟩,0)
 else(⟨l.pl,l.i4.set i8.toNat (l.i4.getD i8.toNat []++ [t])⟩,1)
def Py(h:iN l)(i8:Int)(S:0<=t/\t<4):iN (qD l i8 t).1:=by
 unfold qD;split
 .exact h
 rename_i c;have y:i8.toNat<l.i4.length:=by have:=h.Ci;omega
 have s:i8.toNat<l.pl.length:=by have:=h.Ch;omega
 have u:=h.i4 _ y;split
 .exact h
 rename_i n;split
 .have:=h.set (k:=i8.toNat) (o:=t) ab u;rw[xK]at this;exact this
 .have e:l.i4.getD i8.toNat []=l.i4[i8.toNat]:=gg
  rw[e];have J:t∉l.i4[i8.toNat]:=fun m=>n (by
   unfold vw;rw[C4];exact⟨_,rx y,by simpa using m⟩)
  have:=h.set (k:=i8.toNat) (h.pl _ s) (q:=l.i4[i8.toNat]++ [t]) ⟨by
   rw[List.nodup_append];refine⟨u.nodup,ai,fun a W b f=> ?_⟩;simp only[z5]at f;subst f;exact fun e=>J (e▸W),fun x hx=>by
   rcases List.mem_append.1 hx with hx|hx
   .exact u.range x hx
   .simp only[z5]at hx;subst hx;exact S⟩
  rw[xK]at this;exact this
def rP(q:List Int)(t:Int):List Int:=q.filter fun x=>decide (¬x=t)
def XL(h:i<q.length)(hx: ¬q[i]=t):rP (q.take (i+1)) t=rP (q.take i) t++ [q[i]]:=by
 unfold rP;rw[kJ h,z6];simp[hx]
def af1(h:i<q.length)(hx:q[i]=t):rP (q.take (i+1)) t=rP (q.take i) t:=by
 unfold rP;rw[kJ h,z6];simp[hx]
def XM(q:List Int)(t:Int):(rP q t).length<=q.length:=List.length_filter_le ..
def af2(h:Ed q)(t:Int):Ed (rP q t):=⟨h.nodup.sublist List.filter_sublist,fun x hx=>h.range x (List.mem_filter.1 hx).1⟩
def fP(l:cO)(t:Int):Nat->cO×List Int
 |0=>(⟨l.pl,l.i4.map fun q=>rP q t⟩,[])
 |i+1=>((eY (fP l t i).1 i t).1,if(eY (fP l t i).1 i t).2.2=true/\0<=(eY (fP l t i).1 i t).2.1 then(fP l t i).2++ [(eY (fP l t i).1 i t).2.1] else(fP l t i).2)
def u6{l:cO}(h:iN l)(t:Int): ∀i,iN (fP l t i).1/\(fP l t i).2.length<=i/\ ∀x∈ (fP l t i).2,0<=x/\x<4
 |0=>⟨⟨h.Ch,by simp[fP,h.Ci],h.pl,fun i j=>by
   simp only[fP,r9]at j;simp only[fP,uc];exact af2 (h.i4 i j) t⟩,by simp[fP],fun x hx=>by cases hx⟩
 |i+1=>by
  obtain⟨h1,K,S⟩:=u6 h t i;obtain⟨g,D,L⟩:=xG h1 i t;refine⟨g,?_,?_⟩
  .unfold fP;simp only;split
   .simp;omega
   .omega
  .unfold fP;simp only;split
   .rename_i c;intro x hx;rcases List.mem_append.1 hx with hx|hx
    .exact S x hx
    .simp only[z5]at hx;subst hx;omega
   .exact S
@[simp]def bpw(D:List Int)(m:List (List Int))(q:m.length=4)(o:D.length<=1000000000)(hx: ∀i (h:i<m.length),(m[i]).length<=1000000000):mh X [(0,0,3),(0,1,22)] 253 [up D m]=some ((uN ((cO.mk D m)):V)):=by
 exact lj
@[simp]def bpx(D:List Int)(m:List (List Int))(q:m.length=4)(o:D.length<=1000000000)(hx: ∀i (h:i<m.length),(m[i]).length<=1000000000):mh X [(0,1,22)] 253 [up D m]=some ((uN ((cO.mk D m)):V)):=by
 exact lj
@[simp]def Dc(D:List Int)(c:List (List Int))(i8 t:Int)(h:iN (cO.mk D c)):cG X 208 [up D c,.int .i64 i8,.int .i64 t]=some (.ed [uN ((eY (cO.mk D c) i8 t).1),.int .i64 ((eY (cO.mk D c) i8 t).2.1),.bool ((eY (cO.mk D c) i8 t).2.2)]):=by
 refine ij ?_;have h1:D.length=4:=h.Ch;have K:c.length=4:=h.Ci;obtain⟨S,a⟩:=h.lens;simp only at S a;have E:List.take 4 (D.map (V.int .i64))=D.map (V.int .i64):=bQ aA;have M:List.take 4 (c.map dC)=c.map dC:=bQ aA;have W: ∀(k:Nat) (v:V),List.take 4 ((D.map (V.int .i64)).set k v)=(D.map (V.int .i64)).set k v:=fun k v=>bQ aA;have o: ∀(k:Nat) (v:V),List.take 4 ((c.map dC).set k v)=(c.map dC).set k v:=fun k v=>bQ aA;have d: ∀(k:Nat) (x:Int),ft ((D.map (V.int .i64)).set k (V.int .i64 x))=(D.map (V.int .i64)).set k (V.int .i64 x):=fun k x=>by rw[<-List.map_set,Io]
 have s: ∀(k:Nat) (r:List Int),ft ((c.map dC).set k (V.sl false (r.map (V.int .i64))))=(c.map dC).set k (V.sl false (r.map (V.int .i64))):=fun k r=>by rw[<-kS,<-List.map_set,KG]
 by_cases T:i8<0
 .have e:eY (cO.mk D c) i8 t=((cO.mk D c), -1,false):=by unfold eY;rw[if_pos (.inl T)]
  rw[e];simp[h1,K,a,T,E,M]
 by_cases f:4<=i8
 .have e:eY (cO.mk D c) i8 t=((cO.mk D c), -1,false):=by unfold eY;rw[if_pos (.inr (.inl f))]
  rw[e];simp[h1,K,a,T,f,E,M]
 obtain⟨k,rfl⟩:=jp (show 0<=i8 from ab);have k1:k<4:=ab
 have k2:(k:Int)<4:=ab
 have k3:k<D.length:=ab
 have w:k<c.length:=ab
 have Y:nth D (k:Int).toNat=D[k]:=by rw[X7,dA k3]
 by_cases j:D[k]=t
 case neg=>
  have e:eY (cO.mk D c) k t=((cO.mk D c), -1,false):=by unfold eY;rw[if_pos (.inr (.inr (by rw[Y];exact j)))]
  rw[e];simp[h1,K,a,T,f,k1,k2,j,E,M]
 have g:c.getD (k:Int).toNat []=c[k]:=by simp[List.getD,w]
 have n:=eq_true j;cases q:c[k] with
 |nil=>
  have e:eY (cO.mk D c) k t=(⟨D.set k (-1),c⟩, -1,true):=eo
  have b:True:=trivial;rw[e];simp[h1,K,a,T,f,k1,k2,n,q,M,W,d,kS]
 |cons x r=>
  have e:eY (cO.mk D c) k t=(⟨D.set k x,c.set k r⟩,x,true):=eo
  have b:(1:Int)<=(r.length:Int)+1:=ab
  have C:r.length<=4:=by have:=(h.i4 k w).len;simp only[q,s9]at this;omega
  rw[e];simp[h1,K,a,T,f,k1,k2,n,q,W,o,d,s,kS,b]
def Mp(x:i5):(i5.e x).l6=i5.e x:=by
 simp[i5.cN,V.l6,ft]
@[simp]def arf(hx:bI)(l:List i5):di (l.map (da hx 12∘i5.e))=some (l.map i5.e):=qQ (fun _=>rfl) l
@[simp]def Pz(l:List i5):ft (l.map i5.e)=l.map i5.e:=tC Mp l
@[simp]def bpz(l:List i5)(m:l.length<=1000000000)(hx: ∀i (h:i<l.length),(l[i]).ap.length<=1000000000):mh X [(0,0,254)] 206 [l]=some l:=by
 refine tS ?_;simp;refine dO (fun i S=>(S.f 3= .cX 3 0 (((l.take i).map i5.e)).length/\S.h 3=some ⟨3,((l.take i).map i5.e),false⟩/\S.f 6=l/\S.f 7=((l).length:Int)/\S.f 8=(i:Int)/\S.n=1100)/\True) (l.length) ab ?_ ?_ ?_
 .rintro i S ⟨q,O,c⟩ ⟨d,f⟩;have g:=hx i c;have N:min i l.length=i:=ab
  simp[d,O,c,N];all_goals exact j3
 .exact l0
 .simp<;>(
   simp)
def sZ(l:List i5)(kw:Int)(ap:List fd):Bool:=decide (0<=kw)&& (decide (kw<2)&& (decide (l.length<200)&&decide (ap.length<=16)))
@[simp]def amv(l:List i5)(kw:Int)(ap:List fd)(O:l.length<=1000000000)(d:ap.length<=1000000000)(hx: ∀i (h:i<l.length),(l[i]).ap.length<=1000000000):cG X 285 [l,kw,ap]=some (.ed [.sl false (((if sZ l kw ap=true then l++ [⟨l.length,kw,ap⟩] else l:List i5)).map i5.e),.int .i64 (if sZ l kw ap=true then(ap.length:Int) else 0),.bool (sZ l kw ap)]):=by
 refine ij ?_;by_cases h1:0<=kw
 case neg=>
  have e:sZ l kw ap=false:=by simp[sZ,h1]
  simp[h1,O,hx,e]
 by_cases K:kw<2
 case neg=>
  have e:sZ l kw ap=false:=by simp[sZ,K]
  simp[h1,K,O,hx,e]
 by_cases S:(l.length:Int)<200
 case neg=>
  have U: ¬l.length<200:=ab
  have e:sZ l kw ap=false:=by simp[sZ,U]
  have m:(200:Int)<=l.length:=ab
  simp[h1,K,m,O,hx,e];try omega
 have U:l.length<200:=ab
 by_cases a:(ap.length:Int)<=16
 case neg=>
  have n: ¬ap.length<=16:=ab
  have e:sZ l kw ap=false:=by simp[sZ,n]
  have T:(16:Int)<ap.length:=ab
  have m: ¬(200:Int)<=l.length:=ab
  simp[h1,K,m,T,O,hx,e];try omega
 have n:ap.length<=16:=ab
 have e:sZ l kw ap=true:=by simp[sZ,h1,K,U,n]
 have m: ¬(200:Int)<=l.length:=ab
 have T: ¬(16:Int)<ap.length:=ab
 have f:ft (List.take (l.length+1) (List.map i5.e l++ [i5.e ⟨l.length,kw,ap⟩]))=List.map i5.e l++ [i5.e ⟨l.length,kw,ap⟩]:=by
  rw[bQ ai,show List.map i5.e l++ [i5.e ⟨l.length,kw,ap⟩]=(l++ [(⟨l.length,kw,ap⟩:i5)]).map i5.e from ai,Pz]
 simp[h1,K,m,T,O,hx,e];all_goals ((repeat' (first|apply And.intro|intro _))<;>first|omega|exact f|rfl)
def E4(l:List fR):Nat:=l.findIdx fun o=>decide (o.iE= -1)
def PA(l:List fR):E4 l<=l.length:=List.findIdx_le_length
def Ah(iE:Int)(o:fR):fR:=if o.iE=iE then⟨o.iE,0,o.write⟩ else o
def yL(f:cn)(iE:Int):cn:=⟨f.ap.set iE.toNat [],f.iV.map (Ah iE)⟩
def xH(f:cn)(iE m:Int):cn:=if m=1 then yL f iE else f
def pH(f:cn)(iE m:Int):cn×Int:=
 if iE<0\/(f.ap.length:Int)<=iE\/m<0\/2<m\/E4 f.iV=f.iV.length then(f, -1)
 else(⟨(xH f iE m).ap,(xH f iE m).iV.set (E4 f.iV) ⟨iE,if m=2 then(((f.ap.getD iE.toNat []).length:Nat):Int) else 0,decide (0<m)⟩⟩,E4 f.iV)
def XN(h:jT f)(h0:0<=iE):jT (yL f iE):=by
 have d:=h.ap;refine⟨by simpa[yL] using d,fun i j=> ?_,by simp[yL,h.iV],fun i j=> ?_⟩
 .simp only[yL,rm]at j;simp only[yL,r6];split
  .exact⟨rfl,ai⟩
  .exact h.each i j
 .simp only[yL,r9]at j;simp only[yL,uc];unfold Ah;rcases h.opn i j with⟨l,p,x⟩|⟨k,y,l,p,x⟩
  .left;split
   .exact⟨l,rfl,x⟩
   .exact⟨l,p,x⟩
  .right;refine⟨k,by simpa using y,?_⟩;split
   .exact⟨l,ai,aB⟩
   .rename_i K;refine⟨l,p,?_⟩;have: ¬iE.toNat=k:=fun e=>K ab;simp only[r6,this,if_false];exact x
def af3(h:jT f)(h0:0<=iE)(m:Int):jT (xH f iE m):=by
 unfold xH;split
 .exact XN h h0
 .exact h
def XO(f:cn)(iE m:Int):(xH f iE m).ap.length=f.ap.length/\(xH f iE m).iV.length=f.iV.length:=by
 unfold xH;split
 .simp[yL]
 .exact⟨rfl,rfl⟩
def Dd(h:jT f)(k:Nat){o:fR}(e:(o.iE= -1/\o.iC=0/\o.write=false)\/(∃j,∃g:j<f.ap.length,o.iE=(j:Int)/\0<=o.iC/\o.iC<=(f.ap[j]).length)):jT ⟨f.ap,f.iV.set k o⟩:=by
 refine⟨h.ap,h.each,by simp[h.iV],fun i l=> ?_⟩;simp only[rm]at l;simp only[r6];split
 .exact e
 .exact h.opn i l
def af4(h:jT f)(iE m:Int):jT (pH f iE m).1/\ -1<=(pH f iE m).2/\(pH f iE m).2<=8:=by
 have G:=PA f.iV;have H:=h.iV;unfold pH;split
 .exact⟨h,ai⟩
 rename_i c;refine⟨?_,aB⟩;have O:=af3 h (iE:=iE) ab m;obtain⟨l,n⟩:=XO f iE m;refine Dd O _ (.inr ⟨iE.toNat,eW,aB,?_,?_⟩)
 .simp only;split<;>omega
 .simp only;split
  .rename_i K;have k:iE.toNat<f.ap.length:=ab
   have e:xH f iE m=f:=by unfold xH;rw[if_neg ab]
   simp[e,List.getD,k]
  .omega
def s7(f:cn)(h iC:Int):cn×Bool:=
 if uH f h=true then
  if 0<=iC/\iC<=(f.ap.getD (f.iV.getD h.toNat closed).iE.toNat []).length then
   (⟨f.ap,f.iV.set h.toNat ⟨(f.iV.getD h.toNat closed).iE,iC,(f.iV.getD h.toNat closed).write⟩⟩,true) else(f,false)
 else(f,false)
def sD(f:cn)(h:Int):fR:=f.iV.getD h.toNat closed
def Ip(f:cn)(h:Int):List fd:=f.ap.getD (sD f h).iE.toNat []
def rQ(K:jT f)(o:uH f h=true): ∃k:Nat,h=k/\ ∃g:k<f.iV.length,∃j,∃D:j<f.ap.length,sD f h=f.iV[k]/\Ip f h=f.ap[j]/\(f.iV[k]).iE=(j:Int)/\0<=(f.iV[k]).iC/\(f.iV[k]).iC<=(f.ap[j]).length:=by
 obtain⟨k,rfl,y,n⟩:=Pw o;rcases K.opn k y with⟨i,_,_⟩|⟨j,q,i,p,x⟩
 .exact absurd i n
 .have e:sD f k=f.iV[k]:=by simp[sD,List.getD,y]
  refine⟨k,rfl,y,j,q,e,?_,i,p,x⟩;unfold Ip;rw[e,i];simp[List.getD,q]
def af5(K:jT f)(h iC:Int):jT (s7 f h iC).1:=by
 unfold s7;split
 .rename_i o;obtain⟨k,rfl,y,j,q,i,p,e,F,N⟩:=rQ K o;split
  .rename_i c;have B:0<=iC/\iC<=(Ip f k).length:=c;rw[p]at B;refine Dd K _ (.inr ⟨j,q,?_,B⟩);simp only;have:f.iV.getD (k:Int).toNat closed=f.iV[k]:=i;rw[this,e]
  .exact K
 .exact K
def BJ(f:cn)(h n:Int):Int:=if(Ip f h).length-(sD f h).iC<n then(Ip f h).length-(sD f h).iC else n
def oJ(f:cn)(h n:Int):cn×List fd×Bool:=
 if uH f h=true/\0<=n/\(sD f h).write=false then
  (⟨f.ap,f.iV.set h.toNat ⟨(sD f h).iE,(sD f h).iC+BJ f h n,(sD f h).write⟩⟩,((Ip f h).drop (sD f h).iC.toNat).take (BJ f h n).toNat,true)
 else(f,[],false)
def PB(K:jT f)(h n:Int):jT (oJ f h n).1/\(oJ f h n).2.1.length<=64/\iH (oJ f h n).2.1=true:=by
 unfold oJ;split
 .rename_i c;obtain⟨o,W,w⟩:=c;obtain⟨k,rfl,z,j,q,i,e,y,F,N⟩:=rQ K o;have d:=K.each j q;refine⟨Dd K _ (.inr ⟨j,q,?_,?_,?_⟩),?_,?_⟩
  .simp only;rw[i,y]
  .simp only;unfold BJ;rw[i,e];split<;>omega
  .simp only;unfold BJ;rw[i,e];split<;>omega
  .simp only[sr,xB,e];omega
  .have:=d.1;unfold iH at this⊢;rw[rZ]at this⊢;intro x hx;simp only at hx;rw[e]at hx;exact this x (t_ (sw hx))
 .exact⟨K,ai,rfl⟩
def sE(f:cn)(h:Int)(l:List fd):Int:=if 64-(sD f h).iC<l.length then 64-(sD f h).iC else l.length
def lO(d l:List fd)(o n:Nat):List fd:=d.take o++l.take n++d.drop (o+n)
def nZ(f:cn)(h:Int)(l:List fd):cn×Int×Bool:=
 if uH f h=true/\(sD f h).write=true/\iH l=true then
  (⟨f.ap.set (sD f h).iE.toNat (lO (Ip f h) l (sD f h).iC.toNat (sE f h l).toNat),f.iV.set h.toNat ⟨(sD f h).iE,(sD f h).iC+sE f h l,(sD f h).write⟩⟩,sE f h l,true)
 else(f,0,false)
def yM{l:List fd}(h:o<=d.length)(W:n<=l.length):(lO d l o n).length=if d.length<o+n then o+n else d.length:=by
 unfold lO;simp;split<;>omega
def Td{l:List fd}(h:iH d=true)(W:iH l=true):iH (lO d l o n)=true:=by
 unfold iH lO at*;rw[rZ]at h W⊢;intro x hx;simp only[zC]at hx;rcases hx with(hx|hx)|hx
 .exact h x (sw hx)
 .exact W x (sw hx)
 .exact h x (t_ hx)
def VG(h:jT f)(k:Nat)(u:iH d=true)(q:d.length<=64)(G: ∀g:k<f.ap.length,(f.ap[k]).length<=d.length):jT ⟨f.ap.set k d,f.iV⟩:=by
 refine⟨by simpa using h.ap,fun i l=> ?_,h.iV,fun i l=> ?_⟩
 .simp only[rm]at l;simp only[r6];split
  .exact⟨u,q⟩
  .exact h.each i l
 .rcases h.opn i l with e|⟨j,r,m,p,x⟩
  .exact .inl e
  .refine .inr ⟨j,by simpa using r,m,p,?_⟩;simp only[r6];split
   .rename_i e;subst e;have:=G r;omega
   .exact x
def XP(K:jT f)(h:Int)(l:List fd):jT (nZ f h l).1:=by
 unfold nZ;split
 .rename_i c;obtain⟨g,w,G⟩:=c;obtain⟨k,rfl,y,j,q,i,r,x,F,N⟩:=rQ K g;have u:=K.each j q;have e:=yM (d:=f.ap[j]) (l:=l) (o:=(f.iV[k]).iC.toNat) (n:=(sE f k l).toNat) ab gC;have W:0<=sE f k l/\sE f k l<=64-(f.iV[k]).iC:=gC
  have p:(f.iV[k]).iC+sE f k l<=(lO (f.ap[j]) l (f.iV[k]).iC.toNat (sE f k l).toNat).length:=fC
  have Z:(f.ap[j]).length<=(lO (f.ap[j]) l (f.iV[k]).iC.toNat (sE f k l).toNat).length:=fC
  have a:(lO (f.ap[j]) l (f.iV[k]).iC.toNat (sE f k l).toNat).length<=64:=fC
  rw[i,r,x];have h1:=VG K j (Td u.1 G) a (fun _=>Z);simp only[X7];refine Dd h1 _ (.inr ⟨j,by simpa using q,rfl,aB,?_⟩);simp only[y3];exact p
 .exact K
def E5(l:List Int)(n:Int):Int:=if(l.length:Int)<n then l.length else n
def oq(i:List (List Int))(kw n:Int):List (List Int)×List fd×Bool:=
 if kw<0\/(i.length:Int)<=kw\/n<0 then(i,[],false)
 else(i.set kw.toNat ((i.getD kw.toNat []).drop (E5 (i.getD kw.toNat []) n).toNat),((i.getD kw.toNat []).take (E5 (i.getD kw.toNat []) n).toNat).map Ag,true)
def Q8{q:List (List Int)}(h:i<q.length):((q.take (i+1)).any fun x=>x.contains t)=(((q.take i).any fun x=>x.contains t)||(q[i]).contains t):=by
 rw[kJ h,List.any_append];simp only[List.any_cons,List.any_nil,Bool.or_false]
def V0(h:i<q.length):(q.take (i+1)).contains t=((q.take i).contains t||decide (t=q[i])):=by
 rw[kJ h];simp only[List.contains_eq_mem,zC,z5,Bool.decide_or]
@[simp]def ZC(D:List Int)(m:List (List Int))(k:Nat)(q:m.length=4)(p:D.length<=1000000000)(hx: ∀i (h:i<m.length),(m[i]).length<=1000000000): ∃h',df X 253 [up D m] mg k=some (.agg [.cX (k+4) 0 D.length,.cX (k+63) 0 4],h',k+71)/\h' (k+4)=some ⟨1,D.map (V.int .i64),false⟩/\h' (k+63)=some ⟨1,[.cX (k+19) 0 (m[0]' ab).length,.cX (k+33) 0 (m[1]' ab).length,.cX (k+47) 0 (m[2]' ab).length,.cX (k+61) 0 (m[3]' ab).length],true⟩/\h' (k+19)=some ⟨1,(m[0]' ab).map (V.int .i64),false⟩/\h' (k+33)=some ⟨1,(m[1]' ab).map (V.int .i64),false⟩/\h' (k+47)=some ⟨1,(m[2]' ab).map (V.int .i64),false⟩/\h' (k+61)=some ⟨1,(m[3]' ab).map (V.int .i64),false⟩:=by
 obtain⟨a,b,c,d,rfl⟩:=JK q;have W:=hx 0 ai;have f:=hx 1 ai;have o:=hx 2 ai;have u:=hx 3 ai;simp at W f o u;obtain⟨v,h',n',e,w,E,L,T,l,j,r,z⟩:=bJ (X:=X) (g:=253) (args:=[(up D ([a,b,c,d]:List (List Int)):V)]) (h:=mg) (k:=k) (K:=fun v h n=>v= .agg [.cX (k+4) 0 D.length,.cX (k+63) 0 4]/\n=k+71/\h (k+4)=some ⟨1,D.map (V.int .i64),false⟩/\h (k+63)=some ⟨1,[.cX (k+19) 0 a.length,.cX (k+33) 0 b.length,.cX (k+47) 0 c.length,.cX (k+61) 0 d.length],true⟩/\
   h (k+19)=some ⟨1,a.map (V.int .i64),false⟩/\h (k+33)=some ⟨1,b.map (V.int .i64),false⟩/\h (k+47)=some ⟨1,c.map (V.int .i64),false⟩/\h (k+61)=some ⟨1,d.map (V.int .i64),false⟩) Tryz.func253 rfl rfl (by
  simp[eJ,X6,kS];all_goals ((repeat' (first|apply And.intro|intro _))<;>first|omega|rfl))
 subst w;subst E;exact⟨h',e,L,T,l,j,r,z⟩
def w9(l:cO)(i:Nat):List Int:=l.i4.getD i []
def Ph(l:cO)(i8 t:Int)(i:Nat)(S:St):Prop:=(S.f 1= .int .i64 i8/\S.f 2= .int .i64 t/\S.f 3= .ptr 0 0 0/\S.f 6= .ptr 1 0 0/\S.f 8= .ptr 5 0 0/\S.f 32= .sl false (l.i4.map dC)/\S.f 33= .int .i64 4/\S.f 34= .int .i64 (i:Int))/\(S.h 0=some ⟨2,[uN l],true⟩/\S.h 1=some ⟨2,[.agg [.sl true [],.sl true []]],true⟩/\S.h 5=some ⟨2,[.agg [.cX 11 0 4,.cX 70 0 4]],true⟩/\S.h 11=some ⟨1,l.pl.map (V.int .i64),false⟩/\S.h 70=some ⟨1,[.cX 26 0 (w9 l 0).length,.cX 40 0 (w9 l 1).length,.cX 54 0 (w9 l 2).length,.cX 68 0 (w9 l 3).length],true⟩/\
  S.h 26=some ⟨1,(w9 l 0).map (V.int .i64),false⟩/\S.h 40=some ⟨1,(w9 l 1).map (V.int .i64),false⟩/\S.h 54=some ⟨1,(w9 l 2).map (V.int .i64),false⟩/\S.h 68=some ⟨1,(w9 l 3).map (V.int .i64),false⟩)/\78<=S.n/\((l.i4.take i).any fun x=>x.contains t)=false
def Pe(l:cO)(i8 t:Int)(i j:Nat)(S:St):Prop:=((S.f 1= .int .i64 i8/\S.f 2= .int .i64 t/\S.f 3= .ptr 0 0 0/\S.f 6= .ptr 1 0 0/\S.f 8= .ptr 5 0 0/\S.f 32= .sl false (l.i4.map dC)/\S.f 33= .int .i64 4/\S.f 34= .int .i64 (i:Int))/\(S.h 0=some ⟨2,[uN l],true⟩/\S.h 1=some ⟨2,[.agg [.sl true [],.sl true []]],true⟩/\S.h 5=some ⟨2,[.agg [.cX 11 0 4,.cX 70 0 4]],true⟩/\S.h 11=some ⟨1,l.pl.map (V.int .i64),false⟩/\S.h 70=some ⟨1,[.cX 26 0 (w9 l 0).length,.cX 40 0 (w9 l 1).length,.cX 54 0 (w9 l 2).length,.cX 68 0 (w9 l 3).length],true⟩/\
  S.h 26=some ⟨1,(w9 l 0).map (V.int .i64),false⟩/\S.h 40=some ⟨1,(w9 l 1).map (V.int .i64),false⟩/\S.h 54=some ⟨1,(w9 l 2).map (V.int .i64),false⟩/\S.h 68=some ⟨1,(w9 l 3).map (V.int .i64),false⟩)/\78<=S.n/\((l.i4.take i).any fun x=>x.contains t)=false)/\S.f 38= .sl false ((w9 l i).map (V.int .i64))/\S.f 39= .int .i64 (w9 l i).length/\S.f 40= .int .i64 (j:Int)/\((w9 l i).take j).contains t=false
@[simp]def Mz(D:List Int)(m:List (List Int))(i8 t:Int)(h:iN (cO.mk D m)):cG X 255 [up D m,.int .i64 i8,.int .i64 t]=some (.ed [uN ((qD (cO.mk D m) i8 t).1),.int .i64 ((qD (cO.mk D m) i8 t).2)]):=by
 refine ij ?_;have h1:D.length=4:=h.Ch;have h2:m.length=4:=h.Ci;obtain⟨h3,h4⟩:=h.lens;simp only at h3 h4;have bs: ∀i (g:i<m.length),(m[i]).length<=4:=fun i g=>(h.i4 i g).len;obtain⟨hC,ho,hl,hc,hb,g1,g2,g3⟩:=ZC D m 7 h2 h3 h4;simp only[Nat.reduceAdd,h1]at ho hl hc hb g1 g2 g3;have n: ∀i (g:i<m.length),w9 (cO.mk D m) i=m[i]:=fun i g=>by simp[w9,List.getD,g]
 rw[<-n 0 ab,<-n 1 ab,<-n 2 ab,<-n 3 ab]at hc;rw[<-n 0 ab]at hb;rw[<-n 1 ab]at g1;rw[<-n 2 ab]at g2;rw[<-n 3 ab]at g3;have N: ∀i,i<4->(w9 (cO.mk D m) i).length<=4:=fun i O=>by rw[n i ab];exact bs i ab
 have mm: ∀(l:List Int),List.take l.length (l.map (V.int .i64))=l.map (V.int .i64):=fun l=>bQ ai;have ow:List.take 4 (D.map (V.int .i64))=D.map (V.int .i64):=bQ aA;have HG: ∀(k:Nat) (v:V),List.take 4 ((D.map (V.int .i64)).set k v)=(D.map (V.int .i64)).set k v:=fun k v=>bQ aA;have cz: ∀(k:Nat) (x:Int),ft ((D.map (V.int .i64)).set k (V.int .i64 x))=(D.map (V.int .i64)).set k (V.int .i64 x):=fun k x=>by rw[<-List.map_set,Io]
 have hg: ∀(l:List Int),ft (List.take (l.length+1) (l.map (V.int .i64)++ [V.int .i64 t]))=l.map (V.int .i64)++ [V.int .i64 t]:=fun l=>by rw[bQ ai,show l.map (V.int .i64)++ [V.int .i64 t]=(l++ [t]).map (V.int .i64) from ai,Io]
 have r:=mm (w9 (cO.mk D m) 0);have z:=mm (w9 (cO.mk D m) 1);have I:=mm (w9 (cO.mk D m) 2);have q:=mm (w9 (cO.mk D m) 3);have hB:m=[w9 (cO.mk D m) 0,w9 (cO.mk D m) 1,w9 (cO.mk D m) 2,w9 (cO.mk D m) 3]:=by
  obtain⟨a,b,c,d,rfl⟩:=JK h2;rfl
 have u:([V.sl false ((w9 (cO.mk D m) 0).map (V.int .i64)),V.sl false ((w9 (cO.mk D m) 1).map (V.int .i64)),V.sl false ((w9 (cO.mk D m) 2).map (V.int .i64)),V.sl false ((w9 (cO.mk D m) 3).map (V.int .i64))]:List V)=m.map dC:=by
  rw[hB];rfl
 have hs:ft (m.map dC)=m.map dC:=KG _;by_cases c1:i8<0
 .have e:qD (cO.mk D m) i8 t=((cO.mk D m),2):=by unfold qD;rw[if_pos (.inl c1)]
  rw[e];simp[h1,c1,ho,hl,hc,hb,g1,g2,g3,ow,r,z,I,q,u,hs]
 by_cases c2:4<=i8
 .have e:qD (cO.mk D m) i8 t=((cO.mk D m),2):=by unfold qD;rw[if_pos (.inr (.inl c2))]
  rw[e];simp[h1,c1,c2,ho,hl,hc,hb,g1,g2,g3,ow,r,z,I,q,u,hs]
 obtain⟨k,rfl⟩:=jp (show 0<=i8 from ab);have k1:k<4:=ab
 have k2:k<D.length:=ab
 have ah:(k:Int)<4:=ab
 have C:nth D (k:Int).toNat=D[k]:=by rw[X7,dA k2]
 have hL:m.getD (k:Int).toNat []=m[k]:=by simp[List.getD,show k<m.length from ab]
 by_cases bS:D[k]=t
 .have S':=eq_true bS;have e:qD (cO.mk D m) k t=((cO.mk D m),2):=by unfold qD;rw[if_pos (.inr (.inr (by rw[C];exact bS)))]
  rw[e];simp[c1,c2,k1,ah,h1,S',ho,hl,hc,hb,g1,g2,g3,ow,r,z,I,q,u,hs]
 have hz:vw (cO.mk D m) t=true->qD (cO.mk D m) k t=((cO.mk D m),2):=fun O=>by unfold qD;rw[if_neg (by rw[C];omega),if_pos O]
 simp[c1,c2,k1,ah,h1,h2,bS,ho];refine nG (Ph (cO.mk D m) k t) 4 ?_ 0 ai ?_
 .rintro i S O ⟨⟨hr,f2,f3,au,aq,an,w,f⟩,⟨he,U,T,B,o,A,M,E,y⟩,hn,Z⟩;have m1: ∀a j,a<78-> ¬a=S.n+j:=fun a j ha=>ab
  have gX: ∀a j,a<78-> ¬S.n+j=a:=fun a j ha=>ab
  have hp: ∀a,a<78-> ¬S.n=a:=fun a ha=>ab
  have cQ: ∀i,i<4->((w9 (cO.mk D m) i).length+1)*8<=140737488355328:=fun i O=>by have:=N i O;omega
  have ak: ∀i,i<4->(w9 (cO.mk D m) i).length<=4611686018427387903:=fun i O=>by have:=N i O;omega
  have dz:=o7 i ab;by_cases iS:i<4
  case neg=>
   obtain rfl:i=4:=ab
   have bW:vw (cO.mk D m) t=false:=by
    have:=Z;rwa[bQ aU]at this
   have g4:((4:Nat):Int)=4:=rfl;by_cases R:D[k]= -1
   .have hq:=eq_true R;have e:qD (cO.mk D m) k t=(⟨D.set k t,m⟩,0):=by unfold qD;rw[if_neg (by rw[C];omega),if_neg (by rw[bW];simp),if_pos (by rw[C];exact R)];rfl
    rw[e];simp[h1,k1,ah,hs,r,z,I,q,u,hr,f2,f3,au,aq,w,f,he,U,T,B,o,A,M,E,y,g4,hq,HG,cz]
   have e:qD (cO.mk D m) k t=(⟨D,m.set k (m[k]++ [t])⟩,1):=by unfold qD;rw[if_neg (by rw[C];omega),if_neg (by rw[bW];simp),if_neg (by rw[C];exact R),hL];rfl
   rw[e];have ts:k=0\/k=1\/k=2\/k=3:=ab
   rcases ts with rfl|rfl|rfl|rfl
   .exact j1
   .exact j1
   .exact j1
   .exact j1
  have fv:i<m.length:=ab
  have hh:(i:Int)<4:=ab
  have n0:=Q8 (t:=t) fv;simp only at Z;rw[Z]at n0;have F:=n i fv;simp[an,w,f,h2,iS,hh,kS];rw[<-F];refine nG (Pe (cO.mk D m) k t i) (w9 (cO.mk D m) i).length ?_ 0 ai ?_
  .rintro j bV hj ⟨⟨⟨e1,e2,e3,bp,dN,hv,ht,hk⟩,⟨fG,hf,ay,L,p,K,J,H,G⟩,h8,ae⟩,Q,s,W,P⟩;have n1: ∀a j,a<78-> ¬a=bV.n+j:=fun a j ha=>ab
   have n2: ∀a j,a<78-> ¬bV.n+j=a:=fun a j ha=>ab
   have bT:IntKind.i64.wrap ((j:Int)+1)=(j:Int)+1:=wrap_i64 (by have:=N i iS;omega);by_cases Y:j<(w9 (cO.mk D m) i).length
   case neg=>
    obtain rfl:j=(w9 (cO.mk D m) i).length:=ab
    rw[un]at P;rw[<-F,P]at n0;simp[hk,s,W,dz,iS];refine⟨?_,?_,aU,n0⟩
    .simp[bB,e1,e2,e3,bp,dN,hv,ht]
    .exact⟨fG,hf,ay,L,p,K,J,H,G⟩
   have aa:(j:Int)<(w9 (cO.mk D m) i).length:=ab
   have aw:=V0 (t:=t) Y;rw[P]at aw;by_cases hx:(w9 (cO.mk D m) i)[j]=t
   .have bL:=eq_true hx;have bP:vw (cO.mk D m) t=true:=by
     unfold vw;rw[C4];exact⟨_,rx fv,by rw[<-F];exact List.contains_iff_mem.2 (hx▸rx Y)⟩
    rw[hz bP];simp[e2,bp,dN,hf,ay,L,p,K,J,H,G,Q,s,W,Y,aa,bL,h1,ow,r,z,I,q,u,hs]
   .have hd: ¬t=(w9 (cO.mk D m) i)[j]:=fun e=>hx e.symm;simp[e2,Q,s,W,Y,aa,hx,bT];refine⟨⟨?_,?_,aU,ae⟩,?_,?_,?_,?_⟩
    .simp[bB,e1,e2,e3,bp,dN,hv,ht,hk]
    .exact⟨fG,hf,ay,L,p,K,J,H,G⟩
    .simp[bB,Q]
    .simp[bB,s]
    .simp[bB]
    .rw[aw];simp[hd]
  .refine⟨⟨?_,?_,aU,Z⟩,?_,?_,?_,?_⟩
   .simp[bB,hr,f2,f3,au,aq,an,w,f]
   .exact⟨he,U,T,B,o,A,M,E,y⟩
   .simp[bB,F]
   .simp[bB,F]
   .simp[bB]
   .simp
 .refine⟨?_,?_,aU,?_⟩
  .simp[bB]
  .simp[bB,hl,hc,hb,g1,g2,g3]
  .simp
end Go.Proofs.YtdngefmliibcgaaGreat
