/- Part of a proof: D1. -/
import Derived.Test.YtdngefmliibcgaaGreatM05
import Derived.Test.YtdngefmliibcgaaGreatM06
import Derived.Test.YtdngefmliibcgaaGreatM07
import Derived.Test.YtdngefmliibcgaaGreatM10
set_option linter.all false
set_option maxRecDepth 20000
set_option maxHeartbeats 20000000
namespace Go.Proofs.YtdngefmliibcgaaGreat
open Go Go.Abs Go.Abs.fJ
@[simp] theorem Xu(v:V)(vs:List V):Go.Abs.su .bad (v::vs)=v:=rfl
@[simp] theorem Aq(l vs:List V):Go.Abs.su (.cg l) vs= .cg vs:=rfl
structure uy where
 l:List Int
 time:Int
structure iL (l:List Int) (k:Int):Prop where
 pos:0≤k
 len:(l.length:Int)≤4611686018427387904
def g9(l:List Int)(k n:Int):Int:=if k<l.length then nth l k.toNat % n else 0
def dG(l:List Int)(k:Int):Int:=if k<l.length then k+1 else k
@[simp] theorem dT{l:List Int}{k:Int}(h:iL l k):iL l (dG l k):=by
 refine⟨?_,h.len⟩;have:=h.pos;unfold dG;split<;>omega
theorem eu(l:List Int)(k:Int){n:Int}(h:1≤n):0≤g9 l k n∧g9 l k n<n:=by
 unfold g9;split
 ·exact⟨Int.emod_nonneg _ (by omega),Int.emod_lt_of_pos _ (by omega)⟩
 ·omega
@[simp] theorem cn(bA:List Int)(aW n:Int)(hd:iL bA aW)(hn:1≤n∧n≤4611686018427387904):kg X ([]) 58 2 (.agg [.sl false (bA.map (V.int .i64)),.int .i64 aW]) [.int .i64 n]=some (2,.agg [.sl false ((⟨bA,dG bA aW⟩:uy).l.map (V.int .i64)),.int .i64 (⟨bA,dG bA aW⟩:uy).time],[.int .i64 (g9 bA aW n)],.bad):=by
 refine my Tryz.func58 rfl rfl ?_;have h1:=hd.pos;have h2:=hd.len;by_cases h:aW<bA.length
 ·obtain⟨k,rfl⟩:=Int.eq_ofNat_of_zero_le h1;have hk:k<bA.length:=by omega
  have mI: ¬bA.length≤k:=by omega
  have hw:=dY k (by omega);have JF:IntKind.i64.wrap ((k:Int)+1-1)=k:=by rw[wrap_i64 (by omega)];omega
  have hw3:IntKind.i64.wrap (k:Int)=k:=wrap_i64 (by omega);have e1:dG bA (k:Int)=(k:Int)+1:=by unfold dG;rw[if_pos h]
  have e2:g9 bA (k:Int) n=bA[k] % n:=by unfold g9;rw[if_pos h];simp[db hk]
  simp(maxSteps:=10000000) (maxDischargeDepth:=30) (implicitDefEqProofs:=false)[hk,mI,hw,JF,hw3,e1,e2,hn]
 ·have e1:dG bA aW=aW:=by unfold dG;rw[if_neg h]
  have e2:g9 bA aW n=0:=by unfold g9;rw[if_neg h]
  have h':(bA.length:Int)≤aW:=by omega
  simp(maxSteps:=10000000) (maxDischargeDepth:=30) (implicitDefEqProofs:=false)[h,h',e1,e2]
def AF(l:List Int)(k:Int):Int:=if g9 l k 5≤2 then g9 l (dG l k) 8 else if g9 l k 5=3 then 65535-g9 l (dG l k) 3 else g9 l (dG l k) 65536
def DG(l:List Int)(k:Int):Int:=dG l (dG l k)
theorem Od(l:List Int)(k:Int):DG l k=dG l (dG l k):=rfl
@[simp] theorem Oe{l:List Int}{k:Int}(h:iL l k):iL l (DG l k):=dT (dT h)
theorem Of(l:List Int)(k:Int):0≤AF l k∧AF l k≤65535:=by
 have h1:=eu l (dG l k) (n:=8) (by omega);have h2:=eu l (dG l k) (n:=3) (by omega);have h3:=eu l (dG l k) (n:=65536) (by omega);unfold AF;split
 ·omega
 ·split<;>omega
@[simp] theorem JR(bA:List Int)(aW:Int)(hd:iL bA aW):kg X ([]) 172 2 (.agg [.sl false (bA.map (V.int .i64)),.int .i64 aW]) []=some (2,.agg [.sl false ((⟨bA,DG bA aW⟩:uy).l.map (V.int .i64)),.int .i64 (⟨bA,DG bA aW⟩:uy).time],[.int .u16 (AF bA aW)],.bad):=by
 refine my Tryz.func172 rfl rfl ?_;have h0:=eu bA aW (n:=5) (by omega);have h1:=eu bA (dG bA aW) (n:=8) (by omega);have h2:=eu bA (dG bA aW) (n:=3) (by omega);have h3:=eu bA (dG bA aW) (n:=65536) (by omega);have w1:IntKind.u16.wrap (g9 bA (dG bA aW) 8)=g9 bA (dG bA aW) 8:=wrap_u16 (by omega);have w2:IntKind.u16.wrap (65535-g9 bA (dG bA aW) 3)=65535-g9 bA (dG bA aW) 3:=wrap_u16 (by omega);have w2':IntKind.i64.wrap (65535-g9 bA (dG bA aW) 3)=65535-g9 bA (dG bA aW) 3:=wrap_i64 (by omega);have w3:IntKind.u16.wrap (g9 bA (dG bA aW) 65536)=g9 bA (dG bA aW) 65536:=wrap_u16 (by omega);have hc:g9 bA aW 5=0∨g9 bA aW 5=1∨g9 bA aW 5=2∨g9 bA aW 5=3∨g9 bA aW 5=4:=by omega
 rcases hc with hc|hc|hc|hc|hc<;>simp(maxSteps:=10000000) (maxDischargeDepth:=30) (implicitDefEqProofs:=false)[hd,hc,w1,w2,w2',w3,AF,Od]
theorem DJ(l:List Int)(h: ∀i (hi:i<l.length),1≤l[i]∧l[i]≤32):(l.length:Int)≤total l∧total l≤32*l.length:=by
 suffices H: ∀i,i≤l.length→(i:Int)≤total (l.take i)∧total (l.take i)≤32*i by
  have:=H l.length (Nat.le_refl _);rwa[List.take_length]at this
 intro i;induction i with
 |zero=>intro _;simp[total]
 |succ i ih=>
  intro hi;have h1:=ih (by omega);have h2:=h i (by omega);rw[gG (by omega),nP];omega
def mE(l aq:List Int)(k:Int):Canon:=
 if g9 l k 6=4 then⟨1,0,(j7 aq (g9 l (dG l k) (total aq)) 0).1.region,(j7 aq (g9 l (dG l k) (total aq)) 0).1.offset⟩
 else if g9 l k 6=5 then⟨2,g9 l (dG l k) 10,0,0⟩ else⟨0,AF l (dG l k),0,0⟩
def kv(l:List Int)(k:Int):Int:=if g9 l k 6=4 then dG l (dG l k) else if g9 l k 6=5 then dG l (dG l k) else DG l (dG l k)
@[simp] theorem rG{l:List Int}{k:Int}(h:iL l k):iL l (kv l k):=by
 unfold kv;split
 ·exact dT (dT h)
 ·split
  ·exact dT (dT h)
  ·exact Oe (dT h)
@[simp] theorem oJ(bA:List Int)(aW:Int)(aq:List Int)(hd:iL bA aW)(hz:rf aq):kg X ([]) 92 2 (.agg [.sl false (bA.map (V.int .i64)),.int .i64 aW]) [.sl false (aq.map (V.int .i64))]=some (2,.agg [.sl false ((⟨bA,kv bA aW⟩:uy).l.map (V.int .i64)),.int .i64 (⟨bA,kv bA aW⟩:uy).time],[.agg [.int .u8 (mE bA aq aW).tag,.int .u16 (mE bA aq aW).val,.int .i64 (mE bA aq aW).region,.int .i64 (mE bA aq aW).offset]],.bad):=by
 refine my Tryz.func92 rfl rfl ?_;have h0:=eu bA aW (n:=6) (by omega);have ht:=DJ aq hz.elem;have z1:=hz.pos;have z2:=hz.le;have zl:aq.length≤1000:=by omega
 have zb: ∀x∈aq,0≤x∧x≤1000000:=fun x hx=>by
  obtain⟨i,hi,rfl⟩:=List.getElem_of_mem hx;have:=hz.elem i hi;omega
 have WR:1≤total aq∧total aq≤4611686018427387904:=by omega
 have h4:=eu bA (dG bA aW) (n:=total aq) WR.1;have h4':0≤g9 bA (dG bA aW) (total aq)∧g9 bA (dG bA aW) (total aq)≤1000000:=by omega
 have h5:=eu bA (dG bA aW) (n:=10) (by omega);have w5:IntKind.u16.wrap (g9 bA (dG bA aW) 10)=g9 bA (dG bA aW) 10:=wrap_u16 (by omega);have key:=zK aq zl zb;by_cases c4:g9 bA aW 6=4
 ·simp(maxSteps:=10000000) (maxDischargeDepth:=30) (implicitDefEqProofs:=false)[hd,hz,key,WR,h4',c4,mE,kv]
 by_cases c5:g9 bA aW 6=5
 ·simp(maxSteps:=10000000) (maxDischargeDepth:=30) (implicitDefEqProofs:=false)[hd,c4,c5,w5,mE,kv]
 ·simp(maxSteps:=10000000) (maxDischargeDepth:=30) (implicitDefEqProofs:=false)[hd,c4,c5,mE,kv]
def VO(l:List Int)(u:Bool)(k:Int):Int:=if u=true then dG l k else k
def k1(l:List Int)(op k:Int):Int:=VO l (kS op 0) (dG l k)
def k2(l:List Int)(op k:Int):Int:=VO l (kS op 1) (k1 l op k)
def k3(l:List Int)(op k:Int):Int:=VO l (kS op 2) (k2 l op k)
def m5(x:Int):Int:=if x<5 then x else 5
def Hi(l:List Int)(k:Int):Int:=dG l (dG l k)
def uN(l:List Int)(k:Int):Int:=Hi l (Hi l k)
def Gc(l:List Int)(k:Int):Canon:=if g9 l (kv l k) 12=0 then⟨1,0, -1,g9 l (dG l (kv l k)) 65536⟩ else mE l [8,4] k
def J2(l:List Int)(k:Int):Int:=if g9 l (kv l k) 12=0 then Hi l (kv l k) else dG l (kv l k)
theorem Rk{l:List Int}{k:Int}(h:iL l k):iL l (J2 l k):=by
 unfold J2;split
 ·exact dT (dT (rG h))
 ·exact dT (rG h)
def iO(l:List Int)(k:Int):Nat→List Canon×Int
 |0=>([],k)
 |i+1=>((iO l k i).1++ [Gc l (iO l k i).2],J2 l (iO l k i).2)
theorem DP(l:List Int)(k:Int):iO l k 0=([],k):=rfl
theorem vq(l:List Int)(k:Int)(i:Nat):iO l k (i+1)=((iO l k i).1++ [Gc l (iO l k i).2],J2 l (iO l k i).2):=rfl
theorem AQ{l:List Int}{k:Int}(h:iL l k)(i:Nat):iL l (iO l k i).2:=by
 induction i with
 |zero=>exact h
 |succ i ih=>exact Rk ih
theorem yK(l:List Int)(k:Int)(i:Nat):(iO l k i).1.length=i:=by
 induction i with
 |zero=>rfl
 |succ i ih=>rw[vq];simp[ih]
def pP(l:List Int)(n k:Int):List Canon:=(iO l (dG l k) (g9 l k (n+1)).toNat).1
def rJ(l:List Int)(n k:Int):Int:=(iO l (dG l k) (g9 l k (n+1)).toNat).2
theorem OB{l:List Int}{n k:Int}(h:iL l k):iL l (rJ l n k):=AQ (dT h) _
theorem Rl:rf [8,4]:=kR.1 (by decide)
@[simp] theorem kL(bA:List Int)(aW n:Int)(hd:iL bA aW)(hn:0≤n∧n≤1000):kg X ([]) 97 2 (.agg [.sl false (bA.map (V.int .i64)),.int .i64 aW]) [.int .i64 n]=some (2,.agg [.sl false ((⟨bA,rJ bA n aW⟩:uy).l.map (V.int .i64)),.int .i64 (⟨bA,rJ bA n aW⟩:uy).time],[.sl false ((pP bA n aW).map Canon.enc)],.bad):=by
 refine my Tryz.func97 rfl rfl ?_;have w0:IntKind.i64.wrap (n+1)=n+1:=wrap_i64 (by omega);have h0:=eu bA aW (n:=n+1) (by omega);obtain⟨N,hN⟩: ∃N:Nat,g9 bA aW (n+1)=N:=⟨(g9 bA aW (n+1)).toNat,by omega⟩;have e1:pP bA n aW=(iO bA (dG bA aW) N).1:=by unfold pP;rw[hN];rfl
 have e2:rJ bA n aW=(iO bA (dG bA aW) N).2:=by unfold rJ;rw[hN];rfl
 have hd1:=dT hd;have Se:1≤n+1∧n+1≤4611686018427387904:=by omega
 rw[e1,e2];simp(maxSteps:=10000000) (maxDischargeDepth:=30) (implicitDefEqProofs:=false)[hd,w0,Se,hN];refine fh (fun i S=>(S.f 0= .ptr 0 0 0∧S.h 0=some ⟨2,[.agg [.sl false ((⟨bA,(iO bA (dG bA aW) i).2⟩:uy).l.map (V.int .i64)),.int .i64 (⟨bA,(iO bA (dG bA aW) i).2⟩:uy).time]],true⟩∧S.f 5= .bJ 5 0 ((((iO bA (dG bA aW) i).1).map Canon.enc)).length∧S.h 5=some ⟨4,(((iO bA (dG bA aW) i).1).map Canon.enc),false⟩∧S.f 6= .int .i64 ((N:Int)-i)∧S.n=1100)∧True) (N) ?_ 0 (by simp) ?_
 ·rintro i S dQ ⟨eg,jn⟩;have dh:=dY i (by omega);by_cases bk:i<N
  ·have Am:=AQ hd1 i;have w1:IntKind.i64.wrap ((N:Int)-i-1)=(N:Int)-(i+1:Nat):=by rw[wrap_i64 (by omega)];omega
   have c1:(0:Int)<(N:Int)-i:=by omega
   have hwl:=yK bA (dG bA aW) i;have us:=vq bA (dG bA aW) i;obtain⟨⟨cs,kt⟩,hs⟩: ∃x,iO bA (dG bA aW) i=x:=⟨_,rfl⟩;rw[hs]at Am hwl us;simp only at Am hwl us;have hC:=oJ bA kt [8,4] Am Rl;have hN2:=cn bA (kv bA kt) 12 (rG Am) (by omega);have hN3:=cn bA (dG bA (kv bA kt)) 65536 (dT (rG Am)) (by omega);simp only[List.map_cons,List.map_nil]at hC;by_cases zi:g9 bA (kv bA kt) 12=0
   ·have eV:Gc bA kt=⟨1,0, -1,g9 bA (dG bA (kv bA kt)) 65536⟩:=if_pos zi;have eK:J2 bA kt=Hi bA (kv bA kt):=if_pos zi;unfold Hi at eK;rw[eV,eK]at us;rw[zi]at hN2;obtain⟨⟨x1,x2,x3,x4⟩,hx⟩: ∃x,mE bA [8,4] kt=x:=⟨_,rfl⟩;rw[hx]at hC;simp(maxSteps:=10000000) (maxDischargeDepth:=30) (implicitDefEqProofs:=false)[eg,dQ,dh,bk,hs,hC,hN2,hN3,w1,c1,us,Canon.aU];all_goals ((repeat' (first|apply And.intro|intro _))<;>first|omega|rfl|exact aQ (by simp;omega))
   ·have eV:Gc bA kt=mE bA [8,4] kt:=if_neg zi;have eK:J2 bA kt=dG bA (kv bA kt):=if_neg zi;rw[eV,eK]at us;obtain⟨⟨x1,x2,x3,x4⟩,hx⟩: ∃x,mE bA [8,4] kt=x:=⟨_,rfl⟩;rw[hx]at hC us;simp(maxSteps:=10000000) (maxDischargeDepth:=30) (implicitDefEqProofs:=false)[eg,dQ,dh,bk,hs,hC,hN2,zi,w1,c1,us,Canon.aU];all_goals ((repeat' (first|apply And.intro|intro _))<;>first|omega|rfl|exact aQ (by simp;omega))
  ·have mP:N=i:=by omega
   subst mP;simp(maxSteps:=10000000) (maxDischargeDepth:=30) (implicitDefEqProofs:=false)[eg,dQ,dh,bk]
 ·simp(maxSteps:=10000000) (maxDischargeDepth:=30) (implicitDefEqProofs:=false)[DP]
theorem vr(b:UInt8)(m:Nat)(h:m<256):(b.toNat:Int)=(m:Int)↔b=UInt8.ofNat m:=by
 constructor
 ·intro e;have:b.toNat=m:=by omega
  rw[←this];simp
 ·intro e;rw[e];simp;omega
def wI(l:List Int)(c:UInt8)(k:Int):Canon:=if c=78 then⟨0,g9 l k 5,0,0⟩ else if c=72 then⟨2,g9 l k 4,0,0⟩ else if c=80 then⟨1,0,g9 l k 2,g9 l (dG l k) 4⟩ else mE l [8,4] k
def yL(l:List Int)(c:UInt8)(k:Int):Int:=if c=78 then dG l k else if c=72 then dG l k else if c=80 then Hi l k else kv l k
theorem Rm{l:List Int}{c:UInt8}{k:Int}(h:iL l k):iL l (yL l c k):=by
 unfold yL;split
 ·exact dT h
 split
 ·exact dT h
 split
 ·exact dT (dT h)
 ·exact rG h
def lN(l:List Int)(ks:List UInt8)(k:Int):Nat→List Canon×Int
 |0=>([],k)
 |i+1=>((lN l ks k i).1++ [wI l (ks.getD i 0) (lN l ks k i).2],yL l (ks.getD i 0) (lN l ks k i).2)
theorem J3(l:List Int)(ks:List UInt8)(k:Int):lN l ks k 0=([],k):=rfl
theorem Rn(l:List Int)(ks:List UInt8)(k:Int){i:Nat}(h:i<ks.length):lN l ks k (i+1)=((lN l ks k i).1++ [wI l ks[i] (lN l ks k i).2],yL l ks[i] (lN l ks k i).2):=by
 have:ks.getD i 0=ks[i]:=by simp[List.getD,h]
 rw[lN,this]
theorem Hj{l:List Int}{ks:List UInt8}{k:Int}(h:iL l k)(i:Nat):iL l (lN l ks k i).2:=by
 induction i with
 |zero=>exact h
 |succ i ih=>exact Rm ih
theorem yM(l:List Int)(ks:List UInt8)(k:Int)(i:Nat):(lN l ks k i).1.length=i:=by
 induction i with
 |zero=>rfl
 |succ i ih=>rw[lN];simp[ih]
def l5(v:Int):Int:=if v=3 then 0 else if v=4 then 2 else if v=5 then 3 else 1
def rqA(l:List Int)(c k:Int):List Canon×Int:=lN l (b9 c) k (b9 c).length
def ZI(l:List Int)(c k:Int):List Canon×Int:=if c=1∨c=13 then(pP l 6 k,rJ l 6 k) else([],k)
def VT(l:List Int)(a:List Canon)(k:Int):List Canon×Int:=if g9 l k 10=0 then(pP l 3 (dG l k),rJ l 3 (dG l k)) else(a,dG l k)
def TG(l:List Int)(k:Int):Int:=g9 l k 16
def yN(l:List Int)(k:Int):List Canon×Int:=rqA l (TG l k) (dG l k)
def wJ(l:List Int)(k:Int):List Canon×Int:=ZI l (TG l k) (yN l k).2
def yO(l:List Int)(k:Int):List Canon×Int:=VT l (yN l k).1 (wJ l k).2
def qA(l:List Int)(k:Int):Request:=
 if l5 (g9 l (dG l k) 6)=1 then⟨g9 l k 4,1,0,g9 l (Hi l k) 50,g9 l (dG l (Hi l k)) 64,TG l (uN l k),(yO l (uN l k)).1,(wJ l (uN l k)).1⟩
 else⟨g9 l k 4,l5 (g9 l (dG l k) 6),if l5 (g9 l (dG l k) 6)=2 then 1+g9 l (uN l k) 6 else 0,g9 l (Hi l k) 50,g9 l (dG l (Hi l k)) 64,0,[],[]⟩
def OC(l:List Int)(k:Int):Int:=if l5 (g9 l (dG l k) 6)=1 then(yO l (uN l k)).2 else if l5 (g9 l (dG l k) 6)=2 then dG l (uN l k) else uN l k
@[simp] theorem sk(bA:List Int)(aW:Int)(hd:iL bA aW):kg X ([]) 42 2 (.agg [.sl false (bA.map (V.int .i64)),.int .i64 aW]) []=some (2,.agg [.sl false ((⟨bA,OC bA aW⟩:uy).l.map (V.int .i64)),.int .i64 (⟨bA,OC bA aW⟩:uy).time],[.agg [.int .i64 (qA bA aW).bD,.int .i64 (qA bA aW).stop,.int .i64 (qA bA aW).cz,.int .i64 (qA bA aW).count,.int .i64 (qA bA aW).pc,.int .i64 (qA bA aW).call,.sl false ((qA bA aW).args.map Canon.enc),.sl false ((qA bA aW).data.map Canon.enc)]],.bad):=by
 refine my Tryz.func42 rfl rfl ?_;have n1:=cn bA aW 4 hd (by omega);have n2:=cn bA (dG bA aW) 6 (dT hd) (by omega);have n3:=cn bA (dG bA (dG bA aW)) 50 (dT (dT hd)) (by omega);have n4:=cn bA (dG bA (dG bA (dG bA aW))) 64 (dT (dT (dT hd))) (by omega);have hd4:iL bA (uN bA aW):=dT (dT (dT (dT hd)));have v2:=eu bA (dG bA aW) (n:=6) (by omega);have e4:uN bA aW=dG bA (dG bA (dG bA (dG bA aW))):=rfl;unfold qA OC;rw[show Hi bA aW=dG bA (dG bA aW) from rfl];rw[←e4]at n4;obtain⟨x1,Tz⟩: ∃x,g9 bA aW 4=x:=⟨_,rfl⟩;obtain⟨x2,TA⟩: ∃x,g9 bA (dG bA aW) 6=x:=⟨_,rfl⟩;obtain⟨x3,TB⟩: ∃x,g9 bA (dG bA (dG bA aW)) 50=x:=⟨_,rfl⟩;obtain⟨x4,Xz⟩: ∃x,g9 bA (dG bA (dG bA (dG bA aW))) 64=x:=⟨_,rfl⟩;rw[Tz]at n1;rw[TA]at n2 v2;rw[TB]at n3;rw[Xz]at n4;rw[Tz,TA,TB,Xz];obtain⟨k4,ek4⟩: ∃x,uN bA aW=x:=⟨_,rfl⟩;rw[ek4]at n4 hd4;rw[ek4];clear Tz TA TB Xz ek4 e4;have hc:x2=0∨x2=1∨x2=2∨x2=3∨x2=4∨x2=5:=by omega
 by_cases hs:l5 x2=1
 case neg=>
  rw[if_neg hs,if_neg hs];have n5:=cn bA k4 6 hd4 (by omega);have v5:=eu bA k4 (n:=6) (by omega);have w5:IntKind.i64.wrap (1+g9 bA k4 6)=1+g9 bA k4 6:=wrap_i64 (by omega);rcases hc with rfl|rfl|rfl|rfl|rfl|rfl
  ·exact absurd rfl hs
  ·exact absurd rfl hs
  ·exact absurd rfl hs
  all_goals simp(maxSteps:=10000000) (maxDischargeDepth:=30) (implicitDefEqProofs:=false)[n1,n2,n3,n4,n5,w5,l5]
 rw[if_pos hs,if_pos hs];have n5:=cn bA k4 16 hd4 (by omega);have v5:=eu bA k4 (n:=16) (by omega);have hd5:=dT hd4;obtain⟨c,sM⟩:=Int.eq_ofNat_of_zero_le v5.1;have Zz:c<16:=by omega
 have ecc:TG bA k4=(c:Int):=sM;have VU:yN bA k4=lN bA (b9 c) (dG bA k4) (b9 c).length:=by unfold yN rqA;rw[ecc]
 have eb2:wJ bA k4=ZI bA c (yN bA k4).2:=by unfold wJ;rw[ecc]
 have OD:yO bA k4=VT bA (yN bA k4).1 (wJ bA k4).2:=rfl;rw[sM]at n5;rw[ecc];have hks: ∀h,([V.str [78],V.str [72,80,78],V.str [72,80,78],V.str [78,78],V.str [72],V.str [72,78],V.str [],V.str [],V.str [78],V.str [78],V.str [78,88],V.str [78],V.str [78],V.str [78,80,78],V.str [78,80,78],V.str []]:List V)[c]'h= .str (b9 c):=by
  intro h;have:c=0∨c=1∨c=2∨c=3∨c=4∨c=5∨c=6∨c=7∨c=8∨c=9∨c=10∨c=11∨c=12∨c=13∨c=14∨c=15:=by omega
  rcases this with rfl|rfl|rfl|rfl|rfl|rfl|rfl|rfl|rfl|rfl|rfl|rfl|rfl|rfl|rfl|rfl<;>rfl
 have k3:=kK (c:=(c:Int)) (by omega);obtain⟨ks,hk⟩: ∃ks,b9 (c:Int)=ks:=⟨_,rfl⟩;rw[hk]at hks VU k3;have kb:ks.length≤4611686018427387904:=by omega
 have Q6:(c:Int)<16:=by omega
 have ZJ: ∀h,([V.int .i64 1,V.int .i64 1,V.int .i64 1,V.int .i64 0,V.int .i64 2,V.int .i64 3]:List V)[x2.toNat]'h=V.int .i64 1:=by
  intro h;rcases hc with rfl|rfl|rfl|rfl|rfl|rfl
  ·rfl
  ·rfl
  ·rfl
  ·exact absurd hs (by decide)
  ·exact absurd hs (by decide)
  ·exact absurd hs (by decide)
 have v6:x2.toNat<6:=by omega
 have Rp: ∀(h:aG) (n:Nat),zT false (some .u8) h n (.str ks)=some (.bJ n 0 ks.length,aS h n (some ⟨1,ks.map fun c=> .int .u8 c.toNat,false⟩),n+1):=fun h n=>if_pos ⟨rfl,rfl,by omega⟩;simp(maxSteps:=10000000) (maxDischargeDepth:=30) (implicitDefEqProofs:=false)[n1,n2,n3,n4,n5,v2,v6,Zz,Q6,hks,kb,ZJ,Rp];refine fh (fun i S=>(S.f 0= .ptr 0 0 0∧S.h 0=some ⟨2,[.agg [.sl false ((⟨bA,(lN bA ks (dG bA k4) i).2⟩:uy).l.map (V.int .i64)),.int .i64 (⟨bA,(lN bA ks (dG bA k4) i).2⟩:uy).time]],true⟩∧S.f 2= .ptr 2 0 0∧S.h 2=some ⟨8,[.agg [.int .i64 (⟨0,0,0,0,0,0,[],[]⟩:Request).bD,.int .i64 (⟨0,0,0,0,0,0,[],[]⟩:Request).stop,.int .i64 (⟨0,0,0,0,0,0,[],[]⟩:Request).cz,.int .i64 (⟨0,0,0,0,0,0,[],[]⟩:Request).count,.int .i64 (⟨0,0,0,0,0,0,[],[]⟩:Request).pc,.int .i64 (⟨0,0,0,0,0,0,[],[]⟩:Request).call,.sl false ((⟨0,0,0,0,0,0,[],[]⟩:Request).args.map Canon.enc),.sl false ((⟨0,0,0,0,0,0,[],[]⟩:Request).data.map Canon.enc)]],true⟩∧S.f 3= .ptr 3 0 0∧S.h 1000=some ⟨4,(⟨x1,1,0,x3,x4,c,(lN bA ks (dG bA k4) i).1,[]⟩:Request).args.map Canon.enc,false⟩∧S.h 3=some ⟨8,[.agg [.int .i64 (⟨x1,1,0,x3,x4,c,(lN bA ks (dG bA k4) i).1,[]⟩:Request).bD,.int .i64 (⟨x1,1,0,x3,x4,c,(lN bA ks (dG bA k4) i).1,[]⟩:Request).stop,.int .i64 (⟨x1,1,0,x3,x4,c,(lN bA ks (dG bA k4) i).1,[]⟩:Request).cz,.int .i64 (⟨x1,1,0,x3,x4,c,(lN bA ks (dG bA k4) i).1,[]⟩:Request).count,.int .i64 (⟨x1,1,0,x3,x4,c,(lN bA ks (dG bA k4) i).1,[]⟩:Request).pc,.int .i64 (⟨x1,1,0,x3,x4,c,(lN bA ks (dG bA k4) i).1,[]⟩:Request).call,.bJ 1000 0 ((⟨x1,1,0,x3,x4,c,(lN bA ks (dG bA k4) i).1,[]⟩:Request).args.map Canon.enc).length,.sl false ((⟨x1,1,0,x3,x4,c,(lN bA ks (dG bA k4) i).1,[]⟩:Request).data.map Canon.enc)]],true⟩∧S.f 39= .sl false (ks.map fun b=>V.int .u8 b.toNat)∧S.f 40= .int .i64 ((ks.length:Int))∧S.f 41= .int .i64 (i:Int)∧S.n=1101)∧True) (ks.length) ?_ 0 (by simp) ?_
 ·rintro i S dQ ⟨eg,jn⟩;have dh:=dY i (by omega);by_cases bk:i<ks.length
  ·have Am:=Hj (ks:=ks) hd5 i;have JM:=yM bA ks (dG bA k4) i;have us:=Rn bA ks (dG bA k4) bk;obtain⟨⟨cs,kt⟩,gr⟩: ∃x,lN bA ks (dG bA k4) i=x:=⟨_,rfl⟩;rw[gr]at Am JM us;simp only at Am JM us;obtain⟨b,hb⟩: ∃b,ks[i]=b:=⟨_,rfl⟩;rw[hb]at us;have i3:i<4:=by omega
   have q1:=cn bA kt 5 Am (by omega);have q2:=cn bA kt 4 Am (by omega);have q3:=cn bA kt 2 Am (by omega);have q4:=cn bA (dG bA kt) 4 (dT Am) (by omega);have q5:=oJ bA kt [8,4] Am Rl;simp only[List.map_cons,List.map_nil]at q5;have u1:=eu bA kt (n:=5) (by omega);have u2:=eu bA kt (n:=4) (by omega);have w1:IntKind.u16.wrap (g9 bA kt 5)=g9 bA kt 5:=wrap_u16 (by omega);have w2:IntKind.u16.wrap (g9 bA kt 4)=g9 bA kt 4:=wrap_u16 (by omega);by_cases b1:b=78
   ·have Xc:((b.toNat:Int)=78)=True:=eq_true ((vr b 78 (by omega)).2 b1);rw[show wI bA b kt=⟨0,g9 bA kt 5,0,0⟩ from if_pos b1,show yL bA b kt=dG bA kt from if_pos b1]at us;simp(maxSteps:=10000000) (maxDischargeDepth:=30) (implicitDefEqProofs:=false)[eg,dQ,dh,bk,gr,hb,Xc,q1,w1,us,JM,Canon.aU];all_goals ((repeat' (first|apply And.intro|intro _))<;>first|omega|rfl|exact aQ (by simp;omega))
   have Xc:((b.toNat:Int)=78)=False:=eq_false fun h=>b1 ((vr b 78 (by omega)).1 h);by_cases b2:b=72
   ·have FZ:((b.toNat:Int)=72)=True:=eq_true ((vr b 72 (by omega)).2 b2);rw[show wI bA b kt=⟨2,g9 bA kt 4,0,0⟩ by unfold wI;rw[if_neg b1,if_pos b2],show yL bA b kt=dG bA kt by unfold yL;rw[if_neg b1,if_pos b2]]at us;simp(maxSteps:=10000000) (maxDischargeDepth:=30) (implicitDefEqProofs:=false)[eg,dQ,dh,bk,gr,hb,Xc,FZ,q2,w2,us,JM,Canon.aU];all_goals ((repeat' (first|apply And.intro|intro _))<;>first|omega|rfl|exact aQ (by simp;omega))
   have FZ:((b.toNat:Int)=72)=False:=eq_false fun h=>b2 ((vr b 72 (by omega)).1 h);by_cases b3:b=80
   ·have b3':((b.toNat:Int)=80)=True:=eq_true ((vr b 80 (by omega)).2 b3);rw[show wI bA b kt=⟨1,0,g9 bA kt 2,g9 bA (dG bA kt) 4⟩ by unfold wI;rw[if_neg b1,if_neg b2,if_pos b3],show yL bA b kt=dG bA (dG bA kt) by unfold yL Hi;rw[if_neg b1,if_neg b2,if_pos b3]]at us;simp(maxSteps:=10000000) (maxDischargeDepth:=30) (implicitDefEqProofs:=false)[eg,dQ,dh,bk,gr,hb,Xc,FZ,b3',q3,q4,us,JM,Canon.aU];all_goals ((repeat' (first|apply And.intro|intro _))<;>first|omega|rfl|exact aQ (by simp;omega))
   have b3':((b.toNat:Int)=80)=False:=eq_false fun h=>b3 ((vr b 80 (by omega)).1 h);rw[show wI bA b kt=mE bA [8,4] kt by unfold wI;rw[if_neg b1,if_neg b2,if_neg b3],show yL bA b kt=kv bA kt by unfold yL;rw[if_neg b1,if_neg b2,if_neg b3]]at us;obtain⟨⟨z1,z2,z3,z4⟩,hx⟩: ∃x,mE bA [8,4] kt=x:=⟨_,rfl⟩;rw[hx]at q5 us;simp(maxSteps:=10000000) (maxDischargeDepth:=30) (implicitDefEqProofs:=false)[eg,dQ,dh,bk,gr,hb,Xc,FZ,b3',q5,us,JM,Canon.aU];all_goals ((repeat' (first|apply And.intro|intro _))<;>first|omega|rfl|exact aQ (by simp;omega))
  ·have mP:ks.length=i:=by omega
   subst mP;have VV:=Hj (ks:=ks) hd5 ks.length;have hl6:=yM bA ks (dG bA k4) ks.length;rw[←VU]at VV hl6;obtain⟨⟨az,k6⟩,gY⟩: ∃x,yN bA k4=x:=⟨_,rfl⟩;rw[gY]at VV VU eb2 OD;simp only at VV eb2 OD;have m1:=kL bA k6 6 VV (by omega);by_cases hw:(c:Int)=1∨(c:Int)=13
   ·have eD:wJ bA k4=(pP bA 6 k6,rJ bA 6 k6):=by rw[eb2];unfold ZI;rw[if_pos hw]
    rw[eD]at OD;simp only at OD;have hd7:=OB (n:=6) VV;obtain⟨ds,eds⟩: ∃x,pP bA 6 k6=x:=⟨_,rfl⟩;obtain⟨k7,ek7⟩: ∃x,rJ bA 6 k6=x:=⟨_,rfl⟩;rw[eds,ek7]at m1 eD;rw[ek7]at OD hd7;have m2:=cn bA k7 10 hd7 (by omega);have m3:=kL bA (dG bA k7) 3 (dT hd7) (by omega);by_cases qF:g9 bA k7 10=0
    ·have eE:yO bA k4=(pP bA 3 (dG bA k7),rJ bA 3 (dG bA k7)):=by rw[OD];unfold VT;rw[if_pos qF]
     rw[qF]at m2;rw[eD,eE];rcases hw with hw|hw<;>simp(maxSteps:=10000000) (maxDischargeDepth:=30) (implicitDefEqProofs:=false)[eg,dQ,dh,bk,←VU,hw,m1,m2,m3]
    ·have eE:yO bA k4=(az,dG bA k7):=by rw[OD];unfold VT;rw[if_neg qF]
     rw[eD,eE];rcases hw with hw|hw<;>simp(maxSteps:=10000000) (maxDischargeDepth:=30) (implicitDefEqProofs:=false)[eg,dQ,dh,bk,←VU,hw,m1,m2,qF]
   ·have eD:wJ bA k4=([],k6):=by rw[eb2];unfold ZI;rw[if_neg hw]
    rw[eD]at OD;simp only at OD;have xH: ¬(c:Int)=1:=fun h=>hw (.inl h);have JF: ¬(c:Int)=13:=fun h=>hw (.inr h);have m2:=cn bA k6 10 VV (by omega);have m3:=kL bA (dG bA k6) 3 (dT VV) (by omega);by_cases qF:g9 bA k6 10=0
    ·have eE:yO bA k4=(pP bA 3 (dG bA k6),rJ bA 3 (dG bA k6)):=by rw[OD];unfold VT;rw[if_pos qF]
     rw[qF]at m2;rw[eD,eE];simp(maxSteps:=10000000) (maxDischargeDepth:=30) (implicitDefEqProofs:=false)[eg,dQ,dh,bk,←VU,xH,JF,m2,m3]
    ·have eE:yO bA k4=(az,dG bA k6):=by rw[OD];unfold VT;rw[if_neg qF]
     rw[eD,eE];simp(maxSteps:=10000000) (maxDischargeDepth:=30) (implicitDefEqProofs:=false)[eg,dQ,dh,bk,←VU,xH,JF,m2,qF]
 ·simp(maxSteps:=10000000) (maxDischargeDepth:=30) (implicitDefEqProofs:=false)[J3]
end Go.Proofs.YtdngefmliibcgaaGreat
