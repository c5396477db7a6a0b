/- Part of a proof: H2. -/
import Derived.Test.YtdngefmliibcgaaGreatM07
import Derived.Test.YtdngefmliibcgaaGreatM08
import Derived.Test.YtdngefmliibcgaaGreatM11
import Derived.Test.YtdngefmliibcgaaGreatM18
set_option linter.all false
set_option maxRecDepth 20000
set_option maxHeartbeats 20000000
namespace Go.Proofs.YtdngefmliibcgaaGreat
open Go Go.Abs Go.Abs.fJ
def AB(v:Int):List Int:=[IntKind.u8.wrap (v.fdiv 256),IntKind.u8.wrap v]
def JQ(v:Int):List Int:=[IntKind.u8.wrap (v.fdiv 1099511627776),IntKind.u8.wrap (v.fdiv 4294967296),IntKind.u8.wrap (v.fdiv 16777216),IntKind.u8.wrap (v.fdiv 65536),IntKind.u8.wrap (v.fdiv 256),IntKind.u8.wrap v]
@[simp] theorem Xr(v:Int):ba X 95 [.int .i64 v,.int .i64 2]=some (.sl false ((AB v).map (V.int .u8))):=by
 refine aN Tryz.func95 rfl rfl ?_;have w8:IntKind.u64.wrap 8=8:=by decide
 have w0:IntKind.u64.wrap 0=0:=by decide
 have hb:IntKind.i64.bits=64:=rfl;simp(maxSteps:=10000000) (maxDischargeDepth:=30) (implicitDefEqProofs:=false)[jv,AB,w8,w0,hb]
@[simp] theorem Xs(v:Int):ba X 95 [.int .i64 v,.int .i64 6]=some (.sl false ((JQ v).map (V.int .u8))):=by
 refine aN Tryz.func95 rfl rfl ?_;have w40:IntKind.i64.wrap 40=40:=by decide
 have w32:IntKind.i64.wrap 32=32:=by decide
 have w24:IntKind.i64.wrap 24=24:=by decide
 have w16:IntKind.i64.wrap 16=16:=by decide
 have u40:IntKind.u64.wrap 40=40:=by decide
 have u32:IntKind.u64.wrap 32=32:=by decide
 have u24:IntKind.u64.wrap 24=24:=by decide
 have u16:IntKind.u64.wrap 16=16:=by decide
 have w8:IntKind.u64.wrap 8=8:=by decide
 have w0:IntKind.u64.wrap 0=0:=by decide
 have hb:IntKind.i64.bits=64:=rfl;simp(maxSteps:=10000000) (maxDischargeDepth:=30) (implicitDefEqProofs:=false)[jv,JQ,w40,w32,w24,w16,u40,u32,u24,u16,w8,w0,hb]
def mB(x:Canon):List Int:=if x.tag=1 then x.tag::IntKind.u8.wrap (x.region+1)::AB x.offset else x.tag::0::AB x.val
theorem Ha{x:Canon}(h:x.tag=1):mB x=[1,IntKind.u8.wrap (x.region+1),IntKind.u8.wrap (x.offset.fdiv 256),IntKind.u8.wrap x.offset]:=by unfold mB AB;rw[if_pos h,h]
theorem Hb{x:Canon}(h: ¬x.tag=1):mB x=[x.tag,0,IntKind.u8.wrap (x.val.fdiv 256),IntKind.u8.wrap x.val]:=by unfold mB AB;rw[if_neg h]
def lx(l:List Canon):List Int:=IntKind.u8.wrap l.length::l.flatMap mB
theorem AD(x:Canon):(mB x).length=4:=by unfold mB AB;split<;>rfl
def nX(n:Int)(l:List Canon)(i:Nat):List Int:=IntKind.u8.wrap n::(l.take i).flatMap mB
theorem yw(n:Int){l:List Canon}{i:Nat}(h:i<l.length):nX n l (i+1)=nX n l i++mB l[i]:=by
 unfold nX;rw[gG h,List.flatMap_append];simp
theorem vX(n:Int):IntKind.u8.wrap (IntKind.i64.wrap n)=IntKind.u8.wrap n:=by
 simp only[IntKind.wrap,IntKind.signed,IntKind.bits,Bool.false_and,Bool.true_and];simp;split<;>omega
theorem vh(n:Int)(l:List Canon)(i:Nat)(h:i≤l.length):(nX n l i).length=1+4*i:=by
 induction i with
 |zero=>simp[nX]
 |succ i ih=>rw[yw n (by omega),List.length_append,ih (by omega),AD];omega
theorem yx(n:Int)(l:List Canon):nX n l 0=[IntKind.u8.wrap n]:=by simp[nX]
theorem vj(l:List Canon):nX l.length l l.length=lx l:=by simp[nX,lx]
theorem pM(l:List Canon):(lx l).length=1+4*l.length:=by rw[←vj,vh _ _ _ (Nat.le_refl _)]
@[simp] theorem ux(l:List Canon)(hm:l.length≤1000)(hv: ∀i (h:i<l.length),0≤(l[i]).val∧(l[i]).val≤65535):ba X 96 [.sl false (l.map Canon.enc)]=some (.sl false ((lx l).map (V.int .u8))):=by
 refine aN Tryz.func96 rfl rfl ?_;have h0:=yx l.length l;rw[←vj];simp(maxSteps:=10000000) (maxDischargeDepth:=30) (implicitDefEqProofs:=false)[];refine fh (fun i S=>(S.f 3= .bJ 3 0 (((nX l.length l i).map (V.int .u8))).length∧S.h 3=some ⟨1,((nX l.length l i).map (V.int .u8)),false⟩∧S.f 10= .sl false (l.map Canon.enc)∧S.f 11= .int .i64 ((l).length:Int)∧S.f 12= .int .i64 (i:Int)∧S.n=1100)∧True) (l.length) ?_ 0 (by simp) ?_
 ·rintro i S dQ ⟨eg,jn⟩;have dh:=dY i (by omega);by_cases bk:i<l.length
  ·have hvi:=hv i bk;have xH:IntKind.i64.wrap (l[i]).val=(l[i]).val:=wrap_i64 (by omega);have hl:=vh l.length l i (by omega);have up:=yw l.length bk;obtain⟨C,hC⟩: ∃C,nX l.length l i=C:=⟨_,rfl⟩;rw[hC]at hl up;have Oc:List.take (1+4*i) (C.map (V.int .u8))=C.map (V.int .u8):=aQ (by simp;omega);have tk2: ∀a b,List.take (1+4*i+2) (C.map (V.int .u8)++ [a,b])=C.map (V.int .u8)++ [a,b]:=fun a b=>aQ (by simp;omega);by_cases ht:(l[i]).tag=1
   ·have ht':=eq_true ht;rw[Ha ht]at up;simp(maxSteps:=10000000) (maxDischargeDepth:=30) (implicitDefEqProofs:=false)[eg,dQ,dh,bk,hC,hl,up,ht,AB,Oc,tk2,vX,Canon.aU];all_goals ((repeat' (first|apply And.intro|intro _))<;>first|omega|rfl)
   ·rw[Hb ht]at up;simp(maxSteps:=10000000) (maxDischargeDepth:=30) (implicitDefEqProofs:=false)[eg,dQ,dh,bk,hC,hl,up,ht,xH,AB,Oc,tk2,Canon.aU];all_goals ((repeat' (first|apply And.intro|intro _))<;>first|omega|rfl)
  ·have mP:l.length=i:=by omega
   subst mP;simp(maxSteps:=10000000) (maxDischargeDepth:=30) (implicitDefEqProofs:=false)[eg,dQ,dh,bk]
 ·simp(maxSteps:=10000000) (maxDischargeDepth:=30) (implicitDefEqProofs:=false)[h0]
def jQ(r:Request):List Int:=(((([IntKind.u8.wrap r.bD,IntKind.u8.wrap r.stop,IntKind.u8.wrap r.cz]++JQ r.count)++ [IntKind.u8.wrap r.pc,IntKind.u8.wrap r.call])++lx r.args)++lx r.data)
def fX(r:Request):List Int×Int:=if gJ r=true then(jQ r,0) else([],1)
@[simp] theorem zN(cm dN dO cO kT ed:Int)(bY cJ:List Canon)(h1:bY.length≤1000)(h2:cJ.length≤1000)(Ln: ∀i (h:i<bY.length),0≤(bY[i]).val∧(bY[i]).val≤65535)(Uy: ∀i (h:i<cJ.length),0≤(cJ[i]).val∧(cJ[i]).val≤65535):ba X 41 [.agg [.int .i64 cm,.int .i64 dN,.int .i64 dO,.int .i64 cO,.int .i64 kT,.int .i64 ed,.sl false (bY.map Canon.enc),.sl false (cJ.map Canon.enc)]]=some (.cg [.sl false (((fX (Request.mk cm dN dO cO kT ed bY cJ)).1).map (V.int .u8)),.int .i64 ((fX (Request.mk cm dN dO cO kT ed bY cJ)).2)]):=by
 refine aN Tryz.func41 rfl rfl ?_;have g1:bY.length≤1000000000:=by omega
 have g2:cJ.length≤1000000000:=by omega
 cases hb:gJ (Request.mk cm dN dO cO kT ed bY cJ) with
 |false=>
  have e:fX (Request.mk cm dN dO cO kT ed bY cJ)=([],1):=by unfold fX;rw[if_neg (by simp[hb])]
  rw[e];simp(maxSteps:=10000000) (maxDischargeDepth:=30) (implicitDefEqProofs:=false)[g1,g2,hb]
 |true=>
  have e:fX (Request.mk cm dN dO cO kT ed bY cJ)=(jQ (Request.mk cm dN dO cO kT ed bY cJ),0):=by unfold fX;rw[if_pos hb]
  have l1:=pM bY;have l2:=pM cJ;rw[e];have c1:=ux bY h1 Ln;have c2:=ux cJ h2 Uy;unfold jQ JQ;obtain⟨A,hA⟩: ∃A,lx bY=A:=⟨_,rfl⟩;obtain⟨B,hB⟩: ∃B,lx cJ=B:=⟨_,rfl⟩;rw[hA]at c1 l1;rw[hB]at c2 l2;rw[hA,hB];obtain⟨n1,Se⟩: ∃n,A.length=n:=⟨_,rfl⟩;obtain⟨n2,hn2⟩: ∃n,B.length=n:=⟨_,rfl⟩;have b1:n1≤5000:=by omega
  have b2:n2≤5000:=by omega
  have le1:(11+n1≤n1+1+1+1+1+1+1+1+1+1+1+1)=True:=by simp;omega
  have tkA: ∀a b c d e f g h i j k:V,List.take (11+n1) (a::b::c::d::e::f::g::h::i::j::k::A.map (V.int .u8))=a::b::c::d::e::f::g::h::i::j::k::A.map (V.int .u8):=fun _ _ _ _ _ _ _ _ _ _ _=>aQ (by simp;omega);have le2:(n1+1+1+1+1+1+1+1+1+1+1+1+n2≤n1+n2+1+1+1+1+1+1+1+1+1+1+1)=True:=by simp;omega
  have tkB: ∀a b c d e f g h i j k:V,List.take (n1+1+1+1+1+1+1+1+1+1+1+1+n2) (a::b::c::d::e::f::g::h::i::j::k::(A.map (V.int .u8)++B.map (V.int .u8)))=a::b::c::d::e::f::g::h::i::j::k::(A.map (V.int .u8)++B.map (V.int .u8)):=fun _ _ _ _ _ _ _ _ _ _ _=>aQ (by simp;omega);have dl:cG (A.map (V.int .u8)++B.map (V.int .u8))=A.map (V.int .u8)++B.map (V.int .u8):=by rw[←List.map_append,vd]
  simp(maxSteps:=10000000) (maxDischargeDepth:=30) (implicitDefEqProofs:=false)[g1,g2,hb,JQ,Se,hn2,c1,c2,le1,tkA,le2,tkB,dl];all_goals ((repeat' (first|apply And.intro|intro _))<;>first|omega|rfl)
def ql(l:List Int):Int:=l.foldl (fun v c=>v*256+c) 0
theorem AE(l:List Int)(x:Int):ql (l++ [x])=ql l*256+x:=by simp[ql]
def cN(l:List Int):Prop:= ∀x∈l,0≤x∧x≤255
theorem cN.drop{l:List Int}(h:cN l)(k:Nat):cN (l.drop k):=fun x hx=>h x (List.mem_of_mem_drop hx)
theorem cN.take{l:List Int}(h:cN l)(k:Nat):cN (l.take k):=fun x hx=>h x (List.mem_of_mem_take hx)
theorem Hc{l:List Int}(h:cN l)(n:Nat)(hn:n≤l.length):0≤ql (l.take n)∧ql (l.take n)<256^n:=by
 induction n with
 |zero=>simp[ql]
 |succ n ih=>
  have i2:=ih (by omega);have hx:=h _ (List.getElem_mem (show n<l.length by omega));rw[gG (by omega),AE,Int.pow_succ];omega
theorem VK{v c:Int}(hv:0≤v∧v<1099511627776)(hc:0≤c∧c≤255):Go.Abs.bits .i64 .or (IntKind.i64.wrap (v*256)) c=v*256+c:=by
 obtain⟨a,rfl⟩:=Int.eq_ofNat_of_zero_le hv.1;obtain⟨b,rfl⟩:=Int.eq_ofNat_of_zero_le hc.1;rw[wrap_i64 (n:=(a:Int)*256) (by omega)];show IntKind.i64.wrap (((BitVec.ofInt 64 ((a:Int)*256)|||BitVec.ofInt 64 (b:Int)).toNat:Nat):Int)=_;have e1:BitVec.ofInt 64 ((a:Int)*256)=BitVec.ofNat 64 (a*256):=by rw[←BitVec.ofInt_natCast];congr 1
 have e2:BitVec.ofInt 64 (b:Int)=BitVec.ofNat 64 b:=BitVec.ofInt_natCast ..;rw[e1,e2,BitVec.toNat_or,BitVec.toNat_ofNat,BitVec.toNat_ofNat,Nat.mod_eq_of_lt (by omega),Nat.mod_eq_of_lt (by omega)];have e3:a*256|||b=a*256+b:=by
  have:=Nat.shiftLeft_add_eq_or_of_lt (show b<2^8 by omega) a;rw[Nat.shiftLeft_eq,show(2:Nat)^8=256 from rfl]at this;exact this.symm
 rw[e3,wrap_i64 (by omega)];omega
def eP(r:Reader)(k:Nat):Reader:=if r.b.length<k then⟨[],true⟩ else⟨r.b.drop k,r.short⟩
def kn(r:Reader)(k:Nat):Int:=if r.b.length<k then 0 else ql (r.b.take k)
theorem iE{r:Reader}(h:cN r.b)(k:Nat):cN (eP r k).b:=by
 unfold eP;split
 ·exact fun x hx=>by cases hx
 ·exact h.drop k
theorem m9{r:Reader}{k n:Nat}(h:r.b.length≤n):(eP r k).b.length≤n:=by
 unfold eP;split
 ·simp
 ·simp;omega
@[simp] theorem cu(iw:List Int)(bp:Bool)(k:Nat)(hk:k≤6)(hm:iw.length≤1000000000)(hp:cN iw):kg X ([]) 181 2 (.agg [.sl false (iw.map (V.int .u8)),.bool bp]) [.int .i64 (k:Int)]=some (2,.agg [.sl false ((eP ⟨iw,bp⟩ k:Reader).b.map (V.int .u8)),.bool (eP ⟨iw,bp⟩ k:Reader).short],[.int .i64 ((kn ⟨iw,bp⟩ k:Int))],.bad):=by
 refine my Tryz.func181 rfl rfl ?_;by_cases h:iw.length<k
 ·have e1:eP ⟨iw,bp⟩ k=⟨[],true⟩:=if_pos h;have e2:kn ⟨iw,bp⟩ k=0:=if_pos h;have hi:(iw.length:Int)<k:=by omega
  rw[e1,e2];simp(maxSteps:=10000000) (maxDischargeDepth:=30) (implicitDefEqProofs:=false)[h,hi]
 have e1:eP ⟨iw,bp⟩ k=⟨iw.drop k,bp⟩:=if_neg h;have e2:kn ⟨iw,bp⟩ k=ql (iw.take k):=if_neg h;have hi: ¬(iw.length:Int)<k:=by omega
 have G2:(0:Int)≤k∧(k:Int)≤iw.length:=by omega
 have WW:(iw.take k).length=k:=by simp;omega
 have sK:min k iw.length=k:=by omega
 rw[e1,e2];simp(maxSteps:=10000000) (maxDischargeDepth:=30) (implicitDefEqProofs:=false)[h,hi,G2,sK];refine fh (fun i S=>(S.f 0= .ptr 0 0 0∧S.h 0=some ⟨2,[.agg [.sl false (iw.map (V.int .u8)),.bool bp]],true⟩∧S.f 1= .int .i64 (k:Int)∧S.f 5= .int .i64 (ql (iw.take i))∧S.f 26= .sl false ((iw.take k).map (V.int .u8))∧S.f 27= .int .i64 ((k:Int))∧S.f 28= .int .i64 (i:Int)∧S.n=1100)∧True) (k) ?_ 0 (by simp) ?_
 ·rintro i S dQ ⟨eg,jn⟩;have dh:=dY i (by omega);by_cases bk:i<k
  ·have Kw:i<iw.length:=by omega
   have hb:=Hc hp i (by omega);have h5:(256:Int)^i≤256^5:=by
    have:i≤5:=by omega
    have:i=0∨i=1∨i=2∨i=3∨i=4∨i=5:=by omega
    rcases this with rfl|rfl|rfl|rfl|rfl|rfl<;>decide
   have hx:=hp _ (List.getElem_mem Kw);have hw:IntKind.i64.wrap iw[i]=iw[i]:=wrap_i64 (by omega);have ho:=VK (v:=ql (iw.take i)) (c:=iw[i]) (by omega) hx;have hg:(iw.take k)[i]?=some iw[i]:=by simp[Kw,bk]
   have up:ql (iw.take (i+1))=ql (iw.take i)*256+iw[i]:=by rw[gG Kw,AE]
   have VL:IntKind.i64.bits=64:=rfl;simp(maxSteps:=10000000) (maxDischargeDepth:=30) (implicitDefEqProofs:=false)[eg,dQ,dh,bk,sK,Kw,hw,ho,hg,up,VL]
  ·have mP:k=i:=by omega
   subst mP;have P6:k≤iw.length:=by omega
   have XX:cG (List.drop k (iw.map (V.int .u8)))=List.drop k (iw.map (V.int .u8)):=by rw[←List.map_drop,vd]
   simp(maxSteps:=10000000) (maxDischargeDepth:=30) (implicitDefEqProofs:=false)[eg,dQ,dh,bk,P6,XX]
 ·simp(maxSteps:=10000000) (maxDischargeDepth:=30) (implicitDefEqProofs:=false)[sK,ql]
def PI(r:Reader):Reader:=eP (eP (eP r 1) 1) 2
def Xv(r:Reader):Int:=IntKind.u8.wrap (kn r 1)
def Q7(r:Reader):Canon:=if Xv r=1 then⟨1,0,kn (eP r 1) 1-1,kn (eP (eP r 1) 1) 2⟩ else⟨Xv r,IntKind.u16.wrap (kn (eP (eP r 1) 1) 2),0,0⟩
def PJ(r:Reader):Bool:=decide (Xv r=1)||decide (kn (eP r 1) 1=0)
def iF(r:Reader):Nat→Reader×List Canon×Bool
 |0=>(r,[],true)
 |i+1=>(PI (iF r i).1,(iF r i).2.1++ [Q7 (iF r i).1],(iF r i).2.2&&PJ (iF r i).1)
theorem Q8(r:Reader):iF r 0=(r,[],true):=rfl
theorem Hd(r:Reader)(i:Nat):iF r (i+1)=(PI (iF r i).1,(iF r i).2.1++ [Q7 (iF r i).1],(iF r i).2.2&&PJ (iF r i).1):=rfl
def jq:Nat→Reader×List Canon×Bool→Reader×List Canon×Bool
 |0,s=>s
 |k+1,s=>if s.1.short=true then s else jq k (PI s.1,s.2.1++ [Q7 s.1],s.2.2&&PJ s.1)
theorem Og{r:Reader}(h:cN r.b):cN (PI r).b:=iE (iE (iE h 1) 1) 2
theorem Q9{r:Reader}(h:cN r.b)(i:Nat):cN (iF r i).1.b:=by
 induction i with
 |zero=>exact h
 |succ i ih=>exact Og ih
theorem Ra{r:Reader}{n:Nat}(h:r.b.length≤n)(i:Nat):(iF r i).1.b.length≤n:=by
 induction i with
 |zero=>exact h
 |succ i ih=>exact m9 (m9 (m9 ih))
theorem AG(r:Reader)(i:Nat):(iF r i).2.1.length=i:=by
 induction i with
 |zero=>rfl
 |succ i ih=>rw[Hd];simp[ih]
theorem yy{r:Reader}(h:cN r.b)(k:Nat)(hk:k≤6):0≤kn r k∧kn r k<256^k:=by
 unfold kn;split
 ·exact⟨by omega,Int.pow_pos (by omega)⟩
 ·exact Hc h k (by omega)
def dm(r:Reader):Reader×List Canon×Bool:=jq (kn r 1).toNat (eP r 1,[],true)
@[simp] theorem mC(iw:List Int)(bp:Bool)(hm:iw.length≤1000000000)(hp:cN iw):kg X ([]) 182 2 (.agg [.sl false (iw.map (V.int .u8)),.bool bp]) []=some (2,.agg [.sl false (((dm ⟨iw,bp⟩).1:Reader).b.map (V.int .u8)),.bool ((dm ⟨iw,bp⟩).1:Reader).short],[.sl false ((((dm ⟨iw,bp⟩).2.1:List Canon)).map Canon.enc),.bool (((dm ⟨iw,bp⟩).2.2:Bool))],.cg []):=by
 refine my Tryz.func182 rfl rfl ?_;have hp':cN (Reader.mk iw bp).b:=hp;have hv:=yy hp' 1 (by omega);obtain⟨N,hN⟩: ∃N:Nat,kn ⟨iw,bp⟩ 1=N:=⟨(kn ⟨iw,bp⟩ 1).toNat,by omega⟩;obtain⟨⟨b1,s1⟩,R9⟩: ∃x,eP ⟨iw,bp⟩ 1=x:=⟨_,rfl⟩;have p1:cN b1:=by have:=iE hp' 1;rw[R9]at this;exact this
 have l1:b1.length≤1000000000:=by have:=m9 (r:=⟨iw,bp⟩) (k:=1) hm;rw[R9]at this;exact this
 have hc:dm ⟨iw,bp⟩=jq N (⟨b1,s1⟩,[],true):=by unfold dm;rw[hN,R9];rfl
 have n1:=cu iw bp 1 (by omega) hm hp;rw[hN,R9]at n1;have Ty:kg X [] 181 2 (.agg [.sl false (iw.map (V.int .u8)),.bool bp]) [.int .i64 1]=some (2,.agg [.sl false (b1.map (V.int .u8)),.bool s1],[.int .i64 N],.bad):=n1;rw[hc];simp(maxSteps:=10000000) (maxDischargeDepth:=30) (implicitDefEqProofs:=false)[Ty];refine fh (fun i S=>(S.f 0= .ptr 0 0 0∧S.h 0=some ⟨2,[.agg [.sl false (((iF ⟨b1,s1⟩ i).1).b.map (V.int .u8)),.bool ((iF ⟨b1,s1⟩ i).1).short]],true⟩∧S.f 4= .bJ 4 0 ((((iF ⟨b1,s1⟩ i).2.1).map Canon.enc)).length∧S.h 4=some ⟨4,(((iF ⟨b1,s1⟩ i).2.1).map Canon.enc),false⟩∧S.f 5= .bool ((iF ⟨b1,s1⟩ i).2.2)∧S.f 6= .int .i64 ((N:Int)-i)∧S.n=1100)∧(jq N (⟨b1,s1⟩,[],true)=jq (N-i) (iF ⟨b1,s1⟩ i))) (N) ?_ 0 (by simp) ?_
 ·rintro i S dQ ⟨eg,jn⟩;have dh:=dY i (by omega);by_cases bk:(i<N∧(iF ⟨b1,s1⟩ i).1.short=false)
  ·have hi:=bk.1;have hs:=bk.2;have ZB:=Q9 (r:=⟨b1,s1⟩) p1 i;have JM:=Ra (r:=⟨b1,s1⟩) l1 i;have Ew:=AG ⟨b1,s1⟩ i;have us:=Hd ⟨b1,s1⟩ i;obtain⟨⟨⟨b,s⟩,l,ok⟩,gr⟩: ∃x,iF ⟨b1,s1⟩ i=x:=⟨_,rfl⟩;rw[gr]at ZB JM Ew hs us jn;simp only at ZB JM Ew hs us;subst hs;have BD:jq N (⟨b1,s1⟩,[],true)=jq (N-(i+1)) (iF ⟨b1,s1⟩ (i+1)):=by
    rw[jn,show N-i=(N-(i+1))+1 by omega,jq,if_neg (by simp),us]
   have a1:=cu b false 1 (by omega) JM ZB;have v1:=yy (r:=⟨b,false⟩) ZB 1 (by omega);have q1:=iE (r:=⟨b,false⟩) ZB 1;have m1:=m9 (r:=⟨b,false⟩) (k:=1) JM;obtain⟨⟨b2,s2⟩,e2⟩: ∃x,eP ⟨b,false⟩ 1=x:=⟨_,rfl⟩;rw[e2]at a1 q1 m1;simp only at q1 m1;have a2:=cu b2 s2 1 (by omega) m1 q1;have v2:=yy (r:=⟨b2,s2⟩) q1 1 (by omega);have q2:=iE (r:=⟨b2,s2⟩) q1 1;have m2:=m9 (r:=⟨b2,s2⟩) (k:=1) m1;obtain⟨⟨b3,s3⟩,e3⟩: ∃x,eP ⟨b2,s2⟩ 1=x:=⟨_,rfl⟩;rw[e3]at a2 q2 m2;simp only at q2 m2;have a3:=cu b3 s3 2 (by omega) m2 q2;have v3:=yy (r:=⟨b3,s3⟩) q2 2 (by omega);have eR:PI ⟨b,false⟩=eP ⟨b3,s3⟩ 2:=by unfold PI;rw[e2,e3]
   obtain⟨⟨b4,s4⟩,e4⟩: ∃x,eP ⟨b3,s3⟩ 2=x:=⟨_,rfl⟩;rw[e4]at a3 eR;have eT:Xv ⟨b,false⟩=kn ⟨b,false⟩ 1:=by unfold Xv;exact wrap_u8 (by omega)
   have eC:Q7 ⟨b,false⟩=if kn ⟨b,false⟩ 1=1 then⟨1,0,kn ⟨b2,s2⟩ 1-1,kn ⟨b3,s3⟩ 2⟩ else⟨kn ⟨b,false⟩ 1,IntKind.u16.wrap (kn ⟨b3,s3⟩ 2),0,0⟩:=by unfold Q7;rw[eT,e2,e3]
   have eB:PJ ⟨b,false⟩=(decide (kn ⟨b,false⟩ 1=1)||decide (kn ⟨b2,s2⟩ 1=0)):=by unfold PJ;rw[eT,e2]
   obtain⟨x1,Tz⟩: ∃x,kn ⟨b,false⟩ 1=x:=⟨_,rfl⟩;obtain⟨x2,TA⟩: ∃x,kn ⟨b2,s2⟩ 1=x:=⟨_,rfl⟩;obtain⟨x3,TB⟩: ∃x,kn ⟨b3,s3⟩ 2=x:=⟨_,rfl⟩;rw[Tz]at a1 v1 eC eB;rw[TA]at a2 v2 eC eB;rw[TB]at a3 v3 eC;have w1:IntKind.u8.wrap x1=x1:=wrap_u8 (by omega);have w2:IntKind.i64.wrap (x2-1)=x2-1:=wrap_i64 (by omega);have w3:IntKind.i64.wrap ((N:Int)-i-1)=(N:Int)-(i+1:Nat):=by rw[wrap_i64 (by omega)];omega
   have c1:(0:Int)<(N:Int)-i:=by omega
   have Xw:kg X [] 181 2 (.agg [.sl false (b.map (V.int .u8)),.bool false]) [.int .i64 1]=some (2,.agg [.sl false (b2.map (V.int .u8)),.bool s2],[.int .i64 x1],.bad):=a1;have Xx:kg X [] 181 2 (.agg [.sl false (b2.map (V.int .u8)),.bool s2]) [.int .i64 1]=some (2,.agg [.sl false (b3.map (V.int .u8)),.bool s3],[.int .i64 x2],.bad):=a2;have Xy:kg X [] 181 2 (.agg [.sl false (b3.map (V.int .u8)),.bool s3]) [.int .i64 2]=some (2,.agg [.sl false (b4.map (V.int .u8)),.bool s4],[.int .i64 x3],.bad):=a3;by_cases h1:x1=1
   ·subst h1;rw[if_pos rfl]at eC;have eB':PJ ⟨b,false⟩=true:=by rw[eB];simp
    rw[eR,eC,eB']at us;simp(maxSteps:=10000000) (maxDischargeDepth:=30) (implicitDefEqProofs:=false)[eg,dQ,dh,bk,gr,Xw,Xx,Xy,w2,w3,c1,us,BD,Ew,Canon.aU];all_goals ((repeat' (first|apply And.intro|intro _))<;>first|omega|rfl|(exact aQ (by simp;omega))|skip)
   ·rw[if_neg h1]at eC;have eB':PJ ⟨b,false⟩=decide (x2=0):=by rw[eB];simp[h1]
    rw[eR,eC,eB']at us;cases ok<;>simp(maxSteps:=10000000) (maxDischargeDepth:=30) (implicitDefEqProofs:=false)[eg,dQ,dh,bk,gr,Xw,Xx,Xy,h1,w1,w2,w3,c1,us,BD,Ew,Canon.aU];all_goals ((repeat' (first|apply And.intro|intro _))<;>first|omega|rfl|(exact aQ (by simp;omega))|skip)
  ·have Ew:=AG ⟨b1,s1⟩ i;by_cases hi:i<N
   ·have hs:(iF ⟨b1,s1⟩ i).1.short=true:=by
     cases h:(iF ⟨b1,s1⟩ i).1.short with
     |true=>rfl
     |false=>exact absurd ⟨hi,h⟩ bk
    have c1:(0:Int)<(N:Int)-i:=by omega
    have BD:jq N (⟨b1,s1⟩,[],true)=iF ⟨b1,s1⟩ i:=by
     rw[jn,show N-i=(N-(i+1))+1 by omega,jq,if_pos hs]
    rw[BD];simp(maxSteps:=10000000) (maxDischargeDepth:=30) (implicitDefEqProofs:=false)[eg,dQ,dh,bk,hs,hi]
   ·have c1: ¬(0:Int)<(N:Int)-i:=by omega
    have BD:jq N (⟨b1,s1⟩,[],true)=iF ⟨b1,s1⟩ i:=by
     rw[jn,show N-i=0 by omega];rfl
    rw[BD];simp(maxSteps:=10000000) (maxDischargeDepth:=30) (implicitDefEqProofs:=false)[eg,dQ,dh,bk,hi]
 ·simp(maxSteps:=10000000) (maxDischargeDepth:=30) (implicitDefEqProofs:=false)[Q8]
theorem AH: ∀(k:Nat) (s:Reader×List Canon×Bool),(jq k s).2.1.length≤s.2.1.length+k
 |0,s=>by simp[jq]
 |k+1,s=>by
  rw[jq];split
  ·omega
  ·have:=AH k (PI s.1,s.2.1++ [Q7 s.1],s.2.2&&PJ s.1);simp at this;omega
theorem He: ∀(k:Nat) (s:Reader×List Canon×Bool),cN s.1.b→cN (jq k s).1.b
 |0,s,h=>h
 |k+1,s,h=>by
  rw[jq];split
  ·exact h
  ·exact He k _ (Og h)
theorem Hf{n:Nat}: ∀(k:Nat) (s:Reader×List Canon×Bool),s.1.b.length≤n→(jq k s).1.b.length≤n
 |0,s,h=>h
 |k+1,s,h=>by
  rw[jq];split
  ·exact h
  ·exact Hf k _ (m9 (m9 (m9 h)))
theorem qm{r:Reader}(h:cN r.b):(dm r).2.1.length≤255:=by
 have h1:=AH (kn r 1).toNat (eP r 1,[],true);have h2:=yy h 1 (by omega);unfold dm;simp at h1;omega
theorem yz{r:Reader}(h:cN r.b):cN (dm r).1.b:=He _ _ (iE h 1)
theorem Oh{r:Reader}{n:Nat}(h:r.b.length≤n):(dm r).1.b.length≤n:=Hf _ _ (m9 h)
def D8(r:Reader):Reader:=eP (eP (eP (eP (eP (eP r 1) 1) 1) 6) 1) 1
def qn(r:Reader):Request:=⟨kn r 1,kn (eP r 1) 1,kn (eP (eP r 1) 1) 1,kn (eP (eP (eP r 1) 1) 1) 6,kn (eP (eP (eP (eP r 1) 1) 1) 6) 1,kn (eP (eP (eP (eP (eP r 1) 1) 1) 6) 1) 1,(dm (D8 r)).2.1,(dm (dm (D8 r)).1).2.1⟩
def uz(r:Reader):Reader:=(dm (dm (D8 r)).1).1
def BE(r:Reader):Bool:=(dm (D8 r)).2.2&& ((dm (dm (D8 r)).1).2.2&&gJ (qn r))
@[simp] theorem qo(iw:List Int)(bp:Bool)(hm:iw.length≤1000000000)(hp:cN iw):kg X ([]) 109 2 (.agg [.sl false (iw.map (V.int .u8)),.bool bp]) []=some (2,.agg [.sl false ((uz ⟨iw,bp⟩:Reader).b.map (V.int .u8)),.bool (uz ⟨iw,bp⟩:Reader).short],[.agg [.int .i64 ((qn ⟨iw,bp⟩:Request)).bD,.int .i64 ((qn ⟨iw,bp⟩:Request)).stop,.int .i64 ((qn ⟨iw,bp⟩:Request)).cz,.int .i64 ((qn ⟨iw,bp⟩:Request)).count,.int .i64 ((qn ⟨iw,bp⟩:Request)).pc,.int .i64 ((qn ⟨iw,bp⟩:Request)).call,.sl false (((qn ⟨iw,bp⟩:Request)).args.map Canon.enc),.sl false (((qn ⟨iw,bp⟩:Request)).data.map Canon.enc)],.bool ((BE ⟨iw,bp⟩:Bool))],.cg []):=by
 refine my Tryz.func109 rfl rfl ?_;have a1:=cu iw bp 1 (by omega) hm hp;have q1:=iE (r:=⟨iw,bp⟩) hp 1;have m1:=m9 (r:=⟨iw,bp⟩) (k:=1) hm;have eE:uz ⟨iw,bp⟩=(dm (dm (D8 ⟨iw,bp⟩)).1).1:=rfl;have eK:BE ⟨iw,bp⟩=((dm (D8 ⟨iw,bp⟩)).2.2&& ((dm (dm (D8 ⟨iw,bp⟩)).1).2.2&&gJ (qn ⟨iw,bp⟩))):=rfl;have eQ:qn ⟨iw,bp⟩=⟨kn ⟨iw,bp⟩ 1,kn (eP ⟨iw,bp⟩ 1) 1,kn (eP (eP ⟨iw,bp⟩ 1) 1) 1,kn (eP (eP (eP ⟨iw,bp⟩ 1) 1) 1) 6,kn (eP (eP (eP (eP ⟨iw,bp⟩ 1) 1) 1) 6) 1,kn (eP (eP (eP (eP (eP ⟨iw,bp⟩ 1) 1) 1) 6) 1) 1,(dm (D8 ⟨iw,bp⟩)).2.1,(dm (dm (D8 ⟨iw,bp⟩)).1).2.1⟩:=rfl;have eH:D8 ⟨iw,bp⟩=(eP (eP (eP (eP (eP (eP ⟨iw,bp⟩ 1) 1) 1) 6) 1) 1):=rfl;obtain⟨⟨b1,s1⟩,e1⟩: ∃x,eP ⟨iw,bp⟩ 1=x:=⟨_,rfl⟩;rw[e1]at a1 q1 m1 eQ eH;simp only at q1 m1;have a2:=cu b1 s1 1 (by omega) m1 q1;have q2:=iE (r:=⟨b1,s1⟩) q1 1;have m2:=m9 (r:=⟨b1,s1⟩) (k:=1) m1;obtain⟨⟨b2,s2⟩,e2⟩: ∃x,eP ⟨b1,s1⟩ 1=x:=⟨_,rfl⟩;rw[e2]at a2 q2 m2 eQ eH;simp only at q2 m2;have a3:=cu b2 s2 1 (by omega) m2 q2;have q3:=iE (r:=⟨b2,s2⟩) q2 1;have m3:=m9 (r:=⟨b2,s2⟩) (k:=1) m2;obtain⟨⟨b3,s3⟩,e3⟩: ∃x,eP ⟨b2,s2⟩ 1=x:=⟨_,rfl⟩;rw[e3]at a3 q3 m3 eQ eH;simp only at q3 m3;have a4:=cu b3 s3 6 (by omega) m3 q3;have q4:=iE (r:=⟨b3,s3⟩) q3 6;have m4:=m9 (r:=⟨b3,s3⟩) (k:=6) m3;obtain⟨⟨b4,s4⟩,e4⟩: ∃x,eP ⟨b3,s3⟩ 6=x:=⟨_,rfl⟩;rw[e4]at a4 q4 m4 eQ eH;simp only at q4 m4;have a5:=cu b4 s4 1 (by omega) m4 q4;have q5:=iE (r:=⟨b4,s4⟩) q4 1;have m5:=m9 (r:=⟨b4,s4⟩) (k:=1) m4;obtain⟨⟨b5,s5⟩,e5⟩: ∃x,eP ⟨b4,s4⟩ 1=x:=⟨_,rfl⟩;rw[e5]at a5 q5 m5 eQ eH;simp only at q5 m5;have a6:=cu b5 s5 1 (by omega) m5 q5;have q6:=iE (r:=⟨b5,s5⟩) q5 1;have m6:=m9 (r:=⟨b5,s5⟩) (k:=1) m5;obtain⟨⟨b6,s6⟩,e6⟩: ∃x,eP ⟨b5,s5⟩ 1=x:=⟨_,rfl⟩;rw[e6]at a6 q6 m6 eH;rw[eH]at eQ eE eK;simp only at q6 m6;have c1:=mC b6 s6 m6 q6;have q7:=yz (r:=⟨b6,s6⟩) q6;have m7:=Oh (r:=⟨b6,s6⟩) m6;have l7:=qm (r:=⟨b6,s6⟩) q6;obtain⟨⟨⟨b7,s7⟩,la,oa⟩,e7⟩: ∃x,dm ⟨b6,s6⟩=x:=⟨_,rfl⟩;rw[e7]at c1 q7 m7 l7 eQ eE eK;simp only at c1 q7 m7 l7 eQ eE eK;have c2:=mC b7 s7 m7 q7;have l8:=qm (r:=⟨b7,s7⟩) q7;obtain⟨⟨⟨b8,s8⟩,ld,od⟩,e8⟩: ∃x,dm ⟨b7,s7⟩=x:=⟨_,rfl⟩;rw[e8]at c2 l8 eQ eE eK;simp only at c2 l8 eQ eE eK;obtain⟨x1,Tz⟩: ∃x,kn ⟨iw,bp⟩ 1=x:=⟨_,rfl⟩;obtain⟨x2,TA⟩: ∃x,kn ⟨b1,s1⟩ 1=x:=⟨_,rfl⟩;obtain⟨x3,TB⟩: ∃x,kn ⟨b2,s2⟩ 1=x:=⟨_,rfl⟩;obtain⟨x4,Xz⟩: ∃x,kn ⟨b3,s3⟩ 6=x:=⟨_,rfl⟩;obtain⟨x5,ex5⟩: ∃x,kn ⟨b4,s4⟩ 1=x:=⟨_,rfl⟩;obtain⟨x6,ex6⟩: ∃x,kn ⟨b5,s5⟩ 1=x:=⟨_,rfl⟩;rw[Tz,TA,TB,Xz,ex5,ex6]at eQ;rw[Tz]at a1;rw[TA]at a2;rw[TB]at a3;rw[Xz]at a4;rw[ex5]at a5;rw[ex6]at a6;rw[eQ]at eK;rw[eE,eQ,eK];have g1:la.length≤1000000000:=by omega
 have g2:ld.length≤1000000000:=by omega
 have Xw:kg X [] 181 2 (.agg [.sl false (iw.map (V.int .u8)),.bool bp]) [.int .i64 1]=some (2,.agg [.sl false (b1.map (V.int .u8)),.bool s1],[.int .i64 x1],.bad):=a1;have Xx:kg X [] 181 2 (.agg [.sl false (b1.map (V.int .u8)),.bool s1]) [.int .i64 1]=some (2,.agg [.sl false (b2.map (V.int .u8)),.bool s2],[.int .i64 x2],.bad):=a2;have Xy:kg X [] 181 2 (.agg [.sl false (b2.map (V.int .u8)),.bool s2]) [.int .i64 1]=some (2,.agg [.sl false (b3.map (V.int .u8)),.bool s3],[.int .i64 x3],.bad):=a3;have a4':kg X [] 181 2 (.agg [.sl false (b3.map (V.int .u8)),.bool s3]) [.int .i64 6]=some (2,.agg [.sl false (b4.map (V.int .u8)),.bool s4],[.int .i64 x4],.bad):=a4;have a5':kg X [] 181 2 (.agg [.sl false (b4.map (V.int .u8)),.bool s4]) [.int .i64 1]=some (2,.agg [.sl false (b5.map (V.int .u8)),.bool s5],[.int .i64 x5],.bad):=a5;have a6':kg X [] 181 2 (.agg [.sl false (b5.map (V.int .u8)),.bool s5]) [.int .i64 1]=some (2,.agg [.sl false (b6.map (V.int .u8)),.bool s6],[.int .i64 x6],.bad):=a6;cases oa with
 |false=>simp(maxSteps:=10000000) (maxDischargeDepth:=30) (implicitDefEqProofs:=false)[Xw,Xx,Xy,a4',a5',a6',c1,c2,Request.aU]
 |true=>
  cases od with
  |false=>simp(maxSteps:=10000000) (maxDischargeDepth:=30) (implicitDefEqProofs:=false)[Xw,Xx,Xy,a4',a5',a6',c1,c2,Request.aU]
  |true=>simp(maxSteps:=10000000) (maxDischargeDepth:=30) (implicitDefEqProofs:=false)[Xw,Xx,Xy,a4',a5',a6',c1,c2,g1,g2,Request.aU]
def ly(b:List Int):Request×Int:=if(uz ⟨b,false⟩).short=true then(⟨0,0,0,0,0,0,[],[]⟩,4) else if BE ⟨b,false⟩=false∨0<(uz ⟨b,false⟩).b.length then(⟨0,0,0,0,0,0,[],[]⟩,5) else(qn ⟨b,false⟩,0)
@[simp] theorem BF(b:List Int)(hm:b.length≤1000000000)(hp:cN b):ba X 52 [.sl false (b.map (V.int .u8))]=some (.cg [.agg [.int .i64 ((ly b).1).bD,.int .i64 ((ly b).1).stop,.int .i64 ((ly b).1).cz,.int .i64 ((ly b).1).count,.int .i64 ((ly b).1).pc,.int .i64 ((ly b).1).call,.sl false (((ly b).1).args.map Canon.enc),.sl false (((ly b).1).data.map Canon.enc)],.int .i64 ((ly b).2)]):=by
 refine aN Tryz.func52 rfl rfl ?_;have hR:=qo b false hm hp;have e:ly b=if(uz ⟨b,false⟩).short=true then(⟨0,0,0,0,0,0,[],[]⟩,4) else if BE ⟨b,false⟩=false∨0<(uz ⟨b,false⟩).b.length then(⟨0,0,0,0,0,0,[],[]⟩,5) else(qn ⟨b,false⟩,0):=rfl
 obtain⟨⟨b1,s1⟩,e1⟩: ∃x,uz ⟨b,false⟩=x:=⟨_,rfl⟩;obtain⟨⟨q1,q2,q3,q4,q5,q6,q7,q8⟩,e2⟩: ∃x,qn ⟨b,false⟩=x:=⟨_,rfl⟩;obtain⟨k,e3⟩: ∃x,BE ⟨b,false⟩=x:=⟨_,rfl⟩;rw[e1,e2,e3]at hR e;simp only at hR e;cases s1 with
 |true=>
  rw[if_pos rfl]at e;rw[e];simp(maxSteps:=10000000) (maxDischargeDepth:=30) (implicitDefEqProofs:=false)[hR]
 |false=>
  rw[if_neg (by simp)]at e;cases k with
  |false=>
   rw[if_pos (.inl rfl)]at e;rw[e];simp(maxSteps:=10000000) (maxDischargeDepth:=30) (implicitDefEqProofs:=false)[hR]
  |true=>
   by_cases hl:0<b1.length
   ·rw[if_pos (.inr hl)]at e;rw[e];simp(maxSteps:=10000000) (maxDischargeDepth:=30) (implicitDefEqProofs:=false)[hR,hl]
   ·have KG:b1.length=0:=by omega
    have Cc: ¬(true=false∨0<b1.length):=fun h=>by
     rcases h with h|h
     ·cases h
     ·omega
    rw[if_neg Cc]at e;rw[e];simp(maxSteps:=10000000) (maxDischargeDepth:=30) (implicitDefEqProofs:=false)[hR,KG]
theorem mD(n:Int):IntKind.u8.wrap n=n % 256:=by
 simp[IntKind.wrap,IntKind.signed,IntKind.bits]
theorem Rb{a c:Int}(ha:0≤a∧a≤255)(hc:0≤c∧c≤255):AB (a*256+c)=[a,c]:=by
 unfold AB;rw[Int.fdiv_eq_ediv_of_nonneg _ (by omega),mD,mD];congr 1
 ·omega
 ·congr 1;omega
theorem Rc{a b c d e f:Int}(ha:0≤a∧a≤255)(hb:0≤b∧b≤255)(hc:0≤c∧c≤255)(hd:0≤d∧d≤255)(he:0≤e∧e≤255)(hf:0≤f∧f≤255):
  JQ (((((a*256+b)*256+c)*256+d)*256+e)*256+f)=[a,b,c,d,e,f]:=by
 unfold JQ;simp only[Int.fdiv_eq_ediv_of_nonneg _ (show(0:Int)≤1099511627776 by omega),Int.fdiv_eq_ediv_of_nonneg _ (show(0:Int)≤4294967296 by omega),Int.fdiv_eq_ediv_of_nonneg _ (show(0:Int)≤16777216 by omega),Int.fdiv_eq_ediv_of_nonneg _ (show(0:Int)≤65536 by omega),Int.fdiv_eq_ediv_of_nonneg _ (show(0:Int)≤256 by omega),mD,List.cons.injEq,and_true];refine⟨?_,?_,?_,?_,?_,?_⟩<;>omega
theorem Oi{r:Reader}{k:Nat}(h:(eP r k).short=false):r.short=false∧k≤r.b.length∧(eP r k).b=r.b.drop k∧kn r k=ql (r.b.take k):=by
 unfold eP at h⊢;unfold kn;by_cases hl:r.b.length<k
 ·rw[if_pos hl]at h;cases h
 ·rw[if_neg hl]at h⊢;rw[if_neg hl];exact⟨h,by omega,rfl,rfl⟩
theorem TC{r:Reader}(h:(eP r 1).short=false):r.short=false∧r.b=kn r 1::(eP r 1).b:=by
 obtain⟨h1,h2,h3,h4⟩:=Oi h;refine⟨h1,?_⟩;rw[h3,h4];cases hb:r.b with
 |nil=>rw[hb]at h2;simp at h2
 |cons a l=>simp[ql]
theorem rd2{r:Reader}(h:(eP r 2).short=false)(hp:cN r.b):r.short=false∧r.b=AB (kn r 2)++(eP r 2).b∧0≤kn r 2∧kn r 2≤65535:=by
 obtain⟨h1,h2,h3,h4⟩:=Oi h;rw[h3,h4];cases hb:r.b with
 |nil=>rw[hb]at h2;simp at h2
 |cons a l=>
  cases l with
  |nil=>rw[hb]at h2;simp at h2
  |cons c l=>
   rw[hb]at hp;have pa:=hp a (by simp);have pc:=hp c (by simp);have:ql (List.take 2 (a::c::l))=a*256+c:=by simp[ql]
   rw[this,Rb pa pc];exact⟨h1,rfl,by omega,by omega⟩
theorem rd6{r:Reader}(h:(eP r 6).short=false)(hp:cN r.b):r.short=false∧r.b=JQ (kn r 6)++(eP r 6).b:=by
 obtain⟨h1,h2,h3,h4⟩:=Oi h;rw[h3,h4];match hb:r.b with
 | []=>rw[hb]at h2;simp at h2
 | [_]=>rw[hb]at h2;simp at h2
 | [_,_]=>rw[hb]at h2;simp at h2
 | [_,_,_]=>rw[hb]at h2;simp at h2
 | [_,_,_,_]=>rw[hb]at h2;simp at h2
 | [_,_,_,_,_]=>rw[hb]at h2;simp at h2
 |a::b::c::d::e::f::l=>
  rw[hb]at hp;have:ql (List.take 6 (a::b::c::d::e::f::l))=((((a*256+b)*256+c)*256+d)*256+e)*256+f:=by simp[ql]
  rw[this,Rc (hp a (by simp)) (hp b (by simp)) (hp c (by simp)) (hp d (by simp)) (hp e (by simp)) (hp f (by simp))];exact⟨h1,rfl⟩
theorem ZC{r:Reader}(h:(PI r).short=false)(hb:PJ r=true)(hp:cN r.b):r.short=false∧r.b=mB (Q7 r)++(PI r).b:=by
 have p1:=iE hp 1;have p2:=iE p1 1;obtain⟨s3,e3,v3⟩:=rd2 (r:=eP (eP r 1) 1) h p2;obtain⟨s2,e2⟩:=TC s3;obtain⟨s1,e1⟩:=TC s2;refine⟨s1,?_⟩;have b1:0≤kn r 1∧kn r 1≤255:=hp _ (by rw[e1];simp);have b2:0≤kn (eP r 1) 1∧kn (eP r 1) 1≤255:=p1 _ (by rw[e2];simp);have ht:Xv r=kn r 1:=wrap_u8 b1;have hR:PI r=eP (eP (eP r 1) 1) 2:=rfl;rw[hR,e1,e2,e3];unfold Q7;unfold PJ at hb;rw[ht]at hb⊢;by_cases h1:kn r 1=1
 ·rw[if_pos h1];unfold mB;rw[if_pos rfl];simp only;rw[show kn (eP r 1) 1-1+1=kn (eP r 1) 1 by omega,wrap_u8 b2,h1];rfl
 ·rw[if_neg h1];unfold mB;rw[if_neg h1];simp only;rw[wrap_u16 v3];simp[h1]at hb;rw[hb];rfl
theorem DH: ∀(k:Nat) (s:Reader×List Canon×Bool),(jq k s).1.short=false→(jq k s).2.2=true→cN s.1.b→
  s.1.short=false∧s.2.2=true∧ ∃l,(jq k s).2.1=s.2.1++l∧l.length=k∧s.1.b=l.flatMap mB++(jq k s).1.b
 |0,s,h1,h2,_=>⟨h1,h2,[],by simp[jq],rfl,by simp[jq]⟩
 |k+1,s,h1,h2,hp=>by
  rw[jq]at h1 h2⊢;by_cases hs:s.1.short=true
  ·rw[if_pos hs]at h1;rw[hs]at h1;cases h1
  rw[if_neg hs]at h1 h2⊢;obtain⟨a1,a2,l,a3,a4,a5⟩:=DH k _ h1 h2 (Og hp);simp only at a1 a2 a3 a5;simp only[Bool.and_eq_true]at a2;obtain⟨b1,b2⟩:=ZC a1 a2.2 hp;refine⟨b1,a2.1,Q7 s.1::l,by rw[a3];simp,by simp[a4],?_⟩;rw[b2,a5];simp
theorem AI{r:Reader}(h1:(dm r).1.short=false)(h2:(dm r).2.2=true)(hp:cN r.b):r.short=false∧r.b=lx (dm r).2.1++(dm r).1.b:=by
 unfold dm at h1 h2⊢;obtain⟨a1,_,l,a3,a4,a5⟩:=DH _ _ h1 h2 (iE hp 1);simp only at a1 a3 a5;obtain⟨b1,b2⟩:=TC a1;have hv:0≤kn r 1∧kn r 1≤255:=hp _ (by rw[b2];simp);refine⟨b1,?_⟩;rw[a3,b2,a5];unfold lx;simp only[List.nil_append,List.cons_append,List.append_assoc];rw[a4,wrap_u8 (by omega)];congr 1;omega
theorem Rd{c:List Int}(hp:cN c)(h:(ly c).2=0):c=jQ (ly c).1:=by
 unfold ly at h⊢;by_cases hs:(uz ⟨c,false⟩).short=true
 ·rw[if_pos hs]at h;cases h
 rw[if_neg hs]at h⊢;by_cases hk:BE ⟨c,false⟩=false∨0<(uz ⟨c,false⟩).b.length
 ·rw[if_pos hk]at h;cases h
 rw[if_neg hk];have jV:(uz ⟨c,false⟩).short=false:=by simpa using hs
 have mI:BE ⟨c,false⟩=true:=by
  cases hx:BE ⟨c,false⟩ with
  |true=>rfl
  |false=>exact absurd (.inl hx) hk
 have hb:(uz ⟨c,false⟩).b=[]:=List.eq_nil_of_length_eq_zero (by
  rcases Nat.eq_zero_or_pos (uz ⟨c,false⟩).b.length with e|e
  ·exact e
  ·exact absurd (.inr e) hk)
 clear h hs hk;unfold BE at mI;simp only[Bool.and_eq_true]at mI;obtain⟨k1,k2, -⟩:=mI;have XW:cN (Reader.mk c false).b:=hp;have p1:=iE XW 1;have p2:=iE p1 1;have p3:=iE p2 1;have p4:=iE p3 6;have p5:=iE p4 1;have p6:=iE p5 1;unfold uz at jV hb;obtain⟨s8,e8⟩:=AI jV k2 (yz p6);rw[hb,List.append_nil]at e8;obtain⟨s7,e7⟩:=AI (r:=D8 ⟨c,false⟩) s8 k1 p6;obtain⟨s6,e6⟩:=TC (r:=eP (eP (eP (eP (eP ⟨c,false⟩ 1) 1) 1) 6) 1) s7;obtain⟨s5,e5⟩:=TC s6;obtain⟨s4,e4⟩:=rd6 s5 p3;obtain⟨s3,e3⟩:=TC s4;obtain⟨s2,e2⟩:=TC s3;obtain⟨s1,e1⟩:=TC s2;have w1:=XW (kn ⟨c,false⟩ 1) (by rw[e1];simp);have w2:=p1 (kn (eP ⟨c,false⟩ 1) 1) (by rw[e2];simp);have w3:=p2 (kn (eP (eP ⟨c,false⟩ 1) 1) 1) (by rw[e3];simp);have w5:=p4 (kn (eP (eP (eP (eP ⟨c,false⟩ 1) 1) 1) 6) 1) (by rw[e5];simp);have w6:=p5 (kn (eP (eP (eP (eP (eP ⟨c,false⟩ 1) 1) 1) 6) 1) 1) (by rw[e6];simp);have hh:D8 ⟨c,false⟩=eP (eP (eP (eP (eP (eP ⟨c,false⟩ 1) 1) 1) 6) 1) 1:=rfl;rw[hh]at e7 e8;unfold jQ qn;simp only;rw[wrap_u8 w1,wrap_u8 w2,wrap_u8 w3,wrap_u8 w5,wrap_u8 w6,hh];have e1':c=kn ⟨c,false⟩ 1::(eP ⟨c,false⟩ 1).b:=e1
 conv=>lhs;rw[e1',e2,e3,e4,e5,e6,e7,e8]
 simp
theorem VM{a b:Nat}(ha:a<256)(hb:b<256):Go.Abs.bits .u8 .xor (a:Int) (b:Int)=((a^^^b:Nat):Int):=by
 show IntKind.u8.wrap (((BitVec.ofInt 8 (a:Int)^^^BitVec.ofInt 8 (b:Int)).toNat:Nat):Int)=_;rw[BitVec.ofInt_natCast,BitVec.ofInt_natCast,BitVec.toNat_xor,BitVec.toNat_ofNat,BitVec.toNat_ofNat,Nat.mod_eq_of_lt (by omega),Nat.mod_eq_of_lt (by omega)];have:=Nat.xor_lt_two_pow (n:=8) (x:=a) (y:=b) (by omega) (by omega);exact wrap_u8 (by omega)
theorem pw8(v:Int): ∃j:Nat,j<8∧pw (v % 8)=((2^j:Nat):Int)∧2^j<256:=by
 obtain⟨j,e,h⟩:=lu v (n:=8) (by omega);have e':v % 8=(j:Int):=e;refine⟨j,h,by rw[e',yq];push_cast;rfl,?_⟩;have:j=0∨j=1∨j=2∨j=3∨j=4∨j=5∨j=6∨j=7:=by omega
 rcases this with rfl|rfl|rfl|rfl|rfl|rfl|rfl|rfl<;>decide
theorem DI(b:List Int)(f:bR):(nW b f).length=b.length:=by unfold nW;split<;>simp
theorem Oj{b:List Int}(h:cN b)(f:bR):cN (nW b f):=by
 unfold nW;split
 ·intro x hx;rcases List.mem_or_eq_of_mem_set hx with hx|rfl
  ·exact h x hx
  ·unfold Go.Abs.bits;simp only;rw[mD];omega
 ·exact h
theorem Re{b:List Int}(h:cN b){f:bR}(hk:f.kind=6)(hl:0<b.length): ∃(k j:Nat) (hk:k<b.length),j<8∧ ∃a:Nat,a<256∧b[k]=(a:Int)∧nW b f=b.set k ((a^^^2^j:Nat):Int):=by
 obtain⟨k,e,Sb⟩:=lu f.gP (n:=b.length) (by omega);obtain⟨j,hj,ej,P0⟩:=pw8 f.bit;have hx:=h _ (List.getElem_mem Sb);obtain⟨a,ha⟩:=Int.eq_ofNat_of_zero_le hx.1;refine⟨k,j,Sb,hj,a,by omega,ha,?_⟩;unfold nW;rw[if_pos ⟨hk,hl⟩,e,Int.toNat_natCast,db Sb,ha,ej,VM (by omega) P0]
theorem AJ(a p:Nat):a^^^ (a^^^p)=p:=by rw[←Nat.xor_assoc,Nat.xor_self,Nat.zero_xor]
theorem VN(a j:Nat):a^^^2^j≠a:=by
 intro h;have:a^^^ (a^^^2^j)=a^^^a:=by rw[h]
 rw[AJ,Nat.xor_self]at this;have:=Nat.two_pow_pos j;omega
theorem tp(l:List Int):bytesOf (l.map (V.int .u8))=some (l.map fun n=>UInt8.ofNat n.toNat):=by
 unfold bytesOf;rw[List.map_map];induction l with
 |nil=>rfl
 |cons a l ih=>
  show aY (some (UInt8.ofNat a.toNat)::List.map (Go.Abs.byteOf∘V.int .u8) l)=_;rw[aY.eq_3,ih];rfl
@[simp] theorem Ho:ba X 51 [.int .u16 0]=some (.int .i64 0):=by
 refine aN Tryz.func51 rfl rfl ?_;simp(maxSteps:=10000000) (maxDischargeDepth:=30) (implicitDefEqProofs:=false)[jv]
@[simp] theorem RB(j:Nat)(hj:j<16):ba X 51 [.int .u16 ((2^j:Nat):Int)]=some (.int .i64 1):=by
 refine aN Tryz.func51 rfl rfl ?_;have:j=0∨j=1∨j=2∨j=3∨j=4∨j=5∨j=6∨j=7∨j=8∨j=9∨j=10∨j=11∨j=12∨j=13∨j=14∨j=15:=by omega
 have hz: ∀i,i<16→Go.Abs.bits .u16 .and ((2^i:Nat):Int) (IntKind.u16.wrap (((2^i:Nat):Int)-1))=0:=by decide+kernel
 have h0:=hz j hj;obtain⟨x,hx⟩: ∃x:Int,((2^j:Nat):Int)=x:=⟨_,rfl⟩;have hp:0<x:=by rw[←hx];have:=Nat.two_pow_pos j;omega
 rw[hx]at h0⊢;simp(maxSteps:=10000000) (maxDischargeDepth:=30) (implicitDefEqProofs:=false)[jv,hp,h0]
structure V6 (q:Request):Prop where
 ok:gJ q=true
 args:gB q.args
 data:gB q.data
theorem Hp{l:List Canon}(h: ∀c∈l,sj c∧fN c=true):gB l∧fR l=true:=
 ⟨fun c hc=>(h c hc).1,by unfold fR;rw[List.all_eq_true];exact fun c hc=>(h c hc).2⟩
theorem V7{v:Int}(h:0≤v∧v≤65535):sj ⟨0,v,0,0⟩∧fN ⟨0,v,0,0⟩=true:=⟨h,by simp[fN]⟩
theorem V8{v:Int}(h:0≤v∧v≤65535):sj ⟨2,v,0,0⟩∧fN ⟨2,v,0,0⟩=true:=⟨h,by simp[fN]⟩
theorem V9{r o:Int}(h:0≤r∧r<4)(g:0≤o∧o<32):sj ⟨1,0,r,o⟩∧fN ⟨1,0,r,o⟩=true:=by
 refine⟨⟨by simp,by simp⟩,?_⟩;have: ¬r= -1:=by omega
 simp[fN,this];omega
theorem RC(l:List Int)(k:Int):sj (Gc l k)∧fN (Gc l k)=true:=by
 unfold Gc;split
 ·have:=eu l (dG l (kv l k)) (n:=65536) (by omega);refine⟨⟨by simp,by simp⟩,?_⟩;simp[fN];omega
 ·exact DV l k Rl
theorem Gk(l:List Int)(k:Int)(i:Nat): ∀c∈ (iO l k i).1,sj c∧fN c=true:=by
 induction i with
 |zero=>intro c hc;cases hc
 |succ i ih=>
  intro c hc;rw[vq]at hc;rcases List.mem_append.1 hc with h|h
  ·exact ih c h
  ·rw[List.mem_singleton.1 h];exact RC _ _
theorem Hq(l:List Int)(n k:Int)(hn:0≤n):(gB (pP l n k)∧fR (pP l n k)=true)∧((pP l n k).length:Int)≤n:=by
 have h0:=eu l k (n:=n+1) (by omega);unfold pP;refine⟨Hp (Gk _ _ _),?_⟩;rw[yK];omega
theorem RD(l:List Int)(c:UInt8)(k:Int):sj (wI l c k)∧fN (wI l c k)=true:=by
 unfold wI;split
 ·exact V7 (by have:=eu l k (n:=5) (by omega);omega)
 split
 ·exact V8 (by have:=eu l k (n:=4) (by omega);omega)
 split
 ·exact V9 (by have:=eu l k (n:=2) (by omega);omega) (by have:=eu l (dG l k) (n:=4) (by omega);omega)
 ·exact DV l k Rl
theorem OR(l:List Int)(ks:List UInt8)(k:Int)(i:Nat): ∀c∈ (lN l ks k i).1,sj c∧fN c=true:=by
 induction i with
 |zero=>intro c hc;cases hc
 |succ i ih=>
  intro c hc;rw[lN]at hc;rcases List.mem_append.1 hc with h|h
  ·exact ih c h
  ·rw[List.mem_singleton.1 h];exact RD _ _ _
theorem OS(l:List Int)(k:Int):V6 (qA l k):=by
 have a1:=eu l k (n:=4) (by omega);have a2:=eu l (dG l k) (n:=6) (by omega);have a3:=eu l (Hi l k) (n:=50) (by omega);have a4:=eu l (dG l (Hi l k)) (n:=64) (by omega);have a5:=eu l (uN l k) (n:=6) (by omega);unfold qA;by_cases hs:l5 (g9 l (dG l k) 6)=1
 case neg=>
  rw[if_neg hs];have hr:0≤l5 (g9 l (dG l k) 6)∧l5 (g9 l (dG l k) 6)≤3:=by
   unfold l5;split
   ·omega
   split
   ·omega
   split<;>omega
  have ht:0≤(if l5 (g9 l (dG l k) 6)=2 then 1+g9 l (uN l k) 6 else 0)∧(if l5 (g9 l (dG l k) 6)=2 then 1+g9 l (uN l k) 6 else 0)≤6:=by split<;>omega
  refine⟨?_,.nil,.nil⟩;unfold gJ;simp only[JO,List.length_nil,Bool.and_eq_true,decide_eq_true_eq,true_and,Bool.true_and];omega
 rw[if_pos hs];have c1:=eu l (uN l k) (n:=16) (by omega);have cc:0≤TG l (uN l k)∧TG l (uN l k)≤15:=by unfold TG;omega
 have g1: ∀c∈ (yN l (uN l k)).1,sj c∧fN c=true:=OR _ _ _ _;have l1:(yN l (uN l k)).1.length≤3:=by
  have h3:=kK cc;have:(yN l (uN l k)).1.length=_:=yM l (b9 (TG l (uN l k))) _ _;omega
 have g2:(gB (wJ l (uN l k)).1∧fR (wJ l (uN l k)).1=true)∧(wJ l (uN l k)).1.length≤16:=by
  unfold wJ ZI;split
  ·have:=Hq l 6 (yN l (uN l k)).2 (by omega);exact⟨this.1,by have:=this.2;simp only;omega⟩
  ·exact⟨⟨.nil,rfl⟩,by simp⟩
 have g3:(gB (yO l (uN l k)).1∧fR (yO l (uN l k)).1=true)∧(yO l (uN l k)).1.length≤3:=by
  unfold yO VT;split
  ·have:=Hq l 3 (dG l (wJ l (uN l k)).2) (by omega);exact⟨this.1,by have:=this.2;simp only;omega⟩
  ·exact⟨Hp g1,l1⟩
 refine⟨?_,g3.1.1,g2.1.1⟩;unfold gJ;simp only[g2.1.2,g3.1.2,Bool.true_and,Bool.and_eq_true,decide_eq_true_eq];omega
theorem V6.lens{q:Request}(h:V6 q):q.args.length≤3∧q.data.length≤16:=by
 have:=h.ok;unfold gJ at this;simp only[Bool.and_eq_true,decide_eq_true_eq]at this;omega
theorem dW(n:Int):0≤IntKind.u8.wrap n∧IntKind.u8.wrap n≤255:=by rw[mD];omega
theorem cN.append{a b:List Int}(ha:cN a)(hb:cN b):cN (a++b):=fun x hx=>by
 rcases List.mem_append.1 hx with h|h
 ·exact ha x h
 ·exact hb x h
theorem cN.cons{x:Int}{a:List Int}(hx:0≤x∧x≤255)(ha:cN a):cN (x::a):=fun y hy=>by
 rcases List.mem_cons.1 hy with rfl|h
 ·exact hx
 ·exact ha y h
theorem cN.nil:cN []:=fun x hx=>by cases hx
theorem TJ(v:Int):cN (AB v):= .cons (dW _) (.cons (dW _) .nil)
theorem RE{x:Canon}(h:0≤x.tag∧x.tag≤255):cN (mB x):=by
 unfold mB;split
 ·exact .cons h (.cons (dW _) (TJ _))
 ·exact .cons h (.cons (by omega) (TJ _))
theorem OT{x:Canon}(h:fN x=true):0≤x.tag∧x.tag≤255:=by
 unfold fN at h;split at h
 ·omega
 split at h
 ·omega
 ·cases h
theorem Hr{l:List Canon}(h:fR l=true):cN (lx l):=by
 unfold lx;refine .cons (dW _) ?_;intro x hx;obtain⟨c,hc,hx⟩:=List.mem_flatMap.1 hx;exact RE (OT (List.all_eq_true.1 h c hc)) x hx
theorem DW{q:Request}(h:gJ q=true):cN (jQ q):=by
 have hc:fR q.args=true∧fR q.data=true:=by
  unfold gJ at h;simp only[Bool.and_eq_true]at h;obtain⟨-, -, -, -, -, -, -, -, -, -, -, -,h1, -,h2, -⟩:=h;exact⟨h1,h2⟩
 unfold jQ;have e3: ∀a b c:Int,cN [IntKind.u8.wrap a,IntKind.u8.wrap b,IntKind.u8.wrap c]:=fun a b c=> .cons (dW _) (.cons (dW _) (.cons (dW _) .nil));have e2: ∀a b:Int,cN [IntKind.u8.wrap a,IntKind.u8.wrap b]:=fun a b=> .cons (dW _) (.cons (dW _) .nil);have e6: ∀v:Int,cN (JQ v):=fun v=> .cons (dW _) (.cons (dW _) (.cons (dW _) (.cons (dW _) (.cons (dW _) (.cons (dW _) .nil)))));exact((((e3 _ _ _).append (e6 _)).append (e2 _ _)).append (Hr hc.1)).append (Hr hc.2)
theorem yX(q:Request):(jQ q).length=13+4*q.args.length+4*q.data.length:=by
 unfold jQ JQ;simp[pM];omega
theorem Wa(r:Reader):(qn r).args=(dm (D8 r)).2.1:=by simp only[qn]
theorem Wb(r:Reader):(qn r).data=(dm (dm (D8 r)).1).2.1:=by simp only[qn]
theorem Kg{b:List Int}(h:cN b):(ly b).1.args.length≤255∧(ly b).1.data.length≤255:=by
 unfold ly;split
 ·simp
 split
 ·simp
 ·have p6:cN (D8 ⟨b,false⟩).b:=iE (iE (iE (iE (iE (iE (r:=⟨b,false⟩) h 1) 1) 1) 6) 1) 1;simp only[Wa,Wb];exact⟨qm p6,qm (yz p6)⟩
@[simp] theorem BU(l:List Int)(gP bit:Int)(hl:l.length≤2000000)(haw:ba X 39 []=some (.bool true)): ∃h' k',bt X 12 [.sl false (l.map (V.int .i64)),.int .i64 gP,.int .i64 bit] qE 0=some (.bool true,h',k'):=by
 suffices H: ∃v h' k',bt X 12 [.sl false (l.map (V.int .i64)),.int .i64 gP,.int .i64 bit] qE 0=some (v,h',k')∧v= .bool true by
  obtain⟨v,h',k',e,rfl⟩:=H;exact⟨h',k',e⟩
 have hd0:iL l 0:=⟨by omega,by omega⟩;have hR:=sk l 0 hd0;have hG:=OS l 0;obtain⟨q,hq⟩: ∃q,qA l 0=q:=⟨_,rfl⟩;rw[hq]at hR hG;have hlen:=hG.lens;have hbp:=DW hG.ok;have xD:=yX q;have wy:fX q=(jQ q,0):=by unfold fX;rw[if_pos hG.ok]
 have ZV:=zN q.bD q.stop q.cz q.count q.pc q.call q.args q.data (by omega) (by omega) (fun i h=>hG.args _ (List.getElem_mem h)) (fun i h=>hG.data _ (List.getElem_mem h));rw[show Request.mk q.bD q.stop q.cz q.count q.pc q.call q.args q.data=q from rfl,wy]at ZV;simp only at ZV;have aqy: ∀x,jQ x=jQ q→x=q→True:=fun _ _ _=>trivial;obtain⟨b,hb⟩: ∃b,jQ q=b:=⟨_,rfl⟩;rw[hb]at hbp xD ZV;have hb9:b.length≤1000000000:=by omega
 have zj:0<b.length:=by omega
 have hF:=uw b 0 0 6 0 gP bit hb9;have Ug:=uw b 0 0 1 0 gP bit hb9;rw[show nW b ⟨0,0,1,0,gP,bit⟩=b from if_neg (fun h=>by cases h.1)]at Ug;obtain⟨k,j,hk,hj,a,ha,hka,p7⟩:=Re hbp (f:=⟨0,0,6,0,gP,bit⟩) rfl zj;have Xh:2^j<256:=by
  have:=Nat.pow_lt_pow_right (a:=2) (by omega) hj;omega
 have hO1:=RB j (by omega);have hxn:=VN a j;obtain⟨P,hP⟩: ∃P,2^j=P:=⟨_,rfl⟩;rw[hP]at p7 Xh hO1 hxn;have hcp:=Oj hbp ⟨0,0,6,0,gP,bit⟩;have kf:=DI b ⟨0,0,6,0,gP,bit⟩;have eZ:nW b ⟨0,0,6,0,gP,bit⟩≠b:=fun e=>by
  rw[p7]at e;have:(b.set k ((a^^^P:Nat):Int))[k]'(by simpa using hk)=b[k]:=by simp only[e]
  rw[List.getElem_set_self,hka]at this;exact hxn (by omega)
 obtain⟨c,hc⟩: ∃c,nW b ⟨0,0,6,0,gP,bit⟩=c:=⟨_,rfl⟩;rw[hc]at hF p7 hcp kf eZ;have hRd:=BF c (by omega) hcp;have JU:=Kg hcp;have jF:=Rd hcp;have Wc:(ly c).2=0→ ¬(ly c).1=q:=fun e1 e2=>by
  have:=jF e1;rw[e2,hb]at this;exact eZ this
 obtain⟨⟨⟨th,st,tr,co,pc,ca,ar,da⟩,e⟩,hrc⟩: ∃x,ly c=x:=⟨_,rfl⟩;rw[hrc]at hRd JU Wc;simp only at hRd JU Wc;have hSm:=BB th st tr co pc ca ar da q.bD q.stop q.cz q.count q.pc q.call q.args q.data (by omega) (by omega);rw[show Request.mk q.bD q.stop q.cz q.count q.pc q.call q.args q.data=q from rfl]at hSm;obtain⟨s,hs⟩: ∃s,bytesOf (b.map (V.int .u8))=some s:=⟨_,tp b⟩;obtain⟨q1,q2,q3,q4,q5,q6,q7,q8⟩:=q;simp only at hR ZV hSm;refine bh (X:=X) (K:=fun v _ _=>v= .bool true) Tryz.func12 rfl rfl ?_;simp(maxSteps:=10000000) (maxDischargeDepth:=30) (implicitDefEqProofs:=false)[hl,ZO,hR,ZV,hF,kf];refine fh (fun i S=>(S.f 1= .int .i64 (gP)∧S.f 2= .int .i64 (bit)∧S.f 7= .ptr 7 0 0∧S.h 7=some ⟨8,[.agg [.int .i64 (⟨q1,q2,q3,q4,q5,q6,q7,q8⟩:Request).bD,.int .i64 (⟨q1,q2,q3,q4,q5,q6,q7,q8⟩:Request).stop,.int .i64 (⟨q1,q2,q3,q4,q5,q6,q7,q8⟩:Request).cz,.int .i64 (⟨q1,q2,q3,q4,q5,q6,q7,q8⟩:Request).count,.int .i64 (⟨q1,q2,q3,q4,q5,q6,q7,q8⟩:Request).pc,.int .i64 (⟨q1,q2,q3,q4,q5,q6,q7,q8⟩:Request).call,.sl false ((⟨q1,q2,q3,q4,q5,q6,q7,q8⟩:Request).args.map Canon.enc),.sl false ((⟨q1,q2,q3,q4,q5,q6,q7,q8⟩:Request).data.map Canon.enc)]],true⟩∧S.f 8= .sl false ((b).map (V.int .u8))∧S.f 10= .sl false ((c).map (V.int .u8))∧S.f 11= .int .i64 (if i≤k then 0 else 1)∧S.f 34= .int .i64 ((b.length:Int))∧S.f 35= .int .i64 (i:Int)∧S.n=1100)∧True) (b.length) ?_ 0 (by simp) ?_
 ·rintro i S dQ ⟨eg,jn⟩;have dh:=dY i (by omega);by_cases bk:i<b.length
  ·have ZF:i<c.length:=by omega
   have hbi:=hbp _ (List.getElem_mem bk);obtain⟨x,hx⟩:=Int.eq_ofNat_of_zero_le hbi.1;by_cases zX:i=k
   ·subst zX;have Ew:c[i]=((a^^^P:Nat):Int):=by simp only[p7];rw[List.getElem_set_self]
    have jw:=Nat.xor_lt_two_pow (n:=8) (x:=a) (y:=P) (by omega) (by omega);have H9:Go.Abs.bits .u8 .xor (b[i]) (c[i])=(P:Int):=by rw[hka,Ew,VM ha (by omega),AJ]
    have hw:IntKind.u16.wrap (P:Int)=(P:Int):=wrap_u16 (by omega);have i1:i≤i:=Nat.le_refl _;have i2: ¬i+1≤i:=by omega
    simp(maxSteps:=10000000) (maxDischargeDepth:=30) (implicitDefEqProofs:=false)[eg,dQ,dh,bk,ZF,H9,hw,hO1,i1,i2]
   ·have Ew:c[i]=b[i]:=by simp only[p7];rw[List.getElem_set_ne (fun e=>zX e.symm)]
    have H9:Go.Abs.bits .u8 .xor (b[i]) (c[i])=0:=by rw[Ew,hx,VM (by omega) (by omega),Nat.xor_self];rfl
    have vt:IntKind.u16.wrap 0=0:=rfl;by_cases hle:i≤k
    ·have i2:i+1≤k:=by omega
     simp(maxSteps:=10000000) (maxDischargeDepth:=30) (implicitDefEqProofs:=false)[eg,dQ,dh,bk,ZF,H9,vt,Ho,hle,i2]
    ·have i2: ¬i+1≤k:=by omega
     simp(maxSteps:=10000000) (maxDischargeDepth:=30) (implicitDefEqProofs:=false)[eg,dQ,dh,bk,ZF,H9,vt,Ho,hle,i2]
  ·have mP:b.length=i:=by omega
   subst mP;have hle: ¬b.length≤k:=by omega
   by_cases he:e=0
   ·have hd:=Wc he;have he':=eq_true he;subst he;simp only[hd,decide_false]at hSm;simp(maxSteps:=10000000) (maxDischargeDepth:=30) (implicitDefEqProofs:=false)[eg,dQ,dh,bk,hle,hRd,hSm,Ug,hs,haw]
   ·simp(maxSteps:=10000000) (maxDischargeDepth:=30) (implicitDefEqProofs:=false)[eg,dQ,dh,bk,hle,hRd,he,Ug,hs,haw]
 ·simp(maxSteps:=10000000) (maxDischargeDepth:=30) (implicitDefEqProofs:=false)[]
end Go.Proofs.YtdngefmliibcgaaGreat
