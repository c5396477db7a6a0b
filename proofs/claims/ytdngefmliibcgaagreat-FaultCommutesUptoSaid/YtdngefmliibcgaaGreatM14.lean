/- Part of a proof: S1. -/
import Derived.Test.YtdngefmliibcgaaGreatM05
set_option linter.all false
set_option maxRecDepth 20000
set_option maxHeartbeats 20000000
namespace Go.Proofs.YtdngefmliibcgaaGreat
open Go Go.Abs Go.Abs.kX Qf
variable  {n i p j k r a b C L:Nat}{aD an:List Int}{l xs:List Cell}{α:Type}{x:cy}{m:aF}{ids:Nat->Nat}{vB vK vT:V}
@[simp]def Dv(v n:Int)(hn:1<=n/\n<=4611686018427387904):bW X 84 [v,n]=some (.int .i64 (v % n)):=by
 refine aaA ?_;have h0:(n=0)=False:=by simp;omega
 have h1:=acD v (show n≠0 by omega);have h2:=abW v (show 0<n by omega);rw[v9 (show 0<n by omega)];by_cases hc:v.tmod n<0
 ·simp[h0,hc];rw[v9 (show 0<n by omega),if_pos hc]at h1 h2;exact wrap_i64 (by omega)
 ·simp[h0,hc]
@[simp]def aoq(v n:Int)(hn:1<=n/\n<=4611686018427387904):bW X 98 [v,n]=some (.int .i64 (v % n)):=by
 refine aaA ?_;have h0:(n=0)=False:=by simp;omega
 have h1:=acD v (show n≠0 by omega);have h2:=abW v (show 0<n by omega);rw[v9 (show 0<n by omega)];by_cases hc:v.tmod n<0
 ·simp[h0,hc];rw[v9 (show 0<n by omega),if_pos hc]at h1 h2;exact wrap_i64 (by omega)
 ·simp[h0,hc]
@[simp]def asa(v n:Int)(hn:1<=n/\n<=4611686018427387904):bW X 27 [v,n]=some (.int .i64 (v % n)):=by
 refine aaA ?_;simp[hn]
@[simp]def af9(ey dm:Int):bW X 165 [KKo ey dm]=some (.bool (decide (ey<=2))):=by
 refine aaA ?_;simp[]
@[simp]def ajb(ey dm:Int):bW X 223 [KKo ey dm]=some (.bool (decide (ey<=2))):=by
 refine aaA ?_;simp[]
@[simp]def aga(an:List Int)(hm:an.length<=1000000000):bW X 87 [an]=some (.bool (kF an)):=by
 refine aaA ?_;simp[];refine cZ (fun i S=>(S.f 0=an/\S.f 5=an/\S.f 6=((an).length:Int)/\S.f 7=(i:Int)/\S.n=1100)/\((an.take i).all BE=true)) (an.length) (by omega) ?_ ?_ ?_
 ·rintro i S ⟨pq,ie,bL⟩ ⟨df,fp⟩;have key: ¬(1<=an[i]/\an[i]<=32)->kF an=false:=fun h=>by
   unfold kF;rw[vk bL (by simpa[BE] using h)];rfl
  simp[df,ie,bL, -List.all_eq_true];rw[vn bL,fp];refine⟨fun h1=>⟨fun h2=>key (by omega),fun h2=>by simp[BE,h1,h2]⟩,fun h1=>key (by omega)⟩
 ·rintro S ⟨df,fp⟩;simp[df]<;>(
   rw[abi]at fp;unfold kF;rw[fp];by_cases h0:1<=an.length
   ·refine⟨fun _=>by simp[h0];omega,fun h=>by omega⟩
   ·refine⟨fun h=>by omega,fun _=>by simp[h0]⟩)
 ·simp[]
@[simp]def abr(an:List Int)(hm:an.length<=1000000000):bW X 216 [an]=some (.bool (kF an)):=by
 refine aaA ?_;simp[];refine cZ (fun i S=>(S.f 0=an/\S.f 5=an/\S.f 6=((an).length:Int)/\S.f 7=(i:Int)/\S.n=1100)/\((an.take i).all BE=true)) (an.length) (by omega) ?_ ?_ ?_
 ·rintro i S ⟨pq,ie,bL⟩ ⟨df,fp⟩;have key: ¬(1<=an[i]/\an[i]<=32)->kF an=false:=fun h=>by
   unfold kF;rw[vk bL (by simpa[BE] using h)];rfl
  simp[df,ie,bL, -List.all_eq_true];rw[vn bL,fp];refine⟨fun h1=>⟨fun h2=>key (by omega),fun h2=>by simp[BE,h1,h2]⟩,fun h1=>key (by omega)⟩
 ·rintro S ⟨df,fp⟩;simp[df]<;>(
   rw[abi]at fp;unfold kF;rw[fp];by_cases h0:1<=an.length
   ·refine⟨fun _=>by simp[h0];omega,fun h=>by omega⟩
   ·refine⟨fun h=>by omega,fun _=>by simp[h0]⟩)
 ·simp[]
@[simp]def Ih(an:List Int)(hs:an.length<=1000)(hb: ∀x∈an,0<=x/\x<=1000000):bW X 106 [an]=some (.int .i64 (total an)):=by
 refine aaA ?_;simp[];refine cZ (fun i S=>(S.f 3= .int .i64 (total (an.take i))/\S.f 6=an/\S.f 7=((an).length:Int)/\S.f 8=(i:Int)/\S.n=1100)/\(0<=total (an.take i)/\total (an.take i)<=1000000*i)) (an.length) (by omega) ?_ ?_ ?_
 ·rintro i S ⟨pq,ie,bL⟩ ⟨df,fp⟩;simp[df,ie,bL]<;>(
   have hx:=hb _ (aaL bL);rw[fD bL,ub];rw[wrap_i64 (by omega)];exact⟨rfl,by omega,by omega⟩)
 ·rintro S ⟨df,fp⟩;simp[df]
 ·simp[]<;>(
   simp[total])
@[simp]def abt(an:List Int)(fR iP:Int):bW X 180 [.sl false (an.map (V.int .i64)),KKB fR iP]=some (.bool (inside an fR iP)):=by
 refine aaA ?_;by_cases h:0<=fR/\fR<an.length
 ·obtain⟨k,rfl⟩: ∃k:Nat,fR=k:=⟨fR.toNat,by omega⟩;have hk:k<an.length:=by omega
  simp[hk];unfold inside;simp[List.getD,hk];by_cases h0:0<=iP<;>simp[h0]<;>omega
 ·have:inside an fR iP=false:=by
   unfold inside;simp;intros;omega
  rw[this];by_cases h0:0<=fR
  ·have h1:(fR<an.length)=False:=by simp;omega
   simp[h0,h1]
  ·simp[h0]
@[simp]def XA(an:List Int)(fR iP:Int):bW X 178 [.sl false (an.map (V.int .i64)),KKB fR iP]=some (.bool (inside an fR iP)):=by
 refine aaA ?_;by_cases h:0<=fR/\fR<an.length
 ·obtain⟨k,rfl⟩: ∃k:Nat,fR=k:=⟨fR.toNat,by omega⟩;have hk:k<an.length:=by omega
  simp[hk];unfold inside;simp[List.getD,hk];by_cases h0:0<=iP<;>simp[h0]<;>omega
 ·have:inside an fR iP=false:=by
   unfold inside;simp;intros;omega
  rw[this];by_cases h0:0<=fR
  ·have h1:(fR<an.length)=False:=by simp;omega
   simp[h0,h1]
  ·simp[h0]
@[simp]def asb(an:List Int)(i:Int)(hz:oO an)(hi:0<=i/\i<=1000000):bW X 105 [an,i]=some (.dM [KKy ((py an i 0).1),.int .i64 ((py an i 0).2)]):=by
 refine aaA ?_;have hz':=hz.le;simp[];refine cZ (fun k S=>(S.f 1= .int .i64 (i-total (an.take k))/\S.f 4= .ptr 4 0 0/\S.h 4=some ⟨2,[KKB 0 0],true⟩/\S.f 8=an/\S.f 9=((an).length:Int)/\S.f 10=(k:Int)/\S.n=1100)/\(py an i 0=py (an.drop k) (i-total (an.take k)) k/\0<=total (an.take k)/\total (an.take k)<=32*k)) (an.length) (by omega) ?_ ?_ ?_
 ·rintro k S ⟨IN,Ey,kG⟩ ⟨df,fp⟩;have he:=hz.elem k kG;obtain⟨sF,O2,hP3⟩:=fp;have hs:py (an.drop k) (i-total (an.take k)) k=if 0<=i-total (an.take k)/\i-total (an.take k)<an[k] then(⟨k,i-total (an.take k)⟩,0) else py (an.drop (k+1)) (i-total (an.take k)-an[k]) (k+1):=by
   rw[drop_cons kG];rfl
  have ht:total (an.take (k+1))=total (an.take k)+an[k]:=by rw[fD kG,ub]
  have hw:IntKind.i64.wrap (i-total (an.take k)-an[k])=i-total (an.take k)-an[k]:=wrap_i64 (by omega);rw[sF,hs];simp[df,Ey,kG,ht,hw];have hc:(0<=i-total (an.take k)/\i-total (an.take k)<an[k])↔(total (an.take k)<=i/\i-total (an.take k)<an[k]):=by omega
  have e3:i-(total (an.take k)+an[k])=i-total (an.take k)-an[k]:=by omega
  refine⟨fun h1=>⟨fun h2=> ?_,fun h2=>⟨by omega,?_,by omega,by omega⟩⟩,fun h1=>⟨by omega,?_,by omega,by omega⟩⟩
  ·rw[if_pos ⟨by omega,h2⟩];simp
  ·rw[if_neg (by omega),e3]
  ·rw[if_neg (by omega),e3]
 ·rintro S ⟨df,fp⟩;simp[df]<;>(
   rw[fp.1];simp[py])
 ·simp[]<;>(
   simp[total])
@[simp]def ajc(a b:List Cell)(hm:a.length<=1000000000):bW X 166 [a,b]=some (.bool (decide (a=b))):=by
 refine aaA ?_;simp[];refine⟨fun h e=>h (by rw[e]),fun hl=> ?_⟩;have hl:a.length=b.length:=by omega
 refine cZ (fun i S=>(S.f 0=a/\S.f 1=b/\S.f 12=((a).length:Int)/\S.f 13=(i:Int)/\S.n=1100)/\(a.take i=b.take i)) (a.length) (by omega) ?_ ?_ ?_
 ·rintro i S ⟨pq,ie,bL⟩ ⟨df,fp⟩;have hb:i<b.length:=by omega
  simp[df,ie,bL,hb];refine⟨fun h e=> ?_,fun e1 e2=>BD bL hb fp ((Cell.eq_iff _ _).2 ⟨e1,e2⟩)⟩;subst e;simp at h
 ·rintro S ⟨df,fp⟩;simp[df]<;>(
   exact yw (i:=a.length) (by simp) hl fp)
 ·simp[]
@[simp]def ajd(tE:List Int)(abu:Int)(zA:List Int)(abv:Int)(hm:tE.length<=1000000000):bW X 81 [KKc tE abu,KKc zA abv]=some (.bool (decide ((Layout.mk tE abu)=(Layout.mk zA abv)))):=by
 refine aaA ?_;simp[];refine⟨fun hk=>⟨fun h e _=>h (by rw[e]),fun hl=> ?_⟩,fun h _ e=>h e⟩;have hl:tE.length=zA.length:=by omega
 refine cZ (fun i S=>(S.f 2= .ptr 2 0 0/\S.h 2=some ⟨2,[KKc tE abu],true⟩/\S.f 3= .ptr 3 0 0/\S.h 3=some ⟨2,[KKc zA abv],true⟩/\S.f 22=((tE).length:Int)/\S.f 23=(i:Int)/\S.n=1100)/\(tE.take i=zA.take i)) (tE.length) (by omega) ?_ ?_ ?_
 ·rintro i S ⟨pq,ie,bL⟩ ⟨df,fp⟩;have hb:i<zA.length:=by omega
  simp[df,ie,bL,hb];refine⟨fun h e=> ?_,fun e1=>BD bL hb fp e1⟩;subst e;simp at h
 ·rintro S ⟨df,fp⟩;simp[df]<;>(
   exact⟨yw (i:=tE.length) (by simp) hl fp,hk⟩)
 ·simp[]
@[simp]def XB(aw:List Int)(bK:Int)(an:List Int)(addr:Int)(hL:ov aw an)(ha:0<=addr/\addr<=65535):bW X 171 [KKc aw bK,.sl false (an.map (V.int .i64)),.int .i64 addr]=some (.dM [KKy ((resolve aw an addr).1),.bool ((resolve aw an addr).2)]):=by
 refine aaA ?_;have h1:=hL.sz.le;have h2:=hL.len;simp[];refine cZ (fun k S=>(S.f 1=an/\S.f 2= .int .i64 addr/\S.f 6= .ptr 6 0 0/\S.h 6=some ⟨2,[KKB 0 0],true⟩/\S.f 11=aw/\S.f 12=((aw).length:Int)/\S.f 13=(k:Int)/\S.n=1100)/\(resolve aw an addr=rQ (aw.drop k) (an.drop k) addr k)) (aw.length) (by omega) ?_ ?_ ?_
 ·rintro k S ⟨IN,Ey,kG⟩ ⟨df,fp⟩;have hk:k<an.length:=by omega
  have he:=hL.sz.elem k hk;have hb:=hL.base k kG hk;have hs:rQ (aw.drop k) (an.drop k) addr k=if aw[k]<=addr/\addr<aw[k]+an[k] then(⟨k,addr-aw[k]⟩,true) else rQ (aw.drop (k+1)) (an.drop (k+1)) addr (k+1):=by
   rw[drop_cons kG,drop_cons hk];rfl
  have tz:IntKind.i64.wrap (aw[k]+an[k])=aw[k]+an[k]:=wrap_i64 (by omega);have Ht:IntKind.i64.wrap (addr-aw[k])=addr-aw[k]:=wrap_i64 (by omega);simp[df,Ey,kG,hk,tz,Ht];rw[fp,hs];exact⟨fun a1=>⟨fun a2=>by rw[if_pos ⟨a1,a2⟩];simp,fun a2=>by rw[if_neg (by omega)]⟩,fun a1=>by rw[if_neg (by omega)]⟩
 ·rintro S ⟨df,fp⟩;simp[df]<;>(
   rw[fp];simp[rQ])
 ·simp[]<;>(
   rfl)
@[simp]def VT(aw:List Int)(bK:Int)(an:List Int)(addr:Int)(hL:ov aw an)(ha:0<=addr/\addr<=65535):bW X 267 [KKc aw bK,.sl false (an.map (V.int .i64)),.int .i64 addr]=some (.dM [KKy ((resolve aw an addr).1),.bool ((resolve aw an addr).2)]):=by
 refine aaA ?_;have h1:=hL.sz.le;have h2:=hL.len;simp[];refine cZ (fun k S=>(S.f 1=an/\S.f 2= .int .i64 addr/\S.f 6= .ptr 6 0 0/\S.h 6=some ⟨2,[KKB 0 0],true⟩/\S.f 11=aw/\S.f 12=((aw).length:Int)/\S.f 13=(k:Int)/\S.n=1100)/\(resolve aw an addr=rQ (aw.drop k) (an.drop k) addr k)) (aw.length) (by omega) ?_ ?_ ?_
 ·rintro k S ⟨IN,Ey,kG⟩ ⟨df,fp⟩;have hk:k<an.length:=by omega
  have he:=hL.sz.elem k hk;have hb:=hL.base k kG hk;have hs:rQ (aw.drop k) (an.drop k) addr k=if aw[k]<=addr/\addr<aw[k]+an[k] then(⟨k,addr-aw[k]⟩,true) else rQ (aw.drop (k+1)) (an.drop (k+1)) addr (k+1):=by
   rw[drop_cons kG,drop_cons hk];rfl
  have Ht:IntKind.i64.wrap (addr-aw[k])=addr-aw[k]:=wrap_i64 (by omega);simp[df,Ey,kG,hk,Ht];rw[fp,hs];exact⟨fun a1=>⟨fun a2=>by rw[if_pos ⟨a1,by omega⟩];simp,fun a2=>by rw[if_neg (by omega)]⟩,fun a1=>by rw[if_neg (by omega)]⟩
 ·rintro S ⟨df,fp⟩;simp[df]<;>(
   rw[fp];simp[rQ])
 ·simp[]<;>(
   rfl)
def FU(n:Nat)(p:Nat->Bool):(List.range (n+1)).all p=((List.range n).all p&&p n):=by
 rw[acH,aeR];simp
def CF{p:Nat->Bool}(h:i<n)(hp:p i=false):(List.range n).all p=false:=by
 rw[<-Bool.not_eq_true,aaP];intro m8;have:=m8 i (List.mem_range.2 h);rw[hp]at this;cases this
def vo(aD an:List Int)(i j:Nat):Bool:= !(decide (nth aD j<=nth aD i+nth an i)&&decide (nth aD i<=nth aD j+nth an j))
def r9(aD an:List Int)(i:Nat):ud aD an i=(decide (0<=nth aD i/\nth aD i<=512-nth an i)&& (List.range i).all (vo aD an i)):=rfl
def Dw(aD an:List Int)(k:Nat):Bool:=(List.range k).all (ud aD an)
def Nc(aD an:List Int)(k:Nat):Dw aD an (k+1)=(Dw aD an k&&ud aD an k):=FU ..
def Ez(h:i<aD.length)(hp:ud aD an i=false):iX aD an=false:=by
 unfold iX;rw[CF h hp];simp
def aje(aD an:List Int)(i j:Nat):Bool:=(List.range j).all (vo aD an i)
def Tc(aD an:List Int)(i j:Nat):aje aD an i (j+1)=(aje aD an i j&&vo aD an i j):=FU ..
def abw(h:j<i)(hp:vo aD an i j=false):ud aD an i=false:=by
 rw[r9,CF h hp];simp
@[simp]def agb(aw:List Int)(bK:Int)(an:List Int)(hm:aw.length<=1000000000/\an.length<=1000000000):bW X 69 [KKc aw bK,.sl false (an.map (V.int .i64))]=some (.bool (iX aw an)):=by
 refine aaA ?_;have sT:=hm.1;have vW:=hm.2;by_cases hz:kF an=true
 case neg=>
  have:iX aw an=false:=by unfold iX;simp[hz]
  simp[vW,hz,this]
 by_cases hl:aw.length=an.length
 case neg=>
  have h3:((aw.length:Int)=an.length)=False:=by simp;omega
  have:iX aw an=false:=by unfold iX;simp[hl]
  simp[vW,hz,h3,this]
 have hS:=nP.1 hz;have h4:=hS.le;simp[vW,hz,hl];refine cZ (fun i S=>(S.f 1=an/\S.f 2= .ptr 2 0 0/\S.h 2=some ⟨2,[KKc aw bK],true⟩/\S.f 21=aw/\S.f 22=((aw).length:Int)/\S.f 23=(i:Int)/\S.n=1100)/\(Dw aw an i=true)) (aw.length) (by omega) ?_ ?_ ?_
 ·rintro i S ⟨pq,ie,bL⟩ ⟨df,fp⟩;have xS:i<an.length:=by omega
  have he:=hS.elem i xS;have tz:IntKind.i64.wrap (512-an[i])=512-an[i]:=wrap_i64 (by omega);have bad: ¬(0<=aw[i]/\aw[i]<=512-an[i])->iX aw an=false:=fun h=>by
   refine Ez bL ?_;rw[r9,dC bL,dC xS,decide_eq_false h,acB]
  have bnx:i<=aw.length:=by omega
  simp[df,pq,bL,xS,tz];refine⟨fun a1=>⟨fun a2=>bad (by omega),fun a2=> ?_⟩,fun a1=>bad (by omega)⟩;have FV:IntKind.i64.wrap (aw[i]+an[i])=aw[i]+an[i]:=wrap_i64 (by omega);refine cZ (fun j S=>(S.f 1=an/\S.f 2= .ptr 2 0 0/\S.h 2=some ⟨2,[KKc aw bK],true⟩/\S.f 5= .int .i64 (i)/\S.f 6= .int .i64 (aw[i])/\S.f 21=aw/\S.f 22=((aw).length:Int)/\S.f 23=(i:Int)/\S.f 42= .sl false ((aw.take i).map (V.int .i64))/\S.f 43= .int .i64 (i)/\S.f 44=(j:Int)/\S.n=1100)/\(aje aw an i j=true)) (i) (by omega) ?_ ?_ ?_
  ·rintro j S ⟨mz,vp,jP⟩ ⟨mA,sF⟩;have tH:j<aw.length:=by omega
   have FI:j<an.length:=by omega
   have hej:=hS.elem j FI;have hbj:0<=aw[j]/\aw[j]<=512-an[j]:=by
    have h1:=List.all_eq_true.1 fp j (List.mem_range.2 (by omega));rw[r9,dC tH,dC FI,aaF,decide_eq_true_eq]at h1;exact h1.1
   have Ht:IntKind.i64.wrap (aw[j]+an[j])=aw[j]+an[j]:=wrap_i64 (by omega);have Yz:vo aw an i j= !(decide (aw[j]<=aw[i]+an[i])&&decide (aw[i]<=aw[j]+an[j])):=by
    unfold vo;rw[dC bL,dC xS,dC tH,dC FI]
   simp[pq,mA,vp,jP,xS,FI,FV,Ht];have asc:aw[j]<=aw[i]+an[i]->aw[i]<=aw[j]+an[j]->iX aw an=false:=fun g1 g2=>Ez bL (abw jP (by rw[Yz];simp[g1,g2]));rw[Tc,sF,Yz];refine⟨fun g1=>⟨fun g2=>asc g1 g2,fun g2=> ?_⟩,fun g1=> ?_⟩
   ·have: ¬aw[i]<=aw[j]+an[j]:=by omega
    simp[this]
   ·have: ¬aw[j]<=aw[i]+an[i]:=by omega
    simp[this]
  ·rintro S ⟨mA,sF⟩;have lj:ud aw an i=true:=by
    rw[r9,dC bL,dC xS];have h3:(List.range i).all (vo aw an i)=true:=sF;rw[h3];simp[a1,a2]
   simp[bL,mA,ie];have ln:Dw aw an (i+1)=true:=by rw[Nc,fp,lj];rfl
   first|exact⟨bL,ln⟩|exact ln
  ·have lO:min i aw.length=i:=by omega
   simp[df];first|exact⟨by omega,rfl⟩|rfl
 ·rintro S ⟨df,fp⟩;simp[df]<;>(
   have h3:(List.range aw.length).all (ud aw an)=true:=fp;unfold iX;rw[hz,h3];simp[hl])
 ·simp[]<;>(
   simp[Dw,hl])
@[simp]def abx(aw:List Int)(bK:Int)(an:List Int)(hm:aw.length<=1000000000/\an.length<=1000000000):bW X 145 [KKc aw bK,.sl false (an.map (V.int .i64))]=some (.bool (iX aw an)):=by
 refine aaA ?_;have sT:=hm.1;have vW:=hm.2;by_cases hz:kF an=true
 case neg=>
  have:iX aw an=false:=by unfold iX;simp[hz]
  simp[vW,hz,this]
 by_cases hl:aw.length=an.length
 case neg=>
  have h3:((aw.length:Int)=an.length)=False:=by simp;omega
  have:iX aw an=false:=by unfold iX;simp[hl]
  simp[vW,hz,h3,this]
 have hS:=nP.1 hz;have h4:=hS.le;simp[vW,hz,hl];refine cZ (fun i S=>(S.f 1=an/\S.f 2= .ptr 2 0 0/\S.h 2=some ⟨2,[KKc aw bK],true⟩/\S.f 20=aw/\S.f 21=((aw).length:Int)/\S.f 22=(i:Int)/\S.n=1100)/\(Dw aw an i=true)) (aw.length) (by omega) ?_ ?_ ?_
 ·rintro i S ⟨pq,ie,bL⟩ ⟨df,fp⟩;have xS:i<an.length:=by omega
  have he:=hS.elem i xS;have bad: ¬(0<=aw[i]/\aw[i]<=512-an[i])->iX aw an=false:=fun h=>by
   refine Ez bL ?_;rw[r9,dC bL,dC xS,decide_eq_false h,acB]
  by_cases Lw:0<=aw[i]/\aw[i]<512
  case neg=>
   have:iX aw an=false:=bad (by omega);by_cases Ps:0<=aw[i]
   ·have D4:(512<=aw[i])=True:=by simp;omega
    simp[df,bL,this,Ps,D4]
   ·have D4:(0<=aw[i])=False:=by simp;omega
    simp[df,bL,xS,this,D4]
  obtain⟨b1,b2⟩:=Lw;have hb3:(512<=aw[i])=False:=by simp;omega
  have FV:IntKind.i64.wrap (aw[i]+an[i])=aw[i]+an[i]:=wrap_i64 (by omega);simp[df,bL,xS,FV,b1,hb3];by_cases b4:512<aw[i]+an[i]
  ·simp only[b4,bad (show¬_ by omega),true_implies,true_and];exact⟨fun h=>by omega,fun h=>by omega⟩
  have b5:aw[i]+an[i]<=512:=by omega
  simp only[b4,b5,false_implies,true_implies,true_and];refine⟨?_,fun h=>by omega⟩;refine cZ (fun j S=>(S.f 1=an/\S.f 2= .ptr 2 0 0/\S.h 2=some ⟨2,[KKc aw bK],true⟩/\S.f 5= .int .i64 (i)/\S.f 6= .int .i64 (aw[i])/\S.f 20=aw/\S.f 21=((aw).length:Int)/\S.f 22=(i:Int)/\S.f 42= .int .i64 (i)/\S.f 43=(j:Int)/\S.n=1100)/\(aje aw an i j=true)) (i) (by omega) ?_ ?_ ?_
  ·rintro j S ⟨mz,vp,jP⟩ ⟨mA,sF⟩;have tH:j<aw.length:=by omega
   have FI:j<an.length:=by omega
   have hej:=hS.elem j FI;have hbj:0<=aw[j]/\aw[j]<=512-an[j]:=by
    have h1:=List.all_eq_true.1 fp j (List.mem_range.2 (by omega));rw[r9,dC tH,dC FI,aaF,decide_eq_true_eq]at h1;exact h1.1
   have Ht:IntKind.i64.wrap (aw[j]+an[j])=aw[j]+an[j]:=wrap_i64 (by omega);have Yz:vo aw an i j= !(decide (aw[j]<=aw[i]+an[i])&&decide (aw[i]<=aw[j]+an[j])):=by
    unfold vo;rw[dC bL,dC xS,dC tH,dC FI]
   simp[mA,vp,jP,xS,FI,tH,FV,Ht];have asc:aw[j]<=aw[i]+an[i]->aw[i]<=aw[j]+an[j]->iX aw an=false:=fun g1 g2=>Ez bL (abw jP (by rw[Yz];simp[g1,g2]));rw[Tc,sF,Yz];refine⟨fun g1=>⟨fun g2=>asc g2 g1,fun g2=> ?_⟩,fun g1=> ?_⟩
   ·have: ¬aw[j]<=aw[i]+an[i]:=by omega
    simp[this]
   ·have: ¬aw[i]<=aw[j]+an[j]:=by omega
    simp[this]
  ·rintro S ⟨mA,sF⟩;have lj:ud aw an i=true:=by
    rw[r9,dC bL,dC xS];have h3:(List.range i).all (vo aw an i)=true:=sF;have h4:0<=aw[i]/\aw[i]<=512-an[i]:=by omega
    rw[h3];simp[h4]
   simp[bL,mA,ie];have ln:Dw aw an (i+1)=true:=by rw[Nc,fp,lj];rfl
   first|exact⟨bL,ln⟩|exact ln
  ·simp[df]<;>(
    rfl)
 ·rintro S ⟨df,fp⟩;simp[df]<;>(
   have h3:(List.range aw.length).all (ud aw an)=true:=fp;unfold iX;rw[hz,h3];simp[hl])
 ·simp[]<;>(
   simp[Dw,hl])
@[simp]def XC(aw:List Int)(bK:Int)(an:List Int)(fR iP:Int)(hl:aw.length=an.length)(hb: ∀i (h:i<aw.length), -1000<=aw[i]/\aw[i]<=1000)(hz: ∀i (h:i<an.length),an[i]<=1000):bW X 107 [KKc aw bK,.sl false (an.map (V.int .i64)),KKB fR iP]=some (.dM [.int .i64 (if inside an fR iP=true then nth aw fR.toNat+iP else 0),.int .i64 (if inside an fR iP=true then 0 else 6)]):=by
 refine aaA ?_;by_cases h:inside an fR iP=true
 ·obtain⟨k,hk,rfl,h1,h2⟩:=ld.1 h;have xX:k<aw.length:=by omega
  have g1:=hb k xX;have g2:=hz k hk;have hw:IntKind.i64.wrap (aw[k]+iP)=aw[k]+iP:=wrap_i64 (by omega);simp[h,xX,hw,dC xX]
 ·simp[h]
@[simp]def CG(aw:List Int)(bK:Int)(an:List Int)(fR iP:Int)(hl:aw.length=an.length)(hb: ∀i (h:i<aw.length), -1000<=aw[i]/\aw[i]<=1000)(hz: ∀i (h:i<an.length),an[i]<=1000):bW X 102 [KKc aw bK,.sl false (an.map (V.int .i64)),KKB fR iP]=some (.dM [.int .i64 (if inside an fR iP=true then nth aw fR.toNat+iP else 0),.int .i64 (if inside an fR iP=true then 0 else 6)]):=by
 refine aaA ?_;by_cases h:inside an fR iP=true
 ·obtain⟨k,hk,rfl,h1,h2⟩:=ld.1 h;have xX:k<aw.length:=by omega
  have g1:=hb k xX;have g2:=hz k hk;have hw:IntKind.i64.wrap (aw[k]+iP)=aw[k]+iP:=wrap_i64 (by omega);have hk3:((aw.length:Int)<=k)=False:=by simp;omega
  simp[h,xX,hw,dC xX,hk3]
 ·simp[h]
@[simp]def agc(aw:List Int)(bK:Int)(an:List Int)(ey dm:Int)(hL:ov aw an)(hc:0<=dm/\dm<=65535):bW X 90 [KKc aw bK,.sl false (an.map (V.int .i64)),KKo ey dm]=some ((KKr (canon aw bK an (Cell.mk ey dm)):V)):=by
 refine aaA ?_;have hw:IntKind.i64.wrap dm=dm:=wrap_i64 (by omega);by_cases h0:ey=0
 ·simp[h0,canon]
 by_cases h2:ey=2
 ·simp[h2,canon]
 ·simp[h0,h2,hL,hc,hw,canon];cases hr:(resolve aw an dm).2<;>simp
@[simp]def aby(aw:List Int)(bK:Int)(an:List Int)(ey dm:Int)(hL:ov aw an)(hc:0<=dm/\dm<=65535)(ht:ey=0\/ey=1\/ey=2):bW X 234 [KKc aw bK,.sl false (an.map (V.int .i64)),KKo ey dm]=some ((KKr (canon aw bK an (Cell.mk ey dm)):V)):=by
 refine aaA ?_;have hw:IntKind.i64.wrap dm=dm:=wrap_i64 (by omega);rcases ht with rfl|rfl|rfl
 ·simp[canon]
 ·simp[hL,hc,hw,canon];cases hr:(resolve aw an dm).2<;>simp
 ·simp[canon]
@[simp]def abz(an:List Int)(lH uM jW lp:Int):bW X 175 [.sl false (an.map (V.int .i64)),KKx lH uM jW lp]=some (.bool (proper an (Canon.mk lH uM jW lp))):=by
 refine aaA ?_;by_cases h0:lH=0
 ·simp[h0,proper];by_cases h:jW=0<;>simp[h]
 by_cases h2:lH=2
 ·simp[h2,proper];by_cases h:jW=0<;>simp[h]
 by_cases h1:lH=1
 ·simp[h1,proper];by_cases h:uM=0<;>simp[h]
 ·simp[h0,h1,h2,proper]
@[simp]def aor(aw:List Int)(bK:Int)(an:List Int)(lH uM jW lp:Int)(hL:ov aw an):bW X 176 [KKc aw bK,.sl false (an.map (V.int .i64)),KKx lH uM jW lp]=some (.dM [KKf ((raw aw bK an (Canon.mk lH uM jW lp)).1),.int .i64 ((raw aw bK an (Canon.mk lH uM jW lp)).2)]):=by
 refine aaA ?_;cases hp:proper an (Canon.mk lH uM jW lp) with
 |false=>simp[hp,raw]
 |true=>
  by_cases h0:lH=0
  ·subst h0;simp[hp,raw]
  by_cases h2:lH=2
  ·subst h2;simp[hp,raw]
  have h1:lH=1:=by
   unfold proper at hp;by_cases h1:lH=1
   ·exact h1
   ·simp[h0,h2,h1]at hp
  have xy:inside an jW lp=true:=by
   unfold proper at hp;simp[h1]at hp;exact hp.2
  obtain⟨k,hk,rfl,a1,a2⟩:=ld.1 xy;have xX:k<aw.length:=by have:=hL.len;omega
  have e1:=hL.base k xX hk;have hw:IntKind.i64.wrap (aw[k]+lp)=aw[k]+lp:=wrap_i64 (by omega);subst h1;simp[hp,xX,hw,raw,dC xX]
@[simp]def ajf(an:List Int)(cQ:Int)(hz:oO an)(hs:0<=cQ/\cQ<=1048575):bW X 29 [an,cQ]=some (.dM [KKA ((⟨fG an cQ,IntKind.u16.wrap (40503*cQ)⟩:Layout)),.int .i64 0]):=by
 refine aaA ?_;have hz1:=hz.pos;have hz4:=hz.le;have hmz:an.length<=1000000000:=by omega
 have lj:=nP.2 hz;have hn0:((an.length:Int)=0)=False:=eq_false (by omega);have a8k:((50*(an.length:Int))=0)=False:=eq_false (by omega);have a8l:IntKind.i64.wrap (50*(an.length:Int))=50*an.length:=wrap_i64 (by omega);have hwm:IntKind.i64.wrap (40503*cQ)=40503*cQ:=wrap_i64 (by omega);have h1:(cQ<0)=False:=eq_false (by omega);have h2:(1073741824<cQ)=False:=eq_false (by omega);have LX:(an=[])=False:=eq_false (by rintro rfl;simp at hz1);have hL:0<(an.length:Int):=by omega
 have hd1:cQ.tdiv an.length=cQ/an.length:=abD (by omega);have q1:0<=cQ/ (an.length:Int):=aeT (by omega) (by omega);have q2:cQ/ (an.length:Int)<=cQ:=aeO _ (by omega);have tz:IntKind.i64.wrap (cQ/an.length)=cQ/an.length:=wrap_i64 (by omega);have sT:(cQ/an.length).tmod 50=cQ/an.length % 50:=aaK q1;have Ht:IntKind.i64.wrap (1+cQ/an.length % 50)=1+cQ/an.length % 50:=wrap_i64 (by omega);simp[hmz,lj,LX,hwm,h1,h2,hd1,tz,sT,Ht];refine⟨by omega,?_⟩;intro _ _;have XD:cQ.tdiv (50*an.length)=cQ/ (50*an.length):=abD (by omega);have q3:0<=cQ/ (50*(an.length:Int)):=aeT (by omega) (by omega);have q4:cQ/ (50*(an.length:Int))<=cQ:=aeO _ (by omega);have hw3:IntKind.i64.wrap (cQ/ (50*an.length))=cQ/ (50*an.length):=wrap_i64 (by omega);have Td:(cQ/ (50*an.length)).tmod 40=cQ/ (50*an.length) % 40:=aaK q3;refine cZ (fun k S=>(S.f 0=an/\S.f 1= .int .i64 cQ/\S.f 4= .ptr 4 0 0/\S.h 4=some ⟨2,[KKc ([]:List Int) 0],true⟩/\S.f 6= .int .i64 (an.length)/\S.f 7= .ptr 7 0 0/\S.h 1000=some ⟨1,(⟨(nG an cQ k).1,IntKind.u16.wrap (40503*cQ)⟩:Layout).aD.map (V.int .i64),false⟩/\S.h 7=some ⟨2,[.agg [.cu 1000 0 ((⟨(nG an cQ k).1,IntKind.u16.wrap (40503*cQ)⟩:Layout).aD.map (V.int .i64)).length,.int .u16 (⟨(nG an cQ k).1,IntKind.u16.wrap (40503*cQ)⟩:Layout).key]],true⟩/\S.f 8= .int .i64 ((nG an cQ k).2)/\S.f 36=((an).length:Int)/\S.f 37=(k:Int)/\S.n=1101)/\(0<=(nG an cQ k).2/\(nG an cQ k).2<=51+72*k/\(nG an cQ k).1.length=an.length)) (an.length) (by omega) ?_ ?_ ?_
 ·rintro k S ⟨IN,Ey,kG⟩ ⟨df,fp⟩;obtain⟨b1,b2,b3⟩:=fp;obtain⟨r,hr⟩: ∃r:Nat,((k:Int)+cQ) % an.length=r:=⟨(((k:Int)+cQ) % an.length).toNat,by
   have:=acD ((k:Int)+cQ) (show(an.length:Int)≠0 by omega);omega⟩
  have qJ:r<an.length:=by
   have:=abW ((k:Int)+cQ) hL;omega
  have bnz:r<(nG an cQ k).1.length:=by omega
  have e:=hz.elem r qJ;have a8m:IntKind.i64.wrap ((k:Int)+cQ)=k+cQ:=wrap_i64 (by omega);have Hn:((k:Int)+cQ).tmod an.length=r:=by rw[aaK (by omega),hr]
  have Dx:IntKind.i64.wrap (an[r]+1)=an[r]+1:=wrap_i64 (by omega);have asf:IntKind.i64.wrap (an[r]+1+cQ/ (50*an.length) % 40)=an[r]+1+cQ/ (50*an.length) % 40:=wrap_i64 (by omega);have a8n:IntKind.i64.wrap ((nG an cQ k).2+(an[r]+1+cQ/ (50*an.length) % 40))=(nG an cQ k).2+(an[r]+1+cQ/ (50*an.length) % 40):=wrap_i64 (by omega);have ln:nG an cQ (k+1)=((nG an cQ k).1.set r (nG an cQ k).2,(nG an cQ k).2+an[r]+1+cQ/ (50*an.length) % 40):=by
   rw[iG];unfold FT;rw[hr,aaH,dC qJ]
  simp[df,Ey,kG,ln,LX,a8k,a8l,XD,hw3,Td,a8m,Hn,qJ,Dx,asf,a8n,b3];omega
 ·rintro S ⟨df,fp⟩;obtain⟨_,_,b3⟩:=fp;have e3:fG an cQ=(nG an cQ an.length).1:=rfl;simp[df,e3]
 ·have h0:nG an cQ 0=(List.replicate an.length 0,1+cQ/an.length % 50):=rfl;simp[h0];omega
@[simp]def agd(aw:List Int)(bK:Int)(hm:aw.length<=1000000000):bW X 150 [KKc aw bK]=some ((KKA ((Layout.mk aw bK)):V)):=by
 refine aaA ?_;simp[];omega
def iM(op:Int)(k:Nat):Bool:=
 if op=1\/op=15\/op=19\/op=20\/op=21 then(k==0)||(k==3)
 else if op=2 then(k==0)||(k==1)
 else if op=16\/op=17 then(k==0)||(k==1)||(k==3)
 else if op=18\/op=23 then k==3
 else if op=22 then k==0
 else if op=0\/op=24 then false
 else(k==0)||(k==1)||(k==2)
def jumps(op:Int):Bool:=decide (op=18)||decide (op=19)||decide (op=20)||decide (op=21)
def fQ(op:Int):Bool:=jumps op||decide (op=22)||decide (op=24)
def oG(c:Cell):Bool:=decide (c.tag<=2)
def gd(l:List Cell):Bool:=l.all oG
def zB(h:i<l.length):gd (l.take (i+1))=(gd (l.take i)&&oG l[i]):=vn h
def Jl(h:i<l.length)(hp: ¬l[i].tag<=2):gd l=false:=vk h (by simpa[oG] using hp)
def FW:gd (l.take l.length)=gd l:=by rw[abi]
def ox(t:Thread):Bool:=gd t.bz&& (decide (0<=t.state)&& (decide (t.state<=4)&& (decide (t.bz.length=8)&& (decide (0<=t.pc)&& (decide (t.pc<=255)&& (decide (0<=t.count)&& (decide (t.count<=1099511627776)&& (decide (-1<=t.cn)&& (decide (t.cn<=255)&& (decide (-1<=t.saved)&& (decide (t.saved<=255)&& (decide (0<=t.dn)&& (decide (t.dn<=6))))))))))))))
def Nd{op:Int}(h:0<=op/\op<=24):op=0\/op=1\/op=2\/op=3\/op=4\/op=5\/op=6\/op=7\/op=8\/op=9\/op=10\/op=11\/op=12\/op=13\/op=14\/op=15\/op=16\/op=17\/op=18\/op=19\/op=20\/op=21\/op=22\/op=23\/op=24:=by omega
@[simp]def ajg(op:Int)(ho:0<=op/\op<=24):bW X 199 [op]=some (.agg [.bool ((iM op) 0),.bool ((iM op) 1),.bool ((iM op) 2),.bool ((iM op) 3)]):=by
 refine aaA ?_;rcases Nd ho with rfl|rfl|rfl|rfl|rfl|rfl|rfl|rfl|rfl|rfl|rfl|rfl|rfl|rfl|rfl|rfl|rfl|rfl|rfl|rfl|rfl|rfl|rfl|rfl|rfl;all_goals simp[iM]
@[simp]def ab0(op:Int)(ho:0<=op/\op<=24):bW X 288 [op]=some (.agg [.bool (iM op 0),.bool (iM op 1),.bool (iM op 2),.bool (iM op 3)]):=by
 refine aaA ?_;rcases Nd ho with rfl|rfl|rfl|rfl|rfl|rfl|rfl|rfl|rfl|rfl|rfl|rfl|rfl|rfl|rfl|rfl|rfl|rfl|rfl|rfl|rfl|rfl|rfl|rfl|rfl;all_goals simp[iM]
@[simp]def ajh(op:Int):bW X 123 [op]=some (.bool (jumps op)):=by
 refine aaA ?_;simp[jumps];omega
@[simp]def agf(op:Int):bW X 260 [op]=some (.bool (jumps op)):=by
 refine aaA ?_;simp[jumps];omega
@[simp]def ab1(op:Int):bW X 275 [op]=some (.bool (fQ op)):=by
 refine aaA ?_;simp[fQ];cases jumps op<;>simp<;>omega
@[simp]def ab2(op:Int):bW X 263 [op]=some (.bool (fQ op)):=by
 refine aaA ?_;simp[fQ];cases jumps op<;>simp<;>omega
@[simp]def aos(l:List Cell)(hm:l.length<=1000000000):bW X 164 [l]=some (.bool (gd l)):=by
 refine aaA ?_;simp[];refine cZ (fun i S=>(S.f 5=l/\S.f 6=((l).length:Int)/\S.f 7=(i:Int)/\S.n=1100)/\(gd (l.take i)=true)) (l.length) (by omega) ?_ ?_ ?_
 ·rintro i S ⟨pq,ie,bL⟩ ⟨df,fp⟩;simp[df,ie,bL]<;>(
   rw[zB bL,fp];exact⟨fun h=>Jl bL (by omega),fun h=>by simpa[oG] using h⟩)
 ·rintro S ⟨df,fp⟩;simp[df]<;>(
   rw[<-fp,abi])
 ·simp[]<;>(
   rfl)
@[simp]def agh(iu:Int)(cN:List Cell)(jQ dQ cX dS jw jx:Int)(hm:cN.length<=1000000000):bW X 80 [KKg iu cN jQ dQ cX dS jw jx]=some (.bool (ox (Thread.mk iu cN jQ dQ cX dS jw jx))):=by
 refine aaA ?_;simp[];refine cZ (fun i S=>(S.f 1= .ptr 1 0 0/\S.h 1=some ⟨8,[KKg iu cN jQ dQ cX dS jw jx],true⟩/\S.f 6=cN/\S.f 7=((cN).length:Int)/\S.f 8=(i:Int)/\S.n=1100)/\(gd (cN.take i)=true)) (cN.length) (by omega) ?_ ?_ ?_
 ·rintro i S ⟨pq,ie,bL⟩ ⟨df,fp⟩;simp[df,ie,bL]<;>(
   rw[zB bL,fp];refine⟨fun h=> ?_,fun h=>by simpa[oG] using h⟩;unfold ox;rw[Jl bL (by omega)];rfl)
 ·rintro S ⟨df,fp⟩;simp[df]<;>(
   have hc:gd cN=true:=by rw[<-fp,abi]
   unfold ox;rw[hc];simp only[adX];clear df fp hc
   ((repeat' (first|apply And.intro|intro hh));all_goals first|(simp only[acV,decide_eq_false_iff_not];omega)|(simp[*];done)|(simp[*]<;>(intros;omega))))
 ·simp[]<;>(
   rfl)
@[simp]def Nf(iu:Int)(cN:List Cell)(jQ dQ cX dS jw jx:Int)(k:Nat)(hm:cN.length<=1000000000): ∃h',cL X 250 [KKg iu cN jQ dQ cX dS jw jx] pP k=some ((KKd iu (.cu (k+4) 0 cN.length) jQ dQ cX dS jw jx:V),h',k+9)/\h' (k+4)=some ⟨2,cN.map Cell.e,false⟩:=by
 refine FN Tryz.func250 rfl rfl ?_;simp[aaE];all_goals ((repeat' (first|apply And.intro|intro _))<;>first|omega|rfl)
@[simp]def aot(iu:Int)(cN:List Cell)(jQ dQ cX dS jw jx dn code:Int)(hm:cN.length<=1000000000):bW X 195 [KKg iu cN jQ dQ cX dS jw jx,.int .i64 dn,.int .u16 code]=some ((KKe ((⟨4,cN,jQ,dQ,cX,dS,dn,code⟩:Thread)):V)):=by
 refine aaA ?_;obtain⟨h1,e1,e2⟩:=Nf iu cN jQ dQ cX dS jw jx 6 hm;simp only[Nat.reduceAdd]at e1 e2;simp[e1,e2]
@[simp]def aji(iu:Int)(cN:List Cell)(jQ dQ cX dS jw jx:Int)(k:Nat)(hm:cN.length<=1000000000): ∃h',cL X 233 [KKg iu cN jQ dQ cX dS jw jx] pP k=some ((KKd iu (.cu (k+7) 0 cN.length) jQ dQ cX dS jw jx:V),h',k+10)/\h' (k+7)=some ⟨2,cN.map Cell.e,false⟩:=by
 refine FN Tryz.func233 rfl rfl ?_;simp[aaE];all_goals ((repeat' (first|apply And.intro|intro _))<;>first|omega|rfl)
@[simp]def ajj(iu:Int)(cN:List Cell)(jQ dQ cX dS jw jx dn code:Int)(hm:cN.length<=1000000000):bW X 155 [KKg iu cN jQ dQ cX dS jw jx,.int .i64 dn,.int .u16 code]=some ((KKe ((⟨4,cN,jQ,dQ,cX,dS,dn,code⟩:Thread)):V)):=by
 refine aaA ?_;obtain⟨h1,e1,e2⟩:=aji iu cN jQ dQ cX dS jw jx 6 hm;simp only[Nat.reduceAdd]at e1 e2;simp[e1,e2]
@[simp]def ajk(Tf:Int)(Rg:List Cell)(Ng uN Jm Tg yx ab3 Th:Int)(ab4:List Cell)(Nh uO Jn Ti yy ab5:Int)(hm:Rg.length<=1000000000):bW X 83 [KKg Tf Rg Ng uN Jm Tg yx ab3,KKg Th ab4 Nh uO Jn Ti yy ab5]=some (.bool (decide ((Thread.mk Tf Rg Ng uN Jm Tg yx ab3)=(Thread.mk Th ab4 Nh uO Jn Ti yy ab5)))):=by
 refine aaA ?_;simp[hm,Thread.eq_iff]
 grind
def yz{α:Type}(p:α->Bool)(l:List α):Int:=if l.all p=true then-1 else(l.findIdx fun x=> !p x:Nat)
def we{p:α->Bool}{l:List α}:decide (0<=yz p l)= !(l.all p):=by
 unfold yz;cases h:l.all p<;>simp<;>omega
def wg{p:α->Bool}{l:List α}(h:l.all p=true):yz p l= -1:=by simp only[yz,h,if_true]
def yA{p:α->Bool}{l:List α}(h:i<l.length)(h1:(l.take i).all p=true)(h2:p l[i]=false):yz p l=i:=by
 have h3:(l.findIdx fun x=> !p x)=i:=by
  rw[List.findIdx_eq h];refine⟨by simp[h2],fun j hj=> ?_⟩;have:=List.all_eq_true.1 h1 l[j] (by
   rw[List.mem_take_iff_getElem];exact⟨j,by omega,rfl⟩)
  simp[this]
 unfold yz;rw[vk h h2,h3];simp
def eD:cy:=⟨-1,false,[]⟩
def cm:List cy:=List.replicate 4 eD
def zC(i:Nat):List V:=List.replicate i ((KKt (-1) false (.sl true []):V))++List.replicate (4-i) ((KKt 0 false (.sl true []):V))
def pa(i:Nat)(x:cy):Bool:=
 if x.tag= -1 then !x.iW&&decide (x.cells.length=0) else decide (0<=x.tag)&& (decide (x.tag<128)&& (decide (x.tag % 4=i)&& (decide (x.cells.length=4)&&gd x.cells)))
def rk(l:List cy)(n:Nat):Bool:=(List.range n).all fun i=>pa i (l.getD i eD)
def Jo{l:List cy}(h:i<l.length):rk l (i+1)=(rk l i&&pa i l[i]):=by
 unfold rk;rw[acH,aeR];simp[List.getD,h]
def Jp{l:List cy}(h:i<l.length)(hn:i<n)(hp:pa i l[i]=false):rk l n=false:=by
 unfold rk;rw[<-Bool.not_eq_true,aaP];intro m8;have:=m8 i (by simpa using hn);simp[List.getD,h]at this;rw[hp]at this;cases this
def wX(m:aF):Bool:=decide (m.cells.length=512)&& (decide (m.lines.length=4)&& (gd m.cells&&rk m.lines 4))
structure ab6 (i:Nat) (x:cy):Prop where
 none:x.tag= -1->x.iW=false/\x.cells=[]
 some:x.tag≠ -1->0<=x.tag/\x.tag<128/\x.tag % 4=i/\x.cells.length=4
 cells:gd x.cells=true
structure uf (m:aF):Prop where
 len:m.cells.length=512
 lines:m.lines.length=4
 cells:gd m.cells=true
 line: ∀i (h:i<m.lines.length),ab6 i m.lines[i]
def zD:pa i x=true↔ab6 i x:=by
 unfold pa;constructor
 ·intro h;split at h
  ·rename_i hc;simp at h;exact⟨fun _=>⟨h.1,h.2⟩,fun g=>absurd hc g,by rw[h.2];rfl⟩
  ·rename_i hc;simp at h;exact⟨fun g=>absurd g hc,fun _=>⟨h.1,h.2.1,h.2.2.1,h.2.2.2.1⟩,h.2.2.2.2⟩
 ·rintro⟨h1,h2,h3⟩;split
  ·rename_i hc;simp[h1 hc]
  ·rename_i hc;simp[h2 hc,h3]
def Ni:wX m=true↔uf m:=by
 unfold wX rk;simp only[aaF,decide_eq_true_eq,aaP,aeX];constructor
 ·rintro⟨h1,h2,h3,h4⟩;exact⟨h1,h2,h3,fun i h=>zD.1 (by simpa[List.getD,h] using h4 i (by omega))⟩
 ·rintro⟨h1,h2,h3,h4⟩;exact⟨h1,h2,h3,fun i h=>by
   have h':i<m.lines.length:=by omega
   simpa[List.getD,h'] using zD.2 (h4 i h')⟩
def look(m:aF)(a:Nat):Cell:=
 if(m.lines.getD (a/4 % 4) eD).tag=((a/4:Nat):Int) then(m.lines.getD (a/4 % 4) eD).cells.getD (a % 4) ⟨0,0⟩ else m.cells.getD a ⟨0,0⟩
def nu(i:Instr):Bool:=
 if i.op<0\/24<i.op then false
 else if i.a<0\/8<=i.a\/(iM i.op 0=false/\i.a≠0) then false
 else if i.b<0\/8<=i.b\/(iM i.op 1=false/\i.b≠0) then false
 else if i.c<0\/8<=i.c\/(iM i.op 2=false/\i.c≠0) then false
 else if i.ed<0\/65535<i.ed\/(iM i.op 3=false/\i.ed≠0) then false
 else if jumps i.op=true then decide (i.ed<64)
 else if i.op=15 then decide (i.ed<4)
 else if i.op=23 then decide (i.ed<=15)
 else true
def mB(used:Bool)(v:Int):Bool:=decide (0<=v)&& (decide (v<8)&& (used||decide (v=0)))
def lU(i:Instr)(k:Nat):Bool:=
 match k with
 |0=>true
 |1=>mB (iM i.op 0) i.a
 |2=>mB (iM i.op 0) i.a&&mB (iM i.op 1) i.b
 |_=>mB (iM i.op 0) i.a&& (mB (iM i.op 1) i.b&&mB (iM i.op 2) i.c)
def asi(i:Instr):Bool:=decide (0<=i.ed)&& (decide (i.ed<=65535)&& ((iM i.op 3||decide (i.ed=0))&& (if jumps i.op=true then decide (i.ed<64) else if i.op=15 then decide (i.ed<4) else if i.op=23 then decide (i.ed<=15) else true)))
def vq(used:Bool)(v jf:Int):Bool:=decide (v=0)||(used&& (decide (0<v)&&decide (v<=jf)))
def KO(op:Int):Int:=if jumps op=true then 63 else if op=15 then 3 else if op=23 then 15 else 65535
@[simp]def agi:bW X 140 []=some (.sl false (cm.map cy.e)):=by
 refine aaA ?_;simp[];refine cZ (fun i S=>(S.f 1= .cu 1 0 ((zC i)).length/\S.h 1=some ⟨3,(zC i),false⟩/\S.f 5= .int .i64 (4)/\S.f 6=(i:Int)/\S.n=1100)/\True) (4) (by omega) ?_ ?_ ?_
 ·rintro i S ⟨pq,ie,bL⟩ ⟨df,fp⟩;have:i=0\/i=1\/i=2\/i=3:=by omega
  rcases this with rfl|rfl|rfl|rfl<;>simp[df,bL,zC]<;>decide
 ·rintro S ⟨df,fp⟩;simp[df]<;>(
   rfl)
 ·simp[]<;>(
   exact⟨rfl,rfl⟩)
@[simp]def ajl(v:Int):bW X 302 [.int .u16 v]=some ((KKf ((⟨0,v⟩:Cell)):V)):=by
 refine aaA ?_;simp
@[simp]def aou(b:Bool):bW X 299 [b]=some ((KKf ((if b=true then⟨0,1⟩ else⟨0,0⟩:Cell)):V)):=by
 refine aaA ?_;cases b<;>simp
@[simp]def ajm(b:Bool):bW X 295 [b]=some ((KKf ((if b=true then⟨0,1⟩ else⟨0,0⟩:Cell)):V)):=by
 refine aaA ?_;cases b<;>simp
@[simp]def ajn(iu:Int)(cN:List Cell)(jQ dQ cX dS jw jx r:Int)(hr:0<=r/\r<8)(ht:cN.length=8):bW X 229 [KKg iu cN jQ dQ cX dS jw jx,.int .i64 r]=some ((KKf ((cN.getD r.toNat ⟨0,0⟩:Cell)):V)):=by
 refine aaA ?_;obtain⟨k,rfl⟩:=aaG hr.1;have hk:k<cN.length:=by omega
 have hk8:(k:Int) % 8=k:=by omega
 simp[hk,hk8]
@[simp]def VU(v from_ to:Int):bW X 220 [v,from_,to]=some (.bool (decide (from_<=v)&&decide (v<=to))):=by
 refine aaA ?_;simp[];by_cases h:from_<=v<;>simp[h];omega
@[simp]def VV(ey dm:Int):bW X 222 [KKo ey dm]=some (.bool (!decide (ey<=2))):=by
 refine aaA ?_;simp[]
@[simp]def VW(ey dm:Int):bW X 261 [KKo ey dm]=some (.bool (!decide (ey<=2))):=by
 refine aaA ?_;simp[]
@[simp]def BF(dz:List Cell)(bU:List cy)(addr:Int)(hM:uf (aF.mk dz bU))(ha:0<=addr/\addr<512):bW X 170 [KKp dz bU,.int .i64 addr]=some ((KKf (look (aF.mk dz bU) addr.toNat):V)):=by
 refine aaA ?_;obtain⟨a,rfl⟩:=aaG ha.1;obtain⟨n,hn⟩: ∃n:Nat,a/4=n:=⟨_,rfl⟩;obtain⟨r,hr⟩: ∃r:Nat,n % 4=r:=⟨_,rfl⟩;obtain⟨o,ho⟩: ∃o:Nat,a % 4=o:=⟨_,rfl⟩;have hd:(a:Int).tdiv 4=n:=by rw[abD (by omega)];omega
 have Hs:(a:Int)/4=n:=by omega
 have hw:IntKind.i64.wrap (n:Int)=n:=wrap_i64 (by omega);have sT:(n:Int).tmod 4=r:=by rw[aaK (by omega)];omega
 have vW:(a:Int).tmod 4=o:=by rw[aaK (by omega)];omega
 have jV:=hM.lines;have Uw:=hM.len;simp only at jV Uw;have h1:r<bU.length:=by omega
 have uE:r<4:=by omega
 have h2:a<dz.length:=by omega
 have OT:a<512:=by omega
 have CH:(r:Int)<4:=by omega
 have KP:(a:Int)<512:=by omega
 have h5:((a:Int)<0)=False:=eq_false (by omega);have h6:((512:Int)<=a)=False:=eq_false (by omega);by_cases ht:(bU[r]).tag=(n:Int)
 ·have h3:=((hM.line r h1).some (by simp only;omega)).2.2.2;simp only at h3;have h4:o<(bU[r]).cells.length:=by omega
  have h4':o<4:=by omega
  have h4i:(o:Int)<4:=by omega
  simp[look,hn,hr,ho,hd,hw,sT,vW,uE,CH,ht,h3,h4',h4i,jV,List.getD]
 ·simp[look,hn,hr,hd,hw,sT,uE,CH,KP,OT,ht,Uw,jV,List.getD]
@[simp]def Nj(dz:List Cell)(bU:List cy)(addr:Int)(hM:uf (aF.mk dz bU))(ha:0<=addr/\addr<512):bW X 235 [KKp dz bU,.int .i64 addr]=some (.dM [KKf (look (aF.mk dz bU) addr.toNat),.bool true]):=by
 refine aaA ?_;obtain⟨a,rfl⟩:=aaG ha.1;obtain⟨n,hn⟩: ∃n:Nat,a/4=n:=⟨_,rfl⟩;obtain⟨r,hr⟩: ∃r:Nat,n % 4=r:=⟨_,rfl⟩;obtain⟨o,ho⟩: ∃o:Nat,a % 4=o:=⟨_,rfl⟩;have hd:(a:Int).tdiv 4=n:=by rw[abD (by omega)];omega
 have Hs:(a:Int)/4=n:=by omega
 have hw:IntKind.i64.wrap (n:Int)=n:=wrap_i64 (by omega);have sT:(n:Int).tmod 4=r:=by rw[aaK (by omega)];omega
 have vW:(a:Int).tmod 4=o:=by rw[aaK (by omega)];omega
 have jV:=hM.lines;have Uw:=hM.len;simp only at jV Uw;have h1:r<bU.length:=by omega
 have uE:r<4:=by omega
 have h2:a<dz.length:=by omega
 have OT:a<512:=by omega
 have CH:(r:Int)<4:=by omega
 have KP:(a:Int)<512:=by omega
 have h5:((a:Int)<0)=False:=eq_false (by omega);have h6:((512:Int)<=a)=False:=eq_false (by omega);by_cases ht:(bU[r]).tag=(n:Int)
 ·have h3:=((hM.line r h1).some (by simp only;omega)).2.2.2;simp only at h3;have h4:o<(bU[r]).cells.length:=by omega
  have h4':o<4:=by omega
  have h4i:(o:Int)<4:=by omega
  simp[look,hn,hr,ho,hd,hw,sT,vW,uE,CH,ht,h3,h4',h4i,h5,h6,Uw,jV,List.getD]
 ·simp[look,hn,hr,hd,hw,sT,uE,CH,KP,OT,ht,h5,h6,Uw,jV,List.getD]
@[simp]def XE(used:Bool)(v jf:Int):bW X 289 [used,v,jf]=some (.bool (vq used v jf)):=by
 refine aaA ?_;cases used<;>simp[vq];by_cases h:v=0<;>simp[h]<;>by_cases h:0<v<;>simp[h];all_goals omega
@[simp]def ajo(op:Int):bW X 290 [op]=some (.int .i64 (KO op)):=by
 refine aaA ?_;by_cases h:jumps op=true<;>by_cases h1:op=15<;>by_cases h2:op=23<;>simp[h,h1,h2,KO]
@[simp]def agk(jo Eb Ec Ed qL:Int):bW X 259 [KKU jo Eb Ec Ed qL]=some (.bool (nu (Instr.mk jo Eb Ec Ed qL))):=by
 refine aaA ?_;by_cases h1:jo<0
 ·simp[h1,nu]
 by_cases h2:24<jo
 ·simp[h1,h2,nu]
 have ho:0<=jo/\jo<=24:=by omega
 have key:nu (Instr.mk jo Eb Ec Ed qL)=(vq (iM jo 0) Eb 7&& (vq (iM jo 1) Ec 7&& (vq (iM jo 2) Ed 7&&vq (iM jo 3) qL (KO jo)))):=by
  unfold nu KO vq;simp only[h1,h2];cases iM jo 0<;>cases iM jo 1<;>cases iM jo 2<;>cases iM jo 3<;>cases jumps jo<;>grind
 rw[key];clear key;cases g0:vq (iM jo 0) Eb 7
 ·simp[ho,h1,h2,g0]
 cases g1:vq (iM jo 1) Ec 7
 ·simp[ho,h1,h2,g0,g1]
 cases g2:vq (iM jo 2) Ed 7
 ·simp[ho,h1,h2,g0,g1,g2]
 ·simp[ho,h1,h2,g0,g1,g2]
@[simp]def agl(jo Eb Ec Ed qL:Int):bW X 122 [KKU jo Eb Ec Ed qL]=some (.bool (nu (Instr.mk jo Eb Ec Ed qL))):=by
 refine aaA ?_;by_cases h1:jo<0
 ·simp[h1,nu]
 by_cases h2:24<jo
 ·simp[h1,h2,nu]
 have ho:0<=jo/\jo<=24:=by omega
 have key:nu (Instr.mk jo Eb Ec Ed qL)=(lU (Instr.mk jo Eb Ec Ed qL) 3&&asi (Instr.mk jo Eb Ec Ed qL)):=by
  unfold nu lU mB asi;simp only[h1,h2];cases iM jo 0<;>cases iM jo 1<;>cases iM jo 2<;>cases iM jo 3<;>cases jumps jo<;>grind
 rw[key];clear key;simp[ho,h1,h2];refine cZ (fun k S=>(S.f 1= .ptr 1 0 0/\S.h 1=some ⟨5,[KKU jo Eb Ec Ed qL],true⟩/\S.f 3= .ptr 3 0 0/\S.h 3=some ⟨4,[.agg [.bool ((iM jo) 0),.bool ((iM jo) 1),.bool ((iM jo) 2),.bool ((iM jo) 3)]],true⟩/\S.f 23= .sl false (([Eb,Ec,Ed]).map (V.int .i64))/\S.f 24= .int .i64 (3)/\S.f 25=(k:Int)/\S.n=1100)/\(lU (Instr.mk jo Eb Ec Ed qL) k=true)) (3) (by omega) ?_ ?_ ?_
 ·rintro k S ⟨IN,Ey,kG⟩ ⟨df,fp⟩;have:k=0\/k=1\/k=2:=by omega
  rcases this with rfl|rfl|rfl
  ·have e0:IntKind.i64.wrap 1=1:=by decide
   have hf:mB (iM jo 0) Eb=false->lU (Instr.mk jo Eb Ec Ed qL) 3=false:=by intro h;simp[lU,h]
   have ht:mB (iM jo 0) Eb=true->lU (Instr.mk jo Eb Ec Ed qL) 1=true:=by intro h;simp[lU]at fp⊢;simp[h]
   clear fp;simp[df,kG,e0];cases hu:mB (iM jo 0) Eb
   ·simp only[hf hu];clear df hf ht;unfold mB at hu;cases hv:iM jo 0<;>simp[hv]at hu⊢ <;>omega
   ·simp only[ht hu];clear df hf ht;unfold mB at hu;cases hv:iM jo 0<;>simp[hv]at hu⊢ <;>omega
  ·have e0:IntKind.i64.wrap 2=2:=by decide
   have hf:mB (iM jo 1) Ec=false->lU (Instr.mk jo Eb Ec Ed qL) 3=false:=by intro h;simp[lU,h]
   have ht:mB (iM jo 1) Ec=true->lU (Instr.mk jo Eb Ec Ed qL) 2=true:=by intro h;simp[lU]at fp⊢;simp[fp,h]
   clear fp;simp[df,kG,e0];cases hu:mB (iM jo 1) Ec
   ·simp only[hf hu];clear df hf ht;unfold mB at hu;cases hv:iM jo 1<;>simp[hv]at hu⊢ <;>omega
   ·simp only[ht hu];clear df hf ht;unfold mB at hu;cases hv:iM jo 1<;>simp[hv]at hu⊢ <;>omega
  ·have e0:IntKind.i64.wrap 3=3:=by decide
   have hf:mB (iM jo 2) Ed=false->lU (Instr.mk jo Eb Ec Ed qL) 3=false:=by intro h;simp[lU,h]
   have ht:mB (iM jo 2) Ed=true->lU (Instr.mk jo Eb Ec Ed qL) 3=true:=by intro h;simp[lU]at fp⊢;simp[fp,h]
   clear fp;simp[df,kG,e0];cases hu:mB (iM jo 2) Ed
   ·simp only[hf hu];clear df hf ht;unfold mB at hu;cases hv:iM jo 2<;>simp[hv]at hu⊢ <;>omega
   ·simp only[ht hu];clear df hf ht;unfold mB at hu;cases hv:iM jo 2<;>simp[hv]at hu⊢ <;>omega
 ·rintro S ⟨df,fp⟩;simp[df]<;>(
   rw[fp];unfold asi;cases iM jo 3<;>cases jumps jo<;>simp<;>grind)
 ·simp[]<;>(
   rfl)
@[simp]def ajp(s:List Cell)(hm:s.length<=1000000000):bW X 262 [s,.fn 261 [] []]=some (.int .i64 (yz oG s)):=by
 refine aaA ?_;simp[];refine cZ (fun i S=>(S.f 0=s/\S.f 1= .fn 261 [] []/\S.f 7=((s).length:Int)/\S.f 8=(i:Int)/\S.n=1100)/\(gd (s.take i)=true)) (s.length) (by omega) ?_ ?_ ?_
 ·rintro i S ⟨pq,ie,bL⟩ ⟨df,fp⟩;simp[df,ie,bL]<;>(
   rw[zB bL,fp];refine⟨fun h=> ?_,fun h=>by simpa[oG] using h⟩;rw[yA bL fp (by simpa[oG] using h)])
 ·rintro S ⟨df,fp⟩;simp[df]<;>(
   rw[FW]at fp;exact(wg fp).symm)
 ·simp[]<;>(
   rfl)
@[simp]def ajq(s:List Cell)(hm:s.length<=1000000000):bW X 262 [s,.fn 222 [] []]=some (.int .i64 (yz oG s)):=by
 refine aaA ?_;simp[];refine cZ (fun i S=>(S.f 0=s/\S.f 1= .fn 222 [] []/\S.f 7=((s).length:Int)/\S.f 8=(i:Int)/\S.n=1100)/\(gd (s.take i)=true)) (s.length) (by omega) ?_ ?_ ?_
 ·rintro i S ⟨pq,ie,bL⟩ ⟨df,fp⟩;simp[df,ie,bL]<;>(
   rw[zB bL,fp];refine⟨fun h=> ?_,fun h=>by simpa[oG] using h⟩;rw[yA bL fp (by simpa[oG] using h)])
 ·rintro S ⟨df,fp⟩;simp[df]<;>(
   rw[FW]at fp;exact(wg fp).symm)
 ·simp[]<;>(
   rfl)
@[simp]def ajr(s:List Cell)(hm:s.length<=1000000000):bW X 221 [s,.fn 261 [] []]=some (.bool (!gd s)):=by
 refine aaA ?_;simp[hm,we,gd]
@[simp]def ajs(s:List Cell)(hm:s.length<=1000000000):bW X 221 [s,.fn 222 [] []]=some (.bool (!gd s)):=by
 refine aaA ?_;simp[hm,we,gd]
@[simp]def ab7(l:List Cell)(n:Int)(hm:l.length<=1000000000):bW X 217 [l,n]=some (.bool (decide (l.length=n)&&gd l)):=by
 refine aaA ?_;by_cases h:(l.length:Int)=n
 ·simp[hm,h]
 ·simp[h]
@[simp]def ajt(BG:List Cell)(mj:List cy)(BH:List Cell)(oS:List cy)(hc:BG.length<=1000000000)(hl:mj.length<=1000000000)(hx: ∀i (h:i<mj.length),(mj[i]).cells.length<=1000000000):bW X 82 [KKp BG mj,KKp BH oS]=some (.bool (decide ((aF.mk BG mj)=(aF.mk BH oS)))):=by
 refine aaA ?_;by_cases h1:BG=BH
 case neg=>simp[hc,h1,aF.eq_iff]
 have hcb:BH.length<=1000000000:=h1▸hc;by_cases KP:(mj.length:Int)=oS.length
 case neg=>
  have h3: ¬mj=oS:=fun h=>KP (by rw[h]);simp[h1,hcb,KP,h3,aF.eq_iff]
 have h2:mj.length=oS.length:=by omega
 simp[h1,hcb,KP,aF.eq_iff];refine cZ (fun i S=>(S.f 2= .ptr 2 0 0/\S.h 2=some ⟨2,[KKp BG mj],true⟩/\S.f 3= .ptr 3 0 0/\S.h 3=some ⟨2,[KKp BH oS],true⟩/\S.f 25=((mj).length:Int)/\S.f 26=(i:Int)/\S.n=1100)/\(mj.take i=oS.take i)) (mj.length) (by omega) ?_ ?_ ?_
 ·rintro i S ⟨pq,ie,bL⟩ ⟨df,fp⟩;have g1:i<oS.length:=by omega
  have g2:=hx i bL;have g3: ¬mj[i]=oS[i]-> ¬mj=oS:=fun h g=>h (by subst g;rfl);rw[cy.eq_iff]at g3;by_cases e1:(mj[i]).tag=(oS[i]).tag
  case neg=>
   simp[df,bL,g1,e1];exact g3 (fun h=>e1 h.1)
  by_cases e2:(mj[i]).iW=(oS[i]).iW
  case neg=>
   simp[df,bL,g1,e1,e2];exact g3 (fun h=>e2 h.2.1)
  by_cases e3:(mj[i]).cells=(oS[i]).cells
  case neg=>
   simp[df,bL,g1,g2,e1,e2,e3];exact g3 (fun h=>e3 h.2.2)
  have g2b:(oS[i]).cells.length<=1000000000:=e3▸g2;simp[df,ie,bL,g1,g2b,e1,e2,e3];exact BD bL g1 fp ((cy.eq_iff _ _).2 ⟨e1,e2,e3⟩)
 ·rintro S ⟨df,fp⟩;simp[df]<;>(
   exact yw (i:=mj.length) (by omega) h2 fp)
 ·simp[]<;>(
   exact⟨by rw[h1],by omega⟩)
@[simp]def agm(i lH:Int)(KQ:Bool)(zE:List Cell)(hi:0<=i/\i<4)(hx:zE.length<=1000000000):bW X 218 [i,.agg [lH,KQ,zE]]=some (.bool (pa i.toNat (cy.mk lH KQ zE))):=by
 refine aaA ?_;obtain⟨k,rfl⟩:=aaG hi.1;by_cases h1:lH= -1
 ·cases KQ<;>simp[h1,pa]
 by_cases h2:lH<0
 ·simp[h1,h2,hx,pa];omega
 have h3:lH.tmod 4=lH % 4:=aaK (by omega);have OT:0<=lH:=by omega
 by_cases h4:lH<128
 ·by_cases h6:(zE.length:Int)=4
  case neg=>
   have h6n: ¬zE.length=4:=by omega
   by_cases h5:lH % 4=k
   ·simp[h1,OT,h3,h4,h5,h6,h6n,hx,pa]
   ·simp[h1,OT,h3,h4,h5,h6n,pa]
  have h6n:zE.length=4:=by omega
  by_cases h5:lH % 4=k
  ·simp[h1,OT,h3,h4,h5,h6n,pa]
  ·simp[h1,OT,h3,h4,h5,h6n,pa]
 ·simp[h1,h2,h4,pa]
@[simp]def ab8(dz:List Cell)(bU:List cy)(hc:dz.length<=1000000000)(hl:bU.length<=1000000000)(hx: ∀i (h:i<bU.length),(bU[i]).cells.length<=1000000000):bW X 146 [KKp dz bU]=some (.bool (wX (aF.mk dz bU))):=by
 refine aaA ?_;by_cases CH:(dz.length:Int)=512
 case neg=>
  have h1: ¬dz.length=512:=by omega
  simp[hc,CH,h1,wX]
 have h1:dz.length=512:=by omega
 by_cases h2:gd dz=true
 case neg=>
  simp[h1,h2,wX]
 by_cases h3i:(bU.length:Int)=4
 case neg=>
  have h3: ¬bU.length=4:=by omega
  simp[h1,h2,h3i,h3,wX]
 have h3:bU.length=4:=by omega
 simp[h1,h2,h3];refine cZ (fun i S=>(S.f 16=bU/\S.f 17=((bU).length:Int)/\S.f 18=(i:Int)/\S.n=1100)/\(rk bU i=true)) (4) (by omega) ?_ ?_ ?_
 ·rintro i S ⟨pq,ie,bL⟩ ⟨df,fp⟩;have g1:i<bU.length:=by omega
  have g2:=hx i g1;have g3:pa i bU[i]=false->wX (aF.mk dz bU)=false:=fun h=>by
   unfold wX;rw[Jp g1 bL h];simp
  have g4:rk bU (i+1)=(rk bU i&&pa i bU[i]):=Jo g1;have g5:(i:Int)<4:=by omega
  simp[df,ie,bL,g1,g2,g4,g5,fp];cases h:pa i bU[i]<;>simp[g3,h]
 ·rintro S ⟨df,fp⟩;simp[df]<;>(
   unfold wX;simp[h1,h2,h3,fp])
 ·simp[]<;>(
   exact⟨by omega,rfl⟩)
@[simp]def agn(dz:List Cell)(bU:List cy)(hc:dz.length<=1000000000)(hl:bU.length<=1000000000)(hx: ∀i (h:i<bU.length),(bU[i]).cells.length<=1000000000):bW X 79 [KKp dz bU]=some (.bool (wX (aF.mk dz bU))):=by
 refine aaA ?_;by_cases CH:(dz.length:Int)=512
 case neg=>
  have h1: ¬dz.length=512:=by omega
  simp[CH,h1,wX]
 have h1:dz.length=512:=by omega
 by_cases h3i:(bU.length:Int)=4
 case neg=>
  have h3: ¬bU.length=4:=by omega
  simp[h1,h3i,h3,wX]
 have h3:bU.length=4:=by omega
 by_cases h2:gd dz=true
 case neg=>
  simp[h1,h2,h3,wX]
 simp[h1,h2,h3];refine cZ (fun i S=>(S.f 22=bU/\S.f 23=((bU).length:Int)/\S.f 24=(i:Int)/\S.n=1100)/\(rk bU i=true)) (bU.length) (by omega) ?_ ?_ ?_
 ·rintro i S ⟨pq,ie,bL⟩ ⟨df,fp⟩;have g1:i<bU.length:=by omega
  have g2:=hx i g1;have g3:pa i bU[i]=false->wX (aF.mk dz bU)=false:=fun h=>by
   unfold wX;rw[Jp g1 (show i<4 by omega) h];simp
  have g4:rk bU (i+1)=(rk bU i&&pa i bU[i]):=Jo g1;have g5:(i:Int)<4:=by omega
  have q5:0<=(bU[i]).tag->((bU[i]).tag).tmod 4=(bU[i]).tag % 4:=fun q2'=>aaK q2';have g6:rk bU (i+1)=pa i bU[i]:=by rw[g4,fp,adX]
  have g7:(bU[i]).tag= -1->pa i bU[i]=(!(bU[i]).iW&&decide ((bU[i]).cells.length=0)):=fun h=>by unfold pa;rw[if_pos h]
  have g8: ¬(bU[i]).tag= -1->pa i bU[i]=(decide (0<=(bU[i]).tag)&& (decide ((bU[i]).tag<128)&& (decide ((bU[i]).tag % 4=i)&& (decide ((bU[i]).cells.length=4)&&gd (bU[i]).cells)))):=fun h=>by unfold pa;rw[if_neg h]
  clear g4;by_cases q1:(bU[i]).tag= -1
  ·rw[g7 q1]at g3 g6;cases q2:(bU[i]).iW
   ·by_cases q3i:((bU[i]).cells.length:Int)=0
    ·have q3:(bU[i]).cells.length=0:=by omega
     have q3l: ¬0<(bU[i]).cells.length:=by omega
     have q3m: ¬0<((bU[i]).cells.length:Int):=by omega
     rw[q2]at g6;simp[q3]at g6;simp[df,ie,bL,q1,q2,q3,g6]
    ·have q3: ¬(bU[i]).cells.length=0:=by omega
     have q3l:0<(bU[i]).cells.length:=by omega
     have q3m:0<((bU[i]).cells.length:Int):=by omega
     have g9:=g3 (by simp[q3]);simp[df,bL,q1,q2,q3l,g9]
   ·have g9:=g3 (by simp[q2]);simp[df,bL,q1,q2,g9]
  rw[g8 q1]at g3 g6;clear g7 g8;by_cases q2:0<=(bU[i]).tag
  case neg=>
   have q2n:(bU[i]).tag<0:=by omega
   have g9:=g3 (by simp[q2]);simp[df,bL,q1,q2n,g9]
  have q2n: ¬(bU[i]).tag<0:=by omega
  by_cases q3:(bU[i]).tag<128
  case neg=>
   have q3n:128<=(bU[i]).tag:=by omega
   have g9:=g3 (by simp[q3]);simp[df,bL,q1,q2n,q3n,g9]
  have q3n: ¬128<=(bU[i]).tag:=by omega
  have q5':=q5 q2;by_cases q4:(bU[i]).tag % 4=i
  case neg=>
   have g9:=g3 (by simp[q4]);simp[df,bL,q1,q2n,q3n,q5',q4,g9]
  by_cases q6i:((bU[i]).cells.length:Int)=4
  case neg=>
   have q6: ¬(bU[i]).cells.length=4:=by omega
   have g9:=g3 (by simp[q6]);simp[df,bL,q1,q2n,q3n,q5',q4,q6i,g9]
  have q6:(bU[i]).cells.length=4:=by omega
  cases q7:gd (bU[i]).cells
  ·have g9:=g3 (by simp[q7]);simp[df,bL,q1,q2n,q3n,q5',q4,q6,q7,g9]
  ·rw[q7]at g6;simp[q2,q3,q4,q6]at g6;simp[df,ie,bL,q1,q2n,q3n,q5',q4,q6,q7,g6]
 ·rintro S ⟨df,fp⟩;simp[df]<;>(
   rw[h3]at fp;unfold wX;simp[h1,h2,h3,fp])
 ·simp[]<;>(
   exact⟨by omega,rfl⟩)
@[simp]def ab9(iu:Int)(cN:List Cell)(jQ dQ cX dS jw jx:Int)(hm:cN.length<=1000000000):bW X 149 [KKg iu cN jQ dQ cX dS jw jx]=some (.bool (ox (Thread.mk iu cN jQ dQ cX dS jw jx))):=by
 refine aaA ?_;simp[hm];unfold ox
 grind
@[simp]def ago:nr X [(0,1,120)] 277 []=some ((KKg 0 (List.replicate 8 (⟨0,0⟩:Cell)) 0 0 (-1) (-1) 0 0:V)):=by
 refine aaC ?_;simp[Cell.bS]
def sy(f:Nat->α)(a:Nat)(x y:α):aR (aR f a x) a y=aR f a y:=by
 funext i;unfold aR;split<;>rfl
def NI(f:Nat->α)(a b:Nat)(x y:α)(h:a≠b):aR (aR f a x) b y=aR (aR f b y) a x:=by
 funext i;unfold aR;split<;>split<;>first|rfl|(exfalso;omega)
def JA(ids:Nat->Nat)(i:Nat)(x:cy):V:= (KKt x.tag x.iW (.cu (ids i) 0 x.cells.length):V)
def fU(ids:Nat->Nat)(l:List cy):List V:=l.mapIdx (JA ids)
def jh(ids:Nat->Nat)(l:List cy):(fU ids l).length=l.length:=by simp[fU]
def jM{l:List cy}(h:i<l.length)(h':i<(fU ids l).length):(fU ids l)[i]= (KKt (l[i]).tag (l[i]).iW (.cu (ids i) 0 (l[i]).cells.length):V):=by
 simp[fU,JA]
def AU{l:List cy}(h:i<l.length):(fU ids l).set i ((KKt x.tag x.iW (.cu n 0 x.cells.length):V))=fU (aR ids i n) (l.set i x):=by
 apply abA;intro j;unfold fU;rw[abK,abV,abV,abK];by_cases hj:i=j
 ·subst hj;simp[h,JA,aR]
 ·rw[if_neg hj,if_neg hj];cases l[j]? with
  |none=>rfl
  |some y=>simp[JA,aR,aaW hj]
def yM{l:List cy}(h:i<l.length):(fU ids l).set i ((KKt x.tag x.iW (.cu (ids i) 0 x.cells.length):V))=fU ids (l.set i x):=by
 rw[AU h];congr 1;funext j;unfold aR;split
 ·rename_i e;rw[e]
 ·rfl
structure NJ (h:bh) (C L:Nat) (ids:Nat->Nat) (m:aF):Prop where
 cells:h C=some ⟨2,m.cells.map Cell.e,false⟩
 lines:h L=some ⟨3,fU ids m.lines,true⟩
 line: ∀i (g:i<m.lines.length),h (ids i)=some ⟨2,(m.lines[i]).cells.map Cell.e,false⟩
structure Ry (C L:Nat) (ids:Nat->Nat):Prop where
 cl:C≠L
 ci: ∀i,i<4->ids i≠C
 li: ∀i,i<4->ids i≠L
 ii: ∀i j,i<4->j<4->i≠j->ids i≠ids j
@[simp]def NK(m:V)(addr:Int)(h:bh)(b C L k a:Nat)(ids:Nat->Nat)(vB vK vT:V)(mm:aF)(hb:h b=some ⟨5,[.agg [vB,vK,.cu C 0 512,.cu L 0 4,vT]],true⟩)(hA:NJ h C L ids mm)(hl:mm.lines.length=4)(ha:a<512)(ht:(mm.lines.getD (a/4 % 4) eD).tag=((a/4:Nat):Int)):cL X 276 [.ptr b 0 2,(a:Int)] h k=some (.ptr L (a/4 % 4) 0,h,k+20):=by
 obtain⟨n,hn⟩: ∃n:Nat,a/4=n:=⟨_,rfl⟩;rw[hn]at ht⊢;obtain⟨r,hr⟩: ∃r:Nat,n % 4=r:=⟨_,rfl⟩;rw[hr]at ht⊢;have hd:(a:Int).tdiv 4=n:=by rw[abD (by omega)];omega
 have hw:IntKind.i64.wrap (n:Int)=n:=wrap_i64 (by omega);have sT:(n:Int).tmod 4=r:=by rw[aaK (by omega)];omega
 have h1:r<mm.lines.length:=by omega
 have uE:r<4:=by omega
 have CH:(r:Int)<4:=by omega
 have hL:=hA.lines;have hg:=jM (ids:=ids) h1;have jV:(fU ids mm.lines).length=4:=by rw[jh,hl]
 simp[List.getD,h1]at ht;obtain⟨v,h',n',e1,e2,e3,e4⟩:=bC (X:=X) (g:=276) (args:=[.ptr b 0 2,(a:Int)]) (h:=h) (k:=k) (K:=fun v h' n'=>v= .ptr L r 0/\h'=h/\n'=k+20) Tryz.func276 rfl rfl (by
  simp[aaE,hb,hd,hw,sT,uE,CH,hL,hg,jV,ht])
 rw[e1,e2,e3,e4]
@[simp]def Il(m:V)(addr:Int)(h:bh)(b C L k a:Nat)(ids:Nat->Nat)(vB vK vT:V)(mm:aF)(hb:h b=some ⟨5,[.agg [vB,vK,.cu C 0 512,.cu L 0 4,vT]],true⟩)(hA:NJ h C L ids mm)(pW:C≠L)(wF:b≠L)(hk:b<k/\C<k/\L<k)(hc:mm.cells.length=512)(hl:mm.lines.length=4)(ha:a<512)(ht: ¬(mm.lines.getD (a/4 % 4) eD).tag=((a/4:Nat):Int))(hx:(mm.lines.getD (a/4 % 4) eD).iW=false):cL X 276 [.ptr b 0 2,(a:Int)] h k=some (.ptr L (a/4 % 4) 0,aR (aR h (k+42) (some ⟨2,((mm.cells.drop (a/4*4)).take 4).map Cell.e,false⟩)) L (some ⟨3,(fU ids mm.lines).set (a/4 % 4) ((KKt ((a/4:Nat):Int) false (.cu (k+42) 0 4):V)),true⟩),k+48):=by
 obtain⟨n,hn⟩: ∃n:Nat,a/4=n:=⟨_,rfl⟩;rw[hn]at ht hx⊢;obtain⟨r,hr⟩: ∃r:Nat,n % 4=r:=⟨_,rfl⟩;rw[hr]at ht hx⊢;have hd:(a:Int).tdiv 4=n:=by rw[abD (by omega)];omega
 have hw:IntKind.i64.wrap (n:Int)=n:=wrap_i64 (by omega);obtain⟨p,hp⟩: ∃p:Nat,n*4=p:=⟨_,rfl⟩;rw[hp];obtain⟨q,hq⟩: ∃q:Nat,p+4=q:=⟨_,rfl⟩;have V9:IntKind.i64.wrap ((n:Int)*4)=(p:Int):=by rw[wrap_i64 (by omega)];omega
 have tz:=nd n (by omega);have hw5:IntKind.i64.wrap (((n:Int)+1)*4)=(q:Int):=by rw[wrap_i64 (by omega)];omega
 have hqp:q-p=4:=by omega
 have p4:p+4<=512:=by omega
 have hq5:q<=512:=by omega
 have Wa:(q:Int)<=512:=by omega
 have lO:min 4 (512-p)=4:=by omega
 have m8: ∀x∈List.take 4 (List.drop p (List.map Cell.e mm.cells)),x.cells.length=2:=fun x hx=>by
  have:=abh (aaS hx);simp only[adB]at this;obtain⟨c,_,rfl⟩:=this;rfl
 have Pz:p<=q:=by omega
 have sT:(n:Int).tmod 4=r:=by rw[aaK (by omega)];omega
 have h1:r<mm.lines.length:=by omega
 have uE:r<4:=by omega
 have CH:(r:Int)<4:=by omega
 have hL:=hA.lines;have hC:=hA.cells;have hg:=jM (ids:=ids) h1;have jV:(fU ids mm.lines).length=4:=by rw[jh,hl]
 simp[List.getD,h1]at ht hx;have azr: ¬L=b:=fun e=>wF e.symm;have Uw: ¬L=C:=fun e=>pW e.symm;have q1: ¬b=k+42:=by omega
 have q2: ¬C=k+42:=by omega
 have q3: ¬L=k+42:=by omega
 have q4: ¬k+42=L:=by omega
 obtain⟨v,h',n',e1,e2,e3,e4⟩:=bC (X:=X) (g:=276) (args:=[.ptr b 0 2,(a:Int)]) (h:=h) (k:=k) (K:=fun v h' n'=>v= .ptr L r 0/\h'=aR (aR h (k+42) (some ⟨2,((mm.cells.drop p).take 4).map Cell.e,false⟩)) L (some ⟨3,(fU ids mm.lines).set r ((KKt (n:Int) false (.cu (k+42) 0 4):V)),true⟩)/\n'=k+48) Tryz.func276 rfl rfl (by
  simp[aaE,hb,hd,hw,tz,V9,hw5,sT,uE,CH,hL,hC,hg,jV,ht,hx,hqp,p4,Wa,Pz,hc,wF,pW,q3,lO,sy];refine⟨m8,fun _=> ?_⟩;rw[NI h L (k+42) _ _ q3,sy])
 rw[e1,e2,e3,e4]
def nw(l:List Cell)(k:Nat)(xs:List Cell):List Cell:=l.take k++xs++l.drop (k+xs.length)
def Gn(h4:xs.length=4):(l.map Cell.e).take k++(xs.map Cell.e).take 4++(l.map Cell.e).drop (k+4)=(nw l k xs).map Cell.e:=by
 unfold nw;have e:(xs.map Cell.e).take 4=xs.map Cell.e:=aZ (by simp[h4]);rw[abH,abH,ae1,List.map_drop,h4,e]
def Gp(h:k+xs.length<=l.length):(nw l k xs).length=l.length:=by
 unfold nw;simp;omega
@[simp]def Im(m:V)(addr:Int)(h:bh)(b C L k a T:Nat)(ids:Nat->Nat)(vB vK vT:V)(mm:aF)(hb:h b=some ⟨5,[.agg [vB,vK,.cu C 0 512,.cu L 0 4,vT]],true⟩)(hA:NJ h C L ids mm)(hS:Ry C L ids)(wF:b≠L/\b≠C)(hk:b<k/\C<k/\L<k/\ ∀i,i<4->ids i<k)(hc:mm.cells.length=512)(hl:mm.lines.length=4)(ha:a<512)(ht: ¬(mm.lines.getD (a/4 % 4) eD).tag=((a/4:Nat):Int))(hx:(mm.lines.getD (a/4 % 4) eD).iW=true)(hT:(mm.lines.getD (a/4 % 4) eD).tag=(T:Int)/\T<128)(h4:(mm.lines.getD (a/4 % 4) eD).cells.length=4):cL X 276 [.ptr b 0 2,(a:Int)] h k=some (.ptr L (a/4 % 4) 0,aR (aR (aR h C (some ⟨2,(nw mm.cells (T*4) (mm.lines.getD (a/4 % 4) eD).cells).map Cell.e,false⟩)) (k+57) (some ⟨2,(((nw mm.cells (T*4) (mm.lines.getD (a/4 % 4) eD).cells).drop (a/4*4)).take 4).map Cell.e,false⟩)) L (some ⟨3,(fU ids mm.lines).set (a/4 % 4) ((KKt ((a/4:Nat):Int) false (.cu (k+57) 0 4):V)),true⟩),k+63):=by
 obtain⟨n,hn⟩: ∃n:Nat,a/4=n:=⟨_,rfl⟩;rw[hn]at ht hx hT h4⊢;obtain⟨r,hr⟩: ∃r:Nat,n % 4=r:=⟨_,rfl⟩;rw[hr]at ht hx hT h4⊢;have hd:(a:Int).tdiv 4=n:=by rw[abD (by omega)];omega
 have hw:IntKind.i64.wrap (n:Int)=n:=wrap_i64 (by omega);obtain⟨p,hp⟩: ∃p:Nat,n*4=p:=⟨_,rfl⟩;rw[hp];obtain⟨q,hq⟩: ∃q:Nat,p+4=q:=⟨_,rfl⟩;obtain⟨s,hs⟩: ∃s:Nat,T*4=s:=⟨_,rfl⟩;rw[hs];have V9:IntKind.i64.wrap ((n:Int)*4)=(p:Int):=by rw[wrap_i64 (by omega)];omega
 have tz:=nd n (by omega);have hw5:IntKind.i64.wrap (((n:Int)+1)*4)=(q:Int):=by rw[wrap_i64 (by omega)];omega
 have hT2:=hT.2;have Dx:IntKind.i64.wrap ((T:Int)*4)=(s:Int):=by rw[wrap_i64 (by omega)];omega
 have hqp:q-p=4:=by omega
 have p4:p+4<=512:=by omega
 have hq5:q<=512:=by omega
 have Wa:(q:Int)<=512:=by omega
 have Pz:p<=q:=by omega
 have hs5:s<=512:=by omega
 have as0:(s:Int)<=512:=by omega
 have hsm:min 4 (512-s)=4:=by omega
 have XP:s+(512-s)<=512:=by omega
 have sT:(n:Int).tmod 4=r:=by rw[aaK (by omega)];omega
 have h1:r<mm.lines.length:=by omega
 have uE:r<4:=by omega
 have CH:(r:Int)<4:=by omega
 have hL:=hA.lines;have hC:=hA.cells;have Hr:=hA.line r h1;have hg:=jM (ids:=ids) h1;have jV:(fU ids mm.lines).length=4:=by rw[jh,hl]
 have hgt:(mm.lines.getD r eD)=mm.lines[r]:=by simp[List.getD,h1]
 rw[hgt]at ht hx hT h4⊢;have hTt:=hT.1;have htn: ¬(T:Int)=n:=by rw[<-hTt];exact ht
 have bok: ¬T=n:=by omega
 have acu:=Gn (l:=mm.cells) (k:=s) h4;have hlen:=Gp (l:=mm.cells) (k:=s) (xs:=(mm.lines[r]).cells) (by omega);rw[hc]at hlen;have azr: ¬L=b:=fun e=>wF.1 e.symm;have bom: ¬C=b:=fun e=>wF.2 e.symm;have a8x:=wF.1;have Wb:=wF.2;have pW:=hS.cl;have Uw: ¬L=C:=fun e=>pW e.symm;have hic:=hS.ci r uE;have EV:=hS.li r uE;have bon: ¬C=ids r:=fun e=>hic e.symm;have qy: ¬L=ids r:=fun e=>EV e.symm;have q1: ¬b=k+57:=by omega
 have q2: ¬C=k+57:=by omega
 have q3: ¬L=k+57:=by omega
 have q4: ¬k+57=L:=by omega
 have q5: ¬k+57=C:=by omega
 have lO:min 4 (512-p)=4:=by omega
 have hxc: ∀x∈ (mm.lines[r]).cells.map Cell.e,x.cells.length=2:=fun x hx=>by
  simp only[adB]at hx;obtain⟨c,_,rfl⟩:=hx;rfl
 have e4:List.take 4 (List.map Cell.e (mm.lines[r]).cells)=List.map Cell.e (mm.lines[r]).cells:=aZ (by simp[h4]);rw[e4,acr]at acu;have bdp:p+4<=s+(4+(508-s)):=by omega
 have m8: ∀x∈List.take 4 (List.drop p (List.map Cell.e (nw mm.cells s (mm.lines[r]).cells))),x.cells.length=2:=fun x hx=>by
  have:=abh (aaS hx);simp only[adB]at this;obtain⟨c,_,rfl⟩:=this;rfl
 obtain⟨v,h',n',e1,e2,e3,e4⟩:=bC (X:=X) (g:=276) (args:=[.ptr b 0 2,(a:Int)]) (h:=h) (k:=k) (K:=fun v h' n'=>v= .ptr L r 0/\h'=aR (aR (aR h C (some ⟨2,(nw mm.cells s (mm.lines[r]).cells).map Cell.e,false⟩)) (k+57) (some ⟨2,(((nw mm.cells s (mm.lines[r]).cells).drop p).take 4).map Cell.e,false⟩)) L (some ⟨3,(fU ids mm.lines).set r ((KKt (n:Int) false (.cu (k+57) 0 4):V)),true⟩)/\n'=k+63) Tryz.func276 rfl rfl (by
  simp[aaE,hb,hd,hw,tz,V9,hw5,Dx,sT,uE,CH,hL,hC,Hr,hg,jV,hTt,htn,hx,h4,hqp,p4,Wa,Pz,hs5,as0,hsm,hc,hlen,e4,acu,a8x,Wb,pW,Uw,q3,lO,sy];exact⟨m8,fun _=>by rw[NI _ L (k+57) _ _ q3,sy]⟩)
 rw[e1,e2,e3,e4]
def dZ(m:aF)(r:Nat):cy:=m.lines.getD r eD
def kS(m:aF)(r:Nat):List Cell:=if(dZ m r).iW=true then nw m.cells ((dZ m r).tag.toNat*4) (dZ m r).cells else m.cells
def dr(m:aF)(a:Nat):aF:=
 if(dZ m (a/4 % 4)).tag=((a/4:Nat):Int) then m else
  ⟨kS m (a/4 % 4),m.lines.set (a/4 % 4) ⟨((a/4:Nat):Int),false,((kS m (a/4 % 4)).drop (a/4*4)).take 4⟩⟩
def nf(m:aF)(a:Nat):Cell:=((dZ (dr m a) (a/4 % 4)).cells.getD (a % 4) ⟨0,0⟩)
def mE(m:aF)(a:Nat)(c:Cell):aF:=
 ⟨(dr m a).cells,(dr m a).lines.set (a/4 % 4) ⟨(dZ (dr m a) (a/4 % 4)).tag,true,(dZ (dr m a) (a/4 % 4)).cells.set (a % 4) c⟩⟩
structure kz (h:bh) (k b C L:Nat) (ids:Nat->Nat) (vB vK vT:V) (m:aF):Prop where
 box:h b=some ⟨5,[.agg [vB,vK,.cu C 0 512,.cu L 0 4,vT]],true⟩
 at_:NJ h C L ids m
 sep:Ry C L ids
 bl:b≠L/\b≠C
 bi: ∀i,i<4->ids i≠b
 lt:b<k/\C<k/\L<k/\ ∀i,i<4->ids i<k
 mem:uf m
def Rz(h:gd l=true):gd ((l.drop p).take 4)=true:=by
 unfold gd at h⊢;rw[aaP]at h⊢;exact fun x hx=>h x (abh (aaS hx))
def KX(h:gd l=true)(hx:gd xs=true):gd (nw l p xs)=true:=by
 unfold gd nw at*;rw[aaP]at h hx⊢;intro x hm;simp only[aew]at hm;rcases hm with(hm|hm)|hm
 ·exact h x (aaS hm)
 ·exact hx x hm
 ·exact h x (abh hm)
def iq(h:r<m.lines.length):dZ m r=m.lines[r]:=by simp[dZ,List.getD,h]
def EB(hM:uf m)(hr:r<4):(kS m r).length=512/\gd (kS m r)=true:=by
 have h1:r<m.lines.length:=by rw[hM.lines];exact hr
 unfold kS;split
 ·rename_i hd;rw[iq h1]at hd⊢;have hl:=hM.line r h1;have hn:(m.lines[r]).tag≠ -1:=fun e=>by rw[(hl.none e).1]at hd;cases hd
  obtain⟨g1,g2,g3,g4⟩:=hl.some hn;refine⟨?_,KX hM.cells hl.cells⟩;rw[Gp (by rw[hM.len];omega),hM.len]
 ·exact⟨hM.len,hM.cells⟩
def qk(hM:uf m)(ha:a<512):uf (dr m a):=by
 unfold dr;split
 ·exact hM
 ·obtain⟨b1,b2⟩:=EB hM (r:=a/4 % 4) (by omega);refine⟨b1,by simp[hM.lines],b2,fun i hi=> ?_⟩;have oE:i<m.lines.length:=by simpa using hi
  by_cases he:a/4 % 4=i
  ·subst he;simp only[abY];refine⟨fun e=> ?_,fun _=>⟨?_,?_,?_,?_⟩,Rz b2⟩
   ·simp only at e;omega
   ·simp only;omega
   ·simp only;omega
   ·simp only;omega
   ·simp only[abN,adV,b1];omega
  ·simp only[abQ he];exact hM.line i oE
def sd(hM:uf m)(ha:a<512):(dZ (dr m a) (a/4 % 4)).tag=((a/4:Nat):Int)/\(dZ (dr m a) (a/4 % 4)).cells.length=4:=by
 have hf:=qk hM ha;have h1:a/4 % 4<(dr m a).lines.length:=by rw[hf.lines];omega
 have ht:(dZ (dr m a) (a/4 % 4)).tag=((a/4:Nat):Int):=by
  unfold dr;split
  ·assumption
  ·have h2:a/4 % 4<m.lines.length:=by rw[hM.lines];omega
   simp[dZ,List.getD,h2]
 refine⟨ht,?_⟩;rw[iq h1]at ht⊢;exact((hf.line _ h1).some (by omega)).2.2.2
def Gq{h:bh}(H:kz h k b C L ids vB vK vT m)(ha:a<512):
  ∃h' k' iI,cL X 276 [.ptr b 0 2,(a:Int)] h k=some (.ptr L (a/4 % 4) 0,h',k')/\kz h' k' b C L iI vB vK vT (dr m a)/\k<=k'/\
   (∀j,j<4->iI j=ids j\/k<=iI j)/\(∀i,i<k->i≠C->i≠L->(∀j,j<4->i≠ids j)->h' i=h i):=by
 obtain⟨hb,hA,hS,wF,hbi,gY,hM⟩:=H;have hl:=hM.lines;have Eg:a/4 % 4<4:=by omega
 have hr:a/4 % 4<m.lines.length:=by omega
 by_cases ht:(dZ m (a/4 % 4)).tag=((a/4:Nat):Int)
 ·have e:=NK .bad 0 h b C L k a ids vB vK vT m hb hA hl ha ht;have ef:dr m a=m:=by unfold dr;rw[if_pos ht]
  exact⟨h,k+20,ids,e,⟨hb,by rw[ef];exact hA,hS,wF,hbi,⟨by omega,by omega,by omega,fun i hi=>by have:=gY.2.2.2 i hi;omega⟩,by rw[ef];exact hM⟩,by omega,fun j hj=> .inl rfl,fun i _ _ _ _=>rfl⟩
 ·have ef:dr m a=⟨kS m (a/4 % 4),m.lines.set (a/4 % 4) ⟨((a/4:Nat):Int),false,((kS m (a/4 % 4)).drop (a/4*4)).take 4⟩⟩:=by unfold dr;rw[if_neg ht]
  obtain⟨b1,b2⟩:=EB hM Eg;have acv:(((kS m (a/4 % 4)).drop (a/4*4)).take 4).length=4:=by simp only[abN,adV,b1];omega
  have hfm:=qk hM ha;have fin: ∀(h1:bh) (q:Nat),k<=q->h1 C=some ⟨2,(kS m (a/4 % 4)).map Cell.e,false⟩->(∀i,i<k->i≠C->h1 i=h i)->
    kz (aR (aR h1 q (some ⟨2,(((kS m (a/4 % 4)).drop (a/4*4)).take 4).map Cell.e,false⟩)) L (some ⟨3,(fU ids m.lines).set (a/4 % 4) ((KKt ((a/4:Nat):Int) false (.cu q 0 4):V)),true⟩)) (q+6) b C L (aR ids (a/4 % 4) q) vB vK vT (dr m a)/\
    (∀j,j<4->aR ids (a/4 % 4) q j=ids j\/k<=aR ids (a/4 % 4) q j)/\
    (∀i,i<k->i≠C->i≠L->(∀j,j<4->i≠ids j)->aR (aR h1 q (some ⟨2,(((kS m (a/4 % 4)).drop (a/4*4)).take 4).map Cell.e,false⟩)) L (some ⟨3,(fU ids m.lines).set (a/4 % 4) ((KKt ((a/4:Nat):Int) false (.cu q 0 4):V)),true⟩) i=h i):=by
   intro h1 q hq hC ot;rw[ef]at hfm⊢;have lb:=AU (ids:=ids) (n:=q) (x:=⟨((a/4:Nat):Int),false,((kS m (a/4 % 4)).drop (a/4*4)).take 4⟩) hr;simp only[acv]at lb;have u1: ∀{α:Type} (f:Nat->α) (i:Nat) (v:α),aR f i v i=v:=fun f i v=>by simp[aR]
   have u2: ∀{α:Type} (f:Nat->α) (i j:Nat) (v:α),j≠i->aR f i v j=f j:=fun f i j v kC=>by simp[aR,kC]
   refine⟨⟨?_,⟨?_,?_,fun i hi=> ?_⟩,⟨hS.cl,fun i hi=> ?_,fun i hi=> ?_,fun i j hi hj mz=> ?_⟩,wF,fun i hi=> ?_,⟨by omega,by omega,by omega,fun i hi=> ?_⟩,hfm⟩,fun j hj=> ?_,fun i IN hiC hiL mz=> ?_⟩
   ·rw[u2 _ _ _ _ wF.1,u2 _ _ _ _ (by omega),ot b gY.1 wF.2,hb]
   ·rw[u2 _ _ _ _ hS.cl,u2 _ _ _ _ (by omega),hC]
   ·rw[u1,lb]
   ·simp only[aaN]at hi;by_cases he:a/4 % 4=i
    ·subst he;rw[u1,u2 _ _ _ _ (by omega),u1];simp
    ·rw[u2 _ _ _ _ (aaW he),u2 _ _ _ _ (hS.li i (by omega)),u2 _ _ _ _ (by have:=gY.2.2.2 i (by omega);omega),ot _ (gY.2.2.2 i (by omega)) (hS.ci i (by omega)),hA.line i hi];simp[abQ he]
   ·by_cases he:a/4 % 4=i
    ·subst he;rw[u1];omega
    ·rw[u2 _ _ _ _ (aaW he)];exact hS.ci i hi
   ·by_cases he:a/4 % 4=i
    ·subst he;rw[u1];omega
    ·rw[u2 _ _ _ _ (aaW he)];exact hS.li i hi
   ·by_cases he:a/4 % 4=i
    ·subst he;rw[u1,u2 _ _ _ _ (aaW mz)];have:=gY.2.2.2 j hj;omega
    ·rw[u2 _ _ _ _ (aaW he)];by_cases Xw:a/4 % 4=j
     ·subst Xw;rw[u1];have:=gY.2.2.2 i hi;omega
     ·rw[u2 _ _ _ _ (aaW Xw)];exact hS.ii i j hi hj mz
   ·by_cases he:a/4 % 4=i
    ·subst he;rw[u1];omega
    ·rw[u2 _ _ _ _ (aaW he)];exact hbi i hi
   ·by_cases he:a/4 % 4=i
    ·subst he;rw[u1];omega
    ·rw[u2 _ _ _ _ (aaW he)];have:=gY.2.2.2 i hi;omega
   ·by_cases he:a/4 % 4=j
    ·subst he;rw[u1];exact .inr hq
    ·rw[u2 _ _ _ _ (aaW he)];exact .inl rfl
   ·rw[u2 _ _ _ _ hiL,u2 _ _ _ _ (by omega),ot i IN hiC]
  cases hx:(dZ m (a/4 % 4)).iW with
  |false=>
   have e:=Il .bad 0 h b C L k a ids vB vK vT m hb hA hS.cl wF.1 ⟨gY.1,gY.2.1,gY.2.2.1⟩ hM.len hl ha ht hx;have eb:kS m (a/4 % 4)=m.cells:=by unfold kS;rw[hx];simp
   obtain⟨f1,f2,f3⟩:=fin h (k+42) (by omega) (by rw[eb];exact hA.cells) (fun i _ _=>rfl);rw[eb]at f1 f3;exact⟨_,_,_,e,f1,by omega,f2,f3⟩
  |true=>
   have zR:=hM.line _ hr;rw[iq hr]at hx;have hn:(m.lines[a/4 % 4]).tag≠ -1:=fun e=>by rw[(zR.none e).1]at hx;cases hx
   obtain⟨g1,g2,g3,g4⟩:=zR.some hn;have LF:m.lines.getD (a/4 % 4) eD=m.lines[a/4 % 4]:=by simp[List.getD,hr]
   have e:=Im .bad 0 h b C L k a (m.lines[a/4 % 4]).tag.toNat ids vB vK vT m hb hA hS wF gY hM.len hl ha ht (by rw[LF];exact hx) ⟨by rw[LF];omega,by omega⟩ (by rw[LF];exact g4);have eb:kS m (a/4 % 4)=nw m.cells ((m.lines[a/4 % 4]).tag.toNat*4) (m.lines.getD (a/4 % 4) eD).cells:=by
    unfold kS;rw[iq hr,hx,if_pos rfl,LF]
   obtain⟨f1,f2,f3⟩:=fin (aR h C (some ⟨2,(kS m (a/4 % 4)).map Cell.e,false⟩)) (k+57) (by omega) (by simp[aR]) (fun i _ kC=>by simp[aR,kC]);rw[eb]at f1 f3;exact⟨_,_,_,e,f1,by omega,f2,f3⟩
end Go.Proofs.YtdngefmliibcgaaGreat
