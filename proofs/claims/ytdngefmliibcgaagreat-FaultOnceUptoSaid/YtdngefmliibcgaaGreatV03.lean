/- part -/
import Derived.Test.YtdngefmliibcgaaGreatV02
set_option linter.all false
set_option maxRecDepth 20000
set_option maxHeartbeats 20000000
namespace Go.Proofs.YtdngefmliibcgaaGreat
open Go Go.Abs Go.Abs.kI Qf
variable  {n i p j k r a b C L:Nat}{aD an:List Int}{l xs:List Cell}{α:Type}{x:cw}{m:aF}{ids:Nat->Nat}{vB vK vT:V}
@[simp]def DK(v n:Int)(hn:1<=n/\n<=4611686018427387904):bU X 84 [v,n]=some (.int .i64 (v % n)):=by
 refine aaA ?_;have h0:(n=0)=False:=by simp;omega
 have h1:=acD v (show n≠0 by omega);have h2:=abW v (show 0<n by omega);rw[wi (show 0<n by omega)];by_cases hc:v.tmod n<0
 ·simp[h0,hc];rw[wi (show 0<n by omega),if_pos hc]at h1 h2;exact wrap_i64 (by omega)
 ·simp[h0,hc]
@[simp]def aps(v n:Int)(hn:1<=n/\n<=4611686018427387904):bU X 98 [v,n]=some (.int .i64 (v % n)):=by
 refine aaA ?_;have h0:(n=0)=False:=by simp;omega
 have h1:=acD v (show n≠0 by omega);have h2:=abW v (show 0<n by omega);rw[wi (show 0<n by omega)];by_cases hc:v.tmod n<0
 ·simp[h0,hc];rw[wi (show 0<n by omega),if_pos hc]at h1 h2;exact wrap_i64 (by omega)
 ·simp[h0,hc]
@[simp]def atd(v n:Int)(hn:1<=n/\n<=4611686018427387904):bU X 27 [v,n]=some (.int .i64 (v % n)):=by
 refine aaA ?_;simp[hn]
@[simp]def ag9(ey dp:Int):bU X 165 [KKo ey dp]=some (.bool (decide (ey<=2))):=by
 refine aaA ?_;simp
@[simp]def aj8(ey dp:Int):bU X 223 [KKo ey dp]=some (.bool (decide (ey<=2))):=by
 refine aaA ?_;simp
@[simp]def aha(an:List Int)(hm:an.length<=1000000000):bU X 87 [an]=some (.bool (kJ an)):=by
 refine aaA ?_;simp;refine cY (fun i S=>(S.f 0=an/\S.f 5=an/\S.f 6=((an).length:Int)/\S.f 7=(i:Int)/\S.n=1100)/\((an.take i).all BK=true)) (an.length) (by omega) ?_ ?_ ?_
 ·rintro i S ⟨oY,gS,bL⟩ ⟨df,fg⟩;have key: ¬(1<=an[i]/\an[i]<=32)->kJ an=false:=fun h=>by
   unfold kJ;rw[vr bL (by simpa[BK] using h)];rfl
  simp[df,gS,bL, -List.all_eq_true];rw[vt bL,fg];refine⟨fun h1=>⟨fun h2=>key (by omega),fun h2=>by simp[BK,h1,h2]⟩,fun h1=>key (by omega)⟩
 ·rintro S ⟨df,fg⟩;simp[df]<;>(
   rw[abC]at fg;unfold kJ;rw[fg];by_cases h0:1<=an.length
   ·refine⟨fun _=>by simp[h0];omega,fun h=>by omega⟩
   ·refine⟨fun h=>by omega,fun _=>by simp[h0]⟩)
 ·simp
@[simp]def acw(an:List Int)(hm:an.length<=1000000000):bU X 216 [an]=some (.bool (kJ an)):=by
 refine aaA ?_;simp;refine cY (fun i S=>(S.f 0=an/\S.f 5=an/\S.f 6=((an).length:Int)/\S.f 7=(i:Int)/\S.n=1100)/\((an.take i).all BK=true)) (an.length) (by omega) ?_ ?_ ?_
 ·rintro i S ⟨oY,gS,bL⟩ ⟨df,fg⟩;have key: ¬(1<=an[i]/\an[i]<=32)->kJ an=false:=fun h=>by
   unfold kJ;rw[vr bL (by simpa[BK] using h)];rfl
  simp[df,gS,bL, -List.all_eq_true];rw[vt bL,fg];refine⟨fun h1=>⟨fun h2=>key (by omega),fun h2=>by simp[BK,h1,h2]⟩,fun h1=>key (by omega)⟩
 ·rintro S ⟨df,fg⟩;simp[df]<;>(
   rw[abC]at fg;unfold kJ;rw[fg];by_cases h0:1<=an.length
   ·refine⟨fun _=>by simp[h0];omega,fun h=>by omega⟩
   ·refine⟨fun h=>by omega,fun _=>by simp[h0]⟩)
 ·simp
@[simp]def IC(an:List Int)(hs:an.length<=1000)(hb: ∀x∈an,0<=x/\x<=1000000):bU X 106 [an]=some (.int .i64 (total an)):=by
 refine aaA ?_;simp;refine cY (fun i S=>(S.f 3= .int .i64 (total (an.take i))/\S.f 6=an/\S.f 7=((an).length:Int)/\S.f 8=(i:Int)/\S.n=1100)/\(0<=total (an.take i)/\total (an.take i)<=1000000*i)) (an.length) (by omega) ?_ ?_ ?_
 ·rintro i S ⟨oY,gS,bL⟩ ⟨df,fg⟩;simp[df,gS,bL]<;>(
   have hx:=hb _ (aaL bL);rw[fD bL,tZ];rw[wrap_i64 (by omega)];exact⟨rfl,by omega,by omega⟩)
 ·rintro S ⟨df,fg⟩;simp[df]
 ·simp<;>(
   simp[total])
@[simp]def acx(an:List Int)(fV iQ:Int):bU X 180 [.sl false (an.map (V.int .i64)),KKC fV iQ]=some (.bool (inside an fV iQ)):=by
 refine aaA ?_;by_cases h:0<=fV/\fV<an.length
 ·obtain⟨k,rfl⟩: ∃k:Nat,fV=k:=⟨fV.toNat,by omega⟩;have hk:k<an.length:=by omega
  simp[hk];unfold inside;simp[List.getD,hk];by_cases h0:0<=iQ<;>simp[h0]<;>omega
 ·have:inside an fV iQ=false:=by
   unfold inside;simp;intros;omega
  rw[this];by_cases h0:0<=fV
  ·have h1:(fV<an.length)=False:=by simp;omega
   simp[h0,h1]
  ·simp[h0]
@[simp]def X8(an:List Int)(fV iQ:Int):bU X 178 [.sl false (an.map (V.int .i64)),KKC fV iQ]=some (.bool (inside an fV iQ)):=by
 refine aaA ?_;by_cases h:0<=fV/\fV<an.length
 ·obtain⟨k,rfl⟩: ∃k:Nat,fV=k:=⟨fV.toNat,by omega⟩;have hk:k<an.length:=by omega
  simp[hk];unfold inside;simp[List.getD,hk];by_cases h0:0<=iQ<;>simp[h0]<;>omega
 ·have:inside an fV iQ=false:=by
   unfold inside;simp;intros;omega
  rw[this];by_cases h0:0<=fV
  ·have h1:(fV<an.length)=False:=by simp;omega
   simp[h0,h1]
  ·simp[h0]
@[simp]def ate(an:List Int)(i:Int)(hz:oI an)(hi:0<=i/\i<=1000000):bU X 105 [an,i]=some (.dP [KKz ((oJ an i 0).1),.int .i64 ((oJ an i 0).2)]):=by
 refine aaA ?_;have hz':=hz.le;simp;refine cY (fun k S=>(S.f 1= .int .i64 (i-total (an.take k))/\S.f 4= .ptr 4 0 0/\S.h 4=some ⟨2,[KKC 0 0],true⟩/\S.f 8=an/\S.f 9=((an).length:Int)/\S.f 10=(k:Int)/\S.n=1100)/\(oJ an i 0=oJ (an.drop k) (i-total (an.take k)) k/\0<=total (an.take k)/\total (an.take k)<=32*k)) (an.length) (by omega) ?_ ?_ ?_
 ·rintro k S ⟨Jc,ER,kK⟩ ⟨df,fg⟩;have he:=hz.elem k kK;obtain⟨r9,Py,hP3⟩:=fg;have hs:oJ (an.drop k) (i-total (an.take k)) k=if 0<=i-total (an.take k)/\i-total (an.take k)<an[k] then(⟨k,i-total (an.take k)⟩,0) else oJ (an.drop (k+1)) (i-total (an.take k)-an[k]) (k+1):=by
   rw[drop_cons kK];rfl
  have ht:total (an.take (k+1))=total (an.take k)+an[k]:=by rw[fD kK,tZ]
  have hw:IntKind.i64.wrap (i-total (an.take k)-an[k])=i-total (an.take k)-an[k]:=wrap_i64 (by omega);rw[r9,hs];simp[df,ER,kK,ht,hw];have hc:(0<=i-total (an.take k)/\i-total (an.take k)<an[k])↔(total (an.take k)<=i/\i-total (an.take k)<an[k]):=by omega
  have e3:i-(total (an.take k)+an[k])=i-total (an.take k)-an[k]:=by omega
  refine⟨fun h1=>⟨fun h2=> ?_,fun h2=>⟨by omega,?_,by omega,by omega⟩⟩,fun h1=>⟨by omega,?_,by omega,by omega⟩⟩
  ·rw[if_pos ⟨by omega,h2⟩];simp
  ·rw[if_neg (by omega),e3]
  ·rw[if_neg (by omega),e3]
 ·rintro S ⟨df,fg⟩;simp[df]<;>(
   rw[fg.1];simp[oJ])
 ·simp<;>(
   simp[total])
@[simp]def aj9(a b:List Cell)(hm:a.length<=1000000000):bU X 166 [a,b]=some (.bool (decide (a=b))):=by
 refine aaA ?_;simp;refine⟨fun h e=>h (by rw[e]),fun hl=> ?_⟩;have hl:a.length=b.length:=by omega
 refine cY (fun i S=>(S.f 0=a/\S.f 1=b/\S.f 12=((a).length:Int)/\S.f 13=(i:Int)/\S.n=1100)/\(a.take i=b.take i)) (a.length) (by omega) ?_ ?_ ?_
 ·rintro i S ⟨oY,gS,bL⟩ ⟨df,fg⟩;have hb:i<b.length:=by omega
  simp[df,gS,bL,hb];refine⟨fun h e=> ?_,fun e1 e2=>BJ bL hb fg ((Cell.eq_iff _ _).2 ⟨e1,e2⟩)⟩;subst e;simp at h
 ·rintro S ⟨df,fg⟩;simp[df]<;>(
   exact yE (i:=a.length) (by simp) hl fg)
 ·simp
@[simp]def aka(tE:List Int)(acy:Int)(zI:List Int)(acz:Int)(hm:tE.length<=1000000000):bU X 81 [KKc tE acy,KKc zI acz]=some (.bool (decide ((Layout.mk tE acy)=(Layout.mk zI acz)))):=by
 refine aaA ?_;simp;refine⟨fun hk=>⟨fun h e _=>h (by rw[e]),fun hl=> ?_⟩,fun h _ e=>h e⟩;have hl:tE.length=zI.length:=by omega
 refine cY (fun i S=>(S.f 2= .ptr 2 0 0/\S.h 2=some ⟨2,[KKc tE acy],true⟩/\S.f 3= .ptr 3 0 0/\S.h 3=some ⟨2,[KKc zI acz],true⟩/\S.f 22=((tE).length:Int)/\S.f 23=(i:Int)/\S.n=1100)/\(tE.take i=zI.take i)) (tE.length) (by omega) ?_ ?_ ?_
 ·rintro i S ⟨oY,gS,bL⟩ ⟨df,fg⟩;have hb:i<zI.length:=by omega
  simp[df,gS,bL,hb];refine⟨fun h e=> ?_,fun e1=>BJ bL hb fg e1⟩;subst e;simp at h
 ·rintro S ⟨df,fg⟩;simp[df]<;>(
   exact⟨yE (i:=tE.length) (by simp) hl fg,hk⟩)
 ·simp
@[simp]def X9(aw:List Int)(bK:Int)(an:List Int)(addr:Int)(hL:nW aw an)(ha:0<=addr/\addr<=65535):bU X 171 [KKc aw bK,.sl false (an.map (V.int .i64)),.int .i64 addr]=some (.dP [KKz ((resolve aw an addr).1),.bool ((resolve aw an addr).2)]):=by
 refine aaA ?_;have h1:=hL.sz.le;have h2:=hL.len;simp;refine cY (fun k S=>(S.f 1=an/\S.f 2= .int .i64 addr/\S.f 6= .ptr 6 0 0/\S.h 6=some ⟨2,[KKC 0 0],true⟩/\S.f 11=aw/\S.f 12=((aw).length:Int)/\S.f 13=(k:Int)/\S.n=1100)/\(resolve aw an addr=rQ (aw.drop k) (an.drop k) addr k)) (aw.length) (by omega) ?_ ?_ ?_
 ·rintro k S ⟨Jc,ER,kK⟩ ⟨df,fg⟩;have hk:k<an.length:=by omega
  have he:=hL.sz.elem k hk;have hb:=hL.base k kK hk;have hs:rQ (aw.drop k) (an.drop k) addr k=if aw[k]<=addr/\addr<aw[k]+an[k] then(⟨k,addr-aw[k]⟩,true) else rQ (aw.drop (k+1)) (an.drop (k+1)) addr (k+1):=by
   rw[drop_cons kK,drop_cons hk];rfl
  have sU:IntKind.i64.wrap (aw[k]+an[k])=aw[k]+an[k]:=wrap_i64 (by omega);have H8:IntKind.i64.wrap (addr-aw[k])=addr-aw[k]:=wrap_i64 (by omega);simp[df,ER,kK,hk,sU,H8];rw[fg,hs];exact⟨fun a1=>⟨fun a2=>by rw[if_pos ⟨a1,a2⟩];simp,fun a2=>by rw[if_neg (by omega)]⟩,fun a1=>by rw[if_neg (by omega)]⟩
 ·rintro S ⟨df,fg⟩;simp[df]<;>(
   rw[fg];simp[rQ])
 ·simp<;>(
   rfl)
@[simp]def Wk(aw:List Int)(bK:Int)(an:List Int)(addr:Int)(hL:nW aw an)(ha:0<=addr/\addr<=65535):bU X 267 [KKc aw bK,.sl false (an.map (V.int .i64)),.int .i64 addr]=some (.dP [KKz ((resolve aw an addr).1),.bool ((resolve aw an addr).2)]):=by
 refine aaA ?_;have h1:=hL.sz.le;have h2:=hL.len;simp;refine cY (fun k S=>(S.f 1=an/\S.f 2= .int .i64 addr/\S.f 6= .ptr 6 0 0/\S.h 6=some ⟨2,[KKC 0 0],true⟩/\S.f 11=aw/\S.f 12=((aw).length:Int)/\S.f 13=(k:Int)/\S.n=1100)/\(resolve aw an addr=rQ (aw.drop k) (an.drop k) addr k)) (aw.length) (by omega) ?_ ?_ ?_
 ·rintro k S ⟨Jc,ER,kK⟩ ⟨df,fg⟩;have hk:k<an.length:=by omega
  have he:=hL.sz.elem k hk;have hb:=hL.base k kK hk;have hs:rQ (aw.drop k) (an.drop k) addr k=if aw[k]<=addr/\addr<aw[k]+an[k] then(⟨k,addr-aw[k]⟩,true) else rQ (aw.drop (k+1)) (an.drop (k+1)) addr (k+1):=by
   rw[drop_cons kK,drop_cons hk];rfl
  have H8:IntKind.i64.wrap (addr-aw[k])=addr-aw[k]:=wrap_i64 (by omega);simp[df,ER,kK,hk,H8];rw[fg,hs];exact⟨fun a1=>⟨fun a2=>by rw[if_pos ⟨a1,by omega⟩];simp,fun a2=>by rw[if_neg (by omega)]⟩,fun a1=>by rw[if_neg (by omega)]⟩
 ·rintro S ⟨df,fg⟩;simp[df]<;>(
   rw[fg];simp[rQ])
 ·simp<;>(
   rfl)
def Gd(n:Nat)(p:Nat->Bool):(List.range (n+1)).all p=((List.range n).all p&&p n):=by
 rw[acK,aeW];simp
def CO{p:Nat->Bool}(h:i<n)(hp:p i=false):(List.range n).all p=false:=by
 rw[<-Bool.not_eq_true,aaP];intro jV;have:=jV i (List.mem_range.2 h);rw[hp]at this;cases this
def vu(aD an:List Int)(i j:Nat):Bool:= !(decide (nth aD j<=nth aD i+nth an i)&&decide (nth aD i<=nth aD j+nth an j))
def sb(aD an:List Int)(i:Nat):ub aD an i=(decide (0<=nth aD i/\nth aD i<=512-nth an i)&& (List.range i).all (vu aD an i)):=rfl
def DL(aD an:List Int)(k:Nat):Bool:=(List.range k).all (ub aD an)
def NI(aD an:List Int)(k:Nat):DL aD an (k+1)=(DL aD an k&&ub aD an k):=Gd ..
def ES(h:i<aD.length)(hp:ub aD an i=false):iX aD an=false:=by
 unfold iX;rw[CO h hp];simp
def akb(aD an:List Int)(i j:Nat):Bool:=(List.range j).all (vu aD an i)
def TH(aD an:List Int)(i j:Nat):akb aD an i (j+1)=(akb aD an i j&&vu aD an i j):=Gd ..
def ac0(h:j<i)(hp:vu aD an i j=false):ub aD an i=false:=by
 rw[sb,CO h hp];simp
@[simp]def ahb(aw:List Int)(bK:Int)(an:List Int)(hm:aw.length<=1000000000/\an.length<=1000000000):bU X 69 [KKc aw bK,.sl false (an.map (V.int .i64))]=some (.bool (iX aw an)):=by
 refine aaA ?_;have sV:=hm.1;have v8:=hm.2;by_cases hz:kJ an=true
 case neg=>
  have:iX aw an=false:=by unfold iX;simp[hz]
  simp[v8,hz,this]
 by_cases hl:aw.length=an.length
 case neg=>
  have h3:((aw.length:Int)=an.length)=False:=by simp;omega
  have:iX aw an=false:=by unfold iX;simp[hl]
  simp[v8,hz,h3,this]
 have hS:=nF.1 hz;have h4:=hS.le;simp[v8,hz,hl];refine cY (fun i S=>(S.f 1=an/\S.f 2= .ptr 2 0 0/\S.h 2=some ⟨2,[KKc aw bK],true⟩/\S.f 21=aw/\S.f 22=((aw).length:Int)/\S.f 23=(i:Int)/\S.n=1100)/\(DL aw an i=true)) (aw.length) (by omega) ?_ ?_ ?_
 ·rintro i S ⟨oY,gS,bL⟩ ⟨df,fg⟩;have xY:i<an.length:=by omega
  have he:=hS.elem i xY;have sU:IntKind.i64.wrap (512-an[i])=512-an[i]:=wrap_i64 (by omega);have bad: ¬(0<=aw[i]/\aw[i]<=512-an[i])->iX aw an=false:=fun h=>by
   refine ES bL ?_;rw[sb,dE bL,dE xY,decide_eq_false h,acF]
  have bpq:i<=aw.length:=by omega
  simp[df,oY,bL,xY,sU];refine⟨fun a1=>⟨fun a2=>bad (by omega),fun a2=> ?_⟩,fun a1=>bad (by omega)⟩;have Ge:IntKind.i64.wrap (aw[i]+an[i])=aw[i]+an[i]:=wrap_i64 (by omega);refine cY (fun j S=>(S.f 1=an/\S.f 2= .ptr 2 0 0/\S.h 2=some ⟨2,[KKc aw bK],true⟩/\S.f 5= .int .i64 (i)/\S.f 6= .int .i64 (aw[i])/\S.f 21=aw/\S.f 22=((aw).length:Int)/\S.f 23=(i:Int)/\S.f 42= .sl false ((aw.take i).map (V.int .i64))/\S.f 43= .int .i64 (i)/\S.f 44=(j:Int)/\S.n=1100)/\(akb aw an i j=true)) (i) (by omega) ?_ ?_ ?_
  ·rintro j S ⟨mj,uD,jq⟩ ⟨lB,r9⟩;have tI:j<aw.length:=by omega
   have F2:j<an.length:=by omega
   have hej:=hS.elem j F2;have hbj:0<=aw[j]/\aw[j]<=512-an[j]:=by
    have h1:=List.all_eq_true.1 fg j (List.mem_range.2 (by omega));rw[sb,dE tI,dE F2,aaF,decide_eq_true_eq]at h1;exact h1.1
   have H8:IntKind.i64.wrap (aw[j]+an[j])=aw[j]+an[j]:=wrap_i64 (by omega);have Y7:vu aw an i j= !(decide (aw[j]<=aw[i]+an[i])&&decide (aw[i]<=aw[j]+an[j])):=by
    unfold vu;rw[dE bL,dE xY,dE tI,dE F2]
   simp[oY,lB,uD,jq,xY,F2,Ge,H8];have atf:aw[j]<=aw[i]+an[i]->aw[i]<=aw[j]+an[j]->iX aw an=false:=fun g1 g2=>ES bL (ac0 jq (by rw[Y7];simp[g1,g2]));rw[TH,r9,Y7];refine⟨fun g1=>⟨fun g2=>atf g1 g2,fun g2=> ?_⟩,fun g1=> ?_⟩
   ·have: ¬aw[i]<=aw[j]+an[j]:=by omega
    simp[this]
   ·have: ¬aw[j]<=aw[i]+an[i]:=by omega
    simp[this]
  ·rintro S ⟨lB,r9⟩;have ln:ub aw an i=true:=by
    rw[sb,dE bL,dE xY];have h3:(List.range i).all (vu aw an i)=true:=r9;rw[h3];simp[a1,a2]
   simp[bL,lB,gS];have lu:DL aw an (i+1)=true:=by rw[NI,fg,ln];rfl
   first|exact⟨bL,lu⟩|exact lu
  ·have lS:min i aw.length=i:=by omega
   simp[df];first|exact⟨by omega,rfl⟩|rfl
 ·rintro S ⟨df,fg⟩;simp[df]<;>(
   have h3:(List.range aw.length).all (ub aw an)=true:=fg;unfold iX;rw[hz,h3];simp[hl])
 ·simp<;>(
   simp[DL,hl])
@[simp]def ac1(aw:List Int)(bK:Int)(an:List Int)(hm:aw.length<=1000000000/\an.length<=1000000000):bU X 145 [KKc aw bK,.sl false (an.map (V.int .i64))]=some (.bool (iX aw an)):=by
 refine aaA ?_;have sV:=hm.1;have v8:=hm.2;by_cases hz:kJ an=true
 case neg=>
  have:iX aw an=false:=by unfold iX;simp[hz]
  simp[v8,hz,this]
 by_cases hl:aw.length=an.length
 case neg=>
  have h3:((aw.length:Int)=an.length)=False:=by simp;omega
  have:iX aw an=false:=by unfold iX;simp[hl]
  simp[v8,hz,h3,this]
 have hS:=nF.1 hz;have h4:=hS.le;simp[v8,hz,hl];refine cY (fun i S=>(S.f 1=an/\S.f 2= .ptr 2 0 0/\S.h 2=some ⟨2,[KKc aw bK],true⟩/\S.f 20=aw/\S.f 21=((aw).length:Int)/\S.f 22=(i:Int)/\S.n=1100)/\(DL aw an i=true)) (aw.length) (by omega) ?_ ?_ ?_
 ·rintro i S ⟨oY,gS,bL⟩ ⟨df,fg⟩;have xY:i<an.length:=by omega
  have he:=hS.elem i xY;have bad: ¬(0<=aw[i]/\aw[i]<=512-an[i])->iX aw an=false:=fun h=>by
   refine ES bL ?_;rw[sb,dE bL,dE xY,decide_eq_false h,acF]
  by_cases LY:0<=aw[i]/\aw[i]<512
  case neg=>
   have:iX aw an=false:=bad (by omega);by_cases PX:0<=aw[i]
   ·have Bn:(512<=aw[i])=True:=by simp;omega
    simp[df,bL,this,PX,Bn]
   ·have Bn:(0<=aw[i])=False:=by simp;omega
    simp[df,bL,xY,this,Bn]
  obtain⟨b1,b2⟩:=LY;have hb3:(512<=aw[i])=False:=by simp;omega
  have Ge:IntKind.i64.wrap (aw[i]+an[i])=aw[i]+an[i]:=wrap_i64 (by omega);simp[df,bL,xY,Ge,b1,hb3];by_cases b4:512<aw[i]+an[i]
  ·simp only[b4,bad (show¬_ by omega),true_implies,true_and];exact⟨fun h=>by omega,fun h=>by omega⟩
  have b5:aw[i]+an[i]<=512:=by omega
  simp only[b4,b5,false_implies,true_implies,true_and];refine⟨?_,fun h=>by omega⟩;refine cY (fun j S=>(S.f 1=an/\S.f 2= .ptr 2 0 0/\S.h 2=some ⟨2,[KKc aw bK],true⟩/\S.f 5= .int .i64 (i)/\S.f 6= .int .i64 (aw[i])/\S.f 20=aw/\S.f 21=((aw).length:Int)/\S.f 22=(i:Int)/\S.f 42= .int .i64 (i)/\S.f 43=(j:Int)/\S.n=1100)/\(akb aw an i j=true)) (i) (by omega) ?_ ?_ ?_
  ·rintro j S ⟨mj,uD,jq⟩ ⟨lB,r9⟩;have tI:j<aw.length:=by omega
   have F2:j<an.length:=by omega
   have hej:=hS.elem j F2;have hbj:0<=aw[j]/\aw[j]<=512-an[j]:=by
    have h1:=List.all_eq_true.1 fg j (List.mem_range.2 (by omega));rw[sb,dE tI,dE F2,aaF,decide_eq_true_eq]at h1;exact h1.1
   have H8:IntKind.i64.wrap (aw[j]+an[j])=aw[j]+an[j]:=wrap_i64 (by omega);have Y7:vu aw an i j= !(decide (aw[j]<=aw[i]+an[i])&&decide (aw[i]<=aw[j]+an[j])):=by
    unfold vu;rw[dE bL,dE xY,dE tI,dE F2]
   simp[lB,uD,jq,xY,F2,tI,Ge,H8];have atf:aw[j]<=aw[i]+an[i]->aw[i]<=aw[j]+an[j]->iX aw an=false:=fun g1 g2=>ES bL (ac0 jq (by rw[Y7];simp[g1,g2]));rw[TH,r9,Y7];refine⟨fun g1=>⟨fun g2=>atf g2 g1,fun g2=> ?_⟩,fun g1=> ?_⟩
   ·have: ¬aw[j]<=aw[i]+an[i]:=by omega
    simp[this]
   ·have: ¬aw[i]<=aw[j]+an[j]:=by omega
    simp[this]
  ·rintro S ⟨lB,r9⟩;have ln:ub aw an i=true:=by
    rw[sb,dE bL,dE xY];have h3:(List.range i).all (vu aw an i)=true:=r9;have h4:0<=aw[i]/\aw[i]<=512-an[i]:=by omega
    rw[h3];simp[h4]
   simp[bL,lB,gS];have lu:DL aw an (i+1)=true:=by rw[NI,fg,ln];rfl
   first|exact⟨bL,lu⟩|exact lu
  ·simp[df]<;>(
    rfl)
 ·rintro S ⟨df,fg⟩;simp[df]<;>(
   have h3:(List.range aw.length).all (ub aw an)=true:=fg;unfold iX;rw[hz,h3];simp[hl])
 ·simp<;>(
   simp[DL,hl])
@[simp]def Ya(aw:List Int)(bK:Int)(an:List Int)(fV iQ:Int)(hl:aw.length=an.length)(hb: ∀i (h:i<aw.length), -1000<=aw[i]/\aw[i]<=1000)(hz: ∀i (h:i<an.length),an[i]<=1000):bU X 107 [KKc aw bK,.sl false (an.map (V.int .i64)),KKC fV iQ]=some (.dP [.int .i64 (if inside an fV iQ=true then nth aw fV.toNat+iQ else 0),.int .i64 (if inside an fV iQ=true then 0 else 6)]):=by
 refine aaA ?_;by_cases h:inside an fV iQ=true
 ·obtain⟨k,hk,rfl,h1,h2⟩:=lj.1 h;have yc:k<aw.length:=by omega
  have g1:=hb k yc;have g2:=hz k hk;have hw:IntKind.i64.wrap (aw[k]+iQ)=aw[k]+iQ:=wrap_i64 (by omega);simp[h,yc,hw,dE yc]
 ·simp[h]
@[simp]def CP(aw:List Int)(bK:Int)(an:List Int)(fV iQ:Int)(hl:aw.length=an.length)(hb: ∀i (h:i<aw.length), -1000<=aw[i]/\aw[i]<=1000)(hz: ∀i (h:i<an.length),an[i]<=1000):bU X 102 [KKc aw bK,.sl false (an.map (V.int .i64)),KKC fV iQ]=some (.dP [.int .i64 (if inside an fV iQ=true then nth aw fV.toNat+iQ else 0),.int .i64 (if inside an fV iQ=true then 0 else 6)]):=by
 refine aaA ?_;by_cases h:inside an fV iQ=true
 ·obtain⟨k,hk,rfl,h1,h2⟩:=lj.1 h;have yc:k<aw.length:=by omega
  have g1:=hb k yc;have g2:=hz k hk;have hw:IntKind.i64.wrap (aw[k]+iQ)=aw[k]+iQ:=wrap_i64 (by omega);have hk3:((aw.length:Int)<=k)=False:=by simp;omega
  simp[h,yc,hw,dE yc,hk3]
 ·simp[h]
@[simp]def ahc(aw:List Int)(bK:Int)(an:List Int)(ey dp:Int)(hL:nW aw an)(hc:0<=dp/\dp<=65535):bU X 90 [KKc aw bK,.sl false (an.map (V.int .i64)),KKo ey dp]=some ((KKs (canon aw bK an (Cell.mk ey dp)):V)):=by
 refine aaA ?_;have hw:IntKind.i64.wrap dp=dp:=wrap_i64 (by omega);by_cases h0:ey=0
 ·simp[h0,canon]
 by_cases h2:ey=2
 ·simp[h2,canon]
 ·simp[h0,h2,hL,hc,hw,canon];cases hr:(resolve aw an dp).2<;>simp
@[simp]def ac2(aw:List Int)(bK:Int)(an:List Int)(ey dp:Int)(hL:nW aw an)(hc:0<=dp/\dp<=65535)(ht:ey=0\/ey=1\/ey=2):bU X 234 [KKc aw bK,.sl false (an.map (V.int .i64)),KKo ey dp]=some ((KKs (canon aw bK an (Cell.mk ey dp)):V)):=by
 refine aaA ?_;have hw:IntKind.i64.wrap dp=dp:=wrap_i64 (by omega);rcases ht with rfl|rfl|rfl
 ·simp[canon]
 ·simp[hL,hc,hw,canon];cases hr:(resolve aw an dp).2<;>simp
 ·simp[canon]
@[simp]def ac3(an:List Int)(lK uO jY lx:Int):bU X 175 [.sl false (an.map (V.int .i64)),KKy lK uO jY lx]=some (.bool (proper an (Canon.mk lK uO jY lx))):=by
 refine aaA ?_;by_cases h0:lK=0
 ·simp[h0,proper];by_cases h:jY=0<;>simp[h]
 by_cases h2:lK=2
 ·simp[h2,proper];by_cases h:jY=0<;>simp[h]
 by_cases h1:lK=1
 ·simp[h1,proper];by_cases h:uO=0<;>simp[h]
 ·simp[h0,h1,h2,proper]
@[simp]def apt(aw:List Int)(bK:Int)(an:List Int)(lK uO jY lx:Int)(hL:nW aw an):bU X 176 [KKc aw bK,.sl false (an.map (V.int .i64)),KKy lK uO jY lx]=some (.dP [KKf ((raw aw bK an (Canon.mk lK uO jY lx)).1),.int .i64 ((raw aw bK an (Canon.mk lK uO jY lx)).2)]):=by
 refine aaA ?_;cases hp:proper an (Canon.mk lK uO jY lx) with
 |false=>simp[hp,raw]
 |true=>
  by_cases h0:lK=0
  ·subst h0;simp[hp,raw]
  by_cases h2:lK=2
  ·subst h2;simp[hp,raw]
  have h1:lK=1:=by
   unfold proper at hp;by_cases h1:lK=1
   ·exact h1
   ·simp[h0,h2,h1]at hp
  have wL:inside an jY lx=true:=by
   unfold proper at hp;simp[h1]at hp;exact hp.2
  obtain⟨k,hk,rfl,a1,a2⟩:=lj.1 wL;have yc:k<aw.length:=by have:=hL.len;omega
  have e1:=hL.base k yc hk;have hw:IntKind.i64.wrap (aw[k]+lx)=aw[k]+lx:=wrap_i64 (by omega);subst h1;simp[hp,yc,hw,raw,dE yc]
@[simp]def akc(an:List Int)(cQ:Int)(hz:oI an)(hs:0<=cQ/\cQ<=1048575):bU X 29 [an,cQ]=some (.dP [KKB ((⟨fG an cQ,IntKind.u16.wrap (40503*cQ)⟩:Layout)),.int .i64 0]):=by
 refine aaA ?_;have hz1:=hz.pos;have hz4:=hz.le;have hmz:an.length<=1000000000:=by omega
 have ln:=nF.2 hz;have hn0:((an.length:Int)=0)=False:=eq_false (by omega);have a96:((50*(an.length:Int))=0)=False:=eq_false (by omega);have a97:IntKind.i64.wrap (50*(an.length:Int))=50*an.length:=wrap_i64 (by omega);have hwm:IntKind.i64.wrap (40503*cQ)=40503*cQ:=wrap_i64 (by omega);have h1:(cQ<0)=False:=eq_false (by omega);have h2:(1073741824<cQ)=False:=eq_false (by omega);have Mq:(an=[])=False:=eq_false (by rintro rfl;simp at hz1);have hL:0<(an.length:Int):=by omega
 have hd1:cQ.tdiv an.length=cQ/an.length:=abD (by omega);have q1:0<=cQ/ (an.length:Int):=aeX (by omega) (by omega);have q2:cQ/ (an.length:Int)<=cQ:=aeP _ (by omega);have sU:IntKind.i64.wrap (cQ/an.length)=cQ/an.length:=wrap_i64 (by omega);have sV:(cQ/an.length).tmod 50=cQ/an.length % 50:=aaK q1;have H8:IntKind.i64.wrap (1+cQ/an.length % 50)=1+cQ/an.length % 50:=wrap_i64 (by omega);simp[hmz,ln,Mq,hwm,h1,h2,hd1,sU,sV,H8];refine⟨by omega,?_⟩;intro _ _;have Yb:cQ.tdiv (50*an.length)=cQ/ (50*an.length):=abD (by omega);have q3:0<=cQ/ (50*(an.length:Int)):=aeX (by omega) (by omega);have q4:cQ/ (50*(an.length:Int))<=cQ:=aeP _ (by omega);have hw3:IntKind.i64.wrap (cQ/ (50*an.length))=cQ/ (50*an.length):=wrap_i64 (by omega);have TK:(cQ/ (50*an.length)).tmod 40=cQ/ (50*an.length) % 40:=aaK q3;refine cY (fun k S=>(S.f 0=an/\S.f 1= .int .i64 cQ/\S.f 4= .ptr 4 0 0/\S.h 4=some ⟨2,[KKc ([]:List Int) 0],true⟩/\S.f 6= .int .i64 (an.length)/\S.f 7= .ptr 7 0 0/\S.h 1000=some ⟨1,(⟨(nv an cQ k).1,IntKind.u16.wrap (40503*cQ)⟩:Layout).aD.map (V.int .i64),false⟩/\S.h 7=some ⟨2,[.agg [.cx 1000 0 ((⟨(nv an cQ k).1,IntKind.u16.wrap (40503*cQ)⟩:Layout).aD.map (V.int .i64)).length,.int .u16 (⟨(nv an cQ k).1,IntKind.u16.wrap (40503*cQ)⟩:Layout).key]],true⟩/\S.f 8= .int .i64 ((nv an cQ k).2)/\S.f 36=((an).length:Int)/\S.f 37=(k:Int)/\S.n=1101)/\(0<=(nv an cQ k).2/\(nv an cQ k).2<=51+72*k/\(nv an cQ k).1.length=an.length)) (an.length) (by omega) ?_ ?_ ?_
 ·rintro k S ⟨Jc,ER,kK⟩ ⟨df,fg⟩;obtain⟨b1,b2,b3⟩:=fg;obtain⟨r,hr⟩: ∃r:Nat,((k:Int)+cQ) % an.length=r:=⟨(((k:Int)+cQ) % an.length).toNat,by
   have:=acD ((k:Int)+cQ) (show(an.length:Int)≠0 by omega);omega⟩
  have qH:r<an.length:=by
   have:=abW ((k:Int)+cQ) hL;omega
  have bps:r<(nv an cQ k).1.length:=by omega
  have e:=hz.elem r qH;have a98:IntKind.i64.wrap ((k:Int)+cQ)=k+cQ:=wrap_i64 (by omega);have HX:((k:Int)+cQ).tmod an.length=r:=by rw[aaK (by omega),hr]
  have DM:IntKind.i64.wrap (an[r]+1)=an[r]+1:=wrap_i64 (by omega);have ati:IntKind.i64.wrap (an[r]+1+cQ/ (50*an.length) % 40)=an[r]+1+cQ/ (50*an.length) % 40:=wrap_i64 (by omega);have a99:IntKind.i64.wrap ((nv an cQ k).2+(an[r]+1+cQ/ (50*an.length) % 40))=(nv an cQ k).2+(an[r]+1+cQ/ (50*an.length) % 40):=wrap_i64 (by omega);have lu:nv an cQ (k+1)=((nv an cQ k).1.set r (nv an cQ k).2,(nv an cQ k).2+an[r]+1+cQ/ (50*an.length) % 40):=by
   rw[iH];unfold Gc;rw[hr,aaH,dE qH]
  simp[df,ER,kK,lu,Mq,a96,a97,Yb,hw3,TK,a98,HX,qH,DM,ati,a99,b3];omega
 ·rintro S ⟨df,fg⟩;obtain⟨_,_,b3⟩:=fg;have e3:fG an cQ=(nv an cQ an.length).1:=rfl;simp[df,e3]
 ·have h0:nv an cQ 0=(List.replicate an.length 0,1+cQ/an.length % 50):=rfl;simp[h0];omega
@[simp]def ahd(aw:List Int)(bK:Int)(hm:aw.length<=1000000000):bU X 150 [KKc aw bK]=some ((KKB ((Layout.mk aw bK)):V)):=by
 refine aaA ?_;simp;omega
def iN(op:Int)(k:Nat):Bool:=
 if op=1\/op=15\/op=19\/op=20\/op=21 then(k==0)||(k==3)
 else if op=2 then(k==0)||(k==1)
 else if op=16\/op=17 then(k==0)||(k==1)||(k==3)
 else if op=18\/op=23 then k==3
 else if op=22 then k==0
 else if op=0\/op=24 then false
 else(k==0)||(k==1)||(k==2)
def jumps(op:Int):Bool:=decide (op=18)||decide (op=19)||decide (op=20)||decide (op=21)
def fU(op:Int):Bool:=jumps op||decide (op=22)||decide (op=24)
def oA(c:Cell):Bool:=decide (c.tag<=2)
def gm(l:List Cell):Bool:=l.all oA
def zJ(h:i<l.length):gm (l.take (i+1))=(gm (l.take i)&&oA l[i]):=vt h
def JF(h:i<l.length)(hp: ¬l[i].tag<=2):gm l=false:=vr h (by simpa[oA] using hp)
def Gg:gm (l.take l.length)=gm l:=by rw[abC]
def nX(t:Thread):Bool:=gm t.bp&& (decide (0<=t.state)&& (decide (t.state<=4)&& (decide (t.bp.length=8)&& (decide (0<=t.pc)&& (decide (t.pc<=255)&& (decide (0<=t.count)&& (decide (t.count<=1099511627776)&& (decide (-1<=t.cp)&& (decide (t.cp<=255)&& (decide (-1<=t.saved)&& (decide (t.saved<=255)&& (decide (0<=t.dr)&& (decide (t.dr<=6))))))))))))))
def NJ{op:Int}(h:0<=op/\op<=24):op=0\/op=1\/op=2\/op=3\/op=4\/op=5\/op=6\/op=7\/op=8\/op=9\/op=10\/op=11\/op=12\/op=13\/op=14\/op=15\/op=16\/op=17\/op=18\/op=19\/op=20\/op=21\/op=22\/op=23\/op=24:=by omega
@[simp]def akd(op:Int)(ho:0<=op/\op<=24):bU X 199 [op]=some (.agg [.bool ((iN op) 0),.bool ((iN op) 1),.bool ((iN op) 2),.bool ((iN op) 3)]):=by
 refine aaA ?_;rcases NJ ho with rfl|rfl|rfl|rfl|rfl|rfl|rfl|rfl|rfl|rfl|rfl|rfl|rfl|rfl|rfl|rfl|rfl|rfl|rfl|rfl|rfl|rfl|rfl|rfl|rfl;all_goals simp[iN]
@[simp]def ac4(op:Int)(ho:0<=op/\op<=24):bU X 288 [op]=some (.agg [.bool (iN op 0),.bool (iN op 1),.bool (iN op 2),.bool (iN op 3)]):=by
 refine aaA ?_;rcases NJ ho with rfl|rfl|rfl|rfl|rfl|rfl|rfl|rfl|rfl|rfl|rfl|rfl|rfl|rfl|rfl|rfl|rfl|rfl|rfl|rfl|rfl|rfl|rfl|rfl|rfl;all_goals simp[iN]
@[simp]def ake(op:Int):bU X 123 [op]=some (.bool (jumps op)):=by
 refine aaA ?_;simp[jumps];omega
@[simp]def ahe(op:Int):bU X 260 [op]=some (.bool (jumps op)):=by
 refine aaA ?_;simp[jumps];omega
@[simp]def ac5(op:Int):bU X 275 [op]=some (.bool (fU op)):=by
 refine aaA ?_;simp[fU];cases jumps op<;>simp<;>omega
@[simp]def ac6(op:Int):bU X 263 [op]=some (.bool (fU op)):=by
 refine aaA ?_;simp[fU];cases jumps op<;>simp<;>omega
@[simp]def apu(l:List Cell)(hm:l.length<=1000000000):bU X 164 [l]=some (.bool (gm l)):=by
 refine aaA ?_;simp;refine cY (fun i S=>(S.f 5=l/\S.f 6=((l).length:Int)/\S.f 7=(i:Int)/\S.n=1100)/\(gm (l.take i)=true)) (l.length) (by omega) ?_ ?_ ?_
 ·rintro i S ⟨oY,gS,bL⟩ ⟨df,fg⟩;simp[df,gS,bL]<;>(
   rw[zJ bL,fg];exact⟨fun h=>JF bL (by omega),fun h=>by simpa[oA] using h⟩)
 ·rintro S ⟨df,fg⟩;simp[df]<;>(
   rw[<-fg,abC])
 ·simp<;>(
   rfl)
@[simp]def ahf(iu:Int)(cN:List Cell)(jQ dS da dT jx jy:Int)(hm:cN.length<=1000000000):bU X 80 [KKg iu cN jQ dS da dT jx jy]=some (.bool (nX (Thread.mk iu cN jQ dS da dT jx jy))):=by
 refine aaA ?_;simp;refine cY (fun i S=>(S.f 1= .ptr 1 0 0/\S.h 1=some ⟨8,[KKg iu cN jQ dS da dT jx jy],true⟩/\S.f 6=cN/\S.f 7=((cN).length:Int)/\S.f 8=(i:Int)/\S.n=1100)/\(gm (cN.take i)=true)) (cN.length) (by omega) ?_ ?_ ?_
 ·rintro i S ⟨oY,gS,bL⟩ ⟨df,fg⟩;simp[df,gS,bL]<;>(
   rw[zJ bL,fg];refine⟨fun h=> ?_,fun h=>by simpa[oA] using h⟩;unfold nX;rw[JF bL (by omega)];rfl)
 ·rintro S ⟨df,fg⟩;simp[df]<;>(
   have hc:gm cN=true:=by rw[<-fg,abC]
   unfold nX;rw[hc];simp only[aer];clear df fg hc
   ((repeat' (first|apply And.intro|intro hh));all_goals first|(simp only[acY,decide_eq_false_iff_not];omega)|(simp[*];done)|(simp[*]<;>(intros;omega))))
 ·simp<;>(
   rfl)
@[simp]def NK(iu:Int)(cN:List Cell)(jQ dS da dT jx jy:Int)(k:Nat)(hm:cN.length<=1000000000): ∃h',cL X 250 [KKg iu cN jQ dS da dT jx jy] pK k=some ((KKd iu (.cx (k+4) 0 cN.length) jQ dS da dT jx jy:V),h',k+9)/\h' (k+4)=some ⟨2,cN.map Cell.e,false⟩:=by
 refine F7 Tryz.func250 rfl rfl ?_;simp[aaE];all_goals ((repeat' (first|apply And.intro|intro _))<;>first|omega|rfl)
@[simp]def apv(iu:Int)(cN:List Cell)(jQ dS da dT jx jy dr code:Int)(hm:cN.length<=1000000000):bU X 195 [KKg iu cN jQ dS da dT jx jy,.int .i64 dr,.int .u16 code]=some ((KKe ((⟨4,cN,jQ,dS,da,dT,dr,code⟩:Thread)):V)):=by
 refine aaA ?_;obtain⟨h1,e1,e2⟩:=NK iu cN jQ dS da dT jx jy 6 hm;simp only[Nat.reduceAdd]at e1 e2;simp[e1,e2]
@[simp]def akf(iu:Int)(cN:List Cell)(jQ dS da dT jx jy:Int)(k:Nat)(hm:cN.length<=1000000000): ∃h',cL X 233 [KKg iu cN jQ dS da dT jx jy] pK k=some ((KKd iu (.cx (k+7) 0 cN.length) jQ dS da dT jx jy:V),h',k+10)/\h' (k+7)=some ⟨2,cN.map Cell.e,false⟩:=by
 refine F7 Tryz.func233 rfl rfl ?_;simp[aaE];all_goals ((repeat' (first|apply And.intro|intro _))<;>first|omega|rfl)
@[simp]def akg(iu:Int)(cN:List Cell)(jQ dS da dT jx jy dr code:Int)(hm:cN.length<=1000000000):bU X 155 [KKg iu cN jQ dS da dT jx jy,.int .i64 dr,.int .u16 code]=some ((KKe ((⟨4,cN,jQ,dS,da,dT,dr,code⟩:Thread)):V)):=by
 refine aaA ?_;obtain⟨h1,e1,e2⟩:=akf iu cN jQ dS da dT jx jy 6 hm;simp only[Nat.reduceAdd]at e1 e2;simp[e1,e2]
@[simp]def akh(TL:Int)(RN:List Cell)(NL uP JG TM yF ac7 TN:Int)(ac8:List Cell)(NM uQ JH TO yG ac9:Int)(hm:RN.length<=1000000000):bU X 83 [KKg TL RN NL uP JG TM yF ac7,KKg TN ac8 NM uQ JH TO yG ac9]=some (.bool (decide ((Thread.mk TL RN NL uP JG TM yF ac7)=(Thread.mk TN ac8 NM uQ JH TO yG ac9)))):=by
 refine aaA ?_;simp[hm,Thread.eq_iff]
 grind
def yH{α:Type}(p:α->Bool)(l:List α):Int:=if l.all p=true then-1 else(l.findIdx fun x=> !p x:Nat)
def wm{p:α->Bool}{l:List α}:decide (0<=yH p l)= !(l.all p):=by
 unfold yH;cases h:l.all p<;>simp<;>omega
def wo{p:α->Bool}{l:List α}(h:l.all p=true):yH p l= -1:=by simp only[yH,h,if_true]
def yI{p:α->Bool}{l:List α}(h:i<l.length)(h1:(l.take i).all p=true)(h2:p l[i]=false):yH p l=i:=by
 have h3:(l.findIdx fun x=> !p x)=i:=by
  rw[List.findIdx_eq h];refine⟨by simp[h2],fun j hj=> ?_⟩;have:=List.all_eq_true.1 h1 l[j] (by
   rw[List.mem_take_iff_getElem];exact⟨j,by omega,rfl⟩)
  simp[this]
 unfold yH;rw[vr h h2,h3];simp
def eh:cw:=⟨-1,false,[]⟩
def cm:List cw:=List.replicate 4 eh
def zK(i:Nat):List V:=List.replicate i ((KKt (-1) false (.sl true []):V))++List.replicate (4-i) ((KKt 0 false (.sl true []):V))
def o8(i:Nat)(x:cw):Bool:=
 if x.tag= -1 then !x.iW&&decide (x.cells.length=0) else decide (0<=x.tag)&& (decide (x.tag<128)&& (decide (x.tag % 4=i)&& (decide (x.cells.length=4)&&gm x.cells)))
def rk(l:List cw)(n:Nat):Bool:=(List.range n).all fun i=>o8 i (l.getD i eh)
def JI{l:List cw}(h:i<l.length):rk l (i+1)=(rk l i&&o8 i l[i]):=by
 unfold rk;rw[acK,aeW];simp[List.getD,h]
def JJ{l:List cw}(h:i<l.length)(hn:i<n)(hp:o8 i l[i]=false):rk l n=false:=by
 unfold rk;rw[<-Bool.not_eq_true,aaP];intro jV;have:=jV i (by simpa using hn);simp[List.getD,h]at this;rw[hp]at this;cases this
def xg(m:aF):Bool:=decide (m.cells.length=512)&& (decide (m.lines.length=4)&& (gm m.cells&&rk m.lines 4))
structure ada (i:Nat) (x:cw):Prop where
 none:x.tag= -1->x.iW=false/\x.cells=[]
 some:x.tag≠ -1->0<=x.tag/\x.tag<128/\x.tag % 4=i/\x.cells.length=4
 cells:gm x.cells=true
structure ud (m:aF):Prop where
 len:m.cells.length=512
 lines:m.lines.length=4
 cells:gm m.cells=true
 line: ∀i (h:i<m.lines.length),ada i m.lines[i]
def zL:o8 i x=true↔ada i x:=by
 unfold o8;constructor
 ·intro h;split at h
  ·rename_i hc;simp at h;exact⟨fun _=>⟨h.1,h.2⟩,fun g=>absurd hc g,by rw[h.2];rfl⟩
  ·rename_i hc;simp at h;exact⟨fun g=>absurd g hc,fun _=>⟨h.1,h.2.1,h.2.2.1,h.2.2.2.1⟩,h.2.2.2.2⟩
 ·rintro⟨h1,h2,h3⟩;split
  ·rename_i hc;simp[h1 hc]
  ·rename_i hc;simp[h2 hc,h3]
def NN:xg m=true↔ud m:=by
 unfold xg rk;simp only[aaF,decide_eq_true_eq,aaP,afi];constructor
 ·rintro⟨h1,h2,h3,h4⟩;exact⟨h1,h2,h3,fun i h=>zL.1 (by simpa[List.getD,h] using h4 i (by omega))⟩
 ·rintro⟨h1,h2,h3,h4⟩;exact⟨h1,h2,h3,fun i h=>by
   have h':i<m.lines.length:=by omega
   simpa[List.getD,h'] using zL.2 (h4 i h')⟩
def look(m:aF)(a:Nat):Cell:=
 if(m.lines.getD (a/4 % 4) eh).tag=((a/4:Nat):Int) then(m.lines.getD (a/4 % 4) eh).cells.getD (a % 4) ⟨0,0⟩ else m.cells.getD a ⟨0,0⟩
def nh(i:Instr):Bool:=
 if i.op<0\/24<i.op then false
 else if i.a<0\/8<=i.a\/(iN i.op 0=false/\i.a≠0) then false
 else if i.b<0\/8<=i.b\/(iN i.op 1=false/\i.b≠0) then false
 else if i.c<0\/8<=i.c\/(iN i.op 2=false/\i.c≠0) then false
 else if i.eu<0\/65535<i.eu\/(iN i.op 3=false/\i.eu≠0) then false
 else if jumps i.op=true then decide (i.eu<64)
 else if i.op=15 then decide (i.eu<4)
 else if i.op=23 then decide (i.eu<=15)
 else true
def mw(used:Bool)(v:Int):Bool:=decide (0<=v)&& (decide (v<8)&& (used||decide (v=0)))
def lX(i:Instr)(k:Nat):Bool:=
 match k with
 |0=>true
 |1=>mw (iN i.op 0) i.a
 |2=>mw (iN i.op 0) i.a&&mw (iN i.op 1) i.b
 |_=>mw (iN i.op 0) i.a&& (mw (iN i.op 1) i.b&&mw (iN i.op 2) i.c)
def atl(i:Instr):Bool:=decide (0<=i.eu)&& (decide (i.eu<=65535)&& ((iN i.op 3||decide (i.eu=0))&& (if jumps i.op=true then decide (i.eu<64) else if i.op=15 then decide (i.eu<4) else if i.op=23 then decide (i.eu<=15) else true)))
def vx(used:Bool)(v jf:Int):Bool:=decide (v=0)||(used&& (decide (0<v)&&decide (v<=jf)))
def K9(op:Int):Int:=if jumps op=true then 63 else if op=15 then 3 else if op=23 then 15 else 65535
@[simp]def ahg:bU X 140 []=some (.sl false (cm.map cw.e)):=by
 refine aaA ?_;simp;refine cY (fun i S=>(S.f 1= .cx 1 0 ((zK i)).length/\S.h 1=some ⟨3,(zK i),false⟩/\S.f 5= .int .i64 (4)/\S.f 6=(i:Int)/\S.n=1100)/\True) (4) (by omega) ?_ ?_ ?_
 ·rintro i S ⟨oY,gS,bL⟩ ⟨df,fg⟩;have:i=0\/i=1\/i=2\/i=3:=by omega
  rcases this with rfl|rfl|rfl|rfl<;>simp[df,bL,zK]<;>decide
 ·rintro S ⟨df,fg⟩;simp[df]<;>(
   rfl)
 ·simp<;>(
   exact⟨rfl,rfl⟩)
@[simp]def aki(v:Int):bU X 302 [.int .u16 v]=some ((KKf ((⟨0,v⟩:Cell)):V)):=by
 refine aaA ?_;simp
@[simp]def apw(b:Bool):bU X 299 [b]=some ((KKf ((if b=true then⟨0,1⟩ else⟨0,0⟩:Cell)):V)):=by
 refine aaA ?_;cases b<;>simp
@[simp]def akj(b:Bool):bU X 295 [b]=some ((KKf ((if b=true then⟨0,1⟩ else⟨0,0⟩:Cell)):V)):=by
 refine aaA ?_;cases b<;>simp
@[simp]def akk(iu:Int)(cN:List Cell)(jQ dS da dT jx jy r:Int)(hr:0<=r/\r<8)(ht:cN.length=8):bU X 229 [KKg iu cN jQ dS da dT jx jy,.int .i64 r]=some ((KKf ((cN.getD r.toNat ⟨0,0⟩:Cell)):V)):=by
 refine aaA ?_;obtain⟨k,rfl⟩:=aaG hr.1;have hk:k<cN.length:=by omega
 have hk8:(k:Int) % 8=k:=by omega
 simp[hk,hk8]
@[simp]def Wl(v from_ to:Int):bU X 220 [v,from_,to]=some (.bool (decide (from_<=v)&&decide (v<=to))):=by
 refine aaA ?_;simp;by_cases h:from_<=v<;>simp[h];omega
@[simp]def Wm(ey dp:Int):bU X 222 [KKo ey dp]=some (.bool (!decide (ey<=2))):=by
 refine aaA ?_;simp
@[simp]def Wn(ey dp:Int):bU X 261 [KKo ey dp]=some (.bool (!decide (ey<=2))):=by
 refine aaA ?_;simp
@[simp]def BL(dB:List Cell)(bW:List cw)(addr:Int)(hM:ud (aF.mk dB bW))(ha:0<=addr/\addr<512):bU X 170 [KKp dB bW,.int .i64 addr]=some ((KKf (look (aF.mk dB bW) addr.toNat):V)):=by
 refine aaA ?_;obtain⟨a,rfl⟩:=aaG ha.1;obtain⟨n,hn⟩: ∃n:Nat,a/4=n:=⟨_,rfl⟩;obtain⟨r,hr⟩: ∃r:Nat,n % 4=r:=⟨_,rfl⟩;obtain⟨o,ho⟩: ∃o:Nat,a % 4=o:=⟨_,rfl⟩;have hd:(a:Int).tdiv 4=n:=by rw[abD (by omega)];omega
 have EM:(a:Int)/4=n:=by omega
 have hw:IntKind.i64.wrap (n:Int)=n:=wrap_i64 (by omega);have sV:(n:Int).tmod 4=r:=by rw[aaK (by omega)];omega
 have v8:(a:Int).tmod 4=o:=by rw[aaK (by omega)];omega
 have jX:=hM.lines;have UX:=hM.len;simp only at jX UX;have h1:r<bW.length:=by omega
 have uF:r<4:=by omega
 have h2:a<dB.length:=by omega
 have Pp:a<512:=by omega
 have CQ:(r:Int)<4:=by omega
 have La:(a:Int)<512:=by omega
 have h5:((a:Int)<0)=False:=eq_false (by omega);have h6:((512:Int)<=a)=False:=eq_false (by omega);by_cases ht:(bW[r]).tag=(n:Int)
 ·have h3:=((hM.line r h1).some (by simp only;omega)).2.2.2;simp only at h3;have h4:o<(bW[r]).cells.length:=by omega
  have h4':o<4:=by omega
  have h4i:(o:Int)<4:=by omega
  simp[look,hn,hr,ho,hd,hw,sV,v8,uF,CQ,ht,h3,h4',h4i,jX,List.getD]
 ·simp[look,hn,hr,hd,hw,sV,uF,CQ,La,Pp,ht,UX,jX,List.getD]
@[simp]def NO(dB:List Cell)(bW:List cw)(addr:Int)(hM:ud (aF.mk dB bW))(ha:0<=addr/\addr<512):bU X 235 [KKp dB bW,.int .i64 addr]=some (.dP [KKf (look (aF.mk dB bW) addr.toNat),.bool true]):=by
 refine aaA ?_;obtain⟨a,rfl⟩:=aaG ha.1;obtain⟨n,hn⟩: ∃n:Nat,a/4=n:=⟨_,rfl⟩;obtain⟨r,hr⟩: ∃r:Nat,n % 4=r:=⟨_,rfl⟩;obtain⟨o,ho⟩: ∃o:Nat,a % 4=o:=⟨_,rfl⟩;have hd:(a:Int).tdiv 4=n:=by rw[abD (by omega)];omega
 have EM:(a:Int)/4=n:=by omega
 have hw:IntKind.i64.wrap (n:Int)=n:=wrap_i64 (by omega);have sV:(n:Int).tmod 4=r:=by rw[aaK (by omega)];omega
 have v8:(a:Int).tmod 4=o:=by rw[aaK (by omega)];omega
 have jX:=hM.lines;have UX:=hM.len;simp only at jX UX;have h1:r<bW.length:=by omega
 have uF:r<4:=by omega
 have h2:a<dB.length:=by omega
 have Pp:a<512:=by omega
 have CQ:(r:Int)<4:=by omega
 have La:(a:Int)<512:=by omega
 have h5:((a:Int)<0)=False:=eq_false (by omega);have h6:((512:Int)<=a)=False:=eq_false (by omega);by_cases ht:(bW[r]).tag=(n:Int)
 ·have h3:=((hM.line r h1).some (by simp only;omega)).2.2.2;simp only at h3;have h4:o<(bW[r]).cells.length:=by omega
  have h4':o<4:=by omega
  have h4i:(o:Int)<4:=by omega
  simp[look,hn,hr,ho,hd,hw,sV,v8,uF,CQ,ht,h3,h4',h4i,h5,h6,UX,jX,List.getD]
 ·simp[look,hn,hr,hd,hw,sV,uF,CQ,La,Pp,ht,h5,h6,UX,jX,List.getD]
@[simp]def Yc(used:Bool)(v jf:Int):bU X 289 [used,v,jf]=some (.bool (vx used v jf)):=by
 refine aaA ?_;cases used<;>simp[vx];by_cases h:v=0<;>simp[h]<;>by_cases h:0<v<;>simp[h];all_goals omega
@[simp]def akl(op:Int):bU X 290 [op]=some (.int .i64 (K9 op)):=by
 refine aaA ?_;by_cases h:jumps op=true<;>by_cases h1:op=15<;>by_cases h2:op=23<;>simp[h,h1,h2,K9]
@[simp]def ahi(jo Es Et Eu qJ:Int):bU X 259 [KKU jo Es Et Eu qJ]=some (.bool (nh (Instr.mk jo Es Et Eu qJ))):=by
 refine aaA ?_;by_cases h1:jo<0
 ·simp[h1,nh]
 by_cases h2:24<jo
 ·simp[h1,h2,nh]
 have ho:0<=jo/\jo<=24:=by omega
 have key:nh (Instr.mk jo Es Et Eu qJ)=(vx (iN jo 0) Es 7&& (vx (iN jo 1) Et 7&& (vx (iN jo 2) Eu 7&&vx (iN jo 3) qJ (K9 jo)))):=by
  unfold nh K9 vx;simp only[h1,h2];cases iN jo 0<;>cases iN jo 1<;>cases iN jo 2<;>cases iN jo 3<;>cases jumps jo<;>grind
 rw[key];clear key;cases g0:vx (iN jo 0) Es 7
 ·simp[ho,h1,h2,g0]
 cases g1:vx (iN jo 1) Et 7
 ·simp[ho,h1,h2,g0,g1]
 cases g2:vx (iN jo 2) Eu 7
 ·simp[ho,h1,h2,g0,g1,g2]
 ·simp[ho,h1,h2,g0,g1,g2]
@[simp]def ahj(jo Es Et Eu qJ:Int):bU X 122 [KKU jo Es Et Eu qJ]=some (.bool (nh (Instr.mk jo Es Et Eu qJ))):=by
 refine aaA ?_;by_cases h1:jo<0
 ·simp[h1,nh]
 by_cases h2:24<jo
 ·simp[h1,h2,nh]
 have ho:0<=jo/\jo<=24:=by omega
 have key:nh (Instr.mk jo Es Et Eu qJ)=(lX (Instr.mk jo Es Et Eu qJ) 3&&atl (Instr.mk jo Es Et Eu qJ)):=by
  unfold nh lX mw atl;simp only[h1,h2];cases iN jo 0<;>cases iN jo 1<;>cases iN jo 2<;>cases iN jo 3<;>cases jumps jo<;>grind
 rw[key];clear key;simp[ho,h1,h2];refine cY (fun k S=>(S.f 1= .ptr 1 0 0/\S.h 1=some ⟨5,[KKU jo Es Et Eu qJ],true⟩/\S.f 3= .ptr 3 0 0/\S.h 3=some ⟨4,[.agg [.bool ((iN jo) 0),.bool ((iN jo) 1),.bool ((iN jo) 2),.bool ((iN jo) 3)]],true⟩/\S.f 23= .sl false (([Es,Et,Eu]).map (V.int .i64))/\S.f 24= .int .i64 (3)/\S.f 25=(k:Int)/\S.n=1100)/\(lX (Instr.mk jo Es Et Eu qJ) k=true)) (3) (by omega) ?_ ?_ ?_
 ·rintro k S ⟨Jc,ER,kK⟩ ⟨df,fg⟩;have:k=0\/k=1\/k=2:=by omega
  rcases this with rfl|rfl|rfl
  ·have e0:IntKind.i64.wrap 1=1:=by decide
   have hf:mw (iN jo 0) Es=false->lX (Instr.mk jo Es Et Eu qJ) 3=false:=by intro h;simp[lX,h]
   have ht:mw (iN jo 0) Es=true->lX (Instr.mk jo Es Et Eu qJ) 1=true:=by intro h;simp[lX]at fg⊢;simp[h]
   clear fg;simp[df,kK,e0];cases hu:mw (iN jo 0) Es
   ·simp only[hf hu];clear df hf ht;unfold mw at hu;cases hv:iN jo 0<;>simp[hv]at hu⊢ <;>omega
   ·simp only[ht hu];clear df hf ht;unfold mw at hu;cases hv:iN jo 0<;>simp[hv]at hu⊢ <;>omega
  ·have e0:IntKind.i64.wrap 2=2:=by decide
   have hf:mw (iN jo 1) Et=false->lX (Instr.mk jo Es Et Eu qJ) 3=false:=by intro h;simp[lX,h]
   have ht:mw (iN jo 1) Et=true->lX (Instr.mk jo Es Et Eu qJ) 2=true:=by intro h;simp[lX]at fg⊢;simp[fg,h]
   clear fg;simp[df,kK,e0];cases hu:mw (iN jo 1) Et
   ·simp only[hf hu];clear df hf ht;unfold mw at hu;cases hv:iN jo 1<;>simp[hv]at hu⊢ <;>omega
   ·simp only[ht hu];clear df hf ht;unfold mw at hu;cases hv:iN jo 1<;>simp[hv]at hu⊢ <;>omega
  ·have e0:IntKind.i64.wrap 3=3:=by decide
   have hf:mw (iN jo 2) Eu=false->lX (Instr.mk jo Es Et Eu qJ) 3=false:=by intro h;simp[lX,h]
   have ht:mw (iN jo 2) Eu=true->lX (Instr.mk jo Es Et Eu qJ) 3=true:=by intro h;simp[lX]at fg⊢;simp[fg,h]
   clear fg;simp[df,kK,e0];cases hu:mw (iN jo 2) Eu
   ·simp only[hf hu];clear df hf ht;unfold mw at hu;cases hv:iN jo 2<;>simp[hv]at hu⊢ <;>omega
   ·simp only[ht hu];clear df hf ht;unfold mw at hu;cases hv:iN jo 2<;>simp[hv]at hu⊢ <;>omega
 ·rintro S ⟨df,fg⟩;simp[df]<;>(
   rw[fg];unfold atl;cases iN jo 3<;>cases jumps jo<;>simp<;>grind)
 ·simp<;>(
   rfl)
@[simp]def akm(s:List Cell)(hm:s.length<=1000000000):bU X 262 [s,.fn 261 [] []]=some (.int .i64 (yH oA s)):=by
 refine aaA ?_;simp;refine cY (fun i S=>(S.f 0=s/\S.f 1= .fn 261 [] []/\S.f 7=((s).length:Int)/\S.f 8=(i:Int)/\S.n=1100)/\(gm (s.take i)=true)) (s.length) (by omega) ?_ ?_ ?_
 ·rintro i S ⟨oY,gS,bL⟩ ⟨df,fg⟩;simp[df,gS,bL]<;>(
   rw[zJ bL,fg];refine⟨fun h=> ?_,fun h=>by simpa[oA] using h⟩;rw[yI bL fg (by simpa[oA] using h)])
 ·rintro S ⟨df,fg⟩;simp[df]<;>(
   rw[Gg]at fg;exact(wo fg).symm)
 ·simp<;>(
   rfl)
@[simp]def akn(s:List Cell)(hm:s.length<=1000000000):bU X 262 [s,.fn 222 [] []]=some (.int .i64 (yH oA s)):=by
 refine aaA ?_;simp;refine cY (fun i S=>(S.f 0=s/\S.f 1= .fn 222 [] []/\S.f 7=((s).length:Int)/\S.f 8=(i:Int)/\S.n=1100)/\(gm (s.take i)=true)) (s.length) (by omega) ?_ ?_ ?_
 ·rintro i S ⟨oY,gS,bL⟩ ⟨df,fg⟩;simp[df,gS,bL]<;>(
   rw[zJ bL,fg];refine⟨fun h=> ?_,fun h=>by simpa[oA] using h⟩;rw[yI bL fg (by simpa[oA] using h)])
 ·rintro S ⟨df,fg⟩;simp[df]<;>(
   rw[Gg]at fg;exact(wo fg).symm)
 ·simp<;>(
   rfl)
@[simp]def ako(s:List Cell)(hm:s.length<=1000000000):bU X 221 [s,.fn 261 [] []]=some (.bool (!gm s)):=by
 refine aaA ?_;simp[hm,wm,gm]
@[simp]def akp(s:List Cell)(hm:s.length<=1000000000):bU X 221 [s,.fn 222 [] []]=some (.bool (!gm s)):=by
 refine aaA ?_;simp[hm,wm,gm]
@[simp]def adb(l:List Cell)(n:Int)(hm:l.length<=1000000000):bU X 217 [l,n]=some (.bool (decide (l.length=n)&&gm l)):=by
 refine aaA ?_;by_cases h:(l.length:Int)=n
 ·simp[hm,h]
 ·simp[h]
@[simp]def akq(BM:List Cell)(mf:List cw)(BN:List Cell)(oO:List cw)(hc:BM.length<=1000000000)(hl:mf.length<=1000000000)(hx: ∀i (h:i<mf.length),(mf[i]).cells.length<=1000000000):bU X 82 [KKp BM mf,KKp BN oO]=some (.bool (decide ((aF.mk BM mf)=(aF.mk BN oO)))):=by
 refine aaA ?_;by_cases h1:BM=BN
 case neg=>simp[hc,h1,aF.eq_iff]
 have hcb:BN.length<=1000000000:=h1▸hc;by_cases La:(mf.length:Int)=oO.length
 case neg=>
  have h3: ¬mf=oO:=fun h=>La (by rw[h]);simp[h1,hcb,La,h3,aF.eq_iff]
 have h2:mf.length=oO.length:=by omega
 simp[h1,hcb,La,aF.eq_iff];refine cY (fun i S=>(S.f 2= .ptr 2 0 0/\S.h 2=some ⟨2,[KKp BM mf],true⟩/\S.f 3= .ptr 3 0 0/\S.h 3=some ⟨2,[KKp BN oO],true⟩/\S.f 25=((mf).length:Int)/\S.f 26=(i:Int)/\S.n=1100)/\(mf.take i=oO.take i)) (mf.length) (by omega) ?_ ?_ ?_
 ·rintro i S ⟨oY,gS,bL⟩ ⟨df,fg⟩;have g1:i<oO.length:=by omega
  have g2:=hx i bL;have g3: ¬mf[i]=oO[i]-> ¬mf=oO:=fun h g=>h (by subst g;rfl);rw[cw.eq_iff]at g3;by_cases e1:(mf[i]).tag=(oO[i]).tag
  case neg=>
   simp[df,bL,g1,e1];exact g3 (fun h=>e1 h.1)
  by_cases e2:(mf[i]).iW=(oO[i]).iW
  case neg=>
   simp[df,bL,g1,e1,e2];exact g3 (fun h=>e2 h.2.1)
  by_cases e3:(mf[i]).cells=(oO[i]).cells
  case neg=>
   simp[df,bL,g1,g2,e1,e2,e3];exact g3 (fun h=>e3 h.2.2)
  have g2b:(oO[i]).cells.length<=1000000000:=e3▸g2;simp[df,gS,bL,g1,g2b,e1,e2,e3];exact BJ bL g1 fg ((cw.eq_iff _ _).2 ⟨e1,e2,e3⟩)
 ·rintro S ⟨df,fg⟩;simp[df]<;>(
   exact yE (i:=mf.length) (by omega) h2 fg)
 ·simp<;>(
   exact⟨by rw[h1],by omega⟩)
@[simp]def ahk(i lK:Int)(Lb:Bool)(zM:List Cell)(hi:0<=i/\i<4)(hx:zM.length<=1000000000):bU X 218 [i,.agg [lK,Lb,zM]]=some (.bool (o8 i.toNat (cw.mk lK Lb zM))):=by
 refine aaA ?_;obtain⟨k,rfl⟩:=aaG hi.1;by_cases h1:lK= -1
 ·cases Lb<;>simp[h1,o8]
 by_cases h2:lK<0
 ·simp[h1,h2,hx,o8];omega
 have h3:lK.tmod 4=lK % 4:=aaK (by omega);have Pp:0<=lK:=by omega
 by_cases h4:lK<128
 ·by_cases h6:(zM.length:Int)=4
  case neg=>
   have h6n: ¬zM.length=4:=by omega
   by_cases h5:lK % 4=k
   ·simp[h1,Pp,h3,h4,h5,h6,h6n,hx,o8]
   ·simp[h1,Pp,h3,h4,h5,h6n,o8]
  have h6n:zM.length=4:=by omega
  by_cases h5:lK % 4=k
  ·simp[h1,Pp,h3,h4,h5,h6n,o8]
  ·simp[h1,Pp,h3,h4,h5,h6n,o8]
 ·simp[h1,h2,h4,o8]
@[simp]def ade(dB:List Cell)(bW:List cw)(hc:dB.length<=1000000000)(hl:bW.length<=1000000000)(hx: ∀i (h:i<bW.length),(bW[i]).cells.length<=1000000000):bU X 146 [KKp dB bW]=some (.bool (xg (aF.mk dB bW))):=by
 refine aaA ?_;by_cases CQ:(dB.length:Int)=512
 case neg=>
  have h1: ¬dB.length=512:=by omega
  simp[hc,CQ,h1,xg]
 have h1:dB.length=512:=by omega
 by_cases h2:gm dB=true
 case neg=>
  simp[h1,h2,xg]
 by_cases h3i:(bW.length:Int)=4
 case neg=>
  have h3: ¬bW.length=4:=by omega
  simp[h1,h2,h3i,h3,xg]
 have h3:bW.length=4:=by omega
 simp[h1,h2,h3];refine cY (fun i S=>(S.f 16=bW/\S.f 17=((bW).length:Int)/\S.f 18=(i:Int)/\S.n=1100)/\(rk bW i=true)) (4) (by omega) ?_ ?_ ?_
 ·rintro i S ⟨oY,gS,bL⟩ ⟨df,fg⟩;have g1:i<bW.length:=by omega
  have g2:=hx i g1;have g3:o8 i bW[i]=false->xg (aF.mk dB bW)=false:=fun h=>by
   unfold xg;rw[JJ g1 bL h];simp
  have g4:rk bW (i+1)=(rk bW i&&o8 i bW[i]):=JI g1;have g5:(i:Int)<4:=by omega
  simp[df,gS,bL,g1,g2,g4,g5,fg];cases h:o8 i bW[i]<;>simp[g3,h]
 ·rintro S ⟨df,fg⟩;simp[df]<;>(
   unfold xg;simp[h1,h2,h3,fg])
 ·simp<;>(
   exact⟨by omega,rfl⟩)
@[simp]def ahl(dB:List Cell)(bW:List cw)(hc:dB.length<=1000000000)(hl:bW.length<=1000000000)(hx: ∀i (h:i<bW.length),(bW[i]).cells.length<=1000000000):bU X 79 [KKp dB bW]=some (.bool (xg (aF.mk dB bW))):=by
 refine aaA ?_;by_cases CQ:(dB.length:Int)=512
 case neg=>
  have h1: ¬dB.length=512:=by omega
  simp[CQ,h1,xg]
 have h1:dB.length=512:=by omega
 by_cases h3i:(bW.length:Int)=4
 case neg=>
  have h3: ¬bW.length=4:=by omega
  simp[h1,h3i,h3,xg]
 have h3:bW.length=4:=by omega
 by_cases h2:gm dB=true
 case neg=>
  simp[h1,h2,h3,xg]
 simp[h1,h2,h3];refine cY (fun i S=>(S.f 22=bW/\S.f 23=((bW).length:Int)/\S.f 24=(i:Int)/\S.n=1100)/\(rk bW i=true)) (bW.length) (by omega) ?_ ?_ ?_
 ·rintro i S ⟨oY,gS,bL⟩ ⟨df,fg⟩;have g1:i<bW.length:=by omega
  have g2:=hx i g1;have g3:o8 i bW[i]=false->xg (aF.mk dB bW)=false:=fun h=>by
   unfold xg;rw[JJ g1 (show i<4 by omega) h];simp
  have g4:rk bW (i+1)=(rk bW i&&o8 i bW[i]):=JI g1;have g5:(i:Int)<4:=by omega
  have q5:0<=(bW[i]).tag->((bW[i]).tag).tmod 4=(bW[i]).tag % 4:=fun q2'=>aaK q2';have g6:rk bW (i+1)=o8 i bW[i]:=by rw[g4,fg,aer]
  have g7:(bW[i]).tag= -1->o8 i bW[i]=(!(bW[i]).iW&&decide ((bW[i]).cells.length=0)):=fun h=>by unfold o8;rw[if_pos h]
  have g8: ¬(bW[i]).tag= -1->o8 i bW[i]=(decide (0<=(bW[i]).tag)&& (decide ((bW[i]).tag<128)&& (decide ((bW[i]).tag % 4=i)&& (decide ((bW[i]).cells.length=4)&&gm (bW[i]).cells)))):=fun h=>by unfold o8;rw[if_neg h]
  clear g4;by_cases q1:(bW[i]).tag= -1
  ·rw[g7 q1]at g3 g6;cases q2:(bW[i]).iW
   ·by_cases q3i:((bW[i]).cells.length:Int)=0
    ·have q3:(bW[i]).cells.length=0:=by omega
     have q3l: ¬0<(bW[i]).cells.length:=by omega
     have q3m: ¬0<((bW[i]).cells.length:Int):=by omega
     rw[q2]at g6;simp[q3]at g6;simp[df,gS,bL,q1,q2,q3,g6]
    ·have q3: ¬(bW[i]).cells.length=0:=by omega
     have q3l:0<(bW[i]).cells.length:=by omega
     have q3m:0<((bW[i]).cells.length:Int):=by omega
     have g9:=g3 (by simp[q3]);simp[df,bL,q1,q2,q3l,g9]
   ·have g9:=g3 (by simp[q2]);simp[df,bL,q1,q2,g9]
  rw[g8 q1]at g3 g6;clear g7 g8;by_cases q2:0<=(bW[i]).tag
  case neg=>
   have q2n:(bW[i]).tag<0:=by omega
   have g9:=g3 (by simp[q2]);simp[df,bL,q1,q2n,g9]
  have q2n: ¬(bW[i]).tag<0:=by omega
  by_cases q3:(bW[i]).tag<128
  case neg=>
   have q3n:128<=(bW[i]).tag:=by omega
   have g9:=g3 (by simp[q3]);simp[df,bL,q1,q2n,q3n,g9]
  have q3n: ¬128<=(bW[i]).tag:=by omega
  have q5':=q5 q2;by_cases q4:(bW[i]).tag % 4=i
  case neg=>
   have g9:=g3 (by simp[q4]);simp[df,bL,q1,q2n,q3n,q5',q4,g9]
  by_cases q6i:((bW[i]).cells.length:Int)=4
  case neg=>
   have q6: ¬(bW[i]).cells.length=4:=by omega
   have g9:=g3 (by simp[q6]);simp[df,bL,q1,q2n,q3n,q5',q4,q6i,g9]
  have q6:(bW[i]).cells.length=4:=by omega
  cases q7:gm (bW[i]).cells
  ·have g9:=g3 (by simp[q7]);simp[df,bL,q1,q2n,q3n,q5',q4,q6,q7,g9]
  ·rw[q7]at g6;simp[q2,q3,q4,q6]at g6;simp[df,gS,bL,q1,q2n,q3n,q5',q4,q6,q7,g6]
 ·rintro S ⟨df,fg⟩;simp[df]<;>(
   rw[h3]at fg;unfold xg;simp[h1,h2,h3,fg])
 ·simp<;>(
   exact⟨by omega,rfl⟩)
@[simp]def adf(iu:Int)(cN:List Cell)(jQ dS da dT jx jy:Int)(hm:cN.length<=1000000000):bU X 149 [KKg iu cN jQ dS da dT jx jy]=some (.bool (nX (Thread.mk iu cN jQ dS da dT jx jy))):=by
 refine aaA ?_;simp[hm];unfold nX
 grind
@[simp]def ahm:ng X [(0,1,120)] 277 []=some ((KKg 0 (List.replicate 8 (⟨0,0⟩:Cell)) 0 0 (-1) (-1) 0 0:V)):=by
 refine aaC ?_;simp[Cell.bS]
def sy(f:Nat->α)(a:Nat)(x y:α):aR (aR f a x) a y=aR f a y:=by
 funext i;unfold aR;split<;>rfl
def Od(f:Nat->α)(a b:Nat)(x y:α)(h:a≠b):aR (aR f a x) b y=aR (aR f b y) a x:=by
 funext i;unfold aR;split<;>split<;>first|rfl|(exfalso;omega)
def JW(ids:Nat->Nat)(i:Nat)(x:cw):V:= (KKt x.tag x.iW (.cx (ids i) 0 x.cells.length):V)
def fW(ids:Nat->Nat)(l:List cw):List V:=l.mapIdx (JW ids)
def jh(ids:Nat->Nat)(l:List cw):(fW ids l).length=l.length:=by simp[fW]
def jN{l:List cw}(h:i<l.length)(h':i<(fW ids l).length):(fW ids l)[i]= (KKt (l[i]).tag (l[i]).iW (.cx (ids i) 0 (l[i]).cells.length):V):=by
 simp[fW,JW]
def AZ{l:List cw}(h:i<l.length):(fW ids l).set i ((KKt x.tag x.iW (.cx n 0 x.cells.length):V))=fW (aR ids i n) (l.set i x):=by
 apply abF;intro j;unfold fW;rw[abN,ack,ack,abN];by_cases hj:i=j
 ·subst hj;simp[h,JW,aR]
 ·rw[if_neg hj,if_neg hj];cases l[j]? with
  |none=>rfl
  |some y=>simp[JW,aR,aaU hj]
def yU{l:List cw}(h:i<l.length):(fW ids l).set i ((KKt x.tag x.iW (.cx (ids i) 0 x.cells.length):V))=fW ids (l.set i x):=by
 rw[AZ h];congr 1;funext j;unfold aR;split
 ·rename_i e;rw[e]
 ·rfl
structure Oe (h:bh) (C L:Nat) (ids:Nat->Nat) (m:aF):Prop where
 cells:h C=some ⟨2,m.cells.map Cell.e,false⟩
 lines:h L=some ⟨3,fW ids m.lines,true⟩
 line: ∀i (g:i<m.lines.length),h (ids i)=some ⟨2,(m.lines[i]).cells.map Cell.e,false⟩
structure Sb (C L:Nat) (ids:Nat->Nat):Prop where
 cl:C≠L
 ci: ∀i,i<4->ids i≠C
 li: ∀i,i<4->ids i≠L
 ii: ∀i j,i<4->j<4->i≠j->ids i≠ids j
@[simp]def Of(m:V)(addr:Int)(h:bh)(b C L k a:Nat)(ids:Nat->Nat)(vB vK vT:V)(mm:aF)(hb:h b=some ⟨5,[.agg [vB,vK,.cx C 0 512,.cx L 0 4,vT]],true⟩)(hA:Oe h C L ids mm)(hl:mm.lines.length=4)(ha:a<512)(ht:(mm.lines.getD (a/4 % 4) eh).tag=((a/4:Nat):Int)):cL X 276 [.ptr b 0 2,(a:Int)] h k=some (.ptr L (a/4 % 4) 0,h,k+20):=by
 obtain⟨n,hn⟩: ∃n:Nat,a/4=n:=⟨_,rfl⟩;rw[hn]at ht⊢;obtain⟨r,hr⟩: ∃r:Nat,n % 4=r:=⟨_,rfl⟩;rw[hr]at ht⊢;have hd:(a:Int).tdiv 4=n:=by rw[abD (by omega)];omega
 have hw:IntKind.i64.wrap (n:Int)=n:=wrap_i64 (by omega);have sV:(n:Int).tmod 4=r:=by rw[aaK (by omega)];omega
 have h1:r<mm.lines.length:=by omega
 have uF:r<4:=by omega
 have CQ:(r:Int)<4:=by omega
 have hL:=hA.lines;have hg:=jN (ids:=ids) h1;have jX:(fW ids mm.lines).length=4:=by rw[jh,hl]
 simp[List.getD,h1]at ht;obtain⟨v,h',n',e1,e2,e3,e4⟩:=bC (X:=X) (g:=276) (args:=[.ptr b 0 2,(a:Int)]) (h:=h) (k:=k) (K:=fun v h' n'=>v= .ptr L r 0/\h'=h/\n'=k+20) Tryz.func276 rfl rfl (by
  simp[aaE,hb,hd,hw,sV,uF,CQ,hL,hg,jX,ht])
 rw[e1,e2,e3,e4]
@[simp]def IG(m:V)(addr:Int)(h:bh)(b C L k a:Nat)(ids:Nat->Nat)(vB vK vT:V)(mm:aF)(hb:h b=some ⟨5,[.agg [vB,vK,.cx C 0 512,.cx L 0 4,vT]],true⟩)(hA:Oe h C L ids mm)(pS:C≠L)(wM:b≠L)(hk:b<k/\C<k/\L<k)(hc:mm.cells.length=512)(hl:mm.lines.length=4)(ha:a<512)(ht: ¬(mm.lines.getD (a/4 % 4) eh).tag=((a/4:Nat):Int))(hx:(mm.lines.getD (a/4 % 4) eh).iW=false):cL X 276 [.ptr b 0 2,(a:Int)] h k=some (.ptr L (a/4 % 4) 0,aR (aR h (k+42) (some ⟨2,((mm.cells.drop (a/4*4)).take 4).map Cell.e,false⟩)) L (some ⟨3,(fW ids mm.lines).set (a/4 % 4) ((KKt ((a/4:Nat):Int) false (.cx (k+42) 0 4):V)),true⟩),k+48):=by
 obtain⟨n,hn⟩: ∃n:Nat,a/4=n:=⟨_,rfl⟩;rw[hn]at ht hx⊢;obtain⟨r,hr⟩: ∃r:Nat,n % 4=r:=⟨_,rfl⟩;rw[hr]at ht hx⊢;have hd:(a:Int).tdiv 4=n:=by rw[abD (by omega)];omega
 have hw:IntKind.i64.wrap (n:Int)=n:=wrap_i64 (by omega);obtain⟨p,hp⟩: ∃p:Nat,n*4=p:=⟨_,rfl⟩;rw[hp];obtain⟨q,hq⟩: ∃q:Nat,p+4=q:=⟨_,rfl⟩;have WB:IntKind.i64.wrap ((n:Int)*4)=(p:Int):=by rw[wrap_i64 (by omega)];omega
 have sU:=mZ n (by omega);have hw5:IntKind.i64.wrap (((n:Int)+1)*4)=(q:Int):=by rw[wrap_i64 (by omega)];omega
 have hqp:q-p=4:=by omega
 have p4:p+4<=512:=by omega
 have hq5:q<=512:=by omega
 have WC:(q:Int)<=512:=by omega
 have lS:min 4 (512-p)=4:=by omega
 have jV: ∀x∈List.take 4 (List.drop p (List.map Cell.e mm.cells)),x.cells.length=2:=fun x hx=>by
  have:=abB (aaS hx);simp only[adC]at this;obtain⟨c,_,rfl⟩:=this;rfl
 have P4:p<=q:=by omega
 have sV:(n:Int).tmod 4=r:=by rw[aaK (by omega)];omega
 have h1:r<mm.lines.length:=by omega
 have uF:r<4:=by omega
 have CQ:(r:Int)<4:=by omega
 have hL:=hA.lines;have hC:=hA.cells;have hg:=jN (ids:=ids) h1;have jX:(fW ids mm.lines).length=4:=by rw[jh,hl]
 simp[List.getD,h1]at ht hx;have a06: ¬L=b:=fun e=>wM e.symm;have UX: ¬L=C:=fun e=>pS e.symm;have q1: ¬b=k+42:=by omega
 have q2: ¬C=k+42:=by omega
 have q3: ¬L=k+42:=by omega
 have q4: ¬k+42=L:=by omega
 obtain⟨v,h',n',e1,e2,e3,e4⟩:=bC (X:=X) (g:=276) (args:=[.ptr b 0 2,(a:Int)]) (h:=h) (k:=k) (K:=fun v h' n'=>v= .ptr L r 0/\h'=aR (aR h (k+42) (some ⟨2,((mm.cells.drop p).take 4).map Cell.e,false⟩)) L (some ⟨3,(fW ids mm.lines).set r ((KKt (n:Int) false (.cx (k+42) 0 4):V)),true⟩)/\n'=k+48) Tryz.func276 rfl rfl (by
  simp[aaE,hb,hd,hw,sU,WB,hw5,sV,uF,CQ,hL,hC,hg,jX,ht,hx,hqp,p4,WC,P4,hc,wM,pS,q3,lS,sy];refine⟨jV,fun _=> ?_⟩;rw[Od h L (k+42) _ _ q3,sy])
 rw[e1,e2,e3,e4]
def nm(l:List Cell)(k:Nat)(xs:List Cell):List Cell:=l.take k++xs++l.drop (k+xs.length)
def GJ(h4:xs.length=4):(l.map Cell.e).take k++(xs.map Cell.e).take 4++(l.map Cell.e).drop (k+4)=(nm l k xs).map Cell.e:=by
 unfold nm;have e:(xs.map Cell.e).take 4=xs.map Cell.e:=aZ (by simp[h4]);rw[abL,abL,afA,List.map_drop,h4,e]
def GK(h:k+xs.length<=l.length):(nm l k xs).length=l.length:=by
 unfold nm;simp;omega
@[simp]def IH(m:V)(addr:Int)(h:bh)(b C L k a T:Nat)(ids:Nat->Nat)(vB vK vT:V)(mm:aF)(hb:h b=some ⟨5,[.agg [vB,vK,.cx C 0 512,.cx L 0 4,vT]],true⟩)(hA:Oe h C L ids mm)(hS:Sb C L ids)(wM:b≠L/\b≠C)(hk:b<k/\C<k/\L<k/\ ∀i,i<4->ids i<k)(hc:mm.cells.length=512)(hl:mm.lines.length=4)(ha:a<512)(ht: ¬(mm.lines.getD (a/4 % 4) eh).tag=((a/4:Nat):Int))(hx:(mm.lines.getD (a/4 % 4) eh).iW=true)(hT:(mm.lines.getD (a/4 % 4) eh).tag=(T:Int)/\T<128)(h4:(mm.lines.getD (a/4 % 4) eh).cells.length=4):cL X 276 [.ptr b 0 2,(a:Int)] h k=some (.ptr L (a/4 % 4) 0,aR (aR (aR h C (some ⟨2,(nm mm.cells (T*4) (mm.lines.getD (a/4 % 4) eh).cells).map Cell.e,false⟩)) (k+57) (some ⟨2,(((nm mm.cells (T*4) (mm.lines.getD (a/4 % 4) eh).cells).drop (a/4*4)).take 4).map Cell.e,false⟩)) L (some ⟨3,(fW ids mm.lines).set (a/4 % 4) ((KKt ((a/4:Nat):Int) false (.cx (k+57) 0 4):V)),true⟩),k+63):=by
 obtain⟨n,hn⟩: ∃n:Nat,a/4=n:=⟨_,rfl⟩;rw[hn]at ht hx hT h4⊢;obtain⟨r,hr⟩: ∃r:Nat,n % 4=r:=⟨_,rfl⟩;rw[hr]at ht hx hT h4⊢;have hd:(a:Int).tdiv 4=n:=by rw[abD (by omega)];omega
 have hw:IntKind.i64.wrap (n:Int)=n:=wrap_i64 (by omega);obtain⟨p,hp⟩: ∃p:Nat,n*4=p:=⟨_,rfl⟩;rw[hp];obtain⟨q,hq⟩: ∃q:Nat,p+4=q:=⟨_,rfl⟩;obtain⟨s,hs⟩: ∃s:Nat,T*4=s:=⟨_,rfl⟩;rw[hs];have WB:IntKind.i64.wrap ((n:Int)*4)=(p:Int):=by rw[wrap_i64 (by omega)];omega
 have sU:=mZ n (by omega);have hw5:IntKind.i64.wrap (((n:Int)+1)*4)=(q:Int):=by rw[wrap_i64 (by omega)];omega
 have hT2:=hT.2;have DM:IntKind.i64.wrap ((T:Int)*4)=(s:Int):=by rw[wrap_i64 (by omega)];omega
 have hqp:q-p=4:=by omega
 have p4:p+4<=512:=by omega
 have hq5:q<=512:=by omega
 have WC:(q:Int)<=512:=by omega
 have P4:p<=q:=by omega
 have hs5:s<=512:=by omega
 have at1:(s:Int)<=512:=by omega
 have hsm:min 4 (512-s)=4:=by omega
 have Yn:s+(512-s)<=512:=by omega
 have sV:(n:Int).tmod 4=r:=by rw[aaK (by omega)];omega
 have h1:r<mm.lines.length:=by omega
 have uF:r<4:=by omega
 have CQ:(r:Int)<4:=by omega
 have hL:=hA.lines;have hC:=hA.cells;have H6:=hA.line r h1;have hg:=jN (ids:=ids) h1;have jX:(fW ids mm.lines).length=4:=by rw[jh,hl]
 have hgt:(mm.lines.getD r eh)=mm.lines[r]:=by simp[List.getD,h1]
 rw[hgt]at ht hx hT h4⊢;have hTt:=hT.1;have htn: ¬(T:Int)=n:=by rw[<-hTt];exact ht
 have bqc: ¬T=n:=by omega
 have ady:=GJ (l:=mm.cells) (k:=s) h4;have hlen:=GK (l:=mm.cells) (k:=s) (xs:=(mm.lines[r]).cells) (by omega);rw[hc]at hlen;have a06: ¬L=b:=fun e=>wM.1 e.symm;have bqd: ¬C=b:=fun e=>wM.2 e.symm;have bal:=wM.1;have WD:=wM.2;have pS:=hS.cl;have UX: ¬L=C:=fun e=>pS e.symm;have hic:=hS.ci r uF;have Fg:=hS.li r uF;have bqe: ¬C=ids r:=fun e=>hic e.symm;have qx: ¬L=ids r:=fun e=>Fg e.symm;have q1: ¬b=k+57:=by omega
 have q2: ¬C=k+57:=by omega
 have q3: ¬L=k+57:=by omega
 have q4: ¬k+57=L:=by omega
 have q5: ¬k+57=C:=by omega
 have lS:min 4 (512-p)=4:=by omega
 have hxc: ∀x∈ (mm.lines[r]).cells.map Cell.e,x.cells.length=2:=fun x hx=>by
  simp only[adC]at hx;obtain⟨c,_,rfl⟩:=hx;rfl
 have e4:List.take 4 (List.map Cell.e (mm.lines[r]).cells)=List.map Cell.e (mm.lines[r]).cells:=aZ (by simp[h4]);rw[e4,acC]at ady;have bfq:p+4<=s+(4+(508-s)):=by omega
 have jV: ∀x∈List.take 4 (List.drop p (List.map Cell.e (nm mm.cells s (mm.lines[r]).cells))),x.cells.length=2:=fun x hx=>by
  have:=abB (aaS hx);simp only[adC]at this;obtain⟨c,_,rfl⟩:=this;rfl
 obtain⟨v,h',n',e1,e2,e3,e4⟩:=bC (X:=X) (g:=276) (args:=[.ptr b 0 2,(a:Int)]) (h:=h) (k:=k) (K:=fun v h' n'=>v= .ptr L r 0/\h'=aR (aR (aR h C (some ⟨2,(nm mm.cells s (mm.lines[r]).cells).map Cell.e,false⟩)) (k+57) (some ⟨2,(((nm mm.cells s (mm.lines[r]).cells).drop p).take 4).map Cell.e,false⟩)) L (some ⟨3,(fW ids mm.lines).set r ((KKt (n:Int) false (.cx (k+57) 0 4):V)),true⟩)/\n'=k+63) Tryz.func276 rfl rfl (by
  simp[aaE,hb,hd,hw,sU,WB,hw5,DM,sV,uF,CQ,hL,hC,H6,hg,jX,hTt,htn,hx,h4,hqp,p4,WC,P4,hs5,at1,hsm,hc,hlen,e4,ady,bal,WD,pS,UX,q3,lS,sy];exact⟨jV,fun _=>by rw[Od _ L (k+57) _ _ q3,sy]⟩)
 rw[e1,e2,e3,e4]
def dg(m:aF)(r:Nat):cw:=m.lines.getD r eh
def kV(m:aF)(r:Nat):List Cell:=if(dg m r).iW=true then nm m.cells ((dg m r).tag.toNat*4) (dg m r).cells else m.cells
def dx(m:aF)(a:Nat):aF:=
 if(dg m (a/4 % 4)).tag=((a/4:Nat):Int) then m else
  ⟨kV m (a/4 % 4),m.lines.set (a/4 % 4) ⟨((a/4:Nat):Int),false,((kV m (a/4 % 4)).drop (a/4*4)).take 4⟩⟩
def m7(m:aF)(a:Nat):Cell:=((dg (dx m a) (a/4 % 4)).cells.getD (a % 4) ⟨0,0⟩)
def mA(m:aF)(a:Nat)(c:Cell):aF:=
 ⟨(dx m a).cells,(dx m a).lines.set (a/4 % 4) ⟨(dg (dx m a) (a/4 % 4)).tag,true,(dg (dx m a) (a/4 % 4)).cells.set (a % 4) c⟩⟩
structure kD (h:bh) (k b C L:Nat) (ids:Nat->Nat) (vB vK vT:V) (m:aF):Prop where
 box:h b=some ⟨5,[.agg [vB,vK,.cx C 0 512,.cx L 0 4,vT]],true⟩
 at_:Oe h C L ids m
 sep:Sb C L ids
 bl:b≠L/\b≠C
 bi: ∀i,i<4->ids i≠b
 lt:b<k/\C<k/\L<k/\ ∀i,i<4->ids i<k
 mem:ud m
def Sc(h:gm l=true):gm ((l.drop p).take 4)=true:=by
 unfold gm at h⊢;rw[aaP]at h⊢;exact fun x hx=>h x (abB (aaS hx))
def Li(h:gm l=true)(hx:gm xs=true):gm (nm l p xs)=true:=by
 unfold gm nm at*;rw[aaP]at h hx⊢;intro x hm;simp only[aeD]at hm;rcases hm with(hm|hm)|hm
 ·exact h x (aaS hm)
 ·exact hx x hm
 ·exact h x (abB hm)
def fJ(h:r<m.lines.length):dg m r=m.lines[r]:=by simp[dg,List.getD,h]
def EU(hM:ud m)(hr:r<4):(kV m r).length=512/\gm (kV m r)=true:=by
 have h1:r<m.lines.length:=by rw[hM.lines];exact hr
 unfold kV;split
 ·rename_i hd;rw[fJ h1]at hd⊢;have hl:=hM.line r h1;have hn:(m.lines[r]).tag≠ -1:=fun e=>by rw[(hl.none e).1]at hd;cases hd
  obtain⟨g1,g2,g3,g4⟩:=hl.some hn;refine⟨?_,Li hM.cells hl.cells⟩;rw[GK (by rw[hM.len];omega),hM.len]
 ·exact⟨hM.len,hM.cells⟩
def pZ(hM:ud m)(ha:a<512):ud (dx m a):=by
 unfold dx;split
 ·exact hM
 ·obtain⟨b1,b2⟩:=EU hM (r:=a/4 % 4) (by omega);refine⟨b1,by simp[hM.lines],b2,fun i hi=> ?_⟩;have oy:i<m.lines.length:=by simpa using hi
  by_cases he:a/4 % 4=i
  ·subst he;simp only[aco];refine⟨fun e=> ?_,fun _=>⟨?_,?_,?_,?_⟩,Sc b2⟩
   ·simp only at e;omega
   ·simp only;omega
   ·simp only;omega
   ·simp only;omega
   ·simp only[abR,adX,b1];omega
  ·simp only[abU he];exact hM.line i oy
def si(hM:ud m)(ha:a<512):(dg (dx m a) (a/4 % 4)).tag=((a/4:Nat):Int)/\(dg (dx m a) (a/4 % 4)).cells.length=4:=by
 have hf:=pZ hM ha;have h1:a/4 % 4<(dx m a).lines.length:=by rw[hf.lines];omega
 have ht:(dg (dx m a) (a/4 % 4)).tag=((a/4:Nat):Int):=by
  unfold dx;split
  ·assumption
  ·have h2:a/4 % 4<m.lines.length:=by rw[hM.lines];omega
   simp[dg,List.getD,h2]
 refine⟨ht,?_⟩;rw[fJ h1]at ht⊢;exact((hf.line _ h1).some (by omega)).2.2.2
def GL{h:bh}(H:kD h k b C L ids vB vK vT m)(ha:a<512):
  ∃h' k' iJ,cL X 276 [.ptr b 0 2,(a:Int)] h k=some (.ptr L (a/4 % 4) 0,h',k')/\kD h' k' b C L iJ vB vK vT (dx m a)/\k<=k'/\
   (∀j,j<4->iJ j=ids j\/k<=iJ j)/\(∀i,i<k->i≠C->i≠L->(∀j,j<4->i≠ids j)->h' i=h i):=by
 obtain⟨hb,hA,hS,wM,hbi,gZ,hM⟩:=H;have hl:=hM.lines;have Ez:a/4 % 4<4:=by omega
 have hr:a/4 % 4<m.lines.length:=by omega
 by_cases ht:(dg m (a/4 % 4)).tag=((a/4:Nat):Int)
 ·have e:=Of .bad 0 h b C L k a ids vB vK vT m hb hA hl ha ht;have ef:dx m a=m:=by unfold dx;rw[if_pos ht]
  exact⟨h,k+20,ids,e,⟨hb,by rw[ef];exact hA,hS,wM,hbi,⟨by omega,by omega,by omega,fun i hi=>by have:=gZ.2.2.2 i hi;omega⟩,by rw[ef];exact hM⟩,by omega,fun j hj=> .inl rfl,fun i _ _ _ _=>rfl⟩
 ·have ef:dx m a=⟨kV m (a/4 % 4),m.lines.set (a/4 % 4) ⟨((a/4:Nat):Int),false,((kV m (a/4 % 4)).drop (a/4*4)).take 4⟩⟩:=by unfold dx;rw[if_neg ht]
  obtain⟨b1,b2⟩:=EU hM Ez;have adz:(((kV m (a/4 % 4)).drop (a/4*4)).take 4).length=4:=by simp only[abR,adX,b1];omega
  have hfm:=pZ hM ha;have fin: ∀(h1:bh) (q:Nat),k<=q->h1 C=some ⟨2,(kV m (a/4 % 4)).map Cell.e,false⟩->(∀i,i<k->i≠C->h1 i=h i)->
    kD (aR (aR h1 q (some ⟨2,(((kV m (a/4 % 4)).drop (a/4*4)).take 4).map Cell.e,false⟩)) L (some ⟨3,(fW ids m.lines).set (a/4 % 4) ((KKt ((a/4:Nat):Int) false (.cx q 0 4):V)),true⟩)) (q+6) b C L (aR ids (a/4 % 4) q) vB vK vT (dx m a)/\
    (∀j,j<4->aR ids (a/4 % 4) q j=ids j\/k<=aR ids (a/4 % 4) q j)/\
    (∀i,i<k->i≠C->i≠L->(∀j,j<4->i≠ids j)->aR (aR h1 q (some ⟨2,(((kV m (a/4 % 4)).drop (a/4*4)).take 4).map Cell.e,false⟩)) L (some ⟨3,(fW ids m.lines).set (a/4 % 4) ((KKt ((a/4:Nat):Int) false (.cx q 0 4):V)),true⟩) i=h i):=by
   intro h1 q hq hC nU;rw[ef]at hfm⊢;have lh:=AZ (ids:=ids) (n:=q) (x:=⟨((a/4:Nat):Int),false,((kV m (a/4 % 4)).drop (a/4*4)).take 4⟩) hr;simp only[adz]at lh;have u1: ∀{α:Type} (f:Nat->α) (i:Nat) (v:α),aR f i v i=v:=fun f i v=>by simp[aR]
   have u2: ∀{α:Type} (f:Nat->α) (i j:Nat) (v:α),j≠i->aR f i v j=f j:=fun f i j v kz=>by simp[aR,kz]
   refine⟨⟨?_,⟨?_,?_,fun i hi=> ?_⟩,⟨hS.cl,fun i hi=> ?_,fun i hi=> ?_,fun i j hi hj mj=> ?_⟩,wM,fun i hi=> ?_,⟨by omega,by omega,by omega,fun i hi=> ?_⟩,hfm⟩,fun j hj=> ?_,fun i Jc hiC hiL mj=> ?_⟩
   ·rw[u2 _ _ _ _ wM.1,u2 _ _ _ _ (by omega),nU b gZ.1 wM.2,hb]
   ·rw[u2 _ _ _ _ hS.cl,u2 _ _ _ _ (by omega),hC]
   ·rw[u1,lh]
   ·simp only[aaN]at hi;by_cases he:a/4 % 4=i
    ·subst he;rw[u1,u2 _ _ _ _ (by omega),u1];simp
    ·rw[u2 _ _ _ _ (aaU he),u2 _ _ _ _ (hS.li i (by omega)),u2 _ _ _ _ (by have:=gZ.2.2.2 i (by omega);omega),nU _ (gZ.2.2.2 i (by omega)) (hS.ci i (by omega)),hA.line i hi];simp[abU he]
   ·by_cases he:a/4 % 4=i
    ·subst he;rw[u1];omega
    ·rw[u2 _ _ _ _ (aaU he)];exact hS.ci i hi
   ·by_cases he:a/4 % 4=i
    ·subst he;rw[u1];omega
    ·rw[u2 _ _ _ _ (aaU he)];exact hS.li i hi
   ·by_cases he:a/4 % 4=i
    ·subst he;rw[u1,u2 _ _ _ _ (aaU mj)];have:=gZ.2.2.2 j hj;omega
    ·rw[u2 _ _ _ _ (aaU he)];by_cases X4:a/4 % 4=j
     ·subst X4;rw[u1];have:=gZ.2.2.2 i hi;omega
     ·rw[u2 _ _ _ _ (aaU X4)];exact hS.ii i j hi hj mj
   ·by_cases he:a/4 % 4=i
    ·subst he;rw[u1];omega
    ·rw[u2 _ _ _ _ (aaU he)];exact hbi i hi
   ·by_cases he:a/4 % 4=i
    ·subst he;rw[u1];omega
    ·rw[u2 _ _ _ _ (aaU he)];have:=gZ.2.2.2 i hi;omega
   ·by_cases he:a/4 % 4=j
    ·subst he;rw[u1];exact .inr hq
    ·rw[u2 _ _ _ _ (aaU he)];exact .inl rfl
   ·rw[u2 _ _ _ _ hiL,u2 _ _ _ _ (by omega),nU i Jc hiC]
  cases hx:(dg m (a/4 % 4)).iW with
  |false=>
   have e:=IG .bad 0 h b C L k a ids vB vK vT m hb hA hS.cl wM.1 ⟨gZ.1,gZ.2.1,gZ.2.2.1⟩ hM.len hl ha ht hx;have eb:kV m (a/4 % 4)=m.cells:=by unfold kV;rw[hx];simp
   obtain⟨f1,f2,f3⟩:=fin h (k+42) (by omega) (by rw[eb];exact hA.cells) (fun i _ _=>rfl);rw[eb]at f1 f3;exact⟨_,_,_,e,f1,by omega,f2,f3⟩
  |true=>
   have ya:=hM.line _ hr;rw[fJ hr]at hx;have hn:(m.lines[a/4 % 4]).tag≠ -1:=fun e=>by rw[(ya.none e).1]at hx;cases hx
   obtain⟨g1,g2,g3,g4⟩:=ya.some hn;have L9:m.lines.getD (a/4 % 4) eh=m.lines[a/4 % 4]:=by simp[List.getD,hr]
   have e:=IH .bad 0 h b C L k a (m.lines[a/4 % 4]).tag.toNat ids vB vK vT m hb hA hS wM gZ hM.len hl ha ht (by rw[L9];exact hx) ⟨by rw[L9];omega,by omega⟩ (by rw[L9];exact g4);have eb:kV m (a/4 % 4)=nm m.cells ((m.lines[a/4 % 4]).tag.toNat*4) (m.lines.getD (a/4 % 4) eh).cells:=by
    unfold kV;rw[fJ hr,hx,if_pos rfl,L9]
   obtain⟨f1,f2,f3⟩:=fin (aR h C (some ⟨2,(kV m (a/4 % 4)).map Cell.e,false⟩)) (k+57) (by omega) (by simp[aR]) (fun i _ kz=>by simp[aR,kz]);rw[eb]at f1 f3;exact⟨_,_,_,e,f1,by omega,f2,f3⟩
end Go.Proofs.YtdngefmliibcgaaGreat
