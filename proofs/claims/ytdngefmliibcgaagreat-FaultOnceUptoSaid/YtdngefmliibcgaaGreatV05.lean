/- part -/
import Derived.Test.YtdngefmliibcgaaGreatV03
set_option linter.all false
set_option maxRecDepth 20000
set_option maxHeartbeats 20000000
namespace Go.Proofs.YtdngefmliibcgaaGreat
open Go Go.Abs Go.Abs.kI Qf
variable  {n i m b r:Nat}{p:Prog}{k op c h:Int}{l:List Instr}{data files dw:List (List Int)}{clock random d:List Int}{f:bJ}
def wrap_u16{n:Int}(h:0<=n/\n<=65535):IntKind.u16.wrap n=n:=by
 simp only[IntKind.wrap,IntKind.signed,IntKind.bits,acF];simp;omega
def mV(p:Prog)(k:Nat):Bool:=(List.range k).all fun r=>decide (((p.data.getD r []).length:Int)<=nth p.an r)
def JK{k:Nat}(h:k<p.data.length)(h2:k<p.an.length):mV p (k+1)=(mV p k&&decide (((p.data[k]).length:Int)<=p.an[k])):=by
 unfold mV;rw[Gd,dE h2];simp[List.getD,h]
def Gh{k:Nat}(hn:k<n)(h:k<p.data.length)(h2:k<p.an.length)(hp: ¬((p.data[k]).length:Int)<=p.an[k]):mV p n=false:=by
 unfold mV;refine CO hn ?_;rw[dE h2];simpa[List.getD,h] using hp
def po(l:List Instr):Bool:=l.all nh
def Gi(h:i<l.length):po (l.take (i+1))=(po (l.take i)&&nh l[i]):=vt h
def Gj(h:i<l.length)(hp:nh l[i]=false):po l=false:=vr h hp
def DN:po (l.take l.length)=po l:=by rw[abC]
def qp(n m:Nat)(i:Instr):Bool:= !(jumps i.op&&decide ((n:Int)<=i.eu))&& !(decide (i.op=15)&&decide ((m:Int)<=i.eu))
def nY(n m:Nat)(l:List Instr):Bool:=l.all (qp n m)
def Gk(h:i<l.length):nY n m (l.take (i+1))=(nY n m (l.take i)&&qp n m l[i]):=vt h
def RU(h:i<l.length)(hp:qp n m l[i]=false):nY n m l=false:=vr h hp
def NP:nY n m (l.take l.length)=nY n m l:=by rw[abC]
def jr(p:Prog):Int:=
 if kJ p.an=false then 1 else if p.data.length≠p.an.length then 1 else if mV p p.data.length=false then 1
 else if p.code.length<1 then 3 else if 64<p.code.length then 3 else if po p.code=false then 5
 else if nY p.code.length p.an.length p.code=false then 6 else 0
def yJ(h1:kJ p.an=true)(h2:p.data.length=p.an.length)(h3:mV p p.data.length=false):jr p=1:=by
 unfold jr;rw[if_neg (by simp[h1]),if_neg (by simpa using h2),if_pos h3]
def xh(h1:kJ p.an=true)(h2:p.data.length=p.an.length)(h3:mV p p.data.length=true)(h4:p.code.length<1):jr p=3:=by
 unfold jr;rw[if_neg (by simp[h1]),if_neg (by simpa using h2),if_neg (by simp[h3]),if_pos h4]
def yK(h1:kJ p.an=true)(h2:p.data.length=p.an.length)(h3:mV p p.data.length=true)(h4:64<p.code.length):jr p=3:=by
 unfold jr;rw[if_neg (by simp[h1]),if_neg (by simpa using h2),if_neg (by simp[h3]),if_neg (by omega),if_pos h4]
def uR(h1:kJ p.an=true)(h2:p.data.length=p.an.length)(h3:mV p p.data.length=true)(h4: ¬p.code.length<1)(h5: ¬64<p.code.length):
  jr p=if po p.code=false then 5 else if nY p.code.length p.an.length p.code=false then 6 else 0:=by
 unfold jr;rw[if_neg (by simp[h1]),if_neg (by simpa using h2),if_neg (by simp[h3]),if_neg h4,if_neg h5]
def NQ(h:jumps op=true): ¬op=15:=by unfold jumps at h;simp at h;omega
def cn:Thread:=⟨0,[],0,0,0,0,0,0⟩
def la(l:List Thread)(k:Nat):List Int:=((List.range k).filter fun i=>decide ((l.getD i cn).state=1)).map fun(i:Nat)=>(i:Int)
def NR{l:List Thread}(h:i<l.length)(hs:(l[i]).state=1):la l (i+1)=la l i++ [(i:Int)]:=by
 unfold la;rw[acK,adL,abL];simp[List.getD,h,hs]
def RV{l:List Thread}(h:i<l.length)(hs: ¬(l[i]).state=1):la l (i+1)=la l i:=by
 unfold la;rw[acK,adL,abL];simp[List.getD,h,hs]
def DO(l:List Thread)(k:Nat):(la l k).length<=k:=by
 unfold la;rw[abJ];exact abK (List.length_filter_le ..) (by simp)
def NS(n m:Nat)(l:List Instr):Int:=if nY n m l=true then 0 else 6
@[simp]def ahn(ax:List Instr)(ae:List Int)(ay:List (List Int))(h1:ae.length<=1000000000)(h2:ay.length<=1000000000)(h3:ax.length<=1000000000):bU X 57 [KKQ ax ae ay]=some (.int .i64 (jr (Prog.mk ax ae ay))):=by
 refine aaA ?_;by_cases hz:kJ ae=true
 case neg=>simp[h1,hz,jr]
 by_cases hl:ay.length=ae.length
 case neg=>
  have sG:((ay.length:Int)=ae.length)=False:=eq_false (by omega);simp[h1,hz,hl,sG,jr]
 have hS:=nF.1 hz;simp[h1,hz,hl];refine cY (fun i S=>(S.f 1= .ptr 1 0 0/\S.h 1=some ⟨3,[KKQ ax ae ay],true⟩/\S.f 23=ay/\S.f 24=((ay).length:Int)/\S.f 25=(i:Int)/\S.n=1100)/\(mV (Prog.mk ax ae ay) i=true)) (ay.length) (by omega) ?_ ?_ ?_
 ·rintro i S ⟨oY,gS,bL⟩ ⟨df,fg⟩;have g1:i<ae.length:=by omega
  have gz:=hS.elem i g1;have g3:mV (Prog.mk ax ae ay) (i+1)=(mV (Prog.mk ax ae ay) i&&decide (((ay[i]).length:Int)<=ae[i])):=JK bL g1;by_cases hc:((ay[i]).length:Int)<=ae[i]
  ·have Cv: ¬(ae[i]<((ay[i]).length:Int)):=by omega
   simp[df,gS,bL,g1,hc,Cv,g3,fg]
  ·have Cv:ae[i]<((ay[i]).length:Int):=by omega
   have bad:jr (Prog.mk ax ae ay)=1:=yJ (p:=(Prog.mk ax ae ay)) hz hl (Gh (p:=(Prog.mk ax ae ay)) bL bL g1 hc);simp[df,bL,g1,Cv,bad]
 ·rintro S ⟨df,fg⟩;have d1:mV (Prog.mk ax ae ay) ay.length=true:=fg;by_cases c1:(ax.length:Int)<1
  ·have c1n:ax.length<1:=by omega
   have e:jr (Prog.mk ax ae ay)=3:=xh (p:=(Prog.mk ax ae ay)) hz hl d1 c1n;simp[df,c1,e]
  by_cases c2:64<(ax.length:Int)
  ·have c2n:64<ax.length:=by omega
   have c1n: ¬ax.length<1:=by omega
   have e:jr (Prog.mk ax ae ay)=3:=yK (p:=(Prog.mk ax ae ay)) hz hl d1 c2n;simp[df,c1,c2,e]
  have c2n: ¬64<ax.length:=by omega
  have c1n: ¬ax.length<1:=by omega
  have key:jr (Prog.mk ax ae ay)=if po ax=false then 5 else if nY ax.length ae.length ax=false then 6 else 0:=uR (p:=(Prog.mk ax ae ay)) hz hl d1 c1n c2n
  rw[key];clear key;simp[df,c1,c2];refine cY (fun j S=>(S.f 1= .ptr 1 0 0/\S.h 1=some ⟨3,[KKQ ax ae ay],true⟩/\S.f 50=ax/\S.f 51=((ax).length:Int)/\S.f 52=(j:Int)/\S.n=1100)/\(po (ax.take j)=true)) (ax.length) (by omega) ?_ ?_ ?_
  ·rintro j S ⟨mj,uD,jq⟩ ⟨lB,r9⟩;cases hi:nh ax[j]
   ·have:=Gj jq hi;simp[lB,jq,hi,this]
   ·have:=Gi jq;simp[lB,uD,jq,hi,this,r9]
  ·rintro S ⟨lB,r9⟩;rw[DN]at r9;simp[lB,r9];refine cY (fun k S=>(S.f 1= .ptr 1 0 0/\S.h 1=some ⟨3,[KKQ ax ae ay],true⟩/\S.f 61=ax/\S.f 62=((ax).length:Int)/\S.f 63=(k:Int)/\S.n=1100)/\(nY ax.length ae.length (ax.take k)=true)) (ax.length) (by omega) ?_ ?_ ?_
   ·rintro k S ⟨Jc,ER,kK⟩ ⟨Am,Py⟩;have hn0:qp ax.length ae.length ax[k]=(!(jumps (ax[k]).op&&decide ((ax.length:Int)<=(ax[k]).eu))&& !(decide ((ax[k]).op=15)&&decide ((ae.length:Int)<=(ax[k]).eu))):=rfl;have lu:=Gk (n:=ax.length) (m:=ae.length) kK;have atp:=RU (n:=ax.length) (m:=ae.length) kK;rw[hn0]at lu atp;cases hj:jumps (ax[k]).op
    ·by_cases ho:(ax[k]).op=15
     ·have Lc:=eq_true ho;by_cases hm:(ae.length:Int)<=(ax[k]).eu
      ·have:=atp (by simp[hj,Lc,hm]);simp[Am,kK,hj,Lc,hm,this]
      ·simp[Am,ER,kK,hj,Lc,hm,lu,Py]
     ·simp[Am,ER,kK,hj,ho,lu,Py]
    ·have ho:=NQ hj;by_cases hm:(ax.length:Int)<=(ax[k]).eu
     ·have:=atp (by simp[hj,ho,hm]);simp[Am,kK,hj,hm,this]
     ·simp[Am,ER,kK,hj,ho,hm,lu,Py]
   ·rintro S ⟨Am,Py⟩;simp[Am]<;>(
     rw[NP]at Py;simp[Py])
   ·simp[lB]<;>(
     rfl)
  ·simp[df]<;>(
    rfl)
 ·simp<;>(
   exact⟨by omega,rfl⟩)
@[simp]def aho(ax:List Instr)(ae:List Int)(ay:List (List Int))(h1:ae.length<=1000000000)(h2:ay.length<=1000000000)(h3:ax.length<=1000000000):bU X 215 [KKQ ax ae ay]=some (.int .i64 (jr (Prog.mk ax ae ay))):=by
 refine aaA ?_;by_cases hz:kJ ae=true
 case neg=>simp[h1,hz,jr]
 by_cases hl:ay.length=ae.length
 case neg=>
  have sG:((ay.length:Int)=ae.length)=False:=eq_false (by omega);simp[h1,hz,hl,sG,jr]
 have hS:=nF.1 hz;simp[h1,hz,hl];refine cY (fun i S=>(S.f 1= .ptr 1 0 0/\S.h 1=some ⟨3,[KKQ ax ae ay],true⟩/\S.f 22=ay/\S.f 23=((ay).length:Int)/\S.f 24=(i:Int)/\S.n=1100)/\(mV (Prog.mk ax ae ay) i=true)) (ay.length) (by omega) ?_ ?_ ?_
 ·rintro i S ⟨oY,gS,bL⟩ ⟨df,fg⟩;have g1:i<ae.length:=by omega
  have gz:=hS.elem i g1;have g3:mV (Prog.mk ax ae ay) (i+1)=(mV (Prog.mk ax ae ay) i&&decide (((ay[i]).length:Int)<=ae[i])):=JK bL g1;by_cases hc:((ay[i]).length:Int)<=ae[i]
  ·have Cv: ¬(ae[i]<((ay[i]).length:Int)):=by omega
   simp[df,gS,bL,g1,hc,Cv,g3,fg]
  ·have Cv:ae[i]<((ay[i]).length:Int):=by omega
   have bad:jr (Prog.mk ax ae ay)=1:=yJ (p:=(Prog.mk ax ae ay)) hz hl (Gh (p:=(Prog.mk ax ae ay)) bL bL g1 hc);simp[df,bL,g1,Cv,bad]
 ·rintro S ⟨df,fg⟩;have d1:mV (Prog.mk ax ae ay) ay.length=true:=fg;by_cases c1:(ax.length:Int)=0
  ·have c1n:ax.length<1:=by omega
   have c1m:ax.length=0:=by omega
   have e:jr (Prog.mk ax ae ay)=3:=xh (p:=(Prog.mk ax ae ay)) hz hl d1 c1n;simp[df,c1m,e]
  by_cases c2:64<(ax.length:Int)
  ·have c2n:64<ax.length:=by omega
   have c1n: ¬ax.length<1:=by omega
   have c1m: ¬ax.length=0:=by omega
   have e:jr (Prog.mk ax ae ay)=3:=yK (p:=(Prog.mk ax ae ay)) hz hl d1 c2n;simp[df,c2,c1m,e]
  have c2n: ¬64<ax.length:=by omega
  have c1n: ¬ax.length<1:=by omega
  have c1m: ¬ax.length=0:=by omega
  have key:jr (Prog.mk ax ae ay)=if po ax=false then 5 else if nY ax.length ae.length ax=false then 6 else 0:=uR (p:=(Prog.mk ax ae ay)) hz hl d1 c1n c2n
  rw[key];clear key;simp[df,c2,c1m];refine cY (fun j S=>(S.f 1= .ptr 1 0 0/\S.h 1=some ⟨3,[KKQ ax ae ay],true⟩/\S.f 5= .int .i64 (NS ax.length ae.length (ax.take j))/\S.f 49=ax/\S.f 50=((ax).length:Int)/\S.f 51=(j:Int)/\S.n=1100)/\(po (ax.take j)=true)) (ax.length) (by omega) ?_ ?_ ?_
  ·rintro j S ⟨mj,uD,jq⟩ ⟨lB,r9⟩;cases hi:nh ax[j]
   ·have:=Gj jq hi;simp[lB,jq,hi,this]
   ·have hu:=Gi jq;have hn0:qp ax.length ae.length ax[j]=(!(jumps (ax[j]).op&&decide ((ax.length:Int)<=(ax[j]).eu))&& !(decide ((ax[j]).op=15)&&decide ((ae.length:Int)<=(ax[j]).eu))):=rfl;have lu:NS ax.length ae.length (ax.take (j+1))=if qp ax.length ae.length ax[j]=true then NS ax.length ae.length (ax.take j) else 6:=by
     unfold NS;rw[Gk jq];cases nY ax.length ae.length (ax.take j)<;>cases qp ax.length ae.length ax[j]<;>rfl
    rw[hn0]at lu;cases hj:jumps (ax[j]).op
    ·by_cases ho:(ax[j]).op=15
     ·have Lc:=eq_true ho;by_cases hm:(ae.length:Int)<=(ax[j]).eu
      ·simp[hj,Lc,hm]at lu;simp[lB,uD,jq,hi,hj,Lc,hm,hu,lu,r9]
      ·simp[hj,Lc,hm]at lu;simp[lB,uD,jq,hi,hj,Lc,hm,hu,lu,r9]
     ·rw[hj]at lu;simp[ho]at lu;simp[lB,uD,jq,hi,hj,ho,hu,lu,r9]
    ·have ho:=NQ hj;by_cases hm:(ax.length:Int)<=(ax[j]).eu
     ·rw[hj]at lu;simp[ho,hm]at lu;simp[lB,uD,jq,hi,hj,hm,hu,lu,r9]
     ·rw[hj]at lu;simp[ho,hm]at lu;simp[lB,uD,jq,hi,hj,ho,hm,hu,lu,r9]
  ·rintro S ⟨lB,r9⟩;simp[lB]<;>(
    rw[DN]at r9;unfold NS;cases nY ax.length ae.length ax<;>simp[r9])
  ·simp[df]<;>(
    exact⟨rfl,rfl⟩)
 ·simp<;>(
   exact⟨by omega,rfl⟩)
@[simp]def Yd(ax:List Instr)(ae:List Int)(ay:List (List Int))(h1:ae.length<=1000000000)(h2:ay.length<=1000000000)(h3:ax.length<=1000000000):bU X 144 [KKQ ax ae ay]=some (.int .i64 (jr (Prog.mk ax ae ay))):=by
 refine aaA ?_;simp[h1,h2,h3]
@[simp]def aw1(v:V)(vs:List V):Go.Abs.yf .bad (v::vs)=v:=rfl
@[simp]def JB(l vs:List V):Go.Abs.yf (.dP l) vs= .dP vs:=rfl
structure oB where
 l:List Int
 time:Int
structure eH (l:List Int) (k:Int):Prop where
 pos:0<=k
 len:(l.length:Int)<=4611686018427387904
def eX(l:List Int)(k n:Int):Int:=if k<l.length then nth l k.toNat % n else 0
def dK(l:List Int)(k:Int):Int:=if k<l.length then k+1 else k
@[simp]def fy{l:List Int}(h:eH l k):eH l (dK l k):=by
 refine⟨?_,h.len⟩;have:=h.pos;unfold dK;split<;>omega
def ez(l:List Int)(k:Int){n:Int}(h:1<=n):0<=eX l k n/\eX l k n<n:=by
 unfold eX;split
 ·exact⟨acD _ (by omega),abW _ (by omega)⟩
 ·omega
@[simp]def lM(bN:List Int)(aW n:Int)(hd:eH bN aW)(hn:1<=n/\n<=4611686018427387904):oz X ([]) 58 2 ((KKa bN aW:V)) [n]=some (2,(KKa (⟨bN,dK bN aW⟩:oB).l (⟨bN,dK bN aW⟩:oB).time:V),[.int .i64 (eX bN aW n)],.bad):=by
 refine aaD ?_;have h1:=hd.pos;have h2:=hd.len;by_cases h:aW<bN.length
 ·obtain⟨k,rfl⟩:=aaG h1;have hk:k<bN.length:=by omega
  have qT: ¬bN.length<=k:=by omega
  have hw:=mZ k (by omega);have H8:IntKind.i64.wrap ((k:Int)+1-1)=k:=by rw[wrap_i64 (by omega)];omega
  have hw3:IntKind.i64.wrap (k:Int)=k:=wrap_i64 (by omega);have e1:dK bN (k:Int)=(k:Int)+1:=by unfold dK;rw[if_pos h]
  have e2:eX bN (k:Int) n=bN[k] % n:=by unfold eX;rw[if_pos h];simp[dE hk]
  simp[hk,qT,hw,hw3,e1,e2,hn]
 ·have e1:dK bN aW=aW:=by unfold dK;rw[if_neg h]
  have e2:eX bN aW n=0:=by unfold eX;rw[if_neg h]
  have h':(bN.length:Int)<=aW:=by omega
  simp[h',e1,e2]
def uS(l:List Int)(k:Int):Int:=if eX l k 5<=2 then eX l (dK l k) 8 else if eX l k 5=3 then 65535-eX l (dK l k) 3 else eX l (dK l k) 65536
def BO(l:List Int)(k:Int):Int:=dK l (dK l k)
def adg(l:List Int)(k:Int):BO l k=dK l (dK l k):=rfl
@[simp]def BP{l:List Int}(h:eH l k):eH l (BO l k):=fy (fy h)
def wq(l:List Int)(k:Int):0<=uS l k/\uS l k<=65535:=by
 have h1:=ez l (dK l k) (n:=8) (by omega);have h2:=ez l (dK l k) (n:=3) (by omega);have h3:=ez l (dK l k) (n:=65536) (by omega);unfold uS;split
 ·omega
 ·split<;>omega
@[simp]def Wo(bN:List Int)(aW:Int)(hd:eH bN aW):oz X ([]) 172 2 ((KKa bN aW:V)) []=some (2,(KKa (⟨bN,BO bN aW⟩:oB).l (⟨bN,BO bN aW⟩:oB).time:V),[.int .u16 (uS bN aW)],.bad):=by
 refine aaD ?_;have h0:=ez bN aW (n:=5) (by omega);have h1:=ez bN (dK bN aW) (n:=8) (by omega);have h2:=ez bN (dK bN aW) (n:=3) (by omega);have h3:=ez bN (dK bN aW) (n:=65536) (by omega);have w1:IntKind.u16.wrap (eX bN (dK bN aW) 8)=eX bN (dK bN aW) 8:=wrap_u16 (by omega);have w2:IntKind.u16.wrap (65535-eX bN (dK bN aW) 3)=65535-eX bN (dK bN aW) 3:=wrap_u16 (by omega);have w2':IntKind.i64.wrap (65535-eX bN (dK bN aW) 3)=65535-eX bN (dK bN aW) 3:=wrap_i64 (by omega);have w3:IntKind.u16.wrap (eX bN (dK bN aW) 65536)=eX bN (dK bN aW) 65536:=wrap_u16 (by omega);have hc:eX bN aW 5=0\/eX bN aW 5=1\/eX bN aW 5=2\/eX bN aW 5=3\/eX bN aW 5=4:=by omega
 rcases hc with hc|hc|hc|hc|hc<;>simp[hd,hc,w1,w2,w2',w3,uS,adg]
def lE(l:List Int)(k:Int):Nat->List Int×Int
 |0=>([],k)
 |i+1=>((lE l k i).1++ [uS l (lE l k i).2],BO l (lE l k i).2)
def Ld(l:List Int)(k:Int):lE l k 0=([],k):=rfl
def AR(l:List Int)(k:Int)(i:Nat):lE l k (i+1)=((lE l k i).1++ [uS l (lE l k i).2],BO l (lE l k i).2):=rfl
@[simp]def Gl{l:List Int}(h:eH l k)(i:Nat):eH l (lE l k i).2:=by
 induction i with
 |zero=>exact h
 |succ i ih=>exact BP ih
def DP(l:List Int)(k:Int)(i:Nat):(lE l k i).1.length=i:=by
 induction i with
 |zero=>rfl
 |succ i ih=>rw[AR];simp[ih]
def ki(l:List Int)(k n:Int):List Int:=(lE l (dK l k) (eX l k (n+1)).toNat).1
def nZ(l:List Int)(k n:Int):Int:=(lE l (dK l k) (eX l k (n+1)).toNat).2
@[simp]def mD{l:List Int}{n:Int}(h:eH l k):eH l (nZ l k n):=Gl (fy h) _
@[simp]def TP(bN:List Int)(aW n:Int)(hd:eH bN aW)(hn:0<=n/\n<=1000):oz X ([]) 126 2 ((KKa bN aW:V)) [n]=some (2,(KKa (⟨bN,nZ bN aW n⟩:oB).l (⟨bN,nZ bN aW n⟩:oB).time:V),[.sl false ((ki bN aW n).map (V.int .u16))],.bad):=by
 refine aaD ?_;have w0:IntKind.i64.wrap (n+1)=n+1:=wrap_i64 (by omega);have h0:=ez bN aW (n:=n+1) (by omega);obtain⟨N,hN⟩: ∃N:Nat,eX bN aW (n+1)=N:=⟨(eX bN aW (n+1)).toNat,by omega⟩;have e1:ki bN aW n=(lE bN (dK bN aW) N).1:=by unfold ki;rw[hN];rfl
 have e2:nZ bN aW n=(lE bN (dK bN aW) N).2:=by unfold nZ;rw[hN];rfl
 have hd1:=fy hd;have Bz:1<=n+1/\n+1<=4611686018427387904:=by omega
 rw[e1,e2];simp[hd,w0,Bz,hN];refine cY (fun i S=>(S.f 0= .ptr 0 0 0/\S.h 0=some ⟨2,[KKa (⟨bN,(lE bN (dK bN aW) i).2⟩:oB).l (⟨bN,(lE bN (dK bN aW) i).2⟩:oB).time],true⟩/\S.f 5= .cx 5 0 ((((lE bN (dK bN aW) i).1).map (V.int .u16))).length/\S.h 5=some ⟨1,(((lE bN (dK bN aW) i).1).map (V.int .u16)),false⟩/\S.f 6= .int .i64 ((N:Int)-i)/\S.n=1100)/\True) (N) (by omega) ?_ ?_ ?_
 ·rintro i S ⟨oY,gS,bL⟩ ⟨df,fg⟩;have Ty:=Gl hd1 i;have w1:IntKind.i64.wrap ((N:Int)-i-1)=(N:Int)-(i+1:Nat):=by rw[wrap_i64 (by omega)];omega
  have c1:(0:Int)<(N:Int)-i:=by omega
  have hwl:=DP bN (dK bN aW) i;simp[df,bL,Ty,w1,AR];omega
 ·rintro S ⟨df,fg⟩;simp[df]
 ·simp<;>(
   simp[Ld])
structure BX (p:Prog):Prop where
 an:p.an.length<=1000000000
 data:p.data.length<=1000000000
 code:p.code.length<=1000000000
structure zO (m:aO):Prop where
 aD:m.layout.aD.length<=1000000000
 cells:m.memory.cells.length<=1000000000
 lines:m.memory.lines.length<=1000000000
 line: ∀i (h:i<m.memory.lines.length),(m.memory.lines[i]).cells.length<=1000000000
 threads:m.threads.length<=1000000000
 bp: ∀i (h:i<m.threads.length),(m.threads[i]).bp.length<=1000000000
def nj(l:List Thread):Bool:=l.all nX
def DS{l:List Thread}(h:i<l.length):nj (l.take (i+1))=(nj (l.take i)&&nX l[i]):=vt h
def N2{l:List Thread}(h:i<l.length)(hp:nX l[i]=false):nj l=false:=vr h hp
def BY{l:List Thread}:nj (l.take l.length)=nj l:=by rw[abC]
def jU(p:Prog)(m:aO):Bool:=decide (jr p=0)&& (iX m.layout.aD p.an&& (xg m.memory&& (decide (m.threads.length=4)&&nj m.threads)))
@[simp]def Ao(ax:List Instr)(ae:List Int)(ay:List (List Int))(aa:List Int)(aq:Int)(ak:List Cell)(ah:List cw)(au:List Thread)(hp:BX (Prog.mk ax ae ay))(hm:zO (aO.mk (Layout.mk aa aq) (aF.mk ak ah) au)):bU X 23 [KKQ ax ae ay,KKY aa aq ak ah au]=some (.bool (jU (Prog.mk ax ae ay) (aO.mk (Layout.mk aa aq) (aF.mk ak ah) au))):=by
 refine aaA ?_;have F3:ae.length<=1000000000:=hp.an;have CH:ay.length<=1000000000:=hp.data;have Ye:ax.length<=1000000000:=hp.code;have sV:aa.length<=1000000000:=hm.aD;have v8:ak.length<=1000000000:=hm.cells;have TK:ah.length<=1000000000:=hm.lines;have Pz: ∀i (h:i<ah.length),(ah[i]).cells.length<=1000000000:=hm.line;have hm5:au.length<=1000000000:=hm.threads;have hm6: ∀i (h:i<au.length),(au[i]).bp.length<=1000000000:=hm.bp;by_cases c1:jr (Prog.mk ax ae ay)=0
 case neg=>
  simp[F3,CH,Ye,c1,jU]
 cases c2:iX aa ae
 case false=>
  simp[F3,CH,Ye,sV,c1,c2,jU]
 cases c3:xg ⟨ak,ah⟩
 case false=>
  simp[F3,CH,Ye,sV,v8,TK,Pz,c1,c2,c3,jU]
 by_cases c4i:(au.length:Int)=4
 case neg=>
  have c4: ¬au.length=4:=by omega
  simp[F3,CH,Ye,sV,v8,TK,Pz,c1,c2,c3,c4i,c4,jU]
 have c4:au.length=4:=by omega
 have key:jU (Prog.mk ax ae ay) (aO.mk (Layout.mk aa aq) (aF.mk ak ah) au)=nj au:=by unfold jU;simp only[c1,c2,c3,c4];simp
 rw[key];clear key;simp[F3,CH,Ye,sV,v8,TK,Pz,c1,c2,c3,c4];refine cY (fun i S=>(S.f 31=au/\S.f 32=((au).length:Int)/\S.f 33=(i:Int)/\S.n=1100)/\(nj (au.take i)=true)) (au.length) (by omega) ?_ ?_ ?_
 ·rintro i S ⟨oY,gS,bL⟩ ⟨df,fg⟩;have g:=hm6 i bL;cases h:nX au[i]
  ·have:=N2 bL h;simp[df,bL,g,h,this]
  ·have:=DS bL;simp[df,gS,bL,g,h,this,fg]
 ·rintro S ⟨df,fg⟩;simp[df]<;>(
   rw[BY]at fg;simp[fg])
 ·simp<;>(
   exact⟨by omega,rfl⟩)
@[simp]def adm(iu:Int)(cN:List Cell)(jQ dS da dT jx jy:Int)(hm:cN.length<=1000000000):bU X 148 [KKg iu cN jQ dS da dT jx jy]=some (.bool (!nX (Thread.mk iu cN jQ dS da dT jx jy))):=by
 refine aaA ?_;simp[hm]
@[simp]def pq(iR:List Int)(jZ:Int)(iS:List Cell)(gE:List cw)(iD:List Thread)(jz:List Int)(kL:Int)(jA:List Cell)(jB:List cw)(kg:List Thread)(hm:zO (aO.mk (Layout.mk iR jZ) (aF.mk iS gE) iD)):bU X 25 [KKY iR jZ iS gE iD,KKY jz kL jA jB kg]=some (.bool (decide ((aO.mk (Layout.mk iR jZ) (aF.mk iS gE) iD)=(aO.mk (Layout.mk jz kL) (aF.mk jA jB) kg)))):=by
 refine aaA ?_;have sV:iR.length<=1000000000:=hm.aD;have v8:iS.length<=1000000000:=hm.cells;have TK:gE.length<=1000000000:=hm.lines;have Pz: ∀i (h:i<gE.length),(gE[i]).cells.length<=1000000000:=hm.line;have hm5:iD.length<=1000000000:=hm.threads;have hm6: ∀i (h:i<iD.length),(iD[i]).bp.length<=1000000000:=hm.bp;have key:(aO.mk ⟨iR,jZ⟩ ⟨iS,gE⟩ iD=aO.mk ⟨jz,kL⟩ ⟨jA,jB⟩ kg)↔
   (Layout.mk iR jZ=Layout.mk jz kL/\aF.mk iS gE=aF.mk jA jB/\iD=kg):=by simp[and_assoc]
 by_cases e1:Layout.mk iR jZ=Layout.mk jz kL
 case neg=>
  have k1: ¬(aO.mk ⟨iR,jZ⟩ ⟨iS,gE⟩ iD=aO.mk ⟨jz,kL⟩ ⟨jA,jB⟩ kg):=fun h=>e1 (key.1 h).1;have k2:=decide_eq_false k1;rw[k2];have e1':=decide_eq_false e1;simp[-Layout.mk.injEq,sV,e1]
 by_cases e2:aF.mk iS gE=aF.mk jA jB
 case neg=>
  have k1: ¬(aO.mk ⟨iR,jZ⟩ ⟨iS,gE⟩ iD=aO.mk ⟨jz,kL⟩ ⟨jA,jB⟩ kg):=fun h=>e2 (key.1 h).2.1;have k2:=decide_eq_false k1;rw[k2];simp[-Layout.mk.injEq, -aF.mk.injEq,sV,v8,TK,Pz,e1,e2]
 by_cases e3i:(iD.length:Int)=kg.length
 case neg=>
  have k1: ¬(aO.mk ⟨iR,jZ⟩ ⟨iS,gE⟩ iD=aO.mk ⟨jz,kL⟩ ⟨jA,jB⟩ kg):=fun h=>e3i (by rw[(key.1 h).2.2]);have k2:=decide_eq_false k1;rw[k2];simp[-Layout.mk.injEq, -aF.mk.injEq,sV,v8,TK,Pz,e1,e2,e3i]
 have e3:iD.length=kg.length:=by omega
 have k3:decide (aO.mk ⟨iR,jZ⟩ ⟨iS,gE⟩ iD=aO.mk ⟨jz,kL⟩ ⟨jA,jB⟩ kg)=decide (iD=kg):=by
  rw[decide_eq_decide,key];exact⟨fun h=>h.2.2,fun h=>⟨e1,e2,h⟩⟩
 rw[k3];clear key k3;simp[-Layout.mk.injEq, -aF.mk.injEq,sV,v8,TK,Pz,e1,e2,e3i];refine cY (fun i S=>(S.f 2= .ptr 2 0 0/\S.h 2=some ⟨5,[KKY iR jZ iS gE iD],true⟩/\S.f 3= .ptr 3 0 0/\S.h 3=some ⟨5,[KKY jz kL jA jB kg],true⟩/\S.f 31=((iD).length:Int)/\S.f 32=(i:Int)/\S.n=1100)/\(iD.take i=kg.take i)) (iD.length) (by omega) ?_ ?_ ?_
 ·rintro i S ⟨oY,gS,bL⟩ ⟨df,fg⟩;have g1:i<kg.length:=by omega
  have g2:=hm6 i bL;by_cases q:iD[i]=kg[i]
  ·have:=BJ bL g1 fg q;have g2b:=q▸g2;simp[df,gS,bL, -Thread.mk.injEq,g1,g2b,q,this]
  ·have: ¬iD=kg:=fun h=>q (by subst h;rfl);simp[df,bL, -Thread.mk.injEq,g1,g2,q,this]
 ·rintro S ⟨df,fg⟩;simp[df]<;>(
   exact yE (i:=iD.length) (by omega) e3 fg)
 ·simp<;>(
   first|rfl|omega|exact⟨by omega,rfl⟩)
def dh(call:Int):List UInt8:=
 if call=0\/call=8\/call=9\/call=11\/call=12 then [78] else if call=1\/call=2 then [72,80,78] else if call=3 then [78,78] else if call=4 then [72]
 else if call=5 then [72,78] else if call=10 then [78,88] else if call=13\/call=14 then [78,80,78] else []
def my(call:Int):Int:=if call<0\/15<call then-1 else if call=1\/call=13 then 1 else if call=2\/call=14 then 2 else 0
def uU(call:Int):Int:=if call<0\/15<call then-1 else((dh call).length:Int)
def mW(h:0<=c/\c<=15):c=0\/c=1\/c=2\/c=3\/c=4\/c=5\/c=6\/c=7\/c=8\/c=9\/c=10\/c=11\/c=12\/c=13\/c=14\/c=15:=by omega
@[simp]def ahp(call:Int)(hc:0<=call/\call<=15):bU X 247 [call]=some (.str (dh call)):=by
 refine aaA ?_;rcases mW hc with rfl|rfl|rfl|rfl|rfl|rfl|rfl|rfl|rfl|rfl|rfl|rfl|rfl|rfl|rfl|rfl<;>simp[dh]
@[simp]def TT(call:Int):bU X 196 [call]=some (.int .i64 (uU call)):=by
 refine aaA ?_;by_cases h:0<=call/\call<=15
 ·rcases mW h with rfl|rfl|rfl|rfl|rfl|rfl|rfl|rfl|rfl|rfl|rfl|rfl|rfl|rfl|rfl|rfl<;>simp[uU,dh]
 ·by_cases h1:call<0
  ·simp[h1,uU]
  ·have h2:15<call:=by omega
   simp[h1,h2,uU]
@[simp]def adn(call:Int):bU X 197 [call]=some (.int .i64 (my call)):=by
 refine aaA ?_;by_cases h:0<=call/\call<=15
 ·rcases mW h with rfl|rfl|rfl|rfl|rfl|rfl|rfl|rfl|rfl|rfl|rfl|rfl|rfl|rfl|rfl|rfl<;>simp[my]
 ·by_cases h1:call<0
  ·simp[h1,my]
  ·have h2:15<call:=by omega
   simp[h1,h2,my]
@[simp]def Yf(call:Int):bU X 266 [call]=some (.dP [.str (if call<0\/15<call then [] else dh call),.int .i64 (if call<0\/15<call then 0 else my call),.bool (decide (0<=call/\call<=15))]):=by
 refine aaA ?_;by_cases h:0<=call/\call<=15
 ·rcases mW h with rfl|rfl|rfl|rfl|rfl|rfl|rfl|rfl|rfl|rfl|rfl|rfl|rfl|rfl|rfl|rfl<;>simp[my,dh]
 ·have n0: ¬call=0:=by omega
  have n1: ¬call=1:=by omega
  have n2: ¬call=2:=by omega
  have n3: ¬call=3:=by omega
  have n4: ¬call=4:=by omega
  have n5: ¬call=5:=by omega
  have n6: ¬call=6:=by omega
  have n7: ¬call=7:=by omega
  have n8: ¬call=8:=by omega
  have n9: ¬call=9:=by omega
  have n10: ¬call=10:=by omega
  have n11: ¬call=11:=by omega
  have n12: ¬call=12:=by omega
  have n13: ¬call=13:=by omega
  have n14: ¬call=14:=by omega
  have n15: ¬call=15:=by omega
  have hf:call<0\/15<call:=by omega
  simp[n0,n1,n2,n3,n4,n5,n6,n7,n8,n9,n10,n11,n12,n13,n14,n15,hf,h]
@[simp]def PA(call:Int):bU X 228 [call]=some (.int .i64 (uU call)):=by
 refine aaA ?_;by_cases h:0<=call/\call<=15
 ·rcases mW h with rfl|rfl|rfl|rfl|rfl|rfl|rfl|rfl|rfl|rfl|rfl|rfl|rfl|rfl|rfl|rfl<;>simp[uU,dh]
 ·have hf:call<0\/15<call:=by omega
  simp[h,hf,uU]
@[simp]def Ww(call:Int):bU X 231 [call]=some (.int .i64 (my call)):=by
 refine aaA ?_;by_cases h:0<=call/\call<=15
 ·rcases mW h with rfl|rfl|rfl|rfl|rfl|rfl|rfl|rfl|rfl|rfl|rfl|rfl|rfl|rfl|rfl|rfl<;>simp[my,dh]
 ·have hf:call<0\/15<call:=by omega
  simp[h,hf,my]
def Ap(kind tag:Int):Bool:=if kind=78 then decide (tag=0) else if kind=72 then decide (tag=2) else if kind=80 then decide (tag=1) else true
def lN(x:Canon):Bool:=
 if x.tag=0\/x.tag=2 then decide (x.region=0)&&decide (x.offset=0)
 else if x.tag=1 then(if x.region= -1 then decide (x.val=0)&& (decide (0<=x.offset)&&decide (x.offset<=65535))
  else decide (x.val=0)&& (decide (0<=x.region)&& (decide (x.region<4)&& (decide (0<=x.offset)&&decide (x.offset<32))))) else false
def jd(l:List Canon):Bool:=l.all lN
def N3{l:List Canon}(h:i<l.length):jd (l.take (i+1))=(jd (l.take i)&&lN l[i]):=vt h
def ado{l:List Canon}(h:i<l.length)(hp:lN l[i]=false):jd l=false:=vr h hp
def JQ{l:List Canon}:jd (l.take l.length)=jd l:=by rw[abC]
@[simp]def aky(kind tag:Int):bU X 248 [.int .u8 kind,.int .u8 tag]=some (.bool (Ap kind tag)):=by
 refine aaA ?_;by_cases h1:kind=78
 ·simp[h1,Ap]
 by_cases h2:kind=72
 ·simp[h2,Ap]
 by_cases h3:kind=80
 ·simp[h3,Ap]
 ·simp[h1,h2,h3,Ap]
@[simp]def akz(lK uO jY lx:Int):bU X 242 [KKy lK uO jY lx]=some (.bool (lN (Canon.mk lK uO jY lx))):=by
 refine aaA ?_;by_cases t0:lK=0
 ·by_cases r:jY=0<;>simp[t0,r,lN]
 by_cases t2:lK=2
 ·by_cases r:jY=0<;>simp[t2,r,lN]
 by_cases t1:lK=1
 case neg=>simp[t0,t1,t2,lN]
 by_cases r:jY= -1
 ·by_cases v:uO=0
  ·by_cases o:0<=lx<;>simp[t1,r,v,o,lN]
  ·simp[t1,r,v,lN]
 ·by_cases v:uO=0
  ·by_cases o:0<=jY
   ·by_cases o1:jY<4
    ·by_cases o2:0<=lx<;>simp[t1,r,v,o,o1,o2,lN]
    ·simp[t1,r,v,o,o1,lN]
   ·simp[t1,r,v,o,lN]
  ·simp[t1,r,v,lN]
@[simp]def adp(ey dp kv lZ:Int):bU X 214 [KKy ey dp kv lZ]=some (.bool (lN (Canon.mk ey dp kv lZ))):=by
 refine aaA ?_;by_cases t0:ey=0
 ·by_cases r:kv=0<;>simp[t0,r,lN]
 by_cases t2:ey=2
 ·by_cases r:kv=0<;>simp[t2,r,lN]
 by_cases t1:ey=1
 case neg=>simp[t0,t1,t2,lN]
 by_cases v:dp=0
 case neg=>
  by_cases r:kv= -1
  ·by_cases o:0<=lZ<;>simp[t1,r,v,o,lN]
  ·simp[t1,r,v,lN]
 by_cases r:kv= -1
 ·by_cases o:0<=lZ
  ·by_cases o2:lZ<=65535
   ·simp[t1,r,v,o,o2,lN]
   ·simp[t1,r,v,o,o2,lN]
  ·simp[t1,r,v,o,lN]
 ·by_cases o:0<=kv
  ·by_cases o1:kv<4
   ·by_cases o2:0<=lZ<;>simp[t1,r,v,o,o1,o2,lN]
   ·simp[t1,r,v,o,o1,lN]
  ·simp[t1,r,v,o,lN]
@[simp]def ahq(l:List Canon)(n:Int)(hm:l.length<=1000000000):bU X 177 [l,n]=some (.bool (jd l&&decide ((l.length:Int)<=n))):=by
 refine aaA ?_;simp;refine cY (fun i S=>(S.f 0=l/\S.f 1= .int .i64 n/\S.f 7=l/\S.f 8=((l).length:Int)/\S.f 9=(i:Int)/\S.n=1100)/\(jd (l.take i)=true)) (l.length) (by omega) ?_ ?_ ?_
 ·rintro i S ⟨oY,gS,bL⟩ ⟨df,fg⟩;cases h:lN l[i]
  ·have:=ado bL h;simp[df,bL,h,this]
  ·have:=N3 bL;simp[df,gS,bL,h,this,fg]
 ·rintro S ⟨df,fg⟩;simp[df]<;>(
   rw[JQ]at fg;simp[fg])
 ·simp<;>(
   rfl)
@[simp]def TU(ey dp kv lZ:Int):bU X 258 [KKy ey dp kv lZ]=some (.bool (!lN (Canon.mk ey dp kv lZ))):=by
 refine aaA ?_;simp
def lk(r:Request):Bool:=decide (0<=r.dd)&& (decide (r.dd<4)&& (decide (0<=r.stop)&& (decide (r.stop<=3)&& (decide (0<=r.dr)&& (decide (r.dr<=6)&& (decide (0<=r.count)&& (decide (r.count<=1099511627776)
 && (decide (0<=r.pc)&& (decide (r.pc<=255)&& (decide (0<=r.call)&& (decide (r.call<=15)&& (jd r.args&& (decide (r.args.length<=3)&& (jd r.data&&decide (r.data.length<=16)))))))))))))))
@[simp]def ahr(di dn db cD gU cu:Int)(bf bT:List Canon)(h1:bf.length<=1000000000)(h2:bT.length<=1000000000):bU X 94 [KKZ di dn db cD gU cu bf bT]=some (.bool (lk (Request.mk di dn db cD gU cu bf bT))):=by
 refine aaA ?_;by_cases c1:0<=di
 case neg=>simp[c1,lk]
 by_cases c2:di<4
 case neg=>simp[c1,c2,lk]
 by_cases c3:0<=dn
 case neg=>simp[c1,c2,c3,lk]
 by_cases c4:dn<=3
 case neg=>simp[c1,c2,c3,c4,lk]
 by_cases c5:0<=db
 case neg=>simp[c1,c2,c3,c4,c5,lk]
 by_cases c6:db<=6
 case neg=>simp[c1,c2,c3,c4,c5,c6,lk]
 by_cases c7:0<=cD
 case neg=>simp[c1,c2,c3,c4,c5,c6,c7,lk]
 by_cases c8:cD<=1099511627776
 case neg=>simp[c1,c2,c3,c4,c5,c6,c7,c8,lk]
 by_cases c9:0<=gU
 case neg=>simp[c1,c2,c3,c4,c5,c6,c7,c8,c9,lk]
 by_cases CY:gU<=255
 case neg=>simp[c1,c2,c3,c4,c5,c6,c7,c8,c9,CY,lk]
 by_cases Lg:0<=cu
 case neg=>simp[c1,c2,c3,c4,c5,c6,c7,c8,c9,CY,Lg,lk]
 by_cases H9:cu<=15
 case neg=>simp[c1,c2,c3,c4,c5,c6,c7,c8,c9,CY,Lg,H9,lk]
 cases c13:jd bf
 case false=>simp[c1,c2,c3,c4,c5,c6,c7,c8,c9,CY,Lg,H9,c13,h1,lk]
 by_cases N4:(bf.length:Int)<=3
 case neg=>
  have c14: ¬bf.length<=3:=by omega
  simp[c1,c2,c3,c4,c5,c6,c7,c8,c9,CY,Lg,H9,c13,N4,c14,h1,lk]
 have c14:bf.length<=3:=by omega
 cases c15:jd bT
 case false=>simp[c1,c2,c3,c4,c5,c6,c7,c8,c9,CY,Lg,H9,c13,N4,c14,c15,h1,h2,lk]
 simp[c1,c2,c3,c4,c5,c6,c7,c8,c9,CY,Lg,H9,c13,N4,c14,c15,h1,h2,lk];try omega
@[simp]def ap1:bU X 133 []=some ((KKq ((⟨[-1, -1, -1, -1],[[],[],[],[]]⟩:bY)):V)):=by
 refine aaA ?_;simp[dI];all_goals (first|rfl|exact⟨rfl,rfl,rfl,rfl⟩)
@[simp]def R5(sI:List (List Int))(hm:sI.length<=1000000000)(hx: ∀i (h:i<sI.length),(sI[i]).length<=1000000000):bU X 204 [sI]=some sI:=by
 refine aaA ?_;simp;refine cY (fun i S=>(S.f 3= .cx 3 0 (((sI.take i).map aV)).length/\S.h 3=some ⟨1,((sI.take i).map aV),false⟩/\S.f 6=sI/\S.f 7=((sI).length:Int)/\S.f 8=(i:Int)/\S.n=1100)/\True) (sI.length) (by omega) ?_ ?_ ?_
 ·rintro i S ⟨oY,gS,bL⟩ ⟨df,fg⟩;have g:=hx i bL;have lS:min i sI.length=i:=by omega
  simp[df,gS,bL,lS];all_goals ((repeat' (first|apply And.intro|intro _))<;>first|omega|exact pY bL|rfl)
 ·rintro S ⟨df,fg⟩;simp[df]<;>(
   simp)
 ·simp<;>(
   simp)
@[simp]def ak0(l:List Output)(hm:l.length<=1000000000)(hx: ∀i (h:i<l.length),(l[i]).data.length<=1000000000):bU X 206 [l]=some l:=by
 refine aaA ?_;simp;refine cY (fun i S=>(S.f 3= .cx 3 0 (((l.take i).map Output.e)).length/\S.h 3=some ⟨3,((l.take i).map Output.e),false⟩/\S.f 6=l/\S.f 7=((l).length:Int)/\S.f 8=(i:Int)/\S.n=1100)/\True) (l.length) (by omega) ?_ ?_ ?_
 ·rintro i S ⟨oY,gS,bL⟩ ⟨df,fg⟩;have g:=hx i bL;have lS:min i l.length=i:=by omega
  simp[df,gS,bL,lS];all_goals ((repeat' (first|apply And.intro|intro _))<;>first|omega|exact pY bL|rfl)
 ·rintro S ⟨df,fg⟩;simp[df]<;>(
   simp)
 ·simp<;>(
   simp)
@[simp]def ak1(bn:List (List Canon))(bc:List fQ)(hl:bn.length<=4)(hx: ∀i (h:i<bn.length),(bn[i]).length<=1000000000)(ho:bc.length<=1000000000):bU X 205 [KKk bn bc]=some ((KKr ((bJ.mk bn bc)):V)):=by
 refine aaA ?_;have hc:bn.length=0\/bn.length=1\/bn.length=2\/bn.length=3\/bn.length=4:=by omega
 rcases hc with h|h|h|h|h
 ·obtain rfl:=atj h;simp[dI];all_goals ((repeat' (first|apply And.intro|intro _))<;>first|omega|rfl)
 ·obtain⟨a,rfl⟩:=RO h;have ha:=hx 0 (by simp);simp at ha;simp[dI];all_goals ((repeat' (first|apply And.intro|intro _))<;>first|omega|rfl)
 ·obtain⟨a,b,rfl⟩:=RP h;have ha:=hx 0 (by simp);have hb:=hx 1 (by simp);simp at ha hb;simp[dI];all_goals ((repeat' (first|apply And.intro|intro _))<;>first|omega|rfl)
 ·obtain⟨a,b,c,rfl⟩:=RQ h;have ha:=hx 0 (by simp);have hb:=hx 1 (by simp);have hc:=hx 2 (by simp);simp at ha hb hc;simp[dI];all_goals ((repeat' (first|apply And.intro|intro _))<;>first|omega|rfl)
 ·obtain⟨a,b,c,d,rfl⟩:=ID h;have ha:=hx 0 (by simp);have hb:=hx 1 (by simp);have hc:=hx 2 (by simp);have hd:=hx 3 (by simp);simp at ha hb hc hd;simp[dI];all_goals ((repeat' (first|apply And.intro|intro _))<;>first|omega|rfl)
structure jD (f:bJ):Prop where
 data:f.data.length<=4
 each: ∀i (h:i<f.data.length),jd f.data[i]=true/\(f.data[i]).length<=64
 opens:f.opens.length=8
 opn: ∀i (h:i<f.opens.length),((f.opens[i]).file= -1/\(f.opens[i]).offset=0/\(f.opens[i]).write=false)\/
  (∃k,∃g:k<f.data.length,(f.opens[i]).file=(k:Int)/\0<=(f.opens[i]).offset/\(f.opens[i]).offset<=(f.data[k]).length)
@[simp]def ahv(bn:List (List Canon))(bc:List fQ)(hf:jD (bJ.mk bn bc)):bU X 202 [KKk bn bc]=some (.bool true):=by
 refine aaA ?_;have h1:bn.length<=4:=hf.data;have h2:bc.length=8:=hf.opens;have h3:=hf.each;have h4:=hf.opn;simp only at h3 h4;have CQ: ¬4<(bn.length:Int):=by omega
 simp[CQ,h2];refine cY (fun i S=>(S.f 1= .ptr 1 0 0/\S.h 1=some ⟨2,[KKk bn bc],true⟩/\S.f 18=bn/\S.f 19=((bn).length:Int)/\S.f 20=(i:Int)/\S.n=1100)/\True) (bn.length) (by omega) ?_ ?_ ?_
 ·rintro i S ⟨oY,gS,bL⟩ ⟨df,fg⟩;obtain⟨g1,g2⟩:=h3 i bL;have g3:(bn[i]).length<=1000000000:=by omega
  have g4:((bn[i]).length:Int)<=64:=by omega
  simp[df,gS,bL,g1,g3,g4]
 ·rintro S ⟨df,fg⟩;simp[df,h2];refine cY (fun j S=>(S.f 1= .ptr 1 0 0/\S.h 1=some ⟨2,[KKk bn bc],true⟩/\S.f 29=bc/\S.f 30=((bc).length:Int)/\S.f 31=(j:Int)/\S.n=1100)/\True) (bc.length) (by omega) ?_ ?_ ?_
  ·rintro j S ⟨mj,uD,jq⟩ ⟨lB,r9⟩;have hj:=jq;rcases h4 j hj with⟨e1,e2,e3⟩|⟨k,hk,e1,e2,e3⟩
   ·have n0:(-1:Int)<bn.length:=by omega
    simp[lB,uD,jq,e1,e2,e3,n0]
   ·have n1: ¬(k:Int)= -1:=by omega
    have n2: ¬(k:Int)< -1:=by omega
    have n3: ¬(bn.length:Int)<=k:=by omega
    have n4: ¬(bc[j]).offset<0:=by omega
    have n5: ¬((bn[k]).length:Int)<(bc[j]).offset:=by omega
    simp[lB,uD,jq,hk,e1,n1,n2,n3,n4,n5]
  ·rintro S ⟨lB,r9⟩;simp[lB]
  ·simp[df]<;>(
    omega)
 ·simp<;>(
   trivial)
def BZ(v:Int):Canon:=⟨0,v,0,0⟩
def Wx(l:List Int):jd (l.map BZ)=true:=by
 simp[jd,BZ,lN]
def closed:fQ:=⟨-1,0,false⟩
def pN(data:List (List Int)):bJ:=⟨data.map (·.map BZ),List.replicate 8 closed⟩
def JS(h:data.length<=4)(hx: ∀i (h:i<data.length),(data[i]).length<=64):jD (pN data):=by
 refine⟨by simpa[pN] using h,fun i hi=> ?_,by simp[pN],fun i hi=> .inl ?_⟩
 ·simp[pN]at hi;simp only[pN,adD];exact⟨Wx _,by simpa using hx i hi⟩
 ·simp only[pN,List.getElem_replicate];exact⟨rfl,rfl,rfl⟩
def ug(l:List (List Int)):List (List Canon):=l.map fun d=>d.map BZ
def adq{l:List (List Int)}(h:i<l.length):ug (l.take (i+1))=ug (l.take i)++ [(l[i]).map BZ]:=by
 unfold ug;rw[fD h,abL];rfl
def Wy(l:List (List Int)):(ug l).length=l.length:=by simp[ug]
def ui(l:List Int):List Canon:=l.map BZ
def N5{l:List Int}(h:i<l.length):ui (l.take (i+1))=ui (l.take i)++ [BZ l[i]]:=by
 unfold ui;rw[fD h,abL];rfl
def JU(l:List Int):(ui l).length=l.length:=by simp[ui]
def vz:List fQ:=[closed,closed,closed,closed,closed,closed,closed,closed]
def CZ(i:Nat):List fQ:=List.replicate i closed++List.replicate (8-i) ⟨0,0,false⟩
@[simp]def ap2(data:List (List Int))(hm:data.length<=4)(hx: ∀i (h:i<data.length),(data[i]).length<=64):bU X 207 [data]=some (.dP [KKr (pN data),.int .i64 0]):=by
 refine aaA ?_;have ln:=JS hm hx;have eq:pN data=⟨ug data,vz⟩:=rfl;rw[eq]at ln;rw[eq];simp;refine cY (fun i S=>(S.f 0=data/\S.f 2= .ptr 2 0 0/\S.h 2=some ⟨2,[KKk ([]:List (List Canon)) ([]:List fQ)],true⟩/\S.f 4= .ptr 4 0 0/\S.h 1000=some ⟨1,(⟨[],CZ i⟩:bJ).data.map bz,false⟩/\S.h 1001=some ⟨3,(⟨[],CZ i⟩:bJ).opens.map fQ.e,false⟩/\S.h 4=some ⟨2,[.agg [.cx 1000 0 ((⟨[],CZ i⟩:bJ).data.map bz).length,.cx 1001 0 ((⟨[],CZ i⟩:bJ).opens.map fQ.e).length]],true⟩/\S.f 15= .int .i64 (8)/\S.f 16=(i:Int)/\S.n=1102)/\True) (8) (by omega) ?_ ?_ ?_
 ·rintro i S ⟨oY,gS,bL⟩ ⟨df,fg⟩;have:i=0\/i=1\/i=2\/i=3\/i=4\/i=5\/i=6\/i=7:=by omega
  rcases this with rfl|rfl|rfl|rfl|rfl|rfl|rfl|rfl<;>simp[df,bL,CZ,closed,fQ.bS]<;>rfl
 ·rintro S ⟨df,fg⟩;have e8:CZ 8=vz:=rfl;rw[e8]at df;simp[df];refine cY (fun j S=>(S.f 2= .ptr 2 0 0/\S.h 2=some ⟨2,[KKk ([]:List (List Canon)) ([]:List fQ)],true⟩/\S.f 4= .ptr 4 0 0/\S.h 1000=some ⟨1,(⟨ug (data.take j),vz⟩:bJ).data.map bz,false⟩/\S.h 1001=some ⟨3,(⟨ug (data.take j),vz⟩:bJ).opens.map fQ.e,false⟩/\S.h 4=some ⟨2,[.agg [.cx 1000 0 ((⟨ug (data.take j),vz⟩:bJ).data.map bz).length,.cx 1001 0 ((⟨ug (data.take j),vz⟩:bJ).opens.map fQ.e).length]],true⟩/\S.f 25=data/\S.f 26=((data).length:Int)/\S.f 27=(j:Int)/\S.n=1102)/\True) (data.length) (by omega) ?_ ?_ ?_
  ·rintro j S ⟨mj,uD,jq⟩ ⟨lB,r9⟩;have gx:=hx j jq;have gu:=adq jq;have gl:(ug (data.take j)).length=j:=by rw[Wy,abR];omega
   simp[lB,jq];refine cY (fun k S=>(S.f 2= .ptr 2 0 0/\S.h 2=some ⟨2,[KKk ([]:List (List Canon)) ([]:List fQ)],true⟩/\S.f 4= .ptr 4 0 0/\S.h 1000=some ⟨1,(⟨ug (data.take j),vz⟩:bJ).data.map bz,false⟩/\S.h 1001=some ⟨3,(⟨ug (data.take j),vz⟩:bJ).opens.map fQ.e,false⟩/\S.h 4=some ⟨2,[.agg [.cx 1000 0 ((⟨ug (data.take j),vz⟩:bJ).data.map bz).length,.cx 1001 0 ((⟨ug (data.take j),vz⟩:bJ).opens.map fQ.e).length]],true⟩/\S.f 8= .cx 8 0 (((ui ((data[j]).take k)).map Canon.e)).length/\S.h 8=some ⟨4,((ui ((data[j]).take k)).map Canon.e),false⟩/\S.f 25=data/\S.f 26=((data).length:Int)/\S.f 27=(j:Int)/\S.f 31= .sl false ((data[j]).map (V.int .u16))/\S.f 32= .int .i64 (((data[j]).length:Int))/\S.f 33=(k:Int)/\S.n=1102)/\True) ((data[j]).length) (by omega) ?_ ?_ ?_
   ·rintro k S ⟨Jc,ER,kK⟩ ⟨Am,Py⟩;have gv:=N5 kK;have gw:(ui ((data[j]).take k)).length=k:=by rw[JU,abR];omega
    simp[Am,ER,kK,gv,BZ];all_goals ((repeat' (first|apply And.intro|intro _))<;>first|omega|rfl)
   ·rintro S ⟨Am,Py⟩;simp[uD,jq,Am,gu];all_goals ((repeat' (first|apply And.intro|intro _))<;>first|omega|rfl)
   ·simp[lB]<;>(
     first|exact⟨rfl,rfl⟩|rfl)
  ·rintro S ⟨lB,r9⟩;simp[lB,ln]
  ·simp[df]<;>(
    first|exact⟨rfl,rfl⟩|rfl)
 ·simp<;>(
   first|exact⟨rfl,rfl⟩|rfl)
def tc(f:bJ)(h:Int):Bool:=decide (0<=h)&& (decide (h<f.opens.length)&&decide (¬(f.opens.getD h.toNat closed).file= -1))
@[simp]def ak2(bn:List (List Canon))(bc:List fQ)(h:Int):bU X 298 [KKk bn bc,.int .i64 h]=some (.bool (tc (bJ.mk bn bc) h)):=by
 refine aaA ?_;by_cases h1:0<=h
 case neg=>simp[h1,tc]
 obtain⟨k,rfl⟩:=aaG h1;by_cases h2:k<bc.length
 case neg=>
  have La: ¬(k:Int)<bc.length:=by omega
  simp[h2,La,tc]
 have La:(k:Int)<bc.length:=by omega
 by_cases h3:(bc[k]).file= -1
 ·simp[h2,La,h3,tc,List.getD]
 ·simp[h2,La,h3,tc,List.getD]
@[simp]def Yg(l:List Output)(hm:l.length<=1000000000)(ho: ∀i (h:i<l.length),(l[i]).seq=i/\0<=(l[i]).socket/\(l[i]).socket<2/\(l[i]).data.length<=16):bU X 203 [l]=some (.bool true):=by
 refine aaA ?_;simp;refine cY (fun i S=>(S.f 5=l/\S.f 6=((l).length:Int)/\S.f 7=(i:Int)/\S.n=1100)/\True) (l.length) (by omega) ?_ ?_ ?_
 ·rintro i S ⟨oY,gS,bL⟩ ⟨df,fg⟩;obtain⟨o1,o2,o3,o4⟩:=ho i bL;have n2: ¬(l[i]).socket<0:=by omega
  have n3: ¬2<=(l[i]).socket:=by omega
  have n4: ¬16<((l[i]).data.length:Int):=by omega
  simp[df,gS,bL,o1,n2,n3,n4]
 ·rintro S ⟨df,fg⟩;simp[df]
 ·simp<;>(
   trivial)
structure wy (o:cU):Prop where
 clock:o.clock.length<=64
 random:o.random.length<=64
 dw:o.dw.length<=2
 input: ∀i (h:i<o.dw.length),(o.dw[i]).length<=64
 files:jD o.files
 dH:o.dH.length<=200
 output: ∀i (h:i<o.dH.length),(o.dH[i]).seq=i/\0<=(o.dH[i]).socket/\(o.dH[i]).socket<2/\(o.dH[i]).data.length<=16/\jd (o.dH[i]).data=true
@[simp]def Aq(cJ cg:List Int)(bX:List (List Int))(bu:List (List Canon))(bm:List fQ)(bI:List Output)(ho:wy (cU.mk cJ cg bX (bJ.mk bu bm) bI)):bU X 130 [KKn cJ cg bX bu bm bI]=some (.bool true):=by
 refine aaA ?_;have h1:cJ.length<=64:=ho.clock;have h2:cg.length<=64:=ho.random;have h3:bX.length<=2:=ho.dw;have h4:=ho.input;have h5:=ho.files;have h6:bI.length<=200:=ho.dH;have h7:=ho.output;simp only at h4 h5 h7;have CQ:(cJ.length:Int)<=64:=by omega
 have La:(cg.length:Int)<=64:=by omega
 have h3i:(bX.length:Int)<=2:=by omega
 have h6i:(bI.length:Int)<=200:=by omega
 have h6m:bI.length<=1000000000:=by omega
 have h8: ∀i (h:i<bI.length),(bI[i]).seq=i/\0<=(bI[i]).socket/\(bI[i]).socket<2/\(bI[i]).data.length<=16:=fun i h=>⟨(h7 i h).1,(h7 i h).2.1,(h7 i h).2.2.1,(h7 i h).2.2.2.1⟩;simp;refine cY (fun i S=>(S.f 1= .ptr 1 0 0/\S.h 1=some ⟨6,[KKn cJ cg bX bu bm bI],true⟩/\S.f 8=bX/\S.f 9=((bX).length:Int)/\S.f 10=(i:Int)/\S.n=1100)/\True) (bX.length) (by omega) ?_ ?_ ?_
 ·rintro i S ⟨oY,gS,bL⟩ ⟨df,fg⟩;have g:=h4 i bL;have g2: ¬64<((bX[i]).length:Int):=by omega
  simp[df,gS,bL,g2]
 ·rintro S ⟨df,fg⟩;simp[df];refine cY (fun j S=>(S.f 1= .ptr 1 0 0/\S.h 1=some ⟨6,[KKn cJ cg bX bu bm bI],true⟩/\S.f 19=bI/\S.f 20=((bI).length:Int)/\S.f 21=(j:Int)/\S.n=1100)/\True) (bI.length) (by omega) ?_ ?_ ?_
  ·rintro j S ⟨mj,uD,jq⟩ ⟨lB,r9⟩;obtain⟨q1,q2,q3,q4,q5⟩:=h7 j jq;have q6:(bI[j]).data.length<=1000000000:=by omega
   have q7:((bI[j]).data.length:Int)<=16:=by omega
   simp[lB,uD,jq,q5,q6,q7]
  ·rintro S ⟨lB,r9⟩;simp[lB,CQ,La,h3i,h5,h6i,h6m,h8]
  ·simp[df]<;>(
    trivial)
 ·simp<;>(
   trivial)
@[simp]def ak3(cJ cg:List Int)(bX:List (List Int))(bu:List (List Canon))(bm:List fQ)(bI:List Output)(ho:wy (cU.mk cJ cg bX (bJ.mk bu bm) bI)):bU X 132 [KKn cJ cg bX bu bm bI]=some ((KKh ((cU.mk cJ cg bX (bJ.mk bu bm) bI)):V)):=by
 refine aaA ?_;have h1:cJ.length<=64:=ho.clock;have h2:cg.length<=64:=ho.random;have h3:bX.length<=2:=ho.dw;have h4:=ho.input;have h5:=ho.files;have h6:bI.length<=200:=ho.dH;have h7:=ho.output;simp only at h4 h5 h7;have f1:bu.length<=4:=h5.data;have f2:bm.length=8:=h5.opens;have f3:=h5.each;simp only at f3;have a1:bX.length<=1000000000:=by omega
 have a2: ∀i (h:i<bX.length),(bX[i]).length<=1000000000:=fun i h=>by have:=h4 i h;omega
 have a3: ∀i (h:i<bu.length),(bu[i]).length<=1000000000:=fun i h=>by have:=(f3 i h).2;omega
 have a4:bm.length<=1000000000:=by omega
 have a5:bI.length<=1000000000:=by omega
 have a6: ∀i (h:i<bI.length),(bI[i]).data.length<=1000000000:=fun i h=>by have:=(h7 i h).2.2.2.1;omega
 simp[a1,a2,a3,a4,a5,a6,f1];try omega
@[simp]def ahw(n:Int)(ok:Bool):bU X 254 [n,ok]=some ((KKl ((⟨⟨0,if ok=true then IntKind.u16.wrap n else 65535,0,0⟩,[], -1,false⟩:lO)):V)):=by
 refine aaA ?_;have hw:IntKind.u16.wrap 65535=65535:=by decide
 cases ok<;>simp[hw]
@[simp]def ak4(call:Int):bU X 278 [call]=some (.bool (decide ((1<=call/\call<=7)\/call=13\/call=14))):=by
 refine aaA ?_;by_cases h1:1<=call
 ·by_cases h2:call<=7
  ·simp[h1,h2]
  ·simp[h1,h2];by_cases h3:call=13<;>simp[h3]
 ·simp[h1];by_cases h3:call=13<;>simp[h3]
def B0(files dw:List (List Int))(clock random:List Int):cU:=⟨clock,random,dw,pN files,[]⟩
def TV   (h1:files.length<=4) (h2: ∀i (h:i<files.length),(files[i]).length<=64) (h3:dw.length<=2) (h4: ∀i (h:i<dw.length),(dw[i]).length<=64)
  (h5:clock.length<=64) (h6:random.length<=64):wy (B0 files dw clock random):=
 ⟨h5,h6,h3,h4,JS h1 h2,by simp[B0],fun i h=>by simp[B0]at h⟩
@[simp]def IE(files dw:List (List Int))(clock random:List Int)(h1:files.length<=4)(h2: ∀i (h:i<files.length),(files[i]).length<=64)(h3:dw.length<=2)(h4: ∀i (h:i<dw.length),(dw[i]).length<=64)(h5:clock.length<=64)(h6:random.length<=64):bU X 134 [files,dw,.sl false (clock.map (V.int .u16)),.sl false (random.map (V.int .u16))]=some (.dP [KKh (B0 files dw clock random),.int .i64 0]):=by
 refine aaA ?_;have ln:=TV h1 h2 h3 h4 h5 h6;have a1:dw.length<=1000000000:=by omega
 have a2: ∀i (h:i<dw.length),(dw[i]).length<=1000000000:=fun i h=>by have:=h4 i h;omega
 have eq:B0 files dw clock random=⟨clock,random,dw,⟨(pN files).data,(pN files).opens⟩,[]⟩:=rfl;rw[eq]at ln;rw[eq];have key:=Aq clock random dw (pN files).data (pN files).opens [] ln;simp only[abM]at key;simp[h1,h2,a1,a2,key];try omega
@[simp]def bp6(bn:List (List Canon))(bc:List fQ)(hl:bn.length<=4)(hx: ∀i (h:i<bn.length),(bn[i]).length<=1000000000)(ho:bc.length<=1000000000):ng X [(0,1,301)] 205 [KKk bn bc]=some ((KKk bn bc:V)):=by
 refine aaC ?_;have hc:bn.length=0\/bn.length=1\/bn.length=2\/bn.length=3\/bn.length=4:=by omega
 rcases hc with h|h|h|h|h
 ·obtain rfl:=atj h;simp[dI];all_goals ((repeat' (first|apply And.intro|intro _))<;>first|omega|rfl)
 ·obtain⟨a,rfl⟩:=RO h;have ha:=hx 0 (by simp);simp at ha;simp[dI];all_goals ((repeat' (first|apply And.intro|intro _))<;>first|omega|rfl)
 ·obtain⟨a,b,rfl⟩:=RP h;have ha:=hx 0 (by simp);have hb:=hx 1 (by simp);simp at ha hb;simp[dI];all_goals ((repeat' (first|apply And.intro|intro _))<;>first|omega|rfl)
 ·obtain⟨a,b,c,rfl⟩:=RQ h;have ha:=hx 0 (by simp);have hb:=hx 1 (by simp);have hc:=hx 2 (by simp);simp at ha hb hc;simp[dI];all_goals ((repeat' (first|apply And.intro|intro _))<;>first|omega|rfl)
 ·obtain⟨a,b,c,d,rfl⟩:=ID h;have ha:=hx 0 (by simp);have hb:=hx 1 (by simp);have hc:=hx 2 (by simp);have hd:=hx 3 (by simp);simp at ha hb hc hd;simp[dI];all_goals ((repeat' (first|apply And.intro|intro _))<;>first|omega|rfl)
@[simp]def bp7(bn:List (List Canon))(bc:List fQ)(hl:bn.length<=4)(hx: ∀i (h:i<bn.length),(bn[i]).length<=1000000000)(ho:bc.length<=1000000000):ng X [(0,0,57),(0,1,301)] 205 [KKk bn bc]=some ((KKk bn bc:V)):=by
 refine aaC ?_;have hc:bn.length=0\/bn.length=1\/bn.length=2\/bn.length=3\/bn.length=4:=by omega
 rcases hc with h|h|h|h|h
 ·obtain rfl:=atj h;simp[dI];all_goals ((repeat' (first|apply And.intro|intro _))<;>first|omega|rfl)
 ·obtain⟨a,rfl⟩:=RO h;have ha:=hx 0 (by simp);simp at ha;simp[dI];all_goals ((repeat' (first|apply And.intro|intro _))<;>first|omega|rfl)
 ·obtain⟨a,b,rfl⟩:=RP h;have ha:=hx 0 (by simp);have hb:=hx 1 (by simp);simp at ha hb;simp[dI];all_goals ((repeat' (first|apply And.intro|intro _))<;>first|omega|rfl)
 ·obtain⟨a,b,c,rfl⟩:=RQ h;have ha:=hx 0 (by simp);have hb:=hx 1 (by simp);have hc:=hx 2 (by simp);simp at ha hb hc;simp[dI];all_goals ((repeat' (first|apply And.intro|intro _))<;>first|omega|rfl)
 ·obtain⟨a,b,c,d,rfl⟩:=ID h;have ha:=hx 0 (by simp);have hb:=hx 1 (by simp);have hc:=hx 2 (by simp);have hd:=hx 3 (by simp);simp at ha hb hc hd;simp[dI];all_goals ((repeat' (first|apply And.intro|intro _))<;>first|omega|rfl)
def sd(f:bJ)(h:Int):bJ×Bool:=if tc f h=true then(⟨f.data,f.opens.set h.toNat closed⟩,true) else(f,false)
structure atu (f:bJ):Prop where
 data:f.data.length<=4
 each: ∀i (h:i<f.data.length),(f.data[i]).length<=1000000000
 opens:f.opens.length<=1000000000
def jD.lens(h:jD f):atu f:=⟨h.data,fun i g=>by have:=(h.each i g).2;omega,by have:=h.opens;omega⟩
def N6(ho:tc f h=true): ∃k:Nat,h=k/\ ∃g:k<f.opens.length,¬(f.opens[k]).file= -1:=by
 unfold tc at ho;simp only[aaF,decide_eq_true_eq]at ho;obtain⟨h1,h2,h3⟩:=ho;have hk:h.toNat<f.opens.length:=by omega
 refine⟨h.toNat,by omega,hk,?_⟩;simpa[List.getD,hk] using h3
@[simp]def ahx(bn:List (List Canon))(bc:List fQ)(h:Int)(hf:jD (bJ.mk bn bc)):bU X 283 [KKk bn bc,.int .i64 h]=some (.dP [KKr ((sd (bJ.mk bn bc) h).1),.bool ((sd (bJ.mk bn bc) h).2)]):=by
 refine aaA ?_;have hl:=hf.lens;have l1:bn.length<=4:=hl.data;have l2:=hl.each;have l3:bc.length<=1000000000:=hl.opens;simp only at l2;cases ho:tc (bJ.mk bn bc) h with
 |false=>
  have e:sd (bJ.mk bn bc) h=((bJ.mk bn bc),false):=by unfold sd;rw[if_neg (by simp[ho])]
  rw[e];simp[l1,l2,l3,ho]
 |true=>
  have e:sd (bJ.mk bn bc) h=(⟨bn,bc.set h.toNat closed⟩,true):=by unfold sd;rw[if_pos ho]
  rw[e];obtain⟨k,rfl,hk,_⟩:=N6 ho;simp only at hk;have hc:fQ.e closed= .agg [.int .i64 (-1),.int .i64 0,.bool false]:=rfl;simp[l1,l2,l3,ho,hk];rw[show(bc[k].e.put 0 (V.agg [.int .i64 (-1),.int .i64 0,.bool false]))=fQ.e closed from rfl,<-List.map_set (f:=fQ.e),aZ (by simp),wj,abO];try rfl
structure rn (p:Prog):Prop where
 an:oI p.an
 len:p.data.length=p.an.length
 data: ∀i (h:i<p.data.length) (h':i<p.an.length),((p.data[i]).length:Int)<=p.an[i]
 a0y:1<=p.code.length
 rp:p.code.length<=64
 ap3: ∀i (h:i<p.code.length),nh p.code[i]=true
 range: ∀i (h:i<p.code.length),qp p.code.length p.an.length p.code[i]=true
def N7(h:jr p=0):rn p:=by
 have h1:kJ p.an=true:=by
  rw[<-Bool.not_eq_false];intro e;unfold jr at h;rw[if_pos e]at h;cases h
 have h2:p.data.length=p.an.length:=by
  refine acO fun e=> ?_;unfold jr at h;rw[if_neg (by simp[h1]),if_pos e]at h;cases h
 have h3:mV p p.data.length=true:=by
  rw[<-Bool.not_eq_false];intro e;rw[yJ h1 h2 e]at h;cases h
 have h4: ¬p.code.length<1:=fun e=>by rw[xh h1 h2 h3 e]at h;cases h
 have h5: ¬64<p.code.length:=fun e=>by rw[yK h1 h2 h3 e]at h;cases h
 rw[uR h1 h2 h3 h4 h5]at h;have h6:po p.code=true:=by
  rw[<-Bool.not_eq_false];intro e;rw[if_pos e]at h;cases h
 rw[if_neg (by simp[h6])]at h;have h7:nY p.code.length p.an.length p.code=true:=by
  rw[<-Bool.not_eq_false];intro e;rw[if_pos e]at h;cases h
 refine⟨nF.1 h1,h2,fun i hi oy=> ?_,by omega,by omega,fun i hi=> ?_,fun i hi=> ?_⟩
 ·have:=List.all_eq_true.1 h3 i (List.mem_range.2 hi);rw[dE oy]at this;simpa[List.getD,hi] using this
 ·exact List.all_eq_true.1 h6 _ (aaL hi)
 ·exact List.all_eq_true.1 h7 _ (aaL hi)
def zP(h:rn p):jr p=0:=by
 have h3:mV p p.data.length=true:=by
  unfold mV;rw[aaP];intro i hi;have hi:=List.mem_range.1 hi;have oy:i<p.an.length:=by have:=h.len;omega
  rw[dE oy];simpa[List.getD,hi] using h.data i hi oy
 have h1:=h.a0y;have h2:=h.rp;rw[uR (nF.2 h.an) h.len h3 (by omega) (by omega),if_neg,if_neg]
 ·rw[acQ];unfold nY;rw[aaP];intro x hx;obtain⟨i,hi,rfl⟩:=abE hx;exact h.range i hi
 ·rw[acQ];unfold po;rw[aaP];intro x hx;obtain⟨i,hi,rfl⟩:=abE hx;exact h.ap3 i hi
def tF(cells:List Cell)(b:Nat)(d:List Int):Nat->List Cell
 |0=>cells
 |k+1=>(tF cells b d k).set (b+k) ⟨((tF cells b d k).getD (b+k) ⟨0,0⟩).tag,nth d k⟩
def WA(cells:List Cell)(b:Nat)(d:List Int):tF cells b d 0=cells:=rfl
def TX{cells:List Cell}{k:Nat}(h:k<d.length):tF cells b d (k+1)=(tF cells b d k).set (b+k) ⟨((tF cells b d k).getD (b+k) ⟨0,0⟩).tag,d[k]⟩:=by
 rw[tF,dE h]
def Gv(cells:List Cell)(b:Nat)(d:List Int)(k:Nat):(tF cells b d k).length=cells.length:=by
 induction k with
 |zero=>rfl
 |succ k ih=>rw[tF,aaN,ih]
def pO(p:Prog)(aD:List Int):Nat->List Cell
 |0=>List.replicate 512 ⟨0,0⟩
 |r+1=>tF (pO p aD r) (nth aD r).toNat (p.data.getD r []) (p.data.getD r []).length
def C0(p:Prog)(aD:List Int):pO p aD 0=List.replicate 512 ⟨0,0⟩:=rfl
def TY(p:Prog)(aD:List Int)(h:r<p.data.length):pO p aD (r+1)=tF (pO p aD r) (nth aD r).toNat p.data[r] (p.data[r]).length:=by
 rw[pO];simp[List.getD,h]
def Gw(p:Prog)(aD:List Int)(r:Nat):(pO p aD r).length=512:=by
 induction r with
 |zero=>simp[pO]
 |succ r ih=>rw[pO,Gv,ih]
def adr(x:Cell)(v:Int):(Cell.e x).put 1 (.int .u16 v)=Cell.e ⟨x.tag,v⟩:=rfl
@[simp]def ak5(ax:List Instr)(ae:List Int)(ay:List (List Int))(aw:List Int)(bK:Int)(hp:rn (Prog.mk ax ae ay))(hL:nW aw ae):bU X 70 [KKQ ax ae ay,KKc aw bK]=some (.dP [KKA ((⟨pO (Prog.mk ax ae ay) aw ay.length,cm⟩:aF)),.int .i64 0]):=by
 refine aaA ?_;have hz:=hp.an;simp only at hz;have z4:=hz.le;have hlen:ay.length=ae.length:=hp.len;have hb:aw.length=ae.length:=hL.len;have ln:=mO.2 hL;have b1:aw.length<=1000000000/\ae.length<=1000000000:=by omega
 have hle:(cm.map cw.e).length=4:=rfl;simp[ln,b1,hlen];refine cY (fun r S=>(S.f 2= .ptr 2 0 0/\S.h 2=some ⟨3,[KKQ ax ae ay],true⟩/\S.f 3= .ptr 3 0 0/\S.h 3=some ⟨2,[KKc aw bK],true⟩/\S.f 4= .ptr 4 0 0/\S.h 4=some ⟨2,[KKp ([]:List Cell) ([]:List cw)],true⟩/\S.f 6= .ptr 6 0 0/\S.h 1000=some ⟨2,(⟨pO (Prog.mk ax ae ay) aw r,cm⟩:aF).cells.map Cell.e,false⟩/\S.h 6=some ⟨2,[.agg [.cx 1000 0 ((⟨pO (Prog.mk ax ae ay) aw r,cm⟩:aF).cells.map Cell.e).length,.sl false ((⟨pO (Prog.mk ax ae ay) aw r,cm⟩:aF).lines.map cw.e)]],true⟩/\S.f 30=ay/\S.f 31=((ay).length:Int)/\S.f 32=(r:Int)/\S.n=1101)/\True) (ay.length) (by omega) ?_ ?_ ?_
 ·rintro r S ⟨hir,Qb,C1⟩ ⟨df,fg⟩;have r1:r<ae.length:=by omega
  have r2:r<aw.length:=by omega
  have hd:((ay[r]).length:Int)<=ae[r]:=hp.data r C1 r1;have EM: ¬ae[r]<((ay[r]).length:Int):=by omega
  have H7:=hL.base r r2 r1;have hzz:=hz.elem r r1;obtain⟨b,TZ⟩: ∃b:Nat,aw[r]=b:=⟨(aw[r]).toNat,by omega⟩;have lu:pO (Prog.mk ax ae ay) aw (r+1)=tF (pO (Prog.mk ax ae ay) aw r) b ay[r] (ay[r]).length:=by
   rw[TY _ _ C1,dE r2,TZ];rfl
  have H6:=Gw (Prog.mk ax ae ay) aw r;simp[df,C1,r1,EM];refine cY (fun k S=>(S.f 2= .ptr 2 0 0/\S.h 2=some ⟨3,[KKQ ax ae ay],true⟩/\S.f 3= .ptr 3 0 0/\S.h 3=some ⟨2,[KKc aw bK],true⟩/\S.f 4= .ptr 4 0 0/\S.h 4=some ⟨2,[KKp ([]:List Cell) ([]:List cw)],true⟩/\S.f 6= .ptr 6 0 0/\S.h 1000=some ⟨2,(⟨tF (pO (Prog.mk ax ae ay) aw r) b ay[r] k,cm⟩:aF).cells.map Cell.e,false⟩/\S.h 6=some ⟨2,[.agg [.cx 1000 0 ((⟨tF (pO (Prog.mk ax ae ay) aw r) b ay[r] k,cm⟩:aF).cells.map Cell.e).length,.sl false ((⟨tF (pO (Prog.mk ax ae ay) aw r) b ay[r] k,cm⟩:aF).lines.map cw.e)]],true⟩/\S.f 7= .int .i64 ((r:Int))/\S.f 30=ay/\S.f 31=((ay).length:Int)/\S.f 32=(r:Int)/\S.f 46= .sl false ((ay[r]).map (V.int .u16))/\S.f 47= .int .i64 (((ay[r]).length:Int))/\S.f 48=(k:Int)/\S.n=1101)/\True) ((ay[r]).length) (by omega) ?_ ?_ ?_
  ·rintro k S ⟨Jc,ER,kK⟩ ⟨lB,r9⟩;have EG:=Gv (pO (Prog.mk ax ae ay) aw r) b ay[r] k;rw[H6]at EG;have hu:=TX (cells:=pO (Prog.mk ax ae ay) aw r) (b:=b) kK;obtain⟨q,hq⟩: ∃q:Nat,b+k=q:=⟨_,rfl⟩;rw[hq]at hu;have gZ:q<512:=by omega
   have BW:(q:Int)<512:=by omega
   have hw:IntKind.i64.wrap ((b:Int)+k)=(q:Int):=by rw[wrap_i64 (by omega)];omega
   simp[lB,ER,kK,r2,TZ,EG,gZ,BW,hw,hu,adr,List.getD]
  ·rintro S ⟨lB,r9⟩;simp[C1,lB,lu,Qb]
  ·simp[df]<;>(
    exact⟨rfl,rfl⟩)
 ·rintro S ⟨df,fg⟩;simp[df]<;>(
   rw[hlen])
 ·simp<;>(
   simp[C0,hlen,Cell.bS])
def gF(p:Prog)(l:Layout):aO:=⟨l,⟨pO p l.aD p.data.length,cm⟩,[⟨1,List.replicate 8 ⟨0,0⟩,0,0, -1, -1,0,0⟩,⟨0,List.replicate 8 ⟨0,0⟩,0,0, -1, -1,0,0⟩,⟨0,List.replicate 8 ⟨0,0⟩,0,0, -1, -1,0,0⟩,⟨0,List.replicate 8 ⟨0,0⟩,0,0, -1, -1,0,0⟩]⟩
end Go.Proofs.YtdngefmliibcgaaGreat
