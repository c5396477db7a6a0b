/- Part of a proof: S5. -/
import Derived.Test.YtdngefmliibcgaaGreatM14
set_option linter.all false
set_option maxRecDepth 20000
set_option maxHeartbeats 20000000
namespace Go.Proofs.YtdngefmliibcgaaGreat
open Go Go.Abs Go.Abs.kX Qf
variable  {n i m b r:Nat}{p:Prog}{k op c h:Int}{l:List Instr}{data files dp:List (List Int)}{clock random d:List Int}{f:bJ}
def wrap_u16{n:Int}(h:0<=n/\n<=65535):IntKind.u16.wrap n=n:=by
 simp only[IntKind.wrap,IntKind.signed,IntKind.bits,acB];simp;omega
def m9(p:Prog)(k:Nat):Bool:=(List.range k).all fun r=>decide (((p.data.getD r []).length:Int)<=nth p.an r)
def Jq{k:Nat}(h:k<p.data.length)(h2:k<p.an.length):m9 p (k+1)=(m9 p k&&decide (((p.data[k]).length:Int)<=p.an[k])):=by
 unfold m9;rw[FU,dC h2];simp[List.getD,h]
def FX{k:Nat}(hn:k<n)(h:k<p.data.length)(h2:k<p.an.length)(hp: ¬((p.data[k]).length:Int)<=p.an[k]):m9 p n=false:=by
 unfold m9;refine CF hn ?_;rw[dC h2];simpa[List.getD,h] using hp
def pz(l:List Instr):Bool:=l.all nu
def FY(h:i<l.length):pz (l.take (i+1))=(pz (l.take i)&&nu l[i]):=vn h
def FZ(h:i<l.length)(hp:nu l[i]=false):pz l=false:=vk h hp
def Dy:pz (l.take l.length)=pz l:=by rw[abi]
def qq(n m:Nat)(i:Instr):Bool:= !(jumps i.op&&decide ((n:Int)<=i.ed))&& !(decide (i.op=15)&&decide ((m:Int)<=i.ed))
def oy(n m:Nat)(l:List Instr):Bool:=l.all (qq n m)
def F3(h:i<l.length):oy n m (l.take (i+1))=(oy n m (l.take i)&&qq n m l[i]):=vn h
def Rl(h:i<l.length)(hp:qq n m l[i]=false):oy n m l=false:=vk h hp
def Nk:oy n m (l.take l.length)=oy n m l:=by rw[abi]
def jq(p:Prog):Int:=
 if kF p.an=false then 1 else if p.data.length≠p.an.length then 1 else if m9 p p.data.length=false then 1
 else if p.code.length<1 then 3 else if 64<p.code.length then 3 else if pz p.code=false then 5
 else if oy p.code.length p.an.length p.code=false then 6 else 0
def yB(h1:kF p.an=true)(h2:p.data.length=p.an.length)(h3:m9 p p.data.length=false):jq p=1:=by
 unfold jq;rw[if_neg (by simp[h1]),if_neg (by simpa using h2),if_pos h3]
def wY(h1:kF p.an=true)(h2:p.data.length=p.an.length)(h3:m9 p p.data.length=true)(h4:p.code.length<1):jq p=3:=by
 unfold jq;rw[if_neg (by simp[h1]),if_neg (by simpa using h2),if_neg (by simp[h3]),if_pos h4]
def yC(h1:kF p.an=true)(h2:p.data.length=p.an.length)(h3:m9 p p.data.length=true)(h4:64<p.code.length):jq p=3:=by
 unfold jq;rw[if_neg (by simp[h1]),if_neg (by simpa using h2),if_neg (by simp[h3]),if_neg (by omega),if_pos h4]
def uP(h1:kF p.an=true)(h2:p.data.length=p.an.length)(h3:m9 p p.data.length=true)(h4: ¬p.code.length<1)(h5: ¬64<p.code.length):
  jq p=if pz p.code=false then 5 else if oy p.code.length p.an.length p.code=false then 6 else 0:=by
 unfold jq;rw[if_neg (by simp[h1]),if_neg (by simpa using h2),if_neg (by simp[h3]),if_neg h4,if_neg h5]
def Nl(h:jumps op=true): ¬op=15:=by unfold jumps at h;simp at h;omega
def cw:Thread:=⟨0,[],0,0,0,0,0,0⟩
def k8(l:List Thread)(k:Nat):List Int:=((List.range k).filter fun i=>decide ((l.getD i cw).state=1)).map fun(i:Nat)=>(i:Int)
def Nm{l:List Thread}(h:i<l.length)(hs:(l[i]).state=1):k8 l (i+1)=k8 l i++ [(i:Int)]:=by
 unfold k8;rw[acH,adK,abH];simp[List.getD,h,hs]
def Rm{l:List Thread}(h:i<l.length)(hs: ¬(l[i]).state=1):k8 l (i+1)=k8 l i:=by
 unfold k8;rw[acH,adK,abH];simp[List.getD,h,hs]
def Dz(l:List Thread)(k:Nat):(k8 l k).length<=k:=by
 unfold k8;rw[abF];exact abG (List.length_filter_le ..) (by simp)
def Nn(n m:Nat)(l:List Instr):Int:=if oy n m l=true then 0 else 6
@[simp]def agp(ax:List Instr)(ae:List Int)(ay:List (List Int))(h1:ae.length<=1000000000)(h2:ay.length<=1000000000)(h3:ax.length<=1000000000):bW X 57 [KKQ ax ae ay]=some (.int .i64 (jq (Prog.mk ax ae ay))):=by
 refine aaA ?_;by_cases hz:kF ae=true
 case neg=>simp[h1,hz,jq]
 by_cases hl:ay.length=ae.length
 case neg=>
  have sG:((ay.length:Int)=ae.length)=False:=eq_false (by omega);simp[h1,hz,hl,sG,jq]
 have hS:=nP.1 hz;simp[h1,hz,hl];refine cZ (fun i S=>(S.f 1= .ptr 1 0 0/\S.h 1=some ⟨3,[KKQ ax ae ay],true⟩/\S.f 23=ay/\S.f 24=((ay).length:Int)/\S.f 25=(i:Int)/\S.n=1100)/\(m9 (Prog.mk ax ae ay) i=true)) (ay.length) (by omega) ?_ ?_ ?_
 ·rintro i S ⟨pq,ie,bL⟩ ⟨df,fp⟩;have g1:i<ae.length:=by omega
  have gz:=hS.elem i g1;have g3:m9 (Prog.mk ax ae ay) (i+1)=(m9 (Prog.mk ax ae ay) i&&decide (((ay[i]).length:Int)<=ae[i])):=Jq bL g1;by_cases hc:((ay[i]).length:Int)<=ae[i]
  ·have Bq: ¬(ae[i]<((ay[i]).length:Int)):=by omega
   simp[df,ie,bL,g1,hc,Bq,g3,fp]
  ·have Bq:ae[i]<((ay[i]).length:Int):=by omega
   have bad:jq (Prog.mk ax ae ay)=1:=yB (p:=(Prog.mk ax ae ay)) hz hl (FX (p:=(Prog.mk ax ae ay)) bL bL g1 hc);simp[df,bL,g1,Bq,bad]
 ·rintro S ⟨df,fp⟩;have d1:m9 (Prog.mk ax ae ay) ay.length=true:=fp;by_cases c1:(ax.length:Int)<1
  ·have c1n:ax.length<1:=by omega
   have e:jq (Prog.mk ax ae ay)=3:=wY (p:=(Prog.mk ax ae ay)) hz hl d1 c1n;simp[df,c1,e]
  by_cases c2:64<(ax.length:Int)
  ·have c2n:64<ax.length:=by omega
   have c1n: ¬ax.length<1:=by omega
   have e:jq (Prog.mk ax ae ay)=3:=yC (p:=(Prog.mk ax ae ay)) hz hl d1 c2n;simp[df,c1,c2,e]
  have c2n: ¬64<ax.length:=by omega
  have c1n: ¬ax.length<1:=by omega
  have key:jq (Prog.mk ax ae ay)=if pz ax=false then 5 else if oy ax.length ae.length ax=false then 6 else 0:=uP (p:=(Prog.mk ax ae ay)) hz hl d1 c1n c2n
  rw[key];clear key;simp[df,c1,c2];refine cZ (fun j S=>(S.f 1= .ptr 1 0 0/\S.h 1=some ⟨3,[KKQ ax ae ay],true⟩/\S.f 50=ax/\S.f 51=((ax).length:Int)/\S.f 52=(j:Int)/\S.n=1100)/\(pz (ax.take j)=true)) (ax.length) (by omega) ?_ ?_ ?_
  ·rintro j S ⟨mz,vp,jP⟩ ⟨mA,sF⟩;cases hi:nu ax[j]
   ·have:=FZ jP hi;simp[mA,jP,hi,this]
   ·have:=FY jP;simp[mA,vp,jP,hi,this,sF]
  ·rintro S ⟨mA,sF⟩;rw[Dy]at sF;simp[mA,sF];refine cZ (fun k S=>(S.f 1= .ptr 1 0 0/\S.h 1=some ⟨3,[KKQ ax ae ay],true⟩/\S.f 61=ax/\S.f 62=((ax).length:Int)/\S.f 63=(k:Int)/\S.n=1100)/\(oy ax.length ae.length (ax.take k)=true)) (ax.length) (by omega) ?_ ?_ ?_
   ·rintro k S ⟨IN,Ey,kG⟩ ⟨Ah,O2⟩;have hn0:qq ax.length ae.length ax[k]=(!(jumps (ax[k]).op&&decide ((ax.length:Int)<=(ax[k]).ed))&& !(decide ((ax[k]).op=15)&&decide ((ae.length:Int)<=(ax[k]).ed))):=rfl;have ln:=F3 (n:=ax.length) (m:=ae.length) kG;have asn:=Rl (n:=ax.length) (m:=ae.length) kG;rw[hn0]at ln asn;cases hj:jumps (ax[k]).op
    ·by_cases ho:(ax[k]).op=15
     ·have KR:=eq_true ho;by_cases hm:(ae.length:Int)<=(ax[k]).ed
      ·have:=asn (by simp[hj,KR,hm]);simp[Ah,kG,hj,KR,hm,this]
      ·simp[Ah,Ey,kG,hj,KR,hm,ln,O2]
     ·simp[Ah,Ey,kG,hj,ho,ln,O2]
    ·have ho:=Nl hj;by_cases hm:(ax.length:Int)<=(ax[k]).ed
     ·have:=asn (by simp[hj,ho,hm]);simp[Ah,kG,hj,hm,this]
     ·simp[Ah,Ey,kG,hj,ho,hm,ln,O2]
   ·rintro S ⟨Ah,O2⟩;simp[Ah]<;>(
     rw[Nk]at O2;simp[O2])
   ·simp[mA]<;>(
     rfl)
  ·simp[df]<;>(
    rfl)
 ·simp[]<;>(
   exact⟨by omega,rfl⟩)
@[simp]def agq(ax:List Instr)(ae:List Int)(ay:List (List Int))(h1:ae.length<=1000000000)(h2:ay.length<=1000000000)(h3:ax.length<=1000000000):bW X 215 [KKQ ax ae ay]=some (.int .i64 (jq (Prog.mk ax ae ay))):=by
 refine aaA ?_;by_cases hz:kF ae=true
 case neg=>simp[h1,hz,jq]
 by_cases hl:ay.length=ae.length
 case neg=>
  have sG:((ay.length:Int)=ae.length)=False:=eq_false (by omega);simp[h1,hz,hl,sG,jq]
 have hS:=nP.1 hz;simp[h1,hz,hl];refine cZ (fun i S=>(S.f 1= .ptr 1 0 0/\S.h 1=some ⟨3,[KKQ ax ae ay],true⟩/\S.f 22=ay/\S.f 23=((ay).length:Int)/\S.f 24=(i:Int)/\S.n=1100)/\(m9 (Prog.mk ax ae ay) i=true)) (ay.length) (by omega) ?_ ?_ ?_
 ·rintro i S ⟨pq,ie,bL⟩ ⟨df,fp⟩;have g1:i<ae.length:=by omega
  have gz:=hS.elem i g1;have g3:m9 (Prog.mk ax ae ay) (i+1)=(m9 (Prog.mk ax ae ay) i&&decide (((ay[i]).length:Int)<=ae[i])):=Jq bL g1;by_cases hc:((ay[i]).length:Int)<=ae[i]
  ·have Bq: ¬(ae[i]<((ay[i]).length:Int)):=by omega
   simp[df,ie,bL,g1,hc,Bq,g3,fp]
  ·have Bq:ae[i]<((ay[i]).length:Int):=by omega
   have bad:jq (Prog.mk ax ae ay)=1:=yB (p:=(Prog.mk ax ae ay)) hz hl (FX (p:=(Prog.mk ax ae ay)) bL bL g1 hc);simp[df,bL,g1,Bq,bad]
 ·rintro S ⟨df,fp⟩;have d1:m9 (Prog.mk ax ae ay) ay.length=true:=fp;by_cases c1:(ax.length:Int)=0
  ·have c1n:ax.length<1:=by omega
   have c1m:ax.length=0:=by omega
   have e:jq (Prog.mk ax ae ay)=3:=wY (p:=(Prog.mk ax ae ay)) hz hl d1 c1n;simp[df,c1m,e]
  by_cases c2:64<(ax.length:Int)
  ·have c2n:64<ax.length:=by omega
   have c1n: ¬ax.length<1:=by omega
   have c1m: ¬ax.length=0:=by omega
   have e:jq (Prog.mk ax ae ay)=3:=yC (p:=(Prog.mk ax ae ay)) hz hl d1 c2n;simp[df,c2,c1m,e]
  have c2n: ¬64<ax.length:=by omega
  have c1n: ¬ax.length<1:=by omega
  have c1m: ¬ax.length=0:=by omega
  have key:jq (Prog.mk ax ae ay)=if pz ax=false then 5 else if oy ax.length ae.length ax=false then 6 else 0:=uP (p:=(Prog.mk ax ae ay)) hz hl d1 c1n c2n
  rw[key];clear key;simp[df,c2,c1m];refine cZ (fun j S=>(S.f 1= .ptr 1 0 0/\S.h 1=some ⟨3,[KKQ ax ae ay],true⟩/\S.f 5= .int .i64 (Nn ax.length ae.length (ax.take j))/\S.f 49=ax/\S.f 50=((ax).length:Int)/\S.f 51=(j:Int)/\S.n=1100)/\(pz (ax.take j)=true)) (ax.length) (by omega) ?_ ?_ ?_
  ·rintro j S ⟨mz,vp,jP⟩ ⟨mA,sF⟩;cases hi:nu ax[j]
   ·have:=FZ jP hi;simp[mA,jP,hi,this]
   ·have hu:=FY jP;have hn0:qq ax.length ae.length ax[j]=(!(jumps (ax[j]).op&&decide ((ax.length:Int)<=(ax[j]).ed))&& !(decide ((ax[j]).op=15)&&decide ((ae.length:Int)<=(ax[j]).ed))):=rfl;have ln:Nn ax.length ae.length (ax.take (j+1))=if qq ax.length ae.length ax[j]=true then Nn ax.length ae.length (ax.take j) else 6:=by
     unfold Nn;rw[F3 jP];cases oy ax.length ae.length (ax.take j)<;>cases qq ax.length ae.length ax[j]<;>rfl
    rw[hn0]at ln;cases hj:jumps (ax[j]).op
    ·by_cases ho:(ax[j]).op=15
     ·have KR:=eq_true ho;by_cases hm:(ae.length:Int)<=(ax[j]).ed
      ·simp[hj,KR,hm]at ln;simp[mA,vp,jP,hi,hj,KR,hm,hu,ln,sF]
      ·simp[hj,KR,hm]at ln;simp[mA,vp,jP,hi,hj,KR,hm,hu,ln,sF]
     ·rw[hj]at ln;simp[ho]at ln;simp[mA,vp,jP,hi,hj,ho,hu,ln,sF]
    ·have ho:=Nl hj;by_cases hm:(ax.length:Int)<=(ax[j]).ed
     ·rw[hj]at ln;simp[ho,hm]at ln;simp[mA,vp,jP,hi,hj,hm,hu,ln,sF]
     ·rw[hj]at ln;simp[ho,hm]at ln;simp[mA,vp,jP,hi,hj,ho,hm,hu,ln,sF]
  ·rintro S ⟨mA,sF⟩;simp[mA]<;>(
    rw[Dy]at sF;unfold Nn;cases oy ax.length ae.length ax<;>simp[sF])
  ·simp[df]<;>(
    exact⟨rfl,rfl⟩)
 ·simp[]<;>(
   exact⟨by omega,rfl⟩)
@[simp]def XF(ax:List Instr)(ae:List Int)(ay:List (List Int))(h1:ae.length<=1000000000)(h2:ay.length<=1000000000)(h3:ax.length<=1000000000):bW X 144 [KKQ ax ae ay]=some (.int .i64 (jq (Prog.mk ax ae ay))):=by
 refine aaA ?_;simp[h1,h2,h3]
@[simp]def zzA(v:V)(vs:List V):Go.Abs.z9 .bad (v::vs)=v:=rfl
@[simp]def Jh(l vs:List V):Go.Abs.z9 (.dM l) vs= .dM vs:=rfl
structure oH where
 l:List Int
 time:Int
structure eh (l:List Int) (k:Int):Prop where
 pos:0<=k
 len:(l.length:Int)<=4611686018427387904
def eZ(l:List Int)(k n:Int):Int:=if k<l.length then nth l k.toNat % n else 0
def dI(l:List Int)(k:Int):Int:=if k<l.length then k+1 else k
@[simp]def eJ{l:List Int}(h:eh l k):eh l (dI l k):=by
 refine⟨?_,h.len⟩;have:=h.pos;unfold dI;split<;>omega
def eX(l:List Int)(k:Int){n:Int}(h:1<=n):0<=eZ l k n/\eZ l k n<n:=by
 unfold eZ;split
 ·exact⟨acD _ (by omega),abW _ (by omega)⟩
 ·omega
@[simp]def lJ(bN:List Int)(aW n:Int)(hd:eh bN aW)(hn:1<=n/\n<=4611686018427387904):oF X ([]) 58 2 ((KKa bN aW:V)) [n]=some (2,(KKa (⟨bN,dI bN aW⟩:oH).l (⟨bN,dI bN aW⟩:oH).time:V),[.int .i64 (eZ bN aW n)],.bad):=by
 refine aaD ?_;have h1:=hd.pos;have h2:=hd.len;by_cases h:aW<bN.length
 ·obtain⟨k,rfl⟩:=aaG h1;have hk:k<bN.length:=by omega
  have qT: ¬bN.length<=k:=by omega
  have hw:=nd k (by omega);have Ht:IntKind.i64.wrap ((k:Int)+1-1)=k:=by rw[wrap_i64 (by omega)];omega
  have hw3:IntKind.i64.wrap (k:Int)=k:=wrap_i64 (by omega);have e1:dI bN (k:Int)=(k:Int)+1:=by unfold dI;rw[if_pos h]
  have e2:eZ bN (k:Int) n=bN[k] % n:=by unfold eZ;rw[if_pos h];simp[dC hk]
  simp[hk,qT,hw,hw3,e1,e2,hn]
 ·have e1:dI bN aW=aW:=by unfold dI;rw[if_neg h]
  have e2:eZ bN aW n=0:=by unfold eZ;rw[if_neg h]
  have h':(bN.length:Int)<=aW:=by omega
  simp[h',e1,e2]
def uQ(l:List Int)(k:Int):Int:=if eZ l k 5<=2 then eZ l (dI l k) 8 else if eZ l k 5=3 then 65535-eZ l (dI l k) 3 else eZ l (dI l k) 65536
def BI(l:List Int)(k:Int):Int:=dI l (dI l k)
def aca(l:List Int)(k:Int):BI l k=dI l (dI l k):=rfl
@[simp]def BJ{l:List Int}(h:eh l k):eh l (BI l k):=eJ (eJ h)
def wh(l:List Int)(k:Int):0<=uQ l k/\uQ l k<=65535:=by
 have h1:=eX l (dI l k) (n:=8) (by omega);have h2:=eX l (dI l k) (n:=3) (by omega);have h3:=eX l (dI l k) (n:=65536) (by omega);unfold uQ;split
 ·omega
 ·split<;>omega
@[simp]def VX(bN:List Int)(aW:Int)(hd:eh bN aW):oF X ([]) 172 2 ((KKa bN aW:V)) []=some (2,(KKa (⟨bN,BI bN aW⟩:oH).l (⟨bN,BI bN aW⟩:oH).time:V),[.int .u16 (uQ bN aW)],.bad):=by
 refine aaD ?_;have h0:=eX bN aW (n:=5) (by omega);have h1:=eX bN (dI bN aW) (n:=8) (by omega);have h2:=eX bN (dI bN aW) (n:=3) (by omega);have h3:=eX bN (dI bN aW) (n:=65536) (by omega);have w1:IntKind.u16.wrap (eZ bN (dI bN aW) 8)=eZ bN (dI bN aW) 8:=wrap_u16 (by omega);have w2:IntKind.u16.wrap (65535-eZ bN (dI bN aW) 3)=65535-eZ bN (dI bN aW) 3:=wrap_u16 (by omega);have w2':IntKind.i64.wrap (65535-eZ bN (dI bN aW) 3)=65535-eZ bN (dI bN aW) 3:=wrap_i64 (by omega);have w3:IntKind.u16.wrap (eZ bN (dI bN aW) 65536)=eZ bN (dI bN aW) 65536:=wrap_u16 (by omega);have hc:eZ bN aW 5=0\/eZ bN aW 5=1\/eZ bN aW 5=2\/eZ bN aW 5=3\/eZ bN aW 5=4:=by omega
 rcases hc with hc|hc|hc|hc|hc<;>simp[hd,hc,w1,w2,w2',w3,uQ,aca]
def lB(l:List Int)(k:Int):Nat->List Int×Int
 |0=>([],k)
 |i+1=>((lB l k i).1++ [uQ l (lB l k i).2],BI l (lB l k i).2)
def KS(l:List Int)(k:Int):lB l k 0=([],k):=rfl
def AM(l:List Int)(k:Int)(i:Nat):lB l k (i+1)=((lB l k i).1++ [uQ l (lB l k i).2],BI l (lB l k i).2):=rfl
@[simp]def F4{l:List Int}(h:eh l k)(i:Nat):eh l (lB l k i).2:=by
 induction i with
 |zero=>exact h
 |succ i ih=>exact BJ ih
def DA(l:List Int)(k:Int)(i:Nat):(lB l k i).1.length=i:=by
 induction i with
 |zero=>rfl
 |succ i ih=>rw[AM];simp[ih]
def kf(l:List Int)(k n:Int):List Int:=(lB l (dI l k) (eZ l k (n+1)).toNat).1
def oz(l:List Int)(k n:Int):Int:=(lB l (dI l k) (eZ l k (n+1)).toNat).2
@[simp]def mI{l:List Int}{n:Int}(h:eh l k):eh l (oz l k n):=F4 (eJ h) _
@[simp]def Tj(bN:List Int)(aW n:Int)(hd:eh bN aW)(hn:0<=n/\n<=1000):oF X ([]) 126 2 ((KKa bN aW:V)) [n]=some (2,(KKa (⟨bN,oz bN aW n⟩:oH).l (⟨bN,oz bN aW n⟩:oH).time:V),[.sl false ((kf bN aW n).map (V.int .u16))],.bad):=by
 refine aaD ?_;have w0:IntKind.i64.wrap (n+1)=n+1:=wrap_i64 (by omega);have h0:=eX bN aW (n:=n+1) (by omega);obtain⟨N,hN⟩: ∃N:Nat,eZ bN aW (n+1)=N:=⟨(eZ bN aW (n+1)).toNat,by omega⟩;have e1:kf bN aW n=(lB bN (dI bN aW) N).1:=by unfold kf;rw[hN];rfl
 have e2:oz bN aW n=(lB bN (dI bN aW) N).2:=by unfold oz;rw[hN];rfl
 have hd1:=eJ hd;have Bt:1<=n+1/\n+1<=4611686018427387904:=by omega
 rw[e1,e2];simp[hd,w0,Bt,hN];refine cZ (fun i S=>(S.f 0= .ptr 0 0 0/\S.h 0=some ⟨2,[KKa (⟨bN,(lB bN (dI bN aW) i).2⟩:oH).l (⟨bN,(lB bN (dI bN aW) i).2⟩:oH).time],true⟩/\S.f 5= .cu 5 0 ((((lB bN (dI bN aW) i).1).map (V.int .u16))).length/\S.h 5=some ⟨1,(((lB bN (dI bN aW) i).1).map (V.int .u16)),false⟩/\S.f 6= .int .i64 ((N:Int)-i)/\S.n=1100)/\True) (N) (by omega) ?_ ?_ ?_
 ·rintro i S ⟨pq,ie,bL⟩ ⟨df,fp⟩;have SY:=F4 hd1 i;have w1:IntKind.i64.wrap ((N:Int)-i-1)=(N:Int)-(i+1:Nat):=by rw[wrap_i64 (by omega)];omega
  have c1:(0:Int)<(N:Int)-i:=by omega
  have hwl:=DA bN (dI bN aW) i;simp[df,bL,SY,w1,AM];omega
 ·rintro S ⟨df,fp⟩;simp[df]
 ·simp[]<;>(
   simp[KS])
structure BR (p:Prog):Prop where
 an:p.an.length<=1000000000
 data:p.data.length<=1000000000
 code:p.code.length<=1000000000
structure zG (m:aO):Prop where
 aD:m.layout.aD.length<=1000000000
 cells:m.memory.cells.length<=1000000000
 lines:m.memory.lines.length<=1000000000
 line: ∀i (h:i<m.memory.lines.length),(m.memory.lines[i]).cells.length<=1000000000
 threads:m.threads.length<=1000000000
 bz: ∀i (h:i<m.threads.length),(m.threads[i]).bz.length<=1000000000
def nv(l:List Thread):Bool:=l.all ox
def DD{l:List Thread}(h:i<l.length):nv (l.take (i+1))=(nv (l.take i)&&ox l[i]):=vn h
def Nx{l:List Thread}(h:i<l.length)(hp:ox l[i]=false):nv l=false:=vk h hp
def BS{l:List Thread}:nv (l.take l.length)=nv l:=by rw[abi]
def jU(p:Prog)(m:aO):Bool:=decide (jq p=0)&& (iX m.layout.aD p.an&& (wX m.memory&& (decide (m.threads.length=4)&&nv m.threads)))
@[simp]def agr(ax:List Instr)(ae:List Int)(ay:List (List Int))(aa:List Int)(aq:Int)(ak:List Cell)(ah:List cy)(au:List Thread)(hp:BR (Prog.mk ax ae ay))(hm:zG (aO.mk (Layout.mk aa aq) (aF.mk ak ah) au)):bW X 23 [KKQ ax ae ay,KKY aa aq ak ah au]=some (.bool (jU (Prog.mk ax ae ay) (aO.mk (Layout.mk aa aq) (aF.mk ak ah) au))):=by
 refine aaA ?_;have FJ:ae.length<=1000000000:=hp.an;have Dr:ay.length<=1000000000:=hp.data;have XG:ax.length<=1000000000:=hp.code;have sT:aa.length<=1000000000:=hm.aD;have vW:ak.length<=1000000000:=hm.cells;have Td:ah.length<=1000000000:=hm.lines;have O3: ∀i (h:i<ah.length),(ah[i]).cells.length<=1000000000:=hm.line;have hm5:au.length<=1000000000:=hm.threads;have hm6: ∀i (h:i<au.length),(au[i]).bz.length<=1000000000:=hm.bz;by_cases c1:jq (Prog.mk ax ae ay)=0
 case neg=>
  simp[FJ,Dr,XG,c1,jU]
 cases c2:iX aa ae
 case false=>
  simp[FJ,Dr,XG,sT,c1,c2,jU]
 cases c3:wX ⟨ak,ah⟩
 case false=>
  simp[FJ,Dr,XG,sT,vW,Td,O3,c1,c2,c3,jU]
 by_cases c4i:(au.length:Int)=4
 case neg=>
  have c4: ¬au.length=4:=by omega
  simp[FJ,Dr,XG,sT,vW,Td,O3,c1,c2,c3,c4i,c4,jU]
 have c4:au.length=4:=by omega
 have key:jU (Prog.mk ax ae ay) (aO.mk (Layout.mk aa aq) (aF.mk ak ah) au)=nv au:=by unfold jU;simp only[c1,c2,c3,c4];simp
 rw[key];clear key;simp[FJ,Dr,XG,sT,vW,Td,O3,c1,c2,c3,c4];refine cZ (fun i S=>(S.f 31=au/\S.f 32=((au).length:Int)/\S.f 33=(i:Int)/\S.n=1100)/\(nv (au.take i)=true)) (au.length) (by omega) ?_ ?_ ?_
 ·rintro i S ⟨pq,ie,bL⟩ ⟨df,fp⟩;have g:=hm6 i bL;cases h:ox au[i]
  ·have:=Nx bL h;simp[df,bL,g,h,this]
  ·have:=DD bL;simp[df,ie,bL,g,h,this,fp]
 ·rintro S ⟨df,fp⟩;simp[df]<;>(
   rw[BS]at fp;simp[fp])
 ·simp[]<;>(
   exact⟨by omega,rfl⟩)
@[simp]def ach(iu:Int)(cN:List Cell)(jQ dQ cX dS jw jx:Int)(hm:cN.length<=1000000000):bW X 148 [KKg iu cN jQ dQ cX dS jw jx]=some (.bool (!ox (Thread.mk iu cN jQ dQ cX dS jw jx))):=by
 refine aaA ?_;simp[hm]
@[simp]def BT(iQ:List Int)(jX:Int)(iR:List Cell)(gE:List cy)(iA:List Thread)(jy:List Int)(kH:Int)(jz:List Cell)(jA:List cy)(ke:List Thread)(hm:zG (aO.mk (Layout.mk iQ jX) (aF.mk iR gE) iA)):bW X 25 [KKY iQ jX iR gE iA,KKY jy kH jz jA ke]=some (.bool (decide ((aO.mk (Layout.mk iQ jX) (aF.mk iR gE) iA)=(aO.mk (Layout.mk jy kH) (aF.mk jz jA) ke)))):=by
 refine aaA ?_;have sT:iQ.length<=1000000000:=hm.aD;have vW:iR.length<=1000000000:=hm.cells;have Td:gE.length<=1000000000:=hm.lines;have O3: ∀i (h:i<gE.length),(gE[i]).cells.length<=1000000000:=hm.line;have hm5:iA.length<=1000000000:=hm.threads;have hm6: ∀i (h:i<iA.length),(iA[i]).bz.length<=1000000000:=hm.bz;have key:(aO.mk ⟨iQ,jX⟩ ⟨iR,gE⟩ iA=aO.mk ⟨jy,kH⟩ ⟨jz,jA⟩ ke)↔
   (Layout.mk iQ jX=Layout.mk jy kH/\aF.mk iR gE=aF.mk jz jA/\iA=ke):=by simp[and_assoc]
 by_cases e1:Layout.mk iQ jX=Layout.mk jy kH
 case neg=>
  have k1: ¬(aO.mk ⟨iQ,jX⟩ ⟨iR,gE⟩ iA=aO.mk ⟨jy,kH⟩ ⟨jz,jA⟩ ke):=fun h=>e1 (key.1 h).1;have k2:=decide_eq_false k1;rw[k2];have e1':=decide_eq_false e1;simp[-Layout.mk.injEq,sT,e1]
 by_cases e2:aF.mk iR gE=aF.mk jz jA
 case neg=>
  have k1: ¬(aO.mk ⟨iQ,jX⟩ ⟨iR,gE⟩ iA=aO.mk ⟨jy,kH⟩ ⟨jz,jA⟩ ke):=fun h=>e2 (key.1 h).2.1;have k2:=decide_eq_false k1;rw[k2];simp[-Layout.mk.injEq, -aF.mk.injEq,sT,vW,Td,O3,e1,e2]
 by_cases e3i:(iA.length:Int)=ke.length
 case neg=>
  have k1: ¬(aO.mk ⟨iQ,jX⟩ ⟨iR,gE⟩ iA=aO.mk ⟨jy,kH⟩ ⟨jz,jA⟩ ke):=fun h=>e3i (by rw[(key.1 h).2.2]);have k2:=decide_eq_false k1;rw[k2];simp[-Layout.mk.injEq, -aF.mk.injEq,sT,vW,Td,O3,e1,e2,e3i]
 have e3:iA.length=ke.length:=by omega
 have k3:decide (aO.mk ⟨iQ,jX⟩ ⟨iR,gE⟩ iA=aO.mk ⟨jy,kH⟩ ⟨jz,jA⟩ ke)=decide (iA=ke):=by
  rw[decide_eq_decide,key];exact⟨fun h=>h.2.2,fun h=>⟨e1,e2,h⟩⟩
 rw[k3];clear key k3;simp[-Layout.mk.injEq, -aF.mk.injEq,sT,vW,Td,O3,e1,e2,e3i];refine cZ (fun i S=>(S.f 2= .ptr 2 0 0/\S.h 2=some ⟨5,[KKY iQ jX iR gE iA],true⟩/\S.f 3= .ptr 3 0 0/\S.h 3=some ⟨5,[KKY jy kH jz jA ke],true⟩/\S.f 31=((iA).length:Int)/\S.f 32=(i:Int)/\S.n=1100)/\(iA.take i=ke.take i)) (iA.length) (by omega) ?_ ?_ ?_
 ·rintro i S ⟨pq,ie,bL⟩ ⟨df,fp⟩;have g1:i<ke.length:=by omega
  have g2:=hm6 i bL;by_cases q:iA[i]=ke[i]
  ·have:=BD bL g1 fp q;have g2b:=q▸g2;simp[df,ie,bL, -Thread.mk.injEq,g1,g2b,q,this]
  ·have: ¬iA=ke:=fun h=>q (by subst h;rfl);simp[df,bL, -Thread.mk.injEq,g1,g2,q,this]
 ·rintro S ⟨df,fp⟩;simp[df]<;>(
   exact yw (i:=iA.length) (by omega) e3 fp)
 ·simp[]<;>(
   first|rfl|omega|exact⟨by omega,rfl⟩)
def de(call:Int):List UInt8:=
 if call=0\/call=8\/call=9\/call=11\/call=12 then [78] else if call=1\/call=2 then [72,80,78] else if call=3 then [78,78] else if call=4 then [72]
 else if call=5 then [72,78] else if call=10 then [78,88] else if call=13\/call=14 then [78,80,78] else []
def mC(call:Int):Int:=if call<0\/15<call then-1 else if call=1\/call=13 then 1 else if call=2\/call=14 then 2 else 0
def uS(call:Int):Int:=if call<0\/15<call then-1 else((de call).length:Int)
def na(h:0<=c/\c<=15):c=0\/c=1\/c=2\/c=3\/c=4\/c=5\/c=6\/c=7\/c=8\/c=9\/c=10\/c=11\/c=12\/c=13\/c=14\/c=15:=by omega
@[simp]def ags(call:Int)(hc:0<=call/\call<=15):bW X 247 [call]=some (.str (de call)):=by
 refine aaA ?_;rcases na hc with rfl|rfl|rfl|rfl|rfl|rfl|rfl|rfl|rfl|rfl|rfl|rfl|rfl|rfl|rfl|rfl<;>simp[de]
@[simp]def Tm(call:Int):bW X 196 [call]=some (.int .i64 (uS call)):=by
 refine aaA ?_;by_cases h:0<=call/\call<=15
 ·rcases na h with rfl|rfl|rfl|rfl|rfl|rfl|rfl|rfl|rfl|rfl|rfl|rfl|rfl|rfl|rfl|rfl<;>simp[uS,de]
 ·by_cases h1:call<0
  ·simp[h1,uS]
  ·have h2:15<call:=by omega
   simp[h1,h2,uS]
@[simp]def aci(call:Int):bW X 197 [call]=some (.int .i64 (mC call)):=by
 refine aaA ?_;by_cases h:0<=call/\call<=15
 ·rcases na h with rfl|rfl|rfl|rfl|rfl|rfl|rfl|rfl|rfl|rfl|rfl|rfl|rfl|rfl|rfl|rfl<;>simp[mC]
 ·by_cases h1:call<0
  ·simp[h1,mC]
  ·have h2:15<call:=by omega
   simp[h1,h2,mC]
@[simp]def XH(call:Int):bW X 266 [call]=some (.dM [.str (if call<0\/15<call then [] else de call),.int .i64 (if call<0\/15<call then 0 else mC call),.bool (decide (0<=call/\call<=15))]):=by
 refine aaA ?_;by_cases h:0<=call/\call<=15
 ·rcases na h with rfl|rfl|rfl|rfl|rfl|rfl|rfl|rfl|rfl|rfl|rfl|rfl|rfl|rfl|rfl|rfl<;>simp[mC,de]
 ·have n0: ¬call=0:=by omega
  have n1: ¬call=1:=by omega
  have n2: ¬call=2:=by omega
  have n3: ¬call=3:=by omega
  have n4: ¬call=4:=by omega
  have n5: ¬call=5:=by omega
  have n6: ¬call=6:=by omega
  have n7: ¬call=7:=by omega
  have n8: ¬call=8:=by omega
  have n9: ¬call=9:=by omega
  have n10: ¬call=10:=by omega
  have n11: ¬call=11:=by omega
  have n12: ¬call=12:=by omega
  have n13: ¬call=13:=by omega
  have n14: ¬call=14:=by omega
  have n15: ¬call=15:=by omega
  have hf:call<0\/15<call:=by omega
  simp[n0,n1,n2,n3,n4,n5,n6,n7,n8,n9,n10,n11,n12,n13,n14,n15,hf,h]
@[simp]def O4(call:Int):bW X 228 [call]=some (.int .i64 (uS call)):=by
 refine aaA ?_;by_cases h:0<=call/\call<=15
 ·rcases na h with rfl|rfl|rfl|rfl|rfl|rfl|rfl|rfl|rfl|rfl|rfl|rfl|rfl|rfl|rfl|rfl<;>simp[uS,de]
 ·have hf:call<0\/15<call:=by omega
  simp[h,hf,uS]
@[simp]def V4(call:Int):bW X 231 [call]=some (.int .i64 (mC call)):=by
 refine aaA ?_;by_cases h:0<=call/\call<=15
 ·rcases na h with rfl|rfl|rfl|rfl|rfl|rfl|rfl|rfl|rfl|rfl|rfl|rfl|rfl|rfl|rfl|rfl<;>simp[mC,de]
 ·have hf:call<0\/15<call:=by omega
  simp[h,hf,mC]
def Aj(kind tag:Int):Bool:=if kind=78 then decide (tag=0) else if kind=72 then decide (tag=2) else if kind=80 then decide (tag=1) else true
def lK(x:Canon):Bool:=
 if x.tag=0\/x.tag=2 then decide (x.region=0)&&decide (x.offset=0)
 else if x.tag=1 then(if x.region= -1 then decide (x.val=0)&& (decide (0<=x.offset)&&decide (x.offset<=65535))
  else decide (x.val=0)&& (decide (0<=x.region)&& (decide (x.region<4)&& (decide (0<=x.offset)&&decide (x.offset<32))))) else false
def jc(l:List Canon):Bool:=l.all lK
def Ny{l:List Canon}(h:i<l.length):jc (l.take (i+1))=(jc (l.take i)&&lK l[i]):=vn h
def acj{l:List Canon}(h:i<l.length)(hp:lK l[i]=false):jc l=false:=vk h hp
def Jw{l:List Canon}:jc (l.take l.length)=jc l:=by rw[abi]
@[simp]def aj1(kind tag:Int):bW X 248 [.int .u8 kind,.int .u8 tag]=some (.bool (Aj kind tag)):=by
 refine aaA ?_;by_cases h1:kind=78
 ·simp[h1,Aj]
 by_cases h2:kind=72
 ·simp[h2,Aj]
 by_cases h3:kind=80
 ·simp[h3,Aj]
 ·simp[h1,h2,h3,Aj]
@[simp]def aj2(lH uM jW lp:Int):bW X 242 [KKx lH uM jW lp]=some (.bool (lK (Canon.mk lH uM jW lp))):=by
 refine aaA ?_;by_cases t0:lH=0
 ·by_cases r:jW=0<;>simp[t0,r,lK]
 by_cases t2:lH=2
 ·by_cases r:jW=0<;>simp[t2,r,lK]
 by_cases t1:lH=1
 case neg=>simp[t0,t1,t2,lK]
 by_cases r:jW= -1
 ·by_cases v:uM=0
  ·by_cases o:0<=lp<;>simp[t1,r,v,o,lK]
  ·simp[t1,r,v,lK]
 ·by_cases v:uM=0
  ·by_cases o:0<=jW
   ·by_cases o1:jW<4
    ·by_cases o2:0<=lp<;>simp[t1,r,v,o,o1,o2,lK]
    ·simp[t1,r,v,o,o1,lK]
   ·simp[t1,r,v,o,lK]
  ·simp[t1,r,v,lK]
@[simp]def ack(ey dm kq lW:Int):bW X 214 [KKx ey dm kq lW]=some (.bool (lK (Canon.mk ey dm kq lW))):=by
 refine aaA ?_;by_cases t0:ey=0
 ·by_cases r:kq=0<;>simp[t0,r,lK]
 by_cases t2:ey=2
 ·by_cases r:kq=0<;>simp[t2,r,lK]
 by_cases t1:ey=1
 case neg=>simp[t0,t1,t2,lK]
 by_cases v:dm=0
 case neg=>
  by_cases r:kq= -1
  ·by_cases o:0<=lW<;>simp[t1,r,v,o,lK]
  ·simp[t1,r,v,lK]
 by_cases r:kq= -1
 ·by_cases o:0<=lW
  ·by_cases o2:lW<=65535
   ·simp[t1,r,v,o,o2,lK]
   ·simp[t1,r,v,o,o2,lK]
  ·simp[t1,r,v,o,lK]
 ·by_cases o:0<=kq
  ·by_cases o1:kq<4
   ·by_cases o2:0<=lW<;>simp[t1,r,v,o,o1,o2,lK]
   ·simp[t1,r,v,o,o1,lK]
  ·simp[t1,r,v,o,lK]
@[simp]def agt(l:List Canon)(n:Int)(hm:l.length<=1000000000):bW X 177 [l,n]=some (.bool (jc l&&decide ((l.length:Int)<=n))):=by
 refine aaA ?_;simp[];refine cZ (fun i S=>(S.f 0=l/\S.f 1= .int .i64 n/\S.f 7=l/\S.f 8=((l).length:Int)/\S.f 9=(i:Int)/\S.n=1100)/\(jc (l.take i)=true)) (l.length) (by omega) ?_ ?_ ?_
 ·rintro i S ⟨pq,ie,bL⟩ ⟨df,fp⟩;cases h:lK l[i]
  ·have:=acj bL h;simp[df,bL,h,this]
  ·have:=Ny bL;simp[df,ie,bL,h,this,fp]
 ·rintro S ⟨df,fp⟩;simp[df]<;>(
   rw[Jw]at fp;simp[fp])
 ·simp[]<;>(
   rfl)
@[simp]def Tn(ey dm kq lW:Int):bW X 258 [KKx ey dm kq lW]=some (.bool (!lK (Canon.mk ey dm kq lW))):=by
 refine aaA ?_;simp[]
def lh(r:Request):Bool:=decide (0<=r.dd)&& (decide (r.dd<4)&& (decide (0<=r.stop)&& (decide (r.stop<=3)&& (decide (0<=r.dn)&& (decide (r.dn<=6)&& (decide (0<=r.count)&& (decide (r.count<=1099511627776)
 && (decide (0<=r.pc)&& (decide (r.pc<=255)&& (decide (0<=r.call)&& (decide (r.call<=15)&& (jc r.args&& (decide (r.args.length<=3)&& (jc r.data&&decide (r.data.length<=16)))))))))))))))
@[simp]def agu(dg di cY cD gS cp:Int)(bf bT:List Canon)(h1:bf.length<=1000000000)(h2:bT.length<=1000000000):bW X 94 [KKZ dg di cY cD gS cp bf bT]=some (.bool (lh (Request.mk dg di cY cD gS cp bf bT))):=by
 refine aaA ?_;by_cases c1:0<=dg
 case neg=>simp[c1,lh]
 by_cases c2:dg<4
 case neg=>simp[c1,c2,lh]
 by_cases c3:0<=di
 case neg=>simp[c1,c2,c3,lh]
 by_cases c4:di<=3
 case neg=>simp[c1,c2,c3,c4,lh]
 by_cases c5:0<=cY
 case neg=>simp[c1,c2,c3,c4,c5,lh]
 by_cases c6:cY<=6
 case neg=>simp[c1,c2,c3,c4,c5,c6,lh]
 by_cases c7:0<=cD
 case neg=>simp[c1,c2,c3,c4,c5,c6,c7,lh]
 by_cases c8:cD<=1099511627776
 case neg=>simp[c1,c2,c3,c4,c5,c6,c7,c8,lh]
 by_cases c9:0<=gS
 case neg=>simp[c1,c2,c3,c4,c5,c6,c7,c8,c9,lh]
 by_cases CO:gS<=255
 case neg=>simp[c1,c2,c3,c4,c5,c6,c7,c8,c9,CO,lh]
 by_cases KV:0<=cp
 case neg=>simp[c1,c2,c3,c4,c5,c6,c7,c8,c9,CO,KV,lh]
 by_cases Hu:cp<=15
 case neg=>simp[c1,c2,c3,c4,c5,c6,c7,c8,c9,CO,KV,Hu,lh]
 cases c13:jc bf
 case false=>simp[c1,c2,c3,c4,c5,c6,c7,c8,c9,CO,KV,Hu,c13,h1,lh]
 by_cases Nz:(bf.length:Int)<=3
 case neg=>
  have c14: ¬bf.length<=3:=by omega
  simp[c1,c2,c3,c4,c5,c6,c7,c8,c9,CO,KV,Hu,c13,Nz,c14,h1,lh]
 have c14:bf.length<=3:=by omega
 cases c15:jc bT
 case false=>simp[c1,c2,c3,c4,c5,c6,c7,c8,c9,CO,KV,Hu,c13,Nz,c14,c15,h1,h2,lh]
 simp[c1,c2,c3,c4,c5,c6,c7,c8,c9,CO,KV,Hu,c13,Nz,c14,c15,h1,h2,lh];try omega
@[simp]def aoz:bW X 133 []=some ((KKq ((⟨[-1, -1, -1, -1],[[],[],[],[]]⟩:bX)):V)):=by
 refine aaA ?_;simp[dO];all_goals (first|rfl|exact⟨rfl,rfl,rfl,rfl⟩)
@[simp]def Rt(sI:List (List Int))(hm:sI.length<=1000000000)(hx: ∀i (h:i<sI.length),(sI[i]).length<=1000000000):bW X 204 [sI]=some sI:=by
 refine aaA ?_;simp[];refine cZ (fun i S=>(S.f 3= .cu 3 0 (((sI.take i).map aV)).length/\S.h 3=some ⟨1,((sI.take i).map aV),false⟩/\S.f 6=sI/\S.f 7=((sI).length:Int)/\S.f 8=(i:Int)/\S.n=1100)/\True) (sI.length) (by omega) ?_ ?_ ?_
 ·rintro i S ⟨pq,ie,bL⟩ ⟨df,fp⟩;have g:=hx i bL;have lO:min i sI.length=i:=by omega
  simp[df,ie,bL,lO];all_goals ((repeat' (first|apply And.intro|intro _))<;>first|omega|exact qj bL|rfl)
 ·rintro S ⟨df,fp⟩;simp[df]<;>(
   simp)
 ·simp[]<;>(
   simp)
@[simp]def aj3(l:List Output)(hm:l.length<=1000000000)(hx: ∀i (h:i<l.length),(l[i]).data.length<=1000000000):bW X 206 [l]=some l:=by
 refine aaA ?_;simp[];refine cZ (fun i S=>(S.f 3= .cu 3 0 (((l.take i).map Output.e)).length/\S.h 3=some ⟨3,((l.take i).map Output.e),false⟩/\S.f 6=l/\S.f 7=((l).length:Int)/\S.f 8=(i:Int)/\S.n=1100)/\True) (l.length) (by omega) ?_ ?_ ?_
 ·rintro i S ⟨pq,ie,bL⟩ ⟨df,fp⟩;have g:=hx i bL;have lO:min i l.length=i:=by omega
  simp[df,ie,bL,lO];all_goals ((repeat' (first|apply And.intro|intro _))<;>first|omega|exact qj bL|rfl)
 ·rintro S ⟨df,fp⟩;simp[df]<;>(
   simp)
 ·simp[]<;>(
   simp)
@[simp]def aj4(bn:List (List Canon))(bc:List fO)(hl:bn.length<=4)(hx: ∀i (h:i<bn.length),(bn[i]).length<=1000000000)(ho:bc.length<=1000000000):bW X 205 [KKj bn bc]=some ((KKs ((bJ.mk bn bc)):V)):=by
 refine aaA ?_;have hc:bn.length=0\/bn.length=1\/bn.length=2\/bn.length=3\/bn.length=4:=by omega
 rcases hc with h|h|h|h|h
 ·obtain rfl:=asg h;simp[dO];all_goals ((repeat' (first|apply And.intro|intro _))<;>first|omega|rfl)
 ·obtain⟨a,rfl⟩:=Rh h;have ha:=hx 0 (by simp);simp at ha;simp[dO];all_goals ((repeat' (first|apply And.intro|intro _))<;>first|omega|rfl)
 ·obtain⟨a,b,rfl⟩:=Ri h;have ha:=hx 0 (by simp);have hb:=hx 1 (by simp);simp at ha hb;simp[dO];all_goals ((repeat' (first|apply And.intro|intro _))<;>first|omega|rfl)
 ·obtain⟨a,b,c,rfl⟩:=Rj h;have ha:=hx 0 (by simp);have hb:=hx 1 (by simp);have hc:=hx 2 (by simp);simp at ha hb hc;simp[dO];all_goals ((repeat' (first|apply And.intro|intro _))<;>first|omega|rfl)
 ·obtain⟨a,b,c,d,rfl⟩:=Ii h;have ha:=hx 0 (by simp);have hb:=hx 1 (by simp);have hc:=hx 2 (by simp);have hd:=hx 3 (by simp);simp at ha hb hc hd;simp[dO];all_goals ((repeat' (first|apply And.intro|intro _))<;>first|omega|rfl)
structure jB (f:bJ):Prop where
 data:f.data.length<=4
 each: ∀i (h:i<f.data.length),jc f.data[i]=true/\(f.data[i]).length<=64
 opens:f.opens.length=8
 opn: ∀i (h:i<f.opens.length),((f.opens[i]).file= -1/\(f.opens[i]).offset=0/\(f.opens[i]).write=false)\/
  (∃k,∃g:k<f.data.length,(f.opens[i]).file=(k:Int)/\0<=(f.opens[i]).offset/\(f.opens[i]).offset<=(f.data[k]).length)
@[simp]def agy(bn:List (List Canon))(bc:List fO)(hf:jB (bJ.mk bn bc)):bW X 202 [KKj bn bc]=some (.bool true):=by
 refine aaA ?_;have h1:bn.length<=4:=hf.data;have h2:bc.length=8:=hf.opens;have h3:=hf.each;have h4:=hf.opn;simp only at h3 h4;have CH: ¬4<(bn.length:Int):=by omega
 simp[CH,h2];refine cZ (fun i S=>(S.f 1= .ptr 1 0 0/\S.h 1=some ⟨2,[KKj bn bc],true⟩/\S.f 18=bn/\S.f 19=((bn).length:Int)/\S.f 20=(i:Int)/\S.n=1100)/\True) (bn.length) (by omega) ?_ ?_ ?_
 ·rintro i S ⟨pq,ie,bL⟩ ⟨df,fp⟩;obtain⟨g1,g2⟩:=h3 i bL;have g3:(bn[i]).length<=1000000000:=by omega
  have g4:((bn[i]).length:Int)<=64:=by omega
  simp[df,ie,bL,g1,g3,g4]
 ·rintro S ⟨df,fp⟩;simp[df,h2];refine cZ (fun j S=>(S.f 1= .ptr 1 0 0/\S.h 1=some ⟨2,[KKj bn bc],true⟩/\S.f 29=bc/\S.f 30=((bc).length:Int)/\S.f 31=(j:Int)/\S.n=1100)/\True) (bc.length) (by omega) ?_ ?_ ?_
  ·rintro j S ⟨mz,vp,jP⟩ ⟨mA,sF⟩;have hj:=jP;rcases h4 j hj with⟨e1,e2,e3⟩|⟨k,hk,e1,e2,e3⟩
   ·have n0:(-1:Int)<bn.length:=by omega
    simp[mA,vp,jP,e1,e2,e3,n0]
   ·have n1: ¬(k:Int)= -1:=by omega
    have n2: ¬(k:Int)< -1:=by omega
    have n3: ¬(bn.length:Int)<=k:=by omega
    have n4: ¬(bc[j]).offset<0:=by omega
    have n5: ¬((bn[k]).length:Int)<(bc[j]).offset:=by omega
    simp[mA,vp,jP,hk,e1,n1,n2,n3,n4,n5]
  ·rintro S ⟨mA,sF⟩;simp[mA]
  ·simp[df]<;>(
    omega)
 ·simp[]<;>(
   trivial)
def BU(v:Int):Canon:=⟨0,v,0,0⟩
def V5(l:List Int):jc (l.map BU)=true:=by
 simp[jc,BU,lK]
def closed:fO:=⟨-1,0,false⟩
def pS(data:List (List Int)):bJ:=⟨data.map (·.map BU),List.replicate 8 closed⟩
def Jx(h:data.length<=4)(hx: ∀i (h:i<data.length),(data[i]).length<=64):jB (pS data):=by
 refine⟨by simpa[pS] using h,fun i hi=> ?_,by simp[pS],fun i hi=> .inl ?_⟩
 ·simp[pS]at hi;simp only[pS,adC];exact⟨V5 _,by simpa using hx i hi⟩
 ·simp only[pS,List.getElem_replicate];exact⟨rfl,rfl,rfl⟩
def ui(l:List (List Int)):List (List Canon):=l.map fun d=>d.map BU
def acm{l:List (List Int)}(h:i<l.length):ui (l.take (i+1))=ui (l.take i)++ [(l[i]).map BU]:=by
 unfold ui;rw[fD h,abH];rfl
def V6(l:List (List Int)):(ui l).length=l.length:=by simp[ui]
def uj(l:List Int):List Canon:=l.map BU
def NA{l:List Int}(h:i<l.length):uj (l.take (i+1))=uj (l.take i)++ [BU l[i]]:=by
 unfold uj;rw[fD h,abH];rfl
def Jy(l:List Int):(uj l).length=l.length:=by simp[uj]
def vu:List fO:=[closed,closed,closed,closed,closed,closed,closed,closed]
def CP(i:Nat):List fO:=List.replicate i closed++List.replicate (8-i) ⟨0,0,false⟩
@[simp]def ao0(data:List (List Int))(hm:data.length<=4)(hx: ∀i (h:i<data.length),(data[i]).length<=64):bW X 207 [data]=some (.dM [KKs (pS data),.int .i64 0]):=by
 refine aaA ?_;have lj:=Jx hm hx;have eq:pS data=⟨ui data,vu⟩:=rfl;rw[eq]at lj;rw[eq];simp[];refine cZ (fun i S=>(S.f 0=data/\S.f 2= .ptr 2 0 0/\S.h 2=some ⟨2,[KKj ([]:List (List Canon)) ([]:List fO)],true⟩/\S.f 4= .ptr 4 0 0/\S.h 1000=some ⟨1,(⟨[],CP i⟩:bJ).data.map bw,false⟩/\S.h 1001=some ⟨3,(⟨[],CP i⟩:bJ).opens.map fO.e,false⟩/\S.h 4=some ⟨2,[.agg [.cu 1000 0 ((⟨[],CP i⟩:bJ).data.map bw).length,.cu 1001 0 ((⟨[],CP i⟩:bJ).opens.map fO.e).length]],true⟩/\S.f 15= .int .i64 (8)/\S.f 16=(i:Int)/\S.n=1102)/\True) (8) (by omega) ?_ ?_ ?_
 ·rintro i S ⟨pq,ie,bL⟩ ⟨df,fp⟩;have:i=0\/i=1\/i=2\/i=3\/i=4\/i=5\/i=6\/i=7:=by omega
  rcases this with rfl|rfl|rfl|rfl|rfl|rfl|rfl|rfl<;>simp[df,bL,CP,closed,fO.bS]<;>rfl
 ·rintro S ⟨df,fp⟩;have e8:CP 8=vu:=rfl;rw[e8]at df;simp[df];refine cZ (fun j S=>(S.f 2= .ptr 2 0 0/\S.h 2=some ⟨2,[KKj ([]:List (List Canon)) ([]:List fO)],true⟩/\S.f 4= .ptr 4 0 0/\S.h 1000=some ⟨1,(⟨ui (data.take j),vu⟩:bJ).data.map bw,false⟩/\S.h 1001=some ⟨3,(⟨ui (data.take j),vu⟩:bJ).opens.map fO.e,false⟩/\S.h 4=some ⟨2,[.agg [.cu 1000 0 ((⟨ui (data.take j),vu⟩:bJ).data.map bw).length,.cu 1001 0 ((⟨ui (data.take j),vu⟩:bJ).opens.map fO.e).length]],true⟩/\S.f 25=data/\S.f 26=((data).length:Int)/\S.f 27=(j:Int)/\S.n=1102)/\True) (data.length) (by omega) ?_ ?_ ?_
  ·rintro j S ⟨mz,vp,jP⟩ ⟨mA,sF⟩;have gx:=hx j jP;have gu:=acm jP;have gl:(ui (data.take j)).length=j:=by rw[V6,abN];omega
   simp[mA,jP];refine cZ (fun k S=>(S.f 2= .ptr 2 0 0/\S.h 2=some ⟨2,[KKj ([]:List (List Canon)) ([]:List fO)],true⟩/\S.f 4= .ptr 4 0 0/\S.h 1000=some ⟨1,(⟨ui (data.take j),vu⟩:bJ).data.map bw,false⟩/\S.h 1001=some ⟨3,(⟨ui (data.take j),vu⟩:bJ).opens.map fO.e,false⟩/\S.h 4=some ⟨2,[.agg [.cu 1000 0 ((⟨ui (data.take j),vu⟩:bJ).data.map bw).length,.cu 1001 0 ((⟨ui (data.take j),vu⟩:bJ).opens.map fO.e).length]],true⟩/\S.f 8= .cu 8 0 (((uj ((data[j]).take k)).map Canon.e)).length/\S.h 8=some ⟨4,((uj ((data[j]).take k)).map Canon.e),false⟩/\S.f 25=data/\S.f 26=((data).length:Int)/\S.f 27=(j:Int)/\S.f 31= .sl false ((data[j]).map (V.int .u16))/\S.f 32= .int .i64 (((data[j]).length:Int))/\S.f 33=(k:Int)/\S.n=1102)/\True) ((data[j]).length) (by omega) ?_ ?_ ?_
   ·rintro k S ⟨IN,Ey,kG⟩ ⟨Ah,O2⟩;have gv:=NA kG;have gw:(uj ((data[j]).take k)).length=k:=by rw[Jy,abN];omega
    simp[Ah,Ey,kG,gv,BU];all_goals ((repeat' (first|apply And.intro|intro _))<;>first|omega|rfl)
   ·rintro S ⟨Ah,O2⟩;simp[vp,jP,Ah,gu];all_goals ((repeat' (first|apply And.intro|intro _))<;>first|omega|rfl)
   ·simp[mA]<;>(
     first|exact⟨rfl,rfl⟩|rfl)
  ·rintro S ⟨mA,sF⟩;simp[mA,lj]
  ·simp[df]<;>(
    first|exact⟨rfl,rfl⟩|rfl)
 ·simp[]<;>(
   first|exact⟨rfl,rfl⟩|rfl)
def s8(f:bJ)(h:Int):Bool:=decide (0<=h)&& (decide (h<f.opens.length)&&decide (¬(f.opens.getD h.toNat closed).file= -1))
@[simp]def aj5(bn:List (List Canon))(bc:List fO)(h:Int):bW X 298 [KKj bn bc,.int .i64 h]=some (.bool (s8 (bJ.mk bn bc) h)):=by
 refine aaA ?_;by_cases h1:0<=h
 case neg=>simp[h1,s8]
 obtain⟨k,rfl⟩:=aaG h1;by_cases h2:k<bc.length
 case neg=>
  have KP: ¬(k:Int)<bc.length:=by omega
  simp[h2,KP,s8]
 have KP:(k:Int)<bc.length:=by omega
 by_cases h3:(bc[k]).file= -1
 ·simp[h2,KP,h3,s8,List.getD]
 ·simp[h2,KP,h3,s8,List.getD]
@[simp]def XI(l:List Output)(hm:l.length<=1000000000)(ho: ∀i (h:i<l.length),(l[i]).seq=i/\0<=(l[i]).socket/\(l[i]).socket<2/\(l[i]).data.length<=16):bW X 203 [l]=some (.bool true):=by
 refine aaA ?_;simp[];refine cZ (fun i S=>(S.f 5=l/\S.f 6=((l).length:Int)/\S.f 7=(i:Int)/\S.n=1100)/\True) (l.length) (by omega) ?_ ?_ ?_
 ·rintro i S ⟨pq,ie,bL⟩ ⟨df,fp⟩;obtain⟨o1,o2,o3,o4⟩:=ho i bL;have n2: ¬(l[i]).socket<0:=by omega
  have n3: ¬2<=(l[i]).socket:=by omega
  have n4: ¬16<((l[i]).data.length:Int):=by omega
  simp[df,ie,bL,o1,n2,n3,n4]
 ·rintro S ⟨df,fp⟩;simp[df]
 ·simp[]<;>(
   trivial)
structure wm (o:cS):Prop where
 clock:o.clock.length<=64
 random:o.random.length<=64
 dp:o.dp.length<=2
 input: ∀i (h:i<o.dp.length),(o.dp[i]).length<=64
 files:jB o.files
 dG:o.dG.length<=200
 output: ∀i (h:i<o.dG.length),(o.dG[i]).seq=i/\0<=(o.dG[i]).socket/\(o.dG[i]).socket<2/\(o.dG[i]).data.length<=16/\jc (o.dG[i]).data=true
@[simp]def Ak(cJ bZ:List Int)(bV:List (List Int))(bp:List (List Canon))(bm:List fO)(bI:List Output)(ho:wm (cS.mk cJ bZ bV (bJ.mk bp bm) bI)):bW X 130 [KKn cJ bZ bV bp bm bI]=some (.bool true):=by
 refine aaA ?_;have h1:cJ.length<=64:=ho.clock;have h2:bZ.length<=64:=ho.random;have h3:bV.length<=2:=ho.dp;have h4:=ho.input;have h5:=ho.files;have h6:bI.length<=200:=ho.dG;have h7:=ho.output;simp only at h4 h5 h7;have CH:(cJ.length:Int)<=64:=by omega
 have KP:(bZ.length:Int)<=64:=by omega
 have h3i:(bV.length:Int)<=2:=by omega
 have h6i:(bI.length:Int)<=200:=by omega
 have h6m:bI.length<=1000000000:=by omega
 have h8: ∀i (h:i<bI.length),(bI[i]).seq=i/\0<=(bI[i]).socket/\(bI[i]).socket<2/\(bI[i]).data.length<=16:=fun i h=>⟨(h7 i h).1,(h7 i h).2.1,(h7 i h).2.2.1,(h7 i h).2.2.2.1⟩;simp[];refine cZ (fun i S=>(S.f 1= .ptr 1 0 0/\S.h 1=some ⟨6,[KKn cJ bZ bV bp bm bI],true⟩/\S.f 8=bV/\S.f 9=((bV).length:Int)/\S.f 10=(i:Int)/\S.n=1100)/\True) (bV.length) (by omega) ?_ ?_ ?_
 ·rintro i S ⟨pq,ie,bL⟩ ⟨df,fp⟩;have g:=h4 i bL;have g2: ¬64<((bV[i]).length:Int):=by omega
  simp[df,ie,bL,g2]
 ·rintro S ⟨df,fp⟩;simp[df];refine cZ (fun j S=>(S.f 1= .ptr 1 0 0/\S.h 1=some ⟨6,[KKn cJ bZ bV bp bm bI],true⟩/\S.f 19=bI/\S.f 20=((bI).length:Int)/\S.f 21=(j:Int)/\S.n=1100)/\True) (bI.length) (by omega) ?_ ?_ ?_
  ·rintro j S ⟨mz,vp,jP⟩ ⟨mA,sF⟩;obtain⟨q1,q2,q3,q4,q5⟩:=h7 j jP;have q6:(bI[j]).data.length<=1000000000:=by omega
   have q7:((bI[j]).data.length:Int)<=16:=by omega
   simp[mA,vp,jP,q5,q6,q7]
  ·rintro S ⟨mA,sF⟩;simp[mA,CH,KP,h3i,h5,h6i,h6m,h8]
  ·simp[df]<;>(
    trivial)
 ·simp[]<;>(
   trivial)
@[simp]def aj6(cJ bZ:List Int)(bV:List (List Int))(bp:List (List Canon))(bm:List fO)(bI:List Output)(ho:wm (cS.mk cJ bZ bV (bJ.mk bp bm) bI)):bW X 132 [KKn cJ bZ bV bp bm bI]=some ((KKh ((cS.mk cJ bZ bV (bJ.mk bp bm) bI)):V)):=by
 refine aaA ?_;have h1:cJ.length<=64:=ho.clock;have h2:bZ.length<=64:=ho.random;have h3:bV.length<=2:=ho.dp;have h4:=ho.input;have h5:=ho.files;have h6:bI.length<=200:=ho.dG;have h7:=ho.output;simp only at h4 h5 h7;have f1:bp.length<=4:=h5.data;have f2:bm.length=8:=h5.opens;have f3:=h5.each;simp only at f3;have a1:bV.length<=1000000000:=by omega
 have a2: ∀i (h:i<bV.length),(bV[i]).length<=1000000000:=fun i h=>by have:=h4 i h;omega
 have a3: ∀i (h:i<bp.length),(bp[i]).length<=1000000000:=fun i h=>by have:=(f3 i h).2;omega
 have a4:bm.length<=1000000000:=by omega
 have a5:bI.length<=1000000000:=by omega
 have a6: ∀i (h:i<bI.length),(bI[i]).data.length<=1000000000:=fun i h=>by have:=(h7 i h).2.2.2.1;omega
 simp[a1,a2,a3,a4,a5,a6,f1];try omega
@[simp]def agz(n:Int)(ok:Bool):bW X 254 [n,ok]=some ((KKl ((⟨⟨0,if ok=true then IntKind.u16.wrap n else 65535,0,0⟩,[], -1,false⟩:lL)):V)):=by
 refine aaA ?_;have hw:IntKind.u16.wrap 65535=65535:=by decide
 cases ok<;>simp[hw]
@[simp]def aj7(call:Int):bW X 278 [call]=some (.bool (decide ((1<=call/\call<=7)\/call=13\/call=14))):=by
 refine aaA ?_;by_cases h1:1<=call
 ·by_cases h2:call<=7
  ·simp[h1,h2]
  ·simp[h1,h2];by_cases h3:call=13<;>simp[h3]
 ·simp[h1];by_cases h3:call=13<;>simp[h3]
def BV(files dp:List (List Int))(clock random:List Int):cS:=⟨clock,random,dp,pS files,[]⟩
def To   (h1:files.length<=4) (h2: ∀i (h:i<files.length),(files[i]).length<=64) (h3:dp.length<=2) (h4: ∀i (h:i<dp.length),(dp[i]).length<=64)
  (h5:clock.length<=64) (h6:random.length<=64):wm (BV files dp clock random):=
 ⟨h5,h6,h3,h4,Jx h1 h2,by simp[BV],fun i h=>by simp[BV]at h⟩
@[simp]def Ij(files dp:List (List Int))(clock random:List Int)(h1:files.length<=4)(h2: ∀i (h:i<files.length),(files[i]).length<=64)(h3:dp.length<=2)(h4: ∀i (h:i<dp.length),(dp[i]).length<=64)(h5:clock.length<=64)(h6:random.length<=64):bW X 134 [files,dp,.sl false (clock.map (V.int .u16)),.sl false (random.map (V.int .u16))]=some (.dM [KKh (BV files dp clock random),.int .i64 0]):=by
 refine aaA ?_;have lj:=To h1 h2 h3 h4 h5 h6;have a1:dp.length<=1000000000:=by omega
 have a2: ∀i (h:i<dp.length),(dp[i]).length<=1000000000:=fun i h=>by have:=h4 i h;omega
 have eq:BV files dp clock random=⟨clock,random,dp,⟨(pS files).data,(pS files).opens⟩,[]⟩:=rfl;rw[eq]at lj;rw[eq];have key:=Ak clock random dp (pS files).data (pS files).opens [] lj;simp only[abI]at key;simp[h1,h2,a1,a2,key];try omega
@[simp]def boe(bn:List (List Canon))(bc:List fO)(hl:bn.length<=4)(hx: ∀i (h:i<bn.length),(bn[i]).length<=1000000000)(ho:bc.length<=1000000000):nr X [(0,1,301)] 205 [KKj bn bc]=some ((KKj bn bc:V)):=by
 refine aaC ?_;have hc:bn.length=0\/bn.length=1\/bn.length=2\/bn.length=3\/bn.length=4:=by omega
 rcases hc with h|h|h|h|h
 ·obtain rfl:=asg h;simp[dO];all_goals ((repeat' (first|apply And.intro|intro _))<;>first|omega|rfl)
 ·obtain⟨a,rfl⟩:=Rh h;have ha:=hx 0 (by simp);simp at ha;simp[dO];all_goals ((repeat' (first|apply And.intro|intro _))<;>first|omega|rfl)
 ·obtain⟨a,b,rfl⟩:=Ri h;have ha:=hx 0 (by simp);have hb:=hx 1 (by simp);simp at ha hb;simp[dO];all_goals ((repeat' (first|apply And.intro|intro _))<;>first|omega|rfl)
 ·obtain⟨a,b,c,rfl⟩:=Rj h;have ha:=hx 0 (by simp);have hb:=hx 1 (by simp);have hc:=hx 2 (by simp);simp at ha hb hc;simp[dO];all_goals ((repeat' (first|apply And.intro|intro _))<;>first|omega|rfl)
 ·obtain⟨a,b,c,d,rfl⟩:=Ii h;have ha:=hx 0 (by simp);have hb:=hx 1 (by simp);have hc:=hx 2 (by simp);have hd:=hx 3 (by simp);simp at ha hb hc hd;simp[dO];all_goals ((repeat' (first|apply And.intro|intro _))<;>first|omega|rfl)
@[simp]def bof(bn:List (List Canon))(bc:List fO)(hl:bn.length<=4)(hx: ∀i (h:i<bn.length),(bn[i]).length<=1000000000)(ho:bc.length<=1000000000):nr X [(0,0,57),(0,1,301)] 205 [KKj bn bc]=some ((KKj bn bc:V)):=by
 refine aaC ?_;have hc:bn.length=0\/bn.length=1\/bn.length=2\/bn.length=3\/bn.length=4:=by omega
 rcases hc with h|h|h|h|h
 ·obtain rfl:=asg h;simp[dO];all_goals ((repeat' (first|apply And.intro|intro _))<;>first|omega|rfl)
 ·obtain⟨a,rfl⟩:=Rh h;have ha:=hx 0 (by simp);simp at ha;simp[dO];all_goals ((repeat' (first|apply And.intro|intro _))<;>first|omega|rfl)
 ·obtain⟨a,b,rfl⟩:=Ri h;have ha:=hx 0 (by simp);have hb:=hx 1 (by simp);simp at ha hb;simp[dO];all_goals ((repeat' (first|apply And.intro|intro _))<;>first|omega|rfl)
 ·obtain⟨a,b,c,rfl⟩:=Rj h;have ha:=hx 0 (by simp);have hb:=hx 1 (by simp);have hc:=hx 2 (by simp);simp at ha hb hc;simp[dO];all_goals ((repeat' (first|apply And.intro|intro _))<;>first|omega|rfl)
 ·obtain⟨a,b,c,d,rfl⟩:=Ii h;have ha:=hx 0 (by simp);have hb:=hx 1 (by simp);have hc:=hx 2 (by simp);have hd:=hx 3 (by simp);simp at ha hb hc hd;simp[dO];all_goals ((repeat' (first|apply And.intro|intro _))<;>first|omega|rfl)
def sc(f:bJ)(h:Int):bJ×Bool:=if s8 f h=true then(⟨f.data,f.opens.set h.toNat closed⟩,true) else(f,false)
structure ast (f:bJ):Prop where
 data:f.data.length<=4
 each: ∀i (h:i<f.data.length),(f.data[i]).length<=1000000000
 opens:f.opens.length<=1000000000
def jB.lens(h:jB f):ast f:=⟨h.data,fun i g=>by have:=(h.each i g).2;omega,by have:=h.opens;omega⟩
def NB(ho:s8 f h=true): ∃k:Nat,h=k/\ ∃g:k<f.opens.length,¬(f.opens[k]).file= -1:=by
 unfold s8 at ho;simp only[aaF,decide_eq_true_eq]at ho;obtain⟨h1,h2,h3⟩:=ho;have hk:h.toNat<f.opens.length:=by omega
 refine⟨h.toNat,by omega,hk,?_⟩;simpa[List.getD,hk] using h3
@[simp]def ag0(bn:List (List Canon))(bc:List fO)(h:Int)(hf:jB (bJ.mk bn bc)):bW X 283 [KKj bn bc,.int .i64 h]=some (.dM [KKs ((sc (bJ.mk bn bc) h).1),.bool ((sc (bJ.mk bn bc) h).2)]):=by
 refine aaA ?_;have hl:=hf.lens;have l1:bn.length<=4:=hl.data;have l2:=hl.each;have l3:bc.length<=1000000000:=hl.opens;simp only at l2;cases ho:s8 (bJ.mk bn bc) h with
 |false=>
  have e:sc (bJ.mk bn bc) h=((bJ.mk bn bc),false):=by unfold sc;rw[if_neg (by simp[ho])]
  rw[e];simp[l1,l2,l3,ho]
 |true=>
  have e:sc (bJ.mk bn bc) h=(⟨bn,bc.set h.toNat closed⟩,true):=by unfold sc;rw[if_pos ho]
  rw[e];obtain⟨k,rfl,hk,_⟩:=NB ho;simp only at hk;have hc:fO.e closed= .agg [.int .i64 (-1),.int .i64 0,.bool false]:=rfl;simp[l1,l2,l3,ho,hk];rw[show(bc[k].e.put 0 (V.agg [.int .i64 (-1),.int .i64 0,.bool false]))=fO.e closed from rfl,<-List.map_set (f:=fO.e),aZ (by simp),wc,abL];try rfl
structure rn (p:Prog):Prop where
 an:oO p.an
 len:p.data.length=p.an.length
 data: ∀i (h:i<p.data.length) (h':i<p.an.length),((p.data[i]).length:Int)<=p.an[i]
 azj:1<=p.code.length
 rp:p.code.length<=64
 ao1: ∀i (h:i<p.code.length),nu p.code[i]=true
 range: ∀i (h:i<p.code.length),qq p.code.length p.an.length p.code[i]=true
def NC(h:jq p=0):rn p:=by
 have h1:kF p.an=true:=by
  rw[<-Bool.not_eq_false];intro e;unfold jq at h;rw[if_pos e]at h;cases h
 have h2:p.data.length=p.an.length:=by
  refine acL fun e=> ?_;unfold jq at h;rw[if_neg (by simp[h1]),if_pos e]at h;cases h
 have h3:m9 p p.data.length=true:=by
  rw[<-Bool.not_eq_false];intro e;rw[yB h1 h2 e]at h;cases h
 have h4: ¬p.code.length<1:=fun e=>by rw[wY h1 h2 h3 e]at h;cases h
 have h5: ¬64<p.code.length:=fun e=>by rw[yC h1 h2 h3 e]at h;cases h
 rw[uP h1 h2 h3 h4 h5]at h;have h6:pz p.code=true:=by
  rw[<-Bool.not_eq_false];intro e;rw[if_pos e]at h;cases h
 rw[if_neg (by simp[h6])]at h;have h7:oy p.code.length p.an.length p.code=true:=by
  rw[<-Bool.not_eq_false];intro e;rw[if_pos e]at h;cases h
 refine⟨nP.1 h1,h2,fun i hi oE=> ?_,by omega,by omega,fun i hi=> ?_,fun i hi=> ?_⟩
 ·have:=List.all_eq_true.1 h3 i (List.mem_range.2 hi);rw[dC oE]at this;simpa[List.getD,hi] using this
 ·exact List.all_eq_true.1 h6 _ (aaL hi)
 ·exact List.all_eq_true.1 h7 _ (aaL hi)
def zH(h:rn p):jq p=0:=by
 have h3:m9 p p.data.length=true:=by
  unfold m9;rw[aaP];intro i hi;have hi:=List.mem_range.1 hi;have oE:i<p.an.length:=by have:=h.len;omega
  rw[dC oE];simpa[List.getD,hi] using h.data i hi oE
 have h1:=h.azj;have h2:=h.rp;rw[uP (nP.2 h.an) h.len h3 (by omega) (by omega),if_neg,if_neg]
 ·rw[acO];unfold oy;rw[aaP];intro x hx;obtain⟨i,hi,rfl⟩:=abE hx;exact h.range i hi
 ·rw[acO];unfold pz;rw[aaP];intro x hx;obtain⟨i,hi,rfl⟩:=abE hx;exact h.ao1 i hi
def tF(cells:List Cell)(b:Nat)(d:List Int):Nat->List Cell
 |0=>cells
 |k+1=>(tF cells b d k).set (b+k) ⟨((tF cells b d k).getD (b+k) ⟨0,0⟩).tag,nth d k⟩
def V8(cells:List Cell)(b:Nat)(d:List Int):tF cells b d 0=cells:=rfl
def Tq{cells:List Cell}{k:Nat}(h:k<d.length):tF cells b d (k+1)=(tF cells b d k).set (b+k) ⟨((tF cells b d k).getD (b+k) ⟨0,0⟩).tag,d[k]⟩:=by
 rw[tF,dC h]
def Gb(cells:List Cell)(b:Nat)(d:List Int)(k:Nat):(tF cells b d k).length=cells.length:=by
 induction k with
 |zero=>rfl
 |succ k ih=>rw[tF,aaN,ih]
def pU(p:Prog)(aD:List Int):Nat->List Cell
 |0=>List.replicate 512 ⟨0,0⟩
 |r+1=>tF (pU p aD r) (nth aD r).toNat (p.data.getD r []) (p.data.getD r []).length
def CQ(p:Prog)(aD:List Int):pU p aD 0=List.replicate 512 ⟨0,0⟩:=rfl
def Ts(p:Prog)(aD:List Int)(h:r<p.data.length):pU p aD (r+1)=tF (pU p aD r) (nth aD r).toNat p.data[r] (p.data[r]).length:=by
 rw[pU];simp[List.getD,h]
def Gc(p:Prog)(aD:List Int)(r:Nat):(pU p aD r).length=512:=by
 induction r with
 |zero=>simp[pU]
 |succ r ih=>rw[pU,Gb,ih]
def acn(x:Cell)(v:Int):(Cell.e x).put 1 (.int .u16 v)=Cell.e ⟨x.tag,v⟩:=rfl
@[simp]def aj8(ax:List Instr)(ae:List Int)(ay:List (List Int))(aw:List Int)(bK:Int)(hp:rn (Prog.mk ax ae ay))(hL:ov aw ae):bW X 70 [KKQ ax ae ay,KKc aw bK]=some (.dM [KKz ((⟨pU (Prog.mk ax ae ay) aw ay.length,cm⟩:aF)),.int .i64 0]):=by
 refine aaA ?_;have hz:=hp.an;simp only at hz;have z4:=hz.le;have hlen:ay.length=ae.length:=hp.len;have hb:aw.length=ae.length:=hL.len;have lj:=mU.2 hL;have b1:aw.length<=1000000000/\ae.length<=1000000000:=by omega
 have hle:(cm.map cy.e).length=4:=rfl;simp[lj,b1,hlen];refine cZ (fun r S=>(S.f 2= .ptr 2 0 0/\S.h 2=some ⟨3,[KKQ ax ae ay],true⟩/\S.f 3= .ptr 3 0 0/\S.h 3=some ⟨2,[KKc aw bK],true⟩/\S.f 4= .ptr 4 0 0/\S.h 4=some ⟨2,[KKp ([]:List Cell) ([]:List cy)],true⟩/\S.f 6= .ptr 6 0 0/\S.h 1000=some ⟨2,(⟨pU (Prog.mk ax ae ay) aw r,cm⟩:aF).cells.map Cell.e,false⟩/\S.h 6=some ⟨2,[.agg [.cu 1000 0 ((⟨pU (Prog.mk ax ae ay) aw r,cm⟩:aF).cells.map Cell.e).length,.sl false ((⟨pU (Prog.mk ax ae ay) aw r,cm⟩:aF).lines.map cy.e)]],true⟩/\S.f 30=ay/\S.f 31=((ay).length:Int)/\S.f 32=(r:Int)/\S.n=1101)/\True) (ay.length) (by omega) ?_ ?_ ?_
 ·rintro r S ⟨hir,PG,CR⟩ ⟨df,fp⟩;have r1:r<ae.length:=by omega
  have r2:r<aw.length:=by omega
  have hd:((ay[r]).length:Int)<=ae[r]:=hp.data r CR r1;have Hs: ¬ae[r]<((ay[r]).length:Int):=by omega
  have H8:=hL.base r r2 r1;have hzz:=hz.elem r r1;obtain⟨b,Tt⟩: ∃b:Nat,aw[r]=b:=⟨(aw[r]).toNat,by omega⟩;have ln:pU (Prog.mk ax ae ay) aw (r+1)=tF (pU (Prog.mk ax ae ay) aw r) b ay[r] (ay[r]).length:=by
   rw[Ts _ _ CR,dC r2,Tt];rfl
  have Hr:=Gc (Prog.mk ax ae ay) aw r;simp[df,CR,r1,Hs];refine cZ (fun k S=>(S.f 2= .ptr 2 0 0/\S.h 2=some ⟨3,[KKQ ax ae ay],true⟩/\S.f 3= .ptr 3 0 0/\S.h 3=some ⟨2,[KKc aw bK],true⟩/\S.f 4= .ptr 4 0 0/\S.h 4=some ⟨2,[KKp ([]:List Cell) ([]:List cy)],true⟩/\S.f 6= .ptr 6 0 0/\S.h 1000=some ⟨2,(⟨tF (pU (Prog.mk ax ae ay) aw r) b ay[r] k,cm⟩:aF).cells.map Cell.e,false⟩/\S.h 6=some ⟨2,[.agg [.cu 1000 0 ((⟨tF (pU (Prog.mk ax ae ay) aw r) b ay[r] k,cm⟩:aF).cells.map Cell.e).length,.sl false ((⟨tF (pU (Prog.mk ax ae ay) aw r) b ay[r] k,cm⟩:aF).lines.map cy.e)]],true⟩/\S.f 7= .int .i64 ((r:Int))/\S.f 30=ay/\S.f 31=((ay).length:Int)/\S.f 32=(r:Int)/\S.f 46= .sl false ((ay[r]).map (V.int .u16))/\S.f 47= .int .i64 (((ay[r]).length:Int))/\S.f 48=(k:Int)/\S.n=1101)/\True) ((ay[r]).length) (by omega) ?_ ?_ ?_
  ·rintro k S ⟨IN,Ey,kG⟩ ⟨mA,sF⟩;have Eo:=Gb (pU (Prog.mk ax ae ay) aw r) b ay[r] k;rw[Hr]at Eo;have hu:=Tq (cells:=pU (Prog.mk ax ae ay) aw r) (b:=b) kG;obtain⟨q,hq⟩: ∃q:Nat,b+k=q:=⟨_,rfl⟩;rw[hq]at hu;have gY:q<512:=by omega
   have BQ:(q:Int)<512:=by omega
   have hw:IntKind.i64.wrap ((b:Int)+k)=(q:Int):=by rw[wrap_i64 (by omega)];omega
   simp[mA,Ey,kG,r2,Tt,Eo,gY,BQ,hw,hu,acn,List.getD]
  ·rintro S ⟨mA,sF⟩;simp[CR,mA,ln,PG]
  ·simp[df]<;>(
    exact⟨rfl,rfl⟩)
 ·rintro S ⟨df,fp⟩;simp[df]<;>(
   rw[hlen])
 ·simp[]<;>(
   simp[CQ,hlen,Cell.bS])
def gF(p:Prog)(l:Layout):aO:=⟨l,⟨pU p l.aD p.data.length,cm⟩,[⟨1,List.replicate 8 ⟨0,0⟩,0,0, -1, -1,0,0⟩,⟨0,List.replicate 8 ⟨0,0⟩,0,0, -1, -1,0,0⟩,⟨0,List.replicate 8 ⟨0,0⟩,0,0, -1, -1,0,0⟩,⟨0,List.replicate 8 ⟨0,0⟩,0,0, -1, -1,0,0⟩]⟩
end Go.Proofs.YtdngefmliibcgaaGreat
