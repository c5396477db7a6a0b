/- Part of a proof: S5. -/
import Derived.Test.YtejohpnpnaljdaaGreatM14
import Derived.Test.YtejohpnpnaljdaaGreatM16
set_option linter.all false
set_option maxRecDepth 20000
set_option maxHeartbeats 20000000
namespace Go.Proofs.YtejohpnpnaljdaaGreat
open Go Go.Abs Go.Abs.lu
theorem wrap_u16{n:Int}(h:0<=n/\n<=65535):IntKind.u16.wrap n=n:=by
 simp only[IntKind.wrap,IntKind.signed,IntKind.bits,Bool.false_and];simp;omega
def kU(p:Prog)(k:Nat):Bool:=(List.range k).all fun r=>decide (((p.data.getD r []).length:Int)<=nth p.ae r)
theorem Ey{p:Prog}{k:Nat}(h:k<p.data.length)(h2:k<p.ae.length):kU p (k+1)=(kU p k&&decide (((p.data[k]).length:Int)<=p.ae[k])):=by
 unfold kU;rw[Ce,cZ h2];simp[List.getD,h]
theorem Cg{p:Prog}{k n:Nat}(hn:k<n)(h:k<p.data.length)(h2:k<p.ae.length)(hp: ¬((p.data[k]).length:Int)<=p.ae[k]):kU p n=false:=by
 unfold kU;refine zv hn ?_;rw[cZ h2];simpa[List.getD,h] using hp
def mH(l:List Instr):Bool:=l.all lg
theorem Ch{l:List Instr}{i:Nat}(h:i<l.length):mH (l.take (i+1))=(mH (l.take i)&&lg l[i]):=tz h
theorem Ci{l:List Instr}{i:Nat}(h:i<l.length)(hp:lg l[i]=false):mH l=false:=r8 h hp
theorem Ai{l:List Instr}:mH (l.take l.length)=mH l:=by rw[List.take_length]
def ng(n m:Nat)(i:Instr):Bool:= !(jumps i.op&&decide ((n:Int)<=i.dy))&& !(decide (i.op=15)&&decide ((m:Int)<=i.dy))
def lN(n m:Nat)(l:List Instr):Bool:=l.all (ng n m)
theorem Cj{n m:Nat}{l:List Instr}{i:Nat}(h:i<l.length):lN n m (l.take (i+1))=(lN n m (l.take i)&&ng n m l[i]):=tz h
theorem Ly{n m:Nat}{l:List Instr}{i:Nat}(h:i<l.length)(hp:ng n m l[i]=false):lN n m l=false:=r8 h hp
theorem Iv{n m:Nat}{l:List Instr}:lN n m (l.take l.length)=lN n m l:=by rw[List.take_length]
def gA(p:Prog):Int:=
 if je p.ae=false then 1 else if p.data.length≠p.ae.length then 1 else if kU p p.data.length=false then 1
 else if p.code.length<1 then 3 else if 64<p.code.length then 3 else if mH p.code=false then 5
 else if lN p.code.length p.ae.length p.code=false then 6 else 0
theorem uO{p:Prog}(h1:je p.ae=true)(h2:p.data.length=p.ae.length)(h3:kU p p.data.length=false):gA p=1:=by
 unfold gA;rw[if_neg (by simp[h1]),if_neg (by simpa using h2),if_pos h3]
theorem tC{p:Prog}(h1:je p.ae=true)(h2:p.data.length=p.ae.length)(h3:kU p p.data.length=true)(h4:p.code.length<1):gA p=3:=by
 unfold gA;rw[if_neg (by simp[h1]),if_neg (by simpa using h2),if_neg (by simp[h3]),if_pos h4]
theorem uP{p:Prog}(h1:je p.ae=true)(h2:p.data.length=p.ae.length)(h3:kU p p.data.length=true)(h4:64<p.code.length):gA p=3:=by
 unfold gA;rw[if_neg (by simp[h1]),if_neg (by simpa using h2),if_neg (by simp[h3]),if_neg (by omega),if_pos h4]
theorem rJ{p:Prog}(h1:je p.ae=true)(h2:p.data.length=p.ae.length)(h3:kU p p.data.length=true)(h4: ¬p.code.length<1)(h5: ¬64<p.code.length):
  gA p=if mH p.code=false then 5 else if lN p.code.length p.ae.length p.code=false then 6 else 0:=by
 unfold gA;rw[if_neg (by simp[h1]),if_neg (by simpa using h2),if_neg (by simp[h3]),if_neg h4,if_neg h5]
theorem Iw{op:Int}(h:jumps op=true): ¬op=15:=by unfold jumps at h;simp at h;omega
def da:Thread:=⟨0,[],0,0,0,0,0,0⟩
def ki(l:List Thread)(k:Nat):List Int:=((List.range k).filter fun i=>decide ((l.getD i da).state=1)).map fun(i:Nat)=>(i:Int)
theorem Ix{l:List Thread}{i:Nat}(h:i<l.length)(hs:(l[i]).state=1):ki l (i+1)=ki l i++ [(i:Int)]:=by
 unfold ki;rw[List.range_succ,List.filter_append,List.map_append];simp[List.getD,h,hs]
theorem Lz{l:List Thread}{i:Nat}(h:i<l.length)(hs: ¬(l[i]).state=1):ki l (i+1)=ki l i:=by
 unfold ki;rw[List.range_succ,List.filter_append,List.map_append];simp[List.getD,h,hs]
theorem Aj(l:List Thread)(k:Nat):(ki l k).length<=k:=by
 unfold ki;rw[List.length_map];exact Nat.le_trans (List.length_filter_le ..) (by simp)
def Iy(n m:Nat)(l:List Instr):Int:=if lN n m l=true then 0 else 6
@[simp] theorem WI(ay:List Instr)(ah:List Int)(az:List (List Int))(h1:ah.length<=1000000000)(h2:az.length<=1000000000)(h3:ay.length<=1000000000):cz X 68 [(ay,ah,az)]=some (.int .i64 (gA (Prog.mk ay ah az))):=by
 refine bd Tryz.func68 rfl rfl ?_;by_cases hz:je ah=true
 case neg=>simp-implicitDefEqProofs[h1,hz,gA]
 by_cases hl:az.length=ah.length
 case neg=>
  have pN:((az.length:Int)=ah.length)=False:=eq_false (by omega);simp-implicitDefEqProofs[h1,hz,hl,pN,gA]
 have hS:=lD.1 hz;simp-implicitDefEqProofs[h1,hz,hl];refine cP (fun i S=>(S.f 1= .ptr 1 0 0/\S.h 1=some ⟨3,[.agg [ay,ah,az]],true⟩/\S.f 23= .sl false (az.map aS)/\S.f 24= .int .i64 ((az).length:Int)/\S.f 25= .int .i64 (i:Int)/\S.n=1100)/\(kU (Prog.mk ay ah az) i=true)) (az.length) ?_ 0 (by simp) ?_
 ·rintro i S kY ⟨dA,hX⟩;have eY:=cS i (by omega);by_cases bI:i<az.length
  ·have g1:i<ah.length:=by omega
   have gz:=hS.elem i g1;have g3:kU (Prog.mk ay ah az) (i+1)=(kU (Prog.mk ay ah az) i&&decide (((az[i]).length:Int)<=ah[i])):=Ey bI g1;by_cases hc:((az[i]).length:Int)<=ah[i]
   ·have wm: ¬(ah[i]<((az[i]).length:Int)):=by omega
    simp-implicitDefEqProofs[dA,eY,bI,g1,hc,wm,g3,hX]
   ·have wm:ah[i]<((az[i]).length:Int):=by omega
    have bad:gA (Prog.mk ay ah az)=1:=uO (p:=(Prog.mk ay ah az)) hz hl (Cg (p:=(Prog.mk ay ah az)) bI bI g1 hc);simp-implicitDefEqProofs[dA,bI,g1,wm,bad]
  ·have ko:az.length=i:=by omega
   subst ko;have d1:kU (Prog.mk ay ah az) az.length=true:=hX;by_cases c1:(ay.length:Int)<1
   ·have Yw:ay.length<1:=by omega
    have e:gA (Prog.mk ay ah az)=3:=tC (p:=(Prog.mk ay ah az)) hz hl d1 Yw;simp-implicitDefEqProofs[dA,c1,e]
   by_cases c2:64<(ay.length:Int)
   ·have c2n:64<ay.length:=by omega
    have Yw: ¬ay.length<1:=by omega
    have e:gA (Prog.mk ay ah az)=3:=uP (p:=(Prog.mk ay ah az)) hz hl d1 c2n;simp-implicitDefEqProofs[dA,c1,c2,e]
   have c2n: ¬64<ay.length:=by omega
   have Yw: ¬ay.length<1:=by omega
   have key:gA (Prog.mk ay ah az)=if mH ay=false then 5 else if lN ay.length ah.length ay=false then 6 else 0:=rJ (p:=(Prog.mk ay ah az)) hz hl d1 Yw c2n
   rw[key];clear key;simp-implicitDefEqProofs[dA,c1,c2];refine cP (fun j S=>(S.f 1= .ptr 1 0 0/\S.h 1=some ⟨3,[.agg [ay,ah,az]],true⟩/\S.f 50= .sl false (ay.map Instr.e)/\S.f 51= .int .i64 ((ay).length:Int)/\S.f 52= .int .i64 (j:Int)/\S.n=1100)/\(mH (ay.take j)=true)) (ay.length) ?_ 0 (by simp) ?_
   ·rintro j S jk ⟨mW,uN⟩;have pM:=cS j (by omega);by_cases fX:j<ay.length
    ·cases hi:lg ay[j]
     ·have:=Ci fX hi;simp-implicitDefEqProofs[mW,fX,hi,this]
     ·have:=Ch fX;simp-implicitDefEqProofs[mW,pM,fX,hi,this,uN]
    ·have xO:ay.length=j:=by omega
     subst xO;rw[Ai]at uN;simp-implicitDefEqProofs[mW,uN];refine cP (fun k S=>(S.f 1= .ptr 1 0 0/\S.h 1=some ⟨3,[.agg [ay,ah,az]],true⟩/\S.f 61= .sl false (ay.map Instr.e)/\S.f 62= .int .i64 ((ay).length:Int)/\S.f 63= .int .i64 (k:Int)/\S.n=1100)/\(lN ay.length ah.length (ay.take k)=true)) (ay.length) ?_ 0 (by simp) ?_
     ·rintro k S E6 ⟨zw,Wu⟩;have DA:=cS k (by omega);by_cases jW:k<ay.length
      ·have hn0:ng ay.length ah.length ay[k]=(!(jumps (ay[k]).op&&decide ((ay.length:Int)<=(ay[k]).dy))&& !(decide ((ay[k]).op=15)&&decide ((ah.length:Int)<=(ay[k]).dy))):=rfl;have jX:=Cj (n:=ay.length) (m:=ah.length) jW;have afn:=Ly (n:=ay.length) (m:=ah.length) jW;rw[hn0]at jX afn;cases hj:jumps (ay[k]).op
       ·by_cases ho:(ay[k]).op=15
        ·have Iz:=eq_true ho;by_cases hm:(ah.length:Int)<=(ay[k]).dy
         ·have:=afn (by simp[hj,Iz,hm]);simp-implicitDefEqProofs[zw,jW,hj,Iz,hm,this]
         ·simp-implicitDefEqProofs[zw,DA,jW,hj,Iz,hm,jX,Wu]
        ·simp-implicitDefEqProofs[zw,DA,jW,hj,ho,jX,Wu]
       ·have ho:=Iw hj;by_cases hm:(ay.length:Int)<=(ay[k]).dy
        ·have:=afn (by simp[hj,ho,hm]);simp-implicitDefEqProofs[zw,jW,hj,hm,this]
        ·simp-implicitDefEqProofs[zw,DA,jW,hj,ho,hm,jX,Wu]
      ·have FH:ay.length=k:=by omega
       subst FH;simp-implicitDefEqProofs[zw]<;>(
        rw[Iv]at Wu;simp[Wu])
     ·simp-implicitDefEqProofs[mW]<;>(
       rfl)
   ·simp-implicitDefEqProofs[dA]<;>(
     rfl)
 ·simp-implicitDefEqProofs<;>(
   exact⟨by omega,rfl⟩)
@[simp] theorem WJ(ay:List Instr)(ah:List Int)(az:List (List Int))(h1:ah.length<=1000000000)(h2:az.length<=1000000000)(h3:ay.length<=1000000000):cz X 123 [(ay,ah,az)]=some (.int .i64 (gA (Prog.mk ay ah az))):=by
 refine bd Tryz.func123 rfl rfl ?_;by_cases hz:je ah=true
 case neg=>simp-implicitDefEqProofs[h1,hz,gA]
 by_cases hl:az.length=ah.length
 case neg=>
  have pN:((az.length:Int)=ah.length)=False:=eq_false (by omega);simp-implicitDefEqProofs[h1,hz,hl,pN,gA]
 have hS:=lD.1 hz;simp-implicitDefEqProofs[h1,hz,hl];refine cP (fun i S=>(S.f 1= .ptr 1 0 0/\S.h 1=some ⟨3,[.agg [ay,ah,az]],true⟩/\S.f 22= .sl false (az.map aS)/\S.f 23= .int .i64 ((az).length:Int)/\S.f 24= .int .i64 (i:Int)/\S.n=1100)/\(kU (Prog.mk ay ah az) i=true)) (az.length) ?_ 0 (by simp) ?_
 ·rintro i S kY ⟨dA,hX⟩;have eY:=cS i (by omega);by_cases bI:i<az.length
  ·have g1:i<ah.length:=by omega
   have gz:=hS.elem i g1;have g3:kU (Prog.mk ay ah az) (i+1)=(kU (Prog.mk ay ah az) i&&decide (((az[i]).length:Int)<=ah[i])):=Ey bI g1;by_cases hc:((az[i]).length:Int)<=ah[i]
   ·have wm: ¬(ah[i]<((az[i]).length:Int)):=by omega
    simp-implicitDefEqProofs[dA,eY,bI,g1,hc,wm,g3,hX]
   ·have wm:ah[i]<((az[i]).length:Int):=by omega
    have bad:gA (Prog.mk ay ah az)=1:=uO (p:=(Prog.mk ay ah az)) hz hl (Cg (p:=(Prog.mk ay ah az)) bI bI g1 hc);simp-implicitDefEqProofs[dA,bI,g1,wm,bad]
  ·have ko:az.length=i:=by omega
   subst ko;have d1:kU (Prog.mk ay ah az) az.length=true:=hX;by_cases c1:(ay.length:Int)=0
   ·have Yw:ay.length<1:=by omega
    have c1m:ay.length=0:=by omega
    have e:gA (Prog.mk ay ah az)=3:=tC (p:=(Prog.mk ay ah az)) hz hl d1 Yw;simp-implicitDefEqProofs[dA,c1m,e]
   by_cases c2:64<(ay.length:Int)
   ·have c2n:64<ay.length:=by omega
    have Yw: ¬ay.length<1:=by omega
    have c1m: ¬ay.length=0:=by omega
    have e:gA (Prog.mk ay ah az)=3:=uP (p:=(Prog.mk ay ah az)) hz hl d1 c2n;simp-implicitDefEqProofs[dA,c2,c1m,e]
   have c2n: ¬64<ay.length:=by omega
   have Yw: ¬ay.length<1:=by omega
   have c1m: ¬ay.length=0:=by omega
   have key:gA (Prog.mk ay ah az)=if mH ay=false then 5 else if lN ay.length ah.length ay=false then 6 else 0:=rJ (p:=(Prog.mk ay ah az)) hz hl d1 Yw c2n
   rw[key];clear key;simp-implicitDefEqProofs[dA,c2,c1m];refine cP (fun j S=>(S.f 1= .ptr 1 0 0/\S.h 1=some ⟨3,[.agg [ay,ah,az]],true⟩/\S.f 5= .int .i64 (Iy ay.length ah.length (ay.take j))/\S.f 49= .sl false (ay.map Instr.e)/\S.f 50= .int .i64 ((ay).length:Int)/\S.f 51= .int .i64 (j:Int)/\S.n=1100)/\(mH (ay.take j)=true)) (ay.length) ?_ 0 (by simp) ?_
   ·rintro j S jk ⟨mW,uN⟩;have pM:=cS j (by omega);by_cases fX:j<ay.length
    ·cases hi:lg ay[j]
     ·have:=Ci fX hi;simp-implicitDefEqProofs[mW,fX,hi,this]
     ·have hu:=Ch fX;have hn0:ng ay.length ah.length ay[j]=(!(jumps (ay[j]).op&&decide ((ay.length:Int)<=(ay[j]).dy))&& !(decide ((ay[j]).op=15)&&decide ((ah.length:Int)<=(ay[j]).dy))):=rfl;have jX:Iy ay.length ah.length (ay.take (j+1))=if ng ay.length ah.length ay[j]=true then Iy ay.length ah.length (ay.take j) else 6:=by
       unfold Iy;rw[Cj fX];cases lN ay.length ah.length (ay.take j)<;>cases ng ay.length ah.length ay[j]<;>rfl
      rw[hn0]at jX;cases hj:jumps (ay[j]).op
      ·by_cases ho:(ay[j]).op=15
       ·have Iz:=eq_true ho;by_cases hm:(ah.length:Int)<=(ay[j]).dy
        ·simp[hj,Iz,hm]at jX;simp-implicitDefEqProofs[mW,pM,fX,hi,hj,Iz,hm,hu,jX,uN]
        ·simp[hj,Iz,hm]at jX;simp-implicitDefEqProofs[mW,pM,fX,hi,hj,Iz,hm,hu,jX,uN]
       ·rw[hj]at jX;simp[ho]at jX;simp-implicitDefEqProofs[mW,pM,fX,hi,hj,ho,hu,jX,uN]
      ·have ho:=Iw hj;by_cases hm:(ay.length:Int)<=(ay[j]).dy
       ·rw[hj]at jX;simp[ho,hm]at jX;simp-implicitDefEqProofs[mW,pM,fX,hi,hj,hm,hu,jX,uN]
       ·rw[hj]at jX;simp[ho,hm]at jX;simp-implicitDefEqProofs[mW,pM,fX,hi,hj,ho,hm,hu,jX,uN]
    ·have xO:ay.length=j:=by omega
     subst xO;simp-implicitDefEqProofs[mW]<;>(
      rw[Ai]at uN;unfold Iy;cases lN ay.length ah.length ay<;>simp[uN])
   ·simp-implicitDefEqProofs[dA]<;>(
     exact⟨rfl,rfl⟩)
 ·simp-implicitDefEqProofs<;>(
   exact⟨by omega,rfl⟩)
@[simp] theorem QS(ay:List Instr)(ah:List Int)(az:List (List Int))(h1:ah.length<=1000000000)(h2:az.length<=1000000000)(h3:ay.length<=1000000000):cz X 80 [(ay,ah,az)]=some (.int .i64 (gA (Prog.mk ay ah az))):=by
 refine bd Tryz.func80 rfl rfl ?_;simp-implicitDefEqProofs[h1,h2,h3]
@[simp] theorem aip(v:V)(vs:List V):Go.Abs.uq .bad (v::vs)=v:=rfl
@[simp] theorem Eh(l vs:List V):Go.Abs.uq (.de l) vs= .de vs:=rfl
structure mh where
 l:List Int
 time:Int
structure dr (l:List Int) (k:Int):Prop where
 pos:0<=k
 len:(l.length:Int)<=4611686018427387904
def dL(l:List Int)(k n:Int):Int:=if k<l.length then nth l k.toNat % n else 0
def cY(l:List Int)(k:Int):Int:=if k<l.length then k+1 else k
@[simp] theorem dE{l:List Int}{k:Int}(h:dr l k):dr l (cY l k):=by
 refine⟨?_,h.len⟩;have:=h.pos;unfold cY;split<;>omega
theorem dC(l:List Int)(k:Int){n:Int}(h:1<=n):0<=dL l k n/\dL l k n<n:=by
 unfold dL;split
 ·exact⟨Int.emod_nonneg _ (by omega),Int.emod_lt_of_pos _ (by omega)⟩
 ·omega
@[simp] theorem gy(bK:List Int)(aV n:Int)(hd:dr bK aV)(hn:1<=n/\n<=4611686018427387904):lZ X ([]) 21 2 (aV,bK) [n]=some (2,.agg [.sl false ((⟨bK,cY bK aV⟩:mh).l.map (V.int .i64)),.int .i64 (⟨bK,cY bK aV⟩:mh).time],[.int .i64 (dL bK aV n)],.bad):=by
 refine dN Tryz.func21 rfl rfl ?_;have h1:=hd.pos;have h2:=hd.len;by_cases h:aV<bK.length
 ·obtain⟨k,rfl⟩:=Int.eq_ofNat_of_zero_le h1;have hk:k<bK.length:=by omega
  have tP: ¬bK.length<=k:=by omega
  have hw:=cS k (by omega);have En:IntKind.i64.wrap ((k:Int)+1-1)=k:=by rw[wrap_i64 (by omega)];omega
  have hw3:IntKind.i64.wrap (k:Int)=k:=wrap_i64 (by omega);have e1:cY bK (k:Int)=(k:Int)+1:=by unfold cY;rw[if_pos h]
  have e2:dL bK (k:Int) n=bK[k] % n:=by unfold dL;rw[if_pos h];simp[cZ hk]
  simp-implicitDefEqProofs[hk,tP,hw,hw3,e1,e2,hn]
 ·have e1:cY bK aV=aV:=by unfold cY;rw[if_neg h]
  have e2:dL bK aV n=0:=by unfold dL;rw[if_neg h]
  have h':(bK.length:Int)<=aV:=by omega
  simp-implicitDefEqProofs[h',e1,e2]
def rO(l:List Int)(k:Int):Int:=if dL l k 5<=2 then dL l (cY l k) 8 else if dL l k 5=3 then 65535-dL l (cY l k) 3 else dL l (cY l k) 65536
def yF(l:List Int)(k:Int):Int:=cY l (cY l k)
theorem VF(l:List Int)(k:Int):yF l k=cY l (cY l k):=rfl
@[simp] theorem yG{l:List Int}{k:Int}(h:dr l k):dr l (yF l k):=dE (dE h)
theorem sM(l:List Int)(k:Int):0<=rO l k/\rO l k<=65535:=by
 have h1:=dC l (cY l k) (n:=8) (by omega);have h2:=dC l (cY l k) (n:=3) (by omega);have h3:=dC l (cY l k) (n:=65536) (by omega);unfold rO;split
 ·omega
 ·split<;>omega
@[simp] theorem P0(bK:List Int)(aV:Int)(hd:dr bK aV):lZ X ([]) 86 2 (aV,bK) []=some (2,.agg [.sl false ((⟨bK,yF bK aV⟩:mh).l.map (V.int .i64)),.int .i64 (⟨bK,yF bK aV⟩:mh).time],[.int .u16 (rO bK aV)],.bad):=by
 refine dN Tryz.func86 rfl rfl ?_;have h0:=dC bK aV (n:=5) (by omega);have h1:=dC bK (cY bK aV) (n:=8) (by omega);have h2:=dC bK (cY bK aV) (n:=3) (by omega);have h3:=dC bK (cY bK aV) (n:=65536) (by omega);have w1:IntKind.u16.wrap (dL bK (cY bK aV) 8)=dL bK (cY bK aV) 8:=wrap_u16 (by omega);have w2:IntKind.u16.wrap (65535-dL bK (cY bK aV) 3)=65535-dL bK (cY bK aV) 3:=wrap_u16 (by omega);have w2':IntKind.i64.wrap (65535-dL bK (cY bK aV) 3)=65535-dL bK (cY bK aV) 3:=wrap_i64 (by omega);have w3:IntKind.u16.wrap (dL bK (cY bK aV) 65536)=dL bK (cY bK aV) 65536:=wrap_u16 (by omega);have hc:dL bK aV 5=0\/dL bK aV 5=1\/dL bK aV 5=2\/dL bK aV 5=3\/dL bK aV 5=4:=by omega
 rcases hc with hc|hc|hc|hc|hc<;>simp-implicitDefEqProofs[hd,hc,w1,w2,w2',w3,rO,VF]
def jN(l:List Int)(k:Int):Nat->List Int×Int
 |0=>([],k)
 |i+1=>((jN l k i).1++ [rO l (jN l k i).2],yF l (jN l k i).2)
theorem F6(l:List Int)(k:Int):jN l k 0=([],k):=rfl
theorem xo(l:List Int)(k:Int)(i:Nat):jN l k (i+1)=((jN l k i).1++ [rO l (jN l k i).2],yF l (jN l k i).2):=rfl
@[simp] theorem CF{l:List Int}{k:Int}(h:dr l k)(i:Nat):dr l (jN l k i).2:=by
 induction i with
 |zero=>exact h
 |succ i ih=>exact yG ih
theorem Av(l:List Int)(k:Int)(i:Nat):(jN l k i).1.length=i:=by
 induction i with
 |zero=>rfl
 |succ i ih=>rw[xo];simp[ih]
def iM(l:List Int)(k n:Int):List Int:=(jN l (cY l k) (dL l k (n+1)).toNat).1
def lQ(l:List Int)(k n:Int):Int:=(jN l (cY l k) (dL l k (n+1)).toNat).2
@[simp] theorem kD{l:List Int}{k n:Int}(h:dr l k):dr l (lQ l k n):=CF (dE h) _
@[simp] theorem Nj(bK:List Int)(aV n:Int)(hd:dr bK aV)(hn:0<=n/\n<=1000):lZ X ([]) 166 2 (aV,bK) [n]=some (2,.agg [.sl false ((⟨bK,lQ bK aV n⟩:mh).l.map (V.int .i64)),.int .i64 (⟨bK,lQ bK aV n⟩:mh).time],[.sl false ((iM bK aV n).map (V.int .u16))],.bad):=by
 refine dN Tryz.func166 rfl rfl ?_;have w0:IntKind.i64.wrap (n+1)=n+1:=wrap_i64 (by omega);have h0:=dC bK aV (n:=n+1) (by omega);obtain⟨N,hN⟩: ∃N:Nat,dL bK aV (n+1)=N:=⟨(dL bK aV (n+1)).toNat,by omega⟩;have e1:iM bK aV n=(jN bK (cY bK aV) N).1:=by unfold iM;rw[hN];rfl
 have e2:lQ bK aV n=(jN bK (cY bK aV) N).2:=by unfold lQ;rw[hN];rfl
 have hd1:=dE hd;have A6:1<=n+1/\n+1<=4611686018427387904:=by omega
 rw[e1,e2];simp-implicitDefEqProofs[hd,w0,A6,hN];refine cP (fun i S=>(S.f 0= .ptr 0 0 0/\S.h 0=some ⟨2,[.agg [.sl false ((⟨bK,(jN bK (cY bK aV) i).2⟩:mh).l.map (V.int .i64)),.int .i64 (⟨bK,(jN bK (cY bK aV) i).2⟩:mh).time]],true⟩/\S.f 5= .bU 5 0 ((((jN bK (cY bK aV) i).1).map (V.int .u16))).length/\S.h 5=some ⟨1,(((jN bK (cY bK aV) i).1).map (V.int .u16)),false⟩/\S.f 6= .int .i64 ((N:Int)-i)/\S.n=1100)/\True) (N) ?_ 0 (by simp) ?_
 ·rintro i S kY ⟨dA,hX⟩;by_cases bI:i<N
  ·have MP:=CF hd1 i;have w1:IntKind.i64.wrap ((N:Int)-i-1)=(N:Int)-(i+1:Nat):=by rw[wrap_i64 (by omega)];omega
   have c1:(0:Int)<(N:Int)-i:=by omega
   have hwl:=Av bK (cY bK aV) i;simp-implicitDefEqProofs[dA,bI,MP,w1,xo];omega
  ·have ko:N=i:=by omega
   subst ko;simp-implicitDefEqProofs[dA]
 ·simp-implicitDefEqProofs<;>(
   simp[F6])
end Go.Proofs.YtejohpnpnaljdaaGreat
