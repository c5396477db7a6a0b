/- Part of a proof: S4. -/
import Derived.Test.YtejohpnpnaljdaaGreatM03
import Derived.Test.YtejohpnpnaljdaaGreatM15
set_option linter.all false
set_option maxRecDepth 20000
set_option maxHeartbeats 20000000
namespace Go.Proofs.YtejohpnpnaljdaaGreat
open Go Go.Abs Go.Abs.lu
def yd{α:Type}(p:α->Bool)(l:List α):Int:=if l.all p=true then-1 else(l.findIdx fun x=> !p x:Nat)
theorem zt{α:Type}{p:α->Bool}{l:List α}:decide (0<=yd p l)= !(l.all p):=by
 unfold yd;cases h:l.all p<;>simp<;>omega
theorem zu{α:Type}{p:α->Bool}{l:List α}(h:l.all p=true):yd p l= -1:=by simp only[yd,h,if_true]
theorem B9{α:Type}{p:α->Bool}{l:List α}{i:Nat}(h:i<l.length)(h1:(l.take i).all p=true)(h2:p l[i]=false):yd p l=i:=by
 have h3:(l.findIdx fun x=> !p x)=i:=by
  rw[List.findIdx_eq h];refine⟨by simp[h2],fun j hj=> ?_⟩;have:=List.all_eq_true.1 h1 l[j] (by
   rw[List.mem_take_iff_getElem];exact⟨j,by omega,rfl⟩)
  simp[this]
 unfold yd;rw[r8 h h2,h3];simp
def eQ:cx:=⟨-1,false,[]⟩
def bY:List cx:=List.replicate 4 eQ
def FI(i:Nat):List V:=List.replicate i (.agg [.int .i64 (-1),.bool false,.sl true []])++List.replicate (4-i) (.agg [.int .i64 0,.bool false,.sl true []])
def my(i:Nat)(x:cx):Bool:=
 if x.tag= -1 then !x.iw&&decide (x.cells.length=0) else decide (0<=x.tag)&& (decide (x.tag<128)&& (decide (x.tag % 4=i)&& (decide (x.cells.length=4)&&eD x.cells)))
def oB(l:List cx)(n:Nat):Bool:=(List.range n).all fun i=>my i (l.getD i eQ)
theorem Es{l:List cx}{i:Nat}(h:i<l.length):oB l (i+1)=(oB l i&&my i l[i]):=by
 unfold oB;rw[List.range_succ,List.all_append];simp[List.getD,h]
theorem Et{l:List cx}{i n:Nat}(h:i<l.length)(hn:i<n)(hp:my i l[i]=false):oB l n=false:=by
 unfold oB;rw[<-Bool.not_eq_true,List.all_eq_true];intro kn;have:=kn i (by simpa using hn);simp[List.getD,h]at this;rw[hp]at this;cases this
def tA(m:aK):Bool:=decide (m.cells.length=512)&& (decide (m.lines.length=4)&& (eD m.cells&&oB m.lines 4))
structure ab2 (i:Nat) (x:cx):Prop where
 none:x.tag= -1->x.iw=false/\x.cells=[]
 some:x.tag≠ -1->0<=x.tag/\x.tag<128/\x.tag % 4=i/\x.cells.length=4
 cells:eD x.cells=true
structure w9 (m:aK):Prop where
 len:m.cells.length=512
 lines:m.lines.length=4
 cells:eD m.cells=true
 line: ∀i (h:i<m.lines.length),ab2 i m.lines[i]
theorem vH{i:Nat}{x:cx}:my i x=true↔ab2 i x:=by
 unfold my;constructor
 ·intro h;split at h
  ·rename_i hc;simp at h;exact⟨fun _=>⟨h.1,h.2⟩,fun g=>absurd hc g,by rw[h.2];rfl⟩
  ·rename_i hc;simp at h;exact⟨fun g=>absurd g hc,fun _=>⟨h.1,h.2.1,h.2.2.1,h.2.2.2.1⟩,h.2.2.2.2⟩
 ·rintro⟨h1,h2,h3⟩;split
  ·rename_i hc;simp[h1 hc]
  ·rename_i hc;simp[h2 hc,h3]
theorem Ip{m:aK}:tA m=true↔w9 m:=by
 unfold tA oB;simp only[Bool.and_eq_true,decide_eq_true_eq,List.all_eq_true,List.mem_range];constructor
 ·rintro⟨h1,h2,h3,h4⟩;exact⟨h1,h2,h3,fun i h=>vH.1 (by simpa[List.getD,h] using h4 i (by omega))⟩
 ·rintro⟨h1,h2,h3,h4⟩;exact⟨h1,h2,h3,fun i h=>by
   have h':i<m.lines.length:=by omega
   simpa[List.getD,h'] using vH.2 (h4 i h')⟩
def look(m:aK)(a:Nat):Cell:=
 if(m.lines.getD (a/4 % 4) eQ).tag=((a/4:Nat):Int) then(m.lines.getD (a/4 % 4) eQ).cells.getD (a % 4) ⟨0,0⟩ else m.cells.getD a ⟨0,0⟩
def lg(i:Instr):Bool:=
 if i.op<0\/24<i.op then false
 else if i.a<0\/8<=i.a\/(fv i.op 0=false/\i.a≠0) then false
 else if i.b<0\/8<=i.b\/(fv i.op 1=false/\i.b≠0) then false
 else if i.c<0\/8<=i.c\/(fv i.op 2=false/\i.c≠0) then false
 else if i.dy<0\/65535<i.dy\/(fv i.op 3=false/\i.dy≠0) then false
 else if jumps i.op=true then decide (i.dy<64)
 else if i.op=15 then decide (i.dy<4)
 else if i.op=23 then decide (i.dy<=15)
 else true
def kz(used:Bool)(v:Int):Bool:=decide (0<=v)&& (decide (v<8)&& (used||decide (v=0)))
def jZ(i:Instr)(k:Nat):Bool:=
 match k with
 |0=>true
 |1=>kz (fv i.op 0) i.a
 |2=>kz (fv i.op 0) i.a&&kz (fv i.op 1) i.b
 |_=>kz (fv i.op 0) i.a&& (kz (fv i.op 1) i.b&&kz (fv i.op 2) i.c)
def afa(i:Instr):Bool:=decide (0<=i.dy)&& (decide (i.dy<=65535)&& ((fv i.op 3||decide (i.dy=0))&& (if jumps i.op=true then decide (i.dy<64) else if i.op=15 then decide (i.dy<4) else if i.op=23 then decide (i.dy<=15) else true)))
def r9(used:Bool)(v iW:Int):Bool:=decide (v=0)||(used&& (decide (0<v)&&decide (v<=iW)))
def FJ(op:Int):Int:=if jumps op=true then 63 else if op=15 then 3 else if op=23 then 15 else 65535
@[simp] theorem Wx:cz X 77 []=some (.sl false (bY.map cx.e)):=by
 refine bd Tryz.func77 rfl rfl ?_;simp-implicitDefEqProofs;refine cP (fun i S=>(S.f 1= .bU 1 0 ((FI i)).length/\S.h 1=some ⟨3,(FI i),false⟩/\S.f 5= .int .i64 (4)/\S.f 6= .int .i64 (i:Int)/\S.n=1100)/\True) (4) ?_ 0 (by simp) ?_
 ·rintro i S kY ⟨dA,hX⟩;by_cases bI:i<4
  ·have:i=0\/i=1\/i=2\/i=3:=by omega
   rcases this with rfl|rfl|rfl|rfl<;>simp-implicitDefEqProofs[dA,bI,FI]<;>decide
  ·have ko:4=i:=by omega
   subst ko;simp-implicitDefEqProofs[dA]<;>(
    rfl)
 ·simp-implicitDefEqProofs<;>(
   exact⟨rfl,rfl⟩)
@[simp] theorem Yk(v:Int):cz X 189 [.int .u16 v]=some (.agg [.int .u8 ((⟨0,v⟩:Cell)).tag,.int .u16 ((⟨0,v⟩:Cell)).val]):=by
 refine bd Tryz.func189 rfl rfl ?_;simp-implicitDefEqProofs
@[simp] theorem ab3(b:Bool):cz X 186 [b]=some (.agg [.int .u8 ((if b=true then⟨0,1⟩ else⟨0,0⟩:Cell)).tag,.int .u16 ((if b=true then⟨0,1⟩ else⟨0,0⟩:Cell)).val]):=by
 refine bd Tryz.func186 rfl rfl ?_;cases b<;>simp-implicitDefEqProofs
@[simp] theorem Yl(b:Bool):cz X 159 [b]=some (.agg [.int .u8 ((if b=true then⟨0,1⟩ else⟨0,0⟩:Cell)).tag,.int .u16 ((if b=true then⟨0,1⟩ else⟨0,0⟩:Cell)).val]):=by
 refine bd Tryz.func159 rfl rfl ?_;cases b<;>simp-implicitDefEqProofs
@[simp] theorem Pm(v from_ to:Int):cz X 128 [v,from_,to]=some (.bool (decide (from_<=v)&&decide (v<=to))):=by
 refine bd Tryz.func128 rfl rfl ?_;simp-implicitDefEqProofs;by_cases h:from_<=v<;>simp[h];omega
@[simp] theorem Pn(fu dp:Int):cz X 130 [.agg [.int .u8 fu,.int .u16 dp]]=some (.bool (!decide (fu<=2))):=by
 refine bd Tryz.func130 rfl rfl ?_;simp-implicitDefEqProofs
@[simp] theorem Po(fu dp:Int):cz X 163 [.agg [.int .u8 fu,.int .u16 dp]]=some (.bool (!decide (fu<=2))):=by
 refine bd Tryz.func163 rfl rfl ?_;simp-implicitDefEqProofs
@[simp] theorem ye(cX:List Cell)(bM:List cx)(addr:Int)(hM:w9 (aK.mk cX bM))(ha:0<=addr/\addr<512):cz X 95 [.agg [cX,bM],addr]=some (.agg [.int .u8 (look (aK.mk cX bM) addr.toNat).tag,.int .u16 (look (aK.mk cX bM) addr.toNat).val]):=by
 refine bd Tryz.func95 rfl rfl ?_;obtain⟨a,rfl⟩:=Int.eq_ofNat_of_zero_le ha.1;obtain⟨n,hn⟩: ∃n:Nat,a/4=n:=⟨_,rfl⟩;obtain⟨r,hr⟩: ∃r:Nat,n % 4=r:=⟨_,rfl⟩;obtain⟨o,ho⟩: ∃o:Nat,a % 4=o:=⟨_,rfl⟩;have hd:(a:Int).tdiv 4=n:=by rw[Int.tdiv_eq_ediv_of_nonneg (by omega)];omega
 have Gv:(a:Int)/4=n:=by omega
 have hw:IntKind.i64.wrap (n:Int)=n:=wrap_i64 (by omega);have rX:(n:Int).tmod 4=r:=by rw[Int.tmod_eq_emod_of_nonneg (by omega)];omega
 have tO:(a:Int).tmod 4=o:=by rw[Int.tmod_eq_emod_of_nonneg (by omega)];omega
 have iU:=hM.lines;have Xb:=hM.len;simp only at iU Xb;have h1:r<bM.length:=by omega
 have sV:r<4:=by omega
 have h2:a<cX.length:=by omega
 have E4:a<512:=by omega
 have Be:(r:Int)<4:=by omega
 have QP:(a:Int)<512:=by omega
 have h5:((a:Int)<0)=False:=eq_false (by omega);have h6:((512:Int)<=a)=False:=eq_false (by omega);by_cases ht:(bM[r]).tag=(n:Int)
 ·have h3:=((hM.line r h1).some (by simp only;omega)).2.2.2;simp only at h3;have h4:o<(bM[r]).cells.length:=by omega
  have h4':o<4:=by omega
  have h4i:(o:Int)<4:=by omega
  simp-implicitDefEqProofs[look,hn,hr,ho,hd,hw,rX,tO,sV,Be,ht,h3,h4',h4i,iU,List.getD]
 ·simp-implicitDefEqProofs[look,hn,hr,hd,hw,rX,sV,Be,QP,E4,ht,Xb,iU,List.getD]
@[simp] theorem QQ(used:Bool)(v iW:Int):cz X 191 [used,v,iW]=some (.bool (r9 used v iW)):=by
 refine bd Tryz.func191 rfl rfl ?_;cases used<;>simp-implicitDefEqProofs[r9];by_cases h:v=0<;>simp[h]<;>by_cases h:0<v<;>simp[h];all_goals omega
@[simp] theorem Ym(op:Int):cz X 192 [op]=some (.int .i64 (FJ op)):=by
 refine bd Tryz.func192 rfl rfl ?_;by_cases h:jumps op=true<;>by_cases h1:op=15<;>by_cases h2:op=23<;>simp-implicitDefEqProofs[h,h1,h2,FJ]
@[simp] theorem Wy(gp AU AV AW nM:Int):cz X 162 [.agg [gp,AU,AV,AW,nM]]=some (.bool (lg (Instr.mk gp AU AV AW nM))):=by
 refine bd Tryz.func162 rfl rfl ?_;by_cases h1:gp<0
 ·simp-implicitDefEqProofs[h1,lg]
 by_cases h2:24<gp
 ·simp-implicitDefEqProofs[h1,h2,lg]
 have ho:0<=gp/\gp<=24:=by omega
 have key:lg (Instr.mk gp AU AV AW nM)=(r9 (fv gp 0) AU 7&& (r9 (fv gp 1) AV 7&& (r9 (fv gp 2) AW 7&&r9 (fv gp 3) nM (FJ gp)))):=by
  unfold lg FJ r9;simp only[h1,h2];cases fv gp 0<;>cases fv gp 1<;>cases fv gp 2<;>cases fv gp 3<;>cases jumps gp<;>grind
 rw[key];clear key;cases g0:r9 (fv gp 0) AU 7
 ·simp-implicitDefEqProofs[ho,h1,h2,g0]
 cases g1:r9 (fv gp 1) AV 7
 ·simp-implicitDefEqProofs[ho,h1,h2,g0,g1]
 cases g2:r9 (fv gp 2) AW 7
 ·simp-implicitDefEqProofs[ho,h1,h2,g0,g1,g2]
 ·simp-implicitDefEqProofs[ho,h1,h2,g0,g1,g2]
@[simp] theorem Wz(gp AU AV AW nM:Int):cz X 52 [.agg [gp,AU,AV,AW,nM]]=some (.bool (lg (Instr.mk gp AU AV AW nM))):=by
 refine bd Tryz.func52 rfl rfl ?_;by_cases h1:gp<0
 ·simp-implicitDefEqProofs[h1,lg]
 by_cases h2:24<gp
 ·simp-implicitDefEqProofs[h1,h2,lg]
 have ho:0<=gp/\gp<=24:=by omega
 have key:lg (Instr.mk gp AU AV AW nM)=(jZ (Instr.mk gp AU AV AW nM) 3&&afa (Instr.mk gp AU AV AW nM)):=by
  unfold lg jZ kz afa;simp only[h1,h2];cases fv gp 0<;>cases fv gp 1<;>cases fv gp 2<;>cases fv gp 3<;>cases jumps gp<;>grind
 rw[key];clear key;simp-implicitDefEqProofs[ho,h1,h2];refine cP (fun k S=>(S.f 1= .ptr 1 0 0/\S.h 1=some ⟨5,[.agg [.int .i64 gp,.int .i64 AU,.int .i64 AV,.int .i64 AW,.int .i64 nM]],true⟩/\S.f 3= .ptr 3 0 0/\S.h 3=some ⟨4,[.agg [.bool ((fv gp) 0),.bool ((fv gp) 1),.bool ((fv gp) 2),.bool ((fv gp) 3)]],true⟩/\S.f 23= .sl false (([AU,AV,AW]).map (V.int .i64))/\S.f 24= .int .i64 (3)/\S.f 25= .int .i64 (k:Int)/\S.n=1100)/\(jZ (Instr.mk gp AU AV AW nM) k=true)) (3) ?_ 0 (by simp) ?_
 ·rintro k S E6 ⟨dA,hX⟩;by_cases jW:k<3
  ·have:k=0\/k=1\/k=2:=by omega
   rcases this with rfl|rfl|rfl
   ·have e0:IntKind.i64.wrap 1=1:=by decide
    have hf:kz (fv gp 0) AU=false->jZ (Instr.mk gp AU AV AW nM) 3=false:=by intro h;simp[jZ,h]
    have ht:kz (fv gp 0) AU=true->jZ (Instr.mk gp AU AV AW nM) 1=true:=by intro h;simp[jZ]at hX⊢;simp[h]
    clear hX;simp-implicitDefEqProofs[dA,jW,e0];cases hu:kz (fv gp 0) AU
    ·simp only[hf hu];clear dA hf ht;unfold kz at hu;cases hv:fv gp 0<;>simp[hv]at hu⊢ <;>omega
    ·simp only[ht hu];clear dA hf ht;unfold kz at hu;cases hv:fv gp 0<;>simp[hv]at hu⊢ <;>omega
   ·have e0:IntKind.i64.wrap 2=2:=by decide
    have hf:kz (fv gp 1) AV=false->jZ (Instr.mk gp AU AV AW nM) 3=false:=by intro h;simp[jZ,h]
    have ht:kz (fv gp 1) AV=true->jZ (Instr.mk gp AU AV AW nM) 2=true:=by intro h;simp[jZ]at hX⊢;simp[hX,h]
    clear hX;simp-implicitDefEqProofs[dA,jW,e0];cases hu:kz (fv gp 1) AV
    ·simp only[hf hu];clear dA hf ht;unfold kz at hu;cases hv:fv gp 1<;>simp[hv]at hu⊢ <;>omega
    ·simp only[ht hu];clear dA hf ht;unfold kz at hu;cases hv:fv gp 1<;>simp[hv]at hu⊢ <;>omega
   ·have e0:IntKind.i64.wrap 3=3:=by decide
    have hf:kz (fv gp 2) AW=false->jZ (Instr.mk gp AU AV AW nM) 3=false:=by intro h;simp[jZ,h]
    have ht:kz (fv gp 2) AW=true->jZ (Instr.mk gp AU AV AW nM) 3=true:=by intro h;simp[jZ]at hX⊢;simp[hX,h]
    clear hX;simp-implicitDefEqProofs[dA,jW,e0];cases hu:kz (fv gp 2) AW
    ·simp only[hf hu];clear dA hf ht;unfold kz at hu;cases hv:fv gp 2<;>simp[hv]at hu⊢ <;>omega
    ·simp only[ht hu];clear dA hf ht;unfold kz at hu;cases hv:fv gp 2<;>simp[hv]at hu⊢ <;>omega
  ·have FH:3=k:=by omega
   subst FH;simp-implicitDefEqProofs[dA]<;>(
    rw[hX];unfold afa;cases fv gp 3<;>cases jumps gp<;>simp<;>grind)
 ·simp-implicitDefEqProofs<;>(
   rfl)
@[simp] theorem Yn(s:List Cell)(hm:s.length<=1000000000):cz X 164 [s,.fn 130 [] []]=some (.int .i64 (yd l4 s)):=by
 refine bd Tryz.func164 rfl rfl ?_;simp-implicitDefEqProofs;refine cP (fun i S=>(S.f 0= .sl false (s.map Cell.e)/\S.f 1= .fn 130 [] []/\S.f 7= .int .i64 ((s).length:Int)/\S.f 8= .int .i64 (i:Int)/\S.n=1100)/\(eD (s.take i)=true)) (s.length) ?_ 0 (by simp) ?_
 ·rintro i S kY ⟨dA,hX⟩;have eY:=cS i (by omega);by_cases bI:i<s.length
  ·simp-implicitDefEqProofs[dA,eY,bI]<;>(
    rw[vG bI,hX];refine⟨fun h=> ?_,fun h=>by simpa[l4] using h⟩;rw[B9 bI hX (by simpa[l4] using h)])
  ·have ko:s.length=i:=by omega
   subst ko;simp-implicitDefEqProofs[dA]<;>(
    rw[B8]at hX;exact(zu hX).symm)
 ·simp-implicitDefEqProofs<;>(
   rfl)
@[simp] theorem Yo(s:List Cell)(hm:s.length<=1000000000):cz X 164 [s,.fn 163 [] []]=some (.int .i64 (yd l4 s)):=by
 refine bd Tryz.func164 rfl rfl ?_;simp-implicitDefEqProofs;refine cP (fun i S=>(S.f 0= .sl false (s.map Cell.e)/\S.f 1= .fn 163 [] []/\S.f 7= .int .i64 ((s).length:Int)/\S.f 8= .int .i64 (i:Int)/\S.n=1100)/\(eD (s.take i)=true)) (s.length) ?_ 0 (by simp) ?_
 ·rintro i S kY ⟨dA,hX⟩;have eY:=cS i (by omega);by_cases bI:i<s.length
  ·simp-implicitDefEqProofs[dA,eY,bI]<;>(
    rw[vG bI,hX];refine⟨fun h=> ?_,fun h=>by simpa[l4] using h⟩;rw[B9 bI hX (by simpa[l4] using h)])
  ·have ko:s.length=i:=by omega
   subst ko;simp-implicitDefEqProofs[dA]<;>(
    rw[B8]at hX;exact(zu hX).symm)
 ·simp-implicitDefEqProofs<;>(
   rfl)
@[simp] theorem Yp(s:List Cell)(hm:s.length<=1000000000):cz X 129 [s,.fn 130 [] []]=some (.bool (!eD s)):=by
 refine bd Tryz.func129 rfl rfl ?_;simp-implicitDefEqProofs[hm,zt,eD]
@[simp] theorem Yq(s:List Cell)(hm:s.length<=1000000000):cz X 129 [s,.fn 163 [] []]=some (.bool (!eD s)):=by
 refine bd Tryz.func129 rfl rfl ?_;simp-implicitDefEqProofs[hm,zt,eD]
@[simp] theorem UJ(l:List Cell)(n:Int)(hm:l.length<=1000000000):cz X 125 [l,n]=some (.bool (decide (l.length=n)&&eD l)):=by
 refine bd Tryz.func125 rfl rfl ?_;by_cases h:(l.length:Int)=n
 ·simp-implicitDefEqProofs[hm,h]
 ·simp-implicitDefEqProofs[h]
@[simp] theorem Yr(yf:List Cell)(jx:List cx)(yg:List Cell)(me:List cx)(hc:yf.length<=1000000000)(hl:jx.length<=1000000000)(hx: ∀i (h:i<jx.length),(jx[i]).cells.length<=1000000000):cz X 66 [.agg [yf,jx],.agg [yg,me]]=some (.bool (decide ((aK.mk yf jx)=(aK.mk yg me)))):=by
 refine bd Tryz.func66 rfl rfl ?_;by_cases h1:yf=yg
 case neg=>simp-implicitDefEqProofs[hc,h1,aK.eq_iff]
 have Pp:yg.length<=1000000000:=h1▸hc;by_cases QP:(jx.length:Int)=me.length
 case neg=>
  have h3: ¬jx=me:=fun h=>QP (by rw[h]);simp-implicitDefEqProofs[h1,Pp,QP,h3,aK.eq_iff]
 have h2:jx.length=me.length:=by omega
 simp-implicitDefEqProofs[h1,Pp,QP,aK.eq_iff];refine cP (fun i S=>(S.f 2= .ptr 2 0 0/\S.h 2=some ⟨2,[.agg [yf,jx]],true⟩/\S.f 3= .ptr 3 0 0/\S.h 3=some ⟨2,[.agg [yg,me]],true⟩/\S.f 25= .int .i64 ((jx).length:Int)/\S.f 26= .int .i64 (i:Int)/\S.n=1100)/\(jx.take i=me.take i)) (jx.length) ?_ 0 (by simp) ?_
 ·rintro i S kY ⟨dA,hX⟩;have eY:=cS i (by omega);by_cases bI:i<jx.length
  ·have g1:i<me.length:=by omega
   have g2:=hx i bI;have g3: ¬jx[i]=me[i]-> ¬jx=me:=fun h g=>h (by subst g;rfl);rw[cx.eq_iff]at g3;by_cases e1:(jx[i]).tag=(me[i]).tag
   case neg=>
    simp-implicitDefEqProofs[dA,bI,g1,e1];exact g3 (fun h=>e1 h.1)
   by_cases e2:(jx[i]).iw=(me[i]).iw
   case neg=>
    simp-implicitDefEqProofs[dA,bI,g1,e1,e2];exact g3 (fun h=>e2 h.2.1)
   by_cases e3:(jx[i]).cells=(me[i]).cells
   case neg=>
    simp-implicitDefEqProofs[dA,bI,g1,g2,e1,e2,e3];exact g3 (fun h=>e3 h.2.2)
   have g2b:(me[i]).cells.length<=1000000000:=e3▸g2;simp-implicitDefEqProofs[dA,eY,bI,g1,g2b,e1,e2,e3];exact Bd bI g1 hX ((cx.eq_iff _ _).2 ⟨e1,e2,e3⟩)
  ·have ko:jx.length=i:=by omega
   subst ko;simp-implicitDefEqProofs[dA]<;>(
    exact yb (i:=jx.length) (by omega) h2 hX)
 ·simp-implicitDefEqProofs<;>(
   exact⟨by rw[h1],by omega⟩)
@[simp] theorem WA(i jT:Int)(FK:Bool)(vI:List Cell)(hi:0<=i/\i<4)(hx:vI.length<=1000000000):cz X 126 [i,.agg [jT,FK,vI]]=some (.bool (my i.toNat (cx.mk jT FK vI))):=by
 refine bd Tryz.func126 rfl rfl ?_;obtain⟨k,rfl⟩:=Int.eq_ofNat_of_zero_le hi.1;by_cases h1:jT= -1
 ·cases FK<;>simp-implicitDefEqProofs[h1,my]
 by_cases h2:jT<0
 ·simp-implicitDefEqProofs[h1,h2,hx,my];omega
 have h3:jT.tmod 4=jT % 4:=Int.tmod_eq_emod_of_nonneg (by omega);have E4:0<=jT:=by omega
 by_cases h4:jT<128
 ·by_cases h6:(vI.length:Int)=4
  case neg=>
   have h6n: ¬vI.length=4:=by omega
   by_cases h5:jT % 4=k
   ·simp-implicitDefEqProofs[h1,E4,h3,h4,h5,h6,h6n,hx,my]
   ·simp-implicitDefEqProofs[h1,E4,h3,h4,h5,h6n,my]
  have h6n:vI.length=4:=by omega
  by_cases h5:jT % 4=k
  ·simp-implicitDefEqProofs[h1,E4,h3,h4,h5,h6n,my]
  ·simp-implicitDefEqProofs[h1,E4,h3,h4,h5,h6n,my]
 ·simp-implicitDefEqProofs[h1,h2,h4,my]
@[simp] theorem UK(cX:List Cell)(bM:List cx)(hc:cX.length<=1000000000)(hl:bM.length<=1000000000)(hx: ∀i (h:i<bM.length),(bM[i]).cells.length<=1000000000):cz X 82 [.agg [cX,bM]]=some (.bool (tA (aK.mk cX bM))):=by
 refine bd Tryz.func82 rfl rfl ?_;by_cases Be:(cX.length:Int)=512
 case neg=>
  have h1: ¬cX.length=512:=by omega
  simp-implicitDefEqProofs[hc,Be,h1,tA]
 have h1:cX.length=512:=by omega
 by_cases h2:eD cX=true
 case neg=>
  simp-implicitDefEqProofs[h1,h2,tA]
 by_cases h3i:(bM.length:Int)=4
 case neg=>
  have h3: ¬bM.length=4:=by omega
  simp-implicitDefEqProofs[h1,h2,h3i,h3,tA]
 have h3:bM.length=4:=by omega
 simp-implicitDefEqProofs[h1,h2,h3];refine cP (fun i S=>(S.f 16= .sl false (bM.map cx.e)/\S.f 17= .int .i64 ((bM).length:Int)/\S.f 18= .int .i64 (i:Int)/\S.n=1100)/\(oB bM i=true)) (4) ?_ 0 (by simp) ?_
 ·rintro i S kY ⟨dA,hX⟩;have eY:=cS i (by omega);by_cases bI:i<4
  ·have g1:i<bM.length:=by omega
   have g2:=hx i g1;have g3:my i bM[i]=false->tA (aK.mk cX bM)=false:=fun h=>by
    unfold tA;rw[Et g1 bI h];simp
   have g4:oB bM (i+1)=(oB bM i&&my i bM[i]):=Es g1;have g5:(i:Int)<4:=by omega
   simp-implicitDefEqProofs[dA,eY,bI,g1,g2,g4,g5,hX];cases h:my i bM[i]<;>simp[g3,h]
  ·have ko:4=i:=by omega
   subst ko;simp-implicitDefEqProofs[dA,bI]<;>(
    unfold tA;simp[h1,h2,h3,hX])
 ·simp-implicitDefEqProofs<;>(
   exact⟨by omega,rfl⟩)
@[simp] theorem WB(cX:List Cell)(bM:List cx)(hc:cX.length<=1000000000)(hl:bM.length<=1000000000)(hx: ∀i (h:i<bM.length),(bM[i]).cells.length<=1000000000):cz X 70 [.agg [cX,bM]]=some (.bool (tA (aK.mk cX bM))):=by
 refine bd Tryz.func70 rfl rfl ?_;by_cases Be:(cX.length:Int)=512
 case neg=>
  have h1: ¬cX.length=512:=by omega
  simp-implicitDefEqProofs[Be,h1,tA]
 have h1:cX.length=512:=by omega
 by_cases h3i:(bM.length:Int)=4
 case neg=>
  have h3: ¬bM.length=4:=by omega
  simp-implicitDefEqProofs[h1,h3i,h3,tA]
 have h3:bM.length=4:=by omega
 by_cases h2:eD cX=true
 case neg=>
  simp-implicitDefEqProofs[h1,h2,h3,tA]
 simp-implicitDefEqProofs[h1,h2,h3];refine cP (fun i S=>(S.f 22= .sl false (bM.map cx.e)/\S.f 23= .int .i64 ((bM).length:Int)/\S.f 24= .int .i64 (i:Int)/\S.n=1100)/\(oB bM i=true)) (bM.length) ?_ 0 (by simp) ?_
 ·rintro i S kY ⟨dA,hX⟩;have eY:=cS i (by omega);by_cases bI:i<bM.length
  ·have g1:i<bM.length:=by omega
   have g2:=hx i g1;have g3:my i bM[i]=false->tA (aK.mk cX bM)=false:=fun h=>by
    unfold tA;rw[Et g1 (show i<4 by omega) h];simp
   have g4:oB bM (i+1)=(oB bM i&&my i bM[i]):=Es g1;have g5:(i:Int)<4:=by omega
   have q5:0<=(bM[i]).tag->((bM[i]).tag).tmod 4=(bM[i]).tag % 4:=fun q2'=>Int.tmod_eq_emod_of_nonneg q2';have g6:oB bM (i+1)=my i bM[i]:=by rw[g4,hX,Bool.true_and]
   have g7:(bM[i]).tag= -1->my i bM[i]=(!(bM[i]).iw&&decide ((bM[i]).cells.length=0)):=fun h=>by unfold my;rw[if_pos h]
   have g8: ¬(bM[i]).tag= -1->my i bM[i]=(decide (0<=(bM[i]).tag)&& (decide ((bM[i]).tag<128)&& (decide ((bM[i]).tag % 4=i)&& (decide ((bM[i]).cells.length=4)&&eD (bM[i]).cells)))):=fun h=>by unfold my;rw[if_neg h]
   clear g4;by_cases q1:(bM[i]).tag= -1
   ·rw[g7 q1]at g3 g6;cases q2:(bM[i]).iw
    ·by_cases q3i:((bM[i]).cells.length:Int)=0
     ·have q3:(bM[i]).cells.length=0:=by omega
      have q3l: ¬0<(bM[i]).cells.length:=by omega
      have q3m: ¬0<((bM[i]).cells.length:Int):=by omega
      rw[q2]at g6;simp[q3]at g6;simp-implicitDefEqProofs[dA,eY,bI,q1,q2,q3,g6]
     ·have q3: ¬(bM[i]).cells.length=0:=by omega
      have q3l:0<(bM[i]).cells.length:=by omega
      have q3m:0<((bM[i]).cells.length:Int):=by omega
      have g9:=g3 (by simp[q3]);simp-implicitDefEqProofs[dA,bI,q1,q2,q3l,g9]
    ·have g9:=g3 (by simp[q2]);simp-implicitDefEqProofs[dA,bI,q1,q2,g9]
   rw[g8 q1]at g3 g6;clear g7 g8;by_cases q2:0<=(bM[i]).tag
   case neg=>
    have q2n:(bM[i]).tag<0:=by omega
    have g9:=g3 (by simp[q2]);simp-implicitDefEqProofs[dA,bI,q1,q2n,g9]
   have q2n: ¬(bM[i]).tag<0:=by omega
   by_cases q3:(bM[i]).tag<128
   case neg=>
    have q3n:128<=(bM[i]).tag:=by omega
    have g9:=g3 (by simp[q3]);simp-implicitDefEqProofs[dA,bI,q1,q2n,q3n,g9]
   have q3n: ¬128<=(bM[i]).tag:=by omega
   have q5':=q5 q2;by_cases q4:(bM[i]).tag % 4=i
   case neg=>
    have g9:=g3 (by simp[q4]);simp-implicitDefEqProofs[dA,bI,q1,q2n,q3n,q5',q4,g9]
   by_cases q6i:((bM[i]).cells.length:Int)=4
   case neg=>
    have q6: ¬(bM[i]).cells.length=4:=by omega
    have g9:=g3 (by simp[q6]);simp-implicitDefEqProofs[dA,bI,q1,q2n,q3n,q5',q4,q6i,g9]
   have q6:(bM[i]).cells.length=4:=by omega
   cases q7:eD (bM[i]).cells
   ·have g9:=g3 (by simp[q7]);simp-implicitDefEqProofs[dA,bI,q1,q2n,q3n,q5',q4,q6,q7,g9]
   ·rw[q7]at g6;simp[q2,q3,q4,q6]at g6;simp-implicitDefEqProofs[dA,eY,bI,q1,q2n,q3n,q5',q4,q6,q7,g6]
  ·have ko:bM.length=i:=by omega
   subst ko;simp-implicitDefEqProofs[dA]<;>(
    rw[h3]at hX;unfold tA;simp[h1,h2,h3,hX])
 ·simp-implicitDefEqProofs<;>(
   exact⟨by omega,rfl⟩)
@[simp] theorem UL(jf:Int)(dQ:List Cell)(ns fp dw fq kS kT:Int)(hm:dQ.length<=1000000000):cz X 85 [.agg [jf,dQ,ns,fp,dw,fq,kS,.int .u16 kT]]=some (.bool (lM (Thread.mk jf dQ ns fp dw fq kS kT))):=by
 refine bd Tryz.func85 rfl rfl ?_;simp-implicitDefEqProofs[hm];unfold lM
 grind
@[simp] theorem WC:lY X [(0,1,56)] 226 []=some (.agg [.int .i64 0,.sl false ((List.replicate 8 (⟨0,0⟩:Cell)).map Cell.e),.int .i64 0,.int .i64 0,.int .i64 (-1),.int .i64 (-1),.int .i64 0,.int .u16 0]):=by
 refine kJ Tryz.func226 rfl rfl ?_;simp-implicitDefEqProofs[Cell.bP]
end Go.Proofs.YtejohpnpnaljdaaGreat
