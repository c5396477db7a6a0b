/- Part of a proof: S3. -/
import Derived.Test.YtdngefmliibcgaaGreatM03
import Derived.Test.YtdngefmliibcgaaGreatM04
set_option linter.all false
set_option maxRecDepth 20000
set_option maxHeartbeats 20000000
namespace Go.Proofs.YtdngefmliibcgaaGreat
open Go Go.Abs Go.Abs.fJ
def kS(op:Int)(k:Nat):Bool:=
 if op=1∨op=15∨op=19∨op=20∨op=21 then(k==0)||(k==3)
 else if op=2 then(k==0)||(k==1)
 else if op=16∨op=17 then(k==0)||(k==1)||(k==3)
 else if op=18∨op=23 then k==3
 else if op=22 then k==0
 else if op=0∨op=24 then false
 else(k==0)||(k==1)||(k==2)
def jumps(op:Int):Bool:=decide (op=18)||decide (op=19)||decide (op=20)||decide (op=21)
def jN(op:Int):Bool:=jumps op||decide (op=22)||decide (op=24)
def lp(c:Cell):Bool:=decide (c.tag≤2)
def dr(l:List Cell):Bool:=l.all lp
theorem Au{l:List Cell}{i:Nat}(h:i<l.length):dr (l.take (i+1))=(dr (l.take i)&&lp l[i]):=sY h
theorem ym{l:List Cell}:dr (l.take l.length)=dr l:=by rw[List.take_length]
def mh(t:Thread):Bool:=dr t.aO&& (decide (0≤t.state)&& (decide (t.state≤4)&& (decide (t.aO.length=8)&& (decide (0≤t.pc)&& (decide (t.pc≤255)&& (decide (0≤t.count)&& (decide (t.count≤1099511627776)&& (decide (-1≤t.bK)&& (decide (t.bK≤255)&& (decide (-1≤t.saved)&& (decide (t.saved≤255)&& (decide (0≤t.cz)&& (decide (t.cz≤6))))))))))))))
theorem NY{op:Int}(h:0≤op∧op≤24):op=0∨op=1∨op=2∨op=3∨op=4∨op=5∨op=6∨op=7∨op=8∨op=9∨op=10∨op=11∨op=12∨op=13∨op=14∨op=15∨op=16∨op=17∨op=18∨op=19∨op=20∨op=21∨op=22∨op=23∨op=24:=by omega
@[simp] theorem NZ(op:Int)(ho:0≤op∧op≤24):ba X 288 [.int .i64 op]=some (.agg [.bool (kS op 0),.bool (kS op 1),.bool (kS op 2),.bool (kS op 3)]):=by
 refine aN Tryz.func288 rfl rfl ?_;rcases NY ho with rfl|rfl|rfl|rfl|rfl|rfl|rfl|rfl|rfl|rfl|rfl|rfl|rfl|rfl|rfl|rfl|rfl|rfl|rfl|rfl|rfl|rfl|rfl|rfl|rfl;all_goals simp(maxSteps:=10000000) (maxDischargeDepth:=30) (implicitDefEqProofs:=false)[kS]
@[simp] theorem Py(op:Int):ba X 260 [.int .i64 op]=some (.bool (jumps op)):=by
 refine aN Tryz.func260 rfl rfl ?_;simp(maxSteps:=10000000) (maxDischargeDepth:=30) (implicitDefEqProofs:=false)[jumps];omega
@[simp] theorem N0(op:Int):ba X 263 [.int .i64 op]=some (.bool (jN op)):=by
 refine aN Tryz.func263 rfl rfl ?_;simp(maxSteps:=10000000) (maxDischargeDepth:=30) (implicitDefEqProofs:=false)[jN];cases jumps op<;>simp<;>omega
@[simp] theorem QR(fP:Int)(bI:List Cell)(jf dz cD dA iJ iK:Int)(k:Nat)(hm:bI.length≤1000000000): ∃h',bt X 233 [.agg [.int .i64 fP,.sl false (bI.map Cell.enc),.int .i64 jf,.int .i64 dz,.int .i64 cD,.int .i64 dA,.int .i64 iJ,.int .u16 iK]] qE k=some (.agg [.int .i64 fP,.bJ (k+7) 0 bI.length,.int .i64 jf,.int .i64 dz,.int .i64 cD,.int .i64 dA,.int .i64 iJ,.int .u16 iK],h',k+10)∧h' (k+7)=some ⟨2,bI.map Cell.enc,false⟩:=by
 obtain⟨v,h',n',e,e1,e2,e3⟩:=bh (X:=X) (g:=233) (args:=[.agg [.int .i64 fP,.sl false (bI.map Cell.enc),.int .i64 jf,.int .i64 dz,.int .i64 cD,.int .i64 dA,.int .i64 iJ,.int .u16 iK]]) (h:=qE) (k:=k) (K:=fun v h n=>v= .agg [.int .i64 fP,.bJ (k+7) 0 bI.length,.int .i64 jf,.int .i64 dz,.int .i64 cD,.int .i64 dA,.int .i64 iJ,.int .u16 iK]∧n=k+10∧h (k+7)=some ⟨2,bI.map Cell.enc,false⟩) Tryz.func233 rfl rfl (by
  simp(maxSteps:=10000000) (maxDischargeDepth:=30) (implicitDefEqProofs:=false)[Nat.add_assoc];all_goals ((repeat' (first|apply And.intro|intro _))<;>first|omega|rfl))
 subst e1;subst e2;exact⟨h',e,e3⟩
@[simp] theorem QS(fP:Int)(bI:List Cell)(jf dz cD dA iJ iK cz code:Int)(hm:bI.length≤1000000000):ba X 155 [.agg [.int .i64 fP,.sl false (bI.map Cell.enc),.int .i64 jf,.int .i64 dz,.int .i64 cD,.int .i64 dA,.int .i64 iJ,.int .u16 iK],.int .i64 cz,.int .u16 code]=some (.agg [.int .i64 ((⟨4,bI,jf,dz,cD,dA,cz,code⟩:Thread)).state,.sl false (((⟨4,bI,jf,dz,cD,dA,cz,code⟩:Thread)).aO.map Cell.enc),.int .i64 ((⟨4,bI,jf,dz,cD,dA,cz,code⟩:Thread)).pc,.int .i64 ((⟨4,bI,jf,dz,cD,dA,cz,code⟩:Thread)).count,.int .i64 ((⟨4,bI,jf,dz,cD,dA,cz,code⟩:Thread)).bK,.int .i64 ((⟨4,bI,jf,dz,cD,dA,cz,code⟩:Thread)).saved,.int .i64 ((⟨4,bI,jf,dz,cD,dA,cz,code⟩:Thread)).cz,.int .u16 ((⟨4,bI,jf,dz,cD,dA,cz,code⟩:Thread)).code]):=by
 refine aN Tryz.func155 rfl rfl ?_;obtain⟨h1,e1,e2⟩:=QR fP bI jf dz cD dA iJ iK 6 hm;simp only[Nat.reduceAdd]at e1 e2;simp(maxSteps:=10000000) (maxDischargeDepth:=30) (implicitDefEqProofs:=false)[hm,e1,e2]
def rh{α:Type}(p:α→Bool)(l:List α):Int:=if l.all p=true then-1 else(l.findIdx fun x=> !p x:Nat)
theorem pF{α:Type}{p:α→Bool}{l:List α}:decide (0≤rh p l)= !(l.all p):=by
 unfold rh;cases h:l.all p<;>simp<;>omega
theorem pG{α:Type}{p:α→Bool}{l:List α}(h:l.all p=true):rh p l= -1:=by simp only[rh,h,if_true]
theorem rj{α:Type}{p:α→Bool}{l:List α}{i:Nat}(h:i<l.length)(h1:(l.take i).all p=true)(h2:p l[i]=false):rh p l=i:=by
 have h3:(l.findIdx fun x=> !p x)=i:=by
  rw[List.findIdx_eq h];refine⟨by simp[h2],fun j hj=> ?_⟩;have:=List.all_eq_true.1 h1 l[j] (by
   rw[List.mem_take_iff_getElem];exact⟨j,by omega,rfl⟩)
  simp[this]
 unfold rh;rw[Bw h h2,h3];simp
def j8:bT:=⟨-1,false,[]⟩
def ep:List bT:=List.replicate 4 j8
def Bx(i:Nat):List V:=List.replicate i (.agg [.int .i64 (-1),.bool false,.sl true []])++List.replicate (4-i) (.agg [.int .i64 0,.bool false,.sl true []])
def mZ(i:Nat)(x:bT):Bool:=
 if x.tag= -1 then !x.eU&&decide (x.cells.length=0) else decide (0≤x.tag)&& (decide (x.tag<128)&& (decide (x.tag % 4=i)&& (decide (x.cells.length=4)&&dr x.cells)))
def oU(l:List bT)(n:Nat):Bool:=(List.range n).all fun i=>mZ i (l.getD i j8)
theorem JG{l:List bT}{i:Nat}(h:i<l.length):oU l (i+1)=(oU l i&&mZ i l[i]):=by
 unfold oU;rw[List.range_succ,List.all_append];simp[List.getD,h]
theorem JH{l:List bT}{i n:Nat}(h:i<l.length)(hn:i<n)(hp:mZ i l[i]=false):oU l n=false:=by
 unfold oU;rw[←Bool.not_eq_true,List.all_eq_true];intro iG;have:=iG i (by simpa using hn);simp[List.getD,h]at this;rw[hp]at this;cases this
def yo(m:aF):Bool:=decide (m.cells.length=512)&& (decide (m.lines.length=4)&& (dr m.cells&&oU m.lines 4))
structure N1 (i:Nat) (x:bT):Prop where
 none:x.tag= -1→x.eU=false∧x.cells=[]
 some:x.tag≠ -1→0≤x.tag∧x.tag<128∧x.tag % 4=i∧x.cells.length=4
 cells:dr x.cells=true
structure qh (m:aF):Prop where
 len:m.cells.length=512
 lines:m.lines.length=4
 cells:dr m.cells=true
 line: ∀i (h:i<m.lines.length),N1 i m.lines[i]
theorem vg{i:Nat}{x:bT}:mZ i x=true↔N1 i x:=by
 unfold mZ;constructor
 ·intro h;split at h
  ·rename_i hc;simp at h;exact⟨fun _=>⟨h.1,h.2⟩,fun g=>absurd hc g,by rw[h.2];rfl⟩
  ·rename_i hc;simp at h;exact⟨fun g=>absurd g hc,fun _=>⟨h.1,h.2.1,h.2.2.1,h.2.2.2.1⟩,h.2.2.2.2⟩
 ·rintro⟨h1,h2,h3⟩;split
  ·rename_i hc;simp[h1 hc]
  ·rename_i hc;simp[h2 hc,h3]
theorem Dq{m:aF}:yo m=true↔qh m:=by
 unfold yo oU;simp only[Bool.and_eq_true,decide_eq_true_eq,List.all_eq_true,List.mem_range];constructor
 ·rintro⟨h1,h2,h3,h4⟩;exact⟨h1,h2,h3,fun i h=>vg.1 (by simpa[List.getD,h] using h4 i (by omega))⟩
 ·rintro⟨h1,h2,h3,h4⟩;exact⟨h1,h2,h3,fun i h=>by
   have h':i<m.lines.length:=by omega
   simpa[List.getD,h'] using vg.2 (h4 i h')⟩
def look(m:aF)(a:Nat):Cell:=
 if(m.lines.getD (a/4 % 4) j8).tag=((a/4:Nat):Int) then(m.lines.getD (a/4 % 4) j8).cells.getD (a % 4) ⟨0,0⟩ else m.cells.getD a ⟨0,0⟩
def mR(i:Instr):Bool:=
 if i.op<0∨24<i.op then false
 else if i.a<0∨8≤i.a∨(kS i.op 0=false∧i.a≠0) then false
 else if i.b<0∨8≤i.b∨(kS i.op 1=false∧i.b≠0) then false
 else if i.c<0∨8≤i.c∨(kS i.op 2=false∧i.c≠0) then false
 else if i.cT<0∨65535<i.cT∨(kS i.op 3=false∧i.cT≠0) then false
 else if jumps i.op=true then decide (i.cT<64)
 else if i.op=15 then decide (i.cT<4)
 else if i.op=23 then decide (i.cT≤15)
 else true
def oV(used:Bool)(v Dr:Int):Bool:=decide (v=0)||(used&& (decide (0<v)&&decide (v≤Dr)))
def By(op:Int):Int:=if jumps op=true then 63 else if op=15 then 3 else if op=23 then 15 else 65535
@[simp] theorem QT(v:Int):ba X 302 [.int .u16 v]=some (.agg [.int .u8 ((⟨0,v⟩:Cell)).tag,.int .u16 ((⟨0,v⟩:Cell)).val]):=by
 refine aN Tryz.func302 rfl rfl ?_;simp(maxSteps:=10000000) (maxDischargeDepth:=30) (implicitDefEqProofs:=false)[Cell.aU]
@[simp] theorem Tt(b:Bool):ba X 299 [.bool b]=some (.agg [.int .u8 ((if b=true then⟨0,1⟩ else⟨0,0⟩:Cell)).tag,.int .u16 ((if b=true then⟨0,1⟩ else⟨0,0⟩:Cell)).val]):=by
 refine aN Tryz.func299 rfl rfl ?_;cases b<;>simp(maxSteps:=10000000) (maxDischargeDepth:=30) (implicitDefEqProofs:=false)[Cell.aU]
@[simp] theorem QU(fP:Int)(bI:List Cell)(jf dz cD dA iJ iK r:Int)(hr:0≤r∧r<8)(ht:bI.length=8):ba X 229 [.agg [.int .i64 fP,.sl false (bI.map Cell.enc),.int .i64 jf,.int .i64 dz,.int .i64 cD,.int .i64 dA,.int .i64 iJ,.int .u16 iK],.int .i64 r]=some (.agg [.int .u8 ((bI.getD r.toNat ⟨0,0⟩:Cell)).tag,.int .u16 ((bI.getD r.toNat ⟨0,0⟩:Cell)).val]):=by
 refine aN Tryz.func229 rfl rfl ?_;obtain⟨k,rfl⟩:=Int.eq_ofNat_of_zero_le hr.1;have hk:k<bI.length:=by omega
 have hk8:(k:Int) % 8=k:=by omega
 simp(maxSteps:=10000000) (maxDischargeDepth:=30) (implicitDefEqProofs:=false)[hk,hk8]
@[simp] theorem JI(v from_ to:Int):ba X 220 [.int .i64 v,.int .i64 from_,.int .i64 to]=some (.bool (decide (from_≤v)&&decide (v≤to))):=by
 refine aN Tryz.func220 rfl rfl ?_;simp(maxSteps:=10000000) (maxDischargeDepth:=30) (implicitDefEqProofs:=false)[];by_cases h:from_≤v<;>simp[h];omega
@[simp] theorem JJ(dy cS:Int):ba X 222 [.agg [.int .u8 dy,.int .u16 cS]]=some (.bool (!decide (dy≤2))):=by
 refine aN Tryz.func222 rfl rfl ?_;simp(maxSteps:=10000000) (maxDischargeDepth:=30) (implicitDefEqProofs:=false)[]
@[simp] theorem JK(dy cS:Int):ba X 261 [.agg [.int .u8 dy,.int .u16 cS]]=some (.bool (!decide (dy≤2))):=by
 refine aN Tryz.func261 rfl rfl ?_;simp(maxSteps:=10000000) (maxDischargeDepth:=30) (implicitDefEqProofs:=false)[]
@[simp] theorem Ds(fQ:List Cell)(dp:List bT)(addr:Int)(hM:qh (aF.mk fQ dp))(ha:0≤addr∧addr<512):ba X 235 [.agg [.sl false (fQ.map Cell.enc),.sl false (dp.map bT.enc)],.int .i64 addr]=some (.cg [.agg [.int .u8 (look (aF.mk fQ dp) addr.toNat).tag,.int .u16 (look (aF.mk fQ dp) addr.toNat).val],.bool true]):=by
 refine aN Tryz.func235 rfl rfl ?_;obtain⟨a,rfl⟩:=Int.eq_ofNat_of_zero_le ha.1;obtain⟨n,hn⟩: ∃n:Nat,a/4=n:=⟨_,rfl⟩;obtain⟨r,hr⟩: ∃r:Nat,n % 4=r:=⟨_,rfl⟩;obtain⟨o,ho⟩: ∃o:Nat,a % 4=o:=⟨_,rfl⟩;have hd:(a:Int).tdiv 4=n:=by rw[Int.tdiv_eq_ediv_of_nonneg (by omega)];omega
 have zC:(a:Int)/4=n:=by omega
 have hw:IntKind.i64.wrap (n:Int)=n:=wrap_i64 (by omega);have uM:(n:Int).tmod 4=r:=by rw[Int.tmod_eq_emod_of_nonneg (by omega)];omega
 have wN:(a:Int).tmod 4=o:=by rw[Int.tmod_eq_emod_of_nonneg (by omega)];omega
 have lM:=hM.lines;have R7:=hM.len;simp only at lM R7;have h1:r<dp.length:=by omega
 have rQ:r<4:=by omega
 have h2:a<fQ.length:=by omega
 have BZ:a<512:=by omega
 have KN:(r:Int)<4:=by omega
 have VA:(a:Int)<512:=by omega
 have h5:((a:Int)<0)=False:=eq_false (by omega);have h6:((512:Int)≤a)=False:=eq_false (by omega);by_cases ht:(dp[r]).tag=(n:Int)
 ·have h3:=((hM.line r h1).some (by simp only;omega)).2.2.2;simp only at h3;have h4:o<(dp[r]).cells.length:=by omega
  have h4':o<4:=by omega
  have h4i:(o:Int)<4:=by omega
  simp(maxSteps:=10000000) (maxDischargeDepth:=30) (implicitDefEqProofs:=false)[look,hn,hr,ho,hd,zC,hw,uM,wN,h1,rQ,KN,VA,h2,BZ,ht,h3,h4,h4',h4i,h5,h6,R7,lM,List.getD]
 ·simp(maxSteps:=10000000) (maxDischargeDepth:=30) (implicitDefEqProofs:=false)[look,hn,hr,ho,hd,zC,hw,uM,wN,h1,rQ,KN,VA,h2,BZ,ht,h5,h6,R7,lM,List.getD]
@[simp] theorem KO(used:Bool)(v Dr:Int):ba X 289 [.bool used,.int .i64 v,.int .i64 Dr]=some (.bool (oV used v Dr)):=by
 refine aN Tryz.func289 rfl rfl ?_;cases used<;>simp(maxSteps:=10000000) (maxDischargeDepth:=30) (implicitDefEqProofs:=false)[oV];by_cases h:v=0<;>simp[h]<;>by_cases h:0<v<;>simp[h];all_goals omega
@[simp] theorem QV(op:Int):ba X 290 [.int .i64 op]=some (.int .i64 (By op)):=by
 refine aN Tryz.func290 rfl rfl ?_;by_cases h:jumps op=true<;>by_cases h1:op=15<;>by_cases h2:op=23<;>simp(maxSteps:=10000000) (maxDischargeDepth:=30) (implicitDefEqProofs:=false)[h,h1,h2,By]
@[simp] theorem Pz(nQ VB VC VD Av:Int):ba X 259 [.agg [.int .i64 nQ,.int .i64 VB,.int .i64 VC,.int .i64 VD,.int .i64 Av]]=some (.bool (mR (Instr.mk nQ VB VC VD Av))):=by
 refine aN Tryz.func259 rfl rfl ?_;by_cases h1:nQ<0
 ·simp(maxSteps:=10000000) (maxDischargeDepth:=30) (implicitDefEqProofs:=false)[h1,mR]
 by_cases h2:24<nQ
 ·simp(maxSteps:=10000000) (maxDischargeDepth:=30) (implicitDefEqProofs:=false)[h1,h2,mR]
 have ho:0≤nQ∧nQ≤24:=by omega
 have key:mR (Instr.mk nQ VB VC VD Av)=(oV (kS nQ 0) VB 7&& (oV (kS nQ 1) VC 7&& (oV (kS nQ 2) VD 7&&oV (kS nQ 3) Av (By nQ)))):=by
  unfold mR By oV;simp only[h1,h2];cases kS nQ 0<;>cases kS nQ 1<;>cases kS nQ 2<;>cases kS nQ 3<;>cases jumps nQ<;>grind
 rw[key];clear key;cases g0:oV (kS nQ 0) VB 7
 ·simp(maxSteps:=10000000) (maxDischargeDepth:=30) (implicitDefEqProofs:=false)[ho,h1,h2,g0]
 cases g1:oV (kS nQ 1) VC 7
 ·simp(maxSteps:=10000000) (maxDischargeDepth:=30) (implicitDefEqProofs:=false)[ho,h1,h2,g0,g1]
 cases g2:oV (kS nQ 2) VD 7
 ·simp(maxSteps:=10000000) (maxDischargeDepth:=30) (implicitDefEqProofs:=false)[ho,h1,h2,g0,g1,g2]
 ·simp(maxSteps:=10000000) (maxDischargeDepth:=30) (implicitDefEqProofs:=false)[ho,h1,h2,g0,g1,g2]
@[simp] theorem QW(s:List Cell)(hm:s.length≤1000000000):ba X 262 [.sl false (s.map Cell.enc),.fn 261 [] []]=some (.int .i64 (rh lp s)):=by
 refine aN Tryz.func262 rfl rfl ?_;simp(maxSteps:=10000000) (maxDischargeDepth:=30) (implicitDefEqProofs:=false)[];refine fh (fun i S=>(S.f 0= .sl false (s.map Cell.enc)∧S.f 1= .fn 261 [] []∧S.f 7= .int .i64 ((s).length:Int)∧S.f 8= .int .i64 (i:Int)∧S.n=1100)∧(dr (s.take i)=true)) (s.length) ?_ 0 (by simp) ?_
 ·rintro i S dQ ⟨eg,jn⟩;have dh:=dY i (by omega);by_cases bk:i<s.length
  ·simp(maxSteps:=10000000) (maxDischargeDepth:=30) (implicitDefEqProofs:=false)[eg,dQ,dh,bk]<;>(
    rw[Au bk,jn];refine⟨fun h=> ?_,fun h=>by simpa[lp] using h⟩;rw[rj bk jn (by simpa[lp] using h)])
  ·have mP:s.length=i:=by omega
   subst mP;simp(maxSteps:=10000000) (maxDischargeDepth:=30) (implicitDefEqProofs:=false)[eg,dQ,dh,bk]<;>(
    rw[ym]at jn;exact(pG jn).symm)
 ·simp(maxSteps:=10000000) (maxDischargeDepth:=30) (implicitDefEqProofs:=false)[]<;>(
   rfl)
@[simp] theorem QX(s:List Cell)(hm:s.length≤1000000000):ba X 262 [.sl false (s.map Cell.enc),.fn 222 [] []]=some (.int .i64 (rh lp s)):=by
 refine aN Tryz.func262 rfl rfl ?_;simp(maxSteps:=10000000) (maxDischargeDepth:=30) (implicitDefEqProofs:=false)[];refine fh (fun i S=>(S.f 0= .sl false (s.map Cell.enc)∧S.f 1= .fn 222 [] []∧S.f 7= .int .i64 ((s).length:Int)∧S.f 8= .int .i64 (i:Int)∧S.n=1100)∧(dr (s.take i)=true)) (s.length) ?_ 0 (by simp) ?_
 ·rintro i S dQ ⟨eg,jn⟩;have dh:=dY i (by omega);by_cases bk:i<s.length
  ·simp(maxSteps:=10000000) (maxDischargeDepth:=30) (implicitDefEqProofs:=false)[eg,dQ,dh,bk]<;>(
    rw[Au bk,jn];refine⟨fun h=> ?_,fun h=>by simpa[lp] using h⟩;rw[rj bk jn (by simpa[lp] using h)])
  ·have mP:s.length=i:=by omega
   subst mP;simp(maxSteps:=10000000) (maxDischargeDepth:=30) (implicitDefEqProofs:=false)[eg,dQ,dh,bk]<;>(
    rw[ym]at jn;exact(pG jn).symm)
 ·simp(maxSteps:=10000000) (maxDischargeDepth:=30) (implicitDefEqProofs:=false)[]<;>(
   rfl)
@[simp] theorem QY(s:List Cell)(hm:s.length≤1000000000):ba X 221 [.sl false (s.map Cell.enc),.fn 261 [] []]=some (.bool (!dr s)):=by
 refine aN Tryz.func221 rfl rfl ?_;simp(maxSteps:=10000000) (maxDischargeDepth:=30) (implicitDefEqProofs:=false)[hm,pF,dr]
@[simp] theorem QZ(s:List Cell)(hm:s.length≤1000000000):ba X 221 [.sl false (s.map Cell.enc),.fn 222 [] []]=some (.bool (!dr s)):=by
 refine aN Tryz.func221 rfl rfl ?_;simp(maxSteps:=10000000) (maxDischargeDepth:=30) (implicitDefEqProofs:=false)[hm,pF,dr]
@[simp] theorem N2(l:List Cell)(n:Int)(hm:l.length≤1000000000):ba X 217 [.sl false (l.map Cell.enc),.int .i64 n]=some (.bool (decide (l.length=n)&&dr l)):=by
 refine aN Tryz.func217 rfl rfl ?_;by_cases h:(l.length:Int)=n
 ·simp(maxSteps:=10000000) (maxDischargeDepth:=30) (implicitDefEqProofs:=false)[hm,h]
 ·simp(maxSteps:=10000000) (maxDischargeDepth:=30) (implicitDefEqProofs:=false)[hm,h]
@[simp] theorem PA(i m8:Int)(Bz:Bool)(r9:List Cell)(hi:0≤i∧i<4)(hx:r9.length≤1000000000):ba X 218 [.int .i64 i,.agg [.int .i64 m8,.bool Bz,.sl false (r9.map Cell.enc)]]=some (.bool (mZ i.toNat (bT.mk m8 Bz r9))):=by
 refine aN Tryz.func218 rfl rfl ?_;obtain⟨k,rfl⟩:=Int.eq_ofNat_of_zero_le hi.1;by_cases h1:m8= -1
 ·cases Bz<;>simp(maxSteps:=10000000) (maxDischargeDepth:=30) (implicitDefEqProofs:=false)[h1,hx,mZ]
 by_cases h2:m8<0
 ·simp(maxSteps:=10000000) (maxDischargeDepth:=30) (implicitDefEqProofs:=false)[h1,h2,hx,mZ];omega
 have h3:m8.tmod 4=m8 % 4:=Int.tmod_eq_emod_of_nonneg (by omega);have BZ:0≤m8:=by omega
 by_cases h4:m8<128
 ·by_cases h6:(r9.length:Int)=4
  case neg=>
   have Zp: ¬r9.length=4:=by omega
   by_cases h5:m8 % 4=k
   ·simp(maxSteps:=10000000) (maxDischargeDepth:=30) (implicitDefEqProofs:=false)[h1,h2,BZ,h3,h4,h5,h6,Zp,hx,mZ]
   ·simp(maxSteps:=10000000) (maxDischargeDepth:=30) (implicitDefEqProofs:=false)[h1,h2,BZ,h3,h4,h5,h6,Zp,hx,mZ]
  have Zp:r9.length=4:=by omega
  by_cases h5:m8 % 4=k
  ·simp(maxSteps:=10000000) (maxDischargeDepth:=30) (implicitDefEqProofs:=false)[h1,h2,BZ,h3,h4,h5,h6,Zp,hx,mZ]
  ·simp(maxSteps:=10000000) (maxDischargeDepth:=30) (implicitDefEqProofs:=false)[h1,h2,BZ,h3,h4,h5,h6,Zp,hx,mZ]
 ·simp(maxSteps:=10000000) (maxDischargeDepth:=30) (implicitDefEqProofs:=false)[h1,h2,h3,h4,hx,mZ]
@[simp] theorem N3(fQ:List Cell)(dp:List bT)(hc:fQ.length≤1000000000)(hl:dp.length≤1000000000)(hx: ∀i (h:i<dp.length),(dp[i]).cells.length≤1000000000):ba X 146 [.agg [.sl false (fQ.map Cell.enc),.sl false (dp.map bT.enc)]]=some (.bool (yo (aF.mk fQ dp))):=by
 refine aN Tryz.func146 rfl rfl ?_;by_cases KN:(fQ.length:Int)=512
 case neg=>
  have h1: ¬fQ.length=512:=by omega
  simp(maxSteps:=10000000) (maxDischargeDepth:=30) (implicitDefEqProofs:=false)[hc,KN,h1,yo]
 have h1:fQ.length=512:=by omega
 by_cases h2:dr fQ=true
 case neg=>
  simp(maxSteps:=10000000) (maxDischargeDepth:=30) (implicitDefEqProofs:=false)[hc,h1,h2,yo]
 by_cases h3i:(dp.length:Int)=4
 case neg=>
  have h3: ¬dp.length=4:=by omega
  simp(maxSteps:=10000000) (maxDischargeDepth:=30) (implicitDefEqProofs:=false)[hc,h1,h2,h3i,h3,yo]
 have h3:dp.length=4:=by omega
 simp(maxSteps:=10000000) (maxDischargeDepth:=30) (implicitDefEqProofs:=false)[hc,h1,h2,h3];refine fh (fun i S=>(S.f 16= .sl false (dp.map bT.enc)∧S.f 17= .int .i64 ((dp).length:Int)∧S.f 18= .int .i64 (i:Int)∧S.n=1100)∧(oU dp i=true)) (4) ?_ 0 (by simp) ?_
 ·rintro i S dQ ⟨eg,jn⟩;have dh:=dY i (by omega);by_cases bk:i<4
  ·have g1:i<dp.length:=by omega
   have g2:=hx i g1;have g3:mZ i dp[i]=false→yo (aF.mk fQ dp)=false:=fun h=>by
    unfold yo;rw[JH g1 bk h];simp
   have g4:oU dp (i+1)=(oU dp i&&mZ i dp[i]):=JG g1;have g5:(i:Int)<4:=by omega
   simp(maxSteps:=10000000) (maxDischargeDepth:=30) (implicitDefEqProofs:=false)[eg,dQ,dh,bk,g1,g2,g4,g5,jn];cases h:mZ i dp[i]<;>simp[g3,h]
  ·have mP:4=i:=by omega
   subst mP;simp(maxSteps:=10000000) (maxDischargeDepth:=30) (implicitDefEqProofs:=false)[eg,dQ,dh,bk]<;>(
    unfold yo;simp[h1,h2,h3,jn])
 ·simp(maxSteps:=10000000) (maxDischargeDepth:=30) (implicitDefEqProofs:=false)[]<;>(
   exact⟨by omega,rfl⟩)
@[simp] theorem N4(fP:Int)(bI:List Cell)(jf dz cD dA iJ iK:Int)(hm:bI.length≤1000000000):ba X 149 [.agg [.int .i64 fP,.sl false (bI.map Cell.enc),.int .i64 jf,.int .i64 dz,.int .i64 cD,.int .i64 dA,.int .i64 iJ,.int .u16 iK]]=some (.bool (mh (Thread.mk fP bI jf dz cD dA iJ iK))):=by
 refine aN Tryz.func149 rfl rfl ?_;simp(maxSteps:=10000000) (maxDischargeDepth:=30) (implicitDefEqProofs:=false)[hm];unfold mh
 grind
theorem wrap_u16{n:Int}(h:0≤n∧n≤65535):IntKind.u16.wrap n=n:=by
 simp only[IntKind.wrap,IntKind.signed,IntKind.bits,Bool.false_and];simp;omega
def jO(p:Prog)(k:Nat):Bool:=(List.range k).all fun r=>decide (((p.data.getD r []).length:Int)≤nth p.aq r)
theorem JL{p:Prog}{k:Nat}(h:k<p.data.length)(h2:k<p.aq.length):jO p (k+1)=(jO p k&&decide (((p.data[k]).length:Int)≤p.aq[k])):=by
 unfold jO;rw[yk,db h2];simp[List.getD,h]
theorem FV{p:Prog}{k n:Nat}(hn:k<n)(h:k<p.data.length)(h2:k<p.aq.length)(hp: ¬((p.data[k]).length:Int)≤p.aq[k]):jO p n=false:=by
 unfold jO;refine ve hn ?_;rw[db h2];simpa[List.getD,h] using hp
def lq(l:List Instr):Bool:=l.all mR
theorem FW{l:List Instr}{i:Nat}(h:i<l.length):lq (l.take (i+1))=(lq (l.take i)&&mR l[i]):=sY h
theorem FX{l:List Instr}{i:Nat}(h:i<l.length)(hp:mR l[i]=false):lq l=false:=Bw h hp
theorem Dt{l:List Instr}:lq (l.take l.length)=lq l:=by rw[List.take_length]
def oG(n m:Nat)(i:Instr):Bool:= !(jumps i.op&&decide ((n:Int)≤i.cT))&& !(decide (i.op=15)&&decide ((m:Int)≤i.cT))
def mj(n m:Nat)(l:List Instr):Bool:=l.all (oG n m)
theorem FY{n m:Nat}{l:List Instr}{i:Nat}(h:i<l.length):mj n m (l.take (i+1))=(mj n m (l.take i)&&oG n m l[i]):=sY h
def gS(p:Prog):Int:=
 if je p.aq=false then 1 else if p.data.length≠p.aq.length then 1 else if jO p p.data.length=false then 1
 else if p.code.length<1 then 3 else if 64<p.code.length then 3 else if lq p.code=false then 5
 else if mj p.code.length p.aq.length p.code=false then 6 else 0
theorem vU{p:Prog}(h1:je p.aq=true)(h2:p.data.length=p.aq.length)(h3:jO p p.data.length=false):gS p=1:=by
 unfold gS;rw[if_neg (by simp[h1]),if_neg (by simpa using h2),if_pos h3]
theorem ur{p:Prog}(h1:je p.aq=true)(h2:p.data.length=p.aq.length)(h3:jO p p.data.length=true)(h4:p.code.length<1):gS p=3:=by
 unfold gS;rw[if_neg (by simp[h1]),if_neg (by simpa using h2),if_neg (by simp[h3]),if_pos h4]
theorem vV{p:Prog}(h1:je p.aq=true)(h2:p.data.length=p.aq.length)(h3:jO p p.data.length=true)(h4:64<p.code.length):gS p=3:=by
 unfold gS;rw[if_neg (by simp[h1]),if_neg (by simpa using h2),if_neg (by simp[h3]),if_neg (by omega),if_pos h4]
theorem rk{p:Prog}(h1:je p.aq=true)(h2:p.data.length=p.aq.length)(h3:jO p p.data.length=true)(h4: ¬p.code.length<1)(h5: ¬64<p.code.length):
  gS p=if lq p.code=false then 5 else if mj p.code.length p.aq.length p.code=false then 6 else 0:=by
 unfold gS;rw[if_neg (by simp[h1]),if_neg (by simpa using h2),if_neg (by simp[h3]),if_neg h4,if_neg h5]
theorem N5{op:Int}(h:jumps op=true): ¬op=15:=by unfold jumps at h;simp at h;omega
def cE:Thread:=⟨0,[],0,0,0,0,0,0⟩
def Du(n m:Nat)(l:List Instr):Int:=if mj n m l=true then 0 else 6
@[simp] theorem PB(ay:List Instr)(aw:List Int)(aA:List (List Int))(h1:aw.length≤1000000000)(h2:aA.length≤1000000000)(h3:ay.length≤1000000000):ba X 215 [.agg [.sl false (ay.map Instr.enc),.sl false (aw.map (V.int .i64)),.sl false (aA.map bE)]]=some (.int .i64 (gS (Prog.mk ay aw aA))):=by
 refine aN Tryz.func215 rfl rfl ?_;by_cases hz:je aw=true
 case neg=>simp(maxSteps:=10000000) (maxDischargeDepth:=30) (implicitDefEqProofs:=false)[h1,hz,gS]
 by_cases hl:aA.length=aw.length
 case neg=>
  have JM:((aA.length:Int)=aw.length)=False:=eq_false (by omega);simp(maxSteps:=10000000) (maxDischargeDepth:=30) (implicitDefEqProofs:=false)[h1,hz,hl,JM,gS]
 have hS:=kR.1 hz;simp(maxSteps:=10000000) (maxDischargeDepth:=30) (implicitDefEqProofs:=false)[h1,hz,hl];refine fh (fun i S=>(S.f 1= .ptr 1 0 0∧S.h 1=some ⟨3,[.agg [.sl false (ay.map Instr.enc),.sl false (aw.map (V.int .i64)),.sl false (aA.map bE)]],true⟩∧S.f 22= .sl false (aA.map bE)∧S.f 23= .int .i64 ((aA).length:Int)∧S.f 24= .int .i64 (i:Int)∧S.n=1100)∧(jO (Prog.mk ay aw aA) i=true)) (aA.length) ?_ 0 (by simp) ?_
 ·rintro i S dQ ⟨eg,jn⟩;have dh:=dY i (by omega);by_cases bk:i<aA.length
  ·have g1:i<aw.length:=by omega
   have gz:=hS.elem i g1;have g3:jO (Prog.mk ay aw aA) (i+1)=(jO (Prog.mk ay aw aA) i&&decide (((aA[i]).length:Int)≤aw[i])):=JL bk g1;by_cases hc:((aA[i]).length:Int)≤aw[i]
   ·have wv: ¬(aw[i]<((aA[i]).length:Int)):=by omega
    simp(maxSteps:=10000000) (maxDischargeDepth:=30) (implicitDefEqProofs:=false)[eg,dQ,dh,bk,g1,hc,wv,g3,jn]
   ·have wv:aw[i]<((aA[i]).length:Int):=by omega
    have bad:gS (Prog.mk ay aw aA)=1:=vU (p:=(Prog.mk ay aw aA)) hz hl (FV (p:=(Prog.mk ay aw aA)) bk bk g1 hc);simp(maxSteps:=10000000) (maxDischargeDepth:=30) (implicitDefEqProofs:=false)[eg,dQ,dh,bk,g1,hc,wv,bad]
  ·have mP:aA.length=i:=by omega
   subst mP;have d1:jO (Prog.mk ay aw aA) aA.length=true:=jn;by_cases c1:(ay.length:Int)=0
   ·have VE:ay.length<1:=by omega
    have Zq:ay.length=0:=by omega
    have e:gS (Prog.mk ay aw aA)=3:=ur (p:=(Prog.mk ay aw aA)) hz hl d1 VE;simp(maxSteps:=10000000) (maxDischargeDepth:=30) (implicitDefEqProofs:=false)[eg,dQ,dh,bk,c1,VE,Zq,e]
   by_cases c2:64<(ay.length:Int)
   ·have Zr:64<ay.length:=by omega
    have VE: ¬ay.length<1:=by omega
    have Zq: ¬ay.length=0:=by omega
    have e:gS (Prog.mk ay aw aA)=3:=vV (p:=(Prog.mk ay aw aA)) hz hl d1 Zr;simp(maxSteps:=10000000) (maxDischargeDepth:=30) (implicitDefEqProofs:=false)[eg,dQ,dh,bk,c1,c2,VE,Zr,Zq,e]
   have Zr: ¬64<ay.length:=by omega
   have VE: ¬ay.length<1:=by omega
   have Zq: ¬ay.length=0:=by omega
   have key:gS (Prog.mk ay aw aA)=if lq ay=false then 5 else if mj ay.length aw.length ay=false then 6 else 0:=rk (p:=(Prog.mk ay aw aA)) hz hl d1 VE Zr
   rw[key];clear key;simp(maxSteps:=10000000) (maxDischargeDepth:=30) (implicitDefEqProofs:=false)[eg,dQ,dh,bk,c1,c2,VE,Zr,Zq];refine fh (fun j S=>(S.f 1= .ptr 1 0 0∧S.h 1=some ⟨3,[.agg [.sl false (ay.map Instr.enc),.sl false (aw.map (V.int .i64)),.sl false (aA.map bE)]],true⟩∧S.f 5= .int .i64 (Du ay.length aw.length (ay.take j))∧S.f 49= .sl false (ay.map Instr.enc)∧S.f 50= .int .i64 ((ay).length:Int)∧S.f 51= .int .i64 (j:Int)∧S.n=1100)∧(lq (ay.take j)=true)) (ay.length) ?_ 0 (by simp) ?_
   ·rintro j S mN ⟨xP,FU⟩;have yl:=dY j (by omega);by_cases mQ:j<ay.length
    ·cases hi:mR ay[j]
     ·have:=FX mQ hi;simp(maxSteps:=10000000) (maxDischargeDepth:=30) (implicitDefEqProofs:=false)[dQ,dh,bk,xP,mN,yl,mQ,hi,this]
     ·have hu:=FW mQ;have hn0:oG ay.length aw.length ay[j]=(!(jumps (ay[j]).op&&decide ((ay.length:Int)≤(ay[j]).cT))&& !(decide ((ay[j]).op=15)&&decide ((aw.length:Int)≤(ay[j]).cT))):=rfl;have wG:Du ay.length aw.length (ay.take (j+1))=if oG ay.length aw.length ay[j]=true then Du ay.length aw.length (ay.take j) else 6:=by
       unfold Du;rw[FY mQ];cases mj ay.length aw.length (ay.take j)<;>cases oG ay.length aw.length ay[j]<;>rfl
      rw[hn0]at wG;cases hj:jumps (ay[j]).op
      ·by_cases ho:(ay[j]).op=15
       ·have W9:=eq_true ho;by_cases hm:(aw.length:Int)≤(ay[j]).cT
        ·simp[hj,W9,hm]at wG;simp(maxSteps:=10000000) (maxDischargeDepth:=30) (implicitDefEqProofs:=false)[dQ,dh,bk,xP,mN,yl,mQ,hi,hj,W9,hm,hu,wG,FU]
        ·simp[hj,W9,hm]at wG;simp(maxSteps:=10000000) (maxDischargeDepth:=30) (implicitDefEqProofs:=false)[dQ,dh,bk,xP,mN,yl,mQ,hi,hj,W9,hm,hu,wG,FU]
       ·rw[hj]at wG;simp[ho]at wG;simp(maxSteps:=10000000) (maxDischargeDepth:=30) (implicitDefEqProofs:=false)[dQ,dh,bk,xP,mN,yl,mQ,hi,hj,ho,hu,wG,FU]
      ·have ho:=N5 hj;by_cases hm:(ay.length:Int)≤(ay[j]).cT
       ·rw[hj]at wG;simp[ho,hm]at wG;simp(maxSteps:=10000000) (maxDischargeDepth:=30) (implicitDefEqProofs:=false)[dQ,dh,bk,xP,mN,yl,mQ,hi,hj,ho,hm,hu,wG,FU]
       ·rw[hj]at wG;simp[ho,hm]at wG;simp(maxSteps:=10000000) (maxDischargeDepth:=30) (implicitDefEqProofs:=false)[dQ,dh,bk,xP,mN,yl,mQ,hi,hj,ho,hm,hu,wG,FU]
    ·have Ky:ay.length=j:=by omega
     subst Ky;simp(maxSteps:=10000000) (maxDischargeDepth:=30) (implicitDefEqProofs:=false)[dQ,dh,bk,xP,mN,yl,mQ]<;>(
      rw[Dt]at FU;unfold Du;cases mj ay.length aw.length ay<;>simp[FU])
   ·simp(maxSteps:=10000000) (maxDischargeDepth:=30) (implicitDefEqProofs:=false)[eg,dQ,dh,bk]<;>(
     exact⟨rfl,rfl⟩)
 ·simp(maxSteps:=10000000) (maxDischargeDepth:=30) (implicitDefEqProofs:=false)[]<;>(
   exact⟨by omega,rfl⟩)
@[simp] theorem KP(ay:List Instr)(aw:List Int)(aA:List (List Int))(h1:aw.length≤1000000000)(h2:aA.length≤1000000000)(h3:ay.length≤1000000000):ba X 144 [.agg [.sl false (ay.map Instr.enc),.sl false (aw.map (V.int .i64)),.sl false (aA.map bE)]]=some (.int .i64 (gS (Prog.mk ay aw aA))):=by
 refine aN Tryz.func144 rfl rfl ?_;simp(maxSteps:=10000000) (maxDischargeDepth:=30) (implicitDefEqProofs:=false)[h1,h2,h3]
structure G4 (p:Prog):Prop where
 aq:p.aq.length≤1000000000
 data:p.data.length≤1000000000
 code:p.code.length≤1000000000
structure G5 (m:aJ):Prop where
 aE:m.layout.aE.length≤1000000000
 cells:m.memory.cells.length≤1000000000
 lines:m.memory.lines.length≤1000000000
 line: ∀i (h:i<m.memory.lines.length),(m.memory.lines[i]).cells.length≤1000000000
 threads:m.threads.length≤1000000000
 aO: ∀i (h:i<m.threads.length),(m.threads[i]).aO.length≤1000000000
def ku(l:List Thread):Bool:=l.all mh
theorem Dv{l:List Thread}{i:Nat}(h:i<l.length):ku (l.take (i+1))=(ku (l.take i)&&mh l[i]):=sY h
theorem BA{l:List Thread}:ku (l.take l.length)=ku l:=by rw[List.take_length]
def jP(p:Prog)(m:aJ):Bool:=decide (gS p=0)&& (gQ m.layout.aE p.aq&& (yo m.memory&& (decide (m.threads.length=4)&&ku m.threads)))
@[simp] theorem N6(fP:Int)(bI:List Cell)(jf dz cD dA iJ iK:Int)(hm:bI.length≤1000000000):ba X 148 [.agg [.int .i64 fP,.sl false (bI.map Cell.enc),.int .i64 jf,.int .i64 dz,.int .i64 cD,.int .i64 dA,.int .i64 iJ,.int .u16 iK]]=some (.bool (!mh (Thread.mk fP bI jf dz cD dA iJ iK))):=by
 refine aN Tryz.func148 rfl rfl ?_;simp(maxSteps:=10000000) (maxDischargeDepth:=30) (implicitDefEqProofs:=false)[hm]
def b9(call:Int):List UInt8:=
 if call=0∨call=8∨call=9∨call=11∨call=12 then [78] else if call=1∨call=2 then [72,80,78] else if call=3 then [78,78] else if call=4 then [72]
 else if call=5 then [72,78] else if call=10 then [78,88] else if call=13∨call=14 then [78,80,78] else []
def pH(call:Int):Int:=if call<0∨15<call then-1 else if call=1∨call=13 then 1 else if call=2∨call=14 then 2 else 0
def Aw(call:Int):Int:=if call<0∨15<call then-1 else((b9 call).length:Int)
theorem nS{c:Int}(h:0≤c∧c≤15):c=0∨c=1∨c=2∨c=3∨c=4∨c=5∨c=6∨c=7∨c=8∨c=9∨c=10∨c=11∨c=12∨c=13∨c=14∨c=15:=by omega
@[simp] theorem KQ(call:Int):ba X 266 [.int .i64 call]=some (.cg [.str (if call<0∨15<call then [] else b9 call),.int .i64 (if call<0∨15<call then 0 else pH call),.bool (decide (0≤call∧call≤15))]):=by
 refine aN Tryz.func266 rfl rfl ?_;by_cases h:0≤call∧call≤15
 ·rcases nS h with rfl|rfl|rfl|rfl|rfl|rfl|rfl|rfl|rfl|rfl|rfl|rfl|rfl|rfl|rfl|rfl<;>simp(maxSteps:=10000000) (maxDischargeDepth:=30) (implicitDefEqProofs:=false)[pH,b9]
 ·have n0: ¬call=0:=by omega
  have n1: ¬call=1:=by omega
  have n2: ¬call=2:=by omega
  have n3: ¬call=3:=by omega
  have n4: ¬call=4:=by omega
  have n5: ¬call=5:=by omega
  have n6: ¬call=6:=by omega
  have n7: ¬call=7:=by omega
  have n8: ¬call=8:=by omega
  have n9: ¬call=9:=by omega
  have n10: ¬call=10:=by omega
  have n11: ¬call=11:=by omega
  have n12: ¬call=12:=by omega
  have n13: ¬call=13:=by omega
  have n14: ¬call=14:=by omega
  have n15: ¬call=15:=by omega
  have hf:call<0∨15<call:=by omega
  simp(maxSteps:=10000000) (maxDischargeDepth:=30) (implicitDefEqProofs:=false)[n0,n1,n2,n3,n4,n5,n6,n7,n8,n9,n10,n11,n12,n13,n14,n15,hf,h]
@[simp] theorem D6(call:Int):ba X 228 [.int .i64 call]=some (.int .i64 (Aw call)):=by
 refine aN Tryz.func228 rfl rfl ?_;by_cases h:0≤call∧call≤15
 ·rcases nS h with rfl|rfl|rfl|rfl|rfl|rfl|rfl|rfl|rfl|rfl|rfl|rfl|rfl|rfl|rfl|rfl<;>simp(maxSteps:=10000000) (maxDischargeDepth:=30) (implicitDefEqProofs:=false)[Aw,b9]
 ·have hf:call<0∨15<call:=by omega
  simp(maxSteps:=10000000) (maxDischargeDepth:=30) (implicitDefEqProofs:=false)[h,hf,Aw]
@[simp] theorem JN(call:Int):ba X 231 [.int .i64 call]=some (.int .i64 (pH call)):=by
 refine aN Tryz.func231 rfl rfl ?_;by_cases h:0≤call∧call≤15
 ·rcases nS h with rfl|rfl|rfl|rfl|rfl|rfl|rfl|rfl|rfl|rfl|rfl|rfl|rfl|rfl|rfl|rfl<;>simp(maxSteps:=10000000) (maxDischargeDepth:=30) (implicitDefEqProofs:=false)[pH,b9]
 ·have hf:call<0∨15<call:=by omega
  simp(maxSteps:=10000000) (maxDischargeDepth:=30) (implicitDefEqProofs:=false)[h,hf,pH]
def Tu(kind tag:Int):Bool:=if kind=78 then decide (tag=0) else if kind=72 then decide (tag=2) else if kind=80 then decide (tag=1) else true
def fN(x:Canon):Bool:=
 if x.tag=0∨x.tag=2 then decide (x.region=0)&&decide (x.offset=0)
 else if x.tag=1 then(if x.region= -1 then decide (x.val=0)&& (decide (0≤x.offset)&&decide (x.offset≤65535))
  else decide (x.val=0)&& (decide (0≤x.region)&& (decide (x.region<4)&& (decide (0≤x.offset)&&decide (x.offset<32))))) else false
def fR(l:List Canon):Bool:=l.all fN
theorem JO:fR []=true:=rfl
theorem Dw{l:List Canon}{i:Nat}(h:i<l.length):fR (l.take (i+1))=(fR (l.take i)&&fN l[i]):=sY h
theorem N7{l:List Canon}{i:Nat}(h:i<l.length)(hp:fN l[i]=false):fR l=false:=Bw h hp
theorem Ax{l:List Canon}:fR (l.take l.length)=fR l:=by rw[List.take_length]
@[simp] theorem Q0(m8 G6 nU uv:Int):ba X 242 [.agg [.int .u8 m8,.int .u16 G6,.int .i64 nU,.int .i64 uv]]=some (.bool (fN (Canon.mk m8 G6 nU uv))):=by
 refine aN Tryz.func242 rfl rfl ?_;by_cases t0:m8=0
 ·by_cases r:nU=0<;>simp(maxSteps:=10000000) (maxDischargeDepth:=30) (implicitDefEqProofs:=false)[t0,r,fN]
 by_cases t2:m8=2
 ·by_cases r:nU=0<;>simp(maxSteps:=10000000) (maxDischargeDepth:=30) (implicitDefEqProofs:=false)[t0,t2,r,fN]
 by_cases t1:m8=1
 case neg=>simp(maxSteps:=10000000) (maxDischargeDepth:=30) (implicitDefEqProofs:=false)[t0,t1,t2,fN]
 by_cases r:nU= -1
 ·by_cases v:G6=0
  ·by_cases o:0≤uv<;>simp(maxSteps:=10000000) (maxDischargeDepth:=30) (implicitDefEqProofs:=false)[t1,r,v,o,fN]
  ·simp(maxSteps:=10000000) (maxDischargeDepth:=30) (implicitDefEqProofs:=false)[t1,r,v,fN]
 ·by_cases v:G6=0
  ·by_cases o:0≤nU
   ·by_cases o1:nU<4
    ·by_cases o2:0≤uv<;>simp(maxSteps:=10000000) (maxDischargeDepth:=30) (implicitDefEqProofs:=false)[t1,r,v,o,o1,o2,fN]
    ·simp(maxSteps:=10000000) (maxDischargeDepth:=30) (implicitDefEqProofs:=false)[t1,r,v,o,o1,fN]
   ·simp(maxSteps:=10000000) (maxDischargeDepth:=30) (implicitDefEqProofs:=false)[t1,r,v,o,fN]
  ·simp(maxSteps:=10000000) (maxDischargeDepth:=30) (implicitDefEqProofs:=false)[t1,r,v,fN]
@[simp] theorem N8(dy cS eX gU:Int):ba X 214 [.agg [.int .u8 dy,.int .u16 cS,.int .i64 eX,.int .i64 gU]]=some (.bool (fN (Canon.mk dy cS eX gU))):=by
 refine aN Tryz.func214 rfl rfl ?_;by_cases t0:dy=0
 ·by_cases r:eX=0<;>simp(maxSteps:=10000000) (maxDischargeDepth:=30) (implicitDefEqProofs:=false)[t0,r,fN]
 by_cases t2:dy=2
 ·by_cases r:eX=0<;>simp(maxSteps:=10000000) (maxDischargeDepth:=30) (implicitDefEqProofs:=false)[t0,t2,r,fN]
 by_cases t1:dy=1
 case neg=>simp(maxSteps:=10000000) (maxDischargeDepth:=30) (implicitDefEqProofs:=false)[t0,t1,t2,fN]
 by_cases v:cS=0
 case neg=>
  by_cases r:eX= -1
  ·by_cases o:0≤gU<;>simp(maxSteps:=10000000) (maxDischargeDepth:=30) (implicitDefEqProofs:=false)[t1,r,v,o,fN]
  ·simp(maxSteps:=10000000) (maxDischargeDepth:=30) (implicitDefEqProofs:=false)[t1,r,v,fN]
 by_cases r:eX= -1
 ·by_cases o:0≤gU
  ·by_cases o2:gU≤65535
   ·simp(maxSteps:=10000000) (maxDischargeDepth:=30) (implicitDefEqProofs:=false)[t1,r,v,o,o2,fN]
   ·simp(maxSteps:=10000000) (maxDischargeDepth:=30) (implicitDefEqProofs:=false)[t1,r,v,o,o2,fN]
  ·simp(maxSteps:=10000000) (maxDischargeDepth:=30) (implicitDefEqProofs:=false)[t1,r,v,o,fN]
 ·by_cases o:0≤eX
  ·by_cases o1:eX<4
   ·by_cases o2:0≤gU<;>simp(maxSteps:=10000000) (maxDischargeDepth:=30) (implicitDefEqProofs:=false)[t1,r,v,o,o1,o2,fN]
   ·simp(maxSteps:=10000000) (maxDischargeDepth:=30) (implicitDefEqProofs:=false)[t1,r,v,o,o1,fN]
  ·simp(maxSteps:=10000000) (maxDischargeDepth:=30) (implicitDefEqProofs:=false)[t1,r,v,o,fN]
@[simp] theorem PC(l:List Canon)(n:Int)(hm:l.length≤1000000000):ba X 177 [.sl false (l.map Canon.enc),.int .i64 n]=some (.bool (fR l&&decide ((l.length:Int)≤n))):=by
 refine aN Tryz.func177 rfl rfl ?_;simp(maxSteps:=10000000) (maxDischargeDepth:=30) (implicitDefEqProofs:=false)[];refine fh (fun i S=>(S.f 0= .sl false (l.map Canon.enc)∧S.f 1= .int .i64 n∧S.f 7= .sl false (l.map Canon.enc)∧S.f 8= .int .i64 ((l).length:Int)∧S.f 9= .int .i64 (i:Int)∧S.n=1100)∧(fR (l.take i)=true)) (l.length) ?_ 0 (by simp) ?_
 ·rintro i S dQ ⟨eg,jn⟩;have dh:=dY i (by omega);by_cases bk:i<l.length
  ·cases h:fN l[i]
   ·have:=N7 bk h;simp(maxSteps:=10000000) (maxDischargeDepth:=30) (implicitDefEqProofs:=false)[eg,dQ,dh,bk,h,this]
   ·have:=Dw bk;simp(maxSteps:=10000000) (maxDischargeDepth:=30) (implicitDefEqProofs:=false)[eg,dQ,dh,bk,h,this,jn]
  ·have mP:l.length=i:=by omega
   subst mP;simp(maxSteps:=10000000) (maxDischargeDepth:=30) (implicitDefEqProofs:=false)[eg,dQ,dh,bk]<;>(
    rw[Ax]at jn;simp[jn])
 ·simp(maxSteps:=10000000) (maxDischargeDepth:=30) (implicitDefEqProofs:=false)[]<;>(
   rfl)
@[simp] theorem G7(dy cS eX gU:Int):ba X 258 [.agg [.int .u8 dy,.int .u16 cS,.int .i64 eX,.int .i64 gU]]=some (.bool (!fN (Canon.mk dy cS eX gU))):=by
 refine aN Tryz.func258 rfl rfl ?_;simp(maxSteps:=10000000) (maxDischargeDepth:=30) (implicitDefEqProofs:=false)[]
def gJ(r:Request):Bool:=decide (0≤r.bD)&& (decide (r.bD<4)&& (decide (0≤r.stop)&& (decide (r.stop≤3)&& (decide (0≤r.cz)&& (decide (r.cz≤6)&& (decide (0≤r.count)&& (decide (r.count≤1099511627776)
 && (decide (0≤r.pc)&& (decide (r.pc≤255)&& (decide (0≤r.call)&& (decide (r.call≤15)&& (fR r.args&& (decide (r.args.length≤3)&& (fR r.data&&decide (r.data.length≤16)))))))))))))))
@[simp] theorem PD(cm dN dO cO kT ed:Int)(bY cJ:List Canon)(h1:bY.length≤1000000000)(h2:cJ.length≤1000000000):ba X 94 [.agg [.int .i64 cm,.int .i64 dN,.int .i64 dO,.int .i64 cO,.int .i64 kT,.int .i64 ed,.sl false (bY.map Canon.enc),.sl false (cJ.map Canon.enc)]]=some (.bool (gJ (Request.mk cm dN dO cO kT ed bY cJ))):=by
 refine aN Tryz.func94 rfl rfl ?_;by_cases c1:0≤cm
 case neg=>simp(maxSteps:=10000000) (maxDischargeDepth:=30) (implicitDefEqProofs:=false)[c1,gJ]
 by_cases c2:cm<4
 case neg=>simp(maxSteps:=10000000) (maxDischargeDepth:=30) (implicitDefEqProofs:=false)[c1,c2,gJ]
 by_cases c3:0≤dN
 case neg=>simp(maxSteps:=10000000) (maxDischargeDepth:=30) (implicitDefEqProofs:=false)[c1,c2,c3,gJ]
 by_cases c4:dN≤3
 case neg=>simp(maxSteps:=10000000) (maxDischargeDepth:=30) (implicitDefEqProofs:=false)[c1,c2,c3,c4,gJ]
 by_cases c5:0≤dO
 case neg=>simp(maxSteps:=10000000) (maxDischargeDepth:=30) (implicitDefEqProofs:=false)[c1,c2,c3,c4,c5,gJ]
 by_cases c6:dO≤6
 case neg=>simp(maxSteps:=10000000) (maxDischargeDepth:=30) (implicitDefEqProofs:=false)[c1,c2,c3,c4,c5,c6,gJ]
 by_cases c7:0≤cO
 case neg=>simp(maxSteps:=10000000) (maxDischargeDepth:=30) (implicitDefEqProofs:=false)[c1,c2,c3,c4,c5,c6,c7,gJ]
 by_cases c8:cO≤1099511627776
 case neg=>simp(maxSteps:=10000000) (maxDischargeDepth:=30) (implicitDefEqProofs:=false)[c1,c2,c3,c4,c5,c6,c7,c8,gJ]
 by_cases c9:0≤kT
 case neg=>simp(maxSteps:=10000000) (maxDischargeDepth:=30) (implicitDefEqProofs:=false)[c1,c2,c3,c4,c5,c6,c7,c8,c9,gJ]
 by_cases D7:kT≤255
 case neg=>simp(maxSteps:=10000000) (maxDischargeDepth:=30) (implicitDefEqProofs:=false)[c1,c2,c3,c4,c5,c6,c7,c8,c9,D7,gJ]
 by_cases G8:0≤ed
 case neg=>simp(maxSteps:=10000000) (maxDischargeDepth:=30) (implicitDefEqProofs:=false)[c1,c2,c3,c4,c5,c6,c7,c8,c9,D7,G8,gJ]
 by_cases KR:ed≤15
 case neg=>simp(maxSteps:=10000000) (maxDischargeDepth:=30) (implicitDefEqProofs:=false)[c1,c2,c3,c4,c5,c6,c7,c8,c9,D7,G8,KR,gJ]
 cases PE:fR bY
 case false=>simp(maxSteps:=10000000) (maxDischargeDepth:=30) (implicitDefEqProofs:=false)[c1,c2,c3,c4,c5,c6,c7,c8,c9,D7,G8,KR,PE,h1,gJ]
 by_cases Dx:(bY.length:Int)≤3
 case neg=>
  have PF: ¬bY.length≤3:=by omega
  simp(maxSteps:=10000000) (maxDischargeDepth:=30) (implicitDefEqProofs:=false)[c1,c2,c3,c4,c5,c6,c7,c8,c9,D7,G8,KR,PE,Dx,PF,h1,gJ]
 have PF:bY.length≤3:=by omega
 cases Xb:fR cJ
 case false=>simp(maxSteps:=10000000) (maxDischargeDepth:=30) (implicitDefEqProofs:=false)[c1,c2,c3,c4,c5,c6,c7,c8,c9,D7,G8,KR,PE,Dx,PF,Xb,h1,h2,gJ]
 simp(maxSteps:=10000000) (maxDischargeDepth:=30) (implicitDefEqProofs:=false)[c1,c2,c3,c4,c5,c6,c7,c8,c9,D7,G8,KR,PE,Dx,PF,Xb,h1,h2,gJ];try omega
@[simp] theorem BB(mz rm rn oH Dy rp:Int)(oW oX:List Canon)(mA rq ry oI Dz rz:Int)(qi qj:List Canon)(h1:oW.length≤1000000000)(h2:oX.length≤1000000000):ba X 22 [.agg [.int .i64 mz,.int .i64 rm,.int .i64 rn,.int .i64 oH,.int .i64 Dy,.int .i64 rp,.sl false (oW.map Canon.enc),.sl false (oX.map Canon.enc)],.agg [.int .i64 mA,.int .i64 rq,.int .i64 ry,.int .i64 oI,.int .i64 Dz,.int .i64 rz,.sl false (qi.map Canon.enc),.sl false (qj.map Canon.enc)]]=some (.bool (decide ((Request.mk mz rm rn oH Dy rp oW oX)=(Request.mk mA rq ry oI Dz rz qi qj)))):=by
 refine aN Tryz.func22 rfl rfl ?_;simp(maxSteps:=10000000) (maxDischargeDepth:=30) (implicitDefEqProofs:=false)[h1,h2,Request.eq_iff]
 grind
structure BC (f:mY):Prop where
 data:f.data.length≤4
 each: ∀i (h:i<f.data.length),fR f.data[i]=true∧(f.data[i]).length≤64
 opens:f.opens.length=8
 opn: ∀i (h:i<f.opens.length),((f.opens[i]).file= -1∧(f.opens[i]).offset=0∧(f.opens[i]).write=false)∨
  (∃k,∃g:k<f.data.length,(f.opens[i]).file=(k:Int)∧0≤(f.opens[i]).offset∧(f.opens[i]).offset≤(f.data[k]).length)
def closed:yi:=⟨-1,0,false⟩
structure N9 (o:j6):Prop where
 clock:o.clock.length≤64
 random:o.random.length≤64
 jx:o.jx.length≤2
 input: ∀i (h:i<o.jx.length),(o.jx[i]).length≤64
 files:BC o.files
 fm:o.fm.length≤200
 output: ∀i (h:i<o.fm.length),(o.fm[i]).seq=i∧0≤(o.fm[i]).socket∧(o.fm[i]).socket<2∧(o.fm[i]).data.length≤16∧fR (o.fm[i]).data=true
structure VF (f:mY):Prop where
 data:f.data.length≤4
 each: ∀i (h:i<f.data.length),(f.data[i]).length≤1000000000
 opens:f.opens.length≤1000000000
theorem BC.lens{f:mY}(h:BC f):VF f:=⟨h.data,fun i g=>by have:=(h.each i g).2;omega,by have:=h.opens;omega⟩
def ui(x:uo):Bool:=fN x.value&& (fR x.data&& (decide (x.data.length≤16)&& (decide (-1≤x.spawn)&&decide (x.spawn<4))))
end Go.Proofs.YtdngefmliibcgaaGreat
