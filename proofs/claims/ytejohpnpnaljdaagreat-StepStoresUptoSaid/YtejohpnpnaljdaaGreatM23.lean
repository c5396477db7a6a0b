/- Part of a proof: D3. -/
import Derived.Test.YtejohpnpnaljdaaGreatM22
set_option linter.all false
set_option maxRecDepth 20000
set_option maxHeartbeats 20000000
namespace Go.Proofs.YtejohpnpnaljdaaGreat
open Go Go.Abs Go.Abs.lu
def L0(v:Int):Int:=if v=0 then 3 else if v=1 then 4 else if v=2 then 5 else if v=3 then 10 else if v=4 then 13 else if v=5 then 14 else if v=6 then 11 else 9
def l6(l ae:List Int)(iW at_ r n sr c k:Int):List Instr:=
 if c=0 then [⟨1,3+dL l k 3,0,0,rO l (cY l k)⟩]
 else if c=1 then [⟨L0 (dL l k 8),3+dL l (cY l k) 3,3+dL l (cY l (cY l k)) 3,3+dL l (cY l (cY l (cY l k))) 3,0⟩]
 else if c=2 then [⟨15,6,0,0,r⟩]
 else if c=3\/c=4 then [⟨15,6,0,0,r⟩,⟨17,6,3+dL l k 5,0,dL l (cY l k) sr⟩]
 else if c=5\/c=6 then [⟨15,6,0,0,r⟩,⟨16,3+dL l k 4,6,0,dL l (cY l k) sr⟩]
 else if c=7\/c=8 then [⟨1,0,0,0,dL l k 3⟩,⟨15,1,0,0,r⟩,⟨1,2,0,0,n⟩,⟨23,0,0,0,13⟩]
 else if c=9 then [⟨1,0,0,0,dL l k 3⟩,⟨15,1,0,0,r⟩,⟨1,2,0,0,n⟩,⟨23,0,0,0,14⟩,⟨2,3,0,0,0⟩]
 else if c=10 then [⟨1,0,0,0,dL l k 3⟩,⟨1,1,0,0,dL l (cY l k) 4⟩,⟨23,0,0,0,3⟩,⟨2,7,0,0,0⟩]
 else if c=11 then [⟨2,0,7,0,0⟩,⟨15,1,0,0,r⟩,⟨1,2,0,0,n⟩,⟨23,0,0,0,if dL l k 2=0 then 1 else 2⟩]
 else if c=12 then(if dL l (cY l k) 2=0 then [⟨2,0,7,0,0⟩,⟨23,0,0,0,4⟩] else [⟨2,0,7,0,0⟩,⟨1,1,0,0,dL l k 4⟩,⟨23,0,0,0,5⟩])
 else if c=13 then [⟨23,0,0,0,if dL l k 3=0 then 6 else if dL l k 3=1 then 7 else 15⟩,⟨2,3+dL l (cY l k) 3,0,0,0⟩]
 else if c=14\/c=15 then [⟨1,0,0,0,dL l k 3⟩,⟨23,0,0,0,if dL l (cY l k) 2=0 then 8 else 9⟩]
 else if c=16 then [⟨1,0,0,0,dL l k iW⟩,⟨2,1,3,0,0⟩,⟨23,0,0,0,10⟩]
 else if c=17 then [⟨1,0,0,0,dL l (cY l k) (if dL l k 2=0 then iW else 5)⟩,⟨23,0,0,0,if dL l (cY l (cY l k)) 2=0 then 12 else 11⟩]
 else if c=18 then [⟨1,5,0,0,1+dL l k 4⟩,⟨1,4,0,0,1⟩,⟨4,5,5,4,0⟩,⟨20,5,0,0,at_+2⟩]
 else [yK l ae.length iW k]
def jO(l:List Int)(c k:Int):Int:=
 if c=0 then yF l (cY l k)
 else if c=1 then cY l (cY l (cY l (cY l k)))
 else if c=2 then k
 else if c=3\/c=4 then cY l (cY l k)
 else if c=5\/c=6 then cY l (cY l k)
 else if c=7\/c=8 then cY l k
 else if c=9 then cY l k
 else if c=10 then cY l (cY l k)
 else if c=11 then cY l k
 else if c=12 then cY l (cY l k)
 else if c=13 then cY l (cY l k)
 else if c=14\/c=15 then cY l (cY l k)
 else if c=16 then cY l k
 else if c=17 then cY l (cY l (cY l k))
 else if c=18 then cY l k
 else I8 l k
theorem ka{α:Type}{P:α->Prop}{c:Prop}[Decidable c]{a b:α}(h1:P a)(h2:P b):P (if c then a else b):=by split<;>assumption
theorem P3{l:List Int}{c k:Int}(h:dr l k):dr l (jO l c k):=by
 unfold jO;have h1:=dE h;have h2:=dE h1;have h3:=dE h2;have h4:=dE h3;exact ka (yG h1) (ka h4 (ka h (ka h2 (ka h2 (ka h1 (ka h1 (ka h2 (ka h1 (ka h2 (ka h2 (ka h2 (ka h1 (ka h3 (ka h1 (VH h)))))))))))))))
def m5(x:Int):Int:=if x<5 then x else 5
theorem acp{x:Int}(h:1<=x):1<=m5 x/\m5 x<=5:=by unfold m5;split<;>omega
def yL(l ae:List Int)(k:Int):Int:=dL l k ae.length
def EM(l ae:List Int)(k:Int):Int:=dL l (cY l k) (m5 (nth ae (yL l ae k).toNat+1))
def tW(l ae:List Int)(iW at_ k:Int):List Instr:=
 l6 l ae iW at_ (yL l ae k) (EM l ae k) (nth ae (yL l ae k).toNat) (dL l (cY l (cY l k)) 20) (cY l (cY l (cY l k)))
def CH(l:List Int)(k:Int):Int:=jO l (dL l (cY l (cY l k)) 20) (cY l (cY l (cY l k)))
@[simp] theorem VJ{l:List Int}{k:Int}(h:dr l k):dr l (CH l k):=P3 (dE (dE (dE h)))
theorem c20{c:Int}(h:0<=c/\c<20):c=0\/c=1\/c=2\/c=3\/c=4\/c=5\/c=6\/c=7\/c=8\/c=9\/c=10\/c=11\/c=12\/c=13\/c=14\/c=15\/c=16\/c=17\/c=18\/c=19:=by omega
@[simp] theorem P4(bK:List Int)(aV:Int)(ae:List Int)(iW at_:Int)(hd:dr bK aV)(hz:mw ae)(hm:1<=iW/\iW<=1000)(ha:0<=at_/\at_<=1000):lZ X ([]) 167 2 (aV,bK) [ae,iW,at_]=some (2,.agg [.sl false ((⟨bK,CH bK aV⟩:mh).l.map (V.int .i64)),.int .i64 (⟨bK,CH bK aV⟩:mh).time],[.sl false ((tW bK ae iW at_ aV).map Instr.e)],.bad):=by
 refine dN Tryz.func167 rfl rfl ?_;have z1:=hz.pos;have z2:=hz.le;have A6:1<=(ae.length:Int)/\(ae.length:Int)<=4611686018427387904:=by omega
 have h0:=dC bK aV (n:=ae.length) (by omega);obtain⟨r,hr⟩: ∃r:Nat,dL bK aV ae.length=r:=⟨(dL bK aV ae.length).toNat,by omega⟩;have nN:r<ae.length:=by omega
 have hs:=hz.elem r nN;have e1:yL bK ae aV=r:=hr;have e2:EM bK ae aV=dL bK (cY bK aV) (m5 (ae[r]+1)):=by unfold EM;rw[e1];simp[cZ nN]
 have hq:=acp (x:=ae[r]+1) (by omega);obtain⟨q,hqe⟩: ∃q,m5 (ae[r]+1)=q:=⟨_,rfl⟩;have EN:(if ae[r]+1<5 then ae[r]+1 else 5)=q:=hqe;rw[hqe]at hq e2;have la:1<=q/\q<=4611686018427387904:=by omega
 have Af:IntKind.i64.wrap (ae[r]+1)=ae[r]+1:=wrap_i64 (by omega);obtain⟨n,hn⟩: ∃n,dL bK (cY bK aV) q=n:=⟨_,rfl⟩;have h2:=dC bK (cY bK (cY bK aV)) (n:=20) (by omega);obtain⟨c,hc⟩: ∃c,dL bK (cY bK (cY bK aV)) 20=c:=⟨_,rfl⟩;obtain⟨k,hk⟩: ∃k,cY bK (cY bK (cY bK aV))=k:=⟨_,rfl⟩;have sj:dr bK k:=by rw[<-hk];exact dE (dE (dE hd))
 have ev:tW bK ae iW at_ aV=l6 bK ae iW at_ r n ae[r] c k:=by
  unfold tW;rw[hc,hk,e1,e2,hn];simp[cZ nN]
 have ek:CH bK aV=jO bK c k:=by unfold CH;rw[hc,hk]
 rw[ev,ek];rw[hc]at h2;have w3: ∀k,IntKind.i64.wrap (3+dL bK k 3)=3+dL bK k 3:=fun k=>by have:=dC bK k (n:=3) (by omega);exact wrap_i64 (by omega)
 have w4: ∀k,IntKind.i64.wrap (3+dL bK k 4)=3+dL bK k 4:=fun k=>by have:=dC bK k (n:=4) (by omega);exact wrap_i64 (by omega)
 have w5: ∀k,IntKind.i64.wrap (3+dL bK k 5)=3+dL bK k 5:=fun k=>by have:=dC bK k (n:=5) (by omega);exact wrap_i64 (by omega)
 have w1: ∀k,IntKind.i64.wrap (1+dL bK k 4)=1+dL bK k 4:=fun k=>by have:=dC bK k (n:=4) (by omega);exact wrap_i64 (by omega)
 have ww: ∀k,IntKind.i64.wrap (rO bK k)=rO bK k:=fun k=>by have:=sM bK k;exact wrap_i64 (by omega)
 have wa:IntKind.i64.wrap (at_+2)=at_+2:=wrap_i64 (by omega);have MK:1<=iW/\iW<=4611686018427387904:=by omega
 have ln:1<=ae[r]/\ae[r]<=4611686018427387904:=by omega
 rcases c20 h2 with rfl|rfl|rfl|rfl|rfl|rfl|rfl|rfl|rfl|rfl|rfl|rfl|rfl|rfl|rfl|rfl|rfl|rfl|rfl|rfl
 ·simp(maxSteps:=10000000) (maxDischargeDepth:=30) -implicitDefEqProofs[hd,A6,hr,nN,Af,EN,la,hn,hc,hk,sj,w3,ww,Instr.bP,l6,jO]
 ·have h8:=dC bK k (n:=8) (by omega);have P5:dL bK k 8=0\/dL bK k 8=1\/dL bK k 8=2\/dL bK k 8=3\/dL bK k 8=4\/dL bK k 8=5\/dL bK k 8=6\/dL bK k 8=7:=by omega
  rcases P5 with h8|h8|h8|h8|h8|h8|h8|h8<;>simp(maxSteps:=10000000) (maxDischargeDepth:=30) -implicitDefEqProofs[hd,A6,hr,nN,Af,EN,la,hn,hc,hk,sj,w3,h8,L0,Instr.bP,l6,jO]
 ·simp(maxSteps:=10000000) (maxDischargeDepth:=30) -implicitDefEqProofs[hd,A6,hr,nN,Af,EN,la,hn,hc,hk,sj,Instr.bP,l6,jO]
 ·simp(maxSteps:=10000000) (maxDischargeDepth:=30) -implicitDefEqProofs[hd,A6,hr,nN,Af,EN,la,hn,hc,hk,sj,w5,ln,Instr.bP,l6,jO]
 ·simp(maxSteps:=10000000) (maxDischargeDepth:=30) -implicitDefEqProofs[hd,A6,hr,nN,Af,EN,la,hn,hc,hk,sj,w5,ln,Instr.bP,l6,jO]
 ·simp(maxSteps:=10000000) (maxDischargeDepth:=30) -implicitDefEqProofs[hd,A6,hr,nN,Af,EN,la,hn,hc,hk,sj,w4,ln,Instr.bP,l6,jO]
 ·simp(maxSteps:=10000000) (maxDischargeDepth:=30) -implicitDefEqProofs[hd,A6,hr,nN,Af,EN,la,hn,hc,hk,sj,w4,ln,Instr.bP,l6,jO]
 ·simp(maxSteps:=10000000) (maxDischargeDepth:=30) -implicitDefEqProofs[hd,A6,hr,nN,Af,EN,la,hn,hc,hk,sj,Instr.bP,l6,jO]
 ·simp(maxSteps:=10000000) (maxDischargeDepth:=30) -implicitDefEqProofs[hd,A6,hr,nN,Af,EN,la,hn,hc,hk,sj,Instr.bP,l6,jO]
 ·simp(maxSteps:=10000000) (maxDischargeDepth:=30) -implicitDefEqProofs[hd,A6,hr,nN,Af,EN,la,hn,hc,hk,sj,Instr.bP,l6,jO]
 ·simp(maxSteps:=10000000) (maxDischargeDepth:=30) -implicitDefEqProofs[hd,A6,hr,nN,Af,EN,la,hn,hc,hk,sj,Instr.bP,l6,jO]
 ·have h8:=dC bK k (n:=2) (by omega);have P5:dL bK k 2=0\/dL bK k 2=1:=by omega
  rcases P5 with h8|h8<;>simp(maxSteps:=10000000) (maxDischargeDepth:=30) -implicitDefEqProofs[hd,A6,hr,nN,Af,EN,la,hn,hc,hk,sj,h8,Instr.bP,l6,jO]
 ·have h8:=dC bK (cY bK k) (n:=2) (by omega);have P5:dL bK (cY bK k) 2=0\/dL bK (cY bK k) 2=1:=by omega
  rcases P5 with h8|h8<;>simp(maxSteps:=10000000) (maxDischargeDepth:=30) -implicitDefEqProofs[hd,A6,hr,nN,Af,EN,la,hn,hc,hk,sj,h8,Instr.bP,l6,jO]
 ·have h8:=dC bK k (n:=3) (by omega);have P5:dL bK k 3=0\/dL bK k 3=1\/dL bK k 3=2:=by omega
  rcases P5 with h8|h8|h8<;>simp(maxSteps:=10000000) (maxDischargeDepth:=30) -implicitDefEqProofs[hd,A6,hr,nN,Af,EN,la,hn,hc,hk,sj,w3,h8,Instr.bP,l6,jO]
 ·have h8:=dC bK (cY bK k) (n:=2) (by omega);have P5:dL bK (cY bK k) 2=0\/dL bK (cY bK k) 2=1:=by omega
  rcases P5 with h8|h8<;>simp(maxSteps:=10000000) (maxDischargeDepth:=30) -implicitDefEqProofs[hd,A6,hr,nN,Af,EN,la,hn,hc,hk,sj,h8,Instr.bP,l6,jO]
 ·have h8:=dC bK (cY bK k) (n:=2) (by omega);have P5:dL bK (cY bK k) 2=0\/dL bK (cY bK k) 2=1:=by omega
  rcases P5 with h8|h8<;>simp(maxSteps:=10000000) (maxDischargeDepth:=30) -implicitDefEqProofs[hd,A6,hr,nN,Af,EN,la,hn,hc,hk,sj,h8,Instr.bP,l6,jO]
 ·simp(maxSteps:=10000000) (maxDischargeDepth:=30) -implicitDefEqProofs[hd,A6,hr,nN,Af,EN,la,hn,hc,hk,sj,MK,Instr.bP,l6,jO]
 ·have h8:=dC bK k (n:=2) (by omega);have P5:dL bK k 2=0\/dL bK k 2=1:=by omega
  have h9:=dC bK (cY bK (cY bK k)) (n:=2) (by omega);have h9':dL bK (cY bK (cY bK k)) 2=0\/dL bK (cY bK (cY bK k)) 2=1:=by omega
  rcases P5 with h8|h8<;>rcases h9' with h9|h9<;>simp(maxSteps:=10000000) (maxDischargeDepth:=30) -implicitDefEqProofs[hd,A6,hr,nN,Af,EN,la,hn,hc,hk,sj,MK,h8,h9,Instr.bP,l6,jO]
 ·simp(maxSteps:=10000000) (maxDischargeDepth:=30) -implicitDefEqProofs[hd,A6,hr,nN,Af,EN,la,hn,hc,hk,sj,w1,wa,Instr.bP,l6,jO]
 ·simp(maxSteps:=10000000) (maxDischargeDepth:=30) -implicitDefEqProofs[hd,A6,hr,nN,Af,EN,la,hn,hc,hk,sj,MK,Instr.bP,l6,jO]
def eV(l ae:List Int)(k:Int):Nat->List Instr×Int
 |0=>([],k)
 |i+1=>(if(eV l ae k i).1.length+(tW l ae ((eV l ae k i).1.length+1) (eV l ae k i).1.length (eV l ae k i).2).length<=62
   then(eV l ae k i).1++tW l ae ((eV l ae k i).1.length+1) (eV l ae k i).1.length (eV l ae k i).2 else(eV l ae k i).1,
  CH l (eV l ae k i).2)
theorem vb(l ae:List Int)(k:Int):eV l ae k 0=([],k):=rfl
theorem vU(l ae:List Int)(k:Int)(i:Nat):eV l ae k (i+1)=(if(eV l ae k i).1.length+(tW l ae ((eV l ae k i).1.length+1) (eV l ae k i).1.length (eV l ae k i).2).length<=62
   then(eV l ae k i).1++tW l ae ((eV l ae k i).1.length+1) (eV l ae k i).1.length (eV l ae k i).2 else(eV l ae k i).1,
  CH l (eV l ae k i).2):=rfl
@[simp] theorem zJ{l ae:List Int}{k:Int}(h:dr l k)(i:Nat):dr l (eV l ae k i).2:=by
 induction i with
 |zero=>exact h
 |succ i ih=>exact VJ ih
theorem xr(l ae:List Int)(k:Int)(i:Nat):(eV l ae k i).1.length<=62:=by
 induction i with
 |zero=>simp[vb]
 |succ i ih=>
  rw[vU];simp only;split
  ·rename_i h;simpa using h
  ·exact ih
def gV(l ae:List Int)(k:Int):Nat->List (List Int)×Int
 |0=>([],k)
 |i+1=>((gV l ae k i).1++ [iM l (gV l ae k i).2 (nth ae i)],lQ l (gV l ae k i).2 (nth ae i))
theorem yM(l ae:List Int)(k:Int):gV l ae k 0=([],k):=rfl
theorem tI(l ae:List Int)(k:Int)(i:Nat):gV l ae k (i+1)=((gV l ae k i).1++ [iM l (gV l ae k i).2 (nth ae i)],lQ l (gV l ae k i).2 (nth ae i)):=rfl
theorem vc(l ae:List Int)(k:Int)(i:Nat):(gV l ae k i).1.length=i:=by
 induction i with
 |zero=>rfl
 |succ i ih=>rw[tI];simp[ih]
theorem EO(l ae:List Int)(iW at_ k:Int):(tW l ae iW at_ k).length<=5:=by
 unfold tW l6;have n1: ∀(a:Instr),[a].length<=5:=fun _=>by simp
 have n2: ∀(a b:Instr),[a,b].length<=5:=fun _ _=>by simp
 have n3: ∀(a b c:Instr),[a,b,c].length<=5:=fun _ _ _=>by simp
 have n4: ∀(a b c d:Instr),[a,b,c,d].length<=5:=fun _ _ _ _=>by simp
 have n5: ∀(a b c d e:Instr),[a,b,c,d,e].length<=5:=fun _ _ _ _ _=>by simp
 exact ka (P:=fun x:List Instr=>x.length<=5) (n1 _) (ka (P:=fun x:List Instr=>x.length<=5) (n1 _) (ka (P:=fun x:List Instr=>x.length<=5) (n1 _) (ka (P:=fun x:List Instr=>x.length<=5) (n2 _ _) (ka (P:=fun x:List Instr=>x.length<=5) (n2 _ _)
  (ka (P:=fun x:List Instr=>x.length<=5) (n4 _ _ _ _) (ka (P:=fun x:List Instr=>x.length<=5) (n5 _ _ _ _ _) (ka (P:=fun x:List Instr=>x.length<=5) (n4 _ _ _ _) (ka (P:=fun x:List Instr=>x.length<=5) (n4 _ _ _ _)
  (ka (P:=fun x:List Instr=>x.length<=5) (ka (P:=fun x:List Instr=>x.length<=5) (n2 _ _) (n3 _ _ _)) (ka (P:=fun x:List Instr=>x.length<=5) (n2 _ _) (ka (P:=fun x:List Instr=>x.length<=5) (n2 _ _) (ka (P:=fun x:List Instr=>x.length<=5) (n3 _ _ _)
  (ka (P:=fun x:List Instr=>x.length<=5) (n2 _ _) (ka (P:=fun x:List Instr=>x.length<=5) (n4 _ _ _ _) (n1 _)))))))))))))))
@[simp] theorem xu{l ae:List Int}{k:Int}(h:dr l k)(i:Nat):dr l (gV l ae k i).2:=by
 induction i with
 |zero=>exact h
 |succ i ih=>exact kD ih
def se(n:Int)(i:Instr):Instr:=if jumps i.op=true/\n<=i.dy then{i with dy:=0} else i
def tlV(l:List Int)(code:List Instr)(k:Int):List Instr:=
 if dL l k 4=0 then code++ [⟨18,0,0,0,dL l (cY l k) (code.length+1)⟩] else if dL l k 4=1 then code++ [⟨24,0,0,0,0⟩] else code
def Gy(l:List Int)(k:Int):Int:=if dL l k 4=0 then cY l (cY l k) else cY l k
@[simp] theorem agm{l:List Int}{k:Int}(h:dr l k):dr l (Gy l k):=by unfold Gy;split<;>simp[h]
def P6(l:List Int)(code:List Instr)(k:Int):List Instr:=(tlV l code k++([⟨1,0,0,0,dL l (Gy l k) 9⟩,⟨23,0,0,0,0⟩]:List Instr)).take 64
def jr(n:Int)(c:List Instr):Nat->List Instr
 |0=>c
 |i+1=>(jr n c i).set i (se n (c.getD i ⟨0,0,0,0,0⟩))
theorem xw(n:Int)(c:List Instr):jr n c 0=c:=rfl
theorem py(n:Int)(c:List Instr)(i:Nat):(jr n c i).length=c.length:=by
 induction i with
 |zero=>rfl
 |succ i ih=>rw[jr,List.length_set,ih]
theorem CI(n:Int)(c:List Instr): ∀(i j:Nat),i<=j->(jr n c i)[j]?=c[j]?
 |0,_,_=>rfl
 |i+1,j,h=>by rw[jr,List.getElem?_set_ne (by omega),CI n c i j (by omega)]
theorem I9(n:Int)(c:List Instr): ∀(i j:Nat),j<i->(jr n c i)[j]?=(c[j]?).map (se n)
 |0,_,h=>by omega
 |i+1,j,h=>by
  rw[jr];by_cases he:i=j
  ·subst he;by_cases hl:i<c.length
   ·rw[List.getElem?_set_self (by rw[py];exact hl)];simp[List.getD,hl]
   ·rw[List.getElem?_eq_none (by rw[List.length_set,py];omega),List.getElem?_eq_none (by omega)];rfl
  ·rw[List.getElem?_set_ne he,I9 n c i j (by omega)]
theorem zK(n:Int)(c:List Instr):jr n c c.length=c.map (se n):=by
 apply List.ext_getElem?;intro j;rw[List.getElem?_map];by_cases h:j<c.length
 ·exact I9 n c _ _ h
 ·rw[List.getElem?_eq_none (by rw[py];omega),List.getElem?_eq_none (by omega)];rfl
theorem CJ{n:Int}{c:List Instr}{i:Nat}(h:i<c.length)(h':i<(jr n c i).length):(jr n c i)[i]=c[i]:=by
 have:=CI n c i i (Nat.le_refl _);rw[List.getElem?_eq_getElem h,List.getElem?_eq_getElem h']at this;simpa using this
theorem sO{n:Int}{c:List Instr}{i:Nat}(h:i<c.length)(hj: ¬(jumps (c[i]).op=true/\n<=(c[i]).dy)):jr n c (i+1)=jr n c i:=by
 rw[jr];have e:se n (c.getD i ⟨0,0,0,0,0⟩)=c[i]:=by simp only[List.getD,List.getElem?_eq_getElem h,Option.getD_some];unfold se;rw[if_neg hj]
 rw[e];apply List.ext_getElem?;intro j;by_cases he:i=j
 ·subst he;rw[List.getElem?_set_self (by rw[py];exact h),CI n c i i (Nat.le_refl _),List.getElem?_eq_getElem h]
 ·rw[List.getElem?_set_ne he]
theorem zL{n:Int}{c:List Instr}{i:Nat}(h:i<c.length)(hj:jumps (c[i]).op=true/\n<=(c[i]).dy):jr n c (i+1)=(jr n c i).set i ⟨(c[i]).op,(c[i]).a,(c[i]).b,(c[i]).c,0⟩:=by
 rw[jr];congr 1;simp only[List.getD,List.getElem?_eq_getElem h,Option.getD_some];unfold se;rw[if_pos hj]
theorem zM(x:Instr):(Instr.e x).put 4 (.int .i64 0)=Instr.e ⟨x.op,x.a,x.b,x.c,0⟩:=rfl
theorem Ja(l ae:List Int)(k:Int)(i:Nat):(eV l ae k i).1.length<=5*i:=by
 induction i with
 |zero=>simp[vb]
 |succ i ih=>
  rw[vU];have:=EO l ae ((eV l ae k i).1.length+1) (eV l ae k i).1.length (eV l ae k i).2;simp only;split
  ·rw[List.length_append];omega
  ·omega
theorem zN(l:List Instr)(i:Nat)(x:Instr):(l.map Instr.e).set i (.agg [.int .i64 x.op,.int .i64 x.a,.int .i64 x.b,.int .i64 x.c,.int .i64 0])=(l.set i ⟨x.op,x.a,x.b,x.c,0⟩).map Instr.e:=by rw[List.map_set];rfl
def F8(l:List Int)(k:Int):Int:=(gV l (nz l k) (u9 l k) (nz l k).length).2
def wC(l:List Int)(k:Int):List Instr×Int:=eV l (nz l k) (cY l (F8 l k)) (1+dL l (F8 l k) 12).toNat
def Ax(l:List Int)(k:Int):List Instr:=P6 l (wC l k).1 (wC l k).2
def pS(l:List Int)(k:Int):Prog:=⟨(Ax l k).map (se (Ax l k).length),nz l k,(gV l (nz l k) (u9 l k) (nz l k).length).1⟩
def EP(l:List Int)(k:Int):Int:=cY l (Gy l (wC l k).2)
@[simp] theorem wc(bK:List Int)(aV:Int)(hd:dr bK aV):lZ X ([]) 132 2 (aV,bK) []=some (2,.agg [.sl false ((⟨bK,EP bK aV⟩:mh).l.map (V.int .i64)),.int .i64 (⟨bK,EP bK aV⟩:mh).time],[.agg [.sl false ((pS bK aV).code.map Instr.e),.sl false ((pS bK aV).ae.map (V.int .i64)),.sl false ((pS bK aV).data.map aS)]],.bad):=by
 refine dN Tryz.func132 rfl rfl ?_;have hz:=zI bK aV;obtain⟨sz,qE⟩: ∃sz,nz bK aV=sz:=⟨_,rfl⟩;obtain⟨ks,hks⟩: ∃ks,u9 bK aV=ks:=⟨_,rfl⟩;have sj:dr bK ks:=by rw[<-hks];exact EL hd
 rw[qE]at hz;have z1:=hz.pos;have z2:=hz.le;obtain⟨kd,hkd⟩: ∃kd,(gV bK sz ks sz.length).2=kd:=⟨_,rfl⟩;obtain⟨CK,VK⟩: ∃CK,(gV bK sz ks sz.length).1=CK:=⟨_,rfl⟩;have hdd:dr bK kd:=by rw[<-hkd];exact xu sj _
 have Ei:=dC bK kd (n:=12) (by omega);obtain⟨N,hN⟩: ∃N:Nat,1+dL bK kd 12=N:=⟨(1+dL bK kd 12).toNat,by omega⟩;obtain⟨cc,tf⟩: ∃cc,(eV bK sz (cY bK kd) N).1=cc:=⟨_,rfl⟩;obtain⟨kc,hkc⟩: ∃kc,(eV bK sz (cY bK kd) N).2=kc:=⟨_,rfl⟩;have ani:dr bK (cY bK kd):=dE hdd;have hdc:dr bK kc:=by rw[<-hkc];exact zJ ani _
 have mM:cc.length<=60:=by
  have:=Ja bK sz (cY bK kd) N;rw[tf]at this;omega
 have ep0:F8 bK aV=kd:=by unfold F8;rw[qE,hks,hkd]
 have ec:wC bK aV=(cc,kc):=by unfold wC;rw[qE,ep0,hN,<-tf,<-hkc];rfl
 obtain⟨ce,qp⟩: ∃ce,P6 bK cc kc=ce:=⟨_,rfl⟩;have ee:Ax bK aV=ce:=by unfold Ax;rw[ec];exact qp
 have ev:pS bK aV=⟨ce.map (se ce.length),sz,CK⟩:=by unfold pS;rw[ee,qE,hks,VK]
 have ek:EP bK aV=cY bK (Gy bK kc):=by unfold EP;rw[ec]
 rw[ev,ek];have aus:IntKind.i64.wrap (1+dL bK kd 12)=N:=by rw[hN];exact wrap_i64 (by omega)
 simp(maxSteps:=10000000) (maxDischargeDepth:=30) -implicitDefEqProofs[hd,qE,hks];refine cP (fun i S=>(S.f 0= .ptr 0 0 0/\S.h 0=some ⟨2,[.agg [.sl false ((⟨bK,(gV bK sz ks i).2⟩:mh).l.map (V.int .i64)),.int .i64 (⟨bK,(gV bK sz ks i).2⟩:mh).time]],true⟩/\S.f 2= .ptr 2 0 0/\S.h 2=some ⟨3,[.agg [.sl false (([]:List Instr).map Instr.e),.sl false (([]:List Int).map (V.int .i64)),.sl false (([]:List (List Int)).map aS)]],true⟩/\S.f 3= .ptr 3 0 0/\S.h 1000=some ⟨5,(⟨[],sz,(gV bK sz ks i).1⟩:Prog).code.map Instr.e,false⟩/\S.h 1001=some ⟨1,(⟨[],sz,(gV bK sz ks i).1⟩:Prog).data.map aS,false⟩/\S.h 3=some ⟨3,[.agg [.bU 1000 0 ((⟨[],sz,(gV bK sz ks i).1⟩:Prog).code.map Instr.e).length,.sl false ((⟨[],sz,(gV bK sz ks i).1⟩:Prog).ae.map (V.int .i64)),.bU 1001 0 ((⟨[],sz,(gV bK sz ks i).1⟩:Prog).data.map aS).length]],true⟩/\S.f 13= .sl false ((sz).map (V.int .i64))/\S.f 14= .int .i64 ((sz.length:Int))/\S.f 15= .int .i64 (i:Int)/\S.n=1102)/\True) (sz.length) ?_ 0 (by simp) ?_
 ·rintro i S kY ⟨dA,hX⟩;have eY:=cS i (by omega);by_cases bI:i<sz.length
  ·have MP:=xu (ae:=sz) sj i;have he:=hz.elem i bI;have AK:nth sz i=sz[i]:=cZ bI;have hn2:0<=sz[i]/\sz[i]<=1000:=by omega
   have hlen:(gV bK sz ks i).1.length<=4:=by rw[vc];omega
   simp(maxSteps:=10000000) (maxDischargeDepth:=30) -implicitDefEqProofs[dA,kY,eY,bI,MP,AK,hn2,tI];exact⟨by omega,fun _ _=>rfl⟩
  ·have ko:sz.length=i:=by omega
   subst ko;rw[hkd,VK]at dA;simp(maxSteps:=10000000) (maxDischargeDepth:=30) -implicitDefEqProofs[dA,kY,eY,bI,hdd,aus];refine cP (fun j S=>(S.f 0= .ptr 0 0 0/\S.h 0=some ⟨2,[.agg [.sl false ((⟨bK,(eV bK sz (cY bK kd) j).2⟩:mh).l.map (V.int .i64)),.int .i64 (⟨bK,(eV bK sz (cY bK kd) j).2⟩:mh).time]],true⟩/\S.f 2= .ptr 2 0 0/\S.h 2=some ⟨3,[.agg [.sl false (([]:List Instr).map Instr.e),.sl false (([]:List Int).map (V.int .i64)),.sl false (([]:List (List Int)).map aS)]],true⟩/\S.f 3= .ptr 3 0 0/\S.h 1000=some ⟨5,(⟨(eV bK sz (cY bK kd) j).1,sz,CK⟩:Prog).code.map Instr.e,false⟩/\S.h 1001=some ⟨1,(⟨(eV bK sz (cY bK kd) j).1,sz,CK⟩:Prog).data.map aS,false⟩/\S.h 3=some ⟨3,[.agg [.bU 1000 0 ((⟨(eV bK sz (cY bK kd) j).1,sz,CK⟩:Prog).code.map Instr.e).length,.sl false ((⟨(eV bK sz (cY bK kd) j).1,sz,CK⟩:Prog).ae.map (V.int .i64)),.bU 1001 0 ((⟨(eV bK sz (cY bK kd) j).1,sz,CK⟩:Prog).data.map aS).length]],true⟩/\S.f 6= .int .i64 ((N:Int)-j)/\S.n=1102)/\True) (N) ?_ 0 (by simp) ?_
   ·rintro j S jk ⟨mW,uN⟩;have pM:=cS j (by omega);by_cases fX:j<N
    ·have hdj:=zJ (ae:=sz) ani j;have JB:=xr bK sz (cY bK kd) j;obtain⟨cj,nn⟩: ∃cj,(eV bK sz (cY bK kd) j).1=cj:=⟨_,rfl⟩;obtain⟨kj,Wo⟩: ∃kj,(eV bK sz (cY bK kd) j).2=kj:=⟨_,rfl⟩;have jX:=vU bK sz (cY bK kd) j;rw[nn,Wo]at jX;rw[nn]at JB;rw[Wo]at hdj;rw[nn,Wo]at mW;have w1:IntKind.i64.wrap ((N:Int)-j-1)=(N:Int)-(j+1:Nat):=by rw[wrap_i64 (by omega)];omega
     have c1:(0:Int)<(N:Int)-j:=by omega
     have w2:IntKind.i64.wrap ((cj.length:Int)+1)=(cj.length:Int)+1:=wrap_i64 (by omega);have hm:1<=(cj.length:Int)+1/\(cj.length:Int)+1<=1000:=by omega
     have ha:0<=(cj.length:Int)/\(cj.length:Int)<=1000:=by omega
     obtain⟨pt,hpt⟩: ∃pt,tW bK sz ((cj.length:Int)+1) cj.length kj=pt:=⟨_,rfl⟩;have QF:pt.length<=5:=by rw[<-hpt];exact EO ..
     have w3:IntKind.i64.wrap ((cj.length:Int)+pt.length)=(cj.length:Int)+pt.length:=wrap_i64 (by omega);rw[hpt]at jX;by_cases hf:cj.length+pt.length<=62
     ·have NL:(cj.length:Int)+pt.length<=62:=by omega
      rw[if_pos hf]at jX;simp(maxSteps:=10000000) (maxDischargeDepth:=30) -implicitDefEqProofs[kY,eY,bI,mW,jk,pM,fX,hdj,hz,w1,c1,w2,hm,ha,hpt,w3,hf,NL,jX];omega
     ·have NL: ¬(cj.length:Int)+pt.length<=62:=by omega
      rw[if_neg hf]at jX;simp(maxSteps:=10000000) (maxDischargeDepth:=30) -implicitDefEqProofs[kY,eY,bI,mW,jk,pM,fX,hdj,hz,w1,c1,w2,hm,ha,hpt,w3,hf,NL,jX]
    ·have xO:N=j:=by omega
     subst xO;rw[tf,hkc]at mW;have h4:=dC bK kc (n:=4) (by omega);have Zr:=dE hdc;have agn:=dE Zr;have w5:IntKind.i64.wrap ((cc.length:Int)+1)=(cc.length:Int)+1:=wrap_i64 (by omega);have rX:1<=(cc.length:Int)+1/\(cc.length:Int)+1<=4611686018427387904:=by omega
     by_cases Fh:dL bK kc 4=0
     case pos=>
      have hkt:Gy bK kc=cY bK (cY bK kc):=by unfold Gy;rw[if_pos Fh]
      have hlen:(cc++([⟨18,0,0,0,dL bK (cY bK kc) (cc.length+1)⟩]:List Instr)++([⟨1,0,0,0,dL bK (cY bK (cY bK kc)) 9⟩,⟨23,0,0,0,0⟩]:List Instr)).length=cc.length+3:=by simp
      have Jb:ce=(cc++([⟨18,0,0,0,dL bK (cY bK kc) (cc.length+1)⟩]:List Instr)++([⟨1,0,0,0,dL bK (cY bK (cY bK kc)) 9⟩,⟨23,0,0,0,0⟩]:List Instr)):=by
       rw[<-qp];unfold P6 tlV;rw[hkt,if_pos Fh];exact bn (by rw[hlen];omega)
      have VL:ce.length=cc.length+3:=by rw[Jb,hlen]
      have yk: ¬(64:Int)<(cc.length:Int)+1+2:=by omega
      have Gw: ∀x,List.take (cc.length+1) (List.map Instr.e cc++ [x])=List.map Instr.e cc++ [x]:=fun x=>bn (by simp);simp(maxSteps:=10000000) (maxDischargeDepth:=30) -implicitDefEqProofs[kY,eY,bI,mW,jk,pM,fX,hdc,Zr,agn,Fh,w5,rX,yk,Gw]
      repeat (refine⟨by omega,fun _ _=> ?_⟩)
      refine cP (fun i S=>(S.f 0= .ptr 0 0 0/\S.h 0=some ⟨2,[.agg [.sl false ((⟨bK,cY bK (Gy bK kc)⟩:mh).l.map (V.int .i64)),.int .i64 (⟨bK,cY bK (Gy bK kc)⟩:mh).time]],true⟩/\S.f 2= .ptr 2 0 0/\S.h 2=some ⟨3,[.agg [.sl false (([]:List Instr).map Instr.e),.sl false (([]:List Int).map (V.int .i64)),.sl false (([]:List (List Int)).map aS)]],true⟩/\S.f 3= .ptr 3 0 0/\S.h 1000=some ⟨5,(⟨jr ce.length ce i,sz,CK⟩:Prog).code.map Instr.e,false⟩/\S.h 1001=some ⟨1,(⟨jr ce.length ce i,sz,CK⟩:Prog).data.map aS,false⟩/\S.h 3=some ⟨3,[.agg [.bU 1000 0 ((⟨jr ce.length ce i,sz,CK⟩:Prog).code.map Instr.e).length,.sl false ((⟨jr ce.length ce i,sz,CK⟩:Prog).ae.map (V.int .i64)),.bU 1001 0 ((⟨jr ce.length ce i,sz,CK⟩:Prog).data.map aS).length]],true⟩/\S.f 101= .int .i64 ((ce.length:Int))/\S.f 102= .int .i64 (i:Int)/\S.n=1102)/\True) (ce.length) ?_ 0 (by simp) ?_
      ·rintro i S kY ⟨zw,Wu⟩;have eY:=cS i (by omega);by_cases bI:i<ce.length
       ·have f1:=py ce.length ce i;have f2:=CJ (n:=ce.length) bI;have f3:i<(jr ce.length ce i).length:=by rw[f1];exact bI
        have f4:=f2 f3;cases hj:jumps (ce[i]).op
        case false=>
         have f5:=sO (n:=ce.length) bI (fun h=>by rw[hj]at h;cases h.1);simp(maxSteps:=10000000) (maxDischargeDepth:=30) -implicitDefEqProofs[kY,eY,bI,jk,pM,fX,zw,kY,eY,bI,f1,f3,f4,f5,hj]
        case true=>
         by_cases hm:(ce.length:Int)<=(ce[i]).dy
         ·have f5:=zL (n:=ce.length) bI ⟨hj,hm⟩;simp(maxSteps:=10000000) (maxDischargeDepth:=30) -implicitDefEqProofs[kY,eY,bI,jk,pM,fX,zw,kY,eY,bI,f1,f3,f4,f5,hj,hm,zN,zM];try rw[List.map_set]
         ·have f5:=sO (n:=ce.length) bI (fun h=>hm h.2);simp(maxSteps:=10000000) (maxDischargeDepth:=30) -implicitDefEqProofs[kY,eY,bI,jk,pM,fX,zw,kY,eY,bI,f1,f3,f4,f5,hj,hm]
       ·have ko:ce.length=i:=by omega
        subst ko;simp(maxSteps:=10000000) (maxDischargeDepth:=30) -implicitDefEqProofs[kY,eY,bI,jk,pM,fX,zw,kY,eY,bI]<;>(
         rw[zK,List.map_map])
      ·simp(maxSteps:=10000000) (maxDischargeDepth:=30) -implicitDefEqProofs[kY,eY,bI,mW,jk,pM,fX]<;>(
        simp[Jb,xw,hkt,VL,Instr.bP];try omega)
     case neg=>
      by_cases C7:dL bK kc 4=1
      case pos=>
       have hkt:Gy bK kc=cY bK kc:=by unfold Gy;rw[if_neg Fh]
       have hlen:(cc++([⟨24,0,0,0,0⟩]:List Instr)++([⟨1,0,0,0,dL bK (cY bK kc) 9⟩,⟨23,0,0,0,0⟩]:List Instr)).length=cc.length+3:=by simp
       have Jb:ce=(cc++([⟨24,0,0,0,0⟩]:List Instr)++([⟨1,0,0,0,dL bK (cY bK kc) 9⟩,⟨23,0,0,0,0⟩]:List Instr)):=by
        rw[<-qp];unfold P6 tlV;rw[hkt,if_neg Fh,if_pos C7];exact bn (by rw[hlen];omega)
       have VL:ce.length=cc.length+3:=by rw[Jb,hlen]
       have yk: ¬(64:Int)<(cc.length:Int)+1+2:=by omega
       have Gw: ∀x,List.take (cc.length+1) (List.map Instr.e cc++ [x])=List.map Instr.e cc++ [x]:=fun x=>bn (by simp);simp(maxSteps:=10000000) (maxDischargeDepth:=30) -implicitDefEqProofs[kY,eY,bI,mW,jk,pM,fX,hdc,Zr,agn,Fh,C7,w5,rX,yk,Gw]
       repeat (refine⟨by omega,fun _ _=> ?_⟩)
       refine cP (fun i S=>(S.f 0= .ptr 0 0 0/\S.h 0=some ⟨2,[.agg [.sl false ((⟨bK,cY bK (Gy bK kc)⟩:mh).l.map (V.int .i64)),.int .i64 (⟨bK,cY bK (Gy bK kc)⟩:mh).time]],true⟩/\S.f 2= .ptr 2 0 0/\S.h 2=some ⟨3,[.agg [.sl false (([]:List Instr).map Instr.e),.sl false (([]:List Int).map (V.int .i64)),.sl false (([]:List (List Int)).map aS)]],true⟩/\S.f 3= .ptr 3 0 0/\S.h 1000=some ⟨5,(⟨jr ce.length ce i,sz,CK⟩:Prog).code.map Instr.e,false⟩/\S.h 1001=some ⟨1,(⟨jr ce.length ce i,sz,CK⟩:Prog).data.map aS,false⟩/\S.h 3=some ⟨3,[.agg [.bU 1000 0 ((⟨jr ce.length ce i,sz,CK⟩:Prog).code.map Instr.e).length,.sl false ((⟨jr ce.length ce i,sz,CK⟩:Prog).ae.map (V.int .i64)),.bU 1001 0 ((⟨jr ce.length ce i,sz,CK⟩:Prog).data.map aS).length]],true⟩/\S.f 101= .int .i64 ((ce.length:Int))/\S.f 102= .int .i64 (i:Int)/\S.n=1102)/\True) (ce.length) ?_ 0 (by simp) ?_
       ·rintro i S kY ⟨hI3,hP3⟩;have eY:=cS i (by omega);by_cases bI:i<ce.length
        ·have f1:=py ce.length ce i;have f2:=CJ (n:=ce.length) bI;have f3:i<(jr ce.length ce i).length:=by rw[f1];exact bI
         have f4:=f2 f3;cases hj:jumps (ce[i]).op
         case false=>
          have f5:=sO (n:=ce.length) bI (fun h=>by rw[hj]at h;cases h.1);simp(maxSteps:=10000000) (maxDischargeDepth:=30) -implicitDefEqProofs[kY,eY,bI,jk,pM,fX,hI3,kY,eY,bI,f1,f3,f4,f5,hj]
         case true=>
          by_cases hm:(ce.length:Int)<=(ce[i]).dy
          ·have f5:=zL (n:=ce.length) bI ⟨hj,hm⟩;simp(maxSteps:=10000000) (maxDischargeDepth:=30) -implicitDefEqProofs[kY,eY,bI,jk,pM,fX,hI3,kY,eY,bI,f1,f3,f4,f5,hj,hm,zN,zM];try rw[List.map_set]
          ·have f5:=sO (n:=ce.length) bI (fun h=>hm h.2);simp(maxSteps:=10000000) (maxDischargeDepth:=30) -implicitDefEqProofs[kY,eY,bI,jk,pM,fX,hI3,kY,eY,bI,f1,f3,f4,f5,hj,hm]
        ·have ko:ce.length=i:=by omega
         subst ko;simp(maxSteps:=10000000) (maxDischargeDepth:=30) -implicitDefEqProofs[kY,eY,bI,jk,pM,fX,hI3,kY,eY,bI]<;>(
          rw[zK,List.map_map])
       ·simp(maxSteps:=10000000) (maxDischargeDepth:=30) -implicitDefEqProofs[kY,eY,bI,mW,jk,pM,fX]<;>(
         simp[Jb,xw,hkt,VL,Instr.bP];try omega)
      case neg=>
       have hkt:Gy bK kc=cY bK kc:=by unfold Gy;rw[if_neg Fh]
       have hlen:(cc++([⟨1,0,0,0,dL bK (cY bK kc) 9⟩,⟨23,0,0,0,0⟩]:List Instr)).length=cc.length+2:=by simp
       have Jb:ce=(cc++([⟨1,0,0,0,dL bK (cY bK kc) 9⟩,⟨23,0,0,0,0⟩]:List Instr)):=by
        rw[<-qp];unfold P6 tlV;rw[hkt,if_neg Fh,if_neg C7];exact bn (by rw[hlen];omega)
       have VL:ce.length=cc.length+2:=by rw[Jb,hlen]
       have yk: ¬64<(cc.length:Int)+2:=by omega
       simp(maxSteps:=10000000) (maxDischargeDepth:=30) -implicitDefEqProofs[kY,eY,bI,mW,jk,pM,fX,hdc,Zr,agn,Fh,C7,w5,rX,yk]
       repeat (refine⟨by omega,fun _ _=> ?_⟩)
       refine cP (fun i S=>(S.f 0= .ptr 0 0 0/\S.h 0=some ⟨2,[.agg [.sl false ((⟨bK,cY bK (Gy bK kc)⟩:mh).l.map (V.int .i64)),.int .i64 (⟨bK,cY bK (Gy bK kc)⟩:mh).time]],true⟩/\S.f 2= .ptr 2 0 0/\S.h 2=some ⟨3,[.agg [.sl false (([]:List Instr).map Instr.e),.sl false (([]:List Int).map (V.int .i64)),.sl false (([]:List (List Int)).map aS)]],true⟩/\S.f 3= .ptr 3 0 0/\S.h 1000=some ⟨5,(⟨jr ce.length ce i,sz,CK⟩:Prog).code.map Instr.e,false⟩/\S.h 1001=some ⟨1,(⟨jr ce.length ce i,sz,CK⟩:Prog).data.map aS,false⟩/\S.h 3=some ⟨3,[.agg [.bU 1000 0 ((⟨jr ce.length ce i,sz,CK⟩:Prog).code.map Instr.e).length,.sl false ((⟨jr ce.length ce i,sz,CK⟩:Prog).ae.map (V.int .i64)),.bU 1001 0 ((⟨jr ce.length ce i,sz,CK⟩:Prog).data.map aS).length]],true⟩/\S.f 101= .int .i64 ((ce.length:Int))/\S.f 102= .int .i64 (i:Int)/\S.n=1102)/\True) (ce.length) ?_ 0 (by simp) ?_
       ·rintro i S kY ⟨Zm,hP4⟩;have eY:=cS i (by omega);by_cases bI:i<ce.length
        ·have f1:=py ce.length ce i;have f2:=CJ (n:=ce.length) bI;have f3:i<(jr ce.length ce i).length:=by rw[f1];exact bI
         have f4:=f2 f3;cases hj:jumps (ce[i]).op
         case false=>
          have f5:=sO (n:=ce.length) bI (fun h=>by rw[hj]at h;cases h.1);simp(maxSteps:=10000000) (maxDischargeDepth:=30) -implicitDefEqProofs[kY,eY,bI,jk,pM,fX,Zm,kY,eY,bI,f1,f3,f4,f5,hj]
         case true=>
          by_cases hm:(ce.length:Int)<=(ce[i]).dy
          ·have f5:=zL (n:=ce.length) bI ⟨hj,hm⟩;simp(maxSteps:=10000000) (maxDischargeDepth:=30) -implicitDefEqProofs[kY,eY,bI,jk,pM,fX,Zm,kY,eY,bI,f1,f3,f4,f5,hj,hm,zN,zM];try rw[List.map_set]
          ·have f5:=sO (n:=ce.length) bI (fun h=>hm h.2);simp(maxSteps:=10000000) (maxDischargeDepth:=30) -implicitDefEqProofs[kY,eY,bI,jk,pM,fX,Zm,kY,eY,bI,f1,f3,f4,f5,hj,hm]
        ·have ko:ce.length=i:=by omega
         subst ko;simp(maxSteps:=10000000) (maxDischargeDepth:=30) -implicitDefEqProofs[kY,eY,bI,jk,pM,fX,Zm,kY,eY,bI]<;>(
          rw[zK,List.map_map])
       ·simp(maxSteps:=10000000) (maxDischargeDepth:=30) -implicitDefEqProofs[kY,eY,bI,mW,jk,pM,fX]<;>(
         simp[Jb,xw,hkt,VL,Instr.bP];try omega)
   ·simp(maxSteps:=10000000) (maxDischargeDepth:=30) -implicitDefEqProofs[dA,kY,eY,bI]<;>(
     simp[vb])
 ·simp(maxSteps:=10000000) (maxDischargeDepth:=30) -implicitDefEqProofs<;>(
   simp[yM])
end Go.Proofs.YtejohpnpnaljdaaGreat
