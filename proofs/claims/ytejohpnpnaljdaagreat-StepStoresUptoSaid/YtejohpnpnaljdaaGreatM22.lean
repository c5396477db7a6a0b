/- Part of a proof: D2. -/
import Derived.Test.YtejohpnpnaljdaaGreatM17
set_option linter.all false
set_option maxRecDepth 20000
set_option maxHeartbeats 20000000
namespace Go.Proofs.YtejohpnpnaljdaaGreat
open Go Go.Abs Go.Abs.lu
def yH(v:Int):Int:=if v=0 then 6 else if v=1 then 12 else 32
def Aw(l:List Int)(k:Int):Int:=1+dL l (cY l k) (yH (dL l k 3))
def fV(l:List Int)(k:Int):Nat->List Int×Int
 |0=>([4+dL l k 9],cY l (cY l k))
 |i+1=>((fV l k i).1++ [Aw l (fV l k i).2],cY l (cY l (fV l k i).2))
theorem yI(l:List Int)(k:Int):fV l k 0=([4+dL l k 9],cY l (cY l k)):=rfl
theorem rh(l:List Int)(k:Int)(i:Nat):fV l k (i+1)=((fV l k i).1++ [Aw l (fV l k i).2],cY l (cY l (fV l k i).2)):=rfl
@[simp] theorem CG{l:List Int}{k:Int}(h:dr l k)(i:Nat):dr l (fV l k i).2:=by
 induction i with
 |zero=>exact dE (dE h)
 |succ i ih=>exact dE (dE ih)
theorem u7(l:List Int)(k:Int)(i:Nat):(fV l k i).1.length=i+1:=by
 induction i with
 |zero=>rfl
 |succ i ih=>rw[rh];simp[ih]
def nz(l:List Int)(k:Int):List Int:=(fV l k (dL l (cY l k) 4).toNat).1
def u9(l:List Int)(k:Int):Int:=(fV l k (dL l (cY l k) 4).toNat).2
@[simp] theorem EL{l:List Int}{k:Int}(h:dr l k):dr l (u9 l k):=CG h _
theorem I5(l:List Int)(k:Int):1<=Aw l k/\Aw l k<=32:=by
 have h:=dC l (cY l k) (n:=yH (dL l k 3)) (by unfold yH;split<;>(try split)<;>omega);have:yH (dL l k 3)<=32:=by unfold yH;split<;>(try split)<;>omega
 unfold Aw;omega
theorem LX(l:List Int)(k:Int)(i:Nat): ∀x∈ (fV l k i).1,1<=x/\x<=32:=by
 induction i with
 |zero=>
  intro x hx;simp[yI]at hx;have:=dC l k (n:=9) (by omega);omega
 |succ i ih=>
  intro x hx;rw[rh]at hx;simp at hx;rcases hx with hx|rfl
  ·exact ih x hx
  ·exact I5 _ _
theorem zI(l:List Int)(k:Int):mw (nz l k):=by
 have h:=dC l (cY l k) (n:=4) (by omega);refine⟨fun i hi=>LX l k _ _ (List.getElem_mem hi),?_,?_⟩
 ·unfold nz;rw[u7];omega
 ·unfold nz;rw[u7];omega
@[simp] theorem Nk(bK:List Int)(aV:Int)(hd:dr bK aV):lZ X ([]) 165 2 (aV,bK) []=some (2,.agg [.sl false ((⟨bK,u9 bK aV⟩:mh).l.map (V.int .i64)),.int .i64 (⟨bK,u9 bK aV⟩:mh).time],[.sl false ((nz bK aV).map (V.int .i64))],.bad):=by
 refine dN Tryz.func165 rfl rfl ?_;have h0:=dC bK aV (n:=9) (by omega);have w0:IntKind.i64.wrap (4+dL bK aV 9)=4+dL bK aV 9:=wrap_i64 (by omega);have h1:=dC bK (cY bK aV) (n:=4) (by omega);obtain⟨N,hN⟩: ∃N:Nat,dL bK (cY bK aV) 4=N:=⟨(dL bK (cY bK aV) 4).toNat,by omega⟩;have e1:nz bK aV=(fV bK aV N).1:=by unfold nz;rw[hN];rfl
 have e2:u9 bK aV=(fV bK aV N).2:=by unfold u9;rw[hN];rfl
 rw[e1,e2];simp-implicitDefEqProofs[hd,w0,hN];refine cP (fun i S=>(S.f 0= .ptr 0 0 0/\S.h 0=some ⟨2,[.agg [.sl false ((⟨bK,(fV bK aV i).2⟩:mh).l.map (V.int .i64)),.int .i64 (⟨bK,(fV bK aV i).2⟩:mh).time]],true⟩/\S.f 3= .bU 3 0 ((((fV bK aV i).1).map (V.int .i64))).length/\S.h 3=some ⟨1,(((fV bK aV i).1).map (V.int .i64)),false⟩/\S.f 4= .int .i64 ((N:Int)-i)/\S.n=1100)/\True) (N) ?_ 0 (by simp) ?_
 ·rintro i S kY ⟨dA,hX⟩;by_cases bI:i<N
  ·have MP:=CG hd i;have w1:IntKind.i64.wrap ((N:Int)-i-1)=(N:Int)-(i+1:Nat):=by rw[wrap_i64 (by omega)];omega
   have c1:(0:Int)<(N:Int)-i:=by omega
   have pW:=u7 bK aV i;have h2:=dC bK (fV bK aV i).2 (n:=3) (by omega);have hs:=I5 bK (fV bK aV i).2;have es:Aw bK (fV bK aV i).2=1+dL bK (cY bK (fV bK aV i).2) (yH (dL bK (fV bK aV i).2 3)):=rfl;have hw:IntKind.i64.wrap (Aw bK (fV bK aV i).2)=Aw bK (fV bK aV i).2:=wrap_i64 (by omega);rw[es]at hw;have hc:dL bK (fV bK aV i).2 3=0\/dL bK (fV bK aV i).2 3=1\/dL bK (fV bK aV i).2 3=2:=by omega
   rcases hc with hc|hc|hc
   ·rw[hc]at hw es;have p:yH 0=6:=rfl;rw[p]at hw es;simp-implicitDefEqProofs[dA,bI,MP,w1,hc,hw,es,rh];omega
   ·rw[hc]at hw es;have p:yH 1=12:=rfl;rw[p]at hw es;simp-implicitDefEqProofs[dA,bI,MP,w1,hc,hw,es,rh];omega
   ·rw[hc]at hw es;have p:yH 2=32:=rfl;rw[p]at hw es;simp-implicitDefEqProofs[dA,bI,MP,w1,hc,hw,es,rh];omega
  ·have ko:N=i:=by omega
   subst ko;simp-implicitDefEqProofs[dA]
 ·simp-implicitDefEqProofs<;>(
   simp[yI])
@[simp] theorem xp(bK:List Int)(aV:Int)(ae:List Int)(hd:dr bK aV)(hz:mw ae):lZ X ([]) 134 2 (aV,bK) [ae]=some (2,.agg [.sl false ((⟨bK,cY bK aV⟩:mh).l.map (V.int .i64)),.int .i64 (⟨bK,cY bK aV⟩:mh).time],[.agg [.sl false (((⟨dP ae (dL bK aV 1048576),IntKind.u16.wrap (40503*dL bK aV 1048576)⟩:aN)).aD.map (V.int .i64)),.int .u16 ((⟨dP ae (dL bK aV 1048576),IntKind.u16.wrap (40503*dL bK aV 1048576)⟩:aN)).key]],.bad):=by
 refine dN Tryz.func134 rfl rfl ?_;have h0:=dC bK aV (n:=1048576) (by omega);have h1:0<=dL bK aV 1048576/\dL bK aV 1048576<=1048575:=by omega
 simp-implicitDefEqProofs[hd,hz,h1]
theorem VG(l:List Int)(h: ∀i (hi:i<l.length),1<=l[i]/\l[i]<=32):(l.length:Int)<=total l/\total l<=32*l.length:=by
 suffices H: ∀i,i<=l.length->(i:Int)<=total (l.take i)/\total (l.take i)<=32*i by
  have:=H l.length (Nat.le_refl _);rwa[List.take_length]at this
 intro i;induction i with
 |zero=>intro _;simp[total]
 |succ i ih=>
  intro hi;have h1:=ih (by omega);have h2:=h i (by omega);rw[fY (by omega),w8];omega
def sN(l ae:List Int)(k:Int):Canon:=
 if dL l k 6=4 then⟨1,0,(uf ae (dL l (cY l k) (total ae)) 0).1.region,(uf ae (dL l (cY l k) (total ae)) 0).1.offset⟩
 else if dL l k 6=5 then⟨2,dL l (cY l k) 10,0,0⟩ else⟨0,rO l (cY l k),0,0⟩
def yJ(l:List Int)(k:Int):Int:=if dL l k 6=4 then cY l (cY l k) else if dL l k 6=5 then cY l (cY l k) else yF l (cY l k)
@[simp] theorem I6{l:List Int}{k:Int}(h:dr l k):dr l (yJ l k):=by
 unfold yJ;split
 ·exact dE (dE h)
 ·split
  ·exact dE (dE h)
  ·exact yG (dE h)
@[simp] theorem rP(bK:List Int)(aV:Int)(ae:List Int)(hd:dr bK aV)(hz:mw ae):lZ X ([]) 89 2 (aV,bK) [ae]=some (2,.agg [.sl false ((⟨bK,yJ bK aV⟩:mh).l.map (V.int .i64)),.int .i64 (⟨bK,yJ bK aV⟩:mh).time],[.agg [.int .u8 (sN bK ae aV).tag,.int .u16 (sN bK ae aV).val,.int .i64 (sN bK ae aV).region,.int .i64 (sN bK ae aV).offset]],.bad):=by
 refine dN Tryz.func89 rfl rfl ?_;have h0:=dC bK aV (n:=6) (by omega);have ht:=VG ae hz.elem;have z1:=hz.pos;have z2:=hz.le;have zl:ae.length<=1000:=by omega
 have zb: ∀x∈ae,0<=x/\x<=1000000:=fun x hx=>by
  obtain⟨i,hi,rfl⟩:=List.getElem_of_mem hx;have:=hz.elem i hi;omega
 have ht1:1<=total ae/\total ae<=4611686018427387904:=by omega
 have h4:=dC bK (cY bK aV) (n:=total ae) ht1.1;have h4':0<=dL bK (cY bK aV) (total ae)/\dL bK (cY bK aV) (total ae)<=1000000:=by omega
 have h5:=dC bK (cY bK aV) (n:=10) (by omega);have w5:IntKind.u16.wrap (dL bK (cY bK aV) 10)=dL bK (cY bK aV) 10:=wrap_u16 (by omega);have key:=Dz ae zl zb;by_cases c4:dL bK aV 6=4
 ·simp-implicitDefEqProofs[hd,hz,key,ht1,h4',c4,sN,yJ]
 by_cases c5:dL bK aV 6=5
 ·simp-implicitDefEqProofs[hd,c5,w5,sN,yJ]
 ·simp-implicitDefEqProofs[hd,c4,c5,sN,yJ]
@[simp] theorem aiq(r n:Int):cz X 168 [r,n]=some (.agg [.int .i64 ((⟨1,r,0,0,n⟩:Instr)).op,.int .i64 ((⟨1,r,0,0,n⟩:Instr)).a,.int .i64 ((⟨1,r,0,0,n⟩:Instr)).b,.int .i64 ((⟨1,r,0,0,n⟩:Instr)).c,.int .i64 ((⟨1,r,0,0,n⟩:Instr)).dy]):=by
 refine bd Tryz.func168 rfl rfl ?_;simp-implicitDefEqProofs
@[simp] theorem agk(a b:Int):cz X 193 [a,b]=some (.agg [.int .i64 ((⟨2,a,b,0,0⟩:Instr)).op,.int .i64 ((⟨2,a,b,0,0⟩:Instr)).a,.int .i64 ((⟨2,a,b,0,0⟩:Instr)).b,.int .i64 ((⟨2,a,b,0,0⟩:Instr)).c,.int .i64 ((⟨2,a,b,0,0⟩:Instr)).dy]):=by
 refine bd Tryz.func193 rfl rfl ?_;simp-implicitDefEqProofs
@[simp] theorem agl(n:Int):cz X 169 [n]=some (.agg [.int .i64 ((⟨23,0,0,0,n⟩:Instr)).op,.int .i64 ((⟨23,0,0,0,n⟩:Instr)).a,.int .i64 ((⟨23,0,0,0,n⟩:Instr)).b,.int .i64 ((⟨23,0,0,0,n⟩:Instr)).c,.int .i64 ((⟨23,0,0,0,n⟩:Instr)).dy]):=by
 refine bd Tryz.func169 rfl rfl ?_;simp-implicitDefEqProofs
def va(l:List Int)(u:Bool)(k:Int):Int:=if u=true then dL l k 8 else 0
def A0(l:List Int)(u:Bool)(k:Int):Int:=if u=true then cY l k else k
@[simp] theorem F7{l:List Int}{u:Bool}{k:Int}(h:dr l k):dr l (A0 l u k):=by
 unfold A0;split
 ·exact dE h
 ·exact h
theorem P1(l:List Int)(k:Int):va l true k=dL l k 8:=rfl
theorem LY(l:List Int)(k:Int):va l false k=0:=rfl
theorem P2(l:List Int)(k:Int):A0 l true k=cY l k:=rfl
theorem LZ(l:List Int)(k:Int):A0 l false k=k:=rfl
def I7(l:List Int)(op n iW k:Int):Int:=if jumps op=true then dL l k iW else if op=15 then dL l k n else if op=23 then dL l k 16 else if fv op 3=true then rO l k else 0
def Zn(l:List Int)(op k:Int):Int:=if jumps op=true then cY l k else if op=15 then cY l k else if op=23 then cY l k else if fv op 3=true then yF l k else k
@[simp] theorem Zo{l:List Int}{op k:Int}(h:dr l k):dr l (Zn l op k):=by
 unfold Zn;repeat' split
 ·exact dE h
 ·exact dE h
 ·exact dE h
 ·exact yG h
 ·exact h
def k1(l:List Int)(op k:Int):Int:=A0 l (fv op 0) (cY l k)
def k2(l:List Int)(op k:Int):Int:=A0 l (fv op 1) (k1 l op k)
def k3(l:List Int)(op k:Int):Int:=A0 l (fv op 2) (k2 l op k)
def yK(l:List Int)(n iW k:Int):Instr:=
 ⟨dL l k 25,va l (fv (dL l k 25) 0) (cY l k),va l (fv (dL l k 25) 1) (k1 l (dL l k 25) k),va l (fv (dL l k 25) 2) (k2 l (dL l k 25) k),I7 l (dL l k 25) n iW (k3 l (dL l k 25) k)⟩
def I8(l:List Int)(k:Int):Int:=Zn l (dL l k 25) (k3 l (dL l k 25) k)
@[simp] theorem VH{l:List Int}{k:Int}(h:dr l k):dr l (I8 l k):=Zo (F7 (F7 (F7 (dE h))))
@[simp] theorem Nl(bK:List Int)(aV n iW:Int)(hd:dr bK aV)(hn:1<=n/\n<=4611686018427387904)(hm:1<=iW/\iW<=4611686018427387904):lZ X ([]) 37 2 (aV,bK) [n,iW]=some (2,.agg [.sl false ((⟨bK,I8 bK aV⟩:mh).l.map (V.int .i64)),.int .i64 (⟨bK,I8 bK aV⟩:mh).time],[.agg [.int .i64 (yK bK n iW aV).op,.int .i64 (yK bK n iW aV).a,.int .i64 (yK bK n iW aV).b,.int .i64 (yK bK n iW aV).c,.int .i64 (yK bK n iW aV).dy]],.bad):=by
 refine dN Tryz.func37 rfl rfl ?_;have h0:=dC bK aV (n:=25) (by omega);have ho:0<=dL bK aV 25/\dL bK aV 25<=24:=by omega
 obtain⟨op,iA⟩: ∃op,dL bK aV 25=op:=⟨_,rfl⟩;unfold yK I8;rw[iA]at ho⊢;unfold k3 k2 k1 I7 Zn;have hw: ∀k,IntKind.i64.wrap (rO bK k)=rO bK k:=fun k=>by have:=sM bK k;exact wrap_i64 (by omega)
 cases u0:fv op 0<;>cases u1:fv op 1<;>cases u2:fv op 2<;>simp only[P1,LY,P2,LZ];all_goals
  by_cases j:jumps op=true
  ·simp(maxSteps:=10000000) (maxDischargeDepth:=30) -implicitDefEqProofs[hd,iA,ho,u0,u1,u2,j,hm,va,A0]
  ·by_cases Zp:op=15
   ·subst Zp;simp(maxSteps:=10000000) (maxDischargeDepth:=30) -implicitDefEqProofs[hd,iA,ho,u0,u1,u2,j,hn,va,A0]
   ·by_cases Zq:op=23
    ·subst Zq;simp(maxSteps:=10000000) (maxDischargeDepth:=30) -implicitDefEqProofs[hd,iA,ho,u0,u1,u2,j,va,A0]
    ·cases u3:fv op 3
     ·simp(maxSteps:=10000000) (maxDischargeDepth:=30) -implicitDefEqProofs[hd,iA,ho,u0,u1,u2,u3,j,Zp,Zq,va,A0]
     ·simp(maxSteps:=10000000) (maxDischargeDepth:=30) -implicitDefEqProofs[hd,iA,ho,u0,u1,u2,u3,j,Zp,Zq,hw,va,A0]
def aco(v:Int):Int:=if v=0 then 0 else if v=1 then 1 else if v=2 then 2 else if v=3 then 3 else if v=4 then 7 else 63
def VI(l:List Int)(k:Int):Choice:=⟨dL l k 4,aco (dL l (cY l k) 6),decide (dL l (cY l (cY l k)) 4=0)⟩
@[simp] theorem xq(bK:List Int)(aV:Int)(hd:dr bK aV):lZ X ([]) 137 2 (aV,bK) []=some (2,.agg [.sl false ((⟨bK,cY bK (cY bK (cY bK aV))⟩:mh).l.map (V.int .i64)),.int .i64 (⟨bK,cY bK (cY bK (cY bK aV))⟩:mh).time],[.agg [.int .i64 (VI bK aV).iu,.int .i64 (VI bK aV).dW,.bool (VI bK aV).zr]],.bad):=by
 refine dN Tryz.func137 rfl rfl ?_;have h0:=dC bK (cY bK aV) (n:=6) (by omega);have hc:dL bK (cY bK aV) 6=0\/dL bK (cY bK aV) 6=1\/dL bK (cY bK aV) 6=2\/dL bK (cY bK aV) 6=3\/dL bK (cY bK aV) 6=4\/dL bK (cY bK aV) 6=5:=by omega
 rcases hc with hc|hc|hc|hc|hc|hc<;>simp(maxSteps:=10000000) (maxDischargeDepth:=30) -implicitDefEqProofs[hd,hc,VI,aco]
end Go.Proofs.YtejohpnpnaljdaaGreat
