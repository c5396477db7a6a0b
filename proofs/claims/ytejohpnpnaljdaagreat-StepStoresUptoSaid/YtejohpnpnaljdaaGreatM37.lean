/- Part of a proof: F17. -/
import Derived.Test.YtejohpnpnaljdaaGreatM29
import Derived.Test.YtejohpnpnaljdaaGreatM36
set_option linter.all false
set_option maxRecDepth 20000
set_option maxHeartbeats 20000000
namespace Go.Proofs.YtejohpnpnaljdaaGreat
open Go Go.Abs Go.Abs.lu
theorem jy(hx:aY)(l:List Thread):cn (l.map (bT hx 12∘Thread.e))=some (l.map Thread.e):=m9 (fun _=>rfl) l
def fO(aD:List Int)(key:Int)(ae:List Int)(bm:List Cell)(i:Nat):List Canon:=(bm.take i).map (canon aD key ae)
theorem ED{aD:List Int}{key:Int}{ae:List Int}{bm:List Cell}{i:Nat}(h:i<bm.length):fO aD key ae bm (i+1)=fO aD key ae bm i++ [canon aD key ae bm[i]]:=by
 unfold fO;rw[fY h,List.map_append];rfl
theorem tE{aD:List Int}{key:Int}{ae:List Int}{bm:List Cell}{i:Nat}(h:i<=bm.length):(fO aD key ae bm i).length=i:=by
 simp[fO];omega
theorem uW(aD:List Int)(key:Int)(ae:List Int)(bm:List Cell):fO aD key ae bm 0=[]:=by simp[fO]
def mg(aD:List Int)(key:Int)(ae:List Int)(mem:aK)(a i:Nat):List Canon:=(List.range i).map fun j=>canon aD key ae (look mem (a+j))
theorem IJ(aD:List Int)(key:Int)(ae:List Int)(mem:aK)(a i:Nat):mg aD key ae mem a (i+1)=mg aD key ae mem a i++ [canon aD key ae (look mem (a+i))]:=by
 unfold mg;rw[List.range_succ,List.map_append];rfl
theorem sI(aD:List Int)(key:Int)(ae:List Int)(mem:aK)(a i:Nat):(mg aD key ae mem a i).length=i:=by simp[mg]
def oG(p:Prog)(x:Thread):Int:=(qk p.code x.pc).dy
def FW(p:Prog)(m:bf)(x:Thread):Int:=uS m.layout.aD p.ae p.code.length (oG p x) x.bm
def FX:Request:=⟨0,0,0,0,0,0,[],[]⟩
def IK(p:Prog)(m:bf)(x:Thread)(t:Int):Request:=
 ⟨t,1,0,x.count,x.pc,oG p x,fO m.layout.aD m.layout.key p.ae x.bm (dK (oG p x)).length,if ph (oG p x)=1 then mg m.layout.aD m.layout.key p.ae m.memory (x.bm.getD 1 ⟨0,0⟩).val.toNat (x.bm.getD 2 ⟨0,0⟩).val.toNat else []⟩
def oY(p:Prog)(m:bf)(t:Nat)(s:Int):bf×Request:=
 if s=1 then(if FW p m (cg m t)=0 then(m,IK p m (cg m t) t) else(kq m m.memory t (gd (cg m t) (FW p m (cg m t))),⟨t,2,FW p m (cg m t),(cg m t).count,(cg m t).pc,0,[],[]⟩))
 else(m,⟨t,s,if s=2 then(cg m t).dd else 0,(cg m t).count,(cg m t).pc,0,[],[]⟩)
def oH(p:Prog)(m:bf)(t n:Int):bf×Request×Int:=
 if jc p m=true/\(0<=t/\t<4)/\1<=n/\n<=64 then((oY p (dm p m t.toNat n).1 t.toNat (dm p m t.toNat n).2).1,(oY p (dm p m t.toNat n).1 t.toNat (dm p m t.toNat n).2).2,0) else(fG,FX,1)
theorem dB.look{m:aK}(h:pn m)(a:Nat):hY (look m a):=by
 unfold Go.Proofs.YtejohpnpnaljdaaGreat.look;split
 ·exact(h.line _).getD _
 ·exact h.cells.getD _
theorem PJ(aD ae:List Int)(n:Nat)(c:Int)(bm:List Cell):uS aD ae n c bm=0\/uS aD ae n c bm=6:=by
 unfold uS;split
 ·exact .inr rfl
 split
 ·exact .inr rfl
 split
 ·exact .inr rfl
 ·exact .inl rfl
theorem An{aD ae:List Int}{n:Nat}{c:Int}{bm:List Cell}(h:uS aD ae n c bm=0):iq (dK c) (ql c bm)=true/\(0<ph c->(mf aD ae (bm.getD 1 ⟨0,0⟩) (bm.getD 2 ⟨0,0⟩).val).2=0/\(bm.getD 2 ⟨0,0⟩).val<=16):=by
 rw[EC]at h;split at h
 ·cases h
 rename_i h1;split at h
 ·cases h
 rename_i h2;refine⟨by simpa using h1,fun hb=> ?_⟩;refine Classical.byContradiction fun hn=>h2 ⟨hb,?_⟩;by_cases e:(mf aD ae (bm.getD 1 ⟨0,0⟩) (bm.getD 2 ⟨0,0⟩).val).2=0
 ·exact .inr (by omega)
 ·exact .inl e
theorem PK{aD ae:List Int}(hL:nr aD ae){x:Cell}{n:Int}(h:(mf aD ae x n).2=0):x.tag=1/\0<=n/\0<=x.val/\x.val+n<=512:=by
 unfold mf at h;split at h
 case isFalse=>cases h
 rename_i h1;split at h
 case isFalse=>cases h
 rename_i h2;split at h
 ·cases h
 rename_i h3;split at h
 ·cases h
 rename_i h4;obtain⟨k,hk,tP,e,b1,b2⟩:=jB h2;have bb:=hL.base k hk tP;have zz:=hL.sz.elem k tP;have BH:nth ae k=ae[k]:=cZ tP;rw[e]at h4;simp only[Int.toNat_natCast,BH]at h4;refine⟨h1,by omega,by omega,by omega⟩
@[simp] theorem Vd(ay:List Instr)(ah:List Int)(az:List (List Int))(aa:List Int)(aw:Int)(aq:List Cell)(an:List cx)(ax:List Thread)(t n:Int)(hp:rK (Prog.mk ay ah az))(hm:qA (bf.mk (aN.mk aa aw) (aK.mk aq an) ax))(hr:yl (bf.mk (aN.mk aa aw) (aK.mk aq an) ax))(hc: ¬(jc (Prog.mk ay ah az) (bf.mk (aN.mk aa aw) (aK.mk aq an) ax)=true/\(0<=t/\t<4)/\1<=n/\n<=64)):lY X [(0,4,52)] 24 [(ay,ah,az),(aa,aw,aq,an,ax),t,n]=some (.de [.agg [.sl false (fG.layout.aD.map (V.int .i64)),.int .u16 fG.layout.key,.sl false (fG.memory.cells.map Cell.e),.sl false (fG.memory.lines.map cx.e),.sl false (fG.threads.map Thread.e)],.int .i64 0,.int .i64 1]):=by
 unfold fG;refine kJ Tryz.func24 rfl rfl ?_;by_cases hv:jc (Prog.mk ay ah az) (bf.mk (aN.mk aa aw) (aK.mk aq an) ax)=true
 case neg=>
  simp-implicitDefEqProofs[hp,hm,hv]
 by_cases h0:0<=t
 case neg=>
  have IL:t<0:=by omega
  simp-implicitDefEqProofs[hp,hm,hv,IL]
 have IL: ¬t<0:=by omega
 by_cases h4:t<4
 case neg=>
  have h4':4<=t:=by omega
  simp-implicitDefEqProofs[hp,hm,hv,IL,h4']
 have h4': ¬4<=t:=by omega
 by_cases n1:1<=n
 case neg=>
  have Nb:n<1:=by omega
  simp-implicitDefEqProofs[hp,hm,hv,IL,h4',Nb]
 have Nb: ¬n<1:=by omega
 have FU:64<n:=by
  refine Classical.byContradiction fun e=>hc ⟨hv,⟨h0,h4⟩,n1,by omega⟩
 simp-implicitDefEqProofs[hp,hm,hv,IL,h4',Nb,FU]
@[simp] theorem LJ(ay:List Instr)(ah:List Int)(az:List (List Int))(aa:List Int)(aw:Int)(aq:List Cell)(an:List cx)(ax:List Thread)(t n:Int)(hp:rK (Prog.mk ay ah az))(hm:qA (bf.mk (aN.mk aa aw) (aK.mk aq an) ax))(hr:yl (bf.mk (aN.mk aa aw) (aK.mk aq an) ax)):lY X [(0,4,52)] 47 [(ay,ah,az),(aa,aw,aq,an,ax),t,n]=some (.de [.agg [.sl false (((oH (Prog.mk ay ah az) (bf.mk (aN.mk aa aw) (aK.mk aq an) ax) t n).1).layout.aD.map (V.int .i64)),.int .u16 ((oH (Prog.mk ay ah az) (bf.mk (aN.mk aa aw) (aK.mk aq an) ax) t n).1).layout.key,.sl false (((oH (Prog.mk ay ah az) (bf.mk (aN.mk aa aw) (aK.mk aq an) ax) t n).1).memory.cells.map Cell.e),.sl false (((oH (Prog.mk ay ah az) (bf.mk (aN.mk aa aw) (aK.mk aq an) ax) t n).1).memory.lines.map cx.e),.sl false (((oH (Prog.mk ay ah az) (bf.mk (aN.mk aa aw) (aK.mk aq an) ax) t n).1).threads.map Thread.e)],.agg [.int .i64 ((oH (Prog.mk ay ah az) (bf.mk (aN.mk aa aw) (aK.mk aq an) ax) t n).2.1).iu,.int .i64 ((oH (Prog.mk ay ah az) (bf.mk (aN.mk aa aw) (aK.mk aq an) ax) t n).2.1).stop,.int .i64 ((oH (Prog.mk ay ah az) (bf.mk (aN.mk aa aw) (aK.mk aq an) ax) t n).2.1).dd,.int .i64 ((oH (Prog.mk ay ah az) (bf.mk (aN.mk aa aw) (aK.mk aq an) ax) t n).2.1).count,.int .i64 ((oH (Prog.mk ay ah az) (bf.mk (aN.mk aa aw) (aK.mk aq an) ax) t n).2.1).pc,.int .i64 ((oH (Prog.mk ay ah az) (bf.mk (aN.mk aa aw) (aK.mk aq an) ax) t n).2.1).call,.sl false (((oH (Prog.mk ay ah az) (bf.mk (aN.mk aa aw) (aK.mk aq an) ax) t n).2.1).args.map Canon.e),.sl false (((oH (Prog.mk ay ah az) (bf.mk (aN.mk aa aw) (aK.mk aq an) ax) t n).2.1).data.map Canon.e)],.int .i64 ((oH (Prog.mk ay ah az) (bf.mk (aN.mk aa aw) (aK.mk aq an) ax) t n).2.2)]):=by
 refine kJ Tryz.func47 rfl rfl ?_;by_cases hc:jc (Prog.mk ay ah az) (bf.mk (aN.mk aa aw) (aK.mk aq an) ax)=true/\(0<=t/\t<4)/\1<=n/\n<=64
 case neg=>
  have e:oH (Prog.mk ay ah az) (bf.mk (aN.mk aa aw) (aK.mk aq an) ax) t n=(fG,FX,1):=if_neg hc;have pW:=Vd ay ah az aa aw aq an ax t n hp hm hr hc;rw[e];unfold fG FX;unfold fG at pW;simp-implicitDefEqProofs[pW]
 have e:oH (Prog.mk ay ah az) (bf.mk (aN.mk aa aw) (aK.mk aq an) ax) t n=((oY (Prog.mk ay ah az) (dm (Prog.mk ay ah az) (bf.mk (aN.mk aa aw) (aK.mk aq an) ax) t.toNat n).1 t.toNat (dm (Prog.mk ay ah az) (bf.mk (aN.mk aa aw) (aK.mk aq an) ax) t.toNat n).2).1,(oY (Prog.mk ay ah az) (dm (Prog.mk ay ah az) (bf.mk (aN.mk aa aw) (aK.mk aq an) ax) t.toNat n).1 t.toNat (dm (Prog.mk ay ah az) (bf.mk (aN.mk aa aw) (aK.mk aq an) ax) t.toNat n).2).2,0):=if_pos hc;rw[e];have pW:=YU ay ah az aa aw aq an ax t n hr hc.1 hc.2.1 hc.2.2;obtain⟨hv,ht,hn⟩:=hc;obtain⟨k,rfl⟩:=Int.eq_ofNat_of_zero_le ht.1;have k4:k<4:=by omega
 have LK:(k:Int)<4:=by omega
 have MG:=uT hr hv;simp only[Int.toNat_natCast]at pW⊢;have SG:(dm (Prog.mk ay ah az) (bf.mk (aN.mk aa aw) (aK.mk aq an) ax) k n).2=3/\cR (Prog.mk ay ah az) (1099511627776+n) (dm (Prog.mk ay ah az) (bf.mk (aN.mk aa aw) (aK.mk aq an) ax) k n).1\/Cp (Prog.mk ay ah az) (1099511627776+n) k (dm (Prog.mk ay ah az) (bf.mk (aN.mk aa aw) (aK.mk aq an) ax) k n):=by
  by_cases hs:(cg (bf.mk (aN.mk aa aw) (aK.mk aq an) ax) k).state=1
  ·exact .inr (sG MG k4 hn.1 hs)
  ·have e1:dm (Prog.mk ay ah az) (bf.mk (aN.mk aa aw) (aK.mk aq an) ax) k n=((bf.mk (aN.mk aa aw) (aK.mk aq an) ax),3):=by unfold dm;exact if_neg hs
   rw[e1];exact .inl ⟨rfl,MG.mono (by omega)⟩
 obtain⟨⟨⟨bs,key⟩,⟨cs,ls⟩,ts⟩,s,hms⟩: ∃mm s,dm (Prog.mk ay ah az) (bf.mk (aN.mk aa aw) (aK.mk aq an) ax) k n=(mm,s):=⟨_,_,rfl⟩;rw[hms]at pW SG⊢;simp only at pW SG⊢;have HG:cR (Prog.mk ay ah az) (1099511627776+n) ⟨⟨bs,key⟩,⟨cs,ls⟩,ts⟩:=by
  rcases SG with h|h
  ·exact h.2
  ·exact h.yq
 have hl:ts.length=4:=HG.len;have kl:k<ts.length:=by omega
 have hx:cg ⟨⟨bs,key⟩,⟨cs,ls⟩,ts⟩ k=ts[k]:=ie kl;have qO:=HG.nv k kl;simp only at qO;obtain⟨⟨st,rg,pc,co,ha,sa,tr,cd⟩,nq⟩: ∃x,ts[k]=x:=⟨_,rfl⟩;rw[nq]at hx qO;have h8:rg.length=8:=qO.bm;have uX: ∀(f:Thread->V),List.take 4 (ts.map f)=ts.map f:=fun f=>bn (by simp;omega);have PL: ∀(f:Thread->Option V),List.take 4 (ts.map f)=ts.map f:=fun f=>bn (by simp;omega);by_cases s1:s=1
 case neg=>
  have e2:oY (Prog.mk ay ah az) ⟨⟨bs,key⟩,⟨cs,ls⟩,ts⟩ k s=(⟨⟨bs,key⟩,⟨cs,ls⟩,ts⟩,⟨k,s,if s=2 then tr else 0,co,pc,0,[],[]⟩):=by
   unfold oY;rw[if_neg s1,hx]
  rw[e2];by_cases s2:s=2
  ·subst s2;simp-implicitDefEqProofs[pW,uX,jy,hl,k4,LK,nq]
  ·simp-implicitDefEqProofs[pW,uX,jy,hl,k4,LK,nq,s1,s2]
 subst s1;have SG1:Cp (Prog.mk ay ah az) (1099511627776+n) k (⟨⟨bs,key⟩,⟨cs,ls⟩,ts⟩,1):=by
  rcases SG with h|h
  ·exact absurd h.1 (by decide)
  ·exact h
 obtain⟨c1,c2,c3,c4⟩:=SG1.calls rfl;simp only[hx]at c1 c2 c3 c4;have hL:=HG.lay;have QX:ay.length<=64:=HG.prog.pk;have Wm:=qO.cells.afr;simp only at hL Wm;have WD:ts.getD (k:Int).toNat da=⟨st,rg,pc,co,ha,sa,tr,cd⟩:=by rw[Int.toNat_natCast];simp[List.getD,kl,nq]
 obtain⟨j,hj⟩: ∃j:Nat,pc-1=j:=⟨(pc-1).toNat,by omega⟩;have sx:j<ay.length:=by omega
 have PI:(j:Int)<ay.length:=by omega
 have yZ:qk ay pc=ay[j]:=by unfold qk;rw[hj];simp[List.getD,sx]
 have hwp:IntKind.i64.wrap (pc-1)=j:=by rw[hj];exact wrap_i64 (by omega)
 have hI:=HG.prog.zy (p:=(Prog.mk ay ah az)) sx;simp only at hI;rw[yZ]at c4;have hcr:0<=(ay[j]).dy/\(ay[j]).dy<=15:=⟨hI.dy.1,hI.sys c4⟩;have hck:=DH ay ah az bs key cs ls ts k hl ⟨by omega,LK⟩ hL (by omega) (by rw[WD];exact h8) (by rw[WD];exact Wm) (by rw[WD];exact⟨c2,c3⟩) (by rw[WD];simp only;rw[yZ];exact hcr);rw[WD]at hck;simp only[yZ]at hck;obtain⟨c,tf⟩: ∃c,(ay[j]).dy=c:=⟨_,rfl⟩;rw[tf]at hck hcr;have hco:oG (Prog.mk ay ah az) ⟨st,rg,pc,co,ha,sa,tr,cd⟩=c:=by unfold oG;simp only;rw[yZ,tf]
 obtain⟨w,hw⟩: ∃w,uS bs ah ay.length c rg=w:=⟨_,rfl⟩;rw[hw]at hck;have hwy:FW (Prog.mk ay ah az) ⟨⟨bs,key⟩,⟨cs,ls⟩,ts⟩ ⟨st,rg,pc,co,ha,sa,tr,cd⟩=w:=by unfold FW;rw[hco];exact hw
 by_cases w0:w=0
 case neg=>
  have e2:oY (Prog.mk ay ah az) ⟨⟨bs,key⟩,⟨cs,ls⟩,ts⟩ k 1=(⟨⟨bs,key⟩,⟨cs,ls⟩,ts.set k (gd ⟨st,rg,pc,co,ha,sa,tr,cd⟩ w)⟩,⟨k,2,w,co,pc,0,[],[]⟩):=by
   unfold oY;rw[if_pos rfl,hx,hwy,if_neg w0];rfl
  rw[e2];obtain⟨IM,LL⟩: ∃IM,ts.set k (gd ⟨st,rg,pc,co,ha,sa,tr,cd⟩ w)=IM:=⟨_,rfl⟩;have wL:IM.length=4:=by rw[<-LL];simp[hl]
  have LM: ∀(f:Thread->V),List.take 4 (IM.map f)=IM.map f:=fun f=>bn (by simp;omega);have af6: ∀(f:Thread->Option V),List.take 4 (IM.map f)=IM.map f:=fun f=>bn (by simp;omega);have jI:(ts.map Thread.e).set k (V.agg [.int .i64 4,rg,.int .i64 pc,.int .i64 co,.int .i64 ha,.int .i64 sa,.int .i64 w,.int .u16 0])=IM.map Thread.e:=by rw[<-LL,List.map_set];rfl
  have Ve:(Thread.e ⟨st,rg,pc,co,ha,sa,tr,cd⟩).put 0 (V.agg [.int .i64 4,rg,.int .i64 pc,.int .i64 co,.int .i64 ha,.int .i64 sa,.int .i64 w,.int .u16 0])=V.agg [.int .i64 4,rg,.int .i64 pc,.int .i64 co,.int .i64 ha,.int .i64 sa,.int .i64 w,.int .u16 0]:=rfl;rw[LL];simp-implicitDefEqProofs[pW,uX,LM,jy,hl,wL,k4,LK,nq,h8,hck,w0,jI,Ve]
 subst w0;obtain⟨hf,Hh⟩:=An hw;have k3:=qY hcr;have e2:oY (Prog.mk ay ah az) ⟨⟨bs,key⟩,⟨cs,ls⟩,ts⟩ k 1=(⟨⟨bs,key⟩,⟨cs,ls⟩,ts⟩,⟨k,1,0,co,pc,c,fO bs key ah rg (dK c).length,if ph c=1 then mg bs key ah ⟨cs,ls⟩ (rg.getD 1 ⟨0,0⟩).val.toNat (rg.getD 2 ⟨0,0⟩).val.toNat else []⟩):=by
  unfold oY;rw[if_pos rfl,hx,hwy,if_pos rfl];unfold IK;simp only[hco]
 rw[e2];have r0:=qO.cells;simp only at r0;have l1:1<rg.length:=by omega
 have l2:2<rg.length:=by omega
 obtain⟨⟨r1t,r1v⟩,e1⟩: ∃x,rg[1]'l1=x:=⟨_,rfl⟩;obtain⟨⟨r2t,r2v⟩,e3⟩: ∃x,rg[2]'l2=x:=⟨_,rfl⟩;have g1:rg.getD 1 ⟨0,0⟩=⟨r1t,r1v⟩:=by simp[List.getD,h8,e1]
 have g2:rg.getD 2 ⟨0,0⟩=⟨r2t,r2v⟩:=by simp[List.getD,h8,e3]
 rw[g1,g2];simp only;have v1:=(e1▸r0.at l1).2;have v2:=(e3▸r0.at l2).2;simp only at v1 v2;simp-implicitDefEqProofs[pW,uX,hl,k4,LK,nq,hck,sx,PI,hwp,tf];refine cP (fun i S=>(S.f 4= .ptr 4 0 0/\S.h 4=some ⟨3,[.agg [ay,ah,az]],true⟩/\S.f 8= .ptr 8 0 0/\S.h 8=some ⟨5,[.agg [.sl false (([]:List Int).map (V.int .i64)),.int .u16 0,.sl false (([]:List Cell).map Cell.e),.sl false (([]:List cx).map cx.e),.sl false (([]:List Thread).map Thread.e)]],true⟩/\S.f 9= .ptr 9 0 0/\S.h 9=some ⟨8,[.agg [.int .i64 0,.int .i64 0,.int .i64 0,.int .i64 0,.int .i64 0,.int .i64 0,.sl false (([]:List Canon).map Canon.e),.sl false (([]:List Canon).map Canon.e)]],true⟩/\S.f 11= .ptr 11 0 0/\S.h 1000=some ⟨8,(⟨⟨bs,key⟩,⟨cs,ls⟩,ts⟩:bf).threads.map Thread.e,false⟩/\S.h 11=some ⟨5,[.agg [.sl false ((⟨⟨bs,key⟩,⟨cs,ls⟩,ts⟩:bf).layout.aD.map (V.int .i64)),.int .u16 (⟨⟨bs,key⟩,⟨cs,ls⟩,ts⟩:bf).layout.key,.sl false ((⟨⟨bs,key⟩,⟨cs,ls⟩,ts⟩:bf).memory.cells.map Cell.e),.sl false ((⟨⟨bs,key⟩,⟨cs,ls⟩,ts⟩:bf).memory.lines.map cx.e),.bU 1000 0 ((⟨⟨bs,key⟩,⟨cs,ls⟩,ts⟩:bf).threads.map Thread.e).length]],true⟩/\S.f 14= .ptr 14 0 0/\S.h 14=some ⟨8,[.agg [.int .i64 (⟨st,rg,pc,co,ha,sa,tr,cd⟩:Thread).state,.sl false ((⟨st,rg,pc,co,ha,sa,tr,cd⟩:Thread).bm.map Cell.e),.int .i64 (⟨st,rg,pc,co,ha,sa,tr,cd⟩:Thread).pc,.int .i64 (⟨st,rg,pc,co,ha,sa,tr,cd⟩:Thread).count,.int .i64 (⟨st,rg,pc,co,ha,sa,tr,cd⟩:Thread).bV,.int .i64 (⟨st,rg,pc,co,ha,sa,tr,cd⟩:Thread).saved,.int .i64 (⟨st,rg,pc,co,ha,sa,tr,cd⟩:Thread).dd,.int .u16 (⟨st,rg,pc,co,ha,sa,tr,cd⟩:Thread).code]],true⟩/\S.f 15= .ptr 15 0 0/\S.h 1001=some ⟨4,(⟨(k:Int),1,0,co,pc,c,fO bs key ah rg i,[]⟩:Request).args.map Canon.e,false⟩/\S.h 1002=some ⟨4,(⟨(k:Int),1,0,co,pc,c,fO bs key ah rg i,[]⟩:Request).data.map Canon.e,false⟩/\S.h 15=some ⟨8,[.agg [.int .i64 (⟨(k:Int),1,0,co,pc,c,fO bs key ah rg i,[]⟩:Request).iu,.int .i64 (⟨(k:Int),1,0,co,pc,c,fO bs key ah rg i,[]⟩:Request).stop,.int .i64 (⟨(k:Int),1,0,co,pc,c,fO bs key ah rg i,[]⟩:Request).dd,.int .i64 (⟨(k:Int),1,0,co,pc,c,fO bs key ah rg i,[]⟩:Request).count,.int .i64 (⟨(k:Int),1,0,co,pc,c,fO bs key ah rg i,[]⟩:Request).pc,.int .i64 (⟨(k:Int),1,0,co,pc,c,fO bs key ah rg i,[]⟩:Request).call,.bU 1001 0 ((⟨(k:Int),1,0,co,pc,c,fO bs key ah rg i,[]⟩:Request).args.map Canon.e).length,.bU 1002 0 ((⟨(k:Int),1,0,co,pc,c,fO bs key ah rg i,[]⟩:Request).data.map Canon.e).length]],true⟩/\S.f 80= .int .i64 (((dK c).length:Int))/\S.f 81= .int .i64 (i:Int)/\S.n=1103)/\True) ((dK c).length) ?_ 0 (by simp) ?_
 ·rintro i S kY ⟨dA,hX⟩;have eY:=cS i (by omega);by_cases bI:i<(dK c).length
  ·have i8:i<8:=by omega
   have i8i:(i:Int)<8:=by omega
   have il:i<rg.length:=by omega
   have up:=ED (aD:=bs) (key:=key) (ae:=ah) il;have len:=tE (aD:=bs) (key:=key) (ae:=ah) (bm:=rg) (i:=i) (by omega);obtain⟨⟨ct,cv⟩,qp⟩: ∃x,rg[i]=x:=⟨_,rfl⟩;have WU:=(qp▸r0.at il).2;simp only at WU;rw[qp]at up;simp-implicitDefEqProofs[dA,eY,bI,h8,i8,i8i,qp,hL,WU,Cell.bP,up,len];all_goals ((repeat' (first|apply And.intro|intro _))<;>first|omega|rfl|exact bn (by simp[len]))
  ·have ko:(dK c).length=i:=by omega
   subst ko;by_cases hb:ph c=1
   case neg=>
    have vp:=eq_false hb;simp-implicitDefEqProofs[dA,uX,jy,hl,vp]
   have vp:=eq_true hb;have JC:=Hh (by omega);rw[g1,g2]at JC;obtain⟨_,w2,w3,w4⟩:=PK hL JC.1;simp only at w2 w3 w4;obtain⟨a1,rfl⟩:=Int.eq_ofNat_of_zero_le w3;obtain⟨n2,rfl⟩:=Int.eq_ofNat_of_zero_le w2;have n16:n2<=16:=by have:=JC.2;simp only at this;omega
   have tQ:IntKind.i64.wrap (a1:Int)=a1:=wrap_i64 (by omega);have En:IntKind.i64.wrap (n2:Int)=n2:=wrap_i64 (by omega);have hM:w9 ⟨cs,ls⟩:=HG.mem.mem;simp-implicitDefEqProofs[dA,vp,h8,e3,Cell.bP,En];refine cP (fun jj S=>(S.f 4= .ptr 4 0 0/\S.h 4=some ⟨3,[.agg [ay,ah,az]],true⟩/\S.f 8= .ptr 8 0 0/\S.h 8=some ⟨5,[.agg [.sl false (([]:List Int).map (V.int .i64)),.int .u16 0,.sl false (([]:List Cell).map Cell.e),.sl false (([]:List cx).map cx.e),.sl false (([]:List Thread).map Thread.e)]],true⟩/\S.f 9= .ptr 9 0 0/\S.h 9=some ⟨8,[.agg [.int .i64 0,.int .i64 0,.int .i64 0,.int .i64 0,.int .i64 0,.int .i64 0,.sl false (([]:List Canon).map Canon.e),.sl false (([]:List Canon).map Canon.e)]],true⟩/\S.f 11= .ptr 11 0 0/\S.h 1000=some ⟨8,(⟨⟨bs,key⟩,⟨cs,ls⟩,ts⟩:bf).threads.map Thread.e,false⟩/\S.h 11=some ⟨5,[.agg [.sl false ((⟨⟨bs,key⟩,⟨cs,ls⟩,ts⟩:bf).layout.aD.map (V.int .i64)),.int .u16 (⟨⟨bs,key⟩,⟨cs,ls⟩,ts⟩:bf).layout.key,.sl false ((⟨⟨bs,key⟩,⟨cs,ls⟩,ts⟩:bf).memory.cells.map Cell.e),.sl false ((⟨⟨bs,key⟩,⟨cs,ls⟩,ts⟩:bf).memory.lines.map cx.e),.bU 1000 0 ((⟨⟨bs,key⟩,⟨cs,ls⟩,ts⟩:bf).threads.map Thread.e).length]],true⟩/\S.f 14= .ptr 14 0 0/\S.h 14=some ⟨8,[.agg [.int .i64 (⟨st,rg,pc,co,ha,sa,tr,cd⟩:Thread).state,.sl false ((⟨st,rg,pc,co,ha,sa,tr,cd⟩:Thread).bm.map Cell.e),.int .i64 (⟨st,rg,pc,co,ha,sa,tr,cd⟩:Thread).pc,.int .i64 (⟨st,rg,pc,co,ha,sa,tr,cd⟩:Thread).count,.int .i64 (⟨st,rg,pc,co,ha,sa,tr,cd⟩:Thread).bV,.int .i64 (⟨st,rg,pc,co,ha,sa,tr,cd⟩:Thread).saved,.int .i64 (⟨st,rg,pc,co,ha,sa,tr,cd⟩:Thread).dd,.int .u16 (⟨st,rg,pc,co,ha,sa,tr,cd⟩:Thread).code]],true⟩/\S.f 15= .ptr 15 0 0/\S.h 1001=some ⟨4,(⟨(k:Int),1,0,co,pc,c,fO bs key ah rg (dK c).length,mg bs key ah ⟨cs,ls⟩ a1 jj⟩:Request).args.map Canon.e,false⟩/\S.h 1002=some ⟨4,(⟨(k:Int),1,0,co,pc,c,fO bs key ah rg (dK c).length,mg bs key ah ⟨cs,ls⟩ a1 jj⟩:Request).data.map Canon.e,false⟩/\S.h 15=some ⟨8,[.agg [.int .i64 (⟨(k:Int),1,0,co,pc,c,fO bs key ah rg (dK c).length,mg bs key ah ⟨cs,ls⟩ a1 jj⟩:Request).iu,.int .i64 (⟨(k:Int),1,0,co,pc,c,fO bs key ah rg (dK c).length,mg bs key ah ⟨cs,ls⟩ a1 jj⟩:Request).stop,.int .i64 (⟨(k:Int),1,0,co,pc,c,fO bs key ah rg (dK c).length,mg bs key ah ⟨cs,ls⟩ a1 jj⟩:Request).dd,.int .i64 (⟨(k:Int),1,0,co,pc,c,fO bs key ah rg (dK c).length,mg bs key ah ⟨cs,ls⟩ a1 jj⟩:Request).count,.int .i64 (⟨(k:Int),1,0,co,pc,c,fO bs key ah rg (dK c).length,mg bs key ah ⟨cs,ls⟩ a1 jj⟩:Request).pc,.int .i64 (⟨(k:Int),1,0,co,pc,c,fO bs key ah rg (dK c).length,mg bs key ah ⟨cs,ls⟩ a1 jj⟩:Request).call,.bU 1001 0 ((⟨(k:Int),1,0,co,pc,c,fO bs key ah rg (dK c).length,mg bs key ah ⟨cs,ls⟩ a1 jj⟩:Request).args.map Canon.e).length,.bU 1002 0 ((⟨(k:Int),1,0,co,pc,c,fO bs key ah rg (dK c).length,mg bs key ah ⟨cs,ls⟩ a1 jj⟩:Request).data.map Canon.e).length]],true⟩/\S.f 109= .int .i64 ((n2:Int))/\S.f 110= .int .i64 (jj:Int)/\S.n=1103)/\True) (n2) ?_ 0 (by simp) ?_
   ·rintro jj S a7p ⟨mW,uN⟩;have aui:=cS jj (by omega);by_cases am2:jj<n2
    ·have up:=IJ bs key ah ⟨cs,ls⟩ a1 jj;have len:=sI bs key ah ⟨cs,ls⟩ a1 jj;obtain⟨qa,hqa⟩: ∃q:Nat,a1+jj=q:=⟨_,rfl⟩;rw[hqa]at up;have haq:0<=(qa:Int)/\(qa:Int)<512:=by omega
     have IH:IntKind.i64.wrap ((a1:Int)+jj)=(qa:Int):=by rw[wrap_i64 (by omega)];omega
     have hlk:=dB.look HG.mem qa;simp only at hlk;obtain⟨⟨ct,cv⟩,qp⟩: ∃x,look ⟨cs,ls⟩ qa=x:=⟨_,rfl⟩;rw[qp]at up hlk;have WU:=hlk.2;simp only at WU;have xY:=ye cs ls (qa:Int) hM haq;rw[Int.toNat_natCast,qp]at xY;simp-implicitDefEqProofs[mW,aui,am2,h8,e1,Cell.bP,tQ,IH,xY,hL,WU,up,len];all_goals ((repeat' (first|apply And.intro|intro _))<;>first|omega|rfl|exact bn (by simp[len]))
    ·have auj:n2=jj:=by omega
     subst auj;simp-implicitDefEqProofs[mW,uX,jy,hl]
   ·simp-implicitDefEqProofs[dA]<;>(
     exact⟨rfl,rfl⟩)
 ·simp-implicitDefEqProofs<;>(
   exact⟨hl.symm,uW ..,by rw[uW];rfl,by unfold Ck;rw[if_neg (by omega)]⟩)
end Go.Proofs.YtejohpnpnaljdaaGreat
