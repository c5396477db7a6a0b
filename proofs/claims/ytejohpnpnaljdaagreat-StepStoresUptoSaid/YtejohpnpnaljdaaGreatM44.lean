/- Part of a proof: F28. -/
import Derived.Test.YtejohpnpnaljdaaGreatM24
import Derived.Test.YtejohpnpnaljdaaGreatM37
import Derived.Test.YtejohpnpnaljdaaGreatM43
set_option linter.all false
set_option maxRecDepth 20000
set_option maxHeartbeats 20000000
namespace Go.Proofs.YtejohpnpnaljdaaGreat
open Go Go.Abs Go.Abs.lu
def PZ(aD:List Int)(key:Int)(ae:List Int)(c:Canon):Cell:=(raw aD key ae c).1
def I3(aD:List Int)(key:Int)(ae:List Int)(cells:List Cell)(b:Nat)(x:List Canon):Nat->List Cell
 |0=>cells
 |k+1=>(I3 aD key ae cells b x k).set (b+k) (PZ aD key ae (x.getD k ⟨0,0,0,0⟩))
theorem agh{aD:List Int}{key:Int}{ae:List Int}{cells:List Cell}{b:Nat}{x:List Canon}{k:Nat}(h:k<x.length):I3 aD key ae cells b x (k+1)=(I3 aD key ae cells b x k).set (b+k) (PZ aD key ae x[k]):=by
 rw[I3];simp[List.getD,h]
theorem Ni(aD:List Int)(key:Int)(ae:List Int)(cells:List Cell)(b:Nat)(x:List Canon)(k:Nat):(I3 aD key ae cells b x k).length=cells.length:=by
 induction k with
 |zero=>rfl
 |succ k ih=>rw[I3,List.length_set,ih]
def ik(aD:List Int)(key:Int)(ae:List Int)(rs:List (List Canon)):Nat->List Cell
 |0=>List.replicate 512 ⟨0,0⟩
 |r+1=>I3 aD key ae (ik aD key ae rs r) (nth aD r).toNat (rs.getD r []) (rs.getD r []).length
theorem VC{aD:List Int}{key:Int}{ae:List Int}{rs:List (List Canon)}{r:Nat}(h:r<rs.length):ik aD key ae rs (r+1)=I3 aD key ae (ik aD key ae rs r) (nth aD r).toNat rs[r] (rs[r]).length:=by
 rw[ik];simp[List.getD,h]
theorem EK(aD:List Int)(key:Int)(ae:List Int)(rs:List (List Canon))(r:Nat):(ik aD key ae rs r).length=512:=by
 induction r with
 |zero=>simp[ik]
 |succ k ih=>rw[ik,Ni,ih]
def u6(aD:List Int)(key:Int)(ae:List Int)(l:List Canon):List Cell:=l.map (PZ aD key ae)
theorem I4(aD:List Int)(key:Int)(ae:List Int)(l:List Canon):(u6 aD key ae l).length=l.length:=by simp[u6]
theorem Zk{aD:List Int}{key:Int}{ae:List Int}{l:List Canon}{i:Nat}(h:i<l.length):u6 aD key ae (l.take (i+1))=u6 aD key ae (l.take i)++ [PZ aD key ae l[i]]:=by
 unfold u6;rw[fY h,List.map_append];rfl
def Zl(aD:List Int)(key:Int)(ae:List Int)(v:View):Thread:=⟨v.state,u6 aD key ae v.bm,v.pc,v.count,v.bV,v.saved,v.dd,v.code⟩
def nc(aD:List Int)(key:Int)(ae:List Int)(l:List View):List Thread:=l.map (Zl aD key ae)
theorem zH(aD:List Int)(key:Int)(ae:List Int)(l:List View):(nc aD key ae l).length=l.length:=by simp[nc]
theorem VD{aD:List Int}{key:Int}{ae:List Int}{l:List View}{i:Nat}(h:i<l.length):nc aD key ae (l.take (i+1))=nc aD key ae (l.take i)++ [Zl aD key ae l[i]]:=by
 unfold nc;rw[fY h,List.map_append];rfl
def DL(p:Prog)(l:aN)(s:State):bf:=⟨l,⟨ik l.aD l.key p.ae s.regions s.regions.length,bY⟩,nc l.aD l.key p.ae s.threads⟩
def agi(p:Prog)(s:State):Bool:=kL p.ae (oK s s.threads.length)
def AZ(p:Prog)(l:aN)(s:State):bf×Bool:=if agi p s=true then(DL p l s,true) else(fG,false)
@[simp] theorem VE(ay:List Instr)(ah:List Int)(az:List (List Int))(aj:List Int)(bH:Int)(bk:List (List Canon))(aQ:List View)(hp:pO (Prog.mk ay ah az))(hL:nr aj ah)(hs:LS (Prog.mk ay ah az) (State.mk bk aQ)):lY X [(0,4,52)] 32 [(ay,ah,az),(aj,bH),.agg [bk,aQ]]=some (.de [.agg [.sl false (((AZ (Prog.mk ay ah az) (aN.mk aj bH) (State.mk bk aQ)).1).layout.aD.map (V.int .i64)),.int .u16 ((AZ (Prog.mk ay ah az) (aN.mk aj bH) (State.mk bk aQ)).1).layout.key,.sl false (((AZ (Prog.mk ay ah az) (aN.mk aj bH) (State.mk bk aQ)).1).memory.cells.map Cell.e),.sl false (((AZ (Prog.mk ay ah az) (aN.mk aj bH) (State.mk bk aQ)).1).memory.lines.map cx.e),.sl false (((AZ (Prog.mk ay ah az) (aN.mk aj bH) (State.mk bk aQ)).1).threads.map Thread.e)],.bool ((AZ (Prog.mk ay ah az) (aN.mk aj bH) (State.mk bk aQ)).2)]):=by
 refine kJ Tryz.func32 rfl rfl ?_;have hz:mw ah:=hp.ae;have z4:=hz.le;have hb:aj.length=ah.length:=hL.len;have ju:=lL.2 hL;have b1:aj.length<=1000000000/\ah.length<=1000000000:=by omega
 have r1:bk.length=ah.length:=hs.regions;have r2:=hs.region;have r3:aQ.length=4:=hs.threads;have r4:=hs.view;simp only at r2 r4;have r1b:bk.length<=1000000000:=by omega
 have r3b:aQ.length<=1000000000:=by omega
 have hle:(bY.map cx.e).length=4:=rfl;have QH:=CB (State.mk bk aQ) (k:=aQ.length) (Nat.le_refl _);have hlm: ∀x∈oK (State.mk bk aQ) aQ.length,x.length<=1000000000:=fun x hx=>by
  unfold oK at hx;simp only[List.mem_append,List.mem_map]at hx;rcases hx with hx|⟨y,hy,rfl⟩
  ·obtain⟨i,hi,rfl⟩:=List.getElem_of_mem hx;have q1:i<ah.length:=by omega
   have:=(r2 i hi q1).1;have:=(hz.elem i q1).2;omega
  ·obtain⟨i,hi,rfl⟩:=List.getElem_of_mem (List.mem_of_mem_take hy);have:=(r4 i hi).bm;omega
 have Wj:agi (Prog.mk ay ah az) (State.mk bk aQ)=kL ah (oK (State.mk bk aQ) aQ.length):=rfl;simp only at QH;obtain⟨ls,Wq⟩: ∃ls,oK (State.mk bk aQ) aQ.length=ls:=⟨_,rfl⟩;rw[Wq]at hlm QH Wj;by_cases Ff:kL ah ls=true
 case neg=>
  have e:AZ (Prog.mk ay ah az) (aN.mk aj bH) (State.mk bk aQ)=(fG,false):=by unfold AZ;rw[Wj,if_neg Ff]
  rw[e];unfold fG;simp-implicitDefEqProofs[hp,hs,ju,b1,r1b,r3b,Wq];refine cP (fun i S=>(S.f 3= .ptr 3 0 0/\S.h 3=some ⟨3,[.agg [ay,ah,az]],true⟩/\S.f 4= .ptr 4 0 0/\S.h 4=some ⟨2,[.agg [aj,.int .u16 bH]],true⟩/\S.f 5= .ptr 5 0 0/\S.h 5=some ⟨2,[.agg [bk,aQ]],true⟩/\S.f 6= .ptr 6 0 0/\S.h 6=some ⟨5,[.agg [.sl false (([]:List Int).map (V.int .i64)),.int .u16 0,.sl false (([]:List Cell).map Cell.e),.sl false (([]:List cx).map cx.e),.sl false (([]:List Thread).map Thread.e)]],true⟩/\S.f 37= .sl false ((ls).map ba)/\S.f 38= .int .i64 ((ls.length:Int))/\S.f 39= .int .i64 (i:Int)/\S.n=1100)/\(kL ah (ls.take i)=true)) (ls.length) ?_ 0 (by simp) ?_
  ·rintro i S kY ⟨dA,hX⟩;have eY:=cS i (by omega);by_cases bI:i<ls.length
   ·have JB:=hlm _ (List.getElem_mem bI);simp-implicitDefEqProofs[dA,bI];refine cP (fun j S=>(S.f 3= .ptr 3 0 0/\S.h 3=some ⟨3,[.agg [ay,ah,az]],true⟩/\S.f 4= .ptr 4 0 0/\S.h 4=some ⟨2,[.agg [aj,.int .u16 bH]],true⟩/\S.f 5= .ptr 5 0 0/\S.h 5=some ⟨2,[.agg [bk,aQ]],true⟩/\S.f 6= .ptr 6 0 0/\S.h 6=some ⟨5,[.agg [.sl false (([]:List Int).map (V.int .i64)),.int .u16 0,.sl false (([]:List Cell).map Cell.e),.sl false (([]:List cx).map cx.e),.sl false (([]:List Thread).map Thread.e)]],true⟩/\S.f 37= .sl false ((ls).map ba)/\S.f 38= .int .i64 ((ls.length:Int))/\S.f 39= .int .i64 (i:Int)/\S.f 43= .sl false ((ls[i]).map Canon.e)/\S.f 44= .int .i64 (((ls[i]).length:Int))/\S.f 45= .int .i64 (j:Int)/\S.n=1100)/\(mJ ah ((ls[i]).take j)=true)) ((ls[i]).length) ?_ 0 (by simp) ?_
    ·rintro j S jk ⟨mW,uN⟩;have pM:=cS j (by omega);by_cases fX:j<(ls[i]).length
     ·have jX:=CD (z:=ah) fX;rw[uN]at jX;by_cases c1:proper ah (ls[i])[j]=true
      ·rw[c1]at jX;simp-implicitDefEqProofs[mW,pM,fX,c1,jX]
      ·simp-implicitDefEqProofs[mW,fX,c1]
     ·have xO:(ls[i]).length=j:=by omega
      subst xO;rw[At]at uN;have jX:=Au (z:=ah) bI;rw[hX,uN]at jX;simp-implicitDefEqProofs[bI,mW,jX,eY];try omega
    ·simp-implicitDefEqProofs[dA]<;>(
      rfl)
   ·have ko:ls.length=i:=by omega
    subst ko;simp-implicitDefEqProofs[dA]<;>(
     rw[yE]at hX;exact absurd hX Ff)
  ·simp-implicitDefEqProofs<;>(
    rfl)
 have e:AZ (Prog.mk ay ah az) (aN.mk aj bH) (State.mk bk aQ)=(DL (Prog.mk ay ah az) (aN.mk aj bH) (State.mk bk aQ),true):=by unfold AZ;rw[Wj,if_pos Ff]
 rw[e];have hpi: ∀i (h:i<ls.length),mJ ah ls[i]=true:=fun i h=>List.all_eq_true.1 Ff _ (List.getElem_mem h);have hpj: ∀i (h:i<ls.length) j (g:j<(ls[i]).length),proper ah (ls[i])[j]=true:=fun i h j g=>List.all_eq_true.1 (hpi i h) _ (List.getElem_mem g);unfold DL;simp-implicitDefEqProofs[hp,hs,ju,b1,r1b,r3b,Wq];refine cP (fun i S=>(S.f 3= .ptr 3 0 0/\S.h 3=some ⟨3,[.agg [ay,ah,az]],true⟩/\S.f 4= .ptr 4 0 0/\S.h 4=some ⟨2,[.agg [aj,.int .u16 bH]],true⟩/\S.f 5= .ptr 5 0 0/\S.h 5=some ⟨2,[.agg [bk,aQ]],true⟩/\S.f 6= .ptr 6 0 0/\S.h 6=some ⟨5,[.agg [.sl false (([]:List Int).map (V.int .i64)),.int .u16 0,.sl false (([]:List Cell).map Cell.e),.sl false (([]:List cx).map cx.e),.sl false (([]:List Thread).map Thread.e)]],true⟩/\S.f 37= .sl false ((ls).map ba)/\S.f 38= .int .i64 ((ls.length:Int))/\S.f 39= .int .i64 (i:Int)/\S.n=1100)/\True) (ls.length) ?_ 0 (by simp) ?_
 ·rintro i S kY ⟨zw,Wu⟩;have eY:=cS i (by omega);by_cases bI:i<ls.length
  ·have JB:=hlm _ (List.getElem_mem bI);simp-implicitDefEqProofs[zw,bI];refine cP (fun j S=>(S.f 3= .ptr 3 0 0/\S.h 3=some ⟨3,[.agg [ay,ah,az]],true⟩/\S.f 4= .ptr 4 0 0/\S.h 4=some ⟨2,[.agg [aj,.int .u16 bH]],true⟩/\S.f 5= .ptr 5 0 0/\S.h 5=some ⟨2,[.agg [bk,aQ]],true⟩/\S.f 6= .ptr 6 0 0/\S.h 6=some ⟨5,[.agg [.sl false (([]:List Int).map (V.int .i64)),.int .u16 0,.sl false (([]:List Cell).map Cell.e),.sl false (([]:List cx).map cx.e),.sl false (([]:List Thread).map Thread.e)]],true⟩/\S.f 37= .sl false ((ls).map ba)/\S.f 38= .int .i64 ((ls.length:Int))/\S.f 39= .int .i64 (i:Int)/\S.f 43= .sl false ((ls[i]).map Canon.e)/\S.f 44= .int .i64 (((ls[i]).length:Int))/\S.f 45= .int .i64 (j:Int)/\S.n=1100)/\True) ((ls[i]).length) ?_ 0 (by simp) ?_
   ·rintro j S jk ⟨hI3,hP3⟩;have pM:=cS j (by omega);by_cases fX:j<(ls[i]).length
    ·have c1:=hpj i bI j fX;simp-implicitDefEqProofs[hI3,pM,fX,c1]
    ·have xO:(ls[i]).length=j:=by omega
     subst xO;simp-implicitDefEqProofs[bI,hI3,eY];try omega
   ·simp-implicitDefEqProofs[zw]<;>(
     trivial)
  ·have ko:ls.length=i:=by omega
   subst ko;simp-implicitDefEqProofs[zw];refine⟨⟨by omega,by omega⟩,fun _ _=> ?_⟩;refine cP (fun r S=>(S.f 3= .ptr 3 0 0/\S.h 3=some ⟨3,[.agg [ay,ah,az]],true⟩/\S.f 4= .ptr 4 0 0/\S.h 4=some ⟨2,[.agg [aj,.int .u16 bH]],true⟩/\S.f 5= .ptr 5 0 0/\S.h 5=some ⟨2,[.agg [bk,aQ]],true⟩/\S.f 6= .ptr 6 0 0/\S.h 6=some ⟨5,[.agg [.sl false (([]:List Int).map (V.int .i64)),.int .u16 0,.sl false (([]:List Cell).map Cell.e),.sl false (([]:List cx).map cx.e),.sl false (([]:List Thread).map Thread.e)]],true⟩/\S.f 12= .ptr 12 0 0/\S.h 1000=some ⟨2,(⟨⟨aj,bH⟩,⟨ik aj bH ah bk r,bY⟩,[]⟩:bf).memory.cells.map Cell.e,false⟩/\S.h 1001=some ⟨8,(⟨⟨aj,bH⟩,⟨ik aj bH ah bk r,bY⟩,[]⟩:bf).threads.map Thread.e,false⟩/\S.h 12=some ⟨5,[.agg [.sl false ((⟨⟨aj,bH⟩,⟨ik aj bH ah bk r,bY⟩,[]⟩:bf).layout.aD.map (V.int .i64)),.int .u16 (⟨⟨aj,bH⟩,⟨ik aj bH ah bk r,bY⟩,[]⟩:bf).layout.key,.bU 1000 0 ((⟨⟨aj,bH⟩,⟨ik aj bH ah bk r,bY⟩,[]⟩:bf).memory.cells.map Cell.e).length,.sl false ((⟨⟨aj,bH⟩,⟨ik aj bH ah bk r,bY⟩,[]⟩:bf).memory.lines.map cx.e),.bU 1001 0 ((⟨⟨aj,bH⟩,⟨ik aj bH ah bk r,bY⟩,[]⟩:bf).threads.map Thread.e).length]],true⟩/\S.f 68= .sl false (bk.map ba)/\S.f 69= .int .i64 ((bk).length:Int)/\S.f 70= .int .i64 (r:Int)/\S.n=1102)/\True) (bk.length) ?_ 0 (by simp) ?_
   ·rintro r S hir ⟨Zm,hP4⟩;have QL:=cS r (by omega);by_cases FP:r<bk.length
    ·have g1:r<ah.length:=by omega
     have g2:r<aj.length:=by omega
     have hd:=(r2 r FP g1).1;have JC:=hL.base r g2 g1;have hzz:=hz.elem r g1;obtain⟨b,YE⟩: ∃b:Nat,aj[r]=b:=⟨(aj[r]).toNat,by omega⟩;have jX:ik aj bH ah bk (r+1)=I3 aj bH ah (ik aj bH ah bk r) b bk[r] (bk[r]).length:=by
      rw[VC FP,cZ g2,YE];rfl
     have C6:=EK aj bH ah bk r;simp-implicitDefEqProofs[Zm,FP];refine cP (fun o S=>(S.f 3= .ptr 3 0 0/\S.h 3=some ⟨3,[.agg [ay,ah,az]],true⟩/\S.f 4= .ptr 4 0 0/\S.h 4=some ⟨2,[.agg [aj,.int .u16 bH]],true⟩/\S.f 5= .ptr 5 0 0/\S.h 5=some ⟨2,[.agg [bk,aQ]],true⟩/\S.f 6= .ptr 6 0 0/\S.h 6=some ⟨5,[.agg [.sl false (([]:List Int).map (V.int .i64)),.int .u16 0,.sl false (([]:List Cell).map Cell.e),.sl false (([]:List cx).map cx.e),.sl false (([]:List Thread).map Thread.e)]],true⟩/\S.f 12= .ptr 12 0 0/\S.h 1000=some ⟨2,(⟨⟨aj,bH⟩,⟨I3 aj bH ah (ik aj bH ah bk r) b bk[r] o,bY⟩,[]⟩:bf).memory.cells.map Cell.e,false⟩/\S.h 1001=some ⟨8,(⟨⟨aj,bH⟩,⟨I3 aj bH ah (ik aj bH ah bk r) b bk[r] o,bY⟩,[]⟩:bf).threads.map Thread.e,false⟩/\S.h 12=some ⟨5,[.agg [.sl false ((⟨⟨aj,bH⟩,⟨I3 aj bH ah (ik aj bH ah bk r) b bk[r] o,bY⟩,[]⟩:bf).layout.aD.map (V.int .i64)),.int .u16 (⟨⟨aj,bH⟩,⟨I3 aj bH ah (ik aj bH ah bk r) b bk[r] o,bY⟩,[]⟩:bf).layout.key,.bU 1000 0 ((⟨⟨aj,bH⟩,⟨I3 aj bH ah (ik aj bH ah bk r) b bk[r] o,bY⟩,[]⟩:bf).memory.cells.map Cell.e).length,.sl false ((⟨⟨aj,bH⟩,⟨I3 aj bH ah (ik aj bH ah bk r) b bk[r] o,bY⟩,[]⟩:bf).memory.lines.map cx.e),.bU 1001 0 ((⟨⟨aj,bH⟩,⟨I3 aj bH ah (ik aj bH ah bk r) b bk[r] o,bY⟩,[]⟩:bf).threads.map Thread.e).length]],true⟩/\S.f 13= .int .i64 ((r:Int))/\S.f 68= .sl false (bk.map ba)/\S.f 69= .int .i64 ((bk).length:Int)/\S.f 70= .int .i64 (r:Int)/\S.f 75= .sl false ((bk[r]).map Canon.e)/\S.f 76= .int .i64 (((bk[r]).length:Int))/\S.f 77= .int .i64 (o:Int)/\S.n=1102)/\True) ((bk[r]).length) ?_ 0 (by simp) ?_
     ·rintro o S rC ⟨hI5,hP5⟩;have Zg:=cS o (by omega);by_cases Vy:o<(bk[r]).length
      ·have A5:=Ni aj bH ah (ik aj bH ah bk r) b bk[r] o;rw[C6]at A5;have hu:=agh (aD:=aj) (key:=bH) (ae:=ah) (cells:=ik aj bH ah bk r) (b:=b) Vy;unfold PZ at hu;obtain⟨⟨ct,cv,cr,co⟩,qp⟩: ∃c,(bk[r])[o]=c:=⟨_,rfl⟩;rw[qp]at hu;have Ve: ∀(x:Cell) (a b:Int),(Cell.e x).put 0 (V.agg [.int .u8 a,.int .u16 b])=V.agg [.int .u8 a,.int .u16 b]:=fun _ _ _=>rfl;obtain⟨q,hq⟩: ∃q:Nat,b+o=q:=⟨_,rfl⟩;rw[hq]at hu;have eX:q<512:=by omega
       have yk:(q:Int)<512:=by omega
       have hw:IntKind.i64.wrap ((b:Int)+o)=(q:Int):=by rw[wrap_i64 (by omega)];omega
       simp-implicitDefEqProofs[hI5,Zg,Vy,hL,qp,g2,YE,A5,eX,yk,hw,hu,List.getD,Cell.bP]
      ·have heo:(bk[r]).length=o:=by omega
       subst heo;simp-implicitDefEqProofs[FP,hI5,jX,QL]
     ·simp-implicitDefEqProofs[Zm]<;>(
       exact⟨rfl,rfl⟩)
    ·have her:bk.length=r:=by omega
     subst her;simp-implicitDefEqProofs[Zm];refine cP (fun k S=>(S.f 3= .ptr 3 0 0/\S.h 3=some ⟨3,[.agg [ay,ah,az]],true⟩/\S.f 4= .ptr 4 0 0/\S.h 4=some ⟨2,[.agg [aj,.int .u16 bH]],true⟩/\S.f 6= .ptr 6 0 0/\S.h 6=some ⟨5,[.agg [.sl false (([]:List Int).map (V.int .i64)),.int .u16 0,.sl false (([]:List Cell).map Cell.e),.sl false (([]:List cx).map cx.e),.sl false (([]:List Thread).map Thread.e)]],true⟩/\S.f 12= .ptr 12 0 0/\S.h 1000=some ⟨2,(⟨⟨aj,bH⟩,⟨ik aj bH ah bk bk.length,bY⟩,nc aj bH ah (aQ.take k)⟩:bf).memory.cells.map Cell.e,false⟩/\S.h 1001=some ⟨8,(⟨⟨aj,bH⟩,⟨ik aj bH ah bk bk.length,bY⟩,nc aj bH ah (aQ.take k)⟩:bf).threads.map Thread.e,false⟩/\S.h 12=some ⟨5,[.agg [.sl false ((⟨⟨aj,bH⟩,⟨ik aj bH ah bk bk.length,bY⟩,nc aj bH ah (aQ.take k)⟩:bf).layout.aD.map (V.int .i64)),.int .u16 (⟨⟨aj,bH⟩,⟨ik aj bH ah bk bk.length,bY⟩,nc aj bH ah (aQ.take k)⟩:bf).layout.key,.bU 1000 0 ((⟨⟨aj,bH⟩,⟨ik aj bH ah bk bk.length,bY⟩,nc aj bH ah (aQ.take k)⟩:bf).memory.cells.map Cell.e).length,.sl false ((⟨⟨aj,bH⟩,⟨ik aj bH ah bk bk.length,bY⟩,nc aj bH ah (aQ.take k)⟩:bf).memory.lines.map cx.e),.bU 1001 0 ((⟨⟨aj,bH⟩,⟨ik aj bH ah bk bk.length,bY⟩,nc aj bH ah (aQ.take k)⟩:bf).threads.map Thread.e).length]],true⟩/\S.f 104= .sl false (aQ.map View.e)/\S.f 105= .int .i64 ((aQ).length:Int)/\S.f 106= .int .i64 (k:Int)/\S.n=1102)/\True) (aQ.length) ?_ 0 (by simp) ?_
     ·rintro k S E6 ⟨hI6,hP6⟩;have DA:=cS k (by omega);by_cases jW:k<aQ.length
      ·have jX:=VD (aD:=aj) (key:=bH) (ae:=ah) jW;have hr8:=(r4 k jW).bm;simp-implicitDefEqProofs[hI6,jW];refine cP (fun q S=>(S.f 3= .ptr 3 0 0/\S.h 3=some ⟨3,[.agg [ay,ah,az]],true⟩/\S.f 4= .ptr 4 0 0/\S.h 4=some ⟨2,[.agg [aj,.int .u16 bH]],true⟩/\S.f 6= .ptr 6 0 0/\S.h 6=some ⟨5,[.agg [.sl false (([]:List Int).map (V.int .i64)),.int .u16 0,.sl false (([]:List Cell).map Cell.e),.sl false (([]:List cx).map cx.e),.sl false (([]:List Thread).map Thread.e)]],true⟩/\S.f 12= .ptr 12 0 0/\S.h 1000=some ⟨2,(⟨⟨aj,bH⟩,⟨ik aj bH ah bk bk.length,bY⟩,nc aj bH ah (aQ.take k)⟩:bf).memory.cells.map Cell.e,false⟩/\S.h 1001=some ⟨8,(⟨⟨aj,bH⟩,⟨ik aj bH ah bk bk.length,bY⟩,nc aj bH ah (aQ.take k)⟩:bf).threads.map Thread.e,false⟩/\S.h 12=some ⟨5,[.agg [.sl false ((⟨⟨aj,bH⟩,⟨ik aj bH ah bk bk.length,bY⟩,nc aj bH ah (aQ.take k)⟩:bf).layout.aD.map (V.int .i64)),.int .u16 (⟨⟨aj,bH⟩,⟨ik aj bH ah bk bk.length,bY⟩,nc aj bH ah (aQ.take k)⟩:bf).layout.key,.bU 1000 0 ((⟨⟨aj,bH⟩,⟨ik aj bH ah bk bk.length,bY⟩,nc aj bH ah (aQ.take k)⟩:bf).memory.cells.map Cell.e).length,.sl false ((⟨⟨aj,bH⟩,⟨ik aj bH ah bk bk.length,bY⟩,nc aj bH ah (aQ.take k)⟩:bf).memory.lines.map cx.e),.bU 1001 0 ((⟨⟨aj,bH⟩,⟨ik aj bH ah bk bk.length,bY⟩,nc aj bH ah (aQ.take k)⟩:bf).threads.map Thread.e).length]],true⟩/\S.f 19= .ptr 19 0 0/\S.h 1002=some ⟨2,(⟨(aQ[k]).state,u6 aj bH ah ((aQ[k]).bm.take q),(aQ[k]).pc,(aQ[k]).count,(aQ[k]).bV,(aQ[k]).saved,(aQ[k]).dd,(aQ[k]).code⟩:Thread).bm.map Cell.e,false⟩/\S.h 19=some ⟨8,[.agg [.int .i64 (⟨(aQ[k]).state,u6 aj bH ah ((aQ[k]).bm.take q),(aQ[k]).pc,(aQ[k]).count,(aQ[k]).bV,(aQ[k]).saved,(aQ[k]).dd,(aQ[k]).code⟩:Thread).state,.bU 1002 0 ((⟨(aQ[k]).state,u6 aj bH ah ((aQ[k]).bm.take q),(aQ[k]).pc,(aQ[k]).count,(aQ[k]).bV,(aQ[k]).saved,(aQ[k]).dd,(aQ[k]).code⟩:Thread).bm.map Cell.e).length,.int .i64 (⟨(aQ[k]).state,u6 aj bH ah ((aQ[k]).bm.take q),(aQ[k]).pc,(aQ[k]).count,(aQ[k]).bV,(aQ[k]).saved,(aQ[k]).dd,(aQ[k]).code⟩:Thread).pc,.int .i64 (⟨(aQ[k]).state,u6 aj bH ah ((aQ[k]).bm.take q),(aQ[k]).pc,(aQ[k]).count,(aQ[k]).bV,(aQ[k]).saved,(aQ[k]).dd,(aQ[k]).code⟩:Thread).count,.int .i64 (⟨(aQ[k]).state,u6 aj bH ah ((aQ[k]).bm.take q),(aQ[k]).pc,(aQ[k]).count,(aQ[k]).bV,(aQ[k]).saved,(aQ[k]).dd,(aQ[k]).code⟩:Thread).bV,.int .i64 (⟨(aQ[k]).state,u6 aj bH ah ((aQ[k]).bm.take q),(aQ[k]).pc,(aQ[k]).count,(aQ[k]).bV,(aQ[k]).saved,(aQ[k]).dd,(aQ[k]).code⟩:Thread).saved,.int .i64 (⟨(aQ[k]).state,u6 aj bH ah ((aQ[k]).bm.take q),(aQ[k]).pc,(aQ[k]).count,(aQ[k]).bV,(aQ[k]).saved,(aQ[k]).dd,(aQ[k]).code⟩:Thread).dd,.int .u16 (⟨(aQ[k]).state,u6 aj bH ah ((aQ[k]).bm.take q),(aQ[k]).pc,(aQ[k]).count,(aQ[k]).bV,(aQ[k]).saved,(aQ[k]).dd,(aQ[k]).code⟩:Thread).code]],true⟩/\S.f 104= .sl false (aQ.map View.e)/\S.f 105= .int .i64 ((aQ).length:Int)/\S.f 106= .int .i64 (k:Int)/\S.f 126= .sl false (((aQ[k]).bm).map Canon.e)/\S.f 127= .int .i64 (((aQ[k]).bm.length:Int))/\S.f 128= .int .i64 (q:Int)/\S.n=1103)/\True) ((aQ[k]).bm.length) ?_ 0 (by simp) ?_
       ·rintro q S hiq ⟨hI7,hP7⟩;have hwq:=cS q (by omega);by_cases ang:q<(aQ[k]).bm.length
        ·have hu:=Zk (aD:=aj) (key:=bH) (ae:=ah) ang;unfold PZ at hu;obtain⟨⟨ct,cv,cr,co⟩,qp⟩: ∃c,((aQ[k]).bm)[q]=c:=⟨_,rfl⟩;rw[qp]at hu;have nN:=I4 aj bH ah ((aQ[k]).bm.take q);rw[List.length_take_of_le (by omega)]at nN;simp-implicitDefEqProofs[hI7,hwq,ang,hL,qp,hu];exact⟨⟨by omega,by omega⟩,fun _ _=>rfl⟩
        ·have heq:(aQ[k]).bm.length=q:=by omega
         subst heq;have lp:=zH aj bH ah (aQ.take k);rw[List.length_take_of_le (by omega)]at lp;simp-implicitDefEqProofs[jW,hI7,jX,DA];exact⟨⟨by omega,by omega⟩,fun _ _=>rfl⟩
       ·simp-implicitDefEqProofs[hI6]<;>(
         trivial)
      ·have FH:aQ.length=k:=by omega
       subst FH;simp-implicitDefEqProofs[hI6,jy]
     ·simp-implicitDefEqProofs[Zm]<;>(
       trivial)
   ·simp-implicitDefEqProofs[zw]<;>(
     trivial)
 ·simp-implicitDefEqProofs<;>(
   trivial)
end Go.Proofs.YtejohpnpnaljdaaGreat
