/- Part of a proof: S22. -/
import Derived.Test.YtejohpnpnaljdaaGreatM26
set_option linter.all false
set_option maxRecDepth 20000
set_option maxHeartbeats 20000000
namespace Go.Proofs.YtejohpnpnaljdaaGreat
open Go Go.Abs Go.Abs.lu
theorem VV{l:List dT}{i:Nat}(h:i<Ao l)(h':i<l.length): ¬(l[i]).file= -1:=by
 have:=List.not_of_lt_findIdx (p:=fun o:dT=>decide (o.file= -1)) h;simpa using this
theorem Qd{l:List dT}(h:Ao l<l.length):(l[Ao l]).file= -1:=by
 have:=List.findIdx_getElem (p:=fun o:dT=>decide (o.file= -1)) (w:=h);exact of_decide_eq_true this
def kA(l:List dT)(file:Int)(i:Nat):List dT:=(l.take i).map (uY file)++l.drop i
theorem Ji(l:List dT)(file:Int):kA l file 0=l:=by simp[kA]
theorem xy(l:List dT)(file:Int)(i:Nat):(kA l file i).length=l.length:=by simp[kA];omega
theorem EU{l:List dT}{file:Int}{i:Nat}(h:i<l.length)(h':i<(kA l file i).length):(kA l file i)[i]=l[i]:=by
 have e:(kA l file i)[i]?=some l[i]:=by
  unfold kA;rw[List.getElem?_append_right (by simp;omega),List.length_map,List.length_take,Nat.min_eq_left (Nat.le_of_lt h),Nat.sub_self,drop_cons h];rfl
 rw[List.getElem?_eq_getElem h']at e;exact Option.some.inj e
theorem CP{l:List dT}{file:Int}{i:Nat}(h:i<l.length):(kA l file i).set i (uY file l[i])=kA l file (i+1):=by
 unfold kA;have e:((l.take i).map (uY file)).length=i:=by simp;omega
 rw[List.set_append_right _ _ (by omega),e,Nat.sub_self,drop_cons h,List.set_cons_zero,fY h,List.map_append];simp
theorem Jj{l:List dT}{file:Int}{i:Nat}(h:i<l.length)(hn: ¬(l[i]).file=file):kA l file (i+1)=kA l file i:=by
 rw[<-CP h,show uY file l[i]=l[i] from if_neg hn];have h':i<(kA l file i).length:=by rw[xy];exact h
 rw[<-EU (file:=file) h h',List.set_getElem_self]
theorem L8(l:List dT)(file:Int):kA l file l.length=l.map (uY file):=by simp[kA]
theorem VW(x:List Canon)(n:Nat)(v:V):(ba x).put n v=v:=rfl
@[simp] theorem ZB(aU:List (List Canon))(aR:List dT)(file mode:Int)(hf:gS (bE.mk aU aR)):cz X 218 [.agg [aU,aR],file,mode]=some (.de [.agg [.sl false (((mP (bE.mk aU aR) file mode).1).data.map ba),.sl false (((mP (bE.mk aU aR) file mode).1).opens.map dT.e)],.int .i64 ((mP (bE.mk aU aR) file mode).2)]):=by
 refine bd Tryz.func218 rfl rfl ?_;have hl:=hf.lens;have l1:aU.length<=4:=hl.data;have l2:=hl.each;have l8:aR.length=8:=hf.opens;have l3:aR.length<=1000000000:=hl.opens;simp only at l2;have A4:=IT aR;have td:df (List.take aR.length (aR.map dT.e))=aR.map dT.e:=by rw[bn (by simp),sC]
 have td8:df (List.take 8 (aR.map dT.e))=aR.map dT.e:=by rw[l8]at td;exact td
 obtain⟨fh,hfh⟩: ∃q,Ao aR=q:=⟨_,rfl⟩;simp-implicitDefEqProofs[l1,l2,l3];refine cP (fun i S=>(S.f 1= .int .i64 file/\S.f 2= .int .i64 mode/\S.f 3= .ptr 3 0 0/\S.h 3=some ⟨2,[.agg [aU,aR]],true⟩/\S.f 6= .ptr 6 0 0/\S.h 6=some ⟨2,[.agg [.sl false (([]:List (List Canon)).map ba),.sl false (([]:List dT).map dT.e)]],true⟩/\S.f 8= .ptr 8 0 0/\S.h 1000=some ⟨1,((bE.mk aU aR)).data.map ba,false⟩/\S.h 1001=some ⟨3,((bE.mk aU aR)).opens.map dT.e,false⟩/\S.h 8=some ⟨2,[.agg [.bU 1000 0 (((bE.mk aU aR)).data.map ba).length,.bU 1001 0 (((bE.mk aU aR)).opens.map dT.e).length]],true⟩/\S.f 9= .int .i64 ((i:Int))/\S.n=1102)/\True) (fh) ?_ 0 (by simp) ?_
 ·rintro i S kY ⟨dA,hX⟩;have eY:=cS i (by omega);by_cases bI:i<fh
  ·have g1:i<aR.length:=by omega
   have g1i:(i:Int)<aR.length:=by omega
   have g2:=VV (l:=aR) (i:=i) (by omega) g1;simp-implicitDefEqProofs[dA,eY,bI,g1,g1i,g2]
  ·have ko:fh=i:=by omega
   subst ko;by_cases g1:fh<aR.length
   case neg=>
    have g8:fh=8:=by omega
    subst g8;have e:mP (bE.mk aU aR) file mode=((bE.mk aU aR), -1):=by unfold mP;rw[if_pos (.inr (.inr (.inr (.inr (by simp only;rw[hfh,l8])))))]
    rw[e];by_cases c1:file<0
    ·simp-implicitDefEqProofs[dA,l8,td8,c1]
    by_cases c2:(aU.length:Int)<=file
    ·simp-implicitDefEqProofs[dA,l8,td8,c1,c2]
    by_cases c3:mode<0
    ·simp-implicitDefEqProofs[dA,l8,td8,c1,c2,c3]
    by_cases c4:2<mode
    ·simp-implicitDefEqProofs[dA,l8,td8,c1,c2,c3,c4]
    simp-implicitDefEqProofs[dA,l8,td8,c1,c2,c3,c4]
   have g1i:(fh:Int)<aR.length:=by omega
   have g2:(aR[fh]).file= -1:=by have:=Qd (l:=aR) (by omega);simpa only[hfh] using this
   have g3: ¬(fh:Int)=aR.length:=by omega
   have no: ∀(h:file<0\/(aU.length:Int)<=file\/mode<0\/2<mode),mP (bE.mk aU aR) file mode=((bE.mk aU aR), -1):=fun h=>by
    unfold mP;rw[if_pos (by rcases h with h|h|h|h;exact .inl h;exact .inr (.inl h);exact .inr (.inr (.inl h));exact .inr (.inr (.inr (.inl h))))]
   by_cases c1:file<0
   ·rw[no (.inl c1)];simp-implicitDefEqProofs[dA,g1,g1i,g2,c1]
   by_cases c2:(aU.length:Int)<=file
   ·rw[no (.inr (.inl c2))];simp-implicitDefEqProofs[dA,g1,g1i,g2,c1,c2]
   by_cases c3:mode<0
   ·rw[no (.inr (.inr (.inl c3)))];simp-implicitDefEqProofs[dA,g1,g1i,g2,c1,c2,c3]
   by_cases c4:2<mode
   ·rw[no (.inr (.inr (.inr c4)))];simp-implicitDefEqProofs[dA,g1,g1i,g2,c1,c2,c3,c4]
   obtain⟨j,rfl⟩:=Int.eq_ofNat_of_zero_le (show 0<=file by omega);have hj:j<aU.length:=by omega
   have W2:(j:Int)<aU.length:=by omega
   have JB:=l2 j hj;have hfd:aU.getD (j:Int).toNat []=aU[j]:=by simp[List.getD,hj]
   have key:mP (bE.mk aU aR) j mode=((⟨(tV (bE.mk aU aR) j mode).data,(tV (bE.mk aU aR) j mode).opens.set fh (⟨j,if mode=2 then((aU[j]).length:Int) else 0,decide (0<mode)⟩:dT)⟩:bE),(fh:Int)):=by
    unfold mP;rw[if_neg (by simp only;rw[hfh];omega),hfh];simp only[hfd]
   have ags: ∀(x:dT) (a b:Int) (c:Bool),(dT.e x).put 0 (V.agg [.int .i64 a,.int .i64 b,.bool c])=dT.e ⟨a,b,c⟩:=fun _ _ _ _=>rfl;have an2: ∀(x:dT) (b:Int),(dT.e x).put 1 (V.int .i64 b)=dT.e ⟨x.file,b,x.write⟩:=fun _ _=>rfl;have fin: ∀(y:dT),df (List.take aR.length ((aR.map dT.e).set fh (dT.e y)))=(aR.map dT.e).set fh (dT.e y):=fun y=>by
    rw[bn (by simp),<-List.map_set (f:=dT.e),sC]
   have hm:mode=0\/mode=1\/mode=2:=by omega
   rcases hm with rfl|rfl|rfl
   ·have e:mP (bE.mk aU aR) j 0=((⟨aU,aR.set fh (⟨j,0,false⟩:dT)⟩:bE),(fh:Int)):=by rw[key];rfl
    rw[e];simp-implicitDefEqProofs[dA,g1,g1i,g2,g3,c1,c2,ags,fin]
   ·have e:mP (bE.mk aU aR) j 1=((⟨aU.set j [],(aR.map (uY j)).set fh (⟨j,0,true⟩:dT)⟩:bE),(fh:Int)):=by rw[key];rfl
    obtain⟨zo,hzo⟩: ∃q,aR.map (uY j)=q:=⟨_,rfl⟩;have zol:zo.length=8:=by rw[<-hzo];simp[l8]
    rw[e,hzo];have f8:fh<8:=by omega
    have f8i:(fh:Int)<8:=by omega
    have f8n: ¬(fh:Int)=8:=by omega
    simp-implicitDefEqProofs[dA,l8,g2,f8,f8i,f8n,c1,c2,hj,W2,VW];refine cP (fun i S=>(S.f 1= .int .i64 ((j:Int))/\S.f 2= .int .i64 ((1:Int))/\S.f 6= .ptr 6 0 0/\S.h 6=some ⟨2,[.agg [.sl false (([]:List (List Canon)).map ba),.sl false (([]:List dT).map dT.e)]],true⟩/\S.f 8= .ptr 8 0 0/\S.h 1000=some ⟨1,(⟨aU.set j [],kA aR j i⟩:bE).data.map ba,false⟩/\S.h 1001=some ⟨3,(⟨aU.set j [],kA aR j i⟩:bE).opens.map dT.e,false⟩/\S.h 8=some ⟨2,[.agg [.bU 1000 0 ((⟨aU.set j [],kA aR j i⟩:bE).data.map ba).length,.bU 1001 0 ((⟨aU.set j [],kA aR j i⟩:bE).opens.map dT.e).length]],true⟩/\S.f 9= .int .i64 ((fh:Int))/\S.f 62= .int .i64 ((8:Int))/\S.f 63= .int .i64 (i:Int)/\S.n=1102)/\True) (8) ?_ 0 (by simp) ?_
    ·rintro i S kY ⟨mW,uN⟩;have eY:=cS i (by omega);by_cases bI:i<8
     ·have i1:i<aR.length:=by omega
      have i8i:(i:Int)<8:=by omega
      have zl:=xy aR j i;rw[l8]at zl;have i2:i<(kA aR j i).length:=by omega
      have za:=EU (file:=(j:Int)) i1 i2;by_cases q:(aR[i]).file=(j:Int)
      ·have zs:=CP (file:=(j:Int)) i1;rw[show uY (j:Int) aR[i]=⟨(aR[i]).file,0,(aR[i]).write⟩ from if_pos q]at zs;have q':=eq_true q;simp-implicitDefEqProofs[mW,eY,bI,zl,i8i,za,q',an2];exact⟨by rw[<-zs,List.map_set],by rw[xy,l8]⟩
      ·have zs:=Jj (file:=(j:Int)) i1 q;simp-implicitDefEqProofs[mW,eY,bI,zl,i8i,za,q,zs]
     ·have ko:8=i:=by omega
      subst ko;have z8:kA aR j 8=aR.map (uY j):=by rw[<-L8,l8]
      rw[z8,hzo]at mW;have fz:fh<zo.length:=by omega
      have au2: ∀(y:dT),df (List.take 8 ((zo.map dT.e).set fh (dT.e y)))=(zo.map dT.e).set fh (dT.e y):=fun y=>by
       rw[bn (by simp[zol]),<-List.map_set (f:=dT.e),sC]
      simp-implicitDefEqProofs[mW,zol,f8,f8i,ags,au2];rw[bn (by simp),<-List.map_set (f:=ba),Il]
    ·simp-implicitDefEqProofs[dA]<;>(
      simp[Ji,qy])
   ·have e:mP (bE.mk aU aR) j 2=((⟨aU,aR.set fh (⟨j,(aU[j]).length,true⟩:dT)⟩:bE),(fh:Int)):=by rw[key];rfl
    rw[e];simp-implicitDefEqProofs[dA,g1,g1i,g2,g3,c1,c2,hj,W2,ags,an2,fin]
 ·simp-implicitDefEqProofs<;>(
   trivial)
end Go.Proofs.YtejohpnpnaljdaaGreat
