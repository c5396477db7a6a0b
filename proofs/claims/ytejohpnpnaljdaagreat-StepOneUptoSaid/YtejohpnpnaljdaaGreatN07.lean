/- StepOne in its second form: for every machine, list of numbers and number whose bulk is at most 1048576, the law answers true and its input reads as before. -/
import Derived.Test.YtejohpnpnaljdaaGreatM13
import Derived.Test.YtejohpnpnaljdaaGreatM52
set_option linter.all false
set_option maxRecDepth 100000
set_option maxHeartbeats 20000000
namespace Go.Abs
open Go
section
variable {X:Env} {f:FuncId} {S:St} {Q:Ex->St->Prop}
end
section
variable {X:Env} {S:St} {rs:List ResultVar} {K:V->aY->Nat->Prop}
end
theorem afb(K:V->aY->Prop):jw none K=False:=rfl
section
variable {X:Env} {fx:FuncId} {cG:List (Option Nat)} {n0 kk n:Nat} {r:List Oper} {ff:Nat->V} {hp:aY} {K:St->Prop} {d:Nat} {ty:TypeId} {ps:String} {af:Array Edge}
end
section
variable (S:St) (N:Norm) (hx:aY)
end
attribute [simp] afb
end Go.Abs
namespace Go.Abs.lu
open Go Go.Abs
@[simp] theorem ag6(l:List dT):df (l.map dT.e)=l.map dT.e:=jV (fun x=>by simp[dT.bP]) l
@[simp] theorem agd(l:List Output):df (l.map Output.e)=l.map Output.e:=jV (fun x=>by simp[Output.bP]) l
@[simp] theorem agf(l:List Entry):df (l.map Entry.e)=l.map Entry.e:=jV (fun x=>by simp[Entry.bP]) l
end Go.Abs.lu
namespace Go.Proofs.YtejohpnpnaljdaaGreat
open Go Go.Abs Go.Abs.lu
theorem afk{p:Prog}{c:Int}{m:bf}(H:cR p c m){t:Nat}(ht:t<4):cR p (c+1) (hZ p m t).1:=by
 have hl:t<m.threads.length:=by rw[H.len];exact ht
 have:=uU H (H.nv t hl);unfold hZ;rw[U5 hl];exact vO H (by omega) this.mem (fun g=>ab6 H (H.coh (by omega)) _) this.nv
end Go.Proofs.YtejohpnpnaljdaaGreat
namespace Go.Proofs.YtejohpnpnaljdaaGreat
open Go Go.Abs Go.Abs.lu
theorem adl:kv fG=[.sl false [],.int .u16 0,.sl false [],.sl false [],.sl false []]:=rfl
@[simp] theorem aem(ay:List Instr)(ah:List Int)(az:List (List Int))(aa:List Int)(aw:Int)(aq:List Cell)(an:List cx)(ax:List Thread)(t:Int)(hp:rK (Prog.mk ay ah az))(hm:qA (bf.mk (aN.mk aa aw) (aK.mk aq an) ax))(hr:yl (bf.mk (aN.mk aa aw) (aK.mk aq an) ax)):cz X 36 [.agg [.sl false (ay.map Instr.e),.sl false (ah.map (V.int .i64)),.sl false (az.map aS)],.agg (kv (bf.mk (aN.mk aa aw) (aK.mk aq an) ax)),.int .i64 t]=some (.de [.agg (kv (AY (Prog.mk ay ah az) (bf.mk (aN.mk aa aw) (aK.mk aq an) ax) t).1),.int .i64 (AY (Prog.mk ay ah az) (bf.mk (aN.mk aa aw) (aK.mk aq an) ax) t).2.1,.int .i64 (AY (Prog.mk ay ah az) (bf.mk (aN.mk aa aw) (aK.mk aq an) ax) t).2.2]):=by
 by_cases hv:jc (Prog.mk ay ah az) (bf.mk (aN.mk aa aw) (aK.mk aq an) ax)=true
 case neg=>
  rw[YS (fun h=>hv h.1),adl];refine bd Tryz.func36 rfl rfl ?_;unfold kv;simp(maxSteps:=10000000) (maxDischargeDepth:=30) -implicitDefEqProofs[hp,hm,hv]
 by_cases h0:0<=t
 case neg=>
  rw[YS (fun h=>h0 h.2.1),adl];refine bd Tryz.func36 rfl rfl ?_;unfold kv;simp(maxSteps:=10000000) (maxDischargeDepth:=30) -implicitDefEqProofs[hp,hm,hv,h0]
 by_cases h4:t<4
 case neg=>
  rw[YS (fun h=>h4 h.2.2),adl];refine bd Tryz.func36 rfl rfl ?_;unfold kv;simp(maxSteps:=10000000) (maxDischargeDepth:=30) -implicitDefEqProofs[hp,hm,hv,h0,h4]
 obtain⟨n,rfl⟩:=Int.eq_ofNat_of_zero_le h0;have n4:n<4:=by omega
 have MG:=uT hr hv;have hl:ax.length=4:=MG.len;have nl:n<ax.length:=by omega
 have hx:cg (bf.mk (aN.mk aa aw) (aK.mk aq an) ax) (n:Int).toNat=ax[n]:=by rw[Int.toNat_natCast];exact ie nl
 by_cases hs:(ax[n]).state=1
 case neg=>
  have e:AY (Prog.mk ay ah az) (bf.mk (aN.mk aa aw) (aK.mk aq an) ax) n=(fG,0,10):=by unfold AY;rw[if_pos ⟨hv,h0,h4⟩,hx,if_neg hs]
  rw[e,adl];refine bd Tryz.func36 rfl rfl ?_;unfold kv;simp(maxSteps:=10000000) (maxDischargeDepth:=30) -implicitDefEqProofs[hp,hm,hv,h0,h4,n4,hl,hs]
 have e:AY (Prog.mk ay ah az) (bf.mk (aN.mk aa aw) (aK.mk aq an) ax) n=((hZ (Prog.mk ay ah az) (bf.mk (aN.mk aa aw) (aK.mk aq an) ax) n).1,(hZ (Prog.mk ay ah az) (bf.mk (aN.mk aa aw) (aK.mk aq an) ax) n).2,0):=by unfold AY;rw[if_pos ⟨hv,h0,h4⟩,hx,if_pos hs,Int.toNat_natCast]
 rw[e];refine yu.cz ?_;obtain⟨v1,h1,k1,eC,ek,ev,HA,HB⟩:=Bj aa aw aq an ax 28 (Prog.mk ay ah az) _ MG;subst ek;subst ev;simp only[Nat.reduceAdd]at eC HA HB;have hs':=eq_true hs;have key: ∀(H:aY) (K:Nat),H 26=some ⟨5,[.agg [.bU 33 0 aa.length,.int .u16 aw,.bU 48 0 512,.bU 127 0 4,.bU 210 0 4]],true⟩->LG 28 h1 H->218<=K->
   cy X 65 [.agg [.sl false (ay.map Instr.e),.sl false (ah.map (V.int .i64)),.sl false (az.map aS)],.ptr 26 0 0,.int .i64 (n:Int)] H K=some (.int .i64 (hZ (Prog.mk ay ah az) (bf.mk (aN.mk aa aw) (aK.mk aq an) ax) n).2,cH 65 [.agg [.sl false (ay.map Instr.e),.sl false (ah.map (V.int .i64)),.sl false (az.map aS)],.ptr 26 0 0,.int .i64 (n:Int)] H K,cK 65 [.agg [.sl false (ay.map Instr.e),.sl false (ah.map (V.int .i64)),.sl false (az.map aS)],.ptr 26 0 0,.int .i64 (n:Int)] H K)/\cH 65 [.agg [.sl false (ay.map Instr.e),.sl false (ah.map (V.int .i64)),.sl false (az.map aS)],.ptr 26 0 0,.int .i64 (n:Int)] H K 26=some ⟨5,[.agg [.bU 33 0 aa.length,.int .u16 aw,.bU 48 0 512,.bU 127 0 4,.bU 210 0 4]],true⟩/\
   cH 65 [.agg [.sl false (ay.map Instr.e),.sl false (ah.map (V.int .i64)),.sl false (az.map aS)],.ptr 26 0 0,.int .i64 (n:Int)] H K 2=H 2/\ ∃ft,dc (cH 65 [.agg [.sl false (ay.map Instr.e),.sl false (ah.map (V.int .i64)),.sl false (az.map aS)],.ptr 26 0 0,.int .i64 (n:Int)] H K) (cK 65 [.agg [.sl false (ay.map Instr.e),.sl false (ah.map (V.int .i64)),.sl false (az.map aS)],.ptr 26 0 0,.int .i64 (n:Int)] H K) 26 (.bU 33 0 aa.length) 48 127 210 ft (pG 146 165 184 203) (hZ (Prog.mk ay ah az) (bf.mk (aN.mk aa aw) (aK.mk aq an) ax) n).1/\na 28 (.bU 33 0 aa.length) 48 127 210 ft (pG 146 165 184 203):=fun H K hb hO hK=>by
  obtain⟨⟨a1,a2,a3⟩,aI,aB⟩:=HB;have HI:=Vc (b:=26) (by rw[hb];unfold jo;simp only[hl]) (by omega) (by omega) hK HA ⟨⟨a1,a2,a3⟩,aI,aB⟩ hO;obtain⟨h',k',ft,e,G,g1,g2,g3⟩:=amp ay ah az .bad 0 H K 26 _ _ _ _ _ _ (bf.mk (aN.mk aa aw) (aK.mk aq an) ax) n _ HI MG (by omega) n4 ⟨33,rfl⟩;obtain⟨e1,e2⟩:=tS e;rw[e1,e2];have hb2:=G.sE;have hl2:=G.len;refine⟨e,?_,g3 2 (by omega) (by omega) (by omega) (fun j hj=>by have:=aI j hj;omega) (by omega) (by have:=aI n n4;omega),ft,G,⟨a1,a2,a3⟩,fun j hj=>⟨?_,(aI j hj).2⟩,aB⟩
  ·rw[hb2];unfold jo;rw[hl2];rfl
  ·rcases g2 j hj with q|q
   ·rw[q];exact(aI j hj).1
   ·omega
 have cl:=fun H K a b c=>(key H K a b c).1;have cb:=fun H K a b c=>(key H K a b c).2.1;have c2:=fun H K a b c=>(key H K a b c).2.2.1;have fin: ∀(H:aY) (K k':Nat) (x:Option Ob),H 26=some ⟨5,[.agg [.bU 33 0 aa.length,.int .u16 aw,.bU 48 0 512,.bU 127 0 4,.bU 210 0 4]],true⟩->LG 28 h1 H->218<=K->yu (hZ (Prog.mk ay ah az) (bf.mk (aN.mk aa aw) (aK.mk aq an) ax) n).1 (hZ (Prog.mk ay ah az) (bf.mk (aN.mk aa aw) (aK.mk aq an) ax) n).2 0 (.de [.agg [.bU 33 0 aa.length,.int .u16 aw,.bU 48 0 512,.bU 127 0 4,.bU 210 0 4],.int .i64 (hZ (Prog.mk ay ah az) (bf.mk (aN.mk aa aw) (aK.mk aq an) ax) n).2,.int .i64 0]) (aO (cH 65 [.agg [.sl false (ay.map Instr.e),.sl false (ah.map (V.int .i64)),.sl false (az.map aS)],.ptr 26 0 0,.int .i64 (n:Int)] H K) 2 x) k':=fun H K k' x a b c=>by
  obtain⟨_,_,_,ft,G,GA⟩:=key H K a b c;refine⟨_,48,127,210,ft,_,_,?_,G.at.mono GA (Nat.le_refl _) fun i hi _=>by simp[aO];intro e;omega⟩;unfold jo;rw[G.len];rfl
 unfold kv;refine bu (X:=X) Tryz.func36 rfl rfl ?_;have h4n: ¬(4:Int)<=n:=by omega
 have hn0: ¬(n:Int)<0:=by omega
 simp(maxSteps:=10000000) (maxDischargeDepth:=30) -implicitDefEqProofs[hp,hm,hv,h0,h4,h4n,hn0,n4,hl,hs',eC,mC,nw,cl,cb,c2,uV,yv];refine fin _ _ _ _ ?_ ?_ ?_
 ·simp
 ·simp[uV,yv]
 ·omega
end Go.Proofs.YtejohpnpnaljdaaGreat
namespace Go.Proofs.YtejohpnpnaljdaaGreat
open Go Go.Abs Go.Abs.lu
@[simp] theorem ado(ay:List Instr)(ah:List Int)(az:List (List Int))(aa:List Int)(aw:Int)(aq:List Cell)(an:List cx)(ax:List Thread)(t:Int)(hp:rK (Prog.mk ay ah az))(hm:qA (bf.mk (aN.mk aa aw) (aK.mk aq an) ax))(hr:yl (bf.mk (aN.mk aa aw) (aK.mk aq an) ax)):cz X 36 [.agg [.sl false (ay.map Instr.e),.sl false (ah.map (V.int .i64)),.sl false (az.map aS)],.agg [.sl false (aa.map (V.int .i64)),.int .u16 aw,.sl false (aq.map Cell.e),.sl false (an.map cx.e),.sl false (ax.map Thread.e)],.int .i64 t]=some (.de [.agg [.sl false (((AY (Prog.mk ay ah az) (bf.mk (aN.mk aa aw) (aK.mk aq an) ax) t).1).layout.aD.map (V.int .i64)),.int .u16 ((AY (Prog.mk ay ah az) (bf.mk (aN.mk aa aw) (aK.mk aq an) ax) t).1).layout.key,.sl false (((AY (Prog.mk ay ah az) (bf.mk (aN.mk aa aw) (aK.mk aq an) ax) t).1).memory.cells.map Cell.e),.sl false (((AY (Prog.mk ay ah az) (bf.mk (aN.mk aa aw) (aK.mk aq an) ax) t).1).memory.lines.map cx.e),.sl false (((AY (Prog.mk ay ah az) (bf.mk (aN.mk aa aw) (aK.mk aq an) ax) t).1).threads.map Thread.e)],.int .i64 ((AY (Prog.mk ay ah az) (bf.mk (aN.mk aa aw) (aK.mk aq an) ax) t).2.1),.int .i64 ((AY (Prog.mk ay ah az) (bf.mk (aN.mk aa aw) (aK.mk aq an) ax) t).2.2)]):=by
 exact aem ay ah az aa aw aq an ax t hp hm hr
end Go.Proofs.YtejohpnpnaljdaaGreat
namespace Go.Proofs.YtejohpnpnaljdaaGreat
open Go Go.Abs Go.Abs.lu
def adr(l:List Thread):Bool:=l.all fun t=>decide (t.bm.length<=20)
def adu(l:List cx):Bool:=l.all fun t=>decide (t.cells.length<=20)
theorem afl{l:List Thread}{i:Nat}(h:i<l.length):adr (l.take (i+1))=(adr (l.take i)&&decide ((l[i]).bm.length<=20)):=tz h
theorem afm{l:List Thread}{i:Nat}(h:i<l.length)(hp: ¬(l[i]).bm.length<=20):adr l=false:=r8 h (by simpa using hp)
theorem afd{l:List Thread}:adr (l.take l.length)=adr l:=by rw[List.take_length]
theorem aft{l:List cx}{i:Nat}(h:i<l.length):adu (l.take (i+1))=(adu (l.take i)&&decide ((l[i]).cells.length<=20)):=tz h
theorem afu{l:List cx}{i:Nat}(h:i<l.length)(hp: ¬(l[i]).cells.length<=20):adu l=false:=r8 h (by simpa using hp)
theorem aff{l:List cx}:adu (l.take l.length)=adu l:=by rw[List.take_length]
def adm(m:bf):Bool:=adr m.threads&& (adu m.memory.lines&& (decide ((m.memory.cells.length:Int)<=600)&& (decide ((m.memory.lines.length:Int)<=20)&& (decide ((m.threads.length:Int)<=20)&&decide ((m.layout.aD.length:Int)<=20)))))
@[simp] theorem adk(aa:List Int)(aw:Int)(aq:List Cell)(an:List cx)(ax:List Thread)(h:qA (bf.mk (aN.mk aa aw) (aK.mk aq an) ax)):cz X 17 [.agg [.sl false (aa.map (V.int .i64)),.int .u16 aw,.sl false (aq.map Cell.e),.sl false (an.map cx.e),.sl false (ax.map Thread.e)]]=some (.bool (adm (bf.mk (aN.mk aa aw) (aK.mk aq an) ax))):=by
 refine bd Tryz.func17 rfl rfl ?_;have hm1:aa.length<=1000000000:=h.aD;have hm2:aq.length<=1000000000:=h.cells;have hm3:an.length<=1000000000:=h.lines;have hm5:ax.length<=1000000000:=h.threads;simp(maxSteps:=10000000) (maxDischargeDepth:=30) -implicitDefEqProofs[];refine cP (fun i S=>(S.f 1= .ptr 1 0 0/\S.h 1=some ⟨5,[.agg [.sl false (aa.map (V.int .i64)),.int .u16 aw,.sl false (aq.map Cell.e),.sl false (an.map cx.e),.sl false (ax.map Thread.e)]],true⟩/\S.f 8= .sl false (ax.map Thread.e)/\S.f 9= .int .i64 ((ax).length:Int)/\S.f 10= .int .i64 (i:Int)/\S.n=1100)/\(adr (ax.take i)=true)) (ax.length) ?_ 0 (by simp) ?_
 ·rintro i S hii ⟨hI0,hP0⟩;have hwi:=cS i (by omega);by_cases ady:i<ax.length
  ·have up:=afl ady;rw[hP0]at up;by_cases q:(ax[i]).bm.length<=20
   ·have ab7: ¬20<((ax[i]).bm.length:Int):=by omega
    simp[q]at up;simp(maxSteps:=10000000) (maxDischargeDepth:=30) -implicitDefEqProofs[hI0,hii,hwi,ady,ab7,up]
   ·have ab7:20<((ax[i]).bm.length:Int):=by omega
    have e:=afm ady q;have e2:adm (bf.mk (aN.mk aa aw) (aK.mk aq an) ax)=false:=by unfold adm;simp only;rw[e];rfl
    simp(maxSteps:=10000000) (maxDischargeDepth:=30) -implicitDefEqProofs[hI0,hii,hwi,ady,ab7,e2]
  ·have hei:ax.length=i:=by omega
   subst hei;rw[afd]at hP0;simp(maxSteps:=10000000) (maxDischargeDepth:=30) -implicitDefEqProofs[hI0,hii,hwi,ady];refine cP (fun j S=>(S.f 1= .ptr 1 0 0/\S.h 1=some ⟨5,[.agg [.sl false (aa.map (V.int .i64)),.int .u16 aw,.sl false (aq.map Cell.e),.sl false (an.map cx.e),.sl false (ax.map Thread.e)]],true⟩/\S.f 21= .sl false (an.map cx.e)/\S.f 22= .int .i64 ((an).length:Int)/\S.f 23= .int .i64 (j:Int)/\S.n=1100)/\(adu (an.take j)=true)) (an.length) ?_ 0 (by simp) ?_
   ·rintro j S jk ⟨hI1,hP1⟩;have hwj:=cS j (by omega);by_cases af5:j<an.length
    ·have up:=aft af5;rw[hP1]at up;by_cases q:(an[j]).cells.length<=20
     ·have ab7: ¬20<((an[j]).cells.length:Int):=by omega
      simp[q]at up;simp(maxSteps:=10000000) (maxDischargeDepth:=30) -implicitDefEqProofs[hii,hwi,ady,hI1,jk,hwj,af5,ab7,up]
     ·have ab7:20<((an[j]).cells.length:Int):=by omega
      have e:=afu af5 q;have e2:adm (bf.mk (aN.mk aa aw) (aK.mk aq an) ax)=false:=by unfold adm;simp only;rw[e,hP0];rfl
      simp(maxSteps:=10000000) (maxDischargeDepth:=30) -implicitDefEqProofs[hii,hwi,ady,hI1,jk,hwj,af5,ab7,e2]
    ·have hej:an.length=j:=by omega
     subst hej;rw[aff]at hP1;have e:adm (bf.mk (aN.mk aa aw) (aK.mk aq an) ax)=(decide ((aq.length:Int)<=600)&& (decide ((an.length:Int)<=20)&& (decide ((ax.length:Int)<=20)&&decide ((aa.length:Int)<=20)))):=by unfold adm;simp only;rw[hP0,hP1];rfl
     rw[e];by_cases a1:(aq.length:Int)<=600
     case neg=>simp(maxSteps:=10000000) (maxDischargeDepth:=30) -implicitDefEqProofs[hii,hwi,ady,hI1,jk,hwj,af5,a1]
     by_cases a2:(an.length:Int)<=20
     case neg=>simp(maxSteps:=10000000) (maxDischargeDepth:=30) -implicitDefEqProofs[hii,hwi,ady,hI1,jk,hwj,af5,a1,a2]
     by_cases a3:(ax.length:Int)<=20
     case neg=>simp(maxSteps:=10000000) (maxDischargeDepth:=30) -implicitDefEqProofs[hii,hwi,ady,hI1,jk,hwj,af5,a1,a2,a3]
     simp(maxSteps:=10000000) (maxDischargeDepth:=30) -implicitDefEqProofs[hii,hwi,ady,hI1,jk,hwj,af5,a1,a2,a3]
   ·simp(maxSteps:=10000000) (maxDischargeDepth:=30) -implicitDefEqProofs[hI0,hii,hwi,ady]<;>(
     rfl)
 ·simp(maxSteps:=10000000) (maxDischargeDepth:=30) -implicitDefEqProofs[]<;>(
   rfl)
end Go.Proofs.YtejohpnpnaljdaaGreat
namespace Go.Proofs.YtejohpnpnaljdaaGreat
open Go Go.Abs Go.Abs.lu
@[simp] theorem adi(ay:List Instr)(ah:List Int)(az:List (List Int))(aa:List Int)(aw:Int)(aq:List Cell)(an:List cx)(ax:List Thread)(t:Int)(hp:rK (Prog.mk ay ah az))(hm:qA (bf.mk (aN.mk aa aw) (aK.mk aq an) ax))(hr:yl (bf.mk (aN.mk aa aw) (aK.mk aq an) ax)):cz X 35 [.agg [.sl false (ay.map Instr.e),.sl false (ah.map (V.int .i64)),.sl false (az.map aS)],.agg [.sl false (aa.map (V.int .i64)),.int .u16 aw,.sl false (aq.map Cell.e),.sl false (an.map cx.e),.sl false (ax.map Thread.e)],.int .i64 t]=some (.de [.agg [.sl false (((AY (Prog.mk ay ah az) (bf.mk (aN.mk aa aw) (aK.mk aq an) ax) t).1).layout.aD.map (V.int .i64)),.int .u16 ((AY (Prog.mk ay ah az) (bf.mk (aN.mk aa aw) (aK.mk aq an) ax) t).1).layout.key,.sl false (((AY (Prog.mk ay ah az) (bf.mk (aN.mk aa aw) (aK.mk aq an) ax) t).1).memory.cells.map Cell.e),.sl false (((AY (Prog.mk ay ah az) (bf.mk (aN.mk aa aw) (aK.mk aq an) ax) t).1).memory.lines.map cx.e),.sl false (((AY (Prog.mk ay ah az) (bf.mk (aN.mk aa aw) (aK.mk aq an) ax) t).1).threads.map Thread.e)],.int .i64 ((AY (Prog.mk ay ah az) (bf.mk (aN.mk aa aw) (aK.mk aq an) ax) t).2.1),.int .i64 ((AY (Prog.mk ay ah az) (bf.mk (aN.mk aa aw) (aK.mk aq an) ax) t).2.2)]):=by
 obtain⟨H0,hH0⟩: ∃H:aY,aO (aO (aO m8 0 (some ⟨3,[.agg [.sl false (ay.map Instr.e),.sl false (ah.map (V.int .i64)),.sl false (az.map aS)]],true⟩)) 1 (some ⟨5,[.agg [.sl false (aa.map (V.int .i64)),.int .u16 aw,.sl false (aq.map Cell.e),.sl false (an.map cx.e),.sl false (ax.map Thread.e)]],true⟩)) 2 (some ⟨5,[.agg [.sl true [],.int .u16 0,.sl true [],.sl true [],.sl true []]],true⟩)=H:=⟨_,rfl⟩;have z0:H0 0=some ⟨3,[.agg [.sl false (ay.map Instr.e),.sl false (ah.map (V.int .i64)),.sl false (az.map aS)]],true⟩:=by rw[<-hH0];simp[aO]
 have z1:H0 1=some ⟨5,[.agg [.sl false (aa.map (V.int .i64)),.int .u16 aw,.sl false (aq.map Cell.e),.sl false (an.map cx.e),.sl false (ax.map Thread.e)]],true⟩:=by rw[<-hH0];simp[aO]
 have z2:H0 2=some ⟨5,[.agg [.sl true [],.int .u16 0,.sl true [],.sl true [],.sl true []]],true⟩:=by rw[<-hH0];simp[aO]
 by_cases hc:jc (Prog.mk ay ah az) (bf.mk (aN.mk aa aw) (aK.mk aq an) ax)=true/\0<=t/\t<4
 case neg=>
  rw[YS hc];unfold fG;obtain⟨h',k',e,hk,hf⟩:=C1 ay ah az aa aw aq an ax t H0 14 hp hm hc;have f2:=hf 2 (by omega);rw[z2]at f2;refine bd Tryz.func35 rfl rfl ?_;simp(maxSteps:=10000000) (maxDischargeDepth:=30) -implicitDefEqProofs[hH0,z0,z1,e,f2]
 obtain⟨hv,h0,h4⟩:=hc;obtain⟨n,rfl⟩:=Int.eq_ofNat_of_zero_le h0;have n4:n<4:=by omega
 have MG:=uT hr hv;have hl:ax.length=4:=MG.len;have nl:n<ax.length:=by omega
 have hx:cg (bf.mk (aN.mk aa aw) (aK.mk aq an) ax) (n:Int).toNat=ax[n]:=by rw[Int.toNat_natCast];exact ie nl
 obtain⟨h1,k1,cB,b,C,L,T,ids,aZ,e,HB⟩:=Ny ay ah az aa aw aq an ax 0 H0 14 n hr hv n4;unfold kv at e;simp only at e;have f2:=HB.fr 2 (by omega);rw[z2]at f2;have hcb:=HB.core.box;have hT:=HB.yq.nv;unfold iS at hcb;simp only at hcb hT;have gg:=eF (ids:=aZ) nl;have gle:=ed aZ ax;rw[hl]at gle;by_cases hs:(ax[n]).state=1
 case neg=>
  have e0:AY (Prog.mk ay ah az) (bf.mk (aN.mk aa aw) (aK.mk aq an) ax) n=(fG,0,10):=by unfold AY;rw[if_pos ⟨hv,h0,h4⟩,hx,if_neg hs]
  rw[e0];unfold fG;refine bd Tryz.func35 rfl rfl ?_;simp(maxSteps:=10000000) (maxDischargeDepth:=30) -implicitDefEqProofs[hH0,z0,z1,e,f2,hcb,hT,gg,gle,n4,hs]
 have e0:AY (Prog.mk ay ah az) (bf.mk (aN.mk aa aw) (aK.mk aq an) ax) n=((hZ (Prog.mk ay ah az) (bf.mk (aN.mk aa aw) (aK.mk aq an) ax) n).1,(hZ (Prog.mk ay ah az) (bf.mk (aN.mk aa aw) (aK.mk aq an) ax) n).2,0):=by unfold AY;rw[if_pos ⟨hv,h0,h4⟩,hx,if_pos hs,Int.toNat_natCast]
 rw[e0];refine yu.cz ?_;have hs':=eq_true hs;obtain⟨HA1,hA2,hA3⟩:=HB.IX;have frm: ∀i,i<k1->h1 i=h1 i:=fun _ _=>rfl;obtain⟨h2,k2,ahg,eo,G,g1,g2,g3⟩:=Wd .bad (Prog.mk ay ah az) h1 (k1+13) cB b _ C L T ids aZ (bf.mk (aN.mk aa aw) (aK.mk aq an) ax) n _ (HB.yq.mono (by omega) frm) MG (HB.core.mono (by omega) frm) (by omega) n4 rfl;have GA:na 14 (.sl false (aa.map (V.int .i64))) C L T ahg aZ:=by
  obtain⟨q1,q2,q3⟩:=HA1;refine⟨q1,fun j hj=>⟨?_,(q2 j hj).2⟩,q3⟩;rcases g2 j hj with e|e
  ·rw[e];exact(q2 j hj).1
  ·have:=HB.le;omega
 have hke:=HB.le;have mM:=HB.core.lt;obtain⟨e1,e2,e3,e4⟩:=HB.core.ne;have fc:=g3 cB (by omega) e2 e3 (fun j hj=>(HB.core.ni j hj).1) e4 (HB.core.ni n n4).2;rw[hcb]at fc;obtain⟨⟨x1,x2,x3⟩,x4,x5⟩:=HA1;have f22:=g3 2 (by omega) (by omega) (by omega) (fun j hj=>by have:=x4 j hj;omega) (by omega) (by have:=x4 n n4;omega);rw[f2]at f22;have bx:=G.sE;have gl:=G.len;unfold jo at bx;rw[gl]at bx;have hly:(hZ (Prog.mk ay ah az) (bf.mk (aN.mk aa aw) (aK.mk aq an) ax) n).1.layout=⟨aa,aw⟩:=rfl;rw[hly]at bx;simp only at bx;refine bu (X:=X) Tryz.func35 rfl rfl ?_;simp(maxSteps:=10000000) (maxDischargeDepth:=30) -implicitDefEqProofs[hH0,z0,z1,e,f2,hcb,hT,gg,gle,n4,hs',eo,fc,f22,bx,Nat.add_assoc];refine⟨_,C,L,T,ahg,aZ,k2,?_,G.at.mono GA (Nat.le_refl _) fun i hi _=>by rw[aO,if_neg (by omega)]⟩;unfold jo;rw[gl,hly]
end Go.Proofs.YtejohpnpnaljdaaGreat
namespace Go.Proofs.YtejohpnpnaljdaaGreat
open Go Go.Abs Go.Abs.lu
theorem aeh:qA fG:=by
 unfold fG;exact⟨by simp,by simp,by simp,fun i hi=>by simp at hi,by simp,fun i hi=>by simp at hi⟩
theorem ad5{p:Prog}{m:bf}(hr:yl m)(t:Int):qA (AY p m t).1:=by
 unfold AY;by_cases h:jc p m=true/\0<=t/\t<4
 ·rw[if_pos h];split
  ·exact(afk (uT hr h.1) (by omega)).lens
  ·exact aeh
 ·rw[if_neg h];exact aeh
end Go.Proofs.YtejohpnpnaljdaaGreat
namespace Go.Proofs.YtejohpnpnaljdaaGreat
open Go Go.Abs Go.Abs.lu
def ag7(l:List Int)(kt:Int):Int:=if dL l kt 6=0 then dL l (cY l kt) 6-1 else 0
def ahf(l:List Int)(kt:Int):Int:=if dL l kt 6=0 then cY l (cY l kt) else cY l kt
def af0(l:List Int)(p:Prog)(s:Int×bf):Int×bf:=(ahf l s.1,if(AY p s.2 (ag7 l s.1)).2.2=0 then(AY p s.2 (ag7 l s.1)).1 else s.2)
def aev(l:List Int)(p:Prog)(s:Int×bf):Nat->Int×bf
 |0=>s
 |i+1=>af0 l p (aev l p s i)
theorem agj(l:List Int)(p:Prog)(s:Int×bf):aev l p s 0=s:=rfl
theorem agq(l:List Int)(p:Prog)(s:Int×bf)(i:Nat):aev l p s (i+1)=af0 l p (aev l p s i):=rfl
theorem afv{l:List Int}{p:Prog}{kt:Int}{m:bf}{c:Int}(h:dr l kt)(g:cR p c m)(hc:c<=1099511627776):dr l (af0 l p (kt,m)).1/\cR p (c+1) (af0 l p (kt,m)).2:=by
 unfold af0;refine⟨?_,?_⟩
 ·unfold ahf;split
  ·exact dE (dE h)
  ·exact dE h
 ·simp only;split
  ·rename_i he;unfold AY at he⊢;split
   ·rename_i hv;rw[if_pos hv]at he;split
    ·exact afk g (by omega)
    ·rename_i hs;rw[if_neg hs]at he;simp at he
   ·rename_i hv;rw[if_neg hv]at he;simp at he
  ·exact g.mono (by omega)
@[simp] theorem afw(ac8:List Int)(adf:Int)(ac9:List Cell)(ada:List cx)(adg:List Thread)(l:List Int)(t:Int)(hl:l.length<=2000000)(agt:qA (bf.mk (aN.mk ac8 adf) (aK.mk ac9 ada) adg))(Wm:yl (bf.mk (aN.mk ac8 adf) (aK.mk ac9 ada) adg)): ∃h' k',cy X 7 [.agg [.sl false (ac8.map (V.int .i64)),.int .u16 adf,.sl false (ac9.map Cell.e),.sl false (ada.map cx.e),.sl false (adg.map Thread.e)],.sl false (l.map (V.int .i64)),.int .i64 t] m8 0=some (.bool true,h',k'):=by
 suffices H: ∃v h' k',cy X 7 [.agg [.sl false (ac8.map (V.int .i64)),.int .u16 adf,.sl false (ac9.map Cell.e),.sl false (ada.map cx.e),.sl false (adg.map Thread.e)],.sl false (l.map (V.int .i64)),.int .i64 t] m8 0=some (v,h',k')/\v= .bool true by
  obtain⟨v,h',k',e,rfl⟩:=H;exact⟨h',k',e⟩
 have hw:=QA;have hLt:=adk ac8 adf ac9 ada adg agt;refine bu (X:=X) (K:=fun v _ _=>v= .bool true) Tryz.func7 rfl rfl ?_;by_cases hB:adm (bf.mk (aN.mk ac8 adf) (aK.mk ac9 ada) adg)=true
 case neg=>
  have hB':adm (bf.mk (aN.mk ac8 adf) (aK.mk ac9 ada) adg)=false:=by simpa using hB
  rw[hB']at hLt;simp(maxSteps:=10000000) (maxDischargeDepth:=30) -implicitDefEqProofs[-adk,hLt,hw]
 rw[hB]at hLt;have hd0:dr l 0:=⟨by omega,by omega⟩;obtain⟨kt,⟨pc,ps,pd⟩,d,⟨⟨mb,mk⟩,⟨mc,ml⟩,mt⟩,hM,hdk,HG,hd2,iZ⟩:=Z5 l 0 hd0;simp only[Z1]at hM;have oP:mt.length=4:=HG.len;have ahl:0<mt.length:=by omega
 have ab9:=Zj pc ps pd ac8 adf ac9 ada adg HG.prog.lens agt;have acf:=WM pc ps pd ac8 adf ac9 ada adg HG.prog.lens agt;have acg:=Zj pc ps pd mb mk mc ml mt HG.prog.lens HG.lens;rw[(HG.mono (by omega)).ok]at acg;obtain⟨acm,hvb⟩: ∃b,jc ⟨pc,ps,pd⟩ (bf.mk (aN.mk ac8 adf) (aK.mk ac9 ada) adg)=b:=⟨_,rfl⟩;rw[hvb]at ab9 acf;have R1:=adi pc ps pd ac8 adf ac9 ada adg t HG.prog.lens agt Wm;have R2:=ado pc ps pd ac8 adf ac9 ada adg t HG.prog.lens agt Wm;have hr:=ad5 (p:=⟨pc,ps,pd⟩) Wm t;obtain⟨⟨⟨⟨rb,acq⟩,⟨rc,rl⟩,rt⟩,rs,acv⟩,hre⟩: ∃x,AY ⟨pc,ps,pd⟩ (bf.mk (aN.mk ac8 adf) (aK.mk ac9 ada) adg) t=x:=⟨_,rfl⟩;rw[hre]at R1 R2 hr;simp only at R1 R2 hr;simp(maxSteps:=10000000) (maxDischargeDepth:=30) -implicitDefEqProofs[hl,acn, -adk,hLt,hM, -Zj, -WM,ab9,acf,acg,oP,ahl];refine cP (fun i S=>(S.f 2= .int .i64 t/\S.f 3= .ptr 3 0 0/\S.h 3=some ⟨5,[.agg [.sl false (ac8.map (V.int .i64)),.int .u16 adf,.sl false (ac9.map Cell.e),.sl false (ada.map cx.e),.sl false (adg.map Thread.e)]],true⟩/\S.f 7= .ptr 7 0 0/\S.h 7=some ⟨2,[.agg [.sl false ((⟨l,(aev l ⟨pc,ps,pd⟩ (kt,⟨⟨mb,mk⟩,⟨mc,ml⟩,mt⟩) i).1⟩:mh).l.map (V.int .i64)),.int .i64 (⟨l,(aev l ⟨pc,ps,pd⟩ (kt,⟨⟨mb,mk⟩,⟨mc,ml⟩,mt⟩) i).1⟩:mh).time]],true⟩/\S.f 8= .ptr 8 0 0/\S.h 8=some ⟨3,[.agg [.sl false ((⟨pc,ps,pd⟩:Prog).code.map Instr.e),.sl false ((⟨pc,ps,pd⟩:Prog).ae.map (V.int .i64)),.sl false ((⟨pc,ps,pd⟩:Prog).data.map aS)]],true⟩/\S.f 9= .ptr 9 0 0/\S.h 9=some ⟨5,[.agg [.sl false (((aev l ⟨pc,ps,pd⟩ (kt,⟨⟨mb,mk⟩,⟨mc,ml⟩,mt⟩) i).2).layout.aD.map (V.int .i64)),.int .u16 ((aev l ⟨pc,ps,pd⟩ (kt,⟨⟨mb,mk⟩,⟨mc,ml⟩,mt⟩) i).2).layout.key,.sl false (((aev l ⟨pc,ps,pd⟩ (kt,⟨⟨mb,mk⟩,⟨mc,ml⟩,mt⟩) i).2).memory.cells.map Cell.e),.sl false (((aev l ⟨pc,ps,pd⟩ (kt,⟨⟨mb,mk⟩,⟨mc,ml⟩,mt⟩) i).2).memory.lines.map cx.e),.sl false (((aev l ⟨pc,ps,pd⟩ (kt,⟨⟨mb,mk⟩,⟨mc,ml⟩,mt⟩) i).2).threads.map Thread.e)]],true⟩/\S.f 47= .int .i64 (i:Int)/\S.n=1100)/\(dr l (aev l ⟨pc,ps,pd⟩ (kt,⟨⟨mb,mk⟩,⟨mc,ml⟩,mt⟩) i).1/\cR ⟨pc,ps,pd⟩ (d+i) (aev l ⟨pc,ps,pd⟩ (kt,⟨⟨mb,mk⟩,⟨mc,ml⟩,mt⟩) i).2)) (12) ?_ 0 (by simp) ?_
 ·rintro i S hii ⟨hI0,hP0⟩;have hwi:=cS i (by omega);by_cases ady:(i<12)
  ·have afz:(i:Int)<12:=by omega
   obtain⟨hdq,acw⟩:=hP0;have pa:=agq l ⟨pc,ps,pd⟩ (kt,⟨⟨mb,mk⟩,⟨mc,ml⟩,mt⟩) i;obtain⟨⟨acx,⟨⟨acz,yk⟩,⟨ac0,ac1⟩,ac2⟩⟩,hq⟩: ∃a,aev l ⟨pc,ps,pd⟩ (kt,⟨⟨mb,mk⟩,⟨mc,ml⟩,mt⟩) i=a:=⟨_,rfl⟩;rw[hq]at hdq acw pa;simp only at hdq acw;have gyl:=acw.lens;have gyr:=acw.R;have hyl:ac2.length=4:=acw.len;have hy0:0<ac2.length:=by omega
   have N1:=gy l acx 6 hdq (by omega);have v1:=dC l acx (n:=6) (by omega);by_cases e0:dL l acx 6=0
   ·have ac3:=gy l (cY l acx) 6 (dE hdq) (by omega);have v2:=dC l (cY l acx) (n:=6) (by omega);rw[e0]at N1;have wk:IntKind.i64.wrap (dL l (cY l acx) 6-1)=dL l (cY l acx) 6-1:=wrap_i64 (by omega);have T1:=adi pc ps pd acz yk ac0 ac1 ac2 (dL l (cY l acx) 6-1) HG.prog.lens gyl gyr;have T2:=ado pc ps pd acz yk ac0 ac1 ac2 (dL l (cY l acx) 6-1) HG.prog.lens gyl gyr;have hx:=ad5 (p:=⟨pc,ps,pd⟩) gyr (dL l (cY l acx) 6-1);obtain⟨⟨⟨⟨zb,ac4⟩,⟨zc,zl⟩,ac7⟩,s,e⟩,hxe⟩: ∃x,AY ⟨pc,ps,pd⟩ ⟨⟨acz,yk⟩,⟨ac0,ac1⟩,ac2⟩ (dL l (cY l acx) 6-1)=x:=⟨_,rfl⟩;have hso:af0 l ⟨pc,ps,pd⟩ (acx,⟨⟨acz,yk⟩,⟨ac0,ac1⟩,ac2⟩)=(cY l (cY l acx),if e=0 then⟨⟨zb,ac4⟩,⟨zc,zl⟩,ac7⟩ else⟨⟨acz,yk⟩,⟨ac0,ac1⟩,ac2⟩):=by
     unfold af0 ahf ag7;simp only[e0,if_true,if_false,hxe]
    have ju:=afv hdq acw (by omega);rw[hso]at ju pa;rw[hxe]at T1 T2 hx;simp only at T1 T2 hx ju;by_cases he:e=0
    ·rw[if_pos he]at ju pa;subst he;have hzl:ac7.length=4:=ju.2.len;have hz0:0<ac7.length:=by omega
     by_cases h1:(ac7[0]).state=1
     ·simp(maxSteps:=10000000) (maxDischargeDepth:=30) -implicitDefEqProofs[hI0,hii,hwi,ady, -adi, -ado,hq,afz,N1,ac3,wk,T1,T2,hx,hzl,hz0,h1,pa,ju];exact Int.add_assoc d (i:Int) 1▸ju.2
     ·simp(maxSteps:=10000000) (maxDischargeDepth:=30) -implicitDefEqProofs[hI0,hii,hwi,ady, -adi, -ado,hq,afz,N1,ac3,wk,T1,T2,hx,hzl,hz0,h1,R1,R2,hr,hw]
    ·rw[if_neg he]at ju pa;by_cases h1:(ac2[0]).state=1
     ·simp(maxSteps:=10000000) (maxDischargeDepth:=30) -implicitDefEqProofs[hI0,hii,hwi,ady, -adi, -ado,hq,afz,N1,ac3,wk,T1,T2,hx,he,hyl,hy0,h1,pa,ju];exact Int.add_assoc d (i:Int) 1▸ju.2
     ·simp(maxSteps:=10000000) (maxDischargeDepth:=30) -implicitDefEqProofs[hI0,hii,hwi,ady, -adi, -ado,hq,afz,N1,ac3,wk,T1,T2,hx,he,hyl,hy0,h1,R1,R2,hr,hw]
   ·have e0': ¬dL l acx 6=0:=e0;have T1:=adi pc ps pd acz yk ac0 ac1 ac2 0 HG.prog.lens gyl gyr;have T2:=ado pc ps pd acz yk ac0 ac1 ac2 0 HG.prog.lens gyl gyr;have hx:=ad5 (p:=⟨pc,ps,pd⟩) gyr 0;obtain⟨⟨⟨⟨zb,ac4⟩,⟨zc,zl⟩,ac7⟩,s,e⟩,hxe⟩: ∃x,AY ⟨pc,ps,pd⟩ ⟨⟨acz,yk⟩,⟨ac0,ac1⟩,ac2⟩ 0=x:=⟨_,rfl⟩;have hso:af0 l ⟨pc,ps,pd⟩ (acx,⟨⟨acz,yk⟩,⟨ac0,ac1⟩,ac2⟩)=(cY l acx,if e=0 then⟨⟨zb,ac4⟩,⟨zc,zl⟩,ac7⟩ else⟨⟨acz,yk⟩,⟨ac0,ac1⟩,ac2⟩):=by
     unfold af0 ahf ag7;simp only[e0,if_true,if_false,hxe]
    have ju:=afv hdq acw (by omega);rw[hso]at ju pa;rw[hxe]at T1 T2 hx;simp only at T1 T2 hx ju;by_cases he:e=0
    ·rw[if_pos he]at ju pa;subst he;have hzl:ac7.length=4:=ju.2.len;have hz0:0<ac7.length:=by omega
     by_cases h1:(ac7[0]).state=1
     ·simp(maxSteps:=10000000) (maxDischargeDepth:=30) -implicitDefEqProofs[hI0,hii,hwi,ady, -adi, -ado,hq,afz,N1,e0,T1,T2,hx,hzl,hz0,h1,pa,ju];exact Int.add_assoc d (i:Int) 1▸ju.2
     ·simp(maxSteps:=10000000) (maxDischargeDepth:=30) -implicitDefEqProofs[hI0,hii,hwi,ady, -adi, -ado,hq,afz,N1,e0,T1,T2,hx,hzl,hz0,h1,R1,R2,hr,hw]
    ·rw[if_neg he]at ju pa;by_cases h1:(ac2[0]).state=1
     ·simp(maxSteps:=10000000) (maxDischargeDepth:=30) -implicitDefEqProofs[hI0,hii,hwi,ady, -adi, -ado,hq,afz,N1,e0,T1,T2,hx,he,hyl,hy0,h1,pa,ju];exact Int.add_assoc d (i:Int) 1▸ju.2
     ·simp(maxSteps:=10000000) (maxDischargeDepth:=30) -implicitDefEqProofs[hI0,hii,hwi,ady, -adi, -ado,hq,afz,N1,e0,T1,T2,hx,he,hyl,hy0,h1,R1,R2,hr,hw]
  ·have afz: ¬(i:Int)<12:=by omega
   simp(maxSteps:=10000000) (maxDischargeDepth:=30) -implicitDefEqProofs[hI0,hii,hwi,ady, -adi, -ado,afz,R1,R2,hr,hw]
 ·have h0:=agj l ⟨pc,ps,pd⟩ (kt,⟨⟨mb,mk⟩,⟨mc,ml⟩,mt⟩);simp(maxSteps:=10000000) (maxDischargeDepth:=30) -implicitDefEqProofs[h0,hdk,HG]
end Go.Proofs.YtejohpnpnaljdaaGreat
namespace Go.Proofs.YtejohpnpnaljdaaGreat
open Go Go.Abs Go.Abs.lu
theorem adn{α:Type}(f:α->V)(P:α->Prop): ∀{es:List V},(∀e∈es,∃a,e=f a/\P a)-> ∃l:List α,es=l.map f/\ ∀a∈l,P a
 | [],_=>⟨[],rfl,fun a h=>by cases h⟩
 |e::es,h=>by
  obtain⟨a,ha,hp⟩:=h e (by simp);obtain⟨l,hl,hq⟩:=adn f P (es:=es) fun x hx=>h x (by simp[hx]);refine⟨a::l,by rw[ha,hl];rfl,fun b hb=> ?_⟩;rcases List.mem_cons.1 hb with rfl|hb
  ·exact hp
  ·exact hq b hb
theorem adh{α:Type}(f:α->V)(hf: ∀x,1<=Up (f x)): ∀l:List α,l.length<=mT (l.map f)
 | []=>by simp
 |x::l=>by
  have h1:=adh f hf l;have h2:=hf x;simp only[List.map_cons,mT,List.length_cons];omega
theorem aeb{α:Type}(f:α->V): ∀(l:List α) (x:α),x∈l->Up (f x)<=mT (l.map f)
 |y::l,x,h=>by
  simp only[List.map_cons,mT];rcases List.mem_cons.1 h with rfl|h
  ·omega
  ·have:=aeb f l x h;omega
def ad0:List CS:=[.int .u8,.int .u16]
def afx:List CS:=[.int .i64,.bool,.sl true ad0]
def aeg:List CS:=[.int .i64,.sl true ad0,.int .i64,.int .i64,.int .i64,.int .i64,.int .i64,.int .u16]
def afy:List CS:=[.sl false [.int .i64],.int .u16,.sl true ad0,.sl true afx,.sl true aeg]
def agx(c:Cell):Prop:=0<=c.tag/\0<=c.val/\c.val<=65535
theorem ag5{n:Int}(h:IntKind.u16.min<=n/\n<=IntKind.u16.max):0<=n/\n<=65535:=h
theorem u8R{n:Int}(h:IntKind.u8.min<=n/\n<=IntKind.u8.max):0<=n/\n<=255:=h
theorem af1{xs:List V}(h:Aa ad0 xs): ∃c:Cell,V.agg xs=c.e/\agx c:=by
 simp only[ad0,Aa,cX7]at h;obtain⟨_,_,rfl,⟨a,rfl,ha⟩,_,_,rfl,⟨b,rfl,hb⟩,rfl⟩:=h;exact⟨⟨a,b⟩,rfl,(u8R ha).1,(ag5 hb).1,(ag5 hb).2⟩
theorem adx{es:List V}(h: ∀e∈es,∃xs,e=(if true then .agg xs else xs.headD .bad)/\Aa ad0 xs): ∃l:List Cell,es=l.map Cell.e/\xf l:=by
 obtain⟨l,h1,h2⟩:=adn Cell.e agx fun e he=>by
  obtain⟨xs,rfl,hx⟩:=h e he;exact af1 hx
 exact⟨l,h1,fun i hi=>h2 _ (List.getElem_mem hi)⟩
theorem af2{xs:List V}(h:Aa afx xs): ∃c:cx,V.agg xs=c.e/\xf c.cells:=by
 simp only[afx,Aa,cX7]at h;obtain⟨_,_,rfl,⟨a,rfl,_⟩,_,_,rfl,⟨b,rfl⟩,_,_,rfl,⟨es,rfl,_,hes⟩,rfl⟩:=h;obtain⟨l,rfl,hl⟩:=adx hes;exact⟨⟨a,b,l⟩,rfl,hl⟩
theorem afg{xs:List V}(h:Aa aeg xs): ∃c:Thread,V.agg xs=c.e/\xf c.bm/\0<=c.code/\c.code<=65535:=by
 simp only[aeg,Aa,cX7]at h;obtain⟨_,_,rfl,⟨a,rfl,_⟩,_,_,rfl,⟨es,rfl,_,hes⟩,_,_,rfl,⟨b,rfl,_⟩,_,_,rfl,⟨c,rfl,_⟩,_,_,rfl,⟨d,rfl,_⟩,_,_,rfl,⟨e,rfl,_⟩,_,_,rfl,⟨f,rfl,_⟩,_,_,rfl,⟨g,rfl,hg⟩,rfl⟩:=h;obtain⟨l,rfl,hl⟩:=adx hes;exact⟨⟨a,l,b,c,d,e,f,g⟩,rfl,hl,(ag5 hg).1,(ag5 hg).2⟩
theorem af3{xs:List V}(h:Aa afy xs)(hb:mT xs<=1048576): ∃m:bf,V.agg xs=m.e/\yl m/\qA m:=by
 simp only[afy,Aa]at h;obtain⟨_,_,rfl,ha,_,_,rfl,hk,_,_,rfl,hc,_,_,rfl,hl,_,_,rfl,ht,rfl⟩:=h;simp only[cX7]at ha hk hc hl ht;obtain⟨ws0,rfl,_,has⟩:=ha;obtain⟨k,rfl,hk⟩:=hk;obtain⟨cs,rfl,_,v7⟩:=hc;obtain⟨ls,rfl,_,hls⟩:=hl;obtain⟨ts,rfl,_,hts⟩:=ht;obtain⟨bs,rfl⟩:=Ik (es:=ws0) fun e he=>by
  obtain⟨xs,hx,ho⟩:=has e he;simp only[Aa,cX7]at ho;obtain⟨_,_,rfl,⟨b,rfl,hb⟩,rfl⟩:=ho;exact⟨b,hx⟩
 obtain⟨cells,rfl,hcR⟩:=adx v7;obtain⟨lines,rfl,hlR⟩:=adn cx.e (fun c=>xf c.cells) (es:=ls) fun e he=>by
  obtain⟨xs,rfl,hx⟩:=hls e he;exact af2 hx
 obtain⟨threads,rfl,htR⟩:=adn Thread.e (fun c=>xf c.bm/\0<=c.code/\c.code<=65535) (es:=ts) fun e he=>by
  obtain⟨xs,rfl,hx⟩:=hts e he;exact afg hx
 simp only[mT,Up]at hb;have s1:=adh (V.int .i64) (fun x=>by simp[Up]) bs;have c1: ∀x:Cell,1<=Up x.e:=fun x=>by simp[Cell.e,Up,mT]
 have s2:=adh Cell.e c1 cells;have s3:=adh cx.e (fun x=>by simp[cx.e,Up,mT]) lines;have s4:=adh Thread.e (fun x=>by simp[Thread.e,Up,mT]) threads;refine⟨⟨⟨bs,k⟩,⟨cells,lines⟩,threads⟩,rfl,⟨ag5 hk,hcR,fun i hi=>hlR _ (List.getElem_mem hi),fun i hi=>(htR _ (List.getElem_mem hi)).1,fun i hi=>(htR _ (List.getElem_mem hi)).2⟩,⟨by simp only;omega,by simp only;omega,by simp only;omega,fun i hi=> ?_,by simp only;omega,fun i hi=> ?_⟩⟩
 ·have h1:=aeb cx.e lines _ (List.getElem_mem hi);have h2:=adh Cell.e c1 (lines[i]).cells;simp only[cx.e,Up,mT]at h1;simp only;omega
 ·have h1:=aeb Thread.e threads _ (List.getElem_mem hi);have h2:=adh Cell.e c1 (threads[i]).bm;simp only[Thread.e,Up,mT]at h1;simp only;omega
end Go.Proofs.YtejohpnpnaljdaaGreat
namespace Go.Proofs.YtejohpnpnaljdaaGreat
open Go Go.Abs
namespace one
def Pe:List (Bool×List CS):=[(true,afy),(false,[.sl false [.int .i64]]),(false,[.int .i64])]
theorem read:Tryz.f7.params.toList.all (Ih X.P)=true:=by kernel_rfl
theorem ao8:zq X.P Tryz.f7.params.toList=some Pe:=by kernel_rfl
theorem ao9:abv X.P Tryz.f7 Pe 4:=⟨abw,read,ao8,rfl,rfl⟩
theorem apa(vs:List V)(h:zp Pe vs)(hb:mT vs<=1048576): ∃h k,cy X 7 vs ky 0=some (.bool true,h,k):=by
 simp only[Pe,zp]at h;obtain⟨xs,_,rfl,hx,_,_,rfl,h2,_,_,rfl,h3,rfl⟩:=h;simp only[Aa,cX7]at h2 h3;obtain⟨_,_,rfl,⟨es,rfl,_,hes⟩,rfl⟩:=h2;obtain⟨_,_,rfl,⟨t,rfl,ht⟩,rfl⟩:=h3;obtain⟨l,rfl⟩:=Ik (es:=es) fun e he=>by
  obtain⟨xs,hx,_,_,rfl,⟨b,rfl,hb⟩,rfl⟩:=hes e he;exact⟨b,hx⟩
 have e1:oz false [V.sl false (l.map (V.int .i64))]= .sl false (l.map (V.int .i64)):=rfl;have e2: ∀n,oz false [V.int .i64 n]= .int .i64 n:=fun _=>rfl;have e0:oz true xs= .agg xs:=rfl;rw[e0,e1,e2]at hb⊢;simp only[mT]at hb;have e3:Up (.sl false (l.map (V.int .i64)))=mT (l.map (V.int .i64))+1:=rfl;have e4:Up (.agg xs)=mT xs:=by simp only[Up]
 rw[e3,e4,Ya]at hb;obtain⟨m,hm,hR,hL⟩:=af3 hx (by omega);rw[hm];obtain⟨⟨mb,mk⟩,⟨mc,ml⟩,mt⟩:=m;exact afw mb mk mc ml mt l t (by omega) hL hR
theorem a0:Rows.stepOneUptoRow.wf (OpenSpec.ofChange (Rows.OpenSpec.upto Rows.stepOneSpec).bare)=true:=by kernel_rfl
theorem a1:Tryz.f7.params.all (Tryz.pinned.checked.prog.readableRec ·)=true:=by kernel_rfl
theorem a2:namedTie Tryz.pinned.checked.prog Rows.stepOneUptoRow.named (Rows.OpenSpec.upto Rows.stepOneSpec).bare.vars=true:=by kernel_rfl
theorem a3:(Rows.stepOneUptoRow.stops==[])=true:=by kernel_rfl
theorem a4:(Rows.stepOneUptoRow.knobs==[])=true:=by kernel_rfl
theorem a5:(Rows.stepOneUptoRow.inPlace==Tryz.pinned.checked.prog.inPlace 7)=true:=by kernel_rfl
theorem a6:(Rows.stepOneUptoRow.unfollowed==Tryz.pinned.checked.prog.unfollowed 7)=true:=by kernel_rfl
theorem a7:(Rows.stepOneUptoRow.recurses==Tryz.pinned.checked.prog.recurses 7)=true:=by kernel_rfl
theorem a8:(Rows.stepOneUptoRow.named==Tryz.pinned.checked.prog.varsNamed 7)=true:=by kernel_rfl
theorem a9:(Rows.stepOneUptoRow.maps==(Tryz.f7.params.toList++(Rows.OpenSpec.upto Rows.stepOneSpec).bare.plain.varTypes Tryz.pinned.checked.prog).any (Tryz.pinned.checked.prog.mapsRec ·))=true:=by kernel_rfl
theorem Px:(Rows.stepOneUptoRow.ifaces==(Tryz.f7.params.toList++(Rows.OpenSpec.upto Rows.stepOneSpec).bare.plain.varTypes Tryz.pinned.checked.prog).any (Tryz.pinned.checked.prog.ifacesRec ·))=true:=by kernel_rfl
theorem a11:(Rows.stepOneUptoRow.mapsOut==Tryz.pinned.checked.prog.mapsAmong Tryz.f7.resultTypes.toList)=true:=by kernel_rfl
theorem a12:(Rows.stepOneUptoRow.loops==(Tryz.f7.params.toList++(Rows.OpenSpec.upto Rows.stepOneSpec).bare.plain.varTypes Tryz.pinned.checked.prog).any (Tryz.pinned.checked.prog.loopsFrom ·))=true:=by kernel_rfl
theorem a13:(Rows.stepOneUptoRow.wideKeys==(Tryz.f7.params.toList++(Rows.OpenSpec.upto Rows.stepOneSpec).bare.plain.varTypes Tryz.pinned.checked.prog++Tryz.f7.resultTypes.toList).any (Tryz.pinned.checked.prog.wideKeysFrom ·))=true:=by kernel_rfl
theorem a14:(Rows.OpenSpec.upto Rows.stepOneSpec).bare.vars.all (Tryz.pinned.checked.prog.varReadable ·)=true:=by kernel_rfl
theorem a15:Tryz.f7.resultTypes.all (fun t=>Tryz.pinned.checked.prog.readableRec t&&decide (t<Tryz.pinned.checked.prog.types.size))=true:=by kernel_rfl
theorem a16:(Rows.stepOneUptoRow.ifacesOut==Tryz.f7.resultTypes.toList.any (Tryz.pinned.checked.prog.ifacesRec ·))=true:=by kernel_rfl
theorem a17:(Rows.stepOneUptoRow.loopsOut==Tryz.f7.resultTypes.toList.any (Tryz.pinned.checked.prog.loopsFrom ·))=true:=by kernel_rfl
theorem a18:(Rows.stepOneUptoRow.plainKeys==Tryz.pinned.checked.prog.plainKeys)=true:=by kernel_rfl
theorem a19:Rows.stepOneUptoRow.shortTexts.isNone=true:=by kernel_rfl
theorem a20:(Rows.stepOneUptoRow.lifted==Tryz.pinned.checked.prog.liftsFinal)=true:=by kernel_rfl
theorem a21:(Tryz.pinned.checked.prog.make==some Rows.stepOneUptoRow.make)=true:=by kernel_rfl
theorem a22:(Rows.stepOneUptoRow.kinds==(if Rows.stepOneUptoRow.domain.isEmpty then [] else Tryz.f7.params.toList.map fun t=>match Tryz.pinned.checked.prog.underlying t with|some (.int k)=>some k|_=>none))=true:=by kernel_rfl
theorem a23:(Rows.stepOneUptoRow.pinned==Rows.stepOneUptoRow.pinnedBy)=true:=by kernel_rfl
theorem a24:(Rows.stepOneUptoRow.veiled==(Tryz.f7.params.toList++(Rows.OpenSpec.upto Rows.stepOneSpec).bare.plain.varTypes Tryz.pinned.checked.prog++Tryz.f7.resultTypes.toList).any (Tryz.pinned.checked.prog.veiledRec ·))=true:=by kernel_rfl
theorem a25:Rows.stepOneUptoRow.veiledFits Tryz.pinned.checked.prog Tryz.f7.params.toList (Tryz.f7.params.toList++(Rows.OpenSpec.upto Rows.stepOneSpec).bare.plain.varTypes Tryz.pinned.checked.prog++Tryz.f7.resultTypes.toList)=true:=by kernel_rfl
theorem closed:joinedFacts Tryz.pinned.checked.prog 7 Tryz.f7 (Rows.OpenSpec.upto Rows.stepOneSpec).bare Rows.stepOneUptoRow=true:=by
 unfold joinedFacts;exact(gW (gW (gW (gW (gW (gW (gW (gW (gW (gW (gW (gW (gW (gW (gW (gW (gW (gW (gW (gW (gW (gW (gW (gW (gW (gW (gW (gW (gW (gW (gW a0 abw) al0) a1) a2) a3) aez) a4) ae0) a5) a6) a7) a8) a9) Px) a11) a12) a13) a14) a15) a16) a17) a18) a19) heard) ae1) a20) a21) a22) a23) a24) a25)
theorem isI:Tryz.f7.isInstance Tryz.pinned.checked.prog Rows.stepOneUptoRow.origin Rows.stepOneUptoRow.targs:=of_decide_eq_true (by kernel_rfl)
theorem isW:Tryz.f7.isWrapper Tryz.pinned.checked.prog Rows.stepOneUptoRow.wrapper Rows.stepOneUptoRow.mainSum:=by
 unfold Func.isWrapper;first|(rw[if_pos (by decide+kernel)];kernel_rfl)|(rw[if_neg (by decide+kernel)];exact⟨rfl,rfl⟩)
theorem apb:Tryz.pinned.checked.prog.funcNamed Rows.stepOneUptoRow.func=some 7:=by kernel_rfl
theorem lifted(os:Os)(started:os.Started)(H:Type)(enc:TypeId×Value->H)(F:Stop.Interp):
  ReturnsInHanded {} Tryz.checked os 7 .any ((Rows.OpenSpec.upto Rows.stepOneSpec).pre6 enc Tryz.prog Tryz.f7 Rows.stepOneUptoRow.domain false) (((Rows.OpenSpec.upto Rows.stepOneSpec).at F).post enc Tryz.prog Tryz.f7 false true false false):=by
 refine returnsInHanded_of_cond (C:=Tryz.checked) (s:=(Rows.OpenSpec.upto Rows.stepOneSpec)) (k:=Rows.uptoSmall) rfl own started (by kernel_rfl) Tryz.func7
  (OpenSpec.witness (enc:=enc) (C:=Tryz.checked) (s:=(Rows.OpenSpec.upto Rows.stepOneSpec)) (k:=Rows.uptoSmall) rfl false ⟨#[],#[.agg #[.slice none 0 0,.int .u16 0,.slice none 0 0,.slice none 0 0,.slice none 0 0],.slice none 0 0,.int .i64 0],[]⟩ 8 (by kernel_rfl) (by kernel_rfl) (by kernel_rfl)
   (x:=([.agg [.agg [.nil,.lit (.int .u16 0)],.agg [.nil,.nil],.nil],.nil,.lit (.int .i64 0)],[],[])) (by kernel_rfl) rfl (by kernel_rfl)) ?_
 intro W base args ds gs before Hl hW _ hk _;have hgs:gs=[]:=by
  obtain⟨p,q,_,hV,_⟩:=hW;cases gs with
  |nil=>rfl
  |cons _ _=>simp[DataW.TrodVars,Rows.stepOneSpec,Rows.OpenSpec.upto,OpenSpec.ofChange]at hV
 subst hgs;rw[List.append_nil]at hk;exact Uu Fo ao9 (s:=Rows.stepOneSpec) rfl (fun H ds hl=>by
  match ds,hl with
  | [a,b,c],_=>rfl) apa H Rows.uptoBulk (cX8 H) enc W base args ds [] before Hl hW (cX9 hk)
theorem pZ:Rows.stepOneUptoRow.holds Tryz.pinned (Rows.OpenSpec.upto Rows.stepOneSpec):=
 OpenClaim.holds_of_cond 7 Tryz.f7 rfl rfl rfl rfl rfl rfl rfl ⟨rfl,rfl,rfl,rfl,rfl⟩ rfl rfl rfl rfl rfl apb Tryz.func7 closed isI isW
  (fun os started H enc _ F=>lifted os started H enc F)
end one
theorem stepOne:Rows.StepOneUptoSaid:=one.pZ
end Go.Proofs.YtejohpnpnaljdaaGreat
