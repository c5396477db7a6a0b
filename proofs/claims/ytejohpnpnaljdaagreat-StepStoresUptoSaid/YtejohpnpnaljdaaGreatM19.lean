/- Part of a proof: S7. -/
import Derived.Test.YtejohpnpnaljdaaGreatM17
set_option linter.all false
set_option maxRecDepth 20000
set_option maxHeartbeats 20000000
namespace Go.Proofs.YtejohpnpnaljdaaGreat
open Go Go.Abs Go.Abs.lu
structure rK (p:Prog):Prop where
 ae:p.ae.length<=1000000000
 data:p.data.length<=1000000000
 code:p.code.length<=1000000000
structure qA (m:bf):Prop where
 aD:m.layout.aD.length<=1000000000
 cells:m.memory.cells.length<=1000000000
 lines:m.memory.lines.length<=1000000000
 line: ∀i (h:i<m.memory.lines.length),(m.memory.lines[i]).cells.length<=1000000000
 threads:m.threads.length<=1000000000
 bm: ∀i (h:i<m.threads.length),(m.threads[i]).bm.length<=1000000000
def lh(l:List Thread):Bool:=l.all lM
theorem Ak{l:List Thread}{i:Nat}(h:i<l.length):lh (l.take (i+1))=(lh (l.take i)&&lM l[i]):=tz h
theorem IC{l:List Thread}{i:Nat}(h:i<l.length)(hp:lM l[i]=false):lh l=false:=r8 h hp
theorem yi{l:List Thread}:lh (l.take l.length)=lh l:=by rw[List.take_length]
def jc(p:Prog)(m:bf):Bool:=decide (gA p=0)&& (fP m.layout.aD p.ae&& (tA m.memory&& (decide (m.threads.length=4)&&lh m.threads)))
@[simp] theorem WM(ay:List Instr)(ah:List Int)(az:List (List Int))(aa:List Int)(aw:Int)(aq:List Cell)(an:List cx)(ax:List Thread)(hp:rK (Prog.mk ay ah az))(hm:qA (bf.mk (aN.mk aa aw) (aK.mk aq an) ax)):cz X 28 [(ay,ah,az),(aa,aw,aq,an,ax)]=some (.bool (jc (Prog.mk ay ah az) (bf.mk (aN.mk aa aw) (aK.mk aq an) ax))):=by
 refine bd Tryz.func28 rfl rfl ?_;have Dt:ah.length<=1000000000:=hp.ae;have A9:az.length<=1000000000:=hp.data;have QU:ay.length<=1000000000:=hp.code;have rX:aa.length<=1000000000:=hm.aD;have tO:aq.length<=1000000000:=hm.cells;have M6:an.length<=1000000000:=hm.lines;have QV: ∀i (h:i<an.length),(an[i]).cells.length<=1000000000:=hm.line;have hm5:ax.length<=1000000000:=hm.threads;have hm6: ∀i (h:i<ax.length),(ax[i]).bm.length<=1000000000:=hm.bm;by_cases c1:gA (Prog.mk ay ah az)=0
 case neg=>
  simp-implicitDefEqProofs[Dt,A9,QU,c1,jc]
 cases c2:fP aa ah
 case false=>
  simp-implicitDefEqProofs[Dt,A9,QU,rX,c1,c2,jc]
 cases c3:tA ⟨aq,an⟩
 case false=>
  simp-implicitDefEqProofs[Dt,A9,QU,rX,tO,M6,QV,c1,c2,c3,jc]
 by_cases c4i:(ax.length:Int)=4
 case neg=>
  have c4: ¬ax.length=4:=by omega
  simp-implicitDefEqProofs[Dt,A9,QU,rX,tO,M6,QV,c1,c2,c3,c4i,c4,jc]
 have c4:ax.length=4:=by omega
 have key:jc (Prog.mk ay ah az) (bf.mk (aN.mk aa aw) (aK.mk aq an) ax)=lh ax:=by unfold jc;simp only[c1,c2,c3,c4];simp
 rw[key];clear key;simp-implicitDefEqProofs[Dt,A9,QU,rX,tO,M6,QV,c1,c2,c3,c4];refine cP (fun i S=>(S.f 31= .sl false (ax.map Thread.e)/\S.f 32= .int .i64 ((ax).length:Int)/\S.f 33= .int .i64 (i:Int)/\S.n=1100)/\(lh (ax.take i)=true)) (ax.length) ?_ 0 (by simp) ?_
 ·rintro i S kY ⟨dA,hX⟩;have eY:=cS i (by omega);by_cases bI:i<ax.length
  ·have g:=hm6 i bI;cases h:lM ax[i]
   ·have:=IC bI h;simp-implicitDefEqProofs[dA,bI,g,h,this]
   ·have:=Ak bI;simp-implicitDefEqProofs[dA,eY,bI,g,h,this,hX]
  ·have ko:ax.length=i:=by omega
   subst ko;simp-implicitDefEqProofs[dA]<;>(
    rw[yi]at hX;simp[hX])
 ·simp-implicitDefEqProofs<;>(
   exact⟨by omega,rfl⟩)
@[simp] theorem UU(jf:Int)(dQ:List Cell)(ns fp dw fq kS kT:Int)(hm:dQ.length<=1000000000):cz X 84 [.agg [jf,dQ,ns,fp,dw,fq,kS,.int .u16 kT]]=some (.bool (!lM (Thread.mk jf dQ ns fp dw fq kS kT))):=by
 refine bd Tryz.func84 rfl rfl ?_;simp-implicitDefEqProofs[hm]
@[simp] theorem Yz(fA:List Int)(iG:Int)(fD:List Cell)(ey:List cx)(eH:List Thread)(gK:List Int)(jh:Int)(gM:List Cell)(gN:List cx)(iJ:List Thread)(hm:qA (bf.mk (aN.mk fA iG) (aK.mk fD ey) eH)):cz X 25 [(fA,iG,fD,ey,eH),(gK,jh,gM,gN,iJ)]=some (.bool (decide ((bf.mk (aN.mk fA iG) (aK.mk fD ey) eH)=(bf.mk (aN.mk gK jh) (aK.mk gM gN) iJ)))):=by
 refine bd Tryz.func25 rfl rfl ?_;have rX:fA.length<=1000000000:=hm.aD;have tO:fD.length<=1000000000:=hm.cells;have M6:ey.length<=1000000000:=hm.lines;have QV: ∀i (h:i<ey.length),(ey[i]).cells.length<=1000000000:=hm.line;have hm5:eH.length<=1000000000:=hm.threads;have hm6: ∀i (h:i<eH.length),(eH[i]).bm.length<=1000000000:=hm.bm;have key:(bf.mk ⟨fA,iG⟩ ⟨fD,ey⟩ eH=bf.mk ⟨gK,jh⟩ ⟨gM,gN⟩ iJ)↔
   (aN.mk fA iG=aN.mk gK jh/\aK.mk fD ey=aK.mk gM gN/\eH=iJ):=by simp[and_assoc]
 by_cases e1:aN.mk fA iG=aN.mk gK jh
 case neg=>
  have k1: ¬(bf.mk ⟨fA,iG⟩ ⟨fD,ey⟩ eH=bf.mk ⟨gK,jh⟩ ⟨gM,gN⟩ iJ):=fun h=>e1 (key.1 h).1;have k2:=decide_eq_false k1;rw[k2];have e1':=decide_eq_false e1;simp-implicitDefEqProofs[-aN.mk.injEq,rX,e1]
 by_cases e2:aK.mk fD ey=aK.mk gM gN
 case neg=>
  have k1: ¬(bf.mk ⟨fA,iG⟩ ⟨fD,ey⟩ eH=bf.mk ⟨gK,jh⟩ ⟨gM,gN⟩ iJ):=fun h=>e2 (key.1 h).2.1;have k2:=decide_eq_false k1;rw[k2];simp-implicitDefEqProofs[-aN.mk.injEq, -aK.mk.injEq,rX,tO,M6,QV,e1,e2]
 by_cases e3i:(eH.length:Int)=iJ.length
 case neg=>
  have k1: ¬(bf.mk ⟨fA,iG⟩ ⟨fD,ey⟩ eH=bf.mk ⟨gK,jh⟩ ⟨gM,gN⟩ iJ):=fun h=>e3i (by rw[(key.1 h).2.2]);have k2:=decide_eq_false k1;rw[k2];simp-implicitDefEqProofs[-aN.mk.injEq, -aK.mk.injEq,rX,tO,M6,QV,e1,e2,e3i]
 have e3:eH.length=iJ.length:=by omega
 have k3:decide (bf.mk ⟨fA,iG⟩ ⟨fD,ey⟩ eH=bf.mk ⟨gK,jh⟩ ⟨gM,gN⟩ iJ)=decide (eH=iJ):=by
  rw[decide_eq_decide,key];exact⟨fun h=>h.2.2,fun h=>⟨e1,e2,h⟩⟩
 rw[k3];clear key k3;simp-implicitDefEqProofs[-aN.mk.injEq, -aK.mk.injEq,rX,tO,M6,QV,e1,e2,e3i];refine cP (fun i S=>(S.f 2= .ptr 2 0 0/\S.h 2=some ⟨5,[.agg [fA,.int .u16 iG,fD,ey,eH]],true⟩/\S.f 3= .ptr 3 0 0/\S.h 3=some ⟨5,[.agg [gK,.int .u16 jh,gM,gN,iJ]],true⟩/\S.f 31= .int .i64 ((eH).length:Int)/\S.f 32= .int .i64 (i:Int)/\S.n=1100)/\(eH.take i=iJ.take i)) (eH.length) ?_ 0 (by simp) ?_
 ·rintro i S kY ⟨dA,hX⟩;have eY:=cS i (by omega);by_cases bI:i<eH.length
  ·have g1:i<iJ.length:=by omega
   have g2:=hm6 i bI;by_cases q:eH[i]=iJ[i]
   ·have:=Bd bI g1 hX q;have g2b:=q▸g2;simp-implicitDefEqProofs[dA,eY,bI, -Thread.mk.injEq,g1,g2b,q,this]
   ·have: ¬eH=iJ:=fun h=>q (by subst h;rfl);simp-implicitDefEqProofs[dA,bI, -Thread.mk.injEq,g1,g2,q,this]
  ·have ko:eH.length=i:=by omega
   subst ko;simp-implicitDefEqProofs[dA]<;>(
    exact yb (i:=eH.length) (by omega) e3 hX)
 ·simp-implicitDefEqProofs<;>(
   first|rfl|omega|exact⟨by omega,rfl⟩)
def dK(call:Int):List UInt8:=
 if call=0\/call=8\/call=9\/call=11\/call=12 then [78] else if call=1\/call=2 then [72,80,78] else if call=3 then [78,78] else if call=4 then [72]
 else if call=5 then [72,78] else if call=10 then [78,88] else if call=13\/call=14 then [78,80,78] else []
def ph(call:Int):Int:=if call<0\/15<call then-1 else if call=1\/call=13 then 1 else if call=2\/call=14 then 2 else 0
def Ck(call:Int):Int:=if call<0\/15<call then-1 else((dK call).length:Int)
theorem pj{c:Int}(h:0<=c/\c<=15):c=0\/c=1\/c=2\/c=3\/c=4\/c=5\/c=6\/c=7\/c=8\/c=9\/c=10\/c=11\/c=12\/c=13\/c=14\/c=15:=by omega
@[simp] theorem WN(call:Int)(hc:0<=call/\call<=15):cz X 97 [call]=some (.str (dK call)):=by
 refine bd Tryz.func97 rfl rfl ?_;rcases pj hc with rfl|rfl|rfl|rfl|rfl|rfl|rfl|rfl|rfl|rfl|rfl|rfl|rfl|rfl|rfl|rfl<;>simp-implicitDefEqProofs[dK]
@[simp] theorem M7(call:Int):cz X 50 [call]=some (.int .i64 (Ck call)):=by
 refine bd Tryz.func50 rfl rfl ?_;by_cases h:0<=call/\call<=15
 ·rcases pj h with rfl|rfl|rfl|rfl|rfl|rfl|rfl|rfl|rfl|rfl|rfl|rfl|rfl|rfl|rfl|rfl<;>simp-implicitDefEqProofs[Ck,dK]
 ·by_cases h1:call<0
  ·simp-implicitDefEqProofs[h1,Ck]
  ·have h2:15<call:=by omega
   simp-implicitDefEqProofs[h1,h2,Ck]
@[simp] theorem UW(call:Int):cz X 51 [call]=some (.int .i64 (ph call)):=by
 refine bd Tryz.func51 rfl rfl ?_;by_cases h:0<=call/\call<=15
 ·rcases pj h with rfl|rfl|rfl|rfl|rfl|rfl|rfl|rfl|rfl|rfl|rfl|rfl|rfl|rfl|rfl|rfl<;>simp-implicitDefEqProofs[ph]
 ·by_cases h1:call<0
  ·simp-implicitDefEqProofs[h1,ph]
  ·have h2:15<call:=by omega
   simp-implicitDefEqProofs[h1,h2,ph]
def yj(kind tag:Int):Bool:=if kind=78 then decide (tag=0) else if kind=72 then decide (tag=2) else if kind=80 then decide (tag=1) else true
def nY(x:Canon):Bool:=
 if x.tag=0\/x.tag=2 then decide (x.region=0)&&decide (x.offset=0)
 else if x.tag=1 then(if x.region= -1 then decide (x.val=0)&& (decide (0<=x.offset)&&decide (x.offset<=65535))
  else decide (x.val=0)&& (decide (0<=x.region)&& (decide (x.region<4)&& (decide (0<=x.offset)&&decide (x.offset<32))))) else false
def iQ(l:List Canon):Bool:=l.all nY
theorem UX{l:List Canon}{i:Nat}(h:i<l.length):iQ (l.take (i+1))=(iQ (l.take i)&&nY l[i]):=tz h
theorem UY{l:List Canon}{i:Nat}(h:i<l.length)(hp:nY l[i]=false):iQ l=false:=r8 h hp
theorem Pv{l:List Canon}:iQ (l.take l.length)=iQ l:=by rw[List.take_length]
@[simp] theorem YA(kind tag:Int):cz X 102 [.int .u8 kind,.int .u8 tag]=some (.bool (yj kind tag)):=by
 refine bd Tryz.func102 rfl rfl ?_;by_cases h1:kind=78
 ·simp-implicitDefEqProofs[h1,yj]
 by_cases h2:kind=72
 ·simp-implicitDefEqProofs[h2,yj]
 by_cases h3:kind=80
 ·simp-implicitDefEqProofs[h3,yj]
 ·simp-implicitDefEqProofs[h1,h2,h3,yj]
@[simp] theorem YB(jT rI iF jE:Int):cz X 144 [.agg [.int .u8 jT,.int .u16 rI,iF,jE]]=some (.bool (nY (Canon.mk jT rI iF jE))):=by
 refine bd Tryz.func144 rfl rfl ?_;by_cases t0:jT=0
 ·by_cases r:iF=0<;>simp-implicitDefEqProofs[t0,r,nY]
 by_cases t2:jT=2
 ·by_cases r:iF=0<;>simp-implicitDefEqProofs[t2,r,nY]
 by_cases t1:jT=1
 case neg=>simp-implicitDefEqProofs[t0,t1,t2,nY]
 by_cases r:iF= -1
 ·by_cases v:rI=0
  ·by_cases o:0<=jE<;>simp-implicitDefEqProofs[t1,r,v,o,nY]
  ·simp-implicitDefEqProofs[t1,r,v,nY]
 ·by_cases v:rI=0
  ·by_cases o:0<=iF
   ·by_cases o1:iF<4
    ·by_cases o2:0<=jE<;>simp-implicitDefEqProofs[t1,r,v,o,o1,o2,nY]
    ·simp-implicitDefEqProofs[t1,r,v,o,o1,nY]
   ·simp-implicitDefEqProofs[t1,r,v,o,nY]
  ·simp-implicitDefEqProofs[t1,r,v,nY]
@[simp] theorem WO(l:List Canon)(n:Int)(hm:l.length<=1000000000):cz X 96 [l,n]=some (.bool (iQ l&&decide ((l.length:Int)<=n))):=by
 refine bd Tryz.func96 rfl rfl ?_;simp-implicitDefEqProofs;refine cP (fun i S=>(S.f 0= .sl false (l.map Canon.e)/\S.f 1= .int .i64 n/\S.f 7= .sl false (l.map Canon.e)/\S.f 8= .int .i64 ((l).length:Int)/\S.f 9= .int .i64 (i:Int)/\S.n=1100)/\(iQ (l.take i)=true)) (l.length) ?_ 0 (by simp) ?_
 ·rintro i S kY ⟨dA,hX⟩;have eY:=cS i (by omega);by_cases bI:i<l.length
  ·cases h:nY l[i]
   ·have:=UY bI h;simp-implicitDefEqProofs[dA,bI,h,this]
   ·have:=UX bI;simp-implicitDefEqProofs[dA,eY,bI,h,this,hX]
  ·have ko:l.length=i:=by omega
   subst ko;simp-implicitDefEqProofs[dA]<;>(
    rw[Pv]at hX;simp[hX])
 ·simp-implicitDefEqProofs<;>(
   rfl)
def rA(r:Request):Bool:=decide (0<=r.iu)&& (decide (r.iu<4)&& (decide (0<=r.stop)&& (decide (r.stop<=3)&& (decide (0<=r.dd)&& (decide (r.dd<=6)&& (decide (0<=r.count)&& (decide (r.count<=1099511627776)
 && (decide (0<=r.pc)&& (decide (r.pc<=255)&& (decide (0<=r.call)&& (decide (r.call<=15)&& (iQ r.args&& (decide (r.args.length<=3)&& (iQ r.data&&decide (r.data.length<=16)))))))))))))))
@[simp] theorem WQ(fQ gh eL dD kZ cM:Int)(bA cE:List Canon)(h1:bA.length<=1000000000)(h2:cE.length<=1000000000):cz X 49 [.agg [fQ,gh,eL,dD,kZ,cM,bA,cE]]=some (.bool (rA (Request.mk fQ gh eL dD kZ cM bA cE))):=by
 refine bd Tryz.func49 rfl rfl ?_;by_cases c1:0<=fQ
 case neg=>simp-implicitDefEqProofs[c1,rA]
 by_cases c2:fQ<4
 case neg=>simp-implicitDefEqProofs[c1,c2,rA]
 by_cases c3:0<=gh
 case neg=>simp-implicitDefEqProofs[c1,c2,c3,rA]
 by_cases c4:gh<=3
 case neg=>simp-implicitDefEqProofs[c1,c2,c3,c4,rA]
 by_cases c5:0<=eL
 case neg=>simp-implicitDefEqProofs[c1,c2,c3,c4,c5,rA]
 by_cases c6:eL<=6
 case neg=>simp-implicitDefEqProofs[c1,c2,c3,c4,c5,c6,rA]
 by_cases c7:0<=dD
 case neg=>simp-implicitDefEqProofs[c1,c2,c3,c4,c5,c6,c7,rA]
 by_cases c8:dD<=1099511627776
 case neg=>simp-implicitDefEqProofs[c1,c2,c3,c4,c5,c6,c7,c8,rA]
 by_cases c9:0<=kZ
 case neg=>simp-implicitDefEqProofs[c1,c2,c3,c4,c5,c6,c7,c8,c9,rA]
 by_cases LA:kZ<=255
 case neg=>simp-implicitDefEqProofs[c1,c2,c3,c4,c5,c6,c7,c8,c9,LA,rA]
 by_cases WR:0<=cM
 case neg=>simp-implicitDefEqProofs[c1,c2,c3,c4,c5,c6,c7,c8,c9,LA,WR,rA]
 by_cases QW:cM<=15
 case neg=>simp-implicitDefEqProofs[c1,c2,c3,c4,c5,c6,c7,c8,c9,LA,WR,QW,rA]
 cases c13:iQ bA
 case false=>simp-implicitDefEqProofs[c1,c2,c3,c4,c5,c6,c7,c8,c9,LA,WR,QW,c13,h1,rA]
 by_cases afq:(bA.length:Int)<=3
 case neg=>
  have c14: ¬bA.length<=3:=by omega
  simp-implicitDefEqProofs[c1,c2,c3,c4,c5,c6,c7,c8,c9,LA,WR,QW,c13,afq,c14,h1,rA]
 have c14:bA.length<=3:=by omega
 cases c15:iQ cE
 case false=>simp-implicitDefEqProofs[c1,c2,c3,c4,c5,c6,c7,c8,c9,LA,WR,QW,c13,afq,c14,c15,h1,h2,rA]
 simp-implicitDefEqProofs[c1,c2,c3,c4,c5,c6,c7,c8,c9,LA,WR,QW,c13,afq,c14,c15,h1,h2,rA];try omega
end Go.Proofs.YtejohpnpnaljdaaGreat
