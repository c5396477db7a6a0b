/- Part of a proof: S8. -/
import Derived.Test.YtejohpnpnaljdaaGreatM03
import Derived.Test.YtejohpnpnaljdaaGreatM18
import Derived.Test.YtejohpnpnaljdaaGreatM19
set_option linter.all false
set_option maxRecDepth 20000
set_option maxHeartbeats 20000000
namespace Go.Proofs.YtejohpnpnaljdaaGreat
open Go Go.Abs Go.Abs.lu
def qk(code:List Instr)(pc:Int):Instr:=code.getD (pc-1).toNat ⟨0,0,0,0,0⟩
def iq:List UInt8->List Int->Bool
 | [],[]=>true
 |k::ks,t::ts=>yj k.toNat t&&iq ks ts
 |_,_=>false
def xf(l:List Cell):Prop:= ∀i (h:i<l.length),0<=(l[i]).tag/\0<=(l[i]).val/\(l[i]).val<=65535
def uS(aD ae:List Int)(n:Nat)(c:Int)(bm:List Cell):Int:=
 if iq (dK c) ((bm.take (dK c).length).map (·.tag))=false then 6
 else if 0<ph c/\((mf aD ae (bm.getD 1 ⟨0,0⟩) (bm.getD 2 ⟨0,0⟩).val).2≠0\/16<(bm.getD 2 ⟨0,0⟩).val) then 6
 else if(c=10\/c=12)/\(n:Int)<=(bm.getD 0 ⟨0,0⟩).val then 6 else 0
@[simp] theorem WS(fQ gh eL dD kZ cM:Int)(bA cE:List Canon)(hc:0<=cM/\cM<=15)(hm:bA.length<=1000000000):cz X 215 [.agg [fQ,gh,eL,dD,kZ,cM,bA,cE]]=some (.bool (iq (dK cM) (bA.map (·.tag)))):=by
 refine bd Tryz.func215 rfl rfl ?_;have iK: ∀{k:List UInt8} {l:List Canon},¬k.length=l.length->iq k (l.map (·.tag))=false:=by
  intro k;induction k with
  |nil=>intro l h;cases l with|nil=>exact absurd rfl h|cons _ _=>rfl
  |cons a k ih=>intro l h;cases l with|nil=>rfl|cons b l=>simp[iq,ih (show¬k.length=l.length by simpa using h)]
 by_cases hl:((dK cM).length:Int)=bA.length
 case neg=>
  have h2:=iK (k:=dK cM) (l:=bA) (by omega);simp-implicitDefEqProofs[hc,hl,h2]
 have xz:bA.length=(dK cM).length:=by omega
 clear iK;rcases pj hc with rfl|rfl|rfl|rfl|rfl|rfl|rfl|rfl|rfl|rfl|rfl|rfl|rfl|rfl|rfl|rfl;all_goals
  simp[dK]at xz;try (obtain⟨a,rfl⟩:=Pj xz)
  try (obtain⟨a,b,rfl⟩:=Pk xz)
  try (obtain⟨a,b,c,rfl⟩:=Pl xz)
  try subst xz
  simp-implicitDefEqProofs[di,dK,iq];try grind
theorem Cu: ∀(k:List UInt8) (l:List Int) (i:Nat) (h:i<k.length) (h':i<l.length),iq (k.take (i+1)) (l.take (i+1))=(iq (k.take i) (l.take i)&&yj ((k[i]).toNat:Int) l[i])
 | [],_,i,h,_=>by simp at h
 |_::_,[],i,_,h'=>by simp at h'
 |a::k,b::l,0,_,_=>by simp[iq]
 |a::k,b::l,i+1,h,h'=>by
  have:=Cu k l i (by simpa using h) (by simpa using h');simp only[List.take_succ_cons,iq,this,List.getElem_cons_succ,Bool.and_assoc]
theorem Cv: ∀(k:List UInt8) (l:List Int) (i:Nat) (h:i<k.length) (h':i<l.length),yj ((k[i]).toNat:Int) l[i]=false->iq k l=false
 | [],_,i,h,_,_=>by simp at h
 |_::_,[],i,_,h',_=>by simp at h'
 |a::k,b::l,0,_,_,e=>by simp only[List.getElem_cons_zero]at e;simp[iq,e]
 |a::k,b::l,i+1,h,h',e=>by
  have:=Cv k l i (by simpa using h) (by simpa using h') (by simpa using e);simp[iq,this]
theorem qY{c:Int}(h:0<=c/\c<=15):(dK c).length<=3:=by
 rcases pj h with rfl|rfl|rfl|rfl|rfl|rfl|rfl|rfl|rfl|rfl|rfl|rfl|rfl|rfl|rfl|rfl<;>decide
def ql(c:Int)(bm:List Cell):List Int:=(bm.take (dK c).length).map (·.tag)
theorem LH{c:Int}(h:0<=c/\c<=15){bm:List Cell}(hr:bm.length=8):(ql c bm).length=(dK c).length:=by
 have:=qY h;simp[ql,hr];omega
theorem PH{c:Int}{bm:List Cell}{i:Nat}(h:i<(ql c bm).length)(hr:i<bm.length):(ql c bm)[i]=(bm[i]).tag:=by simp[ql]
theorem EC(aD ae:List Int)(n:Nat)(c:Int)(bm:List Cell):uS aD ae n c bm=if iq (dK c) (ql c bm)=false then 6
 else if 0<ph c/\((mf aD ae (bm.getD 1 ⟨0,0⟩) (bm.getD 2 ⟨0,0⟩).val).2≠0\/16<(bm.getD 2 ⟨0,0⟩).val) then 6
 else if(c=10\/c=12)/\(n:Int)<=(bm.getD 0 ⟨0,0⟩).val then 6 else 0:=rfl
@[simp] theorem DH(ay:List Instr)(ah:List Int)(az:List (List Int))(aa:List Int)(aw:Int)(aq:List Cell)(an:List cx)(ax:List Thread)(t:Int)(hm:ax.length=4)(ht:0<=t/\t<4)(hL:nr aa ah)(hl:ay.length<=1000)(hr:(ax.getD t.toNat da).bm.length=8)(Wm:xf (ax.getD t.toNat da).bm)(hp:1<=(ax.getD t.toNat da).pc/\(ax.getD t.toNat da).pc<=ay.length)(hc:0<=(qk ay (ax.getD t.toNat da).pc).dy/\(qk ay (ax.getD t.toNat da).pc).dy<=15):cz X 56 [(ay,ah,az),(aa,aw,aq,an,ax),t]=some (.int .i64 (uS aa ah ay.length (qk ay (ax.getD t.toNat da).pc).dy (ax.getD t.toNat da).bm)):=by
 refine bd Tryz.func56 rfl rfl ?_;obtain⟨k,rfl⟩:=Int.eq_ofNat_of_zero_le ht.1;have hk:k<ax.length:=by omega
 have v8:(k:Int)<4:=by omega
 have hk4:k<4:=by omega
 have hx:ax.getD (k:Int).toNat da=ax[k]:=by simp[List.getD,hk]
 rw[hx]at hr Wm hp hc⊢;obtain⟨j,hj⟩: ∃j:Nat,(ax[k]).pc-1=j:=⟨((ax[k]).pc-1).toNat,by omega⟩;have sx:j<ay.length:=by omega
 have PI:(j:Int)<ay.length:=by omega
 have yZ:qk ay (ax[k]).pc=ay[j]:=by unfold qk;rw[hj];simp[List.getD,sx]
 rw[yZ]at hc⊢;have hwp:IntKind.i64.wrap ((ax[k]).pc-1)=j:=by rw[hj];exact wrap_i64 (by omega)
 obtain⟨c,tf⟩: ∃c,(ay[j]).dy=c:=⟨_,rfl⟩;rw[tf]at hc⊢;obtain⟨bm,LI⟩: ∃r,(ax[k]).bm=r:=⟨_,rfl⟩;rw[LI]at hr Wm⊢;have k3:=qY hc;have tl:=LH hc hr;have c0:=Wm 0 (by omega);have c1:=Wm 1 (by omega);have c2:=Wm 2 (by omega);obtain⟨r0,e0⟩: ∃x,bm[0]'(by omega)=x:=⟨_,rfl⟩;obtain⟨⟨r1t,r1v⟩,e1⟩: ∃x,bm[1]'(by omega)=x:=⟨_,rfl⟩;obtain⟨r2,e2⟩: ∃x,bm[2]'(by omega)=x:=⟨_,rfl⟩;rw[e0]at c0;rw[e1]at c1;rw[e2]at c2;simp only at c1;have g0:bm.getD 0 ⟨0,0⟩=r0:=by simp[List.getD,hr,e0]
 have g1:bm.getD 1 ⟨0,0⟩=⟨r1t,r1v⟩:=by simp[List.getD,hr,e1]
 have g2:bm.getD 2 ⟨0,0⟩=r2:=by simp[List.getD,hr,e2]
 have l0:0<bm.length:=by omega
 have l1:1<bm.length:=by omega
 have l2:2<bm.length:=by omega
 have v1:0<=r1v/\r1v<=65535:=by omega
 have v2':r2.val<=1000000:=by omega
 have w0:IntKind.i64.wrap r0.val=r0.val:=wrap_i64 (by omega);have w2:IntKind.i64.wrap r2.val=r2.val:=wrap_i64 (by omega);rw[EC,g0,g1,g2];simp-implicitDefEqProofs[hm,v8,hk4,sx,PI,hwp,tf,hc,LI];refine cP (fun i S=>(S.f 3= .ptr 3 0 0/\S.h 3=some ⟨3,[.agg [ay,ah,az]],true⟩/\S.f 4= .ptr 4 0 0/\S.h 4=some ⟨5,[.agg [aa,.int .u16 aw,aq,an,ax]],true⟩/\S.f 7= .ptr 7 0 0/\S.h 7=some ⟨8,[.agg [.int .i64 (ax[k]).state,.sl false ((ax[k]).bm.map Cell.e),.int .i64 (ax[k]).pc,.int .i64 (ax[k]).count,.int .i64 (ax[k]).bV,.int .i64 (ax[k]).saved,.int .i64 (ax[k]).dd,.int .u16 (ax[k]).code]],true⟩/\S.f 8= .int .i64 (c)/\S.f 9= .str (dK c)/\S.f 29= .int .i64 (((dK c).length:Int))/\S.f 30= .int .i64 (i:Int)/\S.n=1100)/\(iq ((dK c).take i) ((ql c bm).take i)=true)) ((dK c).length) ?_ 0 (by simp) ?_
 ·rintro i S kY ⟨dA,hX⟩;have eY:=cS i (by omega);by_cases bI:i<(dK c).length
  ·have i8:i<8:=by omega
   have i8i:(i:Int)<8:=by omega
   have il:i<bm.length:=by omega
   have it:i<(ql c bm).length:=by omega
   have up:=Cu (dK c) (ql c bm) i bI it;have ta:=PH it il;have bad:=Cv (dK c) (ql c bm) i bI it;rw[ta]at up bad;rw[hX]at up;cases hf:yj ((dK c)[i].toNat:Int) (bm[i]).tag with
   |false=>
    have hb:=bad hf;simp-implicitDefEqProofs[dA,bI,LI,hr,i8,i8i,hf,hb]
   |true=>
    rw[hf]at up;simp-implicitDefEqProofs[dA,eY,bI,LI,hr,i8,i8i,hf,up]
  ·have ko:(dK c).length=i:=by omega
   subst ko;have Wi:iq (dK c) (ql c bm)=true:=by
    rw[List.take_length,bn (by omega)]at hX;exact hX
   by_cases hb:0<ph c
   ·by_cases hw:(mf aa ah ⟨r1t,r1v⟩ r2.val).2=0
    ·by_cases h16:16<r2.val
     ·simp-implicitDefEqProofs[dA,Cell.bP,Wi,hb,hL,v1,v2',w2,LI,hr,e1,e2,hw,h16]
     ·have n10: ¬c=10:=fun e=>by rw[e]at hb;revert hb;decide
      have n12: ¬c=12:=fun e=>by rw[e]at hb;revert hb;decide
      simp-implicitDefEqProofs[dA,Cell.bP,Wi,hb,hL,v1,v2',w2,LI,hr,e1,e2,hw,h16,n10,n12]
    ·simp-implicitDefEqProofs[dA,Cell.bP,Wi,hb,hL,v1,v2',w2,LI,hr,e1,e2,hw]
   ·by_cases YV:c=10
    ·have ach:=eq_true YV;by_cases hv:(ay.length:Int)<=r0.val
     ·simp-implicitDefEqProofs[dA,Cell.bP,Wi,hb,w0,LI,hr,e0,ach,hv]
     ·simp-implicitDefEqProofs[dA,Cell.bP,Wi,hb,w0,LI,hr,e0,ach,hv]
    ·by_cases Kn:c=12
     ·have amz:=eq_true Kn;by_cases hv:(ay.length:Int)<=r0.val
      ·simp-implicitDefEqProofs[dA,Cell.bP,Wi,hb,w0,LI,hr,e0,YV,amz,hv]
      ·simp-implicitDefEqProofs[dA,Cell.bP,Wi,hb,w0,LI,hr,e0,YV,amz,hv]
     ·simp-implicitDefEqProofs[dA,Wi,hb,YV,Kn]
 ·simp-implicitDefEqProofs<;>(
   first|rfl|exact⟨rfl,rfl⟩|(simp[iq,LI];done)|(rw[LI];first|rfl|simp[iq]))
end Go.Proofs.YtejohpnpnaljdaaGreat
