/- Part of a proof: F23. -/
import Derived.Test.YtejohpnpnaljdaaGreatM17
import Derived.Test.YtejohpnpnaljdaaGreatM38
import Derived.Test.YtejohpnpnaljdaaGreatM43
import Derived.Test.YtejohpnpnaljdaaGreatM47
set_option linter.all false
set_option maxRecDepth 20000
set_option maxHeartbeats 20000000
namespace Go.Proofs.YtejohpnpnaljdaaGreat
open Go Go.Abs Go.Abs.lu
def Qn(k:Nat)(l:List Int)(v:V)(h:aY)(n:Nat):Prop:=(l=[]/\v= .sl true [])\/(0<l.length/\ ∃id,k<=id/\id<n/\v= .bU id 0 l.length/\h id=some ⟨1,l.map (V.int .i64),false⟩)
theorem Qn.mono{k n n':Nat}{l:List Int}{v:V}{h h':aY}(H:Qn k l v h n)(hn:n<=n')(hh: ∀i,i<n->h' i=h i):Qn k l v h' n':=by
 rcases H with H|⟨h0,id,k1,k2,e,g⟩
 ·exact .inl H
 ·exact .inr ⟨h0,id,k1,by omega,e,by rw[hh _ k2,g]⟩
@[simp] theorem Qo(l:List Thread)(k:Nat)(hl:l.length=4): ∃v h' k',cy X 175 [l] m8 k=some (v,h',k')/\Qn k (ki l 4) v h' k'/\k<=k':=by
 refine bu (X:=X) (K:=fun v h' k'=>Qn k (ki l 4) v h' k'/\k<=k') Tryz.func175 rfl rfl ?_;simp-implicitDefEqProofs[hl];refine cP (fun i S=>(S.f 6= .sl false (l.map Thread.e)/\S.f 7= .int .i64 4/\S.f 8= .int .i64 i)/\Qn k (ki l i) (S.f 3) S.h S.n/\k<=S.n) 4 ?_ 0 (by omega) ?_
 ·rintro i S hi ⟨⟨f6,f7,f8⟩,HO,hk⟩;by_cases h4:i<4
  case neg=>
   have h4i: ¬(i:Int)<4:=by omega
   have e4:i=4:=by omega
   subst e4;simp-implicitDefEqProofs[f7,f8];exact⟨HO.mono (by omega) fun _ _=>rfl,by omega⟩
  have h4i:(i:Int)<4:=by omega
  have Bt:i<l.length:=by omega
  have hw:IntKind.i64.wrap ((i:Int)+1)=i+1:=wrap_i64 (by omega);obtain⟨⟨st,rg,pc,co,ha,sa,tr,cd⟩,nq⟩: ∃x,l[i]=x:=⟨_,rfl⟩;by_cases hs:st=1
  case neg=>
   have jX:=Lz Bt (by rw[nq];exact hs);simp-implicitDefEqProofs[f6,f7,f8,h4,h4i,hl,nq,Thread.bP,hs,hw,jX];exact⟨HO.mono (by omega) fun j hj=>by rw[aO,if_neg (by omega),aO,if_neg (by omega)],by omega⟩
  have jX:=Ix Bt (by rw[nq];exact hs);have ln:=eq_true hs;rcases HO with⟨h0,f3⟩|⟨h0,id,k1,k2,f3,dg⟩
  ·simp-implicitDefEqProofs[f3,f6,f7,f8,h4,h4i,hl,nq,Thread.bP,ln,hw,jX];refine⟨.inr ⟨by simp,_,?_,?_,by rw[h0];rfl,by simp[aO,h0]⟩,by omega⟩
   ·omega
   ·omega
  ·have QH:=Aj l i;obtain⟨q,hq⟩: ∃q,ki l i=q:=⟨_,rfl⟩;rw[hq]at h0 f3 dg jX QH;have i1: ¬id=S.n+1+3:=by omega
   simp-implicitDefEqProofs[f3,f6,f7,f8,h4,h4i,hl,nq,Thread.bP,ln,hw,jX,dg,i1];refine⟨⟨by omega,by omega⟩,fun _ _=>⟨.inr ⟨by simp,_,?_,?_,by simp;rfl,by simp[aO]⟩,by omega⟩⟩
   ·omega
   ·omega
 ·simp-implicitDefEqProofs;exact⟨.inl ⟨rfl,rfl⟩,by omega⟩
def ac5(h:aY)(k:Nat)(l:List Entry)(v:V):Prop:=v= .sl false (l.map Entry.e)\/ ∃R es,R<k/\v= .bU R 0 l.length/\h R=some ⟨18,es,false⟩/\es=l.map Entry.e
def ac6(h:aY)(k:Nat)(l:List Int)(v:V):Prop:=v= .sl false (l.map (V.int .i64))\/ ∃R,R<k/\v= .bU R 0 l.length/\h R=some ⟨1,l.map (V.int .i64),false⟩
theorem awh{f:FuncId}{S:St}{Q:Ex->St->Prop}{a0 a1 a2 a3 a4 a5 a6 d:Code}(Mid:St->Prop)(h1: ∀S,Mid S->Wp X f d S Q)(h2: ∀b:Code,(∀S,Mid S->Wp X f b S Q)->Wp X f (a0.seq (a1.seq (a2.seq (a3.seq (a4.seq (a5.seq (a6.seq b))))))) S Q):Wp X f (a0.seq (a1.seq (a2.seq (a3.seq (a4.seq (a5.seq (a6.seq d))))))) S Q:=h2 d h1
theorem awi{f:FuncId}{S:St}{Q:Ex->St->Prop}{a0 a1 a2 a3 d:Code}(Mid:St->Prop)(h1: ∀S,Mid S->Wp X f d S Q)(h2: ∀b:Code,(∀S,Mid S->Wp X f b S Q)->Wp X f (a0.seq (a1.seq (a2.seq (a3.seq b)))) S Q):Wp X f (a0.seq (a1.seq (a2.seq (a3.seq d)))) S Q:=h2 d h1
def DR:V:= .agg [.sl true [],.sl true [],.sl true [],.sl true [],.int .u16 0,.sl true [],.sl true [],.sl true [],.sl true [],.sl true [],.sl true [],.sl true [],.sl true [],.sl true [],.sl true [],.sl true [],.sl true [],.sl true []]
def awj(p:Prog)(m:bf)(o:cN)(l:bR)(rc:List Entry)(js:List Int)(h:aY)(k:Nat)(F:Nat->Prop)(ch:V)(t:Nat)(n:Int)(S:St):Prop:=
 ∃B R J,(S.f 3= .ptr (k+1) 0 0/\S.f 4= .ptr (k+2) 0 0/\S.f 7= .int .i64 t/\S.f 8= .int .i64 n/\S.f 9= .ptr B 0 0)/\(S.h (k+1)=some ⟨3,[ch],true⟩/\S.h (k+2)=some ⟨18,[DR],true⟩/\
  S.h B=some ⟨18,[.agg [.sl false (p.code.map Instr.e),.sl false (p.ae.map (V.int .i64)),.sl false (p.data.map aS),.sl false (m.layout.aD.map (V.int .i64)),.int .u16 m.layout.key,.sl false (m.memory.cells.map Cell.e),.sl false (m.memory.lines.map cx.e),.sl false (m.threads.map Thread.e),
   .sl false (o.clock.map (V.int .u16)),.sl false (o.random.map (V.int .u16)),.sl false (o.cO.map aS),.sl false (o.files.data.map ba),.sl false (o.files.opens.map dT.e),.sl false (o.cT.map Output.e),.sl false (l.owner.map (V.int .i64)),.sl false (l.queue.map cI),.bU R 0 rc.length,.bU J 0 js.length]],true⟩/\
  S.h R=some ⟨18,rc.map Entry.e,false⟩/\S.h J=some ⟨1,js.map (V.int .i64),false⟩)/\(k+2<B/\B<S.n/\k+2<R/\R<S.n/\k+2<J/\J<S.n/\B≠R/\B≠J/\R≠J)/\ ∀i,i<k->F i->S.h i=h i
def awk(p:Prog)(d:Int)(lay:aN)(o:cN)(l:bR)(js:List Int)(h:aY)(k:Nat)(F:Nat->Prop)(t:Nat)(S:St):Prop:=
 ∃(B R J T D:Nat) (m:bf) (q:Request) (rc:List Entry) (es:List V),(S.f 4= .ptr (k+2) 0 0/\S.f 7= .int .i64 t/\S.f 9= .ptr B 0 0/\S.f 11= .ptr D 0 0)/\(S.h (k+2)=some ⟨18,[DR],true⟩/\S.h D=some ⟨8,[Request.e q],true⟩/\
  S.h B=some ⟨18,[wg p (.sl false (m.layout.aD.map (V.int .i64))) m.layout.key (.sl false (m.memory.cells.map Cell.e)) (.sl false (m.memory.lines.map cx.e)) T o l R rc.length J],true⟩/\
  S.h T=some ⟨8,m.threads.map Thread.e,false⟩/\S.h R=some ⟨18,es,false⟩/\S.h J=some ⟨1,js.map (V.int .i64),false⟩)/\
  (k+2<B/\B<S.n/\k+2<R/\R<S.n/\k+2<J/\J<S.n/\k+2<T/\T<S.n/\k+2<D/\D<S.n)/\(B≠R/\B≠J/\R≠J/\B≠T/\R≠T/\J≠T/\D≠B/\D≠R/\D≠J/\D≠T)/\(∀i,i<k->F i->S.h i=h i)/\cR p (d+64) m/\m.layout=lay/\q.iu=t/\Vu q/\rc.length<=200/\es=rc.map Entry.e
def V7(p:Prog)(d:Int)(lay:aN)(h:aY)(k:Nat)(F:Nat->Prop)(v:V)(h':aY)(k':Nat):Prop:=
 k<=k'/\(∀i,i<k->F i->h' i=h i)/\((∃e,(e=15\/e=3)/\v= .de [DR,.int .i64 e]/\ ∀i,i<k->h' i=h i)\/
  ∃(m:bf) (o:cN) (l:bR) (js:List Int) (rc:List Entry) (T R J:Nat) (es:List V),v= .de [wg p (.sl false (m.layout.aD.map (V.int .i64))) m.layout.key (.sl false (m.memory.cells.map Cell.e)) (.sl false (m.memory.lines.map cx.e)) T o l R rc.length J,.int .i64 0]/\
   (h' T=some ⟨8,m.threads.map Thread.e,false⟩/\h' R=some ⟨18,es,false⟩/\h' J=some ⟨1,js.map (V.int .i64),false⟩)/\(k<=T/\T<k'/\k<=R/\R<k'/\k<=J/\J<k'/\T≠R/\T≠J/\R≠J)/\cR p (d+64) m/\m.layout=lay/\pQ o/\gY l/\js.length=4/\rc.length<=300/\es=rc.map Entry.e)
@[simp] theorem ag9(bB:List Instr)(bw:List Int)(bC:List (List Int))(aE:List Int)(aG:Int)(aH:List Cell)(aJ:List cx)(aA:List Thread)(bz bg:List Int)(bh:List (List Int))(aP:List (List Canon))(aM:List dT)(aX:List Output)(bF:List Int)(bG:List (List Int))(cu:List Entry)(cF:List Int)(vj rp:Int)(CX:Bool)(h:aY)(k T:Nat)(vR vJ:V)(F:Nat->Prop)(d:Int)(hT:T<k/\h T=some ⟨8,aA.map Thread.e,false⟩)(hR:ac5 h k cu vR)(hJ:ac6 h k cF vJ)(HG:cR ⟨bB,bw,bC⟩ d ⟨⟨aE,aG⟩,⟨aH,aJ⟩,aA⟩)(hd:d+64<=1099511627776)(ho:pQ ⟨bz,bg,bh,⟨aP,aM⟩,aX⟩)(hl:gY ⟨bF,bG⟩)(hj:cF.length=4)(hF: ∀i,F i->i≠T/\(∀n,vR≠ .bU i 0 n)/\(∀n,vJ≠ .bU i 0 n))(hA:(∀n,vR≠ .bU T 0 n)/\(∀n,vJ≠ .bU T 0 n)/\ ∀i n m,vR= .bU i 0 n->vJ≠ .bU i 0 m)(hrc:cu.length<=900000): ∃v h' k',cy X 136 [.agg [bB,bw,bC,aE,.int .u16 aG,aH,aJ,.bU T 0 4,.sl false (bz.map (V.int .u16)),.sl false (bg.map (V.int .u16)),bh,aP,aM,aX,bF,.sl false (bG.map cI),vR,vJ],.agg [vj,rp,CX]] h k=some (v,h',k')/\V7 ⟨bB,bw,bC⟩ d ⟨aE,aG⟩ h k F v h' k':=by
  have oP:aA.length=4:=HG.len;obtain⟨hTk,hTr⟩:=hT;have nT0: ¬T=k:=by omega
  have bam: ¬k=T:=by omega
  have uX: ∀(f:Thread->V),List.take 4 (aA.map f)=aA.map f:=fun f=>bn (by simp;omega);have PL: ∀(f:Thread->Option V),List.take 4 (aA.map f)=aA.map f:=fun f=>bn (by simp;omega);have nT: ∀j,¬T=k+j:=fun j=>by omega
  have ZS: ∀j,¬k+j=T:=fun j=>by omega
  have lR:Bm vR=some cu.length:=by
    rcases hR with e|⟨R,_,_,e,_⟩
    · rw[e];simp[Bm]
    · rw[e];rfl
  have sR:vR.isStr=false:=by
    rcases hR with e|⟨R,_,_,e,_⟩
    · rw[e];rfl
    · rw[e];rfl
  obtain⟨v1,h1,k1,eR,OR,A5⟩:=Qo aA (k+9) oP;refine bu (X:=X) (K:=fun v h' k'=>V7 ⟨bB,bw,bC⟩ d ⟨aE,aG⟩ h k F v h' k') Tryz.func136 rfl rfl ?_;rcases OR with⟨r0,rfl⟩|⟨r0,id,i1,i2,rfl,i3⟩
  · simp-implicitDefEqProofs[Nat.add_assoc,hTr,oP,nT0,nT,uX,eR]
    refine⟨rfl,fun _=>⟨by omega,fun i hi _=> ?_,.inl ⟨15,.inl rfl,rfl,fun i hi=> ?_⟩⟩⟩;all_goals
      have g0: ¬i=k:=by omega
      have g1: ∀j,¬i=k+j:=fun j=>by omega
      have g3:i<k+9:=by omega
      simp[aO,g0,g1,g3]
  · obtain⟨q,hq⟩: ∃q,ki aA 4=q:=⟨_,rfl⟩
    have hql:=Aj aA 4;have uv:=fun i (h:i<(ki aA 4).length)=>LR h;rw[hq]at r0 i3 hql eR;have r0i:0<(q.length:Int):=by omega
    have r0n: ¬(q.length:Int)=0:=by omega
    have r0m: ¬q.length=0:=by omega
    have d1: ¬id<k+9:=by omega
    have d2: ∀j,j<9-> ¬id=k+j:=fun j hj=>by omega
    have J6:jz (some ⟨1,q.map (V.int .i64),false⟩)=some ⟨1,q.map (V.int .i64),false⟩:=by unfold jz;simp only[Nd,if_true]
    by_cases awl:cu.length<=192
    case neg=>
      have EY:192<(cu.length:Int):=by omega
      simp-implicitDefEqProofs[sR,lR,EY,Nat.add_assoc,hTr,oP,nT0,nT,uX,eR,CA,r0m];refine⟨by omega,fun i hi _=> ?_,.inl ⟨3,.inr rfl,rfl,fun i hi=> ?_⟩⟩;all_goals
        have g0: ¬i=k:=by omega
        have g1: ∀j,¬i=k+j:=fun j=>by omega
        have g3:i<k+9:=by omega
        simp[aO,g0,g1,g3]
    have EY: ¬192<(cu.length:Int):=by omega
    have m0:=Int.emod_nonneg vj (show(q.length:Int)≠0 by omega);have m1:=Int.emod_lt_of_pos vj r0i;obtain⟨x,hx⟩:=Int.eq_ofNat_of_zero_le m0;have xl:x<q.length:=by omega
    have xli:(x:Int)<q.length:=by omega
    have hmo:=Ad vj q.length (by omega);rw[hx]at hmo;have n0:=Int.emod_nonneg rp (show(64:Int)≠0 by omega);have n1:=Int.emod_lt_of_pos rp (show(0:Int)<64 by omega);obtain⟨y,hy⟩:=Int.eq_ofNat_of_zero_le n0;have hmb:=Ad rp 64 (by omega);rw[hy]at hmb;have nO:IntKind.i64.wrap (1+(y:Int))=1+(y:Int):=wrap_i64 (by omega);obtain⟨n,hn⟩: ∃n:Int,1+(y:Int)=n:=⟨_,rfl⟩;rw[hn]at nO;have hqx: ∃t:Nat,t<4/\q[x]=(t:Int)/\(aA.getD t da).state=1:=by
      subst hq;exact uv x xl
    obtain⟨t,t4,hqt,iZ⟩:=hqx;have t4i:(t:Int)<4:=by omega
    have tml:t<aA.length:=by omega
    have Nf:=VA bB bw bC aE aG aH aJ aA bz bg bh aP aM aX bF bG cu cF (by omega) (by omega);have DJ:=uZ aE aG aH aJ aA t ⟨by omega,by omega⟩ oP;rw[Int.toNat_natCast]at DJ;refine awh (awj ⟨bB,bw,bC⟩ ⟨⟨aE,aG⟩,⟨aH,aJ⟩,aA⟩ ⟨bz,bg,bh,⟨aP,aM⟩,aX⟩ ⟨bF,bG⟩ cu cF h k F (.agg [.int .i64 vj,.int .i64 rp,.bool CX]) t n) ?_ ?_
    case refine_1=>
      rintro⟨sf,sh,sn⟩ ⟨B,R,J,⟨f3,f4,f7,f8,f9⟩,⟨g1,g2,gB,gR,gJ⟩,⟨b1,b2,b3,b4,b5,b6,b7,b8,b9⟩,lK⟩;clear eR i3 uv J6 hR hJ lR sR;simp only at f3 f4 f7 f8 f9 g1 g2 gB gR gJ b2 b4 b6 lK;refine awi (awk ⟨bB,bw,bC⟩ d ⟨aE,aG⟩ ⟨bz,bg,bh,⟨aP,aM⟩,aX⟩ ⟨bF,bG⟩ cF h k F t) ?_ ?_
      case refine_1=>
        clear gB gR gJ b1 b2 b3 b4 b5 b6 b7 b8 b9 lK f3 f4 f7 f8 f9 g1 g2 Nf;rintro⟨sf,sh,sn⟩ ⟨B,R,J,T1,D,⟨⟨Ns,Nt⟩,⟨Qp,JH⟩,vk⟩,⟨qa,qb,qc,qd,qe,qf,qg,qh⟩,rc1,es,⟨f4,f7,f9,f11⟩,⟨g2,gD,gB,gT,gR,gJ⟩,⟨b1,b2,b3,b4,b5,b6,b7,b8,b9,b10⟩,⟨c1,c2,c3,c4,c5,c6,c7,c8,c9,LA⟩,lK,Qq,nb,hqt,QG,baq,D4⟩;simp only at f4 f7 f9 f11 g2 gD gB gT gR gJ b2 b4 b6 b8 b10 lK nb hqt;obtain⟨k2,wy⟩: ∃c,k+2=c:=⟨_,rfl⟩;rw[wy]at f4 g2;have DS:vk.length=4:=Qq.len;have Qr: ∀(f:Thread->V),List.take 4 (vk.map f)=vk.map f:=fun f=>bn (by simp;omega);have aha: ∀(f:Thread->Option V),List.take 4 (vk.map f)=vk.map f:=fun f=>bn (by simp;omega);have jkf: ∀(f:Int->V),List.take 4 (cF.map f)=cF.map f:=fun f=>bn (by simp;omega);subst D4;have bar:t<vk.length:=by omega
        unfold wg at gB;unfold DR at g2;have n2: ∀j,¬k2=sn+j:=fun j=>by omega
        have ZT: ∀j,¬sn+j=k2:=fun j=>by omega
        have nB: ∀j,¬B=sn+j:=fun j=>by omega
        have nR: ∀j,¬R=sn+j:=fun j=>by omega
        have nJ: ∀j,¬J=sn+j:=fun j=>by omega
        have nT: ∀j,¬T1=sn+j:=fun j=>by omega
        have nD: ∀j,¬D=sn+j:=fun j=>by omega
        have Nu: ∀j,¬sn+j=B:=fun j=>by omega
        have V8: ∀j,¬sn+j=R:=fun j=>by omega
        have nJ': ∀j,¬sn+j=J:=fun j=>by omega
        have ZS: ∀j,¬sn+j=T1:=fun j=>by omega
        have e1: ¬k2=B:=by omega
        have e2: ¬T1=k2:=by omega
        have e3: ¬R=k2:=by omega
        have e4: ¬J=k2:=by omega
        have e5: ¬k2=T1:=by omega
        have e6: ¬k2=R:=by omega
        have e7: ¬k2=J:=by omega
        have e8: ¬B=k2:=by omega
        have x1: ¬R=B:=fun e=>c1 e.symm;have x2: ¬J=B:=fun e=>c2 e.symm;have x3: ¬J=R:=fun e=>c3 e.symm;have x4: ¬T1=B:=fun e=>c4 e.symm;have x5: ¬T1=R:=fun e=>c5 e.symm;have x6: ¬T1=J:=fun e=>c6 e.symm;by_cases pa:qb=1
        case neg=>
          by_cases hs4:(vk[t]).state=4
          case neg=>
            simp-implicitDefEqProofs[f4,f7,f9,f11,g2,gD,gB,gT,DS,t4,t4i,Request.bP,pa,hs4];refine⟨by omega,fun i hi DT=> ?_,.inr ⟨⟨⟨Ns,Nt⟩,⟨Qp,JH⟩,vk⟩,⟨bz,bg,bh,⟨aP,aM⟩,aX⟩,⟨bF,bG⟩,cF,rc1,T1,R,J,_,rfl,⟨?_,?_,?_⟩,⟨by omega,by omega,by omega,by omega,by omega,by omega,x5,x6,c3⟩,Qq,nb,ho,hl,hj,by omega,rfl⟩⟩
            · have w1: ¬i=k2:=by omega
              simp only[aO,w1,if_false];exact lK i hi DT
            · simp only[aO,e2,if_false]
              exact gT
            · simp only[aO,e3,if_false]
              exact gR
            · simp only[aO,e4,if_false]
              exact gJ
          obtain⟨m3,o3,l3,ZR,rc3,hen,MG3,hl3,ho3,ahb,hj3,hr3⟩:=Nr bB bw bC Ns Nt Qp JH vk bz bg bh aP aM aX bF bG rc1 cF t (d+64) Qq (by omega) ho hl hj (by omega) ⟨by omega,t4i⟩;have ahc:=eq_true hs4;have ahd:m3.threads.length=4:=MG3.len;simp-implicitDefEqProofs[f4,f7,f9,f11,g2,gD,gB,gT,gR,gJ,DS,Qr,jkf,xm,t4,t4i,Request.bP,jy,pa,ahc,hj,Nat.add_assoc,hen,ahd,hj3,x1,x2,x4,c3,c5,c6,nB,n2,e1,e5,e6,e7];refine⟨by omega,fun i hi DT=> ?_,.inr ⟨m3,o3,l3,ZR,rc3,sn+15,sn+13,sn+14,_,rfl,⟨?_,?_,?_⟩,⟨by omega,by omega,by omega,by omega,by omega,by omega,by omega,by omega,by omega⟩,MG3,hl3.trans nb,ho3,ahb,hj3,by omega,rfl⟩⟩
          · have w1: ¬i=k2:=by omega
            have w2: ∀j,¬i=sn+j:=fun j=>by omega
            have w3: ¬i=B:=by omega
            have w4: ¬i=R:=by omega
            have w5: ¬i=J:=by omega
            have w6: ¬i=T1:=by omega
            simp only[aO,w1,w2,w3,w4,w5,w6,if_false];exact lK i hi DT
          · simp[aO,ZT]
          · simp[aO,ZT]
          · simp[aO,ZT]
        have aop:=eq_true pa;obtain⟨⟨⟨mb2,mk2⟩,⟨mc2,ml2⟩,Mf⟩,⟨oc2,or2,oi2,⟨od2,oo2⟩,ou2⟩,⟨Qg,Qh⟩,wG,DP,mM,MG2,wL,Iz,ZU,C8,Mw⟩:=V6 bB bw bC Ns Nt Qp JH vk bz bg bh aP aM aX bF bG rc1 cF qa qb qc qd qe qf qg qh (d+64) Qq (by omega) ho hl hj (by omega) ⟨by omega,by omega⟩ QG.args QG.data QG.one QG.av QG.dv;simp only at mM wL;have V9:Mf.length=4:=MG2.len;have bas:t<Mf.length:=by omega
        have LM: ∀(f:Thread->V),List.take 4 (Mf.map f)=Mf.map f:=fun f=>bn (by simp;omega);have af6: ∀(f:Thread->Option V),List.take 4 (Mf.map f)=Mf.map f:=fun f=>bn (by simp;omega);have awo: ∀(f:Int->V),List.take 4 (wG.map f)=wG.map f:=fun f=>bn (by simp;omega);by_cases hs4:(Mf[t]).state=4
        case neg=>
          simp-implicitDefEqProofs[f4,f7,f9,f11,g2,gD,gB,gT,gR,gJ,DS,Qr,jkf,xm,t4,t4i,Request.bP,jy,aop,hs4,hj,Nat.add_assoc,mM,V9,C8,x1,x2,x4,c3,c5,c6,nB,n2,e1,e5,e6,e7];refine⟨by omega,fun i hi DT=> ?_,.inr ⟨⟨⟨mb2,mk2⟩,⟨mc2,ml2⟩,Mf⟩,⟨oc2,or2,oi2,⟨od2,oo2⟩,ou2⟩,⟨Qg,Qh⟩,wG,DP,sn+7,sn+5,sn+6,_,rfl,⟨?_,?_,?_⟩,⟨by omega,by omega,by omega,by omega,by omega,by omega,by omega,by omega,by omega⟩,MG2,wL.trans nb,Iz,ZU,C8,by omega,rfl⟩⟩
          · have w1: ¬i=k2:=by omega
            have w2: ∀j,¬i=sn+j:=fun j=>by omega
            have w3: ¬i=B:=by omega
            have w4: ¬i=R:=by omega
            have w5: ¬i=J:=by omega
            have w6: ¬i=T1:=by omega
            simp only[aO,w1,w2,w3,w4,w5,w6,if_false];exact lK i hi DT
          · simp[aO,ZT]
          · simp[aO,ZT]
          · simp[aO,ZT]
        obtain⟨m3,o3,l3,ZR,rc3,hen,MG3,hl3,ho3,ahb,hj3,hr3⟩:=Nr bB bw bC mb2 mk2 mc2 ml2 Mf oc2 or2 oi2 od2 oo2 ou2 Qg Qh DP wG t (d+64) MG2 (by omega) Iz ZU C8 (by omega) ⟨by omega,t4i⟩;have ahc:=eq_true hs4;have ahd:m3.threads.length=4:=MG3.len;simp-implicitDefEqProofs[f4,f7,f9,f11,g2,gD,gB,gT,gR,gJ,DS,Qr,jkf,xm,t4,t4i,Request.bP,jy,aop,ahc,hj,Nat.add_assoc,mM,V9,LM,awo,C8,hen,ahd,hj3,x1,x2,x4,c3,c5,c6,nB,Nu,n2,e1,e5,e6,e7];refine⟨by omega,fun i hi DT=> ?_,.inr ⟨m3,o3,l3,ZR,rc3,sn+20,sn+18,sn+19,_,rfl,⟨?_,?_,?_⟩,⟨by omega,by omega,by omega,by omega,by omega,by omega,by omega,by omega,by omega⟩,MG3,hl3.trans (wL.trans nb),ho3,ahb,hj3,by omega,rfl⟩⟩
        · have w1: ¬i=k2:=by omega
          have w2: ∀j,¬i=sn+j:=fun j=>by omega
          have w3: ¬i=B:=by omega
          have w4: ¬i=R:=by omega
          have w5: ¬i=J:=by omega
          have w6: ¬i=T1:=by omega
          simp only[aO,w1,w2,w3,w4,w5,w6,if_false];exact lK i hi DT
        · simp[aO,ZT]
        · simp[aO,ZT]
        · simp[aO,ZT]
      intro bb Hb;obtain⟨c1,C7⟩: ∃c,k+1=c:=⟨_,rfl⟩;obtain⟨c2,yV⟩: ∃c,k+2=c:=⟨_,rfl⟩;rw[C7]at f3 g1;rw[yV]at f4 g2;have nB: ∀j,¬B=sn+j:=fun j=>by omega
      have nR: ∀j,¬R=sn+j:=fun j=>by omega
      have nJ: ∀j,¬J=sn+j:=fun j=>by omega
      have n1: ∀j,¬c1=sn+j:=fun j=>by omega
      have n2: ∀j,¬c2=sn+j:=fun j=>by omega
      have Nu: ∀j,¬sn+j=B:=fun j=>by omega
      have V8: ∀j,¬sn+j=R:=fun j=>by omega
      have q1: ¬c1=B:=by omega
      have q2: ¬c1=R:=by omega
      have q3: ¬c2=B:=by omega
      have q4: ¬c2=R:=by omega
      have q5: ¬J=B:=by omega
      have q6: ¬J=R:=by omega
      have q7: ¬R=B:=by omega
      have DJ:=uZ aE aG aH aJ aA t ⟨by omega,by omega⟩ oP;rw[Int.toNat_natCast]at DJ;have nN:(cu.length:Int)<=192:=by omega
      have Ze:cu.length<=192:=awl;cases CX with
      |false=>
        obtain⟨m1,qr,e1,Qq,JH,qt1,QG1,qs1⟩:=CC (m:=⟨⟨aE,aG⟩,⟨aH,aJ⟩,aA⟩) (n:=n) HG hd t4 ⟨by omega,by omega⟩ iZ;have Gw:=LJ bB bw bC aE aG aH aJ aA t n HG.prog.lens HG.lens HG.R;rw[e1]at Gw;obtain⟨⟨Ns,Nt⟩,⟨Qp,ml2⟩,vk⟩:=m1;obtain⟨qa,qb,qc,qd,qe,qf,qg,qh⟩:=qr;simp only at JH qt1 qs1 Gw;have DS:vk.length=4:=Qq.len;have Qr: ∀(f:Thread->V),List.take 4 (vk.map f)=vk.map f:=fun f=>bn (by simp;omega);have aha: ∀(f:Thread->Option V),List.take 4 (vk.map f)=vk.map f:=fun f=>bn (by simp;omega);simp-implicitDefEqProofs[f3,f7,f8,f9,g1,gB,gR,nB,nR,Nu,q7,b7,Nat.add_assoc,DS,Gw];refine⟨⟨by omega,by omega⟩,fun _ _=> ?_⟩;apply Hb;refine⟨B,sn+35,J,sn+24,sn+20,⟨⟨Ns,Nt⟩,⟨Qp,ml2⟩,vk⟩,⟨qa,qb,qc,qd,qe,qf,qg,qh⟩,cu++ [⟨1,t,n,⟨qa,qb,qc,qd,qe,qf,qg,qh⟩,⟨⟨0,0,0,0⟩,[],0,false⟩⟩],cu.map Entry.e++ [.agg [.int .i64 1,.int .i64 t,.int .i64 n,.int .i64 qa,.int .i64 qb,.int .i64 qc,.int .i64 qd,.int .i64 qe,.int .i64 qf,qg,qh,.int .u8 0,.int .u16 0,.int .i64 0,.int .i64 0,.sl false [],.int .i64 0,.bool false]],⟨by simp[aO,f4,yV],by simp[aO,f7],by simp[aO,f9],by simp[aO]⟩,⟨?_,?_,?_,?_,?_,?_⟩,⟨by omega,by simp only;omega,by omega,by simp only;omega,by omega,by simp only;omega,by omega,by simp only;omega,by omega,by simp only;omega⟩,⟨by omega,by omega,by omega,by omega,by omega,by omega,by omega,by omega,by omega,by omega⟩,?_,Qq,JH,qt1,QG1,?_,?_⟩
        · rw[yV]
          simp[aO,n2,q3,q4,g2]
        · simp[aO,Nu,V8]
          rfl
        · simp[aO,wg,hj]
        · simp[aO,Nu,V8]
        · simp[aO,Nu]
        · simp[aO,nJ,q5,q6,gJ]
        · intro i hi DT
          have w1: ∀j,¬i=sn+j:=fun j=>by omega
          have w2: ¬i=B:=by omega
          have w3: ¬i=R:=by omega
          simp[aO,w1,w2,w3,lK i hi DT]
        · simp;omega
        · simp[Entry.bP]
      |true=>
        cases hct:F4 (aA.getD t da) with
        |false=>
         rw[hct]at DJ;obtain⟨m1,qr,e1,Qq,JH,qt1,QG1,qs1⟩:=CC (m:=⟨⟨aE,aG⟩,⟨aH,aJ⟩,aA⟩) (n:=n) HG hd t4 ⟨by omega,by omega⟩ iZ;have Gw:=LJ bB bw bC aE aG aH aJ aA t n HG.prog.lens HG.lens HG.R;rw[e1]at Gw;obtain⟨⟨Ns,Nt⟩,⟨Qp,ml2⟩,vk⟩:=m1;obtain⟨qa,qb,qc,qd,qe,qf,qg,qh⟩:=qr;simp only at JH qt1 qs1 Gw;have DS:vk.length=4:=Qq.len;have Qr: ∀(f:Thread->V),List.take 4 (vk.map f)=vk.map f:=fun f=>bn (by simp;omega);have aha: ∀(f:Thread->Option V),List.take 4 (vk.map f)=vk.map f:=fun f=>bn (by simp;omega);simp-implicitDefEqProofs[f3,f7,f8,f9,g1,gB,gR,nB,nR,Nu,q7,b7,Nat.add_assoc,DS,DJ,Gw];refine⟨⟨by omega,by omega⟩,fun _ _=> ?_⟩;apply Hb;refine⟨B,sn+35,J,sn+24,sn+20,⟨⟨Ns,Nt⟩,⟨Qp,ml2⟩,vk⟩,⟨qa,qb,qc,qd,qe,qf,qg,qh⟩,cu++ [⟨1,t,n,⟨qa,qb,qc,qd,qe,qf,qg,qh⟩,⟨⟨0,0,0,0⟩,[],0,false⟩⟩],cu.map Entry.e++ [.agg [.int .i64 1,.int .i64 t,.int .i64 n,.int .i64 qa,.int .i64 qb,.int .i64 qc,.int .i64 qd,.int .i64 qe,.int .i64 qf,qg,qh,.int .u8 0,.int .u16 0,.int .i64 0,.int .i64 0,.sl false [],.int .i64 0,.bool false]],⟨by simp[aO,f4,yV],by simp[aO,f7],by simp[aO,f9],by simp[aO]⟩,⟨?_,?_,?_,?_,?_,?_⟩,⟨by omega,by simp only;omega,by omega,by simp only;omega,by omega,by simp only;omega,by omega,by simp only;omega,by omega,by simp only;omega⟩,⟨by omega,by omega,by omega,by omega,by omega,by omega,by omega,by omega,by omega,by omega⟩,?_,Qq,JH,qt1,QG1,?_,?_⟩
         · rw[yV]
           simp[aO,n2,q3,q4,g2]
         · simp[aO,Nu,V8]
           rfl
         · simp[aO,wg,hj]
         · simp[aO,Nu,V8]
         · simp[aO,Nu]
         · simp[aO,nJ,q5,q6,gJ]
         · intro i hi DT
           have w1: ∀j,¬i=sn+j:=fun j=>by omega
           have w2: ¬i=B:=by omega
           have w3: ¬i=R:=by omega
           simp[aO,w1,w2,w3,lK i hi DT]
         · simp;omega
         · simp[Entry.bP]
        |true=>
         rw[hct]at DJ;have awp:F4 (cg ⟨⟨aE,aG⟩,⟨aH,aJ⟩,aA⟩ t)=true:=hct;obtain⟨HG2,az2,Oe⟩:=Zd HG t4 awp;obtain⟨⟨st,rg,pc,co,ha,sa,tr,cd⟩,nq⟩: ∃x,cg ⟨⟨aE,aG⟩,⟨aH,aJ⟩,aA⟩ t=x:=⟨_,rfl⟩;have hmm:wb ⟨⟨aE,aG⟩,⟨aH,aJ⟩,aA⟩ t=⟨⟨aE,aG⟩,⟨aH,aJ⟩,aA.set t ⟨st,rg,ha,co,ha,pc,tr,cd⟩⟩:=by unfold wb;rw[nq]
         have J5:=PX aE aG aH aJ aA t ⟨bB,bw,bC⟩ d HG ⟨by omega,by omega⟩ (by rw[Int.toNat_natCast];exact hct);rw[Int.toNat_natCast,hmm]at J5;simp only at J5;have ahe:=HG2;rw[hmm]at ahe;obtain⟨m1,qr,e1,Qq,JH,qt1,QG1,qs1⟩:=CC (m:=wb ⟨⟨aE,aG⟩,⟨aH,aJ⟩,aA⟩ t) (n:=n) HG2 hd t4 ⟨by omega,by omega⟩ Oe;have Gw:=LJ bB bw bC aE aG aH aJ (aA.set t ⟨st,rg,ha,co,ha,pc,tr,cd⟩) t n HG.prog.lens ahe.lens ahe.R;rw[<-hmm,e1]at Gw;obtain⟨⟨Ns,Nt⟩,⟨Qp,ml2⟩,vk⟩:=m1;obtain⟨qa,qb,qc,qd,qe,qf,qg,qh⟩:=qr;simp only[hmm]at JH qt1 qs1 Gw;obtain⟨Mf,V9⟩: ∃x,aA.set t ⟨st,rg,ha,co,ha,pc,tr,cd⟩=x:=⟨_,rfl⟩;rw[V9]at Gw J5;have tO:Mf.length=4:=by rw[<-V9];simp[oP]
         have LM: ∀(f:Thread->V),List.take 4 (Mf.map f)=Mf.map f:=fun f=>bn (by simp;omega);have af6: ∀(f:Thread->Option V),List.take 4 (Mf.map f)=Mf.map f:=fun f=>bn (by simp;omega);have DS:vk.length=4:=Qq.len;have Qr: ∀(f:Thread->V),List.take 4 (vk.map f)=vk.map f:=fun f=>bn (by simp;omega);have aha: ∀(f:Thread->Option V),List.take 4 (vk.map f)=vk.map f:=fun f=>bn (by simp;omega);simp-implicitDefEqProofs[f3,f7,f8,f9,g1,gB,gR,nB,nR,Nu,V8,q7,b7,Nat.add_assoc,DS,DJ,J5,tO,LM,Gw];refine⟨⟨by omega,by omega⟩,fun _ _=>⟨⟨by omega,by omega⟩,fun _ _=> ?_⟩⟩;apply Hb;refine⟨B,sn+53,J,sn+42,sn+38,⟨⟨Ns,Nt⟩,⟨Qp,ml2⟩,vk⟩,⟨qa,qb,qc,qd,qe,qf,qg,qh⟩,cu++ [⟨3,t,0,⟨0,0,0,0,0,0,[],[]⟩,⟨⟨0,0,0,0⟩,[],0,false⟩⟩,⟨1,t,n,⟨qa,qb,qc,qd,qe,qf,qg,qh⟩,⟨⟨0,0,0,0⟩,[],0,false⟩⟩],cu.map Entry.e++ [Entry.e ⟨3,t,0,⟨0,0,0,0,0,0,[],[]⟩,⟨⟨0,0,0,0⟩,[],0,false⟩⟩,.agg [.int .i64 1,.int .i64 t,.int .i64 n,.int .i64 qa,.int .i64 qb,.int .i64 qc,.int .i64 qd,.int .i64 qe,.int .i64 qf,qg,qh,.int .u8 0,.int .u16 0,.int .i64 0,.int .i64 0,.sl false [],.int .i64 0,.bool false]],⟨by simp[aO,f4,yV],by simp[aO,f7],by simp[aO,f9],by simp[aO]⟩,⟨?_,?_,?_,?_,?_,?_⟩,⟨by omega,by simp only;omega,by omega,by simp only;omega,by omega,by simp only;omega,by omega,by simp only;omega,by omega,by simp only;omega⟩,⟨by omega,by omega,by omega,by omega,by omega,by omega,by omega,by omega,by omega,by omega⟩,?_,Qq,JH,qt1,QG1,?_,?_⟩
         · rw[yV]
           simp[aO,n2,q3,q4,g2]
         · simp[aO,Nu]
           rfl
         · simp[aO,wg,hj]
         · simp[aO,Nu]
         · simp[aO,Nu]
           rw[bn (by simp)];simp[Entry.bP]
         · simp[aO,nJ,q5,q6,gJ]
         · intro i hi DT
           have w1: ∀j,¬i=sn+j:=fun j=>by omega
           have w2: ¬i=B:=by omega
           have w3: ¬i=R:=by omega
           simp[aO,w1,w2,w3,lK i hi DT]
         · simp;omega
         · simp[Entry.bP]
    intro bb Hb;have e0: ∀j,¬k=k1+j:=fun j=>by omega
    have e1: ∀j,¬k+1=k1+j:=fun j=>by omega
    have e2: ∀j,¬k+2=k1+j:=fun j=>by omega
    have T9:T<k+9:=by omega
    rcases hR with rfl|⟨R,Xr,hRk,rfl,hRr,D4⟩
    · rcases hJ with rfl|⟨J,hJk,rfl,hJr⟩
      · simp-implicitDefEqProofs[EY,J6,Nat.add_assoc,hTr,oP,nT0,nT,T9,uX,eR,CA,r0m,i3,d1,xl,xli,hmo,hmb,nO,hn,hqt,Nf]
        apply Hb;refine⟨k1+23,k1+25,k1+26,⟨by simp[aO],by simp[aO],by simp[aO],by simp[aO],by simp[aO]⟩,⟨?_,?_,?_,?_,?_⟩,⟨by omega,by simp only;omega,by omega,by simp only;omega,by omega,by simp only;omega,by omega,by omega,by omega⟩,fun i hi DT=> ?_⟩
        · simp[aO,e0,ZS]
        · simp[aO,e0,ZS]
          rfl
        · simp[aO,hj]
        · simp[aO]
        · simp[aO]
        · obtain⟨f1,f2,f3⟩:=hF i DT
          have g0: ¬i=k:=by omega
          have g1: ∀j,¬i=k+j:=fun j=>by omega
          have g2: ∀j,¬i=k1+j:=fun j=>by omega
          have g3:i<k+9:=by omega
          simp[aO,f1,g0,g1,g2,g3]
      · have TJ: ¬T=J:=fun e=>hA.2.1 cF.length (by rw[e])
        have JT: ¬J=T:=fun e=>TJ e.symm;have nJ: ∀j,¬J=k+j:=fun j=>by omega
        have nJ': ∀j,¬k+j=J:=fun j=>by omega
        have nJ0: ¬J=k:=by omega
        have awr: ¬k=J:=by omega
        have J9:J<k+9:=by omega
        simp-implicitDefEqProofs[EY,J6,Nat.add_assoc,hTr,oP,nT0,nT,T9,uX,eR,CA,r0m,i3,d1,xl,xli,hmo,hmb,nO,hn,hqt,Nf,hJr,nJ,nJ0,J9,JT];apply Hb;refine⟨k1+23,k1+25,k1+26,⟨by simp[aO],by simp[aO],by simp[aO],by simp[aO],by simp[aO]⟩,⟨?_,?_,?_,?_,?_⟩,⟨by omega,by simp only;omega,by omega,by simp only;omega,by omega,by simp only;omega,by omega,by omega,by omega⟩,fun i hi DT=> ?_⟩
        · simp[aO,e0,ZS,nJ']
        · simp[aO,e0,ZS,nJ']
          rfl
        · simp[aO,hj]
        · simp[aO]
        · simp[aO]
        · obtain⟨f1,f2,f3⟩:=hF i DT
          have g0: ¬i=k:=by omega
          have g1: ∀j,¬i=k+j:=fun j=>by omega
          have g2: ∀j,¬i=k1+j:=fun j=>by omega
          have g3:i<k+9:=by omega
          have g4: ¬i=J:=fun e=>f3 cF.length (by rw[e]);simp[aO,f1,g0,g1,g2,g3,g4]
    · subst D4
      have TR: ¬T=R:=fun e=>hA.1 cu.length (by rw[e]);have RT: ¬R=T:=fun e=>TR e.symm;have nR: ∀j,¬R=k+j:=fun j=>by omega
      have V8: ∀j,¬k+j=R:=fun j=>by omega
      have nR0: ¬R=k:=by omega
      have bau: ¬k=R:=by omega
      have R9:R<k+9:=by omega
      rcases hJ with rfl|⟨J,hJk,rfl,hJr⟩
      · simp-implicitDefEqProofs[EY,J6,Nat.add_assoc,hTr,oP,nT0,nT,T9,uX,eR,CA,r0m,i3,d1,xl,xli,hmo,hmb,nO,hn,hqt,Nf,hRr,nR,nR0,R9,RT]
        apply Hb;refine⟨k1+23,k1+25,k1+26,⟨by simp[aO],by simp[aO],by simp[aO],by simp[aO],by simp[aO]⟩,⟨?_,?_,?_,?_,?_⟩,⟨by omega,by simp only;omega,by omega,by simp only;omega,by omega,by simp only;omega,by omega,by omega,by omega⟩,fun i hi DT=> ?_⟩
        · simp[aO,e0,ZS,V8]
        · simp[aO,e0,ZS,V8]
          rfl
        · simp[aO,hj]
        · simp[aO]
        · simp[aO]
        · obtain⟨f1,f2,f3⟩:=hF i DT
          have g0: ¬i=k:=by omega
          have g1: ∀j,¬i=k+j:=fun j=>by omega
          have g2: ∀j,¬i=k1+j:=fun j=>by omega
          have g3:i<k+9:=by omega
          have g5: ¬i=R:=fun e=>f2 cu.length (by rw[e]);simp[aO,f1,g0,g1,g2,g3,g5]
      · have TJ: ¬T=J:=fun e=>hA.2.1 cF.length (by rw[e])
        have JT: ¬J=T:=fun e=>TJ e.symm;have RJ: ¬R=J:=fun e=>hA.2.2 R cu.length cF.length rfl (by rw[e]);have JR: ¬J=R:=fun e=>RJ e.symm;have nJ: ∀j,¬J=k+j:=fun j=>by omega
        have nJ': ∀j,¬k+j=J:=fun j=>by omega
        have nJ0: ¬J=k:=by omega
        have awr: ¬k=J:=by omega
        have J9:J<k+9:=by omega
        simp-implicitDefEqProofs[EY,J6,Nat.add_assoc,hTr,oP,nT0,nT,T9,uX,eR,CA,r0m,i3,d1,xl,xli,hmo,hmb,nO,hn,hqt,Nf,hRr,nR,nR0,R9,RT,hJr,nJ,nJ0,J9,JT,JR];apply Hb;refine⟨k1+23,k1+25,k1+26,⟨by simp[aO],by simp[aO],by simp[aO],by simp[aO],by simp[aO]⟩,⟨?_,?_,?_,?_,?_⟩,⟨by omega,by simp only;omega,by omega,by simp only;omega,by omega,by simp only;omega,by omega,by omega,by omega⟩,fun i hi DT=> ?_⟩
        · simp[aO,e0,ZS,V8,nJ']
        · simp[aO,e0,ZS,V8,nJ']
          rfl
        · simp[aO,hj]
        · simp[aO]
        · simp[aO]
        · obtain⟨f1,f2,f3⟩:=hF i DT
          have g0: ¬i=k:=by omega
          have g1: ∀j,¬i=k+j:=fun j=>by omega
          have g2: ∀j,¬i=k1+j:=fun j=>by omega
          have g3:i<k+9:=by omega
          have g4: ¬i=J:=fun e=>f3 cF.length (by rw[e]);have g5: ¬i=R:=fun e=>f2 cu.length (by rw[e]);simp[aO,f1,g0,g1,g2,g3,g4,g5]
end Go.Proofs.YtejohpnpnaljdaaGreat
