/- part -/
import Derived.Test.YtdngefmliibcgaaGreatV16
set_option linter.all false
set_option maxRecDepth 20000
set_option maxHeartbeats 20000000
namespace Go.Proofs.YtdngefmliibcgaaGreat
open Go Go.Abs Go.Abs.kI Qf
variable  {k n n' c k' T c':Nat}{l:bY}{v vR vJ:V}{h h':bh}{f:FuncId}{S:St}{Q:Ex->St->Prop}{a0 a1 a2 a3 a4 a5 a6 d:Code}{p:Prog}{m:aO}{o:cU}{js dl:List Int}{rc:List Entry}
def af0(k:Nat)(l:List Int)(v:V)(h:bh)(n:Nat):Prop:=(l=[]/\v= .sl true [])\/(0<l.length/\ ∃id,k<=id/\id<n/\v= .cx id 0 l.length/\h id=some ⟨1,l.map (V.int .i64),false⟩)
def af0.mono{l:List Int}(H:af0 k l v h n)(hn:n<=n')(hh: ∀i,i<n->h' i=h i):af0 k l v h' n':=by
 rcases H with H|⟨h0,id,k1,k2,e,g⟩
 ·exact .inl H
 ·exact .inr ⟨h0,id,k1,by omega,e,by rw[hh _ k2,g]⟩
@[simp]def Xwq(l:List Thread)(k:Nat)(hl:l.length=4): ∃v h' k',cL X 135 [l] pK k=some (v,h',k')/\af0 k (la l 4) v h' k'/\k<=k':=by
 refine aaB ?_;simp[hl];refine lW (fun i S=>(S.f 6=l/\S.f 7= .int .i64 4/\S.f 8= .int .i64 i)/\af0 k (la l i) (S.f 3) S.h S.n/\k<=S.n) 4 ?_ 0 (by omega) ?_
 ·rintro i S hi ⟨⟨f6,f7,f8⟩,HO,hk⟩;by_cases h4:i<4
  case neg=>
   have h4i: ¬(i:Int)<4:=by omega
   have e4:i=4:=by omega
   subst e4;simp[f7,f8];exact⟨HO.mono (by omega) fun _ _=>rfl,by omega⟩
  have h4i:(i:Int)<4:=by omega
  have Fg:i<l.length:=by omega
  have hw:IntKind.i64.wrap ((i:Int)+1)=i+1:=wrap_i64 (by omega);obtain⟨⟨st,rg,pc,co,ha,sa,tr,cd⟩,pH⟩: ∃x,l[i]=x:=⟨_,rfl⟩;by_cases hs:st=1
  case neg=>
   have lu:=RV Fg (by rw[pH];exact hs);simp[f6,f7,f8,h4,h4i,hl,pH,Thread.bS,hs,hw,lu];exact⟨HO.mono (by omega) fun j hj=>by rw[aR,if_neg (by omega),aR,if_neg (by omega)],by omega⟩
  have lu:=NR Fg (by rw[pH];exact hs);have oG:=eq_true hs;rcases HO with⟨h0,f3⟩|⟨h0,id,k1,k2,f3,fa⟩
  ·simp[f3,f6,f7,f8,h4,h4i,hl,pH,Thread.bS,oG,hw,lu];refine⟨.inr ⟨by simp,_,?_,?_,by rw[h0];rfl,by simp[aR,h0]⟩,by omega⟩
   ·omega
   ·omega
  ·have Pt:=DO l i;obtain⟨q,hq⟩: ∃q,la l i=q:=⟨_,rfl⟩;rw[hq]at h0 f3 fa lu Pt;have i1: ¬id=S.n+1+3:=by omega
   simp[f3,f6,f7,f8,h4,h4i,hl,pH,Thread.bS,oG,hw,lu,fa,i1];refine⟨⟨by omega,by omega⟩,fun _ _=>⟨.inr ⟨by simp,_,?_,?_,by simp;rfl,by simp[aR]⟩,by omega⟩⟩
   ·omega
   ·omega
 ·simp;exact⟨.inl ⟨rfl,rfl⟩,by omega⟩
def aqu(h:bh)(k:Nat)(l:List Entry)(v:V):Prop:=v= .sl false (l.map Entry.e)\/ ∃R es,R<k/\v= .cx R 0 l.length/\h R=some ⟨18,es,false⟩/\es=l.map Entry.e
def aqv(h:bh)(k:Nat)(l:List Int)(v:V):Prop:=v= .sl false (l.map (V.int .i64))\/ ∃R,R<k/\v= .cx R 0 l.length/\h R=some ⟨1,l.map (V.int .i64),false⟩
def bc1(Mid:St->Prop)(h1: ∀S,Mid S->Wp X f d S Q)(h2: ∀b:Code,(∀S,Mid S->Wp X f b S Q)->Wp X f (a0.seq (a1.seq (a2.seq (a3.seq (a4.seq (a5.seq (a6.seq b))))))) S Q):Wp X f (a0.seq (a1.seq (a2.seq (a3.seq (a4.seq (a5.seq (a6.seq d))))))) S Q:=h2 d h1
def bc2(Mid:St->Prop)(h1: ∀S,Mid S->Wp X f d S Q)(h2: ∀b:Code,(∀S,Mid S->Wp X f b S Q)->Wp X f (a0.seq (a1.seq (a2.seq (a3.seq b)))) S Q):Wp X f (a0.seq (a1.seq (a2.seq (a3.seq d)))) S Q:=h2 d h1
def IZ:V:= .agg [.sl true [],.sl true [],.sl true [],.sl true [],.int .u16 0,.sl true [],.sl true [],.sl true [],.sl true [],.sl true [],.sl true [],.sl true [],.sl true [],.sl true [],.sl true [],.sl true [],.sl true [],.sl true []]
def bc3(p:Prog)(m:aO)(o:cU)(l:bY)(rc:List Entry)(js:List Int)(h:bh)(k:Nat)(F:Nat->Prop)(ch:V)(t:Nat)(n:Int)(S:St):Prop:=
 ∃B R J,(S.f 3= .ptr (k+1) 0 0/\S.f 4= .ptr (k+2) 0 0/\S.f 7= .int .i64 t/\S.f 8= .int .i64 n/\S.f 9= .ptr B 0 0)/\(S.h (k+1)=some ⟨3,[ch],true⟩/\S.h (k+2)=some ⟨18,[IZ],true⟩/\
  S.h B=some ⟨18,[.agg [.sl false (p.code.map Instr.e),.sl false (p.an.map (V.int .i64)),.sl false (p.data.map aV),.sl false (m.layout.aD.map (V.int .i64)),.int .u16 m.layout.key,.sl false (m.memory.cells.map Cell.e),.sl false (m.memory.lines.map cw.e),.sl false (m.threads.map Thread.e),.sl false (o.clock.map (V.int .u16)),.sl false (o.random.map (V.int .u16)),.sl false (o.dw.map aV),.sl false (o.files.data.map bz),.sl false (o.files.opens.map fQ.e),.sl false (o.dH.map Output.e),.sl false (l.owner.map (V.int .i64)),.sl false (l.queue.map de),.cx R 0 rc.length,.cx J 0 js.length]],true⟩/\
  S.h R=some ⟨18,rc.map Entry.e,false⟩/\S.h J=some ⟨1,js.map (V.int .i64),false⟩)/\(k+2<B/\B<S.n/\k+2<R/\R<S.n/\k+2<J/\J<S.n/\B≠R/\B≠J/\R≠J)/\ ∀i,i<k->F i->S.h i=h i
abbrev RS:=aO×cU×bY×List Int×List Entry
def avc(t:Nat)(n:Int)(q:Request):Entry:=⟨1,t,n,q,⟨⟨0,0,0,0⟩,[],0,false⟩⟩
def bc4(t:Nat):Entry:=⟨3,t,0,⟨0,0,0,0,0,0,[],[]⟩,⟨⟨0,0,0,0⟩,[],0,false⟩⟩
noncomputable def Dl(p:Prog)(s:RS)(q:Request):RS:=if q.stop=1 then zr p s.1 s.2.1 s.2.2.1 s.2.2.2.1 s.2.2.2.2 q else s
def Kn(p:Prog)(s:RS)(t:Nat):RS:=if(bV s.1 t).state=4 then SS p s.1 s.2.1 s.2.2.1 s.2.2.2.1 s.2.2.2.2 t else s
noncomputable def O0(p:Prog)(m:aO)(o:cU)(l:bY)(js:List Int)(rc:List Entry)(t:Nat)(n:Int):RS:=Kn p (Dl p ((gN p m t n).1,o,l,js,rc++ [avc t n (gN p m t n).2.1]) (gN p m t n).2.1) t
noncomputable def Ko(p:Prog)(m:aO)(o:cU)(l:bY)(js:List Int)(rc:List Entry)(t:Nat)(n:Int)(sg:Bool):RS:=
 if sg=true/\Gt (bV m t)=true then O0 p (zg m t) o l js (rc++ [bc4 t]) t n else O0 p m o l js rc t n
noncomputable def O2(p:Prog)(m:aO)(o:cU)(l:bY)(js:List Int)(rc:List Entry)(ct cb:Int)(sg:Bool):Option RS:=
 if(la m.threads 4).length=0\/192<rc.length then none else some (Ko p m o l js rc ((la m.threads 4).getD (ct % (la m.threads 4).length).toNat 0).toNat (1+cb % 64) sg)
def Xx(p:Prog)(m:aO)(o:cU)(l:bY)(js:List Int)(rc:List Entry)(q:Request):(zr p m o l js rc q).2.2.2.2.length<=rc.length+2:=by
 unfold zr;generalize (if q.call=9 then(gd l (eY q 0) q.dd).2.1 else-1)=own;unfold OV;split<;>(simp only[aaY,abP,acP];omega)
def O3(p:Prog)(m:aO)(o:cU)(hl:jR l)(js:List Int)(rc:List Entry)(t:Nat):(SS p m o l js rc t).2.2.2.2.length<=rc.length+8:=by
 unfold SS;have h1:=Bf p t (l7 p (m,rc) (iM l t 4).2,js) 4;have h2:=xz p (m,rc) (iM l t 4).2;have h3:=zt hl t 4;simp only at h1 h2⊢;omega
def bc5(p:Prog)(d:Int)(lay:Layout)(o:cU)(l:bY)(js:List Int)(h:bh)(k:Nat)(F:Nat->Prop)(t:Nat)(rs:RS)(S:St):Prop:=
 ∃(B R J T D:Nat) (m:aO) (q:Request) (rc:List Entry) (es:List V),(S.f 4= .ptr (k+2) 0 0/\S.f 7= .int .i64 t/\S.f 9= .ptr B 0 0/\S.f 11= .ptr D 0 0)/\(S.h (k+2)=some ⟨18,[IZ],true⟩/\S.h D=some ⟨8,[Request.e q],true⟩/\
  S.h B=some ⟨18,[Ad p (.sl false (m.layout.aD.map (V.int .i64))) m.layout.key (.sl false (m.memory.cells.map Cell.e)) (.sl false (m.memory.lines.map cw.e)) T o l R rc.length J],true⟩/\
  S.h T=some ⟨8,m.threads.map Thread.e,false⟩/\S.h R=some ⟨18,es,false⟩/\S.h J=some ⟨1,js.map (V.int .i64),false⟩)/\
  (k+2<B/\B<S.n/\k+2<R/\R<S.n/\k+2<J/\J<S.n/\k+2<T/\T<S.n/\k+2<D/\D<S.n)/\(B≠R/\B≠J/\R≠J/\B≠T/\R≠T/\J≠T/\D≠B/\D≠R/\D≠J/\D≠T)/\(∀i,i<k->F i->S.h i=h i)/\cT p (d+64) m/\m.layout=lay/\q.dd=t/\Sv q/\rc.length<=200/\es=rc.map Entry.e/\Kn p (Dl p (m,o,l,js,rc) q) t=rs
def aqw(p:Prog)(d:Int)(nx:Option RS)(lay:Layout)(h:bh)(k:Nat)(F:Nat->Prop)(v:V)(h':bh)(k':Nat):Prop:=
 k<=k'/\(∀i,i<k->F i->h' i=h i)/\((nx=none/\ ∃e,(e=15\/e=3)/\v= .dP [IZ,.int .i64 e]/\ ∀i,i<k->h' i=h i)\/
  ∃(m:aO) (o:cU) (l:bY) (js:List Int) (rc:List Entry) (T R J:Nat) (es:List V),nx=some (m,o,l,js,rc)/\v= .dP [Ad p (.sl false (m.layout.aD.map (V.int .i64))) m.layout.key (.sl false (m.memory.cells.map Cell.e)) (.sl false (m.memory.lines.map cw.e)) T o l R rc.length J,.int .i64 0]/\
   (h' T=some ⟨8,m.threads.map Thread.e,false⟩/\h' R=some ⟨18,es,false⟩/\h' J=some ⟨1,js.map (V.int .i64),false⟩)/\(k<=T/\T<k'/\k<=R/\R<k'/\k<=J/\J<k'/\T≠R/\T≠J/\R≠J)/\cT p (d+64) m/\m.layout=lay/\um o/\jR l/\js.length=4/\rc.length<=300/\es=rc.map Entry.e)
@[simp]def avd(aP:List Instr)(aN:List Int)(aQ:List (List Int))(aE:List Int)(aG:Int)(aJ:List Cell)(aK:List cw)(az:List Thread)(bk aX:List Int)(aY:List (List Int))(aM:List (List Canon))(aH:List fQ)(aS:List Output)(bD:List Int)(bE:List (List Int))(cC:List Entry)(cz:List Int)(uv qA:Int)(uw:Bool)(h:bh)(k T:Nat)(vR vJ:V)(F:Nat->Prop)(d:Int)(hT:T<k/\h T=some ⟨8,az.map Thread.e,false⟩)(hR:aqu h k cC vR)(hJ:aqv h k cz vJ)(HG:cT ⟨aP,aN,aQ⟩ d ⟨⟨aE,aG⟩,⟨aJ,aK⟩,az⟩)(hd:d+64<=1099511627776)(ho:um ⟨bk,aX,aY,⟨aM,aH⟩,aS⟩)(hl:jR ⟨bD,bE⟩)(hj:cz.length=4)(hF: ∀i,F i->i≠T/\(∀n,vR≠ .cx i 0 n)/\(∀n,vJ≠ .cx i 0 n))(hA:(∀n,vR≠ .cx T 0 n)/\(∀n,vJ≠ .cx T 0 n)/\ ∀i n m,vR= .cx i 0 n->vJ≠ .cx i 0 m)(hrc:cC.length<=900000): ∃v h' k',cL X 67 [.agg [aP,aN,aQ,aE,.int .u16 aG,aJ,aK,.cx T 0 4,.sl false (bk.map (V.int .u16)),.sl false (aX.map (V.int .u16)),aY,aM,aH,aS,bD,.sl false (bE.map de),vR,vJ],.agg [uv,qA,uw]] h k=some (v,h',k')/\aqw ⟨aP,aN,aQ⟩ d (O2 ⟨aP,aN,aQ⟩ ⟨⟨aE,aG⟩,⟨aJ,aK⟩,az⟩ ⟨bk,aX,aY,⟨aM,aH⟩,aS⟩ ⟨bD,bE⟩ cz cC uv qA uw) ⟨aE,aG⟩ h k F v h' k':=by
  have qP:az.length=4:=HG.len;obtain⟨hTk,hTr⟩:=hT;have nT0: ¬T=k:=by omega
  have btk: ¬k=T:=by omega
  have tG: ∀(f:Thread->V),List.take 4 (az.map f)=az.map f:=fun f=>aZ (by simp;omega);have Ss: ∀(f:Thread->Option V),List.take 4 (az.map f)=az.map f:=fun f=>aZ (by simp;omega);have nT: ∀j,¬T=k+j:=fun j=>by omega
  have nT': ∀j,¬k+j=T:=fun j=>by omega
  have lR:E7 vR=some cC.length:=by
    rcases hR with e|⟨R,_,_,e,_⟩
    · rw[e];simp[E7]
    · rw[e];rfl
  have sR:vR.isStr=false:=by
    rcases hR with e|⟨R,_,_,e,_⟩
    · rw[e];rfl
    · rw[e];rfl
  obtain⟨v1,h1,k1,eR,OR,EG⟩:=Xwq az (k+9) qP;refine aaB ?_;rcases OR with⟨r0,rfl⟩|⟨r0,id,i1,i2,rfl,i3⟩
  · simp[aaE,hTr,qP,nT0,nT,tG,eR]
    refine⟨rfl,fun _=>⟨by omega,fun i hi _=> ?_,.inl ⟨if_pos (.inl (by rw[r0];rfl)),15,.inl rfl,rfl,fun i hi=> ?_⟩⟩⟩;all_goals
      have g0: ¬i=k:=by omega
      have g1: ∀j,¬i=k+j:=fun j=>by omega
      have g3:i<k+9:=by omega
      simp[aR,g0,g1,g3]
  · obtain⟨q,hq⟩: ∃q,la az 4=q:=⟨_,rfl⟩
    have Tu:=DO az 4;have wL:=fun i (h:i<(la az 4).length)=>Sx h;rw[hq]at r0 i3 Tu eR;have r0i:0<(q.length:Int):=by omega
    have r0n: ¬(q.length:Int)=0:=by omega
    have r0m: ¬q.length=0:=by omega
    have d1: ¬id<k+9:=by omega
    have d2: ∀j,j<9-> ¬id=k+j:=fun j hj=>by omega
    have P4:kO (some ⟨1,q.map (V.int .i64),false⟩)=some ⟨1,q.map (V.int .i64),false⟩:=by unfold kO;simp only[Ub,if_true]
    by_cases bc6:cC.length<=192
    case neg=>
      have Kp:192<(cC.length:Int):=by omega
      simp[sR,lR,Kp,aaE,hTr,qP,nT0,nT,tG,eR,G8,r0m];refine⟨by omega,fun i hi _=> ?_,.inl ⟨if_pos (.inr (by omega)),3,.inr rfl,rfl,fun i hi=> ?_⟩⟩;all_goals
        have g0: ¬i=k:=by omega
        have g1: ∀j,¬i=k+j:=fun j=>by omega
        have g3:i<k+9:=by omega
        simp[aR,g0,g1,g3]
    have Kp: ¬192<(cC.length:Int):=by omega
    have m0:=acD uv (show(q.length:Int)≠0 by omega);have m1:=abW uv r0i;obtain⟨x,hx⟩:=aaG m0;have xl:x<q.length:=by omega
    have xli:(x:Int)<q.length:=by omega
    have hmo:=DK uv q.length (by omega);rw[hx]at hmo;have n0:=acD qA (show(64:Int)≠0 by omega);have n1:=abW qA (show(0:Int)<64 by omega);obtain⟨y,hy⟩:=aaG n0;have hmb:=DK qA 64 (by omega);rw[hy]at hmb;have qK:IntKind.i64.wrap (1+(y:Int))=1+(y:Int):=wrap_i64 (by omega);obtain⟨n,hn⟩: ∃n:Int,1+(y:Int)=n:=⟨_,rfl⟩;rw[hn]at qK;have hqx: ∃t:Nat,t<4/\q[x]=(t:Int)/\(az.getD t cn).state=1:=by
      subst hq;exact wL x xl
    obtain⟨t,t4,hqt,kH⟩:=hqx;have t4i:(t:Int)<4:=by omega
    have tml:t<az.length:=by omega
    have Uc:=ae1 aP aN aQ aE aG aJ aK az bk aX aY aM aH aS bD bE cC cz (by omega) (by omega);have IM:=yQ aE aG aJ aK az t ⟨by omega,by omega⟩ qP;rw[aaH]at IM;have hnx:O2 ⟨aP,aN,aQ⟩ ⟨⟨aE,aG⟩,⟨aJ,aK⟩,az⟩ ⟨bk,aX,aY,⟨aM,aH⟩,aS⟩ ⟨bD,bE⟩ cz cC uv qA uw=some (Ko ⟨aP,aN,aQ⟩ ⟨⟨aE,aG⟩,⟨aJ,aK⟩,az⟩ ⟨bk,aX,aY,⟨aM,aH⟩,aS⟩ ⟨bD,bE⟩ cz cC t n uw):=by
      unfold O2;simp only[hq];rw[if_neg (by omega),hx,hy,hn,aaH,show q.getD x 0=(t:Int) by simp[List.getD,xl,hqt],aaH]
    rw[hnx];refine bc1 (bc3 ⟨aP,aN,aQ⟩ ⟨⟨aE,aG⟩,⟨aJ,aK⟩,az⟩ ⟨bk,aX,aY,⟨aM,aH⟩,aS⟩ ⟨bD,bE⟩ cC cz h k F (.agg [.int .i64 uv,.int .i64 qA,.bool uw]) t n) ?_ ?_
    case refine_1=>
      rintro⟨sf,sh,sn⟩ ⟨B,R,J,⟨f3,f4,f7,f8,f9⟩,⟨g1,g2,gB,gR,gJ⟩,⟨b1,b2,b3,b4,b5,b6,b7,b8,b9⟩,nU⟩;clear eR i3 wL P4 hR hJ lR sR;simp only at f3 f4 f7 f8 f9 g1 g2 gB gR gJ b2 b4 b6 nU;refine bc2 (bc5 ⟨aP,aN,aQ⟩ d ⟨aE,aG⟩ ⟨bk,aX,aY,⟨aM,aH⟩,aS⟩ ⟨bD,bE⟩ cz h k F t (Ko ⟨aP,aN,aQ⟩ ⟨⟨aE,aG⟩,⟨aJ,aK⟩,az⟩ ⟨bk,aX,aY,⟨aM,aH⟩,aS⟩ ⟨bD,bE⟩ cz cC t n uw)) ?_ ?_
      case refine_1=>
        clear gB gR gJ b1 b2 b3 b4 b5 b6 b7 b8 b9 nU f3 f4 f7 f8 f9 g1 g2 Uc;rintro⟨sf,sh,sn⟩ ⟨B,R,J,T1,D,⟨⟨Mc,Md⟩,⟨O4,Kq⟩,wP⟩,⟨qa,qb,qc,qd,qe,qf,qg,qh⟩,rc1,es,⟨f4,f7,f9,f11⟩,⟨g2,gD,gB,gT,gR,gJ⟩,⟨b1,b2,b3,b4,b5,b6,b7,b8,b9,b10⟩,⟨c1,c2,c3,c4,c5,c6,c7,c8,c9,CY⟩,nU,Xy,qk,hqt,QG,bto,Jm,B9⟩;simp only at f4 f7 f9 f11 g2 gD gB gT gR gJ b2 b4 b6 b8 b10 nU qk hqt;obtain⟨k2,yc⟩: ∃c,k+2=c:=⟨_,rfl⟩;rw[yc]at f4 g2;have I3:wP.length=4:=Xy.len;have Xz: ∀(f:Thread->V),List.take 4 (wP.map f)=wP.map f:=fun f=>aZ (by simp;omega);have avf: ∀(f:Thread->Option V),List.take 4 (wP.map f)=wP.map f:=fun f=>aZ (by simp;omega);have jkf: ∀(f:Int->V),List.take 4 (cz.map f)=cz.map f:=fun f=>aZ (by simp;omega);subst Jm;have bc7:t<wP.length:=by omega
        have a3w:bV ⟨⟨Mc,Md⟩,⟨O4,Kq⟩,wP⟩ t=wP[t]:=iq bc7;unfold Ad at gB;unfold IZ at g2;have n2: ∀j,¬k2=sn+j:=fun j=>by omega
        have O5: ∀j,¬sn+j=k2:=fun j=>by omega
        have nB: ∀j,¬B=sn+j:=fun j=>by omega
        have nR: ∀j,¬R=sn+j:=fun j=>by omega
        have nJ: ∀j,¬J=sn+j:=fun j=>by omega
        have nT: ∀j,¬T1=sn+j:=fun j=>by omega
        have nD: ∀j,¬D=sn+j:=fun j=>by omega
        have Ut: ∀j,¬sn+j=B:=fun j=>by omega
        have nR': ∀j,¬sn+j=R:=fun j=>by omega
        have nJ': ∀j,¬sn+j=J:=fun j=>by omega
        have nT': ∀j,¬sn+j=T1:=fun j=>by omega
        have e1: ¬k2=B:=by omega
        have e2: ¬T1=k2:=by omega
        have e3: ¬R=k2:=by omega
        have e4: ¬J=k2:=by omega
        have e5: ¬k2=T1:=by omega
        have e6: ¬k2=R:=by omega
        have e7: ¬k2=J:=by omega
        have e8: ¬B=k2:=by omega
        have x1: ¬R=B:=fun e=>c1 e.symm;have x2: ¬J=B:=fun e=>c2 e.symm;have x3: ¬J=R:=fun e=>c3 e.symm;have x4: ¬T1=B:=fun e=>c4 e.symm;have x5: ¬T1=R:=fun e=>c5 e.symm;have x6: ¬T1=J:=fun e=>c6 e.symm;by_cases qQ:qb=1
        case neg=>
          by_cases Yn:(wP[t]).state=4
          case neg=>
            simp[f4,f7,f9,f11,g2,gD,gB,gT,I3,t4,t4i,Request.bS,qQ,Yn];refine⟨by omega,fun i hi I4=> ?_,.inr ⟨⟨⟨Mc,Md⟩,⟨O4,Kq⟩,wP⟩,⟨bk,aX,aY,⟨aM,aH⟩,aS⟩,⟨bD,bE⟩,cz,rc1,T1,R,J,_,by rw[<-B9];unfold Dl;rw[if_neg qQ];unfold Kn;rw[if_neg (by simp only[a3w];exact Yn)],rfl,⟨?_,?_,?_⟩,⟨by omega,by omega,by omega,by omega,by omega,by omega,x5,x6,c3⟩,Xy,qk,ho,hl,hj,by omega,rfl⟩⟩
            · have w1: ¬i=k2:=by omega
              simp only[aR,w1,if_false];exact nU i hi I4
            · simp only[aR,e2,if_false]
              exact gT
            · simp only[aR,e3,if_false]
              exact gR
            · simp only[aR,e4,if_false]
              exact gJ
          obtain⟨m3,o3,l3,js3,rc3,hen,MG3,hl3,ho3,avg,hj3,Yw⟩:=Us aP aN aQ Mc Md O4 Kq wP bk aX aY aM aH aS bD bE rc1 cz t (d+64) Xy (by omega) ho hl hj (by omega) ⟨by omega,t4i⟩;rw[aaH]at Yw;have YG:=O3 ⟨aP,aN,aQ⟩ ⟨⟨Mc,Md⟩,⟨O4,Kq⟩,wP⟩ ⟨bk,aX,aY,⟨aM,aH⟩,aS⟩ hl cz rc1 t;rw[Yw]at YG;simp only at YG;have avh:=eq_true Yn;have avi:m3.threads.length=4:=MG3.len;simp[f4,f7,f9,f11,g2,gD,gB,gT,gR,gJ,I3,Xz,jkf,A8,t4,t4i,Request.bS,lb,qQ,avh,hj,aaE,hen,avi,hj3,x1,x2,x4,c3,c5,c6,nB,n2,e1,e5,e6,e7];refine⟨by omega,fun i hi I4=> ?_,.inr ⟨m3,o3,l3,js3,rc3,sn+15,sn+13,sn+14,_,by rw[<-B9];unfold Dl;rw[if_neg qQ];unfold Kn;rw[if_pos (by simp only[a3w];exact Yn)];exact congrArg some Yw,rfl,⟨?_,?_,?_⟩,⟨by omega,by omega,by omega,by omega,by omega,by omega,by omega,by omega,by omega⟩,MG3,hl3.trans qk,ho3,avg,hj3,by omega,rfl⟩⟩
          · have w1: ¬i=k2:=by omega
            have w2: ∀j,¬i=sn+j:=fun j=>by omega
            have w3: ¬i=B:=by omega
            have w4: ¬i=R:=by omega
            have w5: ¬i=J:=by omega
            have w6: ¬i=T1:=by omega
            simp only[aR,w1,w2,w3,w4,w5,w6,if_false];exact nU i hi I4
          · simp[aR,O5]
          · simp[aR,O5]
          · simp[aR,O5]
        have a3y:=eq_true qQ;obtain⟨⟨⟨mb2,mk2⟩,⟨mc2,ml2⟩,Me⟩,⟨Uj,Uk,Ul,⟨Um,Un⟩,Uo⟩,⟨IT,IU⟩,wH,PE,pS,MG2,ya,Lc,af2,yb,hcx⟩:=afz aP aN aQ Mc Md O4 Kq wP bk aX aY aM aH aS bD bE rc1 cz qa qb qc qd qe qf qg qh (d+64) Xy (by omega) ho hl hj (by omega) ⟨by omega,by omega⟩ QG.args QG.data QG.one QG.av QG.dv;simp only at pS ya;have Pq:=Xx ⟨aP,aN,aQ⟩ ⟨⟨Mc,Md⟩,⟨O4,Kq⟩,wP⟩ ⟨bk,aX,aY,⟨aM,aH⟩,aS⟩ ⟨bD,bE⟩ cz rc1 ⟨qa,qb,qc,qd,qe,qf,qg,qh⟩;rw[hcx]at Pq;simp only at Pq;have af3:Me.length=4:=MG2.len;have bda:t<Me.length:=by omega
        have a30:bV ⟨⟨mb2,mk2⟩,⟨mc2,ml2⟩,Me⟩ t=Me[t]:=iq bda;have Lw: ∀(f:Thread->V),List.take 4 (Me.map f)=Me.map f:=fun f=>aZ (by simp;omega);have alx: ∀(f:Thread->Option V),List.take 4 (Me.map f)=Me.map f:=fun f=>aZ (by simp;omega);have bdb: ∀(f:Int->V),List.take 4 (wH.map f)=wH.map f:=fun f=>aZ (by simp;omega);by_cases Yn:(Me[t]).state=4
        case neg=>
          simp[f4,f7,f9,f11,g2,gD,gB,gT,gR,gJ,I3,Xz,jkf,A8,t4,t4i,Request.bS,lb,a3y,Yn,hj,aaE,pS,af3,yb,x1,x2,x4,c3,c5,c6,nB,n2,e1,e5,e6,e7];refine⟨by omega,fun i hi I4=> ?_,.inr ⟨⟨⟨mb2,mk2⟩,⟨mc2,ml2⟩,Me⟩,⟨Uj,Uk,Ul,⟨Um,Un⟩,Uo⟩,⟨IT,IU⟩,wH,PE,sn+7,sn+5,sn+6,_,by rw[<-B9];unfold Dl;rw[if_pos qQ];simp only[hcx];unfold Kn;rw[if_neg (by simp only[a30];exact Yn)],rfl,⟨?_,?_,?_⟩,⟨by omega,by omega,by omega,by omega,by omega,by omega,by omega,by omega,by omega⟩,MG2,ya.trans qk,Lc,af2,yb,by omega,rfl⟩⟩
          · have w1: ¬i=k2:=by omega
            have w2: ∀j,¬i=sn+j:=fun j=>by omega
            have w3: ¬i=B:=by omega
            have w4: ¬i=R:=by omega
            have w5: ¬i=J:=by omega
            have w6: ¬i=T1:=by omega
            simp only[aR,w1,w2,w3,w4,w5,w6,if_false];exact nU i hi I4
          · simp[aR,O5]
          · simp[aR,O5]
          · simp[aR,O5]
        obtain⟨m3,o3,l3,js3,rc3,hen,MG3,hl3,ho3,avg,hj3,Yw⟩:=Us aP aN aQ mb2 mk2 mc2 ml2 Me Uj Uk Ul Um Un Uo IT IU PE wH t (d+64) MG2 (by omega) Lc af2 yb (by omega) ⟨by omega,t4i⟩;rw[aaH]at Yw;have YG:=O3 ⟨aP,aN,aQ⟩ ⟨⟨mb2,mk2⟩,⟨mc2,ml2⟩,Me⟩ ⟨Uj,Uk,Ul,⟨Um,Un⟩,Uo⟩ af2 wH PE t;rw[Yw]at YG;simp only at YG;have avh:=eq_true Yn;have avi:m3.threads.length=4:=MG3.len;simp[f4,f7,f9,f11,g2,gD,gB,gT,gR,gJ,I3,Xz,jkf,A8,t4,t4i,Request.bS,lb,a3y,avh,hj,aaE,pS,af3,Lw,bdb,yb,hen,avi,hj3,x1,x2,x4,c3,c5,c6,nB,Ut,n2,e1,e5,e6,e7];refine⟨by omega,fun i hi I4=> ?_,.inr ⟨m3,o3,l3,js3,rc3,sn+20,sn+18,sn+19,_,by rw[<-B9];unfold Dl;rw[if_pos qQ];simp only[hcx];unfold Kn;rw[if_pos (by simp only[a30];exact Yn)];exact congrArg some Yw,rfl,⟨?_,?_,?_⟩,⟨by omega,by omega,by omega,by omega,by omega,by omega,by omega,by omega,by omega⟩,MG3,hl3.trans (ya.trans qk),ho3,avg,hj3,by omega,rfl⟩⟩
        · have w1: ¬i=k2:=by omega
          have w2: ∀j,¬i=sn+j:=fun j=>by omega
          have w3: ¬i=B:=by omega
          have w4: ¬i=R:=by omega
          have w5: ¬i=J:=by omega
          have w6: ¬i=T1:=by omega
          simp only[aR,w1,w2,w3,w4,w5,w6,if_false];exact nU i hi I4
        · simp[aR,O5]
        · simp[aR,O5]
        · simp[aR,O5]
      intro bb Hb;obtain⟨c1,EK⟩: ∃c,k+1=c:=⟨_,rfl⟩;obtain⟨c2,En⟩: ∃c,k+2=c:=⟨_,rfl⟩;rw[EK]at f3 g1;rw[En]at f4 g2;have nB: ∀j,¬B=sn+j:=fun j=>by omega
      have nR: ∀j,¬R=sn+j:=fun j=>by omega
      have nJ: ∀j,¬J=sn+j:=fun j=>by omega
      have n1: ∀j,¬c1=sn+j:=fun j=>by omega
      have n2: ∀j,¬c2=sn+j:=fun j=>by omega
      have Ut: ∀j,¬sn+j=B:=fun j=>by omega
      have nR': ∀j,¬sn+j=R:=fun j=>by omega
      have q1: ¬c1=B:=by omega
      have q2: ¬c1=R:=by omega
      have q3: ¬c2=B:=by omega
      have q4: ¬c2=R:=by omega
      have q5: ¬J=B:=by omega
      have q6: ¬J=R:=by omega
      have q7: ¬R=B:=by omega
      have IM:=yQ aE aG aJ aK az t ⟨by omega,by omega⟩ qP;rw[aaH]at IM;have qH:(cC.length:Int)<=192:=by omega
      have pV:cC.length<=192:=bc6;cases uw with
      |false=>
        obtain⟨m1,qr,e1,Xy,Kq,qt1,QG1,qs1⟩:=B8 (m:=⟨⟨aE,aG⟩,⟨aJ,aK⟩,az⟩) (n:=n) HG hd t4 ⟨by omega,by omega⟩ kH;have L5:=Sr aP aN aQ aE aG aJ aK az t n HG.prog.lens HG.lens HG.R;rw[e1]at L5;obtain⟨⟨Mc,Md⟩,⟨O4,ml2⟩,wP⟩:=m1;obtain⟨qa,qb,qc,qd,qe,qf,qg,qh⟩:=qr;simp only at Kq qt1 qs1 L5;have I3:wP.length=4:=Xy.len;have Xz: ∀(f:Thread->V),List.take 4 (wP.map f)=wP.map f:=fun f=>aZ (by simp;omega);have avf: ∀(f:Thread->Option V),List.take 4 (wP.map f)=wP.map f:=fun f=>aZ (by simp;omega);simp[f3,f7,f8,f9,g1,gB,gR,nB,nR,Ut,q7,b7,aaE,I3,L5];refine⟨⟨by omega,by omega⟩,fun _ _=> ?_⟩;apply Hb;refine⟨B,sn+35,J,sn+24,sn+20,⟨⟨Mc,Md⟩,⟨O4,ml2⟩,wP⟩,⟨qa,qb,qc,qd,qe,qf,qg,qh⟩,cC++ [⟨1,t,n,⟨qa,qb,qc,qd,qe,qf,qg,qh⟩,⟨⟨0,0,0,0⟩,[],0,false⟩⟩],cC.map Entry.e++ [.agg [.int .i64 1,.int .i64 t,.int .i64 n,.int .i64 qa,.int .i64 qb,.int .i64 qc,.int .i64 qd,.int .i64 qe,.int .i64 qf,qg,qh,.int .u8 0,.int .u16 0,.int .i64 0,.int .i64 0,.sl false [],.int .i64 0,.bool false]],⟨by simp[aR,f4,En],by simp[aR,f7],by simp[aR,f9],by simp[aR]⟩,⟨?_,?_,?_,?_,?_,?_⟩,⟨by omega,by simp only;omega,by omega,by simp only;omega,by omega,by simp only;omega,by omega,by simp only;omega,by omega,by simp only;omega⟩,⟨by omega,by omega,by omega,by omega,by omega,by omega,by omega,by omega,by omega,by omega⟩,?_,Xy,Kq,qt1,QG1,?_,?_,by unfold Ko;rw[if_neg (by simp)];unfold O0;rw[e1];rfl⟩
        · rw[En]
          simp[aR,n2,q3,q4,g2]
        · simp[aR,Ut,nR']
          rfl
        · simp[aR,Ad,hj]
        · simp[aR,Ut,nR']
        · simp[aR,Ut]
        · simp[aR,nJ,q5,q6,gJ]
        · intro i hi I4
          have w1: ∀j,¬i=sn+j:=fun j=>by omega
          have w2: ¬i=B:=by omega
          have w3: ¬i=R:=by omega
          simp[aR,w1,w2,w3,nU i hi I4]
        · simp;omega
        · simp[Entry.bS]
      |true=>
        cases hct:Gt (az.getD t cn) with
        |false=>
         rw[hct]at IM;obtain⟨m1,qr,e1,Xy,Kq,qt1,QG1,qs1⟩:=B8 (m:=⟨⟨aE,aG⟩,⟨aJ,aK⟩,az⟩) (n:=n) HG hd t4 ⟨by omega,by omega⟩ kH;have L5:=Sr aP aN aQ aE aG aJ aK az t n HG.prog.lens HG.lens HG.R;rw[e1]at L5;obtain⟨⟨Mc,Md⟩,⟨O4,ml2⟩,wP⟩:=m1;obtain⟨qa,qb,qc,qd,qe,qf,qg,qh⟩:=qr;simp only at Kq qt1 qs1 L5;have I3:wP.length=4:=Xy.len;have Xz: ∀(f:Thread->V),List.take 4 (wP.map f)=wP.map f:=fun f=>aZ (by simp;omega);have avf: ∀(f:Thread->Option V),List.take 4 (wP.map f)=wP.map f:=fun f=>aZ (by simp;omega);simp[f3,f7,f8,f9,g1,gB,gR,nB,nR,Ut,q7,b7,aaE,I3,IM,L5];refine⟨⟨by omega,by omega⟩,fun _ _=> ?_⟩;apply Hb;refine⟨B,sn+35,J,sn+24,sn+20,⟨⟨Mc,Md⟩,⟨O4,ml2⟩,wP⟩,⟨qa,qb,qc,qd,qe,qf,qg,qh⟩,cC++ [⟨1,t,n,⟨qa,qb,qc,qd,qe,qf,qg,qh⟩,⟨⟨0,0,0,0⟩,[],0,false⟩⟩],cC.map Entry.e++ [.agg [.int .i64 1,.int .i64 t,.int .i64 n,.int .i64 qa,.int .i64 qb,.int .i64 qc,.int .i64 qd,.int .i64 qe,.int .i64 qf,qg,qh,.int .u8 0,.int .u16 0,.int .i64 0,.int .i64 0,.sl false [],.int .i64 0,.bool false]],⟨by simp[aR,f4,En],by simp[aR,f7],by simp[aR,f9],by simp[aR]⟩,⟨?_,?_,?_,?_,?_,?_⟩,⟨by omega,by simp only;omega,by omega,by simp only;omega,by omega,by simp only;omega,by omega,by simp only;omega,by omega,by simp only;omega⟩,⟨by omega,by omega,by omega,by omega,by omega,by omega,by omega,by omega,by omega,by omega⟩,?_,Xy,Kq,qt1,QG1,?_,?_,by unfold Ko;rw[if_neg (fun h=>by have h2:=h.2;rw[show bV ⟨⟨aE,aG⟩,⟨aJ,aK⟩,az⟩ t=az.getD t cn from rfl,hct]at h2;cases h2)];unfold O0;rw[e1];rfl⟩
         · rw[En]
           simp[aR,n2,q3,q4,g2]
         · simp[aR,Ut,nR']
           rfl
         · simp[aR,Ad,hj]
         · simp[aR,Ut,nR']
         · simp[aR,Ut]
         · simp[aR,nJ,q5,q6,gJ]
         · intro i hi I4
           have w1: ∀j,¬i=sn+j:=fun j=>by omega
           have w2: ¬i=B:=by omega
           have w3: ¬i=R:=by omega
           simp[aR,w1,w2,w3,nU i hi I4]
         · simp;omega
         · simp[Entry.bS]
        |true=>
         rw[hct]at IM;have a33:Gt (bV ⟨⟨aE,aG⟩,⟨aJ,aK⟩,az⟩ t)=true:=hct;obtain⟨HG2,OW,Zw⟩:=al4 HG t4 a33;obtain⟨⟨st,rg,pc,co,ha,sa,tr,cd⟩,pH⟩: ∃x,bV ⟨⟨aE,aG⟩,⟨aJ,aK⟩,az⟩ t=x:=⟨_,rfl⟩;have hmm:zg ⟨⟨aE,aG⟩,⟨aJ,aK⟩,az⟩ t=⟨⟨aE,aG⟩,⟨aJ,aK⟩,az.set t ⟨st,rg,ha,co,ha,pc,tr,cd⟩⟩:=by unfold zg;rw[pH]
         have P3:=W6 aE aG aJ aK az t ⟨aP,aN,aQ⟩ d HG ⟨by omega,by omega⟩ (by rw[aaH];exact hct);rw[aaH,hmm]at P3;simp only at P3;have avj:=HG2;rw[hmm]at avj;obtain⟨m1,qr,e1,Xy,Kq,qt1,QG1,qs1⟩:=B8 (m:=zg ⟨⟨aE,aG⟩,⟨aJ,aK⟩,az⟩ t) (n:=n) HG2 hd t4 ⟨by omega,by omega⟩ Zw;have L5:=Sr aP aN aQ aE aG aJ aK (az.set t ⟨st,rg,ha,co,ha,pc,tr,cd⟩) t n HG.prog.lens avj.lens avj.R;rw[<-hmm,e1]at L5;obtain⟨⟨Mc,Md⟩,⟨O4,ml2⟩,wP⟩:=m1;obtain⟨qa,qb,qc,qd,qe,qf,qg,qh⟩:=qr;simp only[hmm]at Kq qt1 qs1 L5;obtain⟨Me,af3⟩: ∃x,az.set t ⟨st,rg,ha,co,ha,pc,tr,cd⟩=x:=⟨_,rfl⟩;rw[af3]at L5 P3;have v8:Me.length=4:=by rw[<-af3];simp[qP]
         have Lw: ∀(f:Thread->V),List.take 4 (Me.map f)=Me.map f:=fun f=>aZ (by simp;omega);have alx: ∀(f:Thread->Option V),List.take 4 (Me.map f)=Me.map f:=fun f=>aZ (by simp;omega);have I3:wP.length=4:=Xy.len;have Xz: ∀(f:Thread->V),List.take 4 (wP.map f)=wP.map f:=fun f=>aZ (by simp;omega);have avf: ∀(f:Thread->Option V),List.take 4 (wP.map f)=wP.map f:=fun f=>aZ (by simp;omega);simp[f3,f7,f8,f9,g1,gB,gR,nB,nR,Ut,nR',q7,b7,aaE,I3,IM,P3,v8,Lw,L5];refine⟨⟨by omega,by omega⟩,fun _ _=>⟨⟨by omega,by omega⟩,fun _ _=> ?_⟩⟩;apply Hb;refine⟨B,sn+53,J,sn+42,sn+38,⟨⟨Mc,Md⟩,⟨O4,ml2⟩,wP⟩,⟨qa,qb,qc,qd,qe,qf,qg,qh⟩,cC++ [⟨3,t,0,⟨0,0,0,0,0,0,[],[]⟩,⟨⟨0,0,0,0⟩,[],0,false⟩⟩,⟨1,t,n,⟨qa,qb,qc,qd,qe,qf,qg,qh⟩,⟨⟨0,0,0,0⟩,[],0,false⟩⟩],cC.map Entry.e++ [Entry.e ⟨3,t,0,⟨0,0,0,0,0,0,[],[]⟩,⟨⟨0,0,0,0⟩,[],0,false⟩⟩,.agg [.int .i64 1,.int .i64 t,.int .i64 n,.int .i64 qa,.int .i64 qb,.int .i64 qc,.int .i64 qd,.int .i64 qe,.int .i64 qf,qg,qh,.int .u8 0,.int .u16 0,.int .i64 0,.int .i64 0,.sl false [],.int .i64 0,.bool false]],⟨by simp[aR,f4,En],by simp[aR,f7],by simp[aR,f9],by simp[aR]⟩,⟨?_,?_,?_,?_,?_,?_⟩,⟨by omega,by simp only;omega,by omega,by simp only;omega,by omega,by simp only;omega,by omega,by simp only;omega,by omega,by simp only;omega⟩,⟨by omega,by omega,by omega,by omega,by omega,by omega,by omega,by omega,by omega,by omega⟩,?_,Xy,Kq,qt1,QG1,?_,?_,by unfold Ko;rw[if_pos ⟨rfl,a33⟩];unfold O0;rw[e1,acC];rfl⟩
         · rw[En]
           simp[aR,n2,q3,q4,g2]
         · simp[aR,Ut]
           rfl
         · simp[aR,Ad,hj]
         · simp[aR,Ut]
         · simp[aR,Ut]
           rw[aZ (by simp)];simp[Entry.bS]
         · simp[aR,nJ,q5,q6,gJ]
         · intro i hi I4
           have w1: ∀j,¬i=sn+j:=fun j=>by omega
           have w2: ¬i=B:=by omega
           have w3: ¬i=R:=by omega
           simp[aR,w1,w2,w3,nU i hi I4]
         · simp;omega
         · simp[Entry.bS]
    intro bb Hb;have e0: ∀j,¬k=k1+j:=fun j=>by omega
    have e1: ∀j,¬k+1=k1+j:=fun j=>by omega
    have e2: ∀j,¬k+2=k1+j:=fun j=>by omega
    have T9:T<k+9:=by omega
    rcases hR with rfl|⟨R,es0,hRk,rfl,hRr,Jm⟩
    · rcases hJ with rfl|⟨J,hJk,rfl,hJr⟩
      · simp[Kp,P4,aaE,hTr,qP,nT0,nT,T9,tG,eR,G8,r0m,i3,d1,xl,xli,hmo,hmb,qK,hn,hqt,Uc]
        apply Hb;refine⟨k1+23,k1+25,k1+26,⟨by simp[aR],by simp[aR],by simp[aR],by simp[aR],by simp[aR]⟩,⟨?_,?_,?_,?_,?_⟩,⟨by omega,by simp only;omega,by omega,by simp only;omega,by omega,by simp only;omega,by omega,by omega,by omega⟩,fun i hi I4=> ?_⟩
        · simp[aR,e0,nT']
        · simp[aR,e0,nT']
          rfl
        · simp[aR,hj]
        · simp[aR]
        · simp[aR]
        · obtain⟨f1,f2,f3⟩:=hF i I4
          have g0: ¬i=k:=by omega
          have g1: ∀j,¬i=k+j:=fun j=>by omega
          have g2: ∀j,¬i=k1+j:=fun j=>by omega
          have g3:i<k+9:=by omega
          simp[aR,f1,g0,g1,g2,g3]
      · have TJ: ¬T=J:=fun e=>hA.2.1 cz.length (by rw[e])
        have JT: ¬J=T:=fun e=>TJ e.symm;have nJ: ∀j,¬J=k+j:=fun j=>by omega
        have nJ': ∀j,¬k+j=J:=fun j=>by omega
        have nJ0: ¬J=k:=by omega
        have bdd: ¬k=J:=by omega
        have J9:J<k+9:=by omega
        simp[Kp,P4,aaE,hTr,qP,nT0,nT,T9,tG,eR,G8,r0m,i3,d1,xl,xli,hmo,hmb,qK,hn,hqt,Uc,hJr,nJ,nJ0,J9,JT];apply Hb;refine⟨k1+23,k1+25,k1+26,⟨by simp[aR],by simp[aR],by simp[aR],by simp[aR],by simp[aR]⟩,⟨?_,?_,?_,?_,?_⟩,⟨by omega,by simp only;omega,by omega,by simp only;omega,by omega,by simp only;omega,by omega,by omega,by omega⟩,fun i hi I4=> ?_⟩
        · simp[aR,e0,nT',nJ']
        · simp[aR,e0,nT',nJ']
          rfl
        · simp[aR,hj]
        · simp[aR]
        · simp[aR]
        · obtain⟨f1,f2,f3⟩:=hF i I4
          have g0: ¬i=k:=by omega
          have g1: ∀j,¬i=k+j:=fun j=>by omega
          have g2: ∀j,¬i=k1+j:=fun j=>by omega
          have g3:i<k+9:=by omega
          have g4: ¬i=J:=fun e=>f3 cz.length (by rw[e]);simp[aR,f1,g0,g1,g2,g3,g4]
    · subst Jm
      have TR: ¬T=R:=fun e=>hA.1 cC.length (by rw[e]);have RT: ¬R=T:=fun e=>TR e.symm;have nR: ∀j,¬R=k+j:=fun j=>by omega
      have nR': ∀j,¬k+j=R:=fun j=>by omega
      have nR0: ¬R=k:=by omega
      have btq: ¬k=R:=by omega
      have R9:R<k+9:=by omega
      rcases hJ with rfl|⟨J,hJk,rfl,hJr⟩
      · simp[Kp,P4,aaE,hTr,qP,nT0,nT,T9,tG,eR,G8,r0m,i3,d1,xl,xli,hmo,hmb,qK,hn,hqt,Uc,hRr,nR,nR0,R9,RT]
        apply Hb;refine⟨k1+23,k1+25,k1+26,⟨by simp[aR],by simp[aR],by simp[aR],by simp[aR],by simp[aR]⟩,⟨?_,?_,?_,?_,?_⟩,⟨by omega,by simp only;omega,by omega,by simp only;omega,by omega,by simp only;omega,by omega,by omega,by omega⟩,fun i hi I4=> ?_⟩
        · simp[aR,e0,nT',nR']
        · simp[aR,e0,nT',nR']
          rfl
        · simp[aR,hj]
        · simp[aR]
        · simp[aR]
        · obtain⟨f1,f2,f3⟩:=hF i I4
          have g0: ¬i=k:=by omega
          have g1: ∀j,¬i=k+j:=fun j=>by omega
          have g2: ∀j,¬i=k1+j:=fun j=>by omega
          have g3:i<k+9:=by omega
          have g5: ¬i=R:=fun e=>f2 cC.length (by rw[e]);simp[aR,f1,g0,g1,g2,g3,g5]
      · have TJ: ¬T=J:=fun e=>hA.2.1 cz.length (by rw[e])
        have JT: ¬J=T:=fun e=>TJ e.symm;have RJ: ¬R=J:=fun e=>hA.2.2 R cC.length cz.length rfl (by rw[e]);have JR: ¬J=R:=fun e=>RJ e.symm;have nJ: ∀j,¬J=k+j:=fun j=>by omega
        have nJ': ∀j,¬k+j=J:=fun j=>by omega
        have nJ0: ¬J=k:=by omega
        have bdd: ¬k=J:=by omega
        have J9:J<k+9:=by omega
        simp[Kp,P4,aaE,hTr,qP,nT0,nT,T9,tG,eR,G8,r0m,i3,d1,xl,xli,hmo,hmb,qK,hn,hqt,Uc,hRr,nR,nR0,R9,RT,hJr,nJ,nJ0,J9,JT,JR];apply Hb;refine⟨k1+23,k1+25,k1+26,⟨by simp[aR],by simp[aR],by simp[aR],by simp[aR],by simp[aR]⟩,⟨?_,?_,?_,?_,?_⟩,⟨by omega,by simp only;omega,by omega,by simp only;omega,by omega,by simp only;omega,by omega,by omega,by omega⟩,fun i hi I4=> ?_⟩
        · simp[aR,e0,nT',nR',nJ']
        · simp[aR,e0,nT',nR',nJ']
          rfl
        · simp[aR,hj]
        · simp[aR]
        · simp[aR]
        · obtain⟨f1,f2,f3⟩:=hF i I4
          have g0: ¬i=k:=by omega
          have g1: ∀j,¬i=k+j:=fun j=>by omega
          have g2: ∀j,¬i=k1+j:=fun j=>by omega
          have g3:i<k+9:=by omega
          have g4: ¬i=J:=fun e=>f3 cz.length (by rw[e]);have g5: ¬i=R:=fun e=>f2 cC.length (by rw[e]);simp[aR,f1,g0,g1,g2,g3,g4,g5]
@[simp]def amz(ax:List Instr)(ae:List Int)(ay:List (List Int))(aw:List Int)(bK:Int)(hp:rn (Prog.mk ax ae ay))(hL:nW aw ae):ng X [(0,4,112)] 20 [KKQ ax ae ay,KKc aw bK]=some (.dP [KKK (gF (Prog.mk ax ae ay) (Layout.mk aw bK)),.int .i64 0]):=by
 refine aaC ?_;have hz:=hp.an;simp only at hz;have z4:=hz.le;have hlen:ay.length=ae.length:=hp.len;have hb:aw.length=ae.length:=hL.len;have ln:=mO.2 hL;have rH:jr (Prog.mk ax ae ay)=0:=zP hp;have Yi:ax.length<=64:=hp.rp;have b1:aw.length<=1000000000/\ae.length<=1000000000:=by omega
 have b2:ay.length<=1000000000:=by omega
 have b3:ax.length<=1000000000:=by omega
 have b4:aw.length<=4:=by omega
 simp[dI,hp,hL,ln,rH,b1,b2,b3,gF];all_goals ((repeat' (first|apply And.intro|intro _))<;>first|omega|rfl)
def iA:bY:=⟨[-1, -1, -1, -1],[[],[],[],[]]⟩
def O7:jR iA:=by
 refine⟨rfl,rfl,fun i hi=> ?_,fun i hi=> ?_⟩
 ·have:i=0\/i=1\/i=2\/i=3:=by simp[iA]at hi;omega
  rcases this with rfl|rfl|rfl|rfl<;>simp[iA]
 ·have:i=0\/i=1\/i=2\/i=3:=by simp[iA]at hi;omega
  rcases this with rfl|rfl|rfl|rfl<;>(refine⟨?_,?_⟩<;>simp[iA])
@[simp]def am0(ax:List Instr)(ae:List Int)(ay:List (List Int))(aw:List Int)(bK:Int)(cJ cg:List Int)(bX:List (List Int))(bu:List (List Canon))(bm:List fQ)(bI:List Output)(hp:rn (Prog.mk ax ae ay))(hL:nW aw ae)(ho:wy (cU.mk cJ cg bX (bJ.mk bu bm) bI))(Bx:l5 ae bu=true):ng X [(0,7,112)] 64 [KKQ ax ae ay,KKc aw bK,KKn cJ cg bX bu bm bI]=some (.dP [KKX (uN.mk (Prog.mk ax ae ay) (gF (Prog.mk ax ae ay) (Layout.mk aw bK)) (cU.mk cJ cg bX (bJ.mk bu bm) bI) iA [] [-1, -1, -1, -1]),.int .i64 0]):=by
 refine aaC ?_;have kH:=amz ax ae ay aw bK hp hL;obtain⟨⟨⟨mb,mk⟩,⟨mc,ml⟩,mt⟩,hm⟩: ∃m,gF (Prog.mk ax ae ay) (Layout.mk aw bK)=m:=⟨_,rfl⟩;have qP:mt.length=4:=by have:=congrArg (fun m=>m.threads.length) hm;simpa[gF] using this.symm
 have tG: ∀(f:Thread->V),List.take 4 (mt.map f)=mt.map f:=fun f=>aZ (by simp;omega);have Ss: ∀(f:Thread->Option V),List.take 4 (mt.map f)=mt.map f:=fun f=>aZ (by simp;omega);rw[hm]at kH⊢;simp only at kH⊢;have hv:=Aq cJ cg bX bu bm bI ho;have hf:=ho.files;simp only at hf;have hf1:bu.length<=1000000000:=by have:=hf.data;simp only at this;omega
 have hf2: ∀i (h:i<bu.length),(bu[i]).length<=1000000000:=fun i h=>by have:=(hf.each i h).2;simp only at this;omega
 simp[dI,kH,ho,hf1,hf2,Bx,qP,tG,lb,iA];rfl
def af5{l:List Int}{k:Int}(h:eH l k):eH l (JP l k):=fy (ats (CT (fy (AV (JL h) _)) _))
def LK(p:Prog)(m:aO)(T:Nat)(o:cU)(l:bY)(vR vJ:V):V:= .agg [.sl false (p.code.map Instr.e),.sl false (p.an.map (V.int .i64)),.sl false (p.data.map aV),.sl false (m.layout.aD.map (V.int .i64)),.int .u16 m.layout.key,.sl false (m.memory.cells.map Cell.e),.sl false (m.memory.lines.map cw.e),.cx T 0 4,.sl false (o.clock.map (V.int .u16)),.sl false (o.random.map (V.int .u16)),.sl false (o.dw.map aV),.sl false (o.files.data.map bz),.sl false (o.files.opens.map fQ.e),.sl false (o.dH.map Output.e),.sl false (l.owner.map (V.int .i64)),.sl false (l.queue.map de),vR,vJ]
structure LL (p:Prog) (d:Int) (c:Nat) (h:bh) (k T:Nat) (vR vJ:V) (m:aO) (o:cU) (l:bY) (js:List Int) (rc:List Entry):Prop where
 row:h T=some ⟨8,m.threads.map Thread.e,false⟩
 rcd:aqu h k rc vR
 jns:aqv h k js vJ
 lt:c<=T/\T<k
 loR: ∀i n,vR= .cx i 0 n->c<=i
 loJ: ∀i n,vJ= .cx i 0 n->c<=i
 sep:(∀n,vR≠ .cx T 0 n)/\(∀n,vJ≠ .cx T 0 n)/\ ∀i n m,vR= .cx i 0 n->vJ≠ .cx i 0 m
 IW:cT p d m
 outs:um o
 wh:jR l
 SO:js.length=4
 a34:rc.length<=300
def LL.mono{d:Int}(H:LL p d c h k T vR vJ m o l js rc)(hk:k<=k')(hh: ∀i,c<=i->i<k->h' i=h i):LL p d c h' k' T vR vJ m o l js rc:=by
 obtain⟨h1,h2,h3,h4,h5,h6,h7,h8,h9,zG,F9,L7⟩:=H;refine⟨by rw[hh _ h4.1 h4.2,h1],?_,?_,⟨h4.1,by omega⟩,h5,h6,h7,h8,h9,zG,F9,L7⟩
 ·rcases h2 with e|⟨R,es,q1,q2,q3,q4⟩
  ·exact .inl e
  ·exact .inr ⟨R,es,by omega,q2,by rw[hh _ (h5 _ _ q2) q1,q3],q4⟩
 ·rcases h3 with e|⟨R,q1,q2,q3⟩
  ·exact .inl e
  ·exact .inr ⟨R,by omega,q2,by rw[hh _ (h6 _ _ q2) q1,q3]⟩
def LL.a35{d d':Int}(H:LL p d c h k T vR vJ m o l js rc)(hc:c'<=c)(hd:d<=d'):LL p d' c' h k T vR vJ m o l js rc:=by
 obtain⟨h1,h2,h3,h4,h5,h6,h7,h8,h9,zG,F9,L7⟩:=H;exact⟨h1,h2,h3,⟨by omega,h4.2⟩,fun i n e=>by have:=h5 i n e;omega,fun i n e=>by have:=h6 i n e;omega,h7,h8.mono hd,h9,zG,F9,L7⟩
inductive LM (p:Prog) (s0:RS):Nat->RS->Prop where
 |zero:LM p s0 0 s0
 |next {k:Nat} {s s':RS} (ct cb:Int) (sg:Bool):LM p s0 k s->O2 p s.1 s.2.1 s.2.2.1 s.2.2.2.1 s.2.2.2.2 ct cb sg=some s'->LM p s0 (k+1) s'
structure af6 (p:Prog) (ly:Layout) (o:cU):Prop where
 prog:rn p
 ET:ae9 p
 lay:nW ly.aD p.an
 key:0<=ly.key/\ly.key<=65535
 outs:np o
 prop:l5 p.an o.files.data=true
def Dm(p:Prog)(lay:Layout)(o:cU):RS:=(gF p lay,o,iA,[-1, -1, -1, -1],[])
def Dn(dl:List Int)(v:V)(h:bh)(k:Nat):Prop:=
 ∃(kt:Int) (p:Prog) (d:Int) (T:Nat) (vR vJ:V) (m:aO) (o:cU) (l:bY) (js:List Int) (rc:List Entry),v=LK p m T o l vR vJ/\h 0=some ⟨2,[KKa dl kt],true⟩/\LL p d 1 h k T vR vJ m o l js rc/\eH dl kt/\d<=2000/\ ∃(lay:Layout) (o0:cU) (n:Nat),n<=20/\af6 p lay o0/\LM p (Dm p lay o0) n (m,o,l,js,rc)
def bde(dl:List Int)(p:Prog)(lay:Layout)(o0:cU)(N i:Nat)(S:St):Prop:= ∃(kt:Int) (T:Nat) (vR vJ:V) (m:aO) (o:cU) (l:bY) (js:List Int) (rc:List Entry),
 (S.f 0= .ptr 0 0 0/\S.f 2= .ptr 1 0 0/\S.f 4= .ptr 17 0 0/\S.f 6= .int .i64 ((N:Int)-i))/\
 (S.h 0=some ⟨2,[KKa dl kt],true⟩/\S.h 1=some ⟨18,[IZ],true⟩/\S.h 17=some ⟨18,[LK p m T o l vR vJ],true⟩)/\
 LL p (64*(i:Int)) 18 S.h S.n T vR vJ m o l js rc/\m.layout=lay/\eH dl kt/\18<=S.n/\LM p (Dm p lay o0) i (m,o,l,js,rc)
@[simp]def a36(bN:List Int)(aW:Int)(hd:eH bN aW): ∃v h k,cL X 19 [.ptr 0 0 0] (l9 X 19 2 ((KKa bN aW:V))) 1=some (v,h,k)/\Dn bN v h k:=by
 have hP:=Aa bN aW hd;obtain⟨hpv,cx⟩:=ae8 bN aW;have hd1:=af5 hd;obtain⟨⟨pc,ps,pd⟩,hp⟩: ∃p,sH bN aW=p:=⟨_,rfl⟩;rw[hp]at hP hpv cx;obtain⟨k1,EG⟩: ∃k,JP bN aW=k:=⟨_,rfl⟩;rw[EG]at hP hd1;have hz:=hpv.an;simp only at hz hP;have hL:=AS bN k1 ps hd1 hz;have hLP:=Lz (cQ:=eX bN k1 1048576) hz (ez bN k1 (by omega)).1;have hkr:=D9 (40503*eX bN k1 1048576);have Yb:=fy hd1;obtain⟨mb,hmb⟩: ∃b,fG ps (eX bN k1 1048576)=b:=⟨_,rfl⟩;obtain⟨mk,HX⟩: ∃b,IntKind.u16.wrap (40503*eX bN k1 1048576)=b:=⟨_,rfl⟩;obtain⟨k2,yc⟩: ∃k,dK bN k1=k:=⟨_,rfl⟩;rw[hmb,HX,yc]at hL;rw[hmb]at hLP;rw[HX]at hkr;rw[yc]at Yb;have hO:=Ac bN k2 Yb;have hOG:=amc bN k2;have hOp:=LB bN k2 ps;have hd3:=ae6 Yb;obtain⟨⟨oc,orr,oi,⟨od,oo⟩,ou⟩,ho⟩: ∃o,vc bN k2=o:=⟨_,rfl⟩;obtain⟨k3,hk3⟩: ∃k,OF bN k2=k:=⟨_,rfl⟩;rw[ho,hk3]at hO;rw[ho]at hOG hOp;rw[hk3]at hd3;simp only at hO hL hOp;have hB:=am0 pc ps pd mb mk oc orr oi od oo ou hpv hLP hOG.p hOp;have Ox:cT ⟨pc,ps,pd⟩ 0 (gF ⟨pc,ps,pd⟩ ⟨mb,mk⟩):=Ki hpv cx hLP hkr;obtain⟨⟨⟨mb',mk'⟩,⟨mc,ml⟩,mt⟩,hm⟩: ∃m,gF ⟨pc,ps,pd⟩ ⟨mb,mk⟩=m:=⟨_,rfl⟩;rw[hm]at hB Ox;have hRS:af6 ⟨pc,ps,pd⟩ ⟨mb,mk⟩ ⟨oc,orr,oi,⟨od,oo⟩,ou⟩:=⟨hpv,cx,hLP,hkr,hOG,hOp⟩;have qP:mt.length=4:=Ox.len;have LY:=ez bN k3 (n:=16) (by omega);obtain⟨N,hN⟩: ∃N:Nat,3+eX bN k3 16=N:=⟨(3+eX bN k3 16).toNat,by omega⟩;have hwN:IntKind.i64.wrap (3+eX bN k3 16)=N:=by rw[hN];exact wrap_i64 (by omega)
 have hNx:=lM bN k3 16 hd3 (by omega);have hd4:=fy hd3;simp only[iA]at hB;simp only at hNx;refine aaB ?_;simp[hP,hL,hO,hB,hNx,hwN,qP];have fin: ∀(H:bh) (x:Option Ob) (K K':Nat) (kt d:Int) (T:Nat) (vR vJ:V) (m:aO) (o:cU) (l:bY) (js:List Int) (rc:List Entry),H 0=some ⟨2,[KKa bN kt],true⟩->LL ⟨pc,ps,pd⟩ d 18 H K T vR vJ m o l js rc->eH bN kt->d<=2000->K<=K'->18<=K-> ∀n,n<=20->LM ⟨pc,ps,pd⟩ (Dm ⟨pc,ps,pd⟩ ⟨mb,mk⟩ ⟨oc,orr,oi,⟨od,oo⟩,ou⟩) n (m,o,l,js,rc)->Dn bN (LK ⟨pc,ps,pd⟩ m T o l vR vJ) (aR H 1 x) K':=fun H x K K' kt d T vR vJ m o l js rc h0 HR vQ Yb hK hK2 n hn hRR=>
  ⟨kt,_,d,T,vR,vJ,m,o,l,js,rc,rfl,by simpa[aR] using h0,(HR.mono hK fun i h1 _=>by rw[aR,if_neg (by omega)]).a35 (by omega) (by omega),vQ,Yb,⟨mb,mk⟩,_,n,hn,hRS,hRR⟩
 refine lW (fun i S=>bde bN ⟨pc,ps,pd⟩ ⟨mb,mk⟩ ⟨oc,orr,oi,⟨od,oo⟩,ou⟩ N i S) N ?_ 0 (by omega) ?_
 ·rintro i S hi ⟨kt,T,vR,vJ,m,o,l,js,rc,⟨f0,f2,f4,f6⟩,⟨h0,h1,h17⟩,HR,qk,vQ,vk,hRR⟩;unfold LK at h17;by_cases gZ:i<N
  case neg=>
   have bL: ¬(0:Int)<(N:Int)-i:=by omega
   unfold IZ at h1;simp[f2,f4,f6,h1,h17,gZ];exact fin S.h _ S.n _ _ _ _ _ _ _ _ _ _ _ h0 HR vQ (by omega) (by omega) vk i (by omega) hRR
  have bL:(0:Int)<(N:Int)-i:=by omega
  have hch:=AT bN kt vQ;have avl:=fy (fy (fy vQ));obtain⟨zu,a38⟩: ∃k,dK bN (dK bN (dK bN kt))=k:=⟨_,rfl⟩;obtain⟨⟨c1,c2,c3⟩,s9⟩: ∃c,adi bN kt=c:=⟨_,rfl⟩;rw[a38,s9]at hch;rw[a38]at avl;simp only at hch;obtain⟨⟨Mc,Md⟩,⟨O4,Kq⟩,wP⟩:=m;obtain⟨oc1,or1,oi1,⟨od1,oo1⟩,ou1⟩:=o;obtain⟨lo1,lq1⟩:=l;simp only at h17;have hw:IntKind.i64.wrap ((N:Int)-i-1)=(N:Int)-(i+1:Nat):=by rw[wrap_i64 (by omega)];omega
  have NX: ∀(hE:bh) (kE:Nat),S.n<=kE->(∀j,18<=j->j<S.n->hE j=S.h j)-> ∃v h' k',cL X 67 [LK ⟨pc,ps,pd⟩ ⟨⟨Mc,Md⟩,⟨O4,Kq⟩,wP⟩ T ⟨oc1,or1,oi1,⟨od1,oo1⟩,ou1⟩ ⟨lo1,lq1⟩ vR vJ,.agg [.int .i64 c1,.int .i64 c2,.bool c3]] hE kE=some (v,h',k')/\aqw ⟨pc,ps,pd⟩ (64*(i:Int)) (O2 ⟨pc,ps,pd⟩ ⟨⟨Mc,Md⟩,⟨O4,Kq⟩,wP⟩ ⟨oc1,or1,oi1,⟨od1,oo1⟩,ou1⟩ ⟨lo1,lq1⟩ js rc c1 c2 c3) ⟨Mc,Md⟩ hE kE (fun j=>j<18) v h' k':=fun hE kE hk hh=>by
   obtain⟨g1,g2,g3,g4,g5,g6,g7,g8,g9,I5,g11,g12⟩:=HR.mono hk hh;exact avd pc ps pd Mc Md O4 Kq wP oc1 or1 oi1 od1 oo1 ou1 lo1 lq1 rc js c1 c2 c3 hE kE T vR vJ _ (64*(i:Int)) ⟨g4.2,g1⟩ g2 g3 g8 (by omega) g9 I5 g11 (fun j hj=>⟨by omega,fun n e=>by have:=g5 _ _ e;omega,fun n e=>by have:=g6 _ _ e;omega⟩) g7 (by omega)
  unfold LK at NX;simp only at NX;obtain⟨v,h',k',eN,qT,nU,a39⟩:=NX (aR (aR S.h 0 none) 0 (some ⟨2,[KKa bN zu],true⟩)) (S.n+12) (by omega) (fun j a b=>by rw[aR,if_neg (by omega),aR,if_neg (by omega)]);have g0:=nU 0 (by omega) (by omega);have g1:=nU 1 (by omega) (by omega);have g17:=nU 17 (by omega) (by omega);have u0:(aR (aR S.h 0 none) 0 (some ⟨2,[KKa bN zu],true⟩)) 0=some ⟨2,[KKa bN zu],true⟩:=by simp[aR]
  have u1:(aR (aR S.h 0 none) 0 (some ⟨2,[KKa bN zu],true⟩)) 1=some ⟨18,[IZ],true⟩:=by simp[aR,h1]
  have u17:(aR (aR S.h 0 none) 0 (some ⟨2,[KKa bN zu],true⟩)) 17=S.h 17:=by simp[aR]
  rw[u0]at g0;rw[u1]at g1;rw[u17,h17]at g17;have w1: ¬S.n=8:=by omega
  have w2: ¬17=S.n+9:=by omega
  rcases a39 with⟨_,e,he,rfl,jV⟩|⟨m2,o2,l2,wH,PE,T2,R2,J2,es2,Bz,rfl,⟨q1,q2,q3⟩,⟨p1,p2,p3,p4,p5,p6,p7,p8,p9⟩,MG2,ya,Lc,af2,yb,Pq,bdi⟩
  ·have e0: ¬e=0:=by omega
   unfold IZ at eN g1;simp[f0,f2,f4,f6,h0,h17,gZ,hch,eN,g1,g17,e0,aaE,w2];refine fin _ _ (k'+1) _ _ _ _ _ _ ⟨⟨Mc,Md⟩,⟨O4,Kq⟩,wP⟩ ⟨oc1,or1,oi1,⟨od1,oo1⟩,ou1⟩ ⟨lo1,lq1⟩ _ _ (by simp[aR,g0]) (HR.mono (by omega) fun j a b=> ?_) avl (by omega) (by omega) (by omega) i (by omega) hRR;rw[aR,if_neg (by omega),aR,if_neg (by omega),jV j (by omega),aR,if_neg (by omega),aR,if_neg (by omega)]
  ·subst bdi;unfold Ad at eN;unfold IZ at g1;simp[f0,f4,f6,h0,h17,gZ,hch,eN,g17,aaE,w2,hw];refine⟨zu,T2,.cx R2 0 PE.length,.cx J2 0 4,m2,o2,l2,wH,PE,⟨by simp[aR,f0],by simp[aR,f2],by simp[aR,f4],by simp[aR]⟩,⟨by simp[aR,g0],?_,?_⟩,?_,ya.trans qk,avl,by simp only;omega,.next _ _ _ hRR Bz⟩
   ·simp[aR,g1];rfl
   ·simp[aR];rfl
   ·have y1: ∀j,S.n+12<=j-> ¬j=S.n+9:=fun j hj=>by omega
    have y2: ∀j,S.n+12<=j-> ¬j=17:=fun j hj=>by omega
    refine⟨?_,.inr ⟨R2,_,?_,rfl,?_,rfl⟩,.inr ⟨J2,?_,by rw[yb],?_⟩,⟨by omega,?_⟩,fun i n e=> ?_,fun i n e=> ?_,⟨fun n e=> ?_,fun n e=> ?_,fun i n m e1 e2=> ?_⟩,MG2.mono (by omega),Lc,af2,yb,Pq⟩
    ·simp[aR,y1 T2 p1,y2 T2 p1,q1]
    ·simp only;omega
    ·simp[aR,y1 R2 p3,y2 R2 p3,q2]
    ·simp only;omega
    ·simp[aR,y1 J2 p5,y2 J2 p5,q3]
    ·simp only;omega
    ·cases e;omega
    ·cases e;omega
    ·cases e;omega
    ·cases e;omega
    ·cases e1;cases e2;omega
 ·simp;refine⟨dK bN k3,20,.sl false [],.sl false [.int .i64 (-1),.int .i64 (-1),.int .i64 (-1),.int .i64 (-1)],⟨⟨mb',mk'⟩,⟨mc,ml⟩,mt⟩,⟨oc,orr,oi,⟨od,oo⟩,ou⟩,⟨[-1, -1, -1, -1],[[],[],[],[]]⟩,[-1, -1, -1, -1],[],⟨by simp[aR],by simp[aR],by simp[aR],by simp[aR]⟩,⟨by simp[aR],by simp[aR,IZ],?_⟩,⟨?_,.inl rfl,.inl rfl,⟨by omega,by simp only;omega⟩,fun i n e=> ?_,fun i n e=> ?_,⟨fun n e=> ?_,fun n e=> ?_,fun i n m e1 e2=> ?_⟩,Ox.mono (by omega),.inl hOG,O7,rfl,by simp⟩,?_,hd4,by simp only;omega,by rw[<-hm];exact .zero⟩
  ·simp[aR,LK]
  ·simp[aR]
  ·cases e
  ·cases e
  ·cases e
  ·cases e
  ·cases e1
  ·have:=congrArg aO.layout hm;exact this.symm
def Dn.io(H:Dn dl v h k): ∃(kt:Int) (p:Prog) (d:Int) (m:aO) (o:cU) (l:bY) (js:List Int) (rc:List Entry),
  yg X [(1,7,112)] v h=some (2,(KKa dl kt:V),[(KKJ p.code p.an p.data m.layout.aD m.layout.key m.memory.cells m.memory.lines m.threads o.clock o.random o.dw o.files.data o.files.opens o.dH l.owner l.queue rc js:V)])/\eH dl kt/\cT p d m/\d<=2000/\rc.length<=300/\ ∃(lay:Layout) (o0:cU) (n:Nat),n<=20/\af6 p lay o0/\LM p (Dm p lay o0) n (m,o,l,js,rc):=by
 obtain⟨kt,p,d,T,vR,vJ,m,o,l,js,rc,rfl,h0,HR,vQ,hd,FH⟩:=H;refine⟨kt,p,d,m,o,l,js,rc,?_,vQ,HR.IW,hd,HR.a34,FH⟩;have hT:=HR.row;have qP:m.threads.length=4:=HR.IW.len;obtain⟨t1,t2⟩:=HR.lt;have T0: ¬T=0:=by omega
 have tI:=HR.SO;have tG: ∀(f:Thread->V),List.take 4 (m.threads.map f)=m.threads.map f:=fun f=>aZ (by simp;omega);have Ss: ∀(f:Thread->Option V),List.take 4 (m.threads.map f)=m.threads.map f:=fun f=>aZ (by simp;omega);have jkf: ∀(f:Int->V),List.take 4 (js.map f)=js.map f:=fun f=>aZ (by simp;omega);unfold LK;rcases HR.rcd with rfl|⟨R,es,r1,rfl,r2,rfl⟩
 ·rcases HR.jns with rfl|⟨J,j1,rfl,j2⟩
  ·simp(maxSteps:=10000000)[h0,hT,qP,T0,tG,lb]
  ·have J0: ¬J=0:=by have:=HR.loJ _ _ rfl;omega
   have JT: ¬J=T:=fun e=>HR.sep.2.1 js.length (by rw[e]);simp(maxSteps:=10000000)[h0,hT,qP,T0,tG,lb,tI,J0,JT,j2,jkf]
 ·have R0: ¬R=0:=by have:=HR.loR _ _ rfl;omega
  have RT: ¬R=T:=fun e=>HR.sep.1 rc.length (by rw[e]);rcases HR.jns with rfl|⟨J,j1,rfl,j2⟩
  ·simp(maxSteps:=10000000)[h0,hT,qP,T0,tG,lb,R0,RT,r2]
  ·have J0: ¬J=0:=by have:=HR.loJ _ _ rfl;omega
   have JT: ¬J=T:=fun e=>HR.sep.2.1 js.length (by rw[e]);simp(maxSteps:=10000000)[h0,hT,qP,T0,tG,lb,R0,RT,r2,tI,J0,JT,j2,jkf]
def a4a{t:Int}(hd:eH dl t): ∃(kt:Int) (p:Prog) (d:Int) (m:aO) (o:cU) (l:bY) (js:List Int) (rc:List Entry),
  oz X [(1,7,112)] 19 2 ((KKa dl t:V)) []=some (2,(KKa dl kt:V),[(KKJ p.code p.an p.data m.layout.aD m.layout.key m.memory.cells m.memory.lines m.threads o.clock o.random o.dw o.files.data o.files.opens o.dH l.owner l.queue rc js:V)],.bad)/\eH dl kt/\cT p d m/\d<=2000/\rc.length<=300/\ ∃(lay:Layout) (o0:cU) (n:Nat),n<=20/\af6 p lay o0/\LM p (Dm p lay o0) n (m,o,l,js,rc):=by
 obtain⟨v,h,k,e,HE⟩:=a36 dl t hd;have hv:vq v= .bad:=by
  obtain⟨_,_,_,_,_,_,_,_,_,_,_,rfl,_⟩:=HE;rfl
 obtain⟨kt,p,d,m,o,l,js,rc,Bm,h1⟩:=HE.io;refine⟨kt,p,d,m,o,l,js,rc,?_,h1⟩;unfold oz;rw[show 1+(X.fl 19).length=1 from rfl,e];simp only[Bm,hv]
def Dn.io0(H:Dn dl v h k): ∃(kt:Int) (p:Prog) (d:Int) (m:aO) (o:cU) (l:bY) (js:List Int) (rc:List Entry),
  yg X [] v h=some (2,(KKa dl kt:V),[(KKJ p.code p.an p.data m.layout.aD m.layout.key m.memory.cells m.memory.lines m.threads o.clock o.random o.dw o.files.data o.files.opens o.dH l.owner l.queue rc js:V)])/\eH dl kt/\cT p d m/\d<=2000/\rc.length<=300/\ ∃(lay:Layout) (o0:cU) (n:Nat),n<=20/\af6 p lay o0/\LM p (Dm p lay o0) n (m,o,l,js,rc):=by
 obtain⟨kt,p,d,T,vR,vJ,m,o,l,js,rc,rfl,h0,HR,vQ,hd,FH⟩:=H;refine⟨kt,p,d,m,o,l,js,rc,?_,vQ,HR.IW,hd,HR.a34,FH⟩;have hT:=HR.row;have qP:m.threads.length=4:=HR.IW.len;obtain⟨t1,t2⟩:=HR.lt;have T0: ¬T=0:=by omega
 have tI:=HR.SO;have tG: ∀(f:Thread->V),List.take 4 (m.threads.map f)=m.threads.map f:=fun f=>aZ (by simp;omega);have Ss: ∀(f:Thread->Option V),List.take 4 (m.threads.map f)=m.threads.map f:=fun f=>aZ (by simp;omega);have jkf: ∀(f:Int->V),List.take 4 (js.map f)=js.map f:=fun f=>aZ (by simp;omega);unfold LK;rcases HR.rcd with rfl|⟨R,es,r1,rfl,r2,rfl⟩
 ·rcases HR.jns with rfl|⟨J,j1,rfl,j2⟩
  ·simp(maxSteps:=10000000)[h0,hT,qP,T0,tG]
  ·have J0: ¬J=0:=by have:=HR.loJ _ _ rfl;omega
   have JT: ¬J=T:=fun e=>HR.sep.2.1 js.length (by rw[e]);simp(maxSteps:=10000000)[h0,hT,qP,T0,tG,tI,J0,j2,jkf]
 ·have R0: ¬R=0:=by have:=HR.loR _ _ rfl;omega
  have RT: ¬R=T:=fun e=>HR.sep.1 rc.length (by rw[e]);rcases HR.jns with rfl|⟨J,j1,rfl,j2⟩
  ·simp(maxSteps:=10000000)[h0,hT,qP,T0,tG,R0,r2]
  ·have J0: ¬J=0:=by have:=HR.loJ _ _ rfl;omega
   have JT: ¬J=T:=fun e=>HR.sep.2.1 js.length (by rw[e]);simp(maxSteps:=10000000)[h0,hT,qP,T0,tG,R0,r2,tI,J0,j2,jkf]
end Go.Proofs.YtdngefmliibcgaaGreat
