/- Part of a proof: F23. -/
import Derived.Test.YtdngefmliibcgaaGreatM27
set_option linter.all false
set_option maxRecDepth 20000
set_option maxHeartbeats 20000000
namespace Go.Proofs.YtdngefmliibcgaaGreat
open Go Go.Abs Go.Abs.kX Qf
variable  {k n n' c k' T c':Nat}{l:bX}{v vR vJ:V}{h h':bh}{f:FuncId}{S:St}{Q:Ex->St->Prop}{a0 a1 a2 a3 a4 a5 a6 d:Code}{p:Prog}{m:aO}{o:cS}{js dl:List Int}{rc:List Entry}
def ae0(k:Nat)(l:List Int)(v:V)(h:bh)(n:Nat):Prop:=(l=[]/\v= .sl true [])\/(0<l.length/\ ∃id,k<=id/\id<n/\v= .cu id 0 l.length/\h id=some ⟨1,l.map (V.int .i64),false⟩)
def ae0.mono{l:List Int}(H:ae0 k l v h n)(hn:n<=n')(hh: ∀i,i<n->h' i=h i):ae0 k l v h' n':=by
 rcases H with H|⟨h0,id,k1,k2,e,g⟩
 ·exact .inl H
 ·exact .inr ⟨h0,id,k1,by omega,e,by rw[hh _ k2,g]⟩
@[simp]def WV(l:List Thread)(k:Nat)(hl:l.length=4): ∃v h' k',cL X 135 [l] pP k=some (v,h',k')/\ae0 k (k8 l 4) v h' k'/\k<=k':=by
 refine aaB ?_;simp[hl];refine lS (fun i S=>(S.f 6=l/\S.f 7= .int .i64 4/\S.f 8= .int .i64 i)/\ae0 k (k8 l i) (S.f 3) S.h S.n/\k<=S.n) 4 ?_ 0 (by omega) ?_
 ·rintro i S hi ⟨⟨f6,f7,f8⟩,HO,hk⟩;by_cases h4:i<4
  case neg=>
   have h4i: ¬(i:Int)<4:=by omega
   have e4:i=4:=by omega
   subst e4;simp[f7,f8];exact⟨HO.mono (by omega) fun _ _=>rfl,by omega⟩
  have h4i:(i:Int)<4:=by omega
  have EV:i<l.length:=by omega
  have hw:IntKind.i64.wrap ((i:Int)+1)=i+1:=wrap_i64 (by omega);obtain⟨⟨st,rg,pc,co,ha,sa,tr,cd⟩,pO⟩: ∃x,l[i]=x:=⟨_,rfl⟩;by_cases hs:st=1
  case neg=>
   have ln:=Rm EV (by rw[pO];exact hs);simp[f6,f7,f8,h4,h4i,hl,pO,Thread.bS,hs,hw,ln];exact⟨HO.mono (by omega) fun j hj=>by rw[aR,if_neg (by omega),aR,if_neg (by omega)],by omega⟩
  have ln:=Nm EV (by rw[pO];exact hs);have oM:=eq_true hs;rcases HO with⟨h0,f3⟩|⟨h0,id,k1,k2,f3,fg⟩
  ·simp[f3,f6,f7,f8,h4,h4i,hl,pO,Thread.bS,oM,hw,ln];refine⟨.inr ⟨by simp,_,?_,?_,by rw[h0];rfl,by simp[aR,h0]⟩,by omega⟩
   ·omega
   ·omega
  ·have Xs:=Dz l i;obtain⟨q,hq⟩: ∃q,k8 l i=q:=⟨_,rfl⟩;rw[hq]at h0 f3 fg ln Xs;have i1: ¬id=S.n+1+3:=by omega
   simp[f3,f6,f7,f8,h4,h4i,hl,pO,Thread.bS,oM,hw,ln,fg,i1];refine⟨⟨by omega,by omega⟩,fun _ _=>⟨.inr ⟨by simp,_,?_,?_,by simp;rfl,by simp[aR]⟩,by omega⟩⟩
   ·omega
   ·omega
 ·simp[];exact⟨.inl ⟨rfl,rfl⟩,by omega⟩
def apt(h:bh)(k:Nat)(l:List Entry)(v:V):Prop:=v= .sl false (l.map Entry.e)\/ ∃R es,R<k/\v= .cu R 0 l.length/\h R=some ⟨18,es,false⟩/\es=l.map Entry.e
def apu(h:bh)(k:Nat)(l:List Int)(v:V):Prop:=v= .sl false (l.map (V.int .i64))\/ ∃R,R<k/\v= .cu R 0 l.length/\h R=some ⟨1,l.map (V.int .i64),false⟩
def bbe(Mid:St->Prop)(h1: ∀S,Mid S->Wp X f d S Q)(h2: ∀b:Code,(∀S,Mid S->Wp X f b S Q)->Wp X f (a0.seq (a1.seq (a2.seq (a3.seq (a4.seq (a5.seq (a6.seq b))))))) S Q):Wp X f (a0.seq (a1.seq (a2.seq (a3.seq (a4.seq (a5.seq (a6.seq d))))))) S Q:=h2 d h1
def bbf(Mid:St->Prop)(h1: ∀S,Mid S->Wp X f d S Q)(h2: ∀b:Code,(∀S,Mid S->Wp X f b S Q)->Wp X f (a0.seq (a1.seq (a2.seq (a3.seq b)))) S Q):Wp X f (a0.seq (a1.seq (a2.seq (a3.seq d)))) S Q:=h2 d h1
def IE:V:= .agg [.sl true [],.sl true [],.sl true [],.sl true [],.int .u16 0,.sl true [],.sl true [],.sl true [],.sl true [],.sl true [],.sl true [],.sl true [],.sl true [],.sl true [],.sl true [],.sl true [],.sl true [],.sl true []]
def bbg(p:Prog)(m:aO)(o:cS)(l:bX)(rc:List Entry)(js:List Int)(h:bh)(k:Nat)(F:Nat->Prop)(ch:V)(t:Nat)(n:Int)(S:St):Prop:=
 ∃B R J,(S.f 3= .ptr (k+1) 0 0/\S.f 4= .ptr (k+2) 0 0/\S.f 7= .int .i64 t/\S.f 8= .int .i64 n/\S.f 9= .ptr B 0 0)/\(S.h (k+1)=some ⟨3,[ch],true⟩/\S.h (k+2)=some ⟨18,[IE],true⟩/\
  S.h B=some ⟨18,[.agg [.sl false (p.code.map Instr.e),.sl false (p.an.map (V.int .i64)),.sl false (p.data.map aV),.sl false (m.layout.aD.map (V.int .i64)),.int .u16 m.layout.key,.sl false (m.memory.cells.map Cell.e),.sl false (m.memory.lines.map cy.e),.sl false (m.threads.map Thread.e),.sl false (o.clock.map (V.int .u16)),.sl false (o.random.map (V.int .u16)),.sl false (o.dp.map aV),.sl false (o.files.data.map bw),.sl false (o.files.opens.map fO.e),.sl false (o.dG.map Output.e),.sl false (l.owner.map (V.int .i64)),.sl false (l.queue.map dc),.cu R 0 rc.length,.cu J 0 js.length]],true⟩/\
  S.h R=some ⟨18,rc.map Entry.e,false⟩/\S.h J=some ⟨1,js.map (V.int .i64),false⟩)/\(k+2<B/\B<S.n/\k+2<R/\R<S.n/\k+2<J/\J<S.n/\B≠R/\B≠J/\R≠J)/\ ∀i,i<k->F i->S.h i=h i
abbrev RS:=aO×cS×bX×List Int×List Entry
def at9(t:Nat)(n:Int)(q:Request):Entry:=⟨1,t,n,q,⟨⟨0,0,0,0⟩,[],0,false⟩⟩
def bbh(t:Nat):Entry:=⟨3,t,0,⟨0,0,0,0,0,0,[],[]⟩,⟨⟨0,0,0,0⟩,[],0,false⟩⟩
noncomputable def Db(p:Prog)(s:RS)(q:Request):RS:=if q.stop=1 then zi p s.1 s.2.1 s.2.2.1 s.2.2.2.1 s.2.2.2.2 q else s
def J1(p:Prog)(s:RS)(t:Nat):RS:=if(cg s.1 t).state=4 then Sl p s.1 s.2.1 s.2.2.1 s.2.2.2.1 s.2.2.2.2 t else s
noncomputable def Ow(p:Prog)(m:aO)(o:cS)(l:bX)(js:List Int)(rc:List Entry)(t:Nat)(n:Int):RS:=J1 p (Db p ((gN p m t n).1,o,l,js,rc++ [at9 t n (gN p m t n).2.1]) (gN p m t n).2.1) t
noncomputable def J4(p:Prog)(m:aO)(o:cS)(l:bX)(js:List Int)(rc:List Entry)(t:Nat)(n:Int)(sg:Bool):RS:=
 if sg=true/\F9 (cg m t)=true then Ow p (yW m t) o l js (rc++ [bbh t]) t n else Ow p m o l js rc t n
noncomputable def Ox(p:Prog)(m:aO)(o:cS)(l:bX)(js:List Int)(rc:List Entry)(ct cb:Int)(sg:Bool):Option RS:=
 if(k8 m.threads 4).length=0\/192<rc.length then none else some (J4 p m o l js rc ((k8 m.threads 4).getD (ct % (k8 m.threads 4).length).toNat 0).toNat (1+cb % 64) sg)
def WW(p:Prog)(m:aO)(o:cS)(l:bX)(js:List Int)(rc:List Entry)(q:Request):(zi p m o l js rc q).2.2.2.2.length<=rc.length+2:=by
 unfold zi;generalize (if q.call=9 then(fY l (eY q 0) q.dd).2.1 else-1)=own;unfold Oo;split<;>(simp only[aaY,abJ,acM];omega)
def Oy(p:Prog)(m:aO)(o:cS)(hl:jR l)(js:List Int)(rc:List Entry)(t:Nat):(Sl p m o l js rc t).2.2.2.2.length<=rc.length+8:=by
 unfold Sl;have h1:=Bc p t (l7 p (m,rc) (iK l t 4).2,js) 4;have h2:=xp p (m,rc) (iK l t 4).2;have h3:=zj hl t 4;simp only at h1 h2⊢;omega
def bbi(p:Prog)(d:Int)(lay:Layout)(o:cS)(l:bX)(js:List Int)(h:bh)(k:Nat)(F:Nat->Prop)(t:Nat)(rs:RS)(S:St):Prop:=
 ∃(B R J T D:Nat) (m:aO) (q:Request) (rc:List Entry) (es:List V),(S.f 4= .ptr (k+2) 0 0/\S.f 7= .int .i64 t/\S.f 9= .ptr B 0 0/\S.f 11= .ptr D 0 0)/\(S.h (k+2)=some ⟨18,[IE],true⟩/\S.h D=some ⟨8,[Request.e q],true⟩/\
  S.h B=some ⟨18,[zX p (.sl false (m.layout.aD.map (V.int .i64))) m.layout.key (.sl false (m.memory.cells.map Cell.e)) (.sl false (m.memory.lines.map cy.e)) T o l R rc.length J],true⟩/\
  S.h T=some ⟨8,m.threads.map Thread.e,false⟩/\S.h R=some ⟨18,es,false⟩/\S.h J=some ⟨1,js.map (V.int .i64),false⟩)/\
  (k+2<B/\B<S.n/\k+2<R/\R<S.n/\k+2<J/\J<S.n/\k+2<T/\T<S.n/\k+2<D/\D<S.n)/\(B≠R/\B≠J/\R≠J/\B≠T/\R≠T/\J≠T/\D≠B/\D≠R/\D≠J/\D≠T)/\(∀i,i<k->F i->S.h i=h i)/\db p (d+64) m/\m.layout=lay/\q.dd=t/\RU q/\rc.length<=200/\es=rc.map Entry.e/\J1 p (Db p (m,o,l,js,rc) q) t=rs
def apv(p:Prog)(d:Int)(nx:Option RS)(lay:Layout)(h:bh)(k:Nat)(F:Nat->Prop)(v:V)(h':bh)(k':Nat):Prop:=
 k<=k'/\(∀i,i<k->F i->h' i=h i)/\((nx=none/\ ∃e,(e=15\/e=3)/\v= .dM [IE,.int .i64 e]/\ ∀i,i<k->h' i=h i)\/
  ∃(m:aO) (o:cS) (l:bX) (js:List Int) (rc:List Entry) (T R J:Nat) (es:List V),nx=some (m,o,l,js,rc)/\v= .dM [zX p (.sl false (m.layout.aD.map (V.int .i64))) m.layout.key (.sl false (m.memory.cells.map Cell.e)) (.sl false (m.memory.lines.map cy.e)) T o l R rc.length J,.int .i64 0]/\
   (h' T=some ⟨8,m.threads.map Thread.e,false⟩/\h' R=some ⟨18,es,false⟩/\h' J=some ⟨1,js.map (V.int .i64),false⟩)/\(k<=T/\T<k'/\k<=R/\R<k'/\k<=J/\J<k'/\T≠R/\T≠J/\R≠J)/\db p (d+64) m/\m.layout=lay/\uo o/\jR l/\js.length=4/\rc.length<=300/\es=rc.map Entry.e)
@[simp]def aua(aP:List Instr)(aN:List Int)(aQ:List (List Int))(aE:List Int)(aG:Int)(aJ:List Cell)(aK:List cy)(az:List Thread)(bk aX:List Int)(aY:List (List Int))(aM:List (List Canon))(aH:List fO)(aS:List Output)(bD:List Int)(bE:List (List Int))(cC:List Entry)(cz:List Int)(uw qC:Int)(ux:Bool)(h:bh)(k T:Nat)(vR vJ:V)(F:Nat->Prop)(d:Int)(hT:T<k/\h T=some ⟨8,az.map Thread.e,false⟩)(hR:apt h k cC vR)(hJ:apu h k cz vJ)(HG:db ⟨aP,aN,aQ⟩ d ⟨⟨aE,aG⟩,⟨aJ,aK⟩,az⟩)(hd:d+64<=1099511627776)(ho:uo ⟨bk,aX,aY,⟨aM,aH⟩,aS⟩)(hl:jR ⟨bD,bE⟩)(hj:cz.length=4)(hF: ∀i,F i->i≠T/\(∀n,vR≠ .cu i 0 n)/\(∀n,vJ≠ .cu i 0 n))(hA:(∀n,vR≠ .cu T 0 n)/\(∀n,vJ≠ .cu T 0 n)/\ ∀i n m,vR= .cu i 0 n->vJ≠ .cu i 0 m)(hrc:cC.length<=900000): ∃v h' k',cL X 67 [.agg [aP,aN,aQ,aE,.int .u16 aG,aJ,aK,.cu T 0 4,.sl false (bk.map (V.int .u16)),.sl false (aX.map (V.int .u16)),aY,aM,aH,aS,bD,.sl false (bE.map dc),vR,vJ],.agg [uw,qC,ux]] h k=some (v,h',k')/\apv ⟨aP,aN,aQ⟩ d (Ox ⟨aP,aN,aQ⟩ ⟨⟨aE,aG⟩,⟨aJ,aK⟩,az⟩ ⟨bk,aX,aY,⟨aM,aH⟩,aS⟩ ⟨bD,bE⟩ cz cC uw qC ux) ⟨aE,aG⟩ h k F v h' k':=by
  have rE:az.length=4:=HG.len;obtain⟨hTk,hTr⟩:=hT;have nT0: ¬T=k:=by omega
  have brp: ¬k=T:=by omega
  have tM: ∀(f:Thread->V),List.take 4 (az.map f)=az.map f:=fun f=>aZ (by simp;omega);have RQ: ∀(f:Thread->Option V),List.take 4 (az.map f)=az.map f:=fun f=>aZ (by simp;omega);have nT: ∀j,¬T=k+j:=fun j=>by omega
  have nT': ∀j,¬k+j=T:=fun j=>by omega
  have lR:EM vR=some cC.length:=by
    rcases hR with e|⟨R,_,_,e,_⟩
    · rw[e];simp[EM]
    · rw[e];rfl
  have sR:vR.isStr=false:=by
    rcases hR with e|⟨R,_,_,e,_⟩
    · rw[e];rfl
    · rw[e];rfl
  obtain⟨v1,h1,k1,eR,OR,Eo⟩:=WV az (k+9) rE;refine aaB ?_;rcases OR with⟨r0,rfl⟩|⟨r0,id,i1,i2,rfl,i3⟩
  · simp[aaE,hTr,rE,nT0,nT,tM,eR]
    refine⟨rfl,fun _=>⟨by omega,fun i hi _=> ?_,.inl ⟨if_pos (.inl (by rw[r0];rfl)),15,.inl rfl,rfl,fun i hi=> ?_⟩⟩⟩;all_goals
      have g0: ¬i=k:=by omega
      have g1: ∀j,¬i=k+j:=fun j=>by omega
      have g3:i<k+9:=by omega
      simp[aR,g0,g1,g3]
  · obtain⟨q,hq⟩: ∃q,k8 az 4=q:=⟨_,rfl⟩
    have SU:=Dz az 4;have xy:=fun i (h:i<(k8 az 4).length)=>RW h;rw[hq]at r0 i3 SU eR;have r0i:0<(q.length:Int):=by omega
    have r0n: ¬(q.length:Int)=0:=by omega
    have r0m: ¬q.length=0:=by omega
    have d1: ¬id<k+9:=by omega
    have d2: ∀j,j<9-> ¬id=k+j:=fun j hj=>by omega
    have Pz:kL (some ⟨1,q.map (V.int .i64),false⟩)=some ⟨1,q.map (V.int .i64),false⟩:=by unfold kL;simp only[TA,if_true]
    by_cases bbj:cC.length<=192
    case neg=>
      have J5:192<(cC.length:Int):=by omega
      simp[sR,lR,J5,aaE,hTr,rE,nT0,nT,tM,eR,GR,r0m];refine⟨by omega,fun i hi _=> ?_,.inl ⟨if_pos (.inr (by omega)),3,.inr rfl,rfl,fun i hi=> ?_⟩⟩;all_goals
        have g0: ¬i=k:=by omega
        have g1: ∀j,¬i=k+j:=fun j=>by omega
        have g3:i<k+9:=by omega
        simp[aR,g0,g1,g3]
    have J5: ¬192<(cC.length:Int):=by omega
    have m0:=acD uw (show(q.length:Int)≠0 by omega);have m1:=abW uw r0i;obtain⟨x,hx⟩:=aaG m0;have xl:x<q.length:=by omega
    have xli:(x:Int)<q.length:=by omega
    have hmo:=Dv uw q.length (by omega);rw[hx]at hmo;have n0:=acD qC (show(64:Int)≠0 by omega);have n1:=abW qC (show(0:Int)<64 by omega);obtain⟨y,hy⟩:=aaG n0;have hmb:=Dv qC 64 (by omega);rw[hy]at hmb;have qM:IntKind.i64.wrap (1+(y:Int))=1+(y:Int):=wrap_i64 (by omega);obtain⟨n,hn⟩: ∃n:Int,1+(y:Int)=n:=⟨_,rfl⟩;rw[hn]at qM;have hqx: ∃t:Nat,t<4/\q[x]=(t:Int)/\(az.getD t cw).state=1:=by
      subst hq;exact xy x xl
    obtain⟨t,t4,hqt,kD⟩:=hqx;have t4i:(t:Int)<4:=by omega
    have tml:t<az.length:=by omega
    have TB:=ad0 aP aN aQ aE aG aJ aK az bk aX aY aM aH aS bD bE cC cz (by omega) (by omega);have It:=yI aE aG aJ aK az t ⟨by omega,by omega⟩ rE;rw[aaH]at It;have hnx:Ox ⟨aP,aN,aQ⟩ ⟨⟨aE,aG⟩,⟨aJ,aK⟩,az⟩ ⟨bk,aX,aY,⟨aM,aH⟩,aS⟩ ⟨bD,bE⟩ cz cC uw qC ux=some (J4 ⟨aP,aN,aQ⟩ ⟨⟨aE,aG⟩,⟨aJ,aK⟩,az⟩ ⟨bk,aX,aY,⟨aM,aH⟩,aS⟩ ⟨bD,bE⟩ cz cC t n ux):=by
      unfold Ox;simp only[hq];rw[if_neg (by omega),hx,hy,hn,aaH,show q.getD x 0=(t:Int) by simp[List.getD,xl,hqt],aaH]
    rw[hnx];refine bbe (bbg ⟨aP,aN,aQ⟩ ⟨⟨aE,aG⟩,⟨aJ,aK⟩,az⟩ ⟨bk,aX,aY,⟨aM,aH⟩,aS⟩ ⟨bD,bE⟩ cC cz h k F (.agg [.int .i64 uw,.int .i64 qC,.bool ux]) t n) ?_ ?_
    case refine_1=>
      rintro⟨sf,sh,sn⟩ ⟨B,R,J,⟨f3,f4,f7,f8,f9⟩,⟨g1,g2,gB,gR,gJ⟩,⟨b1,b2,b3,b4,b5,b6,b7,b8,b9⟩,ot⟩;clear eR i3 xy Pz hR hJ lR sR;simp only at f3 f4 f7 f8 f9 g1 g2 gB gR gJ b2 b4 b6 ot;refine bbf (bbi ⟨aP,aN,aQ⟩ d ⟨aE,aG⟩ ⟨bk,aX,aY,⟨aM,aH⟩,aS⟩ ⟨bD,bE⟩ cz h k F t (J4 ⟨aP,aN,aQ⟩ ⟨⟨aE,aG⟩,⟨aJ,aK⟩,az⟩ ⟨bk,aX,aY,⟨aM,aH⟩,aS⟩ ⟨bD,bE⟩ cz cC t n ux)) ?_ ?_
      case refine_1=>
        clear gB gR gJ b1 b2 b3 b4 b5 b6 b7 b8 b9 ot f3 f4 f7 f8 f9 g1 g2 TB;rintro⟨sf,sh,sn⟩ ⟨B,R,J,T1,D,⟨⟨LI,LJ⟩,⟨Oz,J6⟩,wH⟩,⟨qa,qb,qc,qd,qe,qf,qg,qh⟩,rc1,es,⟨f4,f7,f9,f11⟩,⟨g2,gD,gB,gT,gR,gJ⟩,⟨b1,b2,b3,b4,b5,b6,b7,b8,b9,b10⟩,⟨c1,c2,c3,c4,c5,c6,c7,c8,c9,CO⟩,ot,WX,qn,hqt,QG,brt,IZ,B5⟩;simp only at f4 f7 f9 f11 g2 gD gB gT gR gJ b2 b4 b6 b8 b10 ot qn hqt;obtain⟨k2,xX⟩: ∃c,k+2=c:=⟨_,rfl⟩;rw[xX]at f4 g2;have IF:wH.length=4:=WX.len;have WY: ∀(f:Thread->V),List.take 4 (wH.map f)=wH.map f:=fun f=>aZ (by simp;omega);have auc: ∀(f:Thread->Option V),List.take 4 (wH.map f)=wH.map f:=fun f=>aZ (by simp;omega);have jkf: ∀(f:Int->V),List.take 4 (cz.map f)=cz.map f:=fun f=>aZ (by simp;omega);subst IZ;have bbk:t<wH.length:=by omega
        have a2a:cg ⟨⟨LI,LJ⟩,⟨Oz,J6⟩,wH⟩ t=wH[t]:=iS bbk;unfold zX at gB;unfold IE at g2;have n2: ∀j,¬k2=sn+j:=fun j=>by omega
        have OA: ∀j,¬sn+j=k2:=fun j=>by omega
        have nB: ∀j,¬B=sn+j:=fun j=>by omega
        have nR: ∀j,¬R=sn+j:=fun j=>by omega
        have nJ: ∀j,¬J=sn+j:=fun j=>by omega
        have nT: ∀j,¬T1=sn+j:=fun j=>by omega
        have nD: ∀j,¬D=sn+j:=fun j=>by omega
        have TV: ∀j,¬sn+j=B:=fun j=>by omega
        have nR': ∀j,¬sn+j=R:=fun j=>by omega
        have nJ': ∀j,¬sn+j=J:=fun j=>by omega
        have nT': ∀j,¬sn+j=T1:=fun j=>by omega
        have e1: ¬k2=B:=by omega
        have e2: ¬T1=k2:=by omega
        have e3: ¬R=k2:=by omega
        have e4: ¬J=k2:=by omega
        have e5: ¬k2=T1:=by omega
        have e6: ¬k2=R:=by omega
        have e7: ¬k2=J:=by omega
        have e8: ¬B=k2:=by omega
        have x1: ¬R=B:=fun e=>c1 e.symm;have x2: ¬J=B:=fun e=>c2 e.symm;have x3: ¬J=R:=fun e=>c3 e.symm;have x4: ¬T1=B:=fun e=>c4 e.symm;have x5: ¬T1=R:=fun e=>c5 e.symm;have x6: ¬T1=J:=fun e=>c6 e.symm;by_cases qR:qb=1
        case neg=>
          by_cases XP:(wH[t]).state=4
          case neg=>
            simp[f4,f7,f9,f11,g2,gD,gB,gT,IF,t4,t4i,Request.bS,qR,XP];refine⟨by omega,fun i hi IG=> ?_,.inr ⟨⟨⟨LI,LJ⟩,⟨Oz,J6⟩,wH⟩,⟨bk,aX,aY,⟨aM,aH⟩,aS⟩,⟨bD,bE⟩,cz,rc1,T1,R,J,_,by rw[<-B5];unfold Db;rw[if_neg qR];unfold J1;rw[if_neg (by simp only[a2a];exact XP)],rfl,⟨?_,?_,?_⟩,⟨by omega,by omega,by omega,by omega,by omega,by omega,x5,x6,c3⟩,WX,qn,ho,hl,hj,by omega,rfl⟩⟩
            · have w1: ¬i=k2:=by omega
              simp only[aR,w1,if_false];exact ot i hi IG
            · simp only[aR,e2,if_false]
              exact gT
            · simp only[aR,e3,if_false]
              exact gR
            · simp only[aR,e4,if_false]
              exact gJ
          obtain⟨m3,o3,l3,js3,rc3,hen,MG3,hl3,ho3,aud,hj3,XY⟩:=TU aP aN aQ LI LJ Oz J6 wH bk aX aY aM aH aS bD bE rc1 cz t (d+64) WX (by omega) ho hl hj (by omega) ⟨by omega,t4i⟩;rw[aaH]at XY;have X8:=Oy ⟨aP,aN,aQ⟩ ⟨⟨LI,LJ⟩,⟨Oz,J6⟩,wH⟩ ⟨bk,aX,aY,⟨aM,aH⟩,aS⟩ hl cz rc1 t;rw[XY]at X8;simp only at X8;have aue:=eq_true XP;have auf:m3.threads.length=4:=MG3.len;simp[f4,f7,f9,f11,g2,gD,gB,gT,gR,gJ,IF,WY,jkf,A5,t4,t4i,Request.bS,k9,qR,aue,hj,aaE,hen,auf,hj3,x1,x2,x4,c3,c5,c6,nB,n2,e1,e5,e6,e7];refine⟨by omega,fun i hi IG=> ?_,.inr ⟨m3,o3,l3,js3,rc3,sn+15,sn+13,sn+14,_,by rw[<-B5];unfold Db;rw[if_neg qR];unfold J1;rw[if_pos (by simp only[a2a];exact XP)];exact congrArg some XY,rfl,⟨?_,?_,?_⟩,⟨by omega,by omega,by omega,by omega,by omega,by omega,by omega,by omega,by omega⟩,MG3,hl3.trans qn,ho3,aud,hj3,by omega,rfl⟩⟩
          · have w1: ¬i=k2:=by omega
            have w2: ∀j,¬i=sn+j:=fun j=>by omega
            have w3: ¬i=B:=by omega
            have w4: ¬i=R:=by omega
            have w5: ¬i=J:=by omega
            have w6: ¬i=T1:=by omega
            simp only[aR,w1,w2,w3,w4,w5,w6,if_false];exact ot i hi IG
          · simp[aR,OA]
          · simp[aR,OA]
          · simp[aR,OA]
        have a2c:=eq_true qR;obtain⟨⟨⟨mb2,mk2⟩,⟨mc2,ml2⟩,LK⟩,⟨TK,TL,TM,⟨TN,TO⟩,TP⟩,⟨Iy,Iz⟩,wC,O9,pW,MG2,zR,KR,ae2,Af,hcx⟩:=aez aP aN aQ LI LJ Oz J6 wH bk aX aY aM aH aS bD bE rc1 cz qa qb qc qd qe qf qg qh (d+64) WX (by omega) ho hl hj (by omega) ⟨by omega,by omega⟩ QG.args QG.data QG.one QG.av QG.dv;simp only at pW zR;have OU:=WW ⟨aP,aN,aQ⟩ ⟨⟨LI,LJ⟩,⟨Oz,J6⟩,wH⟩ ⟨bk,aX,aY,⟨aM,aH⟩,aS⟩ ⟨bD,bE⟩ cz rc1 ⟨qa,qb,qc,qd,qe,qf,qg,qh⟩;rw[hcx]at OU;simp only at OU;have ae3:LK.length=4:=MG2.len;have bbn:t<LK.length:=by omega
        have a2e:cg ⟨⟨mb2,mk2⟩,⟨mc2,ml2⟩,LK⟩ t=LK[t]:=iS bbn;have K9: ∀(f:Thread->V),List.take 4 (LK.map f)=LK.map f:=fun f=>aZ (by simp;omega);have aky: ∀(f:Thread->Option V),List.take 4 (LK.map f)=LK.map f:=fun f=>aZ (by simp;omega);have bbo: ∀(f:Int->V),List.take 4 (wC.map f)=wC.map f:=fun f=>aZ (by simp;omega);by_cases XP:(LK[t]).state=4
        case neg=>
          simp[f4,f7,f9,f11,g2,gD,gB,gT,gR,gJ,IF,WY,jkf,A5,t4,t4i,Request.bS,k9,a2c,XP,hj,aaE,pW,ae3,Af,x1,x2,x4,c3,c5,c6,nB,n2,e1,e5,e6,e7];refine⟨by omega,fun i hi IG=> ?_,.inr ⟨⟨⟨mb2,mk2⟩,⟨mc2,ml2⟩,LK⟩,⟨TK,TL,TM,⟨TN,TO⟩,TP⟩,⟨Iy,Iz⟩,wC,O9,sn+7,sn+5,sn+6,_,by rw[<-B5];unfold Db;rw[if_pos qR];simp only[hcx];unfold J1;rw[if_neg (by simp only[a2e];exact XP)],rfl,⟨?_,?_,?_⟩,⟨by omega,by omega,by omega,by omega,by omega,by omega,by omega,by omega,by omega⟩,MG2,zR.trans qn,KR,ae2,Af,by omega,rfl⟩⟩
          · have w1: ¬i=k2:=by omega
            have w2: ∀j,¬i=sn+j:=fun j=>by omega
            have w3: ¬i=B:=by omega
            have w4: ¬i=R:=by omega
            have w5: ¬i=J:=by omega
            have w6: ¬i=T1:=by omega
            simp only[aR,w1,w2,w3,w4,w5,w6,if_false];exact ot i hi IG
          · simp[aR,OA]
          · simp[aR,OA]
          · simp[aR,OA]
        obtain⟨m3,o3,l3,js3,rc3,hen,MG3,hl3,ho3,aud,hj3,XY⟩:=TU aP aN aQ mb2 mk2 mc2 ml2 LK TK TL TM TN TO TP Iy Iz O9 wC t (d+64) MG2 (by omega) KR ae2 Af (by omega) ⟨by omega,t4i⟩;rw[aaH]at XY;have X8:=Oy ⟨aP,aN,aQ⟩ ⟨⟨mb2,mk2⟩,⟨mc2,ml2⟩,LK⟩ ⟨TK,TL,TM,⟨TN,TO⟩,TP⟩ ae2 wC O9 t;rw[XY]at X8;simp only at X8;have aue:=eq_true XP;have auf:m3.threads.length=4:=MG3.len;simp[f4,f7,f9,f11,g2,gD,gB,gT,gR,gJ,IF,WY,jkf,A5,t4,t4i,Request.bS,k9,a2c,aue,hj,aaE,pW,ae3,K9,bbo,Af,hen,auf,hj3,x1,x2,x4,c3,c5,c6,nB,TV,n2,e1,e5,e6,e7];refine⟨by omega,fun i hi IG=> ?_,.inr ⟨m3,o3,l3,js3,rc3,sn+20,sn+18,sn+19,_,by rw[<-B5];unfold Db;rw[if_pos qR];simp only[hcx];unfold J1;rw[if_pos (by simp only[a2e];exact XP)];exact congrArg some XY,rfl,⟨?_,?_,?_⟩,⟨by omega,by omega,by omega,by omega,by omega,by omega,by omega,by omega,by omega⟩,MG3,hl3.trans (zR.trans qn),ho3,aud,hj3,by omega,rfl⟩⟩
        · have w1: ¬i=k2:=by omega
          have w2: ∀j,¬i=sn+j:=fun j=>by omega
          have w3: ¬i=B:=by omega
          have w4: ¬i=R:=by omega
          have w5: ¬i=J:=by omega
          have w6: ¬i=T1:=by omega
          simp only[aR,w1,w2,w3,w4,w5,w6,if_false];exact ot i hi IG
        · simp[aR,OA]
        · simp[aR,OA]
        · simp[aR,OA]
      intro bb Hb;obtain⟨c1,Er⟩: ∃c,k+1=c:=⟨_,rfl⟩;obtain⟨c2,D7⟩: ∃c,k+2=c:=⟨_,rfl⟩;rw[Er]at f3 g1;rw[D7]at f4 g2;have nB: ∀j,¬B=sn+j:=fun j=>by omega
      have nR: ∀j,¬R=sn+j:=fun j=>by omega
      have nJ: ∀j,¬J=sn+j:=fun j=>by omega
      have n1: ∀j,¬c1=sn+j:=fun j=>by omega
      have n2: ∀j,¬c2=sn+j:=fun j=>by omega
      have TV: ∀j,¬sn+j=B:=fun j=>by omega
      have nR': ∀j,¬sn+j=R:=fun j=>by omega
      have q1: ¬c1=B:=by omega
      have q2: ¬c1=R:=by omega
      have q3: ¬c2=B:=by omega
      have q4: ¬c2=R:=by omega
      have q5: ¬J=B:=by omega
      have q6: ¬J=R:=by omega
      have q7: ¬R=B:=by omega
      have It:=yI aE aG aJ aK az t ⟨by omega,by omega⟩ rE;rw[aaH]at It;have qJ:(cC.length:Int)<=192:=by omega
      have pY:cC.length<=192:=bbj;cases ux with
      |false=>
        obtain⟨m1,qr,e1,WX,J6,qt1,QG1,qs1⟩:=B4 (m:=⟨⟨aE,aG⟩,⟨aJ,aK⟩,az⟩) (n:=n) HG hd t4 ⟨by omega,by omega⟩ kD;have LA:=RP aP aN aQ aE aG aJ aK az t n HG.prog.lens HG.lens HG.R;rw[e1]at LA;obtain⟨⟨LI,LJ⟩,⟨Oz,ml2⟩,wH⟩:=m1;obtain⟨qa,qb,qc,qd,qe,qf,qg,qh⟩:=qr;simp only at J6 qt1 qs1 LA;have IF:wH.length=4:=WX.len;have WY: ∀(f:Thread->V),List.take 4 (wH.map f)=wH.map f:=fun f=>aZ (by simp;omega);have auc: ∀(f:Thread->Option V),List.take 4 (wH.map f)=wH.map f:=fun f=>aZ (by simp;omega);simp[f3,f7,f8,f9,g1,gB,gR,nB,nR,TV,q7,b7,aaE,IF,LA];refine⟨⟨by omega,by omega⟩,fun _ _=> ?_⟩;apply Hb;refine⟨B,sn+35,J,sn+24,sn+20,⟨⟨LI,LJ⟩,⟨Oz,ml2⟩,wH⟩,⟨qa,qb,qc,qd,qe,qf,qg,qh⟩,cC++ [⟨1,t,n,⟨qa,qb,qc,qd,qe,qf,qg,qh⟩,⟨⟨0,0,0,0⟩,[],0,false⟩⟩],cC.map Entry.e++ [.agg [.int .i64 1,.int .i64 t,.int .i64 n,.int .i64 qa,.int .i64 qb,.int .i64 qc,.int .i64 qd,.int .i64 qe,.int .i64 qf,qg,qh,.int .u8 0,.int .u16 0,.int .i64 0,.int .i64 0,.sl false [],.int .i64 0,.bool false]],⟨by simp[aR,f4,D7],by simp[aR,f7],by simp[aR,f9],by simp[aR]⟩,⟨?_,?_,?_,?_,?_,?_⟩,⟨by omega,by simp only;omega,by omega,by simp only;omega,by omega,by simp only;omega,by omega,by simp only;omega,by omega,by simp only;omega⟩,⟨by omega,by omega,by omega,by omega,by omega,by omega,by omega,by omega,by omega,by omega⟩,?_,WX,J6,qt1,QG1,?_,?_,by unfold J4;rw[if_neg (by simp)];unfold Ow;rw[e1];rfl⟩
        · rw[D7]
          simp[aR,n2,q3,q4,g2]
        · simp[aR,TV,nR']
          rfl
        · simp[aR,zX,hj]
        · simp[aR,TV,nR']
        · simp[aR,TV]
        · simp[aR,nJ,q5,q6,gJ]
        · intro i hi IG
          have w1: ∀j,¬i=sn+j:=fun j=>by omega
          have w2: ¬i=B:=by omega
          have w3: ¬i=R:=by omega
          simp[aR,w1,w2,w3,ot i hi IG]
        · simp;omega
        · simp[Entry.bS]
      |true=>
        cases hct:F9 (az.getD t cw) with
        |false=>
         rw[hct]at It;obtain⟨m1,qr,e1,WX,J6,qt1,QG1,qs1⟩:=B4 (m:=⟨⟨aE,aG⟩,⟨aJ,aK⟩,az⟩) (n:=n) HG hd t4 ⟨by omega,by omega⟩ kD;have LA:=RP aP aN aQ aE aG aJ aK az t n HG.prog.lens HG.lens HG.R;rw[e1]at LA;obtain⟨⟨LI,LJ⟩,⟨Oz,ml2⟩,wH⟩:=m1;obtain⟨qa,qb,qc,qd,qe,qf,qg,qh⟩:=qr;simp only at J6 qt1 qs1 LA;have IF:wH.length=4:=WX.len;have WY: ∀(f:Thread->V),List.take 4 (wH.map f)=wH.map f:=fun f=>aZ (by simp;omega);have auc: ∀(f:Thread->Option V),List.take 4 (wH.map f)=wH.map f:=fun f=>aZ (by simp;omega);simp[f3,f7,f8,f9,g1,gB,gR,nB,nR,TV,q7,b7,aaE,IF,It,LA];refine⟨⟨by omega,by omega⟩,fun _ _=> ?_⟩;apply Hb;refine⟨B,sn+35,J,sn+24,sn+20,⟨⟨LI,LJ⟩,⟨Oz,ml2⟩,wH⟩,⟨qa,qb,qc,qd,qe,qf,qg,qh⟩,cC++ [⟨1,t,n,⟨qa,qb,qc,qd,qe,qf,qg,qh⟩,⟨⟨0,0,0,0⟩,[],0,false⟩⟩],cC.map Entry.e++ [.agg [.int .i64 1,.int .i64 t,.int .i64 n,.int .i64 qa,.int .i64 qb,.int .i64 qc,.int .i64 qd,.int .i64 qe,.int .i64 qf,qg,qh,.int .u8 0,.int .u16 0,.int .i64 0,.int .i64 0,.sl false [],.int .i64 0,.bool false]],⟨by simp[aR,f4,D7],by simp[aR,f7],by simp[aR,f9],by simp[aR]⟩,⟨?_,?_,?_,?_,?_,?_⟩,⟨by omega,by simp only;omega,by omega,by simp only;omega,by omega,by simp only;omega,by omega,by simp only;omega,by omega,by simp only;omega⟩,⟨by omega,by omega,by omega,by omega,by omega,by omega,by omega,by omega,by omega,by omega⟩,?_,WX,J6,qt1,QG1,?_,?_,by unfold J4;rw[if_neg (fun h=>by have h2:=h.2;rw[show cg ⟨⟨aE,aG⟩,⟨aJ,aK⟩,az⟩ t=az.getD t cw from rfl,hct]at h2;cases h2)];unfold Ow;rw[e1];rfl⟩
         · rw[D7]
           simp[aR,n2,q3,q4,g2]
         · simp[aR,TV,nR']
           rfl
         · simp[aR,zX,hj]
         · simp[aR,TV,nR']
         · simp[aR,TV]
         · simp[aR,nJ,q5,q6,gJ]
         · intro i hi IG
           have w1: ∀j,¬i=sn+j:=fun j=>by omega
           have w2: ¬i=B:=by omega
           have w3: ¬i=R:=by omega
           simp[aR,w1,w2,w3,ot i hi IG]
         · simp;omega
         · simp[Entry.bS]
        |true=>
         rw[hct]at It;have a2h:F9 (cg ⟨⟨aE,aG⟩,⟨aJ,aK⟩,az⟩ t)=true:=hct;obtain⟨HG2,Oq,YY⟩:=ak5 HG t4 a2h;obtain⟨⟨st,rg,pc,co,ha,sa,tr,cd⟩,pO⟩: ∃x,cg ⟨⟨aE,aG⟩,⟨aJ,aK⟩,az⟩ t=x:=⟨_,rfl⟩;have hmm:yW ⟨⟨aE,aG⟩,⟨aJ,aK⟩,az⟩ t=⟨⟨aE,aG⟩,⟨aJ,aK⟩,az.set t ⟨st,rg,ha,co,ha,pc,tr,cd⟩⟩:=by unfold yW;rw[pO]
         have Py:=WC aE aG aJ aK az t ⟨aP,aN,aQ⟩ d HG ⟨by omega,by omega⟩ (by rw[aaH];exact hct);rw[aaH,hmm]at Py;simp only at Py;have aug:=HG2;rw[hmm]at aug;obtain⟨m1,qr,e1,WX,J6,qt1,QG1,qs1⟩:=B4 (m:=yW ⟨⟨aE,aG⟩,⟨aJ,aK⟩,az⟩ t) (n:=n) HG2 hd t4 ⟨by omega,by omega⟩ YY;have LA:=RP aP aN aQ aE aG aJ aK (az.set t ⟨st,rg,ha,co,ha,pc,tr,cd⟩) t n HG.prog.lens aug.lens aug.R;rw[<-hmm,e1]at LA;obtain⟨⟨LI,LJ⟩,⟨Oz,ml2⟩,wH⟩:=m1;obtain⟨qa,qb,qc,qd,qe,qf,qg,qh⟩:=qr;simp only[hmm]at J6 qt1 qs1 LA;obtain⟨LK,ae3⟩: ∃x,az.set t ⟨st,rg,ha,co,ha,pc,tr,cd⟩=x:=⟨_,rfl⟩;rw[ae3]at LA Py;have vW:LK.length=4:=by rw[<-ae3];simp[rE]
         have K9: ∀(f:Thread->V),List.take 4 (LK.map f)=LK.map f:=fun f=>aZ (by simp;omega);have aky: ∀(f:Thread->Option V),List.take 4 (LK.map f)=LK.map f:=fun f=>aZ (by simp;omega);have IF:wH.length=4:=WX.len;have WY: ∀(f:Thread->V),List.take 4 (wH.map f)=wH.map f:=fun f=>aZ (by simp;omega);have auc: ∀(f:Thread->Option V),List.take 4 (wH.map f)=wH.map f:=fun f=>aZ (by simp;omega);simp[f3,f7,f8,f9,g1,gB,gR,nB,nR,TV,nR',q7,b7,aaE,IF,It,Py,vW,K9,LA];refine⟨⟨by omega,by omega⟩,fun _ _=>⟨⟨by omega,by omega⟩,fun _ _=> ?_⟩⟩;apply Hb;refine⟨B,sn+53,J,sn+42,sn+38,⟨⟨LI,LJ⟩,⟨Oz,ml2⟩,wH⟩,⟨qa,qb,qc,qd,qe,qf,qg,qh⟩,cC++ [⟨3,t,0,⟨0,0,0,0,0,0,[],[]⟩,⟨⟨0,0,0,0⟩,[],0,false⟩⟩,⟨1,t,n,⟨qa,qb,qc,qd,qe,qf,qg,qh⟩,⟨⟨0,0,0,0⟩,[],0,false⟩⟩],cC.map Entry.e++ [Entry.e ⟨3,t,0,⟨0,0,0,0,0,0,[],[]⟩,⟨⟨0,0,0,0⟩,[],0,false⟩⟩,.agg [.int .i64 1,.int .i64 t,.int .i64 n,.int .i64 qa,.int .i64 qb,.int .i64 qc,.int .i64 qd,.int .i64 qe,.int .i64 qf,qg,qh,.int .u8 0,.int .u16 0,.int .i64 0,.int .i64 0,.sl false [],.int .i64 0,.bool false]],⟨by simp[aR,f4,D7],by simp[aR,f7],by simp[aR,f9],by simp[aR]⟩,⟨?_,?_,?_,?_,?_,?_⟩,⟨by omega,by simp only;omega,by omega,by simp only;omega,by omega,by simp only;omega,by omega,by simp only;omega,by omega,by simp only;omega⟩,⟨by omega,by omega,by omega,by omega,by omega,by omega,by omega,by omega,by omega,by omega⟩,?_,WX,J6,qt1,QG1,?_,?_,by unfold J4;rw[if_pos ⟨rfl,a2h⟩];unfold Ow;rw[e1,acr];rfl⟩
         · rw[D7]
           simp[aR,n2,q3,q4,g2]
         · simp[aR,TV]
           rfl
         · simp[aR,zX,hj]
         · simp[aR,TV]
         · simp[aR,TV]
           rw[aZ (by simp)];simp[Entry.bS]
         · simp[aR,nJ,q5,q6,gJ]
         · intro i hi IG
           have w1: ∀j,¬i=sn+j:=fun j=>by omega
           have w2: ¬i=B:=by omega
           have w3: ¬i=R:=by omega
           simp[aR,w1,w2,w3,ot i hi IG]
         · simp;omega
         · simp[Entry.bS]
    intro bb Hb;have e0: ∀j,¬k=k1+j:=fun j=>by omega
    have e1: ∀j,¬k+1=k1+j:=fun j=>by omega
    have e2: ∀j,¬k+2=k1+j:=fun j=>by omega
    have T9:T<k+9:=by omega
    rcases hR with rfl|⟨R,es0,hRk,rfl,hRr,IZ⟩
    · rcases hJ with rfl|⟨J,hJk,rfl,hJr⟩
      · simp[J5,Pz,aaE,hTr,rE,nT0,nT,T9,tM,eR,GR,r0m,i3,d1,xl,xli,hmo,hmb,qM,hn,hqt,TB]
        apply Hb;refine⟨k1+23,k1+25,k1+26,⟨by simp[aR],by simp[aR],by simp[aR],by simp[aR],by simp[aR]⟩,⟨?_,?_,?_,?_,?_⟩,⟨by omega,by simp only;omega,by omega,by simp only;omega,by omega,by simp only;omega,by omega,by omega,by omega⟩,fun i hi IG=> ?_⟩
        · simp[aR,e0,nT']
        · simp[aR,e0,nT']
          rfl
        · simp[aR,hj]
        · simp[aR]
        · simp[aR]
        · obtain⟨f1,f2,f3⟩:=hF i IG
          have g0: ¬i=k:=by omega
          have g1: ∀j,¬i=k+j:=fun j=>by omega
          have g2: ∀j,¬i=k1+j:=fun j=>by omega
          have g3:i<k+9:=by omega
          simp[aR,f1,g0,g1,g2,g3]
      · have TJ: ¬T=J:=fun e=>hA.2.1 cz.length (by rw[e])
        have JT: ¬J=T:=fun e=>TJ e.symm;have nJ: ∀j,¬J=k+j:=fun j=>by omega
        have nJ': ∀j,¬k+j=J:=fun j=>by omega
        have nJ0: ¬J=k:=by omega
        have bbq: ¬k=J:=by omega
        have J9:J<k+9:=by omega
        simp[J5,Pz,aaE,hTr,rE,nT0,nT,T9,tM,eR,GR,r0m,i3,d1,xl,xli,hmo,hmb,qM,hn,hqt,TB,hJr,nJ,nJ0,J9,JT];apply Hb;refine⟨k1+23,k1+25,k1+26,⟨by simp[aR],by simp[aR],by simp[aR],by simp[aR],by simp[aR]⟩,⟨?_,?_,?_,?_,?_⟩,⟨by omega,by simp only;omega,by omega,by simp only;omega,by omega,by simp only;omega,by omega,by omega,by omega⟩,fun i hi IG=> ?_⟩
        · simp[aR,e0,nT',nJ']
        · simp[aR,e0,nT',nJ']
          rfl
        · simp[aR,hj]
        · simp[aR]
        · simp[aR]
        · obtain⟨f1,f2,f3⟩:=hF i IG
          have g0: ¬i=k:=by omega
          have g1: ∀j,¬i=k+j:=fun j=>by omega
          have g2: ∀j,¬i=k1+j:=fun j=>by omega
          have g3:i<k+9:=by omega
          have g4: ¬i=J:=fun e=>f3 cz.length (by rw[e]);simp[aR,f1,g0,g1,g2,g3,g4]
    · subst IZ
      have TR: ¬T=R:=fun e=>hA.1 cC.length (by rw[e]);have RT: ¬R=T:=fun e=>TR e.symm;have nR: ∀j,¬R=k+j:=fun j=>by omega
      have nR': ∀j,¬k+j=R:=fun j=>by omega
      have nR0: ¬R=k:=by omega
      have brv: ¬k=R:=by omega
      have R9:R<k+9:=by omega
      rcases hJ with rfl|⟨J,hJk,rfl,hJr⟩
      · simp[J5,Pz,aaE,hTr,rE,nT0,nT,T9,tM,eR,GR,r0m,i3,d1,xl,xli,hmo,hmb,qM,hn,hqt,TB,hRr,nR,nR0,R9,RT]
        apply Hb;refine⟨k1+23,k1+25,k1+26,⟨by simp[aR],by simp[aR],by simp[aR],by simp[aR],by simp[aR]⟩,⟨?_,?_,?_,?_,?_⟩,⟨by omega,by simp only;omega,by omega,by simp only;omega,by omega,by simp only;omega,by omega,by omega,by omega⟩,fun i hi IG=> ?_⟩
        · simp[aR,e0,nT',nR']
        · simp[aR,e0,nT',nR']
          rfl
        · simp[aR,hj]
        · simp[aR]
        · simp[aR]
        · obtain⟨f1,f2,f3⟩:=hF i IG
          have g0: ¬i=k:=by omega
          have g1: ∀j,¬i=k+j:=fun j=>by omega
          have g2: ∀j,¬i=k1+j:=fun j=>by omega
          have g3:i<k+9:=by omega
          have g5: ¬i=R:=fun e=>f2 cC.length (by rw[e]);simp[aR,f1,g0,g1,g2,g3,g5]
      · have TJ: ¬T=J:=fun e=>hA.2.1 cz.length (by rw[e])
        have JT: ¬J=T:=fun e=>TJ e.symm;have RJ: ¬R=J:=fun e=>hA.2.2 R cC.length cz.length rfl (by rw[e]);have JR: ¬J=R:=fun e=>RJ e.symm;have nJ: ∀j,¬J=k+j:=fun j=>by omega
        have nJ': ∀j,¬k+j=J:=fun j=>by omega
        have nJ0: ¬J=k:=by omega
        have bbq: ¬k=J:=by omega
        have J9:J<k+9:=by omega
        simp[J5,Pz,aaE,hTr,rE,nT0,nT,T9,tM,eR,GR,r0m,i3,d1,xl,xli,hmo,hmb,qM,hn,hqt,TB,hRr,nR,nR0,R9,RT,hJr,nJ,nJ0,J9,JT,JR];apply Hb;refine⟨k1+23,k1+25,k1+26,⟨by simp[aR],by simp[aR],by simp[aR],by simp[aR],by simp[aR]⟩,⟨?_,?_,?_,?_,?_⟩,⟨by omega,by simp only;omega,by omega,by simp only;omega,by omega,by simp only;omega,by omega,by omega,by omega⟩,fun i hi IG=> ?_⟩
        · simp[aR,e0,nT',nR',nJ']
        · simp[aR,e0,nT',nR',nJ']
          rfl
        · simp[aR,hj]
        · simp[aR]
        · simp[aR]
        · obtain⟨f1,f2,f3⟩:=hF i IG
          have g0: ¬i=k:=by omega
          have g1: ∀j,¬i=k+j:=fun j=>by omega
          have g2: ∀j,¬i=k1+j:=fun j=>by omega
          have g3:i<k+9:=by omega
          have g4: ¬i=J:=fun e=>f3 cz.length (by rw[e]);have g5: ¬i=R:=fun e=>f2 cC.length (by rw[e]);simp[aR,f1,g0,g1,g2,g3,g4,g5]
@[simp]def al2(ax:List Instr)(ae:List Int)(ay:List (List Int))(aw:List Int)(bK:Int)(hp:rn (Prog.mk ax ae ay))(hL:ov aw ae):nr X [(0,4,112)] 20 [KKQ ax ae ay,KKc aw bK]=some (.dM [KKK (gF (Prog.mk ax ae ay) (Layout.mk aw bK)),.int .i64 0]):=by
 refine aaC ?_;have hz:=hp.an;simp only at hz;have z4:=hz.le;have hlen:ay.length=ae.length:=hp.len;have hb:aw.length=ae.length:=hL.len;have lj:=mU.2 hL;have sw:jq (Prog.mk ax ae ay)=0:=zH hp;have XK:ax.length<=64:=hp.rp;have b1:aw.length<=1000000000/\ae.length<=1000000000:=by omega
 have b2:ay.length<=1000000000:=by omega
 have b3:ax.length<=1000000000:=by omega
 have b4:aw.length<=4:=by omega
 simp[dO,hp,hL,lj,sw,b1,b2,b3,gF];all_goals ((repeat' (first|apply And.intro|intro _))<;>first|omega|rfl)
def iz:bX:=⟨[-1, -1, -1, -1],[[],[],[],[]]⟩
def OB:jR iz:=by
 refine⟨rfl,rfl,fun i hi=> ?_,fun i hi=> ?_⟩
 ·have:i=0\/i=1\/i=2\/i=3:=by simp[iz]at hi;omega
  rcases this with rfl|rfl|rfl|rfl<;>simp[iz]
 ·have:i=0\/i=1\/i=2\/i=3:=by simp[iz]at hi;omega
  rcases this with rfl|rfl|rfl|rfl<;>(refine⟨?_,?_⟩<;>simp[iz])
@[simp]def al3(ax:List Instr)(ae:List Int)(ay:List (List Int))(aw:List Int)(bK:Int)(cJ bZ:List Int)(bV:List (List Int))(bp:List (List Canon))(bm:List fO)(bI:List Output)(hp:rn (Prog.mk ax ae ay))(hL:ov aw ae)(ho:wm (cS.mk cJ bZ bV (bJ.mk bp bm) bI))(Br:lY ae bp=true):nr X [(0,7,112)] 64 [KKQ ax ae ay,KKc aw bK,KKn cJ bZ bV bp bm bI]=some (.dM [KKX (uL.mk (Prog.mk ax ae ay) (gF (Prog.mk ax ae ay) (Layout.mk aw bK)) (cS.mk cJ bZ bV (bJ.mk bp bm) bI) iz [] [-1, -1, -1, -1]),.int .i64 0]):=by
 refine aaC ?_;have kD:=al2 ax ae ay aw bK hp hL;obtain⟨⟨⟨mb,mk⟩,⟨mc,ml⟩,mt⟩,hm⟩: ∃m,gF (Prog.mk ax ae ay) (Layout.mk aw bK)=m:=⟨_,rfl⟩;have rE:mt.length=4:=by have:=congrArg (fun m=>m.threads.length) hm;simpa[gF] using this.symm
 have tM: ∀(f:Thread->V),List.take 4 (mt.map f)=mt.map f:=fun f=>aZ (by simp;omega);have RQ: ∀(f:Thread->Option V),List.take 4 (mt.map f)=mt.map f:=fun f=>aZ (by simp;omega);rw[hm]at kD⊢;simp only at kD⊢;have hv:=Ak cJ bZ bV bp bm bI ho;have hf:=ho.files;simp only at hf;have hf1:bp.length<=1000000000:=by have:=hf.data;simp only at this;omega
 have hf2: ∀i (h:i<bp.length),(bp[i]).length<=1000000000:=fun i h=>by have:=(hf.each i h).2;simp only at this;omega
 simp[dO,kD,ho,hf1,hf2,Br,rE,tM,k9,iz];rfl
def ae5{l:List Int}{k:Int}(h:eh l k):eh l (Jv l k):=eJ (asr (CJ (eJ (AQ (Jr h) _)) _))
def Lm(p:Prog)(m:aO)(T:Nat)(o:cS)(l:bX)(vR vJ:V):V:= .agg [.sl false (p.code.map Instr.e),.sl false (p.an.map (V.int .i64)),.sl false (p.data.map aV),.sl false (m.layout.aD.map (V.int .i64)),.int .u16 m.layout.key,.sl false (m.memory.cells.map Cell.e),.sl false (m.memory.lines.map cy.e),.cu T 0 4,.sl false (o.clock.map (V.int .u16)),.sl false (o.random.map (V.int .u16)),.sl false (o.dp.map aV),.sl false (o.files.data.map bw),.sl false (o.files.opens.map fO.e),.sl false (o.dG.map Output.e),.sl false (l.owner.map (V.int .i64)),.sl false (l.queue.map dc),vR,vJ]
structure Ln (p:Prog) (d:Int) (c:Nat) (h:bh) (k T:Nat) (vR vJ:V) (m:aO) (o:cS) (l:bX) (js:List Int) (rc:List Entry):Prop where
 row:h T=some ⟨8,m.threads.map Thread.e,false⟩
 rcd:apt h k rc vR
 jns:apu h k js vJ
 lt:c<=T/\T<k
 loR: ∀i n,vR= .cu i 0 n->c<=i
 loJ: ∀i n,vJ= .cu i 0 n->c<=i
 sep:(∀n,vR≠ .cu T 0 n)/\(∀n,vJ≠ .cu T 0 n)/\ ∀i n m,vR= .cu i 0 n->vJ≠ .cu i 0 m
 IB:db p d m
 outs:uo o
 v8:jR l
 Sh:js.length=4
 a2i:rc.length<=300
def Ln.mono{d:Int}(H:Ln p d c h k T vR vJ m o l js rc)(hk:k<=k')(hh: ∀i,c<=i->i<k->h' i=h i):Ln p d c h' k' T vR vJ m o l js rc:=by
 obtain⟨h1,h2,h3,h4,h5,h6,h7,h8,h9,zx,FP,LC⟩:=H;refine⟨by rw[hh _ h4.1 h4.2,h1],?_,?_,⟨h4.1,by omega⟩,h5,h6,h7,h8,h9,zx,FP,LC⟩
 ·rcases h2 with e|⟨R,es,q1,q2,q3,q4⟩
  ·exact .inl e
  ·exact .inr ⟨R,es,by omega,q2,by rw[hh _ (h5 _ _ q2) q1,q3],q4⟩
 ·rcases h3 with e|⟨R,q1,q2,q3⟩
  ·exact .inl e
  ·exact .inr ⟨R,by omega,q2,by rw[hh _ (h6 _ _ q2) q1,q3]⟩
def Ln.a2j{d d':Int}(H:Ln p d c h k T vR vJ m o l js rc)(hc:c'<=c)(hd:d<=d'):Ln p d' c' h k T vR vJ m o l js rc:=by
 obtain⟨h1,h2,h3,h4,h5,h6,h7,h8,h9,zx,FP,LC⟩:=H;exact⟨h1,h2,h3,⟨by omega,h4.2⟩,fun i n e=>by have:=h5 i n e;omega,fun i n e=>by have:=h6 i n e;omega,h7,h8.mono hd,h9,zx,FP,LC⟩
inductive Lo (p:Prog) (s0:RS):Nat->RS->Prop where
 |zero:Lo p s0 0 s0
 |next {k:Nat} {s s':RS} (ct cb:Int) (sg:Bool):Lo p s0 k s->Ox p s.1 s.2.1 s.2.2.1 s.2.2.2.1 s.2.2.2.2 ct cb sg=some s'->Lo p s0 (k+1) s'
structure ae6 (p:Prog) (ly:Layout) (o:cS):Prop where
 prog:rn p
 EA:ad9 p
 lay:ov ly.aD p.an
 key:0<=ly.key/\ly.key<=65535
 outs:nz o
 prop:lY p.an o.files.data=true
def Dc(p:Prog)(lay:Layout)(o:cS):RS:=(gF p lay,o,iz,[-1, -1, -1, -1],[])
def Dd(dl:List Int)(v:V)(h:bh)(k:Nat):Prop:=
 ∃(kt:Int) (p:Prog) (d:Int) (T:Nat) (vR vJ:V) (m:aO) (o:cS) (l:bX) (js:List Int) (rc:List Entry),v=Lm p m T o l vR vJ/\h 0=some ⟨2,[KKa dl kt],true⟩/\Ln p d 1 h k T vR vJ m o l js rc/\eh dl kt/\d<=2000/\ ∃(lay:Layout) (o0:cS) (n:Nat),n<=20/\ae6 p lay o0/\Lo p (Dc p lay o0) n (m,o,l,js,rc)
def bbr(dl:List Int)(p:Prog)(lay:Layout)(o0:cS)(N i:Nat)(S:St):Prop:= ∃(kt:Int) (T:Nat) (vR vJ:V) (m:aO) (o:cS) (l:bX) (js:List Int) (rc:List Entry),
 (S.f 0= .ptr 0 0 0/\S.f 2= .ptr 1 0 0/\S.f 4= .ptr 17 0 0/\S.f 6= .int .i64 ((N:Int)-i))/\
 (S.h 0=some ⟨2,[KKa dl kt],true⟩/\S.h 1=some ⟨18,[IE],true⟩/\S.h 17=some ⟨18,[Lm p m T o l vR vJ],true⟩)/\
 Ln p (64*(i:Int)) 18 S.h S.n T vR vJ m o l js rc/\m.layout=lay/\eh dl kt/\18<=S.n/\Lo p (Dc p lay o0) i (m,o,l,js,rc)
@[simp]def a2k(bN:List Int)(aW:Int)(hd:eh bN aW): ∃v h k,cL X 19 [.ptr 0 0 0] (ma X 19 2 ((KKa bN aW:V))) 1=some (v,h,k)/\Dd bN v h k:=by
 have hP:=zU bN aW hd;obtain⟨hpv,cu⟩:=ad8 bN aW;have hd1:=ae5 hd;obtain⟨⟨pc,ps,pd⟩,hp⟩: ∃p,sH bN aW=p:=⟨_,rfl⟩;rw[hp]at hP hpv cu;obtain⟨k1,Eo⟩: ∃k,Jv bN aW=k:=⟨_,rfl⟩;rw[Eo]at hP hd1;have hz:=hpv.an;simp only at hz hP;have hL:=AN bN k1 ps hd1 hz;have hLP:=Lc (cQ:=eZ bN k1 1048576) hz (eX bN k1 (by omega)).1;have hkr:=DS (40503*eZ bN k1 1048576);have XD:=eJ hd1;obtain⟨mb,hmb⟩: ∃b,fG ps (eZ bN k1 1048576)=b:=⟨_,rfl⟩;obtain⟨mk,Hn⟩: ∃b,IntKind.u16.wrap (40503*eZ bN k1 1048576)=b:=⟨_,rfl⟩;obtain⟨k2,xX⟩: ∃k,dI bN k1=k:=⟨_,rfl⟩;rw[hmb,Hn,xX]at hL;rw[hmb]at hLP;rw[Hn]at hkr;rw[xX]at XD;have hO:=zW bN k2 XD;have hOG:=ald bN k2;have hOp:=Le bN k2 ps;have hd3:=ad6 XD;obtain⟨⟨oc,orr,oi,⟨od,oo⟩,ou⟩,ho⟩: ∃o,u5 bN k2=o:=⟨_,rfl⟩;obtain⟨k3,hk3⟩: ∃k,N7 bN k2=k:=⟨_,rfl⟩;rw[ho,hk3]at hO;rw[ho]at hOG hOp;rw[hk3]at hd3;simp only at hO hL hOp;have hB:=al3 pc ps pd mb mk oc orr oi od oo ou hpv hLP hOG.p hOp;have NZ:db ⟨pc,ps,pd⟩ 0 (gF ⟨pc,ps,pd⟩ ⟨mb,mk⟩):=JV hpv cu hLP hkr;obtain⟨⟨⟨mb',mk'⟩,⟨mc,ml⟩,mt⟩,hm⟩: ∃m,gF ⟨pc,ps,pd⟩ ⟨mb,mk⟩=m:=⟨_,rfl⟩;rw[hm]at hB NZ;have hRS:ae6 ⟨pc,ps,pd⟩ ⟨mb,mk⟩ ⟨oc,orr,oi,⟨od,oo⟩,ou⟩:=⟨hpv,cu,hLP,hkr,hOG,hOp⟩;have rE:mt.length=4:=NZ.len;have Lw:=eX bN k3 (n:=16) (by omega);obtain⟨N,hN⟩: ∃N:Nat,3+eZ bN k3 16=N:=⟨(3+eZ bN k3 16).toNat,by omega⟩;have hwN:IntKind.i64.wrap (3+eZ bN k3 16)=N:=by rw[hN];exact wrap_i64 (by omega)
 have hNx:=lJ bN k3 16 hd3 (by omega);have hd4:=eJ hd3;simp only[iz]at hB;simp only at hNx;refine aaB ?_;simp[hP,hL,hO,hB,hNx,hwN,rE];have fin: ∀(H:bh) (x:Option Ob) (K K':Nat) (kt d:Int) (T:Nat) (vR vJ:V) (m:aO) (o:cS) (l:bX) (js:List Int) (rc:List Entry),H 0=some ⟨2,[KKa bN kt],true⟩->Ln ⟨pc,ps,pd⟩ d 18 H K T vR vJ m o l js rc->eh bN kt->d<=2000->K<=K'->18<=K-> ∀n,n<=20->Lo ⟨pc,ps,pd⟩ (Dc ⟨pc,ps,pd⟩ ⟨mb,mk⟩ ⟨oc,orr,oi,⟨od,oo⟩,ou⟩) n (m,o,l,js,rc)->Dd bN (Lm ⟨pc,ps,pd⟩ m T o l vR vJ) (aR H 1 x) K':=fun H x K K' kt d T vR vJ m o l js rc h0 HR vr XD hK hK2 n hn hRR=>
  ⟨kt,_,d,T,vR,vJ,m,o,l,js,rc,rfl,by simpa[aR] using h0,(HR.mono hK fun i h1 _=>by rw[aR,if_neg (by omega)]).a2j (by omega) (by omega),vr,XD,⟨mb,mk⟩,_,n,hn,hRS,hRR⟩
 refine lS (fun i S=>bbr bN ⟨pc,ps,pd⟩ ⟨mb,mk⟩ ⟨oc,orr,oi,⟨od,oo⟩,ou⟩ N i S) N ?_ 0 (by omega) ?_
 ·rintro i S hi ⟨kt,T,vR,vJ,m,o,l,js,rc,⟨f0,f2,f4,f6⟩,⟨h0,h1,h17⟩,HR,qn,vr,ve,hRR⟩;unfold Lm at h17;by_cases gY:i<N
  case neg=>
   have bL: ¬(0:Int)<(N:Int)-i:=by omega
   unfold IE at h1;simp[f2,f4,f6,h1,h17,gY];exact fin S.h _ S.n _ _ _ _ _ _ _ _ _ _ _ h0 HR vr (by omega) (by omega) ve i (by omega) hRR
  have bL:(0:Int)<(N:Int)-i:=by omega
  have hch:=AO bN kt vr;have aui:=eJ (eJ (eJ vr));obtain⟨zk,a2m⟩: ∃k,dI bN (dI bN (dI bN kt))=k:=⟨_,rfl⟩;obtain⟨⟨c1,c2,c3⟩,s7⟩: ∃c,acd bN kt=c:=⟨_,rfl⟩;rw[a2m,s7]at hch;rw[a2m]at aui;simp only at hch;obtain⟨⟨LI,LJ⟩,⟨Oz,J6⟩,wH⟩:=m;obtain⟨oc1,or1,oi1,⟨od1,oo1⟩,ou1⟩:=o;obtain⟨lo1,lq1⟩:=l;simp only at h17;have hw:IntKind.i64.wrap ((N:Int)-i-1)=(N:Int)-(i+1:Nat):=by rw[wrap_i64 (by omega)];omega
  have NX: ∀(hE:bh) (kE:Nat),S.n<=kE->(∀j,18<=j->j<S.n->hE j=S.h j)-> ∃v h' k',cL X 67 [Lm ⟨pc,ps,pd⟩ ⟨⟨LI,LJ⟩,⟨Oz,J6⟩,wH⟩ T ⟨oc1,or1,oi1,⟨od1,oo1⟩,ou1⟩ ⟨lo1,lq1⟩ vR vJ,.agg [.int .i64 c1,.int .i64 c2,.bool c3]] hE kE=some (v,h',k')/\apv ⟨pc,ps,pd⟩ (64*(i:Int)) (Ox ⟨pc,ps,pd⟩ ⟨⟨LI,LJ⟩,⟨Oz,J6⟩,wH⟩ ⟨oc1,or1,oi1,⟨od1,oo1⟩,ou1⟩ ⟨lo1,lq1⟩ js rc c1 c2 c3) ⟨LI,LJ⟩ hE kE (fun j=>j<18) v h' k':=fun hE kE hk hh=>by
   obtain⟨g1,g2,g3,g4,g5,g6,g7,g8,g9,IH,g11,g12⟩:=HR.mono hk hh;exact aua pc ps pd LI LJ Oz J6 wH oc1 or1 oi1 od1 oo1 ou1 lo1 lq1 rc js c1 c2 c3 hE kE T vR vJ _ (64*(i:Int)) ⟨g4.2,g1⟩ g2 g3 g8 (by omega) g9 IH g11 (fun j hj=>⟨by omega,fun n e=>by have:=g5 _ _ e;omega,fun n e=>by have:=g6 _ _ e;omega⟩) g7 (by omega)
  unfold Lm at NX;simp only at NX;obtain⟨v,h',k',eN,qT,ot,a2n⟩:=NX (aR (aR S.h 0 none) 0 (some ⟨2,[KKa bN zk],true⟩)) (S.n+12) (by omega) (fun j a b=>by rw[aR,if_neg (by omega),aR,if_neg (by omega)]);have g0:=ot 0 (by omega) (by omega);have g1:=ot 1 (by omega) (by omega);have g17:=ot 17 (by omega) (by omega);have u0:(aR (aR S.h 0 none) 0 (some ⟨2,[KKa bN zk],true⟩)) 0=some ⟨2,[KKa bN zk],true⟩:=by simp[aR]
  have u1:(aR (aR S.h 0 none) 0 (some ⟨2,[KKa bN zk],true⟩)) 1=some ⟨18,[IE],true⟩:=by simp[aR,h1]
  have u17:(aR (aR S.h 0 none) 0 (some ⟨2,[KKa bN zk],true⟩)) 17=S.h 17:=by simp[aR]
  rw[u0]at g0;rw[u1]at g1;rw[u17,h17]at g17;have w1: ¬S.n=8:=by omega
  have w2: ¬17=S.n+9:=by omega
  rcases a2n with⟨_,e,he,rfl,m8⟩|⟨m2,o2,l2,wC,O9,T2,R2,J2,es2,Bt,rfl,⟨q1,q2,q3⟩,⟨p1,p2,p3,p4,p5,p6,p7,p8,p9⟩,MG2,zR,KR,ae2,Af,OU,bbv⟩
  ·have e0: ¬e=0:=by omega
   unfold IE at eN g1;simp[f0,f2,f4,f6,h0,h17,gY,hch,eN,g1,g17,e0,aaE,w2];refine fin _ _ (k'+1) _ _ _ _ _ _ ⟨⟨LI,LJ⟩,⟨Oz,J6⟩,wH⟩ ⟨oc1,or1,oi1,⟨od1,oo1⟩,ou1⟩ ⟨lo1,lq1⟩ _ _ (by simp[aR,g0]) (HR.mono (by omega) fun j a b=> ?_) aui (by omega) (by omega) (by omega) i (by omega) hRR;rw[aR,if_neg (by omega),aR,if_neg (by omega),m8 j (by omega),aR,if_neg (by omega),aR,if_neg (by omega)]
  ·subst bbv;unfold zX at eN;unfold IE at g1;simp[f0,f4,f6,h0,h17,gY,hch,eN,g17,aaE,w2,hw];refine⟨zk,T2,.cu R2 0 O9.length,.cu J2 0 4,m2,o2,l2,wC,O9,⟨by simp[aR,f0],by simp[aR,f2],by simp[aR,f4],by simp[aR]⟩,⟨by simp[aR,g0],?_,?_⟩,?_,zR.trans qn,aui,by simp only;omega,.next _ _ _ hRR Bt⟩
   ·simp[aR,g1];rfl
   ·simp[aR];rfl
   ·have y1: ∀j,S.n+12<=j-> ¬j=S.n+9:=fun j hj=>by omega
    have y2: ∀j,S.n+12<=j-> ¬j=17:=fun j hj=>by omega
    refine⟨?_,.inr ⟨R2,_,?_,rfl,?_,rfl⟩,.inr ⟨J2,?_,by rw[Af],?_⟩,⟨by omega,?_⟩,fun i n e=> ?_,fun i n e=> ?_,⟨fun n e=> ?_,fun n e=> ?_,fun i n m e1 e2=> ?_⟩,MG2.mono (by omega),KR,ae2,Af,OU⟩
    ·simp[aR,y1 T2 p1,y2 T2 p1,q1]
    ·simp only;omega
    ·simp[aR,y1 R2 p3,y2 R2 p3,q2]
    ·simp only;omega
    ·simp[aR,y1 J2 p5,y2 J2 p5,q3]
    ·simp only;omega
    ·cases e;omega
    ·cases e;omega
    ·cases e;omega
    ·cases e;omega
    ·cases e1;cases e2;omega
 ·simp[];refine⟨dI bN k3,20,.sl false [],.sl false [.int .i64 (-1),.int .i64 (-1),.int .i64 (-1),.int .i64 (-1)],⟨⟨mb',mk'⟩,⟨mc,ml⟩,mt⟩,⟨oc,orr,oi,⟨od,oo⟩,ou⟩,⟨[-1, -1, -1, -1],[[],[],[],[]]⟩,[-1, -1, -1, -1],[],⟨by simp[aR],by simp[aR],by simp[aR],by simp[aR]⟩,⟨by simp[aR],by simp[aR,IE],?_⟩,⟨?_,.inl rfl,.inl rfl,⟨by omega,by simp only;omega⟩,fun i n e=> ?_,fun i n e=> ?_,⟨fun n e=> ?_,fun n e=> ?_,fun i n m e1 e2=> ?_⟩,NZ.mono (by omega),.inl hOG,OB,rfl,by simp⟩,?_,hd4,by simp only;omega,by rw[<-hm];exact .zero⟩
  ·simp[aR,Lm]
  ·simp[aR]
  ·cases e
  ·cases e
  ·cases e
  ·cases e
  ·cases e1
  ·have:=congrArg aO.layout hm;exact this.symm
def Dd.io(H:Dd dl v h k): ∃(kt:Int) (p:Prog) (d:Int) (m:aO) (o:cS) (l:bX) (js:List Int) (rc:List Entry),
  x8 X [(1,7,112)] v h=some (2,(KKa dl kt:V),[(KKJ p.code p.an p.data m.layout.aD m.layout.key m.memory.cells m.memory.lines m.threads o.clock o.random o.dp o.files.data o.files.opens o.dG l.owner l.queue rc js:V)])/\eh dl kt/\db p d m/\d<=2000/\rc.length<=300/\ ∃(lay:Layout) (o0:cS) (n:Nat),n<=20/\ae6 p lay o0/\Lo p (Dc p lay o0) n (m,o,l,js,rc):=by
 obtain⟨kt,p,d,T,vR,vJ,m,o,l,js,rc,rfl,h0,HR,vr,hd,Fo⟩:=H;refine⟨kt,p,d,m,o,l,js,rc,?_,vr,HR.IB,hd,HR.a2i,Fo⟩;have hT:=HR.row;have rE:m.threads.length=4:=HR.IB.len;obtain⟨t1,t2⟩:=HR.lt;have T0: ¬T=0:=by omega
 have tH:=HR.Sh;have tM: ∀(f:Thread->V),List.take 4 (m.threads.map f)=m.threads.map f:=fun f=>aZ (by simp;omega);have RQ: ∀(f:Thread->Option V),List.take 4 (m.threads.map f)=m.threads.map f:=fun f=>aZ (by simp;omega);have jkf: ∀(f:Int->V),List.take 4 (js.map f)=js.map f:=fun f=>aZ (by simp;omega);unfold Lm;rcases HR.rcd with rfl|⟨R,es,r1,rfl,r2,rfl⟩
 ·rcases HR.jns with rfl|⟨J,j1,rfl,j2⟩
  ·simp(maxSteps:=10000000)[h0,hT,rE,T0,tM,k9]
  ·have J0: ¬J=0:=by have:=HR.loJ _ _ rfl;omega
   have JT: ¬J=T:=fun e=>HR.sep.2.1 js.length (by rw[e]);simp(maxSteps:=10000000)[h0,hT,rE,T0,tM,k9,tH,J0,JT,j2,jkf]
 ·have R0: ¬R=0:=by have:=HR.loR _ _ rfl;omega
  have RT: ¬R=T:=fun e=>HR.sep.1 rc.length (by rw[e]);rcases HR.jns with rfl|⟨J,j1,rfl,j2⟩
  ·simp(maxSteps:=10000000)[h0,hT,rE,T0,tM,k9,R0,RT,r2]
  ·have J0: ¬J=0:=by have:=HR.loJ _ _ rfl;omega
   have JT: ¬J=T:=fun e=>HR.sep.2.1 js.length (by rw[e]);simp(maxSteps:=10000000)[h0,hT,rE,T0,tM,k9,R0,RT,r2,tH,J0,JT,j2,jkf]
def a2o{t:Int}(hd:eh dl t): ∃(kt:Int) (p:Prog) (d:Int) (m:aO) (o:cS) (l:bX) (js:List Int) (rc:List Entry),
  oF X [(1,7,112)] 19 2 ((KKa dl t:V)) []=some (2,(KKa dl kt:V),[(KKJ p.code p.an p.data m.layout.aD m.layout.key m.memory.cells m.memory.lines m.threads o.clock o.random o.dp o.files.data o.files.opens o.dG l.owner l.queue rc js:V)],.bad)/\eh dl kt/\db p d m/\d<=2000/\rc.length<=300/\ ∃(lay:Layout) (o0:cS) (n:Nat),n<=20/\ae6 p lay o0/\Lo p (Dc p lay o0) n (m,o,l,js,rc):=by
 obtain⟨v,h,k,e,HE⟩:=a2k dl t hd;have hv:vj v= .bad:=by
  obtain⟨_,_,_,_,_,_,_,_,_,_,_,rfl,_⟩:=HE;rfl
 obtain⟨kt,p,d,m,o,l,js,rc,Bg,h1⟩:=HE.io;refine⟨kt,p,d,m,o,l,js,rc,?_,h1⟩;unfold oF;rw[show 1+(X.fl 19).length=1 from rfl,e];simp only[Bg,hv]
def Dd.io0(H:Dd dl v h k): ∃(kt:Int) (p:Prog) (d:Int) (m:aO) (o:cS) (l:bX) (js:List Int) (rc:List Entry),
  x8 X [] v h=some (2,(KKa dl kt:V),[(KKJ p.code p.an p.data m.layout.aD m.layout.key m.memory.cells m.memory.lines m.threads o.clock o.random o.dp o.files.data o.files.opens o.dG l.owner l.queue rc js:V)])/\eh dl kt/\db p d m/\d<=2000/\rc.length<=300/\ ∃(lay:Layout) (o0:cS) (n:Nat),n<=20/\ae6 p lay o0/\Lo p (Dc p lay o0) n (m,o,l,js,rc):=by
 obtain⟨kt,p,d,T,vR,vJ,m,o,l,js,rc,rfl,h0,HR,vr,hd,Fo⟩:=H;refine⟨kt,p,d,m,o,l,js,rc,?_,vr,HR.IB,hd,HR.a2i,Fo⟩;have hT:=HR.row;have rE:m.threads.length=4:=HR.IB.len;obtain⟨t1,t2⟩:=HR.lt;have T0: ¬T=0:=by omega
 have tH:=HR.Sh;have tM: ∀(f:Thread->V),List.take 4 (m.threads.map f)=m.threads.map f:=fun f=>aZ (by simp;omega);have RQ: ∀(f:Thread->Option V),List.take 4 (m.threads.map f)=m.threads.map f:=fun f=>aZ (by simp;omega);have jkf: ∀(f:Int->V),List.take 4 (js.map f)=js.map f:=fun f=>aZ (by simp;omega);unfold Lm;rcases HR.rcd with rfl|⟨R,es,r1,rfl,r2,rfl⟩
 ·rcases HR.jns with rfl|⟨J,j1,rfl,j2⟩
  ·simp(maxSteps:=10000000)[h0,hT,rE,T0,tM]
  ·have J0: ¬J=0:=by have:=HR.loJ _ _ rfl;omega
   have JT: ¬J=T:=fun e=>HR.sep.2.1 js.length (by rw[e]);simp(maxSteps:=10000000)[h0,hT,rE,T0,tM,tH,J0,j2,jkf]
 ·have R0: ¬R=0:=by have:=HR.loR _ _ rfl;omega
  have RT: ¬R=T:=fun e=>HR.sep.1 rc.length (by rw[e]);rcases HR.jns with rfl|⟨J,j1,rfl,j2⟩
  ·simp(maxSteps:=10000000)[h0,hT,rE,T0,tM,R0,r2]
  ·have J0: ¬J=0:=by have:=HR.loJ _ _ rfl;omega
   have JT: ¬J=T:=fun e=>HR.sep.2.1 js.length (by rw[e]);simp(maxSteps:=10000000)[h0,hT,rE,T0,tM,R0,r2,tH,J0,j2,jkf]
end Go.Proofs.YtdngefmliibcgaaGreat
