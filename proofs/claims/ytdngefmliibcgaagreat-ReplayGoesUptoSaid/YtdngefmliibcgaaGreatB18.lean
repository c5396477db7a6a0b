import Derived.Test.YtdngefmliibcgaaGreatB16
import Derived.Test.YtdngefmliibcgaaGreatB17
set_option linter.all false
set_option maxRecDepth 20000
set_option maxHeartbeats 0
namespace Go.Proofs.YtdngefmliibcgaaGreat
open Go Go.Abs Go.Abs.jJ Qf
variable  {k n n' c k' T c':Nat}{l:cO}{v vR vJ:V}{h h':bI}{f:FuncId}{S:St}{Q:Ex->St->Prop}{a0 a1 a2 a3 a4 a5 a6 d:Code}{p:g9}{m:aN}{o:dw}{js dl:List Int}{rc:List h_}
def yk(k:Nat)(l:List Int)(v:V)(h:bI)(n:Nat):Prop:=(l=[]/\v= .sl true [])\/(0<l.length/\ ∃id,k<=id/\id<n/\v= .cX id 0 l.length/\h id=some ⟨1,l.map (V.int .i64),false⟩)
def yk.mono{l:List Int}(H:yk k l v h n)(W:n<=n')(a: ∀i,i<n->h' i=h i):yk k l v h' n':=by
 rcases H with H|⟨h0,id,k1,k2,e,g⟩
 .exact .inl H
 .exact .inr ⟨h0,id,k1,ab,e,by rw[a _ k2,g]⟩
@[simp]def Yh(l:List gc)(k:Nat)(G:l.length=4): ∃v h' k',df X 135 [l] mg k=some (v,h',k')/\yk k (gV l 4) v h' k'/\k<=k':=by
 refine ip ?_;simp[G];refine nG (fun i S=>(S.f 6=l/\S.f 7= .int .i64 4/\S.f 8= .int .i64 i)/\yk k (gV l i) (S.f 3) S.h S.n/\k<=S.n) 4 ?_ 0 ab ?_
 .rintro i S o ⟨⟨c,n,f⟩,H,B⟩;by_cases a:i<4
  case neg=>
   have h: ¬(i:Int)<4:=ab
   have e:i=4:=ab
   subst e;simp[n,f];exact⟨H.mono ab fun _ _=>rfl,ab⟩
  have h:(i:Int)<4:=ab
  have z:i<l.length:=ab
  have w:=z_ ((i:Int)+1);obtain⟨⟨st,r,pc,D,W,A,t,d⟩,Q⟩: ∃x,l[i]=x:=⟨_,rfl⟩;by_cases s:st=1
  case neg=>
   have m:=SW z (by rw[Q];exact s);simp[c,n,f,a,h,G,Q,gc.cN,s,w,m];exact⟨H.mono ab fun j C=>by rw[bB,if_neg ab,bB,if_neg ab],ab⟩
  have m:=O5 z (by rw[Q];exact s);have y:=eq_true s;rcases H with⟨h0,E⟩|⟨h0,id,k1,k2,E,U⟩
  .simp[E,c,n,f,a,h,G,Q,gc.cN,y,w,m];refine⟨.inr ⟨ai,_,?_,?_,by rw[h0];rfl,by simp[bB,h0]⟩,ab⟩
   .omega
   .omega
  .have I:=EU l i;obtain⟨q,u⟩:=x_ (gV l i);rw[u]at h0 E U m I;have i1: ¬id=S.n+1+3:=ab
   simp[E,c,n,f,a,h,G,Q,gc.cN,y,w,m,U,i1];refine⟨⟨ab,ab⟩,fun _ _=>⟨.inr ⟨ai,_,?_,?_,by simp;rfl,al⟩,ab⟩⟩
   .omega
   .omega
 .simp;exact⟨.inl ⟨rfl,rfl⟩,ab⟩
def F2(h:bI)(k:Nat)(l:List h_)(v:V):Prop:=v= .sl false (l.map h_.e)\/ ∃R es,R<k/\v= .cX R 0 l.length/\h R=some ⟨18,es,false⟩/\es=l.map h_.e
def F1(h:bI)(k:Nat)(l:List Int)(v:V):Prop:=v= .sl false (l.map (V.int .i64))\/ ∃R,R<k/\v= .cX R 0 l.length/\h R=some ⟨1,l.map (V.int .i64),false⟩
def MD(M:St->Prop)(h1: ∀S,M S->Wp X f d S Q)(h: ∀b:Code,(∀S,M S->Wp X f b S Q)->Wp X f (a0.seq (a1.seq (a2.seq (a3.seq (a4.seq (a5.seq (a6.seq b))))))) S Q):Wp X f (a0.seq (a1.seq (a2.seq (a3.seq (a4.seq (a5.seq (a6.seq d))))))) S Q:=h d h1
def O6(M:St->Prop)(h1: ∀S,M S->Wp X f d S Q)(h: ∀b:Code,(∀S,M S->Wp X f b S Q)->Wp X f (a0.seq (a1.seq (a2.seq (a3.seq b)))) S Q):Wp X f (a0.seq (a1.seq (a2.seq (a3.seq d)))) S Q:=h d h1
def J5:V:= .agg [.sl true [],.sl true [],.sl true [],.sl true [],.int .u16 0,.sl true [],.sl true [],.sl true [],.sl true [],.sl true [],.sl true [],.sl true [],.sl true [],.sl true [],.sl true [],.sl true [],.sl true [],.sl true []]
def O1(p:g9)(m:aN)(o:dw)(l:cO)(rc:List h_)(js:List Int)(h:bI)(k:Nat)(F:Nat->Prop)(c:V)(t:Nat)(n:Int)(S:St):Prop:=
 ∃B R J,(S.f 3= .ptr (k+1) 0 0/\S.f 4= .ptr (k+2) 0 0/\S.f 7= .int .i64 t/\S.f 8= .int .i64 n/\S.f 9= .ptr B 0 0)/\(S.h (k+1)=some ⟨3,[c],true⟩/\S.h (k+2)=some ⟨18,[J5],true⟩/\
  S.h B=some ⟨18,[.agg [.sl false (p.hw.map hu.e),.sl false (p.ax.map (V.int .i64)),.sl false (p.ap.map bw),.sl false (m.am.aK.map (V.int .i64)),.int .u16 m.am.key,.sl false (m.gt.cells.map ac.e),.sl false (m.gt.ge.map cP.e),.sl false (m.ce.map gc.e),.sl false (o.md.map (V.int .u16)),.sl false (o.nl.map (V.int .u16)),.sl false (o.dK.map bw),.sl false (o.iG.ap.map bZ),.sl false (o.iG.iV.map fR.e),.sl false (o.dT.map i5.e),.sl false (l.pl.map (V.int .i64)),.sl false (l.i4.map dC),.cX R 0 rc.length,.cX J 0 js.length]],true⟩/\
  S.h R=some ⟨18,rc.map h_.e,false⟩/\S.h J=some ⟨1,js.map (V.int .i64),false⟩)/\(k+2<B/\B<S.n/\k+2<R/\R<S.n/\k+2<J/\J<S.n/\B≠R/\B≠J/\R≠J)/\ ∀i,i<k->F i->S.h i=h i
abbrev RS:=aN×dw×cO×List Int×List h_
def rA(t:Nat)(n:Int)(q:io):h_:=⟨1,t,n,q,⟨⟨0,0,0,0⟩,[],0,false⟩⟩
def FN(t:Nat):h_:=⟨3,t,0,⟨0,0,0,0,0,0,[],[]⟩,⟨⟨0,0,0,0⟩,[],0,false⟩⟩
noncomputable def sM(p:g9)(s:RS)(q:io):RS:=if q.j'=1 then sL p s.1 s.2.1 s.2.2.1 s.2.2.2.1 s.2.2.2.2 q else s
def BM(p:g9)(s:RS)(t:Nat):RS:=if(bO s.1 t).im=4 then J1 p s.1 s.2.1 s.2.2.1 s.2.2.2.1 s.2.2.2.2 t else s
noncomputable def xQ(p:g9)(m:aN)(o:dw)(l:cO)(js:List Int)(rc:List h_)(t:Nat)(n:Int):RS:=BM p (sM p ((dP p m t n).1,o,l,js,rc++ [rA t n (dP p m t n).2.1]) (dP p m t n).2.1) t
noncomputable def BN(p:g9)(m:aN)(o:dw)(l:cO)(js:List Int)(rc:List h_)(t:Nat)(n:Int)(sg:Bool):RS:=
 if sg=true/\uT (bO m t)=true then xQ p (uU m t) o l js (rc++ [FN t]) t n else xQ p m o l js rc t n
noncomputable def wy(p:g9)(m:aN)(o:dw)(l:cO)(js:List Int)(rc:List h_)(ct cb:Int)(sg:Bool):Option RS:=
 if(gV m.ce 4).length=0\/192<rc.length then none else some (BN p m o l js rc ((gV m.ce 4).getD (ct % (gV m.ce 4).length).toNat 0).toNat (1+cb % 64) sg)
def Yi(p:g9)(m:aN)(o:dw)(l:cO)(js:List Int)(rc:List h_)(q:io):(sL p m o l js rc q).2.2.2.2.length<=rc.length+2:=by
 unfold sL;generalize (if q.call=9 then(eY l (dI q 0) q.cw).2.1 else-1)=own;unfold An;split<;>(simp only[ta,s9,w4];omega)
def PZ(p:g9)(m:aN)(o:dw)(h:iN l)(js:List Int)(rc:List h_)(t:Nat):(J1 p m o l js rc t).2.2.2.2.length<=rc.length+8:=by
 unfold J1;have h1:=Cq p t (jG p (m,rc) (fP l t 4).2,js) 4;have K:=yQ p (m,rc) (fP l t 4).2;have S:=Ap h t 4;simp only at h1 K⊢;omega
def Pc(p:g9)(d:Int)(lay:iy)(o:dw)(l:cO)(js:List Int)(h:bI)(k:Nat)(F:Nat->Prop)(t:Nat)(rs:RS)(S:St):Prop:=
 ∃(B R J T D:Nat) (m:aN) (q:io) (rc:List h_) (es:List V),(S.f 4= .ptr (k+2) 0 0/\S.f 7= .int .i64 t/\S.f 9= .ptr B 0 0/\S.f 11= .ptr D 0 0)/\(S.h (k+2)=some ⟨18,[J5],true⟩/\S.h D=some ⟨8,[io.e q],true⟩/\
  S.h B=some ⟨18,[Bs p (.sl false (m.am.aK.map (V.int .i64))) m.am.key (.sl false (m.gt.cells.map ac.e)) (.sl false (m.gt.ge.map cP.e)) T o l R rc.length J],true⟩/\
  S.h T=some ⟨8,m.ce.map gc.e,false⟩/\S.h R=some ⟨18,es,false⟩/\S.h J=some ⟨1,js.map (V.int .i64),false⟩)/\
  (k+2<B/\B<S.n/\k+2<R/\R<S.n/\k+2<J/\J<S.n/\k+2<T/\T<S.n/\k+2<D/\D<S.n)/\(B≠R/\B≠J/\R≠J/\B≠T/\R≠T/\J≠T/\D≠B/\D≠R/\D≠J/\D≠T)/\(∀i,i<k->F i->S.h i=h i)/\cJ p (d+64) m/\m.am=lay/\q.cw=t/\De q/\rc.length<=200/\es=rc.map h_.e/\BM p (sM p (m,o,l,js,rc) q) t=rs
def GG(p:g9)(d:Int)(n:Option RS)(lay:iy)(h:bI)(k:Nat)(F:Nat->Prop)(v:V)(h':bI)(k':Nat):Prop:=
 k<=k'/\(∀i,i<k->F i->h' i=h i)/\((n=none/\ ∃e,(e=15\/e=3)/\v= .ed [J5,.int .i64 e]/\ ∀i,i<k->h' i=h i)\/
  ∃(m:aN) (o:dw) (l:cO) (js:List Int) (rc:List h_) (T R J:Nat) (es:List V),n=some (m,o,l,js,rc)/\v= .ed [Bs p (.sl false (m.am.aK.map (V.int .i64))) m.am.key (.sl false (m.gt.cells.map ac.e)) (.sl false (m.gt.ge.map cP.e)) T o l R rc.length J,.int .i64 0]/\
   (h' T=some ⟨8,m.ce.map gc.e,false⟩/\h' R=some ⟨18,es,false⟩/\h' J=some ⟨1,js.map (V.int .i64),false⟩)/\(k<=T/\T<k'/\k<=R/\R<k'/\k<=J/\J<k'/\T≠R/\T≠J/\R≠J)/\cJ p (d+64) m/\m.am=lay/\rR o/\iN l/\js.length=4/\rc.length<=300/\es=rc.map h_.e)
@[simp]def QT(Z:List hu)(u:List Int)(A:List (List Int))(Q:List Int)(b:Int)(o:List ac)(I:List cP)(a:List gc)(hr an:List Int)(aw:List (List Int))(aq:List (List fd))(au:List fR)(hk:List i5)(hp:List Int)(mm:List (List Int))(z:List h_)(r:List Int)(aJ kk:Int)(aH:Bool)(h:bI)(k T:Nat)(vR vJ:V)(F:Nat->Prop)(d:Int)(hT:T<k/\h T=some ⟨8,a.map gc.e,false⟩)(hR:F2 h k z vR)(hJ:F1 h k r vJ)(HG:cJ ⟨Z,u,A⟩ d ⟨⟨Q,b⟩,⟨o,I⟩,a⟩)(hd:d+64<=1099511627776)(ho:rR ⟨hr,an,aw,⟨aq,au⟩,hk⟩)(hl:iN ⟨hp,mm⟩)(hj:r.length=4)(mS: ∀i,F i->i≠T/\(∀n,vR≠ .cX i 0 n)/\(∀n,vJ≠ .cX i 0 n))(hA:(∀n,vR≠ .cX T 0 n)/\(∀n,vJ≠ .cX T 0 n)/\ ∀i n m,vR= .cX i 0 n->vJ≠ .cX i 0 m)(PR:z.length<=900000): ∃v h' k',df X 67 [.agg [Z,u,A,Q,.int .u16 b,o,I,.cX T 0 4,.sl false (hr.map (V.int .u16)),.sl false (an.map (V.int .u16)),aw,aq,au,hk,hp,.sl false (mm.map dC),vR,vJ],.agg [aJ,kk,aH]] h k=some (v,h',k')/\GG ⟨Z,u,A⟩ d (wy ⟨Z,u,A⟩ ⟨⟨Q,b⟩,⟨o,I⟩,a⟩ ⟨hr,an,aw,⟨aq,au⟩,hk⟩ ⟨hp,mm⟩ r z aJ kk aH) ⟨Q,b⟩ h k F v h' k':=by
  have bT:a.length=4:=HG.len;obtain⟨hTk,aa⟩:=hT;have hv: ¬T=k:=ab
  have bse: ¬k=T:=ab
  have cL: ∀(f:gc->V),List.take 4 (a.map f)=a.map f:=fun f=>bQ aA;have tko: ∀(f:gc->Option V),List.take 4 (a.map f)=a.map f:=fun f=>bQ aA;have cu: ∀j,¬T=k+j:=fun j=>ab
  have C: ∀j,¬k+j=T:=fun j=>ab
  have lR:Gq vR=some z.length:=by
    rcases hR with e|⟨R,_,_,e,_⟩
    .rw[e];simp[Gq]
    .rw[e];rfl
  have sR:vR.isStr=false:=by
    rcases hR with e|⟨R,_,_,e,_⟩
    .rw[e];rfl
    .rw[e];rfl
  obtain⟨v1,h1,k1,hS,OR,DN⟩:=Yh a (k+9) bT;refine ip ?_;rcases OR with⟨r0,rfl⟩|⟨r0,id,i1,i2,rfl,i3⟩
  · simp[X6,aa,bT,hv,cu,cL,hS]
    refine⟨rfl,fun _=>⟨ab,fun i p _=> ?_,.inl ⟨if_pos (.inl (by rw[r0];rfl)),15,.inl rfl,rfl,fun i p=> ?_⟩⟩⟩;all_goals
      have hz: ¬i=k:=ab
      have E: ∀j,¬i=k+j:=fun j=>ab
      have g3:i<k+9:=ab
      simp[bB,hz,E,g3]
  · obtain⟨q,hq⟩:=x_ (gV a 4)
    have hql:=EU a 4;have m7:=fun i (h:i<(gV a 4).length)=>yO h;rw[hq]at r0 i3 hql hS;have r0i:0<(q.length:Int):=ab
    have r0n: ¬(q.length:Int)=0:=ab
    have hL: ¬q.length=0:=ab
    have gU: ¬id<k+9:=ab
    have d2: ∀j,j<9-> ¬id=k+j:=fun j hj=>ab
    have gK:j6 (some ⟨1,q.map (V.int .i64),false⟩)=some ⟨1,q.map (V.int .i64),false⟩:=by unfold j6;simp only[UQ,if_true]
    by_cases bc1:z.length<=192
    case neg=>
      have cZ:192<(z.length:Int):=ab
      simp[sR,lR,cZ,X6,aa,bT,hv,cu,cL,hS,Iq,hL];refine⟨ab,fun i p _=> ?_,.inl ⟨if_pos (.inr ab),3,.inr rfl,rfl,fun i p=> ?_⟩⟩;all_goals
        have hz: ¬i=k:=ab
        have E: ∀j,¬i=k+j:=fun j=>ab
        have g3:i<k+9:=ab
        simp[bB,hz,E,g3]
    have cZ: ¬192<(z.length:Int):=ab
    have m0:=t9 aJ (show(q.length:Int)≠0 by omega);have m1:=t4 aJ r0i;obtain⟨x,hx⟩:=jp m0;have HA:x<q.length:=ab
    have dz:(x:Int)<q.length:=ab
    have bp:=EN aJ q.length ab;rw[hx]at bp;have n0:=t9 kk (show(64:Int)≠0 by omega);have n1:=t4 kk (show(0:Int)<64 by omega);obtain⟨y,hy⟩:=jp n0;have cz:=EN kk 64 ab;rw[hy]at cz;have lu:=z_ (1+(y:Int));obtain⟨n,hn⟩: ∃n:Int,1+(y:Int)=n:=⟨_,rfl⟩;rw[hn]at lu;have hqx: ∃t:Nat,t<4/\q[x]=(t:Int)/\(a.getD t cT).im=1:=by
      subst hq;exact m7 x HA
    obtain⟨t,bU,K,ku⟩:=hqx;have ht:(t:Int)<4:=ab
    have tml:t<a.length:=ab
    have aW:=ZB Z u A Q b o I a hr an aw aq au hk hp mm z r ab ab;have bc:=wo Q b o I a t ⟨ab,ab⟩ bT;rw[X7]at bc;have hnx:wy ⟨Z,u,A⟩ ⟨⟨Q,b⟩,⟨o,I⟩,a⟩ ⟨hr,an,aw,⟨aq,au⟩,hk⟩ ⟨hp,mm⟩ r z aJ kk aH=some (BN ⟨Z,u,A⟩ ⟨⟨Q,b⟩,⟨o,I⟩,a⟩ ⟨hr,an,aw,⟨aq,au⟩,hk⟩ ⟨hp,mm⟩ r z t n aH):=by
      unfold wy;simp only[hq];rw[if_neg ab,hx,hy,hn,X7,show q.getD x 0=(t:Int) by simp[List.getD,HA,K],X7]
    rw[hnx];refine MD (O1 ⟨Z,u,A⟩ ⟨⟨Q,b⟩,⟨o,I⟩,a⟩ ⟨hr,an,aw,⟨aq,au⟩,hk⟩ ⟨hp,mm⟩ z r h k F (.agg [.int .i64 aJ,.int .i64 kk,.bool aH]) t n) ?_ ?_
    case refine_1=>
      rintro⟨sf,sh,s⟩ ⟨B,R,J,⟨f3,f4,hb,l9,hc⟩,⟨E,g,cQ,bs,bP⟩,⟨b1,nr,b3,aZ,b5,aP,dy,b8,b9⟩,dN⟩;clear hS i3 m7 gK hR hJ lR sR;simp only at f3 f4 hb l9 hc E g cQ bs bP nr aZ aP dN;refine O6 (Pc ⟨Z,u,A⟩ d ⟨Q,b⟩ ⟨hr,an,aw,⟨aq,au⟩,hk⟩ ⟨hp,mm⟩ r h k F t (BN ⟨Z,u,A⟩ ⟨⟨Q,b⟩,⟨o,I⟩,a⟩ ⟨hr,an,aw,⟨aq,au⟩,hk⟩ ⟨hp,mm⟩ r z t n aH)) ?_ ?_
      case refine_1=>
        clear cQ bs bP b1 nr b3 aZ b5 aP dy b8 b9 dN f3 f4 hb l9 hc E g aW;rintro⟨sf,sh,s⟩ ⟨B,R,J,fG,D,⟨⟨ah,ae⟩,⟨hg,L⟩,O⟩,⟨he,H,c,U,S,W,P,M⟩,hB,es,⟨f4,hb,hc,bS⟩,⟨g,cF,cQ,v',bs,bP⟩,⟨b1,nr,b3,aZ,b5,aP,dy,b8,b9,b10⟩,⟨c1,c2,c3,c4,HM,mW,c7,c8,c9,vW⟩,dN,ak,lz,K,ρ,bsi,Ez,r1⟩;simp only at f4 hb hc bS g cF cQ v' bs bP nr aZ aP b8 b10 dN lz K;obtain⟨k2,sv⟩:=x_ (k+2);rw[sv]at f4 g;have ts:O.length=4:=ak.len;have hM: ∀(f:gc->V),List.take 4 (O.map f)=O.map f:=fun f=>bQ aA;have m': ∀(f:gc->Option V),List.take 4 (O.map f)=O.map f:=fun f=>bQ aA;have cC: ∀(f:Int->V),List.take 4 (r.map f)=r.map f:=fun f=>bQ aA;subst Ez;have bc2:t<O.length:=ab
        have mi:bO ⟨⟨ah,ae⟩,⟨hg,L⟩,O⟩ t=O[t]:=eL bc2;unfold Bs at cQ;unfold J5 at g;have n2: ∀j,¬k2=s+j:=fun j=>ab
        have ff: ∀j,¬s+j=k2:=fun j=>ab
        have h5: ∀j,¬B=s+j:=fun j=>ab
        have cg: ∀j,¬R=s+j:=fun j=>ab
        have iO: ∀j,¬J=s+j:=fun j=>ab
        have cu: ∀j,¬fG=s+j:=fun j=>ab
        have nD: ∀j,¬D=s+j:=fun j=>ab
        have h3: ∀j,¬s+j=B:=fun j=>ab
        have l: ∀j,¬s+j=R:=fun j=>ab
        have hs: ∀j,¬s+j=J:=fun j=>ab
        have C: ∀j,¬s+j=fG:=fun j=>ab
        have e1: ¬k2=B:=ab
        have e2: ¬fG=k2:=ab
        have e3: ¬R=k2:=ab
        have e4: ¬J=k2:=ab
        have e5: ¬k2=fG:=ab
        have e6: ¬k2=R:=ab
        have e7: ¬k2=J:=ab
        have e8: ¬B=k2:=ab
        have x1: ¬R=B:=fun e=>c1 e.symm;have x2: ¬J=B:=fun e=>c2 e.symm;have x3: ¬J=R:=fun e=>c3 e.symm;have x4: ¬fG=B:=fun e=>c4 e.symm;have x5: ¬fG=R:=fun e=>HM e.symm;have x6: ¬fG=J:=fun e=>mW e.symm;by_cases hE:H=1
        case neg=>
          by_cases dF:(O[t]).im=4
          case neg=>
            simp[f4,hb,hc,bS,g,cF,cQ,v',ts,bU,ht,io.cN,hE,dF];refine⟨ab,fun i p w=> ?_,.inr ⟨⟨⟨ah,ae⟩,⟨hg,L⟩,O⟩,⟨hr,an,aw,⟨aq,au⟩,hk⟩,⟨hp,mm⟩,r,hB,fG,R,J,_,by rw[<-r1];unfold sM;rw[if_neg hE];unfold BM;rw[if_neg (by simp only[mi];exact dF)],rfl,⟨?_,?_,?_⟩,⟨ab,ab,ab,ab,ab,ab,x5,x6,c3⟩,ak,lz,ho,hl,hj,ab,rfl⟩⟩
            · have w1: ¬i=k2:=ab
              simp only[bB,w1,if_false];exact dN i p w
            · simp only[bB,e2,if_false]
              exact v'
            · simp only[bB,e3,if_false]
              exact bs
            · simp only[bB,e4,if_false]
              exact bP
          obtain⟨lM,o3,l3,cm,iS,jz,bW,QJ,cI,hI,hh,cD⟩:=U6 Z u A ah ae hg L O hr an aw aq au hk hp mm hB r t (d+64) ak ab ho hl hj ab ⟨ab,ht⟩;rw[X7]at cD;have jw:=PZ ⟨Z,u,A⟩ ⟨⟨ah,ae⟩,⟨hg,L⟩,O⟩ ⟨hr,an,aw,⟨aq,au⟩,hk⟩ hl r hB t;rw[cD]at jw;simp only at jw;have kg:=eq_true dF;have bE:lM.ce.length=4:=bW.len;simp[f4,hb,hc,bS,g,cF,cQ,v',bs,bP,ts,hM,cC,Cn,bU,ht,io.cN,tX,hE,kg,hj,X6,jz,bE,hh,x1,x2,x4,c3,HM,mW,h5,n2,e1,e5,e6,e7];refine⟨ab,fun i p w=> ?_,.inr ⟨lM,o3,l3,cm,iS,s+15,s+13,s+14,_,by rw[<-r1];unfold sM;rw[if_neg hE];unfold BM;rw[if_pos (by simp only[mi];exact dF)];exact congrArg some cD,rfl,⟨?_,?_,?_⟩,⟨ab,ab,ab,ab,ab,ab,ab,ab,ab⟩,bW,QJ.trans lz,cI,hI,hh,ab,rfl⟩⟩
          · have w1: ¬i=k2:=ab
            have w2: ∀j,¬i=s+j:=fun j=>ab
            have hf: ¬i=B:=ab
            have aE: ¬i=R:=ab
            have e9: ¬i=J:=ab
            have l2: ¬i=fG:=ab
            exact lN
          .simp[bB,ff]
          .simp[bB,ff]
          .simp[bB,ff]
        have l1:=eq_true hE;obtain⟨⟨⟨gX,bL⟩,⟨h8,Y⟩,N⟩,⟨UZ,U0,U1,⟨U2,U3⟩,U4⟩,⟨Fb,JW⟩,o2,QI,qN,kK,xj,Me,kz,Jk,ih⟩:=Z0 Z u A ah ae hg L O hr an aw aq au hk hp mm hB r he H c U S W P M (d+64) ak ab ho hl hj ab ⟨ab,ab⟩ ρ.args ρ.ap ρ.one ρ.av ρ.dv;simp only at qN xj;have QZ:=Yi ⟨Z,u,A⟩ ⟨⟨ah,ae⟩,⟨hg,L⟩,O⟩ ⟨hr,an,aw,⟨aq,au⟩,hk⟩ ⟨hp,mm⟩ r hB ⟨he,H,c,U,S,W,P,M⟩;rw[ih]at QZ;simp only at QZ;have fv:N.length=4:=kK.len;have bc6:t<N.length:=ab
        have mH:bO ⟨⟨gX,bL⟩,⟨h8,Y⟩,N⟩ t=N[t]:=eL bc6;have Cg: ∀(f:gc->V),List.take 4 (N.map f)=N.map f:=fun f=>bQ aA;have Tb: ∀(f:gc->Option V),List.take 4 (N.map f)=N.map f:=fun f=>bQ aA;have bc7: ∀(f:Int->V),List.take 4 (o2.map f)=o2.map f:=fun f=>bQ aA;by_cases dF:(N[t]).im=4
        case neg=>
          simp[f4,hb,hc,bS,g,cF,cQ,v',bs,bP,ts,hM,cC,Cn,bU,ht,io.cN,tX,l1,dF,hj,X6,qN,fv,Jk,x1,x2,x4,c3,HM,mW,h5,n2,e1,e5,e6,e7];refine⟨ab,fun i p w=> ?_,.inr ⟨⟨⟨gX,bL⟩,⟨h8,Y⟩,N⟩,⟨UZ,U0,U1,⟨U2,U3⟩,U4⟩,⟨Fb,JW⟩,o2,QI,s+7,s+5,s+6,_,by rw[<-r1];unfold sM;rw[if_pos hE];simp only[ih];unfold BM;rw[if_neg (by simp only[mH];exact dF)],rfl,⟨?_,?_,?_⟩,⟨ab,ab,ab,ab,ab,ab,ab,ab,ab⟩,kK,xj.trans lz,Me,kz,Jk,ab,rfl⟩⟩
          · have w1: ¬i=k2:=ab
            have w2: ∀j,¬i=s+j:=fun j=>ab
            have hf: ¬i=B:=ab
            have aE: ¬i=R:=ab
            have e9: ¬i=J:=ab
            have l2: ¬i=fG:=ab
            exact lN
          .simp[bB,ff]
          .simp[bB,ff]
          .simp[bB,ff]
        obtain⟨lM,o3,l3,cm,iS,jz,bW,QJ,cI,hI,hh,cD⟩:=U6 Z u A gX bL h8 Y N UZ U0 U1 U2 U3 U4 Fb JW QI o2 t (d+64) kK ab Me kz Jk ab ⟨ab,ht⟩;rw[X7]at cD;have jw:=PZ ⟨Z,u,A⟩ ⟨⟨gX,bL⟩,⟨h8,Y⟩,N⟩ ⟨UZ,U0,U1,⟨U2,U3⟩,U4⟩ kz o2 QI t;rw[cD]at jw;simp only at jw;have kg:=eq_true dF;have bE:lM.ce.length=4:=bW.len;simp[f4,hb,hc,bS,g,cF,cQ,v',bs,bP,ts,hM,cC,Cn,bU,ht,io.cN,tX,l1,kg,hj,X6,qN,fv,Cg,bc7,Jk,jz,bE,hh,x1,x2,x4,c3,HM,mW,h5,h3,n2,e1,e5,e6,e7];refine⟨ab,fun i p w=> ?_,.inr ⟨lM,o3,l3,cm,iS,s+20,s+18,s+19,_,by rw[<-r1];unfold sM;rw[if_pos hE];simp only[ih];unfold BM;rw[if_pos (by simp only[mH];exact dF)];exact congrArg some cD,rfl,⟨?_,?_,?_⟩,⟨ab,ab,ab,ab,ab,ab,ab,ab,ab⟩,bW,QJ.trans (xj.trans lz),cI,hI,hh,ab,rfl⟩⟩
        · have w1: ¬i=k2:=ab
          have w2: ∀j,¬i=s+j:=fun j=>ab
          have hf: ¬i=B:=ab
          have aE: ¬i=R:=ab
          have e9: ¬i=J:=ab
          have l2: ¬i=fG:=ab
          exact lN
        .simp[bB,ff]
        .simp[bB,ff]
        .simp[bB,ff]
      intro bb ba;obtain⟨c1,DO⟩:=x_ (k+1);obtain⟨c2,a'⟩:=x_ (k+2);rw[DO]at f3 E;rw[a']at f4 g;have h5: ∀j,¬B=s+j:=fun j=>ab
      have cg: ∀j,¬R=s+j:=fun j=>ab
      have iO: ∀j,¬J=s+j:=fun j=>ab
      have n1: ∀j,¬c1=s+j:=fun j=>ab
      have n2: ∀j,¬c2=s+j:=fun j=>ab
      have h3: ∀j,¬s+j=B:=fun j=>ab
      have l: ∀j,¬s+j=R:=fun j=>ab
      have q1: ¬c1=B:=ab
      have q2: ¬c1=R:=ab
      have q3: ¬c2=B:=ab
      have q4: ¬c2=R:=ab
      have q5: ¬J=B:=ab
      have q6: ¬J=R:=ab
      have q7: ¬R=B:=ab
      have bc:=wo Q b o I a t ⟨ab,ab⟩ bT;rw[X7]at bc;have rV:(z.length:Int)<=192:=ab
      have nh:z.length<=192:=bc1;cases aH with
      |false=>
        obtain⟨m1,pd,e1,ak,L,G,bV,h4⟩:=uk (m:=⟨⟨Q,b⟩,⟨o,I⟩,a⟩) (n:=n) HG hd bU ⟨ab,ab⟩ ku;have ay:=Ta Z u A Q b o I a t n HG.prog.lens HG.lens HG.R;rw[e1]at ay;obtain⟨⟨ah,ae⟩,⟨hg,Y⟩,O⟩:=m1;obtain⟨he,H,c,U,S,W,P,M⟩:=pd;simp only at L G h4 ay;have ts:O.length=4:=ak.len;have hM: ∀(f:gc->V),List.take 4 (O.map f)=O.map f:=fun f=>bQ aA;have m': ∀(f:gc->Option V),List.take 4 (O.map f)=O.map f:=fun f=>bQ aA;simp[f3,hb,l9,hc,E,cQ,bs,h5,cg,h3,q7,dy,X6,ts,ay];refine⟨⟨ab,ab⟩,fun _ _=> ?_⟩;apply ba;refine⟨B,s+35,J,s+24,s+20,⟨⟨ah,ae⟩,⟨hg,Y⟩,O⟩,⟨he,H,c,U,S,W,P,M⟩,z++ [⟨1,t,n,⟨he,H,c,U,S,W,P,M⟩,⟨⟨0,0,0,0⟩,[],0,false⟩⟩],z.map h_.e++ [.agg [.int .i64 1,.int .i64 t,.int .i64 n,.int .i64 he,.int .i64 H,.int .i64 c,.int .i64 U,.int .i64 S,.int .i64 W,P,M,.int .u8 0,.int .u16 0,.int .i64 0,.int .i64 0,.sl false [],.int .i64 0,.bool false]],⟨by simp[bB,f4,a'],c_,cc,al⟩,⟨?_,?_,?_,?_,?_,?_⟩,⟨ab,aB,ab,aB,ab,aB,ab,aB,ab,aB⟩,⟨ab,ab,ab,ab,ab,ab,ab,ab,ab,ab⟩,?_,ak,L,G,bV,?_,?_,by unfold BN;rw[if_neg ai];unfold xQ;rw[e1];rfl⟩
        · rw[a']
          simp[bB,n2,q3,q4,g]
        · simp[bB,h3,l]
          rfl
        .simp[bB,Bs,hj]
        .simp[bB,h3,l]
        .simp[bB,h3]
        .simp[bB,iO,q5,q6,bP]
        · intro i p w
          have w1: ∀j,¬i=s+j:=fun j=>ab
          have w2: ¬i=B:=ab
          have hf: ¬i=R:=ab
          simp[bB,w1,w2,hf,dN i p w]
        .simp;omega
        .simp[h_.cN]
      |true=>
        cases S':uT (a.getD t cT) with
        |false=>
         rw[S']at bc;obtain⟨m1,pd,e1,ak,L,G,bV,h4⟩:=uk (m:=⟨⟨Q,b⟩,⟨o,I⟩,a⟩) (n:=n) HG hd bU ⟨ab,ab⟩ ku;have ay:=Ta Z u A Q b o I a t n HG.prog.lens HG.lens HG.R;rw[e1]at ay;obtain⟨⟨ah,ae⟩,⟨hg,Y⟩,O⟩:=m1;obtain⟨he,H,c,U,S,W,P,M⟩:=pd;simp only at L G h4 ay;have ts:O.length=4:=ak.len;have hM: ∀(f:gc->V),List.take 4 (O.map f)=O.map f:=fun f=>bQ aA;have m': ∀(f:gc->Option V),List.take 4 (O.map f)=O.map f:=fun f=>bQ aA;simp[f3,hb,l9,hc,E,cQ,bs,h5,cg,h3,q7,dy,X6,ts,bc,ay];refine⟨⟨ab,ab⟩,fun _ _=> ?_⟩;apply ba;refine⟨B,s+35,J,s+24,s+20,⟨⟨ah,ae⟩,⟨hg,Y⟩,O⟩,⟨he,H,c,U,S,W,P,M⟩,z++ [⟨1,t,n,⟨he,H,c,U,S,W,P,M⟩,⟨⟨0,0,0,0⟩,[],0,false⟩⟩],z.map h_.e++ [.agg [.int .i64 1,.int .i64 t,.int .i64 n,.int .i64 he,.int .i64 H,.int .i64 c,.int .i64 U,.int .i64 S,.int .i64 W,P,M,.int .u8 0,.int .u16 0,.int .i64 0,.int .i64 0,.sl false [],.int .i64 0,.bool false]],⟨by simp[bB,f4,a'],c_,cc,al⟩,⟨?_,?_,?_,?_,?_,?_⟩,⟨ab,aB,ab,aB,ab,aB,ab,aB,ab,aB⟩,⟨ab,ab,ab,ab,ab,ab,ab,ab,ab,ab⟩,?_,ak,L,G,bV,?_,?_,by unfold BN;rw[if_neg (fun h=>by have h2:=h.2;rw[show bO ⟨⟨Q,b⟩,⟨o,I⟩,a⟩ t=a.getD t cT from rfl,S']at h2;cases h2)];unfold xQ;rw[e1];rfl⟩
         · rw[a']
           simp[bB,n2,q3,q4,g]
         · simp[bB,h3,l]
           rfl
         .simp[bB,Bs,hj]
         .simp[bB,h3,l]
         .simp[bB,h3]
         .simp[bB,iO,q5,q6,bP]
         · intro i p w
           have w1: ∀j,¬i=s+j:=fun j=>ab
           have w2: ¬i=B:=ab
           have hf: ¬i=R:=ab
           simp[bB,w1,w2,hf,dN i p w]
         .simp;omega
         .simp[h_.cN]
        |true=>
         rw[S']at bc;have h6:uT (bO ⟨⟨Q,b⟩,⟨o,I⟩,a⟩ t)=true:=S';obtain⟨gI,PX,Hp⟩:=Df HG bU h6;obtain⟨⟨st,rg,pc,co,ha,sa,tr,cd⟩,mQ⟩: ∃x,bO ⟨⟨Q,b⟩,⟨o,I⟩,a⟩ t=x:=⟨_,rfl⟩;have b':uU ⟨⟨Q,b⟩,⟨o,I⟩,a⟩ t=⟨⟨Q,b⟩,⟨o,I⟩,a.set t ⟨st,rg,ha,co,ha,pc,tr,cd⟩⟩:=by unfold uU;rw[mQ]
         have QC:=XX Q b o I a t ⟨Z,u,A⟩ d HG ⟨ab,ab⟩ (by rw[X7];exact S');rw[X7,b']at QC;simp only at QC;have t':=gI;rw[b']at t';obtain⟨m1,pd,e1,ak,L,G,bV,h4⟩:=uk (m:=uU ⟨⟨Q,b⟩,⟨o,I⟩,a⟩ t) (n:=n) gI hd bU ⟨ab,ab⟩ Hp;have ay:=Ta Z u A Q b o I (a.set t ⟨st,rg,ha,co,ha,pc,tr,cd⟩) t n HG.prog.lens t'.lens t'.R;rw[<-b',e1]at ay;obtain⟨⟨ah,ae⟩,⟨hg,Y⟩,O⟩:=m1;obtain⟨he,H,c,U,S,W,P,M⟩:=pd;simp only[b']at L G h4 ay;obtain⟨N,fv⟩:=x_ (a.set t ⟨st,rg,ha,co,ha,pc,tr,cd⟩);rw[fv]at ay QC;have uw:N.length=4:=by rw[<-fv];simp[bT]
         have Cg: ∀(f:gc->V),List.take 4 (N.map f)=N.map f:=fun f=>bQ aA;have Tb: ∀(f:gc->Option V),List.take 4 (N.map f)=N.map f:=fun f=>bQ aA;have ts:O.length=4:=ak.len;have hM: ∀(f:gc->V),List.take 4 (O.map f)=O.map f:=fun f=>bQ aA;have m': ∀(f:gc->Option V),List.take 4 (O.map f)=O.map f:=fun f=>bQ aA;simp[f3,hb,l9,hc,E,cQ,bs,h5,cg,h3,l,q7,dy,X6,ts,bc,QC,uw,Cg,ay];refine⟨⟨ab,ab⟩,fun _ _=>⟨⟨ab,ab⟩,fun _ _=> ?_⟩⟩;apply ba;refine⟨B,s+53,J,s+42,s+38,⟨⟨ah,ae⟩,⟨hg,Y⟩,O⟩,⟨he,H,c,U,S,W,P,M⟩,z++ [⟨3,t,0,⟨0,0,0,0,0,0,[],[]⟩,⟨⟨0,0,0,0⟩,[],0,false⟩⟩,⟨1,t,n,⟨he,H,c,U,S,W,P,M⟩,⟨⟨0,0,0,0⟩,[],0,false⟩⟩],z.map h_.e++ [h_.e ⟨3,t,0,⟨0,0,0,0,0,0,[],[]⟩,⟨⟨0,0,0,0⟩,[],0,false⟩⟩,.agg [.int .i64 1,.int .i64 t,.int .i64 n,.int .i64 he,.int .i64 H,.int .i64 c,.int .i64 U,.int .i64 S,.int .i64 W,P,M,.int .u8 0,.int .u16 0,.int .i64 0,.int .i64 0,.sl false [],.int .i64 0,.bool false]],⟨by simp[bB,f4,a'],c_,cc,al⟩,⟨?_,?_,?_,?_,?_,?_⟩,⟨ab,aB,ab,aB,ab,aB,ab,aB,ab,aB⟩,⟨ab,ab,ab,ab,ab,ab,ab,ab,ab,ab⟩,?_,ak,L,G,bV,?_,?_,by unfold BN;rw[if_pos ⟨rfl,h6⟩];unfold xQ;rw[e1,vD];rfl⟩
         · rw[a']
           simp[bB,n2,q3,q4,g]
         · simp[bB,h3]
           rfl
         .simp[bB,Bs,hj]
         .simp[bB,h3]
         · simp[bB,h3]
           rw[bQ ai];simp[h_.cN]
         .simp[bB,iO,q5,q6,bP]
         · intro i p w
           have w1: ∀j,¬i=s+j:=fun j=>ab
           have w2: ¬i=B:=ab
           have hf: ¬i=R:=ab
           simp[bB,w1,w2,hf,dN i p w]
         .simp;omega
         .simp[h_.cN]
    intro bb ba;have e0: ∀j,¬k=k1+j:=fun j=>ab
    have e1: ∀j,¬k+1=k1+j:=fun j=>ab
    have e2: ∀j,¬k+2=k1+j:=fun j=>ab
    have aR:T<k+9:=ab
    rcases hR with rfl|⟨R,es0,hRk,rfl,u2,Ez⟩
    · rcases hJ with rfl|⟨J,hJk,rfl,n4⟩
      · simp[cZ,gK,X6,aa,bT,hv,cu,aR,cL,hS,Iq,hL,i3,gU,HA,dz,bp,cz,lu,hn,K,aW]
        apply ba;refine⟨k1+23,k1+25,k1+26,⟨al,al,al,al,al⟩,⟨?_,?_,?_,?_,?_⟩,⟨ab,aB,ab,aB,ab,aB,ab,ab,ab⟩,fun i p w=> ?_⟩
        .simp[bB,e0,C]
        · simp[bB,e0,C]
          rfl
        .simp[bB,hj]
        .simp[bB]
        .simp[bB]
        · obtain⟨hC,f2,f3⟩:=mS i w
          have hz: ¬i=k:=ab
          have E: ∀j,¬i=k+j:=fun j=>ab
          have g: ∀j,¬i=k1+j:=fun j=>ab
          have g3:i<k+9:=ab
          simp[bB,hC,hz,E,g,g3]
      · have TJ: ¬T=J:=fun e=>hA.2.1 r.length bC
        have JT: ¬J=T:=fun e=>TJ e.symm;have iO: ∀j,¬J=k+j:=fun j=>ab
        have hs: ∀j,¬k+j=J:=fun j=>ab
        have dM: ¬J=k:=ab
        have bc9: ¬k=J:=ab
        have J9:J<k+9:=ab
        simp[cZ,gK,X6,aa,bT,hv,cu,aR,cL,hS,Iq,hL,i3,gU,HA,dz,bp,cz,lu,hn,K,aW,n4,iO,dM,J9,JT];apply ba;refine⟨k1+23,k1+25,k1+26,⟨al,al,al,al,al⟩,⟨?_,?_,?_,?_,?_⟩,⟨ab,aB,ab,aB,ab,aB,ab,ab,ab⟩,fun i p w=> ?_⟩
        .simp[bB,e0,C,hs]
        · simp[bB,e0,C,hs]
          rfl
        .simp[bB,hj]
        .simp[bB]
        .simp[bB]
        · obtain⟨hC,f2,f3⟩:=mS i w
          have hz: ¬i=k:=ab
          have E: ∀j,¬i=k+j:=fun j=>ab
          have g: ∀j,¬i=k1+j:=fun j=>ab
          have g3:i<k+9:=ab
          have g4: ¬i=J:=fun e=>f3 r.length bC;simp[bB,hC,hz,E,g,g3,g4]
    · subst Ez
      have TR: ¬T=R:=fun e=>hA.1 z.length bC;have RT: ¬R=T:=fun e=>TR e.symm;have cg: ∀j,¬R=k+j:=fun j=>ab
      have l: ∀j,¬k+j=R:=fun j=>ab
      have lJ: ¬R=k:=ab
      have bsk: ¬k=R:=ab
      have R9:R<k+9:=ab
      rcases hJ with rfl|⟨J,hJk,rfl,n4⟩
      · simp[cZ,gK,X6,aa,bT,hv,cu,aR,cL,hS,Iq,hL,i3,gU,HA,dz,bp,cz,lu,hn,K,aW,u2,cg,lJ,R9,RT]
        apply ba;refine⟨k1+23,k1+25,k1+26,⟨al,al,al,al,al⟩,⟨?_,?_,?_,?_,?_⟩,⟨ab,aB,ab,aB,ab,aB,ab,ab,ab⟩,fun i p w=> ?_⟩
        .simp[bB,e0,C,l]
        · simp[bB,e0,C,l]
          rfl
        .simp[bB,hj]
        .simp[bB]
        .simp[bB]
        · obtain⟨hC,f2,f3⟩:=mS i w
          have hz: ¬i=k:=ab
          have E: ∀j,¬i=k+j:=fun j=>ab
          have g: ∀j,¬i=k1+j:=fun j=>ab
          have g3:i<k+9:=ab
          have g5: ¬i=R:=fun e=>f2 z.length bC;simp[bB,hC,hz,E,g,g3,g5]
      · have TJ: ¬T=J:=fun e=>hA.2.1 r.length bC
        have JT: ¬J=T:=fun e=>TJ e.symm;have RJ: ¬R=J:=fun e=>hA.2.2 R z.length r.length rfl bC;have JR: ¬J=R:=fun e=>RJ e.symm;have iO: ∀j,¬J=k+j:=fun j=>ab
        have hs: ∀j,¬k+j=J:=fun j=>ab
        have dM: ¬J=k:=ab
        have bc9: ¬k=J:=ab
        have J9:J<k+9:=ab
        simp[cZ,gK,X6,aa,bT,hv,cu,aR,cL,hS,Iq,hL,i3,gU,HA,dz,bp,cz,lu,hn,K,aW,u2,cg,lJ,R9,RT,n4,iO,dM,J9,JT,JR];apply ba;refine⟨k1+23,k1+25,k1+26,⟨al,al,al,al,al⟩,⟨?_,?_,?_,?_,?_⟩,⟨ab,aB,ab,aB,ab,aB,ab,ab,ab⟩,fun i p w=> ?_⟩
        .simp[bB,e0,C,l,hs]
        · simp[bB,e0,C,l,hs]
          rfl
        .simp[bB,hj]
        .simp[bB]
        .simp[bB]
        · obtain⟨hC,f2,f3⟩:=mS i w
          have hz: ¬i=k:=ab
          have E: ∀j,¬i=k+j:=fun j=>ab
          have g: ∀j,¬i=k1+j:=fun j=>ab
          have g3:i<k+9:=ab
          have g4: ¬i=J:=fun e=>f3 r.length bC;have g5: ¬i=R:=fun e=>f2 z.length bC;simp[bB,hC,hz,E,g,g3,g4,g5]
@[simp]def Ul(u:List hu)(a:List Int)(w:List (List Int))(y:List Int)(c:Int)(hp:o9 (wn u a w))(h:fM y a):mh X [(0,4,112)] 20 [iB u a w,pp y c]=some (.ed [rJ (dx (wn u a w) (iy.mk y c)),.int .i64 0]):=by
 refine tS ?_;have z:=hp.ax;simp only at z;have x:=z.le;have l:w.length=a.length:=hp.len;have e:y.length=a.length:=h.len;have C:=nd.2 h;have t:jD (wn u a w)=0:=AV hp;have Xw:u.length<=64:=hp.qH;have M:y.length<=1000000000/\a.length<=1000000000:=ab
 have U:w.length<=1000000000:=ab
 have b:u.length<=1000000000:=ab
 have k:y.length<=4:=ab
 simp[eJ,hp,h,C,t,M,U,b,dx];all_goals exact i9
def gG:cO:=⟨[-1, -1, -1, -1],[[],[],[],[]]⟩
def Ay:iN gG:=by
 refine⟨rfl,rfl,fun i h=> ?_,fun i h=> ?_⟩
 .have:i=0\/i=1\/i=2\/i=3:=by simp[gG]at h;omega
  rcases this with rfl|rfl|rfl|rfl<;>simp[gG]
 .have:i=0\/i=1\/i=2\/i=3:=by simp[gG]at h;omega
  rcases this with rfl|rfl|rfl|rfl<;>(refine⟨?_,?_⟩<;>simp[gG])
@[simp]def Uk(u:List hu)(a:List Int)(w:List (List Int))(y:List Int)(I:Int)(d S:List Int)(M:List (List Int))(b:List (List fd))(N:List fR)(c:List i5)(hp:o9 (wn u a w))(L:fM y a)(o:xF (dw.mk d S M (cn.mk b N) c))(B:pg a b=true):mh X [(0,7,112)] 64 [iB u a w,pp y I,xa d S M b N c]=some (.ed [xZ (lV.mk (wn u a w) (dx (wn u a w) (iy.mk y I)) (dw.mk d S M (cn.mk b N) c) gG [] [-1, -1, -1, -1]),.int .i64 0]):=by
 refine tS ?_;have k:=Ul u a w y I hp L;obtain⟨⟨⟨P,p⟩,⟨W,l⟩,mt⟩,O⟩: ∃m,dx (wn u a w) (iy.mk y I)=m:=⟨_,rfl⟩;have D:mt.length=4:=by have:=congrArg (fun m=>m.ce.length) O;simpa[dx] using this.symm
 have n: ∀(f:gc->V),List.take 4 (mt.map f)=mt.map f:=fun f=>bQ aA;have t: ∀(f:gc->Option V),List.take 4 (mt.map f)=mt.map f:=fun f=>bQ aA;rw[O]at k⊢;simp only at k⊢;have v:=BI d S M b N c o;have K:=o.iG;simp only at K;have j:b.length<=1000000000:=by have:=K.ap;simp only at this;omega
 have s: ∀i (h:i<b.length),(b[i]).length<=1000000000:=fun i h=>by have:=(K.each i h).2;simp only at this;omega
 simp[eJ,k,o,j,s,B,D,n,tX,gG];rfl
def Y3{l:List Int}{k:Int}(h:fA l k):fA l (Ld l k):=jH (Rb (Ej (jH (Cu (K9 h) _)) _))
def Qi(p:g9)(m:aN)(T:Nat)(o:dw)(l:cO)(vR vJ:V):V:= .agg [.sl false (p.hw.map hu.e),.sl false (p.ax.map (V.int .i64)),.sl false (p.ap.map bw),.sl false (m.am.aK.map (V.int .i64)),.int .u16 m.am.key,.sl false (m.gt.cells.map ac.e),.sl false (m.gt.ge.map cP.e),.cX T 0 4,.sl false (o.md.map (V.int .u16)),.sl false (o.nl.map (V.int .u16)),.sl false (o.dK.map bw),.sl false (o.iG.ap.map bZ),.sl false (o.iG.iV.map fR.e),.sl false (o.dT.map i5.e),.sl false (l.pl.map (V.int .i64)),.sl false (l.i4.map dC),vR,vJ]
structure MQ (p:g9) (d:Int) (c:Nat) (h:bI) (k T:Nat) (vR vJ:V) (m:aN) (o:dw) (l:cO) (js:List Int) (rc:List h_):Prop where
 row:h T=some ⟨8,m.ce.map gc.e,false⟩
 rcd:F2 h k rc vR
 jns:F1 h k js vJ
 lt:c<=T/\T<k
 loR: ∀i n,vR= .cX i 0 n->c<=i
 loJ: ∀i n,vJ= .cX i 0 n->c<=i
 sep:(∀n,vR≠ .cX T 0 n)/\(∀n,vJ≠ .cX T 0 n)/\ ∀i n m,vR= .cX i 0 n->vJ≠ .cX i 0 m
 PW:cJ p d m
 outs:rR o
 nc:iN l
 Cp:js.length=4
 bdd:rc.length<=300
def MQ.mono{d:Int}(H:MQ p d c h k T vR vJ m o l js rc)(z:k<=k')(b: ∀i,c<=i->i<k->h' i=h i):MQ p d c h' k' T vR vJ m o l js rc:=by
 obtain⟨h1,K,S,a,j,r,y,G,O,B,U,J⟩:=H;refine⟨aj,?_,?_,⟨a.1,ab⟩,j,r,y,G,O,B,U,J⟩
 .rcases K with e|⟨R,es,N,q,f,n⟩
  .exact .inl e
  .exact .inr ⟨R,es,ab,q,aj,n⟩
 .rcases S with e|⟨R,N,q,f⟩
  .exact .inl e
  .exact .inr ⟨R,ab,q,aj⟩
def MQ.MF{d d':Int}(H:MQ p d c h k T vR vJ m o l js rc)(q:c'<=c)(u:d<=d'):MQ p d' c' h k T vR vJ m o l js rc:=by
 obtain⟨h1,K,S,a,j,r,y,G,O,B,U,J⟩:=H;exact⟨h1,K,S,⟨ab,a.2⟩,fun i n e=>aj,fun i n e=>aj,y,G.mono u,O,B,U,J⟩
inductive yS (p:g9) (s0:RS):Nat->RS->Prop where
 |zero:yS p s0 0 s0
 |next {k:Nat} {s s':RS} (ct cb:Int) (sg:Bool):yS p s0 k s->wy p s.1 s.2.1 s.2.2.1 s.2.2.2.1 s.2.2.2.2 ct cb sg=some s'->yS p s0 (k+1) s'
structure Qj (p:g9) (ly:iy) (o:dw):Prop where
 prog:o9 p
 xd:BS p
 lay:fM ly.aK p.ax
 key:0<=ly.key/\ly.key<=65535
 outs:lB o
 prop:pg p.ax o.iG.ap=true
def rD(p:g9)(lay:iy)(o:dw):RS:=(dx p lay,o,gG,[-1, -1, -1, -1],[])
def yS.a46{s0 s:RS}(h:yS p s0 0 s):s=s0:=by cases h;rfl
def TG{ly:iy}{s:RS}(e:s=rD p ly o)(ct cb:Int)(sg:Bool):wy p s.1 s.2.1 s.2.2.1 s.2.2.2.1 s.2.2.2.2 ct cb sg≠none:=by
 subst e;unfold wy;rw[if_neg]
 .grind
 .rintro(h|h)
  .revert h;show¬(gV [_,_,_,_] 4).length=0;simp[gV,u5]
  .exact absurd h (by simp[rD])
def MR(dl:List Int)(v:V)(h:bI)(k:Nat):Prop:=
 ∃(kt:Int) (p:g9) (d:Int) (T:Nat) (vR vJ:V) (m:aN) (o:dw) (l:cO) (js:List Int) (rc:List h_),v=Qi p m T o l vR vJ/\h 0=some ⟨2,[pm dl kt],true⟩/\MQ p d 1 h k T vR vJ m o l js rc/\fA dl kt/\d<=2000/\ ∃(lay:iy) (r:dw) (n:Nat),(1<=n/\n<=20)/\Qj p lay r/\yS p (rD p lay r) n (m,o,l,js,rc)
def N_(dl:List Int)(p:g9)(lay:iy)(r:dw)(N i:Nat)(S:St):Prop:= ∃(kt:Int) (T:Nat) (vR vJ:V) (m:aN) (o:dw) (l:cO) (js:List Int) (rc:List h_),
 (S.f 0= .ptr 0 0 0/\S.f 2= .ptr 1 0 0/\S.f 4= .ptr 17 0 0/\S.f 6= .int .i64 ((N:Int)-i))/\
 (S.h 0=some ⟨2,[pm dl kt],true⟩/\S.h 1=some ⟨18,[J5],true⟩/\S.h 17=some ⟨18,[Qi p m T o l vR vJ],true⟩)/\
 MQ p (64*(i:Int)) 18 S.h S.n T vR vJ m o l js rc/\m.am=lay/\fA dl kt/\18<=S.n/\yS p (rD p lay r) i (m,o,l,js,rc)
@[simp]def a47(Q:List Int)(Z:Int)(hd:fA Q Z): ∃v h k,df X 19 [.ptr 0 0 0] (mY X 19 2 ((pm Q Z:V))) 1=some (v,h,k)/\MR Q v h k:=by
 have S':=Bt Q Z hd;obtain⟨I,cX⟩:=Y6 Q Z;have U:=Y3 hd;obtain⟨⟨pc,ps,y⟩,hp⟩: ∃p,vN Q Z=p:=⟨_,rfl⟩;rw[hp]at S' I cX;obtain⟨k1,cD⟩:=x_ (Ld Q Z);rw[cD]at S' U;have hz:=I.ax;have hL:=Cr Q k1 ps U hz;have L:=yR (dz:=gY Q k1 1048576) hz (gF Q k1 ab).1;have B:=Qh (40503*gY Q k1 1048576);have f:=jH U;obtain⟨P,hr⟩:=x_ (fy ps (gY Q k1 1048576));obtain⟨w,e3⟩:=x_ (IntKind.u16.wrap (40503*gY Q k1 1048576));obtain⟨k2,dF⟩:=x_ (fj Q k1);rw[hr,e3,dF]at hL;rw[hr]at L;rw[e3]at B;rw[dF]at f;have n1:=Bu Q k2 f;have O:=Um Q k2;have D:=MP Q k2 ps;have C:=Y9 f;obtain⟨⟨oc,r,oi,⟨od,aq⟩,hb⟩,ho⟩: ∃o,wz Q k2=o:=⟨_,rfl⟩;obtain⟨k3,aw⟩:=x_ (Qc Q k2);rw[ho,aw]at n1;rw[ho]at O D;rw[aw]at C;have hB:=Uk pc ps y P w oc r oi od aq hb I L O.p D;have M:cJ ⟨pc,ps,y⟩ 0 (dx ⟨pc,ps,y⟩ ⟨P,w⟩):=l5 I cX L B;obtain⟨⟨⟨HG,ha⟩,⟨cm,h5⟩,mt⟩,dN⟩: ∃m,dx ⟨pc,ps,y⟩ ⟨P,w⟩=m:=⟨_,rfl⟩;rw[dN]at hB M;have hq:Qj ⟨pc,ps,y⟩ ⟨P,w⟩ ⟨oc,r,oi,⟨od,aq⟩,hb⟩:=⟨I,cX,L,B,O,D⟩;have bc:mt.length=4:=M.len;have e9:=gF Q k3 (n:=16) ab;obtain⟨N,jz⟩: ∃N:Nat,3+gY Q k3 16=N:=⟨(3+gY Q k3 16).toNat,ab⟩;have h4:IntKind.i64.wrap (3+gY Q k3 16)=N:=by rw[jz];exact wrap_i64 ab
 have bs:=Eh Q k3 16 C ab;have bp:=jH C;simp only[gG]at hB;refine ip ?_;simp[S',hL,n1,hB,bs,h4,bc];have hl: ∀(H:bI) (x:Option Ob) (K hA:Nat) (kt d:Int) (T:Nat) (vR vJ:V) (m:aN) (o:dw) (l:cO) (js:List Int) (rc:List h_),H 0=some ⟨2,[pm Q kt],true⟩->MQ ⟨pc,ps,y⟩ d 18 H K T vR vJ m o l js rc->fA Q kt->d<=2000->K<=hA->18<=K-> ∀n,(1<=n/\n<=20)->yS ⟨pc,ps,y⟩ (rD ⟨pc,ps,y⟩ ⟨P,w⟩ ⟨oc,r,oi,⟨od,aq⟩,hb⟩) n (m,o,l,js,rc)->MR Q (Qi ⟨pc,ps,y⟩ m T o l vR vJ) (bB H 1 x) hA:=fun H x K hA kt d T vR vJ m o l js rc h0 hv hc f n4 ih n hn hx=>
  ⟨kt,_,d,T,vR,vJ,m,o,l,js,rc,rfl,by simpa[bB] using h0,(hv.mono n4 fun i h1 _=>ib).MF ab ab,hc,f,⟨P,w⟩,_,n,hn,hq,hx⟩
 refine nG (fun i S=>N_ Q ⟨pc,ps,y⟩ ⟨P,w⟩ ⟨oc,r,oi,⟨od,aq⟩,hb⟩ N i S) N ?_ 0 ab ?_
 .rintro i S hi ⟨kt,T,vR,vJ,m,o,l,js,rc,⟨bV,f2,f4,fG⟩,⟨h0,h1,h2⟩,hv,cu,hc,aH,hx⟩;unfold Qi at h2;by_cases iS:i<N
  case neg=>
   have cz: ¬(0:Int)<(N:Int)-i:=ab
   unfold J5 at h1;simp[f2,f4,fG,h1,h2,iS];exact hl S.h _ S.n _ _ _ _ _ _ _ _ _ _ _ h0 hv hc ab ab aH i ab hx
  have cz:(0:Int)<(N:Int)-i:=ab
  have s:=Cs Q kt hc;have G:=jH (jH (jH hc));obtain⟨t,an⟩:=x_ (fj Q (fj Q (fj Q kt)));obtain⟨⟨c1,c2,c3⟩,hy⟩: ∃c,yb Q kt=c:=⟨_,rfl⟩;rw[an,hy]at s;rw[an]at G;simp only at s;obtain⟨⟨ht,h3⟩,⟨ak,hg⟩,hs⟩:=m;obtain⟨J,Y,E,⟨R,A⟩,u⟩:=o;obtain⟨g,q⟩:=l;simp only at h2;have cI:IntKind.i64.wrap ((N:Int)-i-1)=(N:Int)-(i+1:Nat):=g7
  have gX: ∀(hE:bI) (au:Nat),S.n<=au->(∀j,18<=j->j<S.n->hE j=S.h j)-> ∃v h' k',df X 67 [Qi ⟨pc,ps,y⟩ ⟨⟨ht,h3⟩,⟨ak,hg⟩,hs⟩ T ⟨J,Y,E,⟨R,A⟩,u⟩ ⟨g,q⟩ vR vJ,.agg [.int .i64 c1,.int .i64 c2,.bool c3]] hE au=some (v,h',k')/\GG ⟨pc,ps,y⟩ (64*(i:Int)) (wy ⟨pc,ps,y⟩ ⟨⟨ht,h3⟩,⟨ak,hg⟩,hs⟩ ⟨J,Y,E,⟨R,A⟩,u⟩ ⟨g,q⟩ js rc c1 c2 c3) ⟨ht,h3⟩ hE au (fun j=>j<18) v h' k':=fun hE au hk hh=>by
   obtain⟨F,g2,g3,g4,m',hI,kg,bE,hC,bS,bP,t'⟩:=hv.mono hk hh;exact QT pc ps y ht h3 ak hg hs J Y E R A u g q rc js c1 c2 c3 hE au T vR vJ _ (64*(i:Int)) ⟨g4.2,F⟩ g2 g3 bE ab hC bS bP (fun j hj=>⟨ab,fun n e=>by have:=m' _ _ e;omega,fun n e=>by have:=hI _ _ e;omega⟩) kg ab
  unfold Qi at gX;simp only at gX;obtain⟨v,h',k',aa,a',n0,bL⟩:=gX (bB (bB S.h 0 none) 0 (some ⟨2,[pm Q t],true⟩)) (S.n+12) ab (fun j a b=>by rw[bB,if_neg ab,bB,if_neg ab]);have fv:=n0 0 ab ab;have F:=n0 1 ab ab;have W:=n0 17 ab ab;have kk:(bB (bB S.h 0 none) 0 (some ⟨2,[pm Q t],true⟩)) 0=some ⟨2,[pm Q t],true⟩:=al
  have aJ:(bB (bB S.h 0 none) 0 (some ⟨2,[pm Q t],true⟩)) 1=some ⟨18,[J5],true⟩:=by simp[bB,h1]
  have hf:(bB (bB S.h 0 none) 0 (some ⟨2,[pm Q t],true⟩)) 17=S.h 17:=al
  rw[kk]at fv;rw[aJ]at F;rw[hf,h2]at W;have w1: ¬S.n=8:=ab
  have w2: ¬17=S.n+9:=ab
  rcases bL with⟨kz,e,he,rfl,dM⟩|⟨cC,o2,l2,ba,bU,h8,mm,ae,c4,kK,rfl,⟨q1,q2,cg⟩,⟨hR,cZ,hT,hM,ff,v',f3,cL,HA⟩,b',hS,m1,ts,iO,ku,bW⟩
  .have e0: ¬e=0:=ab
   have aE:1<=i:=Nat.pos_of_ne_zero fun z=>by
    subst z;exact TG hx.a46 _ _ _ kz
   unfold J5 at aa F;simp[bV,f2,f4,fG,h0,h2,iS,s,aa,F,W,e0,X6,w2];refine hl _ _ (k'+1) _ _ _ _ _ _ ⟨⟨ht,h3⟩,⟨ak,hg⟩,hs⟩ ⟨J,Y,E,⟨R,A⟩,u⟩ ⟨g,q⟩ _ _ (by simp[bB,fv]) (hv.mono ab fun j a b=> ?_) G ab ab ab i ab hx;rw[bB,if_neg ab,bB,if_neg ab,dM j ab,bB,if_neg ab,bB,if_neg ab]
  .subst bW;unfold Bs at aa;unfold J5 at F;simp[bV,f4,fG,h0,h2,iS,s,aa,W,X6,w2,cI];refine⟨t,h8,.cX mm 0 bU.length,.cX ae 0 4,cC,o2,l2,ba,bU,⟨by simp[bB,bV],eg,by simp[bB,f4],al⟩,⟨by simp[bB,fv],?_,?_⟩,?_,hS.trans cu,G,aB,.next _ _ _ hx kK⟩
   .simp[bB,F];rfl
   .simp[bB];rfl
   .have ay: ∀j,S.n+12<=j-> ¬j=S.n+9:=fun j hj=>ab
    have ah: ∀j,S.n+12<=j-> ¬j=17:=fun j hj=>ab
    refine⟨?_,.inr ⟨mm,_,?_,rfl,?_,rfl⟩,.inr ⟨ae,?_,by rw[iO],?_⟩,⟨ab,?_⟩,fun i n e=> ?_,fun i n e=> ?_,⟨fun n e=> ?_,fun n e=> ?_,fun i n m e1 e2=> ?_⟩,b'.mono ab,m1,ts,iO,ku⟩
    .simp[bB,ay h8 hR,ah h8 hR,q1]
    .exact nE
    .simp[bB,ay mm hT,ah mm hT,q2]
    .exact nE
    .simp[bB,ay ae ff,ah ae ff,cg]
    .exact nE
    .cases e;omega
    .cases e;omega
    .cases e;omega
    .cases e;omega
    .cases e1;cases e2;omega
 .simp;refine⟨fj Q k3,20,.sl false [],.sl false [.int .i64 (-1),.int .i64 (-1),.int .i64 (-1),.int .i64 (-1)],⟨⟨HG,ha⟩,⟨cm,h5⟩,mt⟩,⟨oc,r,oi,⟨od,aq⟩,hb⟩,⟨[-1, -1, -1, -1],[[],[],[],[]]⟩,[-1, -1, -1, -1],[],⟨al,al,al,al⟩,⟨al,by simp[bB,J5],?_⟩,⟨?_,.inl rfl,.inl rfl,⟨ab,aB⟩,fun i n e=> ?_,fun i n e=> ?_,⟨fun n e=> ?_,fun n e=> ?_,fun i n m e1 e2=> ?_⟩,M.mono ab,.inl O,Ay,rfl,ai⟩,?_,bp,aB,by rw[<-dN];exact .zero⟩
  .simp[bB,Qi]
  .simp[bB]
  .cases e
  .cases e
  .cases e
  .cases e
  .cases e1
  .have:=congrArg aN.am dN;exact this.symm
def MR.Fz(H:MR dl v h k): ∃(kt:Int) (p:g9) (d:Int) (m:aN) (o:dw) (l:cO) (js:List Int) (rc:List h_),
  CK X [] v h=some (2,(pm dl kt:V),[(t7 p.hw p.ax p.ap m.am.aK m.am.key m.gt.cells m.gt.ge m.ce o.md o.nl o.dK o.iG.ap o.iG.iV o.dT l.pl l.i4 rc js:V)])/\fA dl kt/\cJ p d m/\d<=2000/\rc.length<=300/\ ∃(lay:iy) (r:dw) (n:Nat),(1<=n/\n<=20)/\Qj p lay r/\yS p (rD p lay r) n (m,o,l,js,rc):=by
 obtain⟨kt,p,d,T,vR,vJ,m,o,l,js,rc,rfl,h0,q,z,u,F⟩:=H;refine⟨kt,p,d,m,o,l,js,rc,?_,z,q.PW,u,q.bdd,F⟩;have W:=q.row;have w:m.ce.length=4:=q.PW.len;obtain⟨i,y⟩:=q.lt;have K: ¬T=0:=ab
 have x:=q.Cp;have t: ∀(f:gc->V),List.take 4 (m.ce.map f)=m.ce.map f:=fun f=>bQ aj;have j: ∀(f:Int->V),List.take 4 (js.map f)=js.map f:=fun f=>bQ aj;unfold Qi;rcases q.rcd with rfl|⟨R,es,U,rfl,c,rfl⟩
 .rcases q.jns with rfl|⟨J,Q,rfl,Y⟩
  .simp_all
  .have s: ¬J=0:=by have:=q.loJ _ _ rfl;omega
   simp_all
 .have A: ¬R=0:=by have:=q.loR _ _ rfl;omega
  rcases q.jns with rfl|⟨J,Q,rfl,Y⟩
  .simp_all
  .have s: ¬J=0:=by have:=q.loJ _ _ rfl;omega
   simp_all
def MS{t:Int}(u:fA dl t): ∃(kt:Int) (p:g9) (d:Int) (m:aN) (o:dw) (l:cO) (js:List Int) (rc:List h_),
  qP X [] 19 2 ((pm dl t:V)) []=some (2,(pm dl kt:V),[(t7 p.hw p.ax p.ap m.am.aK m.am.key m.gt.cells m.gt.ge m.ce o.md o.nl o.dK o.iG.ap o.iG.iV o.dT l.pl l.i4 rc js:V)],.bad)/\fA dl kt/\cJ p d m/\d<=2000/\rc.length<=300/\ ∃(lay:iy) (r:dw) (n:Nat),(1<=n/\n<=20)/\Qj p lay r/\yS p (rD p lay r) n (m,o,l,js,rc):=by
 obtain⟨v,h,k,e,H⟩:=a47 dl t u;have i:yt v= .bad:=by
  obtain⟨_,_,_,_,_,_,_,_,_,_,_,rfl,_⟩:=H;rfl
 obtain⟨kt,p,d,m,o,l,js,rc,E,h1⟩:=H.Fz;refine⟨kt,p,d,m,o,l,js,rc,?_,h1⟩;unfold qP<;>simp_all
end Go.Proofs.YtdngefmliibcgaaGreat
