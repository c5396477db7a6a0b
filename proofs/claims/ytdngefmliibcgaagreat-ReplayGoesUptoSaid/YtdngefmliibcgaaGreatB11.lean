import Derived.Test.YtdngefmliibcgaaGreatB10
set_option linter.all false
set_option maxRecDepth 20000
set_option maxHeartbeats 0
namespace Go.Proofs.YtdngefmliibcgaaGreat
open Go Go.Abs Go.Abs.jJ Qf
variable  {h h':bI}{k k' T i C L a t n a':Nat}{S:Nat->Prop}{vB vC vL:V}{es:List V}{m r:aN}{ids bH jA:Nat->Nat}{l UR:List gc}{x:gc}{p:g9}{d c key s:Int}{b:Bool}{aK ax:List Int}
structure ld (h:bI) (k:Nat) (S:Nat->Prop) (T:Nat) (vB vC vL:V) (es:List V) (m:aN):Prop where
 lt: ∀i,S i->i<k
 XR:S T
 row:h T=some ⟨8,es,true⟩
 len:es.length=4
 am0:m.ce.length=4
 avb: ∀i (g:i<es.length) (g':i<m.ce.length),∃vR,es[i]= .agg [.int .i64 (m.ce[i]).im,vR,.int .i64 (m.ce[i]).pc,.int .i64 (m.ce[i]).ia,.int .i64 (m.ce[i]).db,.int .i64 (m.ce[i]).iw,.int .i64 (m.ce[i]).dD,.int .u16 (m.ce[i]).hw]
 eA: ∀hx:bI,(∀i,S i->i≠T->hx i=h i)-> ∀d,da hx (d+3) vB=some (.sl false (m.am.aK.map (V.int .i64)))/\da hx (d+3) vC=some (.sl false (m.gt.cells.map ac.e))/\
  da hx (d+3) vL=some (.sl false (m.gt.ge.map cP.e))/\di (es.map (da hx (d+3)))=some (m.ce.map gc.e)
def ld.mono(H:ld h k S T vB vC vL es m)(z:k<=k')(b: ∀i,S i->h' i=h i):ld h' k' S T vB vC vL es m:=by
 obtain⟨h1,K,U,a,l,q,y⟩:=H;exact⟨fun i j=>aj,K,aj,a,l,q,fun hx C d=>y hx (fun i j W=>aj) d⟩
def Tf(hx:bI)(d:Nat)(x:gc):da hx (d+3) (gc.e x)=some (gc.e x):=by
 simp[gc.cN,da,di]
def E6(hx:bI)(d:Nat): ∀l:List gc,di ((l.map gc.e).map (da hx (d+3)))=some (l.map gc.e)
 | []=>rfl
 |a::l=>by simp only[r2];rw[Tf];rw[di.eq_3,E6 hx d l]
def ld.flat(W:h T=some ⟨8,m.ce.map gc.e,true⟩)(l:m.ce.length=4)(y:T<k):
  ld h k (fun i=>i=T) T (.sl false (m.am.aK.map (V.int .i64))) (.sl false (m.gt.cells.map ac.e)) (.sl false (m.gt.ge.map cP.e)) (m.ce.map gc.e) m:=by
 refine⟨fun i j=>ab,rfl,W,aj,l,fun i g g'=>⟨.sl false ((m.ce[i]).bK.map ac.e),?_⟩,fun hx _ d=>⟨bu,bu,bu,E6 hx d _⟩⟩;simp[gc.cN]
def XS(vB:V)(C L T:Nat)(ids bH:Nat->Nat)(i:Nat):Prop:=i=C\/i=L\/i=T\/(∃j,j<4/\(i=ids j\/i=bH j))\/ ∃s n,vB= .cX i s n
def PD(g:i<(dn ids l).length)(g':i<l.length):(dn ids l)[i]=dY ids i l[i]:=by
 simp[dn]
def ld.deep(H:gA h k vB C L T ids bH m):ld h k (XS vB C L T ids bH) T vB (.cX C 0 512) (.cX L 0 4) (dn bH m.ce) m:=by
 have l:=H.len;have o:=H.mp.ge;have c:=H.mp.len;refine⟨fun i w=> ?_,.inr (.inr (.inl rfl)),H.lq,by rw[eX,l],l,fun i g g'=>⟨.cX (bH i) 0 (m.ce[i]).bK.length,?_⟩,fun hx t d=> ?_⟩
 .rcases w with rfl|rfl|rfl|⟨j,r,rfl|rfl⟩|⟨s,n,e⟩
  .exact H.lt.1
  .exact H.lt.2.1
  .exact H.yG.2.2
  .exact H.lt.2.2 j r
  .exact(H.mL j r).2.2.2
  .rcases H.aK with q|⟨B,q,_,D,_⟩<;>grind
 .rw[PD g g'];rfl
 .have p:C≠T:=fun e=>H.yG.1 e.symm;have A:L≠T:=fun e=>H.yG.2.1 e.symm;have y:=t C (.inl rfl) p;have S:=t L (.inr (.inl rfl)) A;have I: ∀j,j<4->hx (ids j)=h (ids j):=fun j r=>t _ (.inr (.inr (.inr (.inl ⟨j,r,.inl rfl⟩)))) (H.afp j r);have x: ∀j,j<4->hx (bH j)=h (bH j):=fun j r=>t _ (.inr (.inr (.inr (.inl ⟨j,r,.inr rfl⟩)))) (H.mL j r).2.2.1;have F:=H.Gc (hx:=hx) x (d+1);have E:=H.AY (hx:=hx) I d;have v:=j9 ids m.gt.ge;have u:(gh ids m.gt.ge).take 4=gh ids m.gt.ge:=bQ ab;have z:(m.gt.cells.map ac.e).take 512=m.gt.cells.map ac.e:=bQ aj;refine⟨?_,?_,?_,F⟩
  .rcases H.aK with q|⟨B,q,J,D,M,U⟩
   .simp_all
   .have G:=t B (.inr (.inr (.inr (.inr ⟨_,_,q⟩)))) D.2.2.1
    simp_all
  .simp[da,y,H.mem.cells,c,z]
  .simp[da,S,H.mem.ge,v,o,u,E]
def Ai(l:List ac):(l.map ac.e).all V.Nq=true:=by
 exact pT
def UQ(l:List Int):(l.map (V.int .i64)).all V.Nq=true:=by
 exact pT
def XT(ids:Nat->Nat)(l:List cP):(gh ids l).all V.Nq=true:=by
 rw[rZ];intro x hx;obtain⟨i,h,rfl⟩:=vP hx;simp[gh,KM,V.Nq,V.TU]
def PE(ids:Nat->Nat)(l:List gc):(dn ids l).all V.Nq=true:=by
 rw[rZ];intro x hx;obtain⟨i,h,rfl⟩:=vP hx;simp[dn,dY,V.Nq,V.TU]
def gA.pure(H:gA h k vB C L T ids bH m):gA (fun i=>j6 (h i)) k vB C L T ids bH m:=by
 obtain⟨h0,h1,K,S,a,j,q,y,O,I,U,J,t⟩:=H;refine⟨h0,⟨by simp only[h1.cells,j6,Ai,if_true],by simp only[h1.ge,j6,XT,if_true],fun i g=>by simp only[h1.line i g,j6,Ai,if_true]⟩,K,S,?_,by simp only[j,j6,PE,if_true],fun i g=>by simp only[q i g,j6,Ai,if_true],y,O,I,U,J,t⟩;rcases a with e|⟨B,e,v,D⟩
 .grind
 .exact .inr ⟨B,e,by simp only[v,j6,UQ,if_true],D⟩
def gA.put      (H:gA h k vB C L T ids bH m)  (A:nH a vB C L T ids bH) (z:k<=k')  (S:t<4) 
  (W:h' T=some ⟨8,dn bH (m.ce.set t x),true⟩) (R:h' (bH t)=some ⟨2,x.bK.map ac.e,false⟩) (b: ∀i,a<=i->i<k->i≠T->i≠bH t->h' i=h i):gA h' k' vB C L T ids bH (ie m m.gt t x):=by
 obtain⟨h0,h1,K,U,c,o,s,y,O,I,q,J,u⟩:=H;obtain⟨⟨w,N,Z⟩,p,n⟩:=A;obtain⟨l,r,E,P⟩:=q t S;refine⟨h0,⟨by rw[b _ w U.1 (ls O.1) (ls l)];exact h1.cells,by rw[b _ N U.2.1 (ls O.2.1) (ls r)];exact h1.ge,fun i g=> ?_⟩,K,⟨ab,ab,fun i j=>aj⟩,?_,W,fun i g=> ?_,by simp[ie,y],⟨O.1,O.2.1,ab⟩,I,fun i j=>aj,J,u⟩
 .have j:i<4:=by have:=h0.ge;simp only[ie]at g;omega
  rw[b _ (p i j).1 (U.2.2 i j) (I i j) (J t i S j)];exact h1.line i g
 .rcases c with e|⟨B,e,v,D,M,V⟩
  .exact .inl e
  .exact .inr ⟨B,e,by rw[b _ (n _ _ _ e) D.2.2.2 D.2.2.1 (ls (V t S)),v];rfl,⟨D.1,D.2.1,D.2.2.1,ab⟩,M,V⟩
 .simp only[ie,rm]at g;simp only[ie,r6]<;>grind
def XS.PF(H:nH a vB C L T ids bH): ∀i,XS vB C L T ids bH i->a<=i:=fun i h=>by
 obtain⟨⟨t,N,Z⟩,I,B⟩:=H;rcases h with rfl|rfl|rfl|⟨j,q,rfl|rfl⟩|⟨s,n,e⟩<;>grind
def Mr(p:g9)(d:Int)(lay:iy)(h:bI)(k:Nat)(S:Nat->Prop)(v:V)(h':bI)(k':Nat):Prop:=
 ∃(b:Bool) (j:Nat->Prop) (T:Nat) (U e X:V) (B:List V) (m:aN),v= .ed [rB U m.am.key e X (.cX T 0 4),.bool b]/\ld h' k' j T U e X B m/\cJ p d m/\m.am=lay/\k<=k'/\(∀i,i<k->h' i=h i)/\ ∀i,j i->S i\/k<=i
def Mr.same(H:ld h k S T vB vC vL es m)(G:cJ p d m)(B:Below k h h'):
  Mr p d m.am h k S (.ed [rB vB m.am.key vC vL (.cX T 0 4),.bool b]) h' (k+n):=
 ⟨b,S,T,vB,vC,vL,es,m,rfl,H.mono ab fun i j=>B i (H.lt i j),G,rfl,ab,B,fun i j=> .inl j⟩
def Mr.new{lay:iy}(H:gA h' (k+n) vB C L T ids bH m)(A:nH k vB C L T ids bH)(G:cJ p d m)(l:m.am=lay)(B:Below k h h'):
  Mr p d lay h k S (.ed [rB vB m.am.key (.cX C 0 512) (.cX L 0 4) (.cX T 0 4),.bool b]) h' (k+n):=
 ⟨b,_,T,vB,_,_,_,m,rfl,.deep H,G,l,ab,B,fun i j=> .inr (XS.PF A i j)⟩
def dQ.ce {h h':bI} {k k' b C L T:Nat} {vB:V} {ids bH A:Nat->Nat} {m:aN} {UR:List gc} (H:dQ h k b vB C L T ids bH m) (z:k<=k') (I:UR.length=4) (W:h' T=some ⟨8,dn A UR,true⟩)
  (R: ∀i (g:i<UR.length),h' (A i)=some ⟨2,(UR[i]).bK.map ac.e,false⟩) (o: ∀i,i<4->A i=bH i\/(k<=A i/\A i<k')) (l: ∀i j,i<4->j<4->i≠j->A i≠A j)
  (a: ∀i,i<k->i≠T->(∀j,j<4->i≠bH j)->h' i=h i):dQ h' k' b vB C L T ids A ⟨m.am,m.gt,UR⟩:=by
 obtain⟨h1,K,X,c,h0,r,y,G,O,J⟩:=H;have S:=h1.lt;refine⟨?_,?_,W,R,I,⟨r.1,r.2.1,r.2.2.1,ab⟩,y,fun i n=> ?_,fun i j n q=> ?_,l⟩
 .have e:UR.length=m.ce.length:=ab
  simp only[e];exact h1.eP z (a _ S.1 (ls r.1) fun j q=>ls (G j q).1) (a _ S.2.1 (ls r.2.1) fun j q=>ls (G j q).2.1) (a _ S.2.2.1 (ls r.2.2.1) fun j q=>ls (G j q).2.2.1) fun j q=>a _ (S.2.2.2 j q) (y j q) fun i n=>O i j n q
 .rcases K with e|⟨B,e,v,D,M,U⟩
  .exact .inl e
  .refine .inr ⟨B,e,by rw[a _ D.2.2.2.2 D.2.2.2.1 fun j q=>ls (U j q),v],ab,M,fun i n=> ?_⟩<;>grind
 .grind
 grind
def uj(B s n C L T:Nat)(m:aN):(iF (.cX B s n) C L T m).pu=true:=rfl
def nH.less(H:nH a vB C L T ids bH)(h:a'<=a):nH a' vB C L T ids bH:=by
 obtain⟨⟨t,N,Z⟩,I,l⟩:=H;exact⟨⟨ab,ab,ab⟩,fun j q=>aj,fun B s n e=>aj⟩
def dQ.other{b:Nat}(H:dQ h k b vB C L T ids bH m)(y:k<=k')(W:a≠b/\a≠C/\a≠L/\a≠T)(l: ∀j,j<4->a≠ids j/\a≠bH j)(o: ∀B s n,vB= .cX B s n->a≠B)(c: ∀i,i<k->i≠a->h' i=h i):dQ h' k' b vB C L T ids bH m:=by
 obtain⟨h1,K,V,d,h0,q,z,G,O,I⟩:=H;have S:=h1.lt;refine⟨h1.eP y (c _ S.1 (ls W.1)) (c _ S.2.1 (ls W.2.1)) (c _ S.2.2.1 (ls W.2.2.1)) fun j r=>c _ (S.2.2.2 j r) (ls (l j r).1),?_,aj,fun i g=>aj,h0,⟨q.1,q.2.1,q.2.2.1,ab⟩,z,fun i l=>aj,O,I⟩;rcases K with e|⟨B,e,v,D,M,U⟩
 .exact .inl e
 .exact .inr ⟨B,e,aj,ab,M,U⟩
def gA.ce       (H:gA h k vB C L T ids bH m)  (A:nH a vB C L T ids bH) (y:k<=k') (G:UR.length=4) (W:h' T=some ⟨8,dn jA UR,true⟩)
  (R: ∀i (g:i<UR.length),h' (jA i)=some ⟨2,(UR[i]).bK.map ac.e,false⟩) (l: ∀i,i<4->jA i=bH i\/(k<=jA i/\jA i<k')) (M: ∀i j,i<4->j<4->i≠j->jA i≠jA j)
  (b: ∀i,a<=i->i<k->i≠T->(∀j,j<4->i≠bH j)->h' i=h i):gA h' k' vB C L T ids jA ⟨m.am,m.gt,UR⟩:=by
 obtain⟨h0,h1,K,S,c,o,r,z,O,B,U,J,t⟩:=H;obtain⟨⟨u,N,Z⟩,I,p⟩:=A;refine⟨h0,⟨by rw[b _ u S.1 (ls O.1) fun j q=>ls (U j q).1];exact h1.cells,by rw[b _ N S.2.1 (ls O.2.1) fun j q=>ls (U j q).2.1];exact h1.ge,fun i g=> ?_⟩,K,⟨ab,ab,fun i l=>aj⟩,?_,W,R,G,⟨O.1,O.2.1,ab⟩,B,fun i n=> ?_,fun i j n q=> ?_,M⟩
 .have l:i<4:=by have:=h0.ge;simp only at g;omega
  rw[b _ (I i l).1 (S.2.2 i l) (B i l) fun j q=>J j i q l];exact h1.line i g
 .grind
 .grind
 grind
def Ms(cs:List V):(V.agg cs).pu=cs.all V.TU:=rfl
def Iq(i s n:Nat):(V.cX i s n).pu=true:=rfl
def Gf(i s n:Nat):(V.cX i s n).TU=true:=rfl
def Gg(k:IntKind)(n:Int):(V.int k n).TU=true:=rfl
def uT(x:gc):Bool:=decide (x.im=1)&& (decide (¬x.db= -1)&&decide (x.iw= -1))
def oA(x:eI):Bool:=lZ x.iW&& (iH x.ap&& (decide (x.ap.length<=16)&& (decide (-1<=x.lw)&&decide (x.lw<4))))
@[simp]def wo(Z:List Int)(B:Int)(d:List ac)(e:List cP)(a:List gc)(t:Int)(S:0<=t/\t<a.length)(l:a.length=4):cG X 137 [ol Z B d e a,.int .i64 t]=some (.bool (uT (a.getD t.toNat cT))):=by
 refine ij ?_;obtain⟨k,rfl⟩:=jp S.1;have y:k<a.length:=ab
 have h:k<4:=ab
 have z: ¬(4:Int)<=k:=ab
 have v:(k:Int)<4:=ab
 have O: ¬(k:Int)<0:=ab
 have hx:a.getD (k:Int).toNat cT=a[k]:=gg
 rw[hx];by_cases h1:(a[k]).im=1
 .have u:=eq_true h1;by_cases K:(a[k]).db= -1
  .have J:=eq_true K;simp[h,z,v,O,l,u,J,uT]
  .simp[h,z,v,O,l,u,K,uT]
 .simp[h,z,v,O,l,h1,uT]
@[simp]def eu(a c H J:Int)(b:List fd)(U:Int)(d:Bool)(h:b.length<=1000000000):cG X 191 [lc a c H J b U d]=some (.bool (oA (wl a c H J b U d))):=by
 refine ij ?_;cases h1:lZ (eI.mk (fd.mk a c H J) b U d).iW
 case false=>simp[h1,oA]
 cases K:iH b
 case false=>simp[h1,K,h,oA]
 by_cases S:(b.length:Int)<=16
 case neg=>
  have O: ¬b.length<=16:=ab
  simp[h1,K,S,O,h,oA]
 have O:b.length<=16:=ab
 by_cases e: -1<=U
 .simp[h1,K,S,O,e,h,oA]
 .simp[h1,K,S,O,e,h,oA]
def KX(x:fd):Bool:=decide (x.gs=1)&&decide (x.lm= -1)
def gA.own(H:gA h k vB C L T ids bH r):Nr X h (iF vB C L T r) [(0,4,112)]=some (.agg (kW r)):=by
 have W:=H.lq;have G:=H.len;have s:=H.mp.ge;have m:=H.mp.len;have g: ¬C=T:=fun e=>H.yG.1 e.symm;have A: ¬L=T:=fun e=>H.yG.2.1 e.symm;have u: ∀i,i≠T->bB h T none i=h i:=fun i j=>by simp[bB,j]
 have o:=H.Gc (hx:=bB h T none) (fun i j=>u _ (H.mL i j).2.2.1) 10;have p:=H.AY (hx:=bB h T none) (fun i j=>u _ (H.afp i j)) 9;have f:=eX bH r.ce;have l:=j9 ids r.gt.ge;rw[G]at f;rw[s]at l;have n:(dn bH r.ce).take 4=dn bH r.ce:=bQ ab;have q:(gh ids r.gt.ge).take 4=gh ids r.gt.ge:=bQ ab;have t:(r.gt.cells.map ac.e).take 512=r.gt.cells.map ac.e:=bQ aA;have I:(r.ce.map gc.e).take 4=r.ce.map gc.e:=bQ aA;unfold iF kW;rcases H.aK with e|⟨B,e,v,D,M,U⟩
 .simp[e,W,G,m,g,A,H.mem.cells,H.mem.ge,f,l,n,q,t,o,p]
 .have Y: ¬B=T:=D.2.2.1;simp[e,v,W,G,m,Y,g,A,H.mem.cells,H.mem.ge,f,l,n,q,t,o,p]
@[simp]def US(Z:List Int)(k:Int)(h:List ac)(F:List cP)(a:List gc)(p:g9)(c:Int)(H:cJ p c (w_ Z k h F a)):mh X [(0,4,112)] 103 [ol Z k h F a]=some ((rJ ((aN.mk (iy.mk Z k) (aD.mk h F) a)):V)):=by
 obtain⟨v,h',k',e,_,i,A,_⟩:=A3 Z k h F a 0 p c H;unfold Go.Abs.mh;rw[e];simp only[i];exact A.own
def uU(m:aN)(t:Nat):aN:=⟨m.am,m.gt,m.ce.set t {bO m t with iw:=(bO m t).pc,pc:=(bO m t).db}⟩
@[simp]def XX(Z:List Int)(B:Int)(e:List ac)(F:List cP)(a:List gc)(t:Int)(p:g9)(c:Int)(H:cJ p c (w_ Z B e F a))(T:0<=t/\t<4)(n:uT (a.getD t.toNat cT)=true):mh X [(0,4,112)] 120 [ol Z B e F a,.int .i64 t]=some (.ed [rJ (uU (w_ Z B e F a) t.toNat),.bool true]):=by
 refine tS ?_;obtain⟨k,rfl⟩:=jp T.1;have z:k<4:=ab
 have y:(k:Int)<4:=ab
 have l:a.length=4:=H.len;have b:k<a.length:=ab
 have D:=US Z B e F a p c H;have v:=wo Z B e F a k ⟨ab,ab⟩ l;rw[n]at v;have hx:bO (w_ Z B e F a) k=a[k]:=eL b;obtain⟨⟨st,g,pc,o,h,w,r,d⟩,m⟩: ∃x,a[k]=x:=⟨_,rfl⟩;rw[X7];unfold uU;rw[hx,m];obtain⟨s,u⟩:=x_ (a.set k ⟨st,g,h,o,h,pc,r,d⟩);have j:s.length=4:=by rw[<-u];simp[l]
 have A: ∀(f:gc->V),List.take 4 (a.map f)=a.map f:=fun f=>bQ aA;have q: ∀(f:gc->Option V),List.take 4 (a.map f)=a.map f:=fun f=>bQ aA;have C: ∀(f:gc->V),List.take 4 (s.map f)=s.map f:=fun f=>bQ aA;have E: ∀(f:gc->Option V),List.take 4 (s.map f)=s.map f:=fun f=>bQ aA;have I:(gc.e ⟨st,g,pc,o,h,w,r,d⟩).put 5 (.int .i64 pc)=gc.e ⟨st,g,pc,o,h,pc,r,d⟩:=rfl;have P:(gc.e ⟨st,g,pc,o,h,pc,r,d⟩).put 2 (.int .i64 h)=gc.e ⟨st,g,h,o,h,pc,r,d⟩:=rfl;have S:(a.map gc.e).set k (gc.e ⟨st,g,h,o,h,pc,r,d⟩)=s.map gc.e:=by rw[<-u,sB]
 rw[u];simp[D,v,C,tX,l,j,z,y,m,I,P,S]
def fq.R{l:List ac}(h:fq l):Ac l:=fun i j=>by obtain⟨h1,K⟩:=h.at j<;>grind
def cJ.R{p:g9}{c:Int}{m:aN}(h:cJ p c m):xw m:=by
 refine⟨h.key,h.mem.cells.R,fun i j=> ?_,fun i j=>(h.lq i j).cells.R,fun i j=>(h.lq i j).hw⟩;have g:=h.mem.line i;have e:eZ m.gt i=m.gt.ge[i]:=by unfold eZ;simp[List.getD,j]
 rw[e]at g;exact g.R
def Aj{p:g9}{t:Nat}{u:Int}: ∀(k:Nat) (m:aN),(gH p t u k m).1.am=m.am
 |0,m=>rfl
 |k+1,m=>by
  unfold gH;split
  .split
   .rfl
   .rw[Aj k];rfl
  .rfl
def JU(p:g9)(m:aN)(t:Nat)(n:Int):(dB p m t n).1.am=m.am:=by
 unfold dB;split
 .exact Aj _ _
 .rfl
structure De (q:io):Prop where
 args:q.args.length<=3
 ap:q.ap.length<=16
 one:(q.call=8\/q.call=9\/q.call=11)->1<=q.args.length
 av:fg q.args
 dv:fg q.ap
def Tg(h:c=8\/c=9\/c=11):(dc c).length=1:=by
 rcases h with rfl|rfl|rfl<;>rfl
def ZZ{bK:List ac}(h:fq bK)(i:Nat):fg (dW aK key ax bK i):=fun c m=>by
 obtain⟨x,hx,rfl⟩:=List.mem_map.1 m;exact UP (h x (sw hx))
def V2{mem:aD}(h:qo mem)(a i:Nat):fg (jL aK key ax mem a i):=fun c m=>by
 obtain⟨x,hx,rfl⟩:=List.mem_map.1 m;exact UP (fq.look h _)
def UT(H:cJ p d m)(hx:eS d x)(t:Int)(c:0<=kf p x/\kf p x<=15)(w:wU p m x=0):De (xD p m x t):=by
 have S:=mr c;have l:=hx.bK;have e:(dW m.am.aK m.am.key p.ax x.bK (dc (kf p x)).length).length=(dc (kf p x)).length:=ry ab;obtain⟨_,K⟩:=rO w;refine⟨fs,?_,fun h=> ?_,ZZ hx.cells _,?_⟩
 .simp only[xD];split
  .rw[tG];omega
  .simp
 .simp only[xD]at h⊢;have:=Tg h;omega
 .simp only[xD];split
  .exact V2 H.mem _ _
  .exact fg.nil
def ZY(S:t<4)(H:wT p d t (m,s)):cJ p d (jr p m t s).1/\(jr p m t s).1.am=m.am/\(jr p m t s).2.cw=t/\De (jr p m t s).2/\(jr p m t s).2.j'≠3:=by
 have M:=H.ny;have hx:=M.bO S;have n: ∀a b c e f,De ⟨a,b,c,e,f,0,[],[]⟩:=fun a b c e f=>⟨ai,ai,fun h=>aj,fg.nil,fg.nil⟩;unfold jr;by_cases g:s=1
 .subst g;rw[if_pos rfl];obtain⟨U,F,E,r⟩:=H.calls rfl;simp only at U F E r;have P:0<=kf p (bO m t)/\kf p (bO m t)<=15:=by
   obtain⟨j,x⟩: ∃j:Nat,(bO m t).pc-1=j:=⟨((bO m t).pc-1).toNat,ab⟩;have u:j<p.hw.length:=ab
   have J:kq p.hw (bO m t).pc=p.hw[j]:=by unfold kq;rw[x];simp[List.getD,u]
   have o:=M.prog.wS (p:=p) u;unfold kf;rw[J]at r⊢;exact⟨o.eA.1,o.sys r⟩
  by_cases w:wU p m (bO m t)=0
  .rw[if_pos w];exact⟨M,rfl,rfl,UT M hx _ P w,by simp[xD]⟩
  .rw[if_neg w];have I:wU p m (bO m t)=6:=by
    rcases KU m.am.aK p.ax p.hw.length (kf p (bO m t)) (bO m t).bK with h|h
    .exact absurd h w
    .exact h
   refine⟨?_,rfl,rfl,n _ _ _ _ _,ai⟩;obtain⟨C,D,L,T,A,G,z⟩:=M;refine⟨C,D,L,T,by simp[ie,A],fun i y=> ?_,z⟩;simp only[ie,rm]at y;simp only[ie,r6];split
   .rw[I];obtain⟨N,V,k,l,v,B,q,R,Z⟩:=hx;exact⟨ga,V,k,l,v,B,q,ga,ga⟩
   grind
 .rw[if_neg g];refine⟨M,rfl,rfl,n _ _ _ _ _,?_⟩;have:=H.j'
  grind
def uk{n:Int}(H:cJ p d m)(u:d+64<=1099511627776)(S:t<4)(h:1<=n/\n<=64)(K:(bO m t).im=1):
  ∃m' q,dP p m t n=(m',q,0)/\cJ p (d+64) m'/\m'.am=m.am/\q.cw=t/\De q/\q.j'≠3:=by
 have i:fO p m=true:=(H.mono ab).ok;have O:=tF H S h.1 K;have L:=JU p m t n;obtain⟨⟨l,s⟩,N⟩: ∃r,dB p m t n=r:=⟨_,rfl⟩;rw[N]at O L;obtain⟨k1,k2,k3,v,k⟩:=ZY S O;have e:dP p m t n=((jr p l t s).1,(jr p l t s).2,0):=by
  unfold dP;rw[if_pos ⟨i,⟨ab,ab⟩,h.1,h.2⟩,X7,N]
 exact⟨_,_,e,k1.mono ab,aj,k3,v,k⟩
def Df(H:cJ p d m)(S:t<4)(h:uT (bO m t)=true):cJ p d (uU m t)/\(uU m t).am=m.am/\(bO (uU m t) t).im=1:=by
 have hx:=H.bO S;have G:=H.len;unfold uT at h;simp only[X8,decide_eq_true_eq]at h;obtain⟨c,f,o⟩:=h;refine⟨?_,rfl,?_⟩
 .obtain⟨v,D,L,T,b,k,g⟩:=H;refine⟨v,D,L,T,by simp[uU,b],fun i j=> ?_,g⟩;simp only[uU,rm]at j;simp only[uU,r6];split
  .obtain⟨N,V,e,l,u,B,J,R,q⟩:=hx;exact⟨N,V,e,aj,u,B,aj,R,q⟩
  grind
 .have n:t<m.ce.length:=ab
  simp[bO,uU,List.getD,n];simpa[bO,List.getD,n] using c
def yO(h:i<(gV l k).length): ∃t:Nat,t<k/\(gV l k)[i]=(t:Int)/\(l.getD t cT).im=1:=by
 have m:=rx h;obtain⟨t,h1,K⟩:=List.mem_map.1 m<;>grind
structure a3k (v:rd):Prop where
 im:0<=v.im/\v.im<=4
 pc:0<=v.pc/\v.pc<=255
 ia:0<=v.ia/\v.ia<=1099511627776
 db: -1<=v.db/\v.db<=255
 iw: -1<=v.iw/\v.iw<=255
 dD:0<=v.dD/\v.dD<=6
 bK:v.bK.length=8
 bp0:iH v.bK=true
structure Q9 (p:g9) (s:rK):Prop where
 i6:s.i6.length=p.ax.length
 lm: ∀i (h:i<s.i6.length) (h':i<p.ax.length),((s.i6[i]).length:Int)=p.ax[i]/\iH s.i6[i]=true
 ce:s.ce.length=4
 view: ∀i (h:i<s.ce.length),a3k s.ce[i]
end Go.Proofs.YtdngefmliibcgaaGreat
