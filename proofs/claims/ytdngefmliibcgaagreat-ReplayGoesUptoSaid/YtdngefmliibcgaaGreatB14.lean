import Derived.Test.YtdngefmliibcgaaGreatB12
set_option linter.all false
set_option maxRecDepth 20000
set_option maxHeartbeats 0
namespace Go.Proofs.YtdngefmliibcgaaGreat
open Go Go.Abs Go.Abs.jJ Qf
variable  {r:Option (V×bI×Nat)}{p:g9}{h h1 h':bI}{k b C L T t k1 j n k' cB:Nat}{vB:V}{ids bH gU:Nat->Nat}{m:aN}{x x':gc}{i:hu}{f:gc->gc}{ts:List gc}{g:FuncId}{args E R E0:List V}{s:Int}
def kX(p:g9)(b T t:Nat):V:= .agg [.sl false (p.hw.map hu.e),.sl false (p.ax.map (V.int .i64)),.sl false (p.ap.map bw),.ptr b 0 0,.ptr T t 0]
structure yT (h:bI) (k cB b C L T:Nat) (ids bH:Nat->Nat) (p:g9) (t:Nat):Prop where
 box:h cB=some ⟨5,[kX p b T t],true⟩
 lt:cB<k
 ne:cB≠b/\cB≠C/\cB≠L/\cB≠T
 ni: ∀j,j<4->cB≠ids j/\cB≠bH j
def lH(r:Option (V×bI×Nat))(p:g9)(h:bI)(k b:Nat)(vB:V)(C L T:Nat)(ids bH:Nat->Nat)(m:aN)(t:Nat)(x:gc)(i:hu)(f:gc->gc):Prop:=
 ((iR p m x i).2.2= -1/\ ∃h' k' g,r=some (.int .i64 0,h',k')/\dQ h' k' b vB C L T g bH (ie m (iR p m x i).1 t (f (iR p m x i).2.1))/\k<=k'/\(∀j,j<4->g j=ids j\/k<=g j)/\
  ∀i,i<k->i≠C->i≠L->(∀j,j<4->i≠ids j)->i≠T->i≠bH t->h' i=h i)\/
 ∃w h' k',iR p m x i=(m.gt,fQ x w,2)/\w≠0/\r=some (.int .i64 w,h',k')/\k<=k'/\ ∀i,i<k->h' i=h i
def F0(h:bI)(k:Nat)(w:Int)(v:V)(h':bI)(k':Nat):Prop:=v= .int .i64 w/\k<=k'/\ ∀i,i<k->h' i=h i
def uo(h:bI)(k:Nat)(w:Int)(v:V)(h':bI)(k':Nat):F0 h k w v h' k'=(v= .int .i64 w/\k<=k'/\Below k h h'):=rfl
def lH.go            (H:dQ h k b vB C L T ids bH m) (S:t<4) (x':gc) (s:iR p m x i=(m.gt,x', -1))
  (E: ∃v h' n',r=some (v,h',n')/\XD h k T bH t m.ce (f x') 0 v h' n'):lH r p h k b vB C L T ids bH m t x i f:=by
 obtain⟨v,h',n',e,rfl,D,M,U,g⟩:=E;have u:t<m.ce.length:=cj
 rw[gq u]at D;refine .inl ⟨by rw[s],h',n',ids,e,?_,U,fun _ _=> .inl rfl,fun i j _ _ _ J n=>g i j J n⟩;rw[s];exact H.put U S D M g
def lH.FW            (H:dQ h k b vB C L T ids bH m) (S:t<4) {X:aD} (y:dQ h1 k1 b vB C L T gU bH ⟨m.am,X,m.ce⟩) (z:k<=k1) (V: ∀j,j<4->gU j=ids j\/k<=gU j)
  (w: ∀i,i<k->i≠C->i≠L->(∀j,j<4->i≠ids j)->h1 i=h i) (x':gc) (s:iR p m x i=(X,x', -1))
  (E: ∃v h' n',r=some (v,h',n')/\XD h1 k1 T bH t m.ce (f x') 0 v h' n'):lH r p h k b vB C L T ids bH m t x i f:=by
 obtain⟨v,h',n',e,rfl,D,M,U,g⟩:=E;have u:t<m.ce.length:=cj
 rw[gq u]at D;refine .inl ⟨by rw[s],h',n',gU,e,?_,ab,V,fun i o N q l J n=>by rw[g i ab J n,w i o N q l]⟩;rw[s];exact y.put U S D M g
def lH.dD            (w:Int) (q:w≠0) (s:iR p m x i=(m.gt,fQ x w,2))
  (D: ∃v h' n',r=some (v,h',n')/\F0 h k w v h' n'):lH r p h k b vB C L T ids bH m t x i f:=by
 obtain⟨v,h',n',e,rfl,U,g⟩:=D;exact .inr ⟨w,h',n',s,q,e,U,g⟩
def uq(pc:Int)(x:gc):gc:=⟨x.im,x.bK,pc,x.ia,x.db,x.iw,x.dD,x.hw⟩
def oZ(ids:Nat->Nat)(i:Nat)(x:gc)(q pc:Int)(bK:List ac):dY ids i (uq q (v5 x pc bK))= (ro x.im (.cX (ids i) 0 bK.length) q x.ia x.db x.iw x.dD x.hw:V):=rfl
def tL(x:gc)(q pc:Int)(bK:List ac):(uq q (v5 x pc bK)).bK=bK:=rfl
@[simp]def Y1(c:V)(jy bp dN h4 hf:Int)(p:g9)(h:bI)(k cB b:Nat)(vB:V)(C L T:Nat)(ids bH:Nat->Nat)(y:aN)(tn:Nat)(d:Int)(x:gc)(op:Int)(a l c:Nat)(eA:Int)(H:dQ h k b vB C L T ids bH y)(I:cJ p d y)(B:yT h k cB b C L T ids bH p tn)(hd:d<=1099511628776)(t:tn<4)(hs:vB= .sl false (y.am.aK.map (V.int .i64)))(h2:bO y tn=x)(hI:D9 p.hw.length p.ax.length ⟨op,a,l,c,eA⟩)(kg:op=18\/op=19\/op=20\/op=21\/op=22\/op=24):lH (df X 264 [.ptr cB 0 0,qr op (a:Int) (l:Int) (c:Int) eA] h k) p h k b vB C L T ids bH y tn x ⟨op,a,l,c,eA⟩ id:=by
 have hl:=H.len;have A:tn<y.ce.length:=ab
 have cQ:(tn:Int)<4:=ab
 have D:=I.lq tn A;have R:=H.Ad tn A;have g:=eU (ids:=bH) A;have Y:=H.lq;have z:=eX bH y.ce;rw[hl]at z;have hb:=H.uG;unfold iF at hb;rw[hl,hs]at hb;have m:=B.box;have Q:y.ce[tn]=x:=by rw[<-h2];exact(eL A).symm
 rw[Q]at D R;simp only[Q]at g;obtain⟨hr,ay,ah,s,ae⟩:=H.mL tn t;have aa: ¬T=bH tn:=fun e=>s e.symm;have au: ¬b=bH tn:=fun e=>hr e.symm;obtain⟨aq,u2,ak,hp⟩:=H.yG;have he: ¬b=T:=fun e=>aq e.symm;have n0:=B.lt;obtain⟨e1,e2,e3,F⟩:=B.ne;have h3:=(B.ni tn t).2;have ha: ¬T=cB:=fun e=>F e.symm;have iS:=H.mem.lt.1;have q1: ∀j,¬b=k+j/\ ¬T=k+j/\ ¬bH tn=k+j/\ ¬k+j=b/\ ¬k+j=T/\ ¬k+j=bH tn/\ ¬cB=k+j/\ ¬k+j=cB:=fun j=>ab
 have K: ¬b=k/\ ¬T=k/\ ¬bH tn=k/\ ¬cB=k/\ ¬k=b/\ ¬k=T/\ ¬k=bH tn/\ ¬k=cB:=ab
 have g2:=D.pc;obtain⟨n,W⟩: ∃n:Nat,x.pc=n:=⟨x.pc.toNat,ab⟩;have G:=D.bK;have Xw:p.hw.length<=64:=I.prog.qH;have hB:=D.ia;have S:=z_ (x.ia+1);have r:=o7 n ab;have o:dn bH y.ce=(dn bH y.ce).set tn ((ro x.im (.cX (bH tn) 0 8) (n:Int) x.ia x.db x.iw x.dD x.hw:V)):=by
  have Z:tn<(dn bH y.ce).length:=ab
  have:=g Z;rw[G,W]at this;rw[<-this,xK]
 obtain⟨an,hk,hj,ho,P,hx,h1,O⟩:=hI;simp only at an hk hj ho P hx h1 O;have a8:(a:Int)<8/\(l:Int)<8/\(c:Int)<8/\a<8/\l<8/\c<8:=ab
 have hv:a<x.bK.length:=ab
 have bl:l<x.bK.length:=ab
 have cl:c<x.bK.length:=ab
 have iO:IntKind.u16.wrap eA=eA:=wrap_u16 P;have hL:=I.lay;have w:=hL.len;obtain⟨f,u⟩:=x_ x.bK[a];obtain⟨N,hi⟩:=x_ x.bK[l];obtain⟨J,U⟩:=x_ x.bK[c];have q:jo x a=f:=by rw[mT hv,u]
 have aw:jo x l=N:=by rw[mT bl,hi]
 have rc:jo x c=J:=by rw[mT cl,U]
 have ca:iD f:=by rw[<-q];exact jq D _
 have cb:iD N:=by rw[<-aw];exact jq D _
 have g1:iD J:=by rw[<-rc];exact jq D _
 have iS:=H.mem.lt;obtain⟨pc,ps,pd⟩:=p;simp only at hx h1 O m Xw hL w;rcases kg with rfl|rfl|rfl|rfl|rfl|rfl
 .refine lH.go H t (lW x eA x.bK x.iw) (by simp[iR,lW]) (ip ?_);simp[X6,fU,kX,m,Y,R,g,z,t,W,jE,iq,G,a8,r,S,s,K,F];all_goals exact jg
 .by_cases t0:f.gs=0
  .by_cases v:f.val=0
   .exact p7
   .exact nS
  .exact lf
 .by_cases t0:f.gs=0
  .by_cases v:f.val=0
   .exact nS
   .exact p7
  .exact lf
 .have E:=y_ ((n:Int)+1);refine lH.go H t (lW x eA (x.bK.set a ⟨0,n+1⟩) x.iw) (by simp[iR,W,pe]) (ip ?_);simp[X6,fU,kX,m,Y,R,g,z,t,W,jE,iq,G,a8,u,r,S,s,aa,K,F,h3,ac.cN,E];all_goals exact jg
 .by_cases t0:f.gs=0
  .by_cases v:255<f.val
   .refine lH.dD (2) aG dR (ip ?_);simp[X6,uo,kX,m,Y,R,g,z,t,W,G,a8,u,r,K,t0,v];all_goals exact jg
   .have M:IntKind.i64.wrap f.val=f.val:=wrap_i64 (by have:=ca.2;omega);refine lH.go H t (lW x f.val x.bK x.iw) dR (ip ?_);simp[X6,fU,kX,m,Y,R,g,z,t,W,jE,iq,G,a8,u,r,S,s,K,F,t0,v,M];all_goals exact jg
  .exact lf
 .by_cases i:x.iw= -1
  .refine lH.dD (1) aG (by simp[iR,i]) (ip ?_);simp[X6,uo,kX,m,Y,R,g,z,t,W,G,a8,r,K,i];all_goals exact jg
  .refine lH.go H t (lW x x.iw x.bK (-1)) (by simp[iR,i]) (ip ?_);simp[X6,fU,kX,m,Y,R,g,z,t,W,jE,iq,G,a8,r,S,s,K,F,i];all_goals exact jg
def Yw(B:Below k h h1)(K:bH t≠T)(W:cH g args h1 (k+j) T=some ⟨8,E,true⟩)(H:E=(dn bH ts).set t (dY bH t x'))(G:R=x'.bK.map ac.e):
  EZ h k T bH t ts g args x' s (.int .i64 s) (bB (cH g args h1 (k+j)) (bH t) (some ⟨2,R,false⟩)) (cK g args h1 (k+j)+n):=
 ⟨h1,j,B,rfl,by rw[bB,if_neg (fun e=>K e.symm),W,H],by rw[G];simp[bB],ab,fun i _ h1 L=>by simp[bB,L]⟩
def Yx(B:Below k h h1)(W:cH g args h1 (k+j) T=some ⟨8,E,true⟩)(G:E=(dn bH ts).set t (dY bH t x'))(R:cH g args h1 (k+j) (bH t)=some ⟨2,x'.bK.map ac.e,false⟩):
  EZ h k T bH t ts g args x' s (.int .i64 s) (cH g args h1 (k+j)) (cK g args h1 (k+j)+n):=
 ⟨h1,j,B,rfl,by rw[W,G],R,ab,fun i _ _ _=>rfl⟩
@[simp]def U7(c:V)(jy m' bE g4 cg:Int)(p:g9)(h:bI)(k cB b:Nat)(vB:V)(C L T:Nat)(ids bH:Nat->Nat)(m:aN)(tn:Nat)(d:Int)(x:gc)(op:Int)(a u c:Nat)(eA:Int)(H:dQ h k b vB C L T ids bH m)(HG:cJ p d m)(hp:yT h k cB b C L T ids bH p tn)(hd:d<=1099511628776)(t:tn<4)(n1:vB= .sl false (m.am.aK.map (V.int .i64)))(bs:bO m tn=x)(hI:D9 p.hw.length p.ax.length ⟨op,a,u,c,eA⟩)(kg:0<=op/\op<=17):lH (df X 265 [.ptr cB 0 0,qr op (a:Int) (u:Int) (c:Int) eA] h k) p h k b vB C L T ids bH m tn x ⟨op,a,u,c,eA⟩ (uq x.pc):=by
 have hl:=H.len;have nr:tn<m.ce.length:=ab
 have aJ:(tn:Int)<4:=ab
 have he:=HG.lq tn nr;have R:=H.Ad tn nr;have S:=eU (ids:=bH) nr;have Y:=H.lq;have q:=eX bH m.ce;rw[hl]at q;have f:=H.uG;unfold iF at f;rw[hl,n1]at f;have s:=hp.box;have mQ:m.ce[tn]=x:=by rw[<-bs];exact(eL nr).symm
 rw[mQ]at he R;simp only[mQ]at S;obtain⟨ts,cu,hy,hq,kk⟩:=H.mL tn t;have aa: ¬T=bH tn:=fun e=>hq e.symm;have bT: ¬b=bH tn:=fun e=>ts e.symm;obtain⟨bW,u2,aH,bc⟩:=H.yG;have bV: ¬b=T:=fun e=>bW e.symm;have dM:=hp.lt;obtain⟨e1,e2,e3,e4⟩:=hp.ne;have cm:=(hp.ni tn t).2;have h5: ¬T=cB:=fun e=>e4 e.symm;have iS:=H.mem.lt.1;have N: ∀j,¬b=k+j/\ ¬T=k+j/\ ¬bH tn=k+j/\ ¬k+j=b/\ ¬k+j=T/\ ¬k+j=bH tn/\ ¬cB=k+j/\ ¬k+j=cB:=fun j=>ab
 have J: ¬b=k/\ ¬T=k/\ ¬bH tn=k/\ ¬cB=k/\ ¬k=b/\ ¬k=T/\ ¬k=bH tn/\ ¬k=cB:=ab
 have n4:=he.pc;obtain⟨n,W⟩: ∃n:Nat,x.pc=n:=⟨x.pc.toNat,ab⟩;have I:=he.bK;have Xw:p.hw.length<=64:=HG.prog.qH;have cI:=he.ia;have ih:=z_ (x.ia+1);have A:dn bH m.ce=(dn bH m.ce).set tn ((ro x.im (.cX (bH tn) 0 8) (n:Int) x.ia x.db x.iw x.dD x.hw:V)):=by
  have h4:tn<(dn bH m.ce).length:=ab
  have:=S h4;rw[I,W]at this;rw[<-this,xK]
 obtain⟨dz,hA,gX,bL,aq,S',n0,hh⟩:=hI;simp only at dz hA gX bL aq S' n0 hh;have a8:(a:Int)<8/\(u:Int)<8/\(c:Int)<8/\a<8/\u<8/\c<8:=ab
 have c3:a<x.bK.length:=ab
 have bl:u<x.bK.length:=ab
 have cl:c<x.bK.length:=ab
 have iO:IntKind.u16.wrap eA=eA:=wrap_u16 aq;have M:=HG.lay;have P:=M.len;obtain⟨hk,E⟩:=x_ x.bK[a];obtain⟨o,B⟩:=x_ x.bK[u];obtain⟨hv,hx⟩:=x_ x.bK[c];have ae:jo x a=hk:=by rw[mT c3,E]
 have h2:jo x u=o:=by rw[mT bl,B]
 have rc:jo x c=hv:=by rw[mT cl,hx]
 have ca:iD hk:=by rw[<-ae];exact jq he _
 have cb:iD o:=by rw[<-h2];exact jq he _
 have ff:iD hv:=by rw[<-rc];exact jq he _
 have iS:=H.mem.lt;obtain⟨pc,ps,pd⟩:=p;simp only at S' n0 hh s Xw M P;have oc:op=0\/op=1\/op=2\/(3<=op/\op<=14)\/op=15\/op=16\/op=17:=ab
 rcases oc with rfl|rfl|rfl|ho|rfl|rfl|rfl
 .refine lH.go H t (v5 x (n+1) x.bK) (by simp[iR,W,v5]) (ip ?_);simp[X6,fU,kX,f,s,Y,R,S,q,t,W,oZ,tL,I,N,J];all_goals exact jQ
 .refine lH.go H t (v5 x (n+1) (x.bK.set a ⟨0,eA⟩)) (by simp[iR,W,pe,v5]) (ip ?_);simp[X6,fU,kX,f,s,Y,R,S,q,t,W,oZ,tL,I,a8,E,iO,aa,N,J,ac.cN];all_goals exact jQ
 .refine lH.go H t (v5 x (n+1) (x.bK.set a o)) (by simp[iR,W,pe,h2,v5]) (ip ?_);simp[X6,fU,kX,f,s,Y,R,S,q,t,W,oZ,tL,I,a8,E,B,aa,N,J];all_goals exact jQ
 .obtain⟨⟨dF,dv⟩,w,F⟩: ∃r w,rn m.am.aK ps op o hv=(r,w):=⟨_,_,rfl⟩;obtain⟨fG,fv⟩:=o;obtain⟨bS,hz⟩:=hv;have aw:=cb.2;have au:=ff.2;simp only at aw au;have hs: ¬op=0/\ ¬op=1/\ ¬op=2/\ ¬op=15/\ ¬op=16/\ ¬op=17/\ ¬op=18/\ ¬op=19/\ ¬op=20/\ ¬op=21/\ ¬op=22/\ ¬op=23/\ ¬op=24:=ab
  by_cases U:w=0
  .refine lH.go H t (v5 x (n+1) (x.bK.set a ⟨dF,dv⟩)) (by simp[iR,W,pe,h2,rc,F,U,hs]) (ip ?_);simp[X6,fU,kX,f,s,Y,R,S,q,t,W,oZ,tL,I,a8,E,B,hx,aa,N,J,hs,M,aw,au,F,U,ac.cN];all_goals exact jQ
  .refine lH.dD (w) (by exact U) (by simp[iR,h2,rc,F,U,hs]) (ip ?_);simp[X6,uo,kX,f,s,Y,R,S,q,t,W,I,a8,B,hx,N,J,hs,M,aw,au,F,U];all_goals exact jQ
 .obtain⟨Q,rfl⟩:=jp aq.1;have i1:=n0 rfl;have i2:Q<ps.length:=ab
  have i3:Q<m.am.aK.length:=by rw[P];exact i2
  have ha:(Q:Int)<m.am.aK.length:=ab
  have cC:=M.base Q i3 i2;have ba:=M.sz.elem Q i2;have bU:=y_ m.am.aK[Q];have hS:nth m.am.aK Q=m.am.aK[Q]:=dA i3;refine lH.go H t (v5 x (n+1) (x.bK.set a ⟨1,m.am.aK[Q]⟩)) (by simp[iR,W,pe,hS]) (ip ?_);simp[X6,fU,kX,f,s,Y,R,S,q,t,W,oZ,tL,I,a8,E,aa,N,J,ac.cN,i3,ha,bU];all_goals exact jQ
 .obtain⟨r,w,Z⟩: ∃r w,ji m.am.aK ps o eA false=(r,w):=⟨_,_,rfl⟩;have c2:=cb.2;have an:=pb (aK:=m.am.aK) (ax:=ps) M (p:=o) (n:=eA) (back:=false);rw[Z]at an;simp only at an;by_cases U:w=0
  case neg=>
   obtain⟨bP,c1⟩:=o;simp only at c2;refine lH.dD w U (by simp[iR,h2,Z,U]) (ip ?_);simp[X6,uo,kX,f,s,Y,R,S,q,t,W,I,a8,B,iO,N,J,M,aq,c2,Z,U];all_goals exact jQ
  obtain⟨av,hr,ak⟩:=an U;subst U;subst hr;have cz:=z_ av;have HM: ∀(h1:bI) (j:Nat),Below k h h1->kV h1 (k+j) b C L ids vB (.int .u16 m.am.key) (.cX T 0 4) m.gt:=fun h1 j z=>hU
  have l: ∀(h1:bI) (j:Nat),Below k h h1->df X 292 [.ptr b 0 2,(av:Int)] h1 (k+j)=some ((.ed [q' (nf m.gt av),.bool true]),cH 292 [.ptr b 0 2,(av:Int)] h1 (k+j),cK 292 [.ptr b 0 2,(av:Int)] h1 (k+j))/\ ∃y,dQ (cH 292 [.ptr b 0 2,(av:Int)] h1 (k+j)) (cK 292 [.ptr b 0 2,(av:Int)] h1 (k+j)) b vB C L T y bH ⟨m.am,dL m.gt av,m.ce⟩/\k+j<=cK 292 [.ptr b 0 2,(av:Int)] h1 (k+j)/\(∀j,j<4->y j=ids j\/k<=y j)/\ ∀i,i<k+j->i≠C->i≠L->(∀j,j<4->i≠ids j)->cH 292 [.ptr b 0 2,(av:Int)] h1 (k+j) i=h1 i:=fun h1 j z=>by
   obtain⟨h',k',gK,e,G,g1,D,g3⟩:=Rd .bad 0 h1 (k+j) b C L ids vB (.int .u16 m.am.key) (.cX T 0 4) m.gt av (HM h1 j z) ak;have e:df X 292 [.ptr b 0 2,(av:Int)] h1 (k+j)=some ((.ed [q' (nf m.gt av),.bool true]),h',k'):=e;exact kH
  have cl:=fun h1 j z=>(l h1 j z).1;have ah: ∀(h1:bI) (j:Nat),Below k h h1->cH 292 [.ptr b 0 2,(av:Int)] h1 (k+j) T=some ⟨8,dn bH m.ce,true⟩:=fun h1 j z=>fi
  have ay: ∀(h1:bI) (j:Nat),Below k h h1->cH 292 [.ptr b 0 2,(av:Int)] h1 (k+j) (bH tn)=some ⟨2,x.bK.map ac.e,false⟩:=fun h1 j z=>dE
  have hf: ∀(h1:bI) (j i:Nat),Below k h h1->i<j->cH 292 [.ptr b 0 2,(av:Int)] h1 (k+j) (k+i)=h1 (k+i):=fun h1 j i z lM=>by
   obtain⟨_,_,_,_,_,g⟩:=l h1 j z;exact mC
  have h3: ∀(h1:bI) (j:Nat),Below k h h1->0<j->cH 292 [.ptr b 0 2,(av:Int)] h1 (k+j) k=h1 k:=fun h1 j z lM=>hf h1 j 0 z lM;have O:(dn bH m.ce)=(dn bH m.ce).set tn (dY bH tn (uq x.pc (v5 x (n+1) (x.bK.set a (nf m.gt av))))):=by
   have e0:dY bH tn (uq x.pc (v5 x (n+1) (x.bK.set a (nf m.gt av))))= (ro x.im (.cX (bH tn) 0 8) (n:Int) x.ia x.db x.iw x.dD x.hw:V):=by
    rw[oZ,W];simp only[rm,I]
   rw[e0];exact A
  rw[W]at O;obtain⟨v,h',n',e,h1,j,z,hE⟩:=bJ (X:=X) (g:=265) (args:=[.ptr cB 0 0,(qr 16 (a:Int) (u:Int) (c:Int) eA:V)]) (h:=h) (k:=k) (K:=EZ h k T bH tn m.ce 292 [.ptr b 0 2,(av:Int)] (uq x.pc (v5 x (n+1) (x.bK.set a (nf m.gt av)))) 0) Tryz.func265 rfl rfl (by
    simp[X6,kX,f,s,Y,R,S,q,t,W,I,a8,E,B,iO,N,J,M,aq,c2,Z,cz,cl,ay,h3];exact Yw aC hq (ah _ _ aC) O (by simp[tL,ac.cN]))
  obtain⟨_,y,G,g1,hB,D⟩:=l h1 j z;exact lH.FW H t G ab hB (fun i hi hC dN cQ=>by rw[D i ab hC dN cQ,z i hi]) (v5 x (n+1) (x.bK.set a (nf m.gt av))) (by simp[iR,W,pe,h2,Z]) ⟨v,h',n',e,hE⟩
 .obtain⟨r,w,Z⟩: ∃r w,ji m.am.aK ps hk eA false=(r,w):=⟨_,_,rfl⟩;have c2:=ca.2;have an:=pb (aK:=m.am.aK) (ax:=ps) M (p:=hk) (n:=eA) (back:=false);rw[Z]at an;simp only at an;by_cases U:w=0
  case neg=>
   obtain⟨bP,c1⟩:=hk;simp only at c2;refine lH.dD w U (by simp[iR,ae,Z,U]) (ip ?_);simp[X6,uo,kX,f,s,Y,R,S,q,t,W,I,a8,E,B,iO,N,J,M,aq,c2,Z,U];all_goals exact jQ
  obtain⟨av,hr,ak⟩:=an U;subst U;subst hr;have cz:=z_ av;have HM: ∀(h1:bI) (j:Nat),Below k h h1->kV h1 (k+j) b C L ids vB (.int .u16 m.am.key) (.cX T 0 4) m.gt:=fun h1 j z=>hU
  have l: ∀(h1:bI) (j:Nat),Below k h h1->df X 237 [.ptr b 0 2,(av:Int),q' o] h1 (k+j)=some ((.bool true),cH 237 [.ptr b 0 2,(av:Int),q' o] h1 (k+j),cK 237 [.ptr b 0 2,(av:Int),q' o] h1 (k+j))/\ ∃y,dQ (cH 237 [.ptr b 0 2,(av:Int),q' o] h1 (k+j)) (cK 237 [.ptr b 0 2,(av:Int),q' o] h1 (k+j)) b vB C L T y bH ⟨m.am,ke m.gt av o,m.ce⟩/\k+j<=cK 237 [.ptr b 0 2,(av:Int),q' o] h1 (k+j)/\(∀j,j<4->y j=ids j\/k<=y j)/\ ∀i,i<k+j->i≠C->i≠L->(∀j,j<4->i≠ids j)->cH 237 [.ptr b 0 2,(av:Int),q' o] h1 (k+j) i=h1 i:=fun h1 j z=>by
   obtain⟨h',k',gK,e,G,g1,D,g3⟩:=UD .bad 0 o.gs o.val h1 (k+j) b C L ids vB (.int .u16 m.am.key) (.cX T 0 4) m.gt av o (HM h1 j z) ak cb.oG;have e:df X 237 [.ptr b 0 2,(av:Int),q' o] h1 (k+j)=some ((.bool true),h',k'):=e;exact kH
  have cl:=fun h1 j z=>(l h1 j z).1;have ah: ∀(h1:bI) (j:Nat),Below k h h1->cH 237 [.ptr b 0 2,(av:Int),q' o] h1 (k+j) T=some ⟨8,dn bH m.ce,true⟩:=fun h1 j z=>fi
  have ay: ∀(h1:bI) (j:Nat),Below k h h1->cH 237 [.ptr b 0 2,(av:Int),q' o] h1 (k+j) (bH tn)=some ⟨2,x.bK.map ac.e,false⟩:=fun h1 j z=>dE
  have hf: ∀(h1:bI) (j i:Nat),Below k h h1->i<j->cH 237 [.ptr b 0 2,(av:Int),q' o] h1 (k+j) (k+i)=h1 (k+i):=fun h1 j i z lM=>by
   obtain⟨_,_,_,_,_,g⟩:=l h1 j z;exact mC
  have h3: ∀(h1:bI) (j:Nat),Below k h h1->0<j->cH 237 [.ptr b 0 2,(av:Int),q' o] h1 (k+j) k=h1 k:=fun h1 j z lM=>hf h1 j 0 z lM;have O:(dn bH m.ce)=(dn bH m.ce).set tn (dY bH tn (uq x.pc (v5 x (n+1) x.bK))):=by
   have e0:dY bH tn (uq x.pc (v5 x (n+1) x.bK))= (ro x.im (.cX (bH tn) 0 8) (n:Int) x.ia x.db x.iw x.dD x.hw:V):=by
    rw[oZ,W];simp only[I]
   rw[e0];exact A
  rw[W]at O;obtain⟨v,h',n',e,h1,j,z,hE⟩:=bJ (X:=X) (g:=265) (args:=[.ptr cB 0 0,(qr 17 (a:Int) (u:Int) (c:Int) eA:V)]) (h:=h) (k:=k) (K:=EZ h k T bH tn m.ce 237 [.ptr b 0 2,(av:Int),q' o] (uq x.pc (v5 x (n+1) x.bK)) 0) Tryz.func265 rfl rfl (by
    simp[X6,kX,f,s,Y,R,S,q,t,W,I,a8,E,B,iO,N,J,M,aq,c2,Z,cz,cl];exact Yx aC (ah _ _ aC) O (ay _ _ aC))
  obtain⟨_,y,G,g1,hB,D⟩:=l h1 j z;exact lH.FW H t G ab hB (fun i hi hC dN cQ=>by rw[D i ab hC dN cQ,z i hi]) (v5 x (n+1) x.bK) (by simp[iR,W,ae,h2,Z]) ⟨v,h',n',e,hE⟩
def M2(h:bI)(k:Nat)(g:FuncId)(args:List V)(s:Int)(v:V)(h':bI)(k':Nat):Prop:= ∃h1 j,Below k h h1/\v= .int .i64 s/\h'=cH g args h1 (k+j)/\cK g args h1 (k+j)<=k'
def Q_(B:Below k h h1):M2 h k g args s (.int .i64 s) (cH g args h1 (k+j)) (cK g args h1 (k+j)+n):=⟨h1,j,B,rfl,rfl,ab⟩
def AC(h:bI)(k T:Nat)(g:FuncId)(args:List V)(s:Int)(E:List V)(v:V)(h':bI)(k':Nat):Prop:= ∃h1 j,Below k h h1/\v= .int .i64 s/\h'=bB (cH g args h1 (k+j)) T (some ⟨8,E,true⟩)/\cK g args h1 (k+j)<=k'
def TH(B:Below k h h1)(G:E=E0):AC h k T g args s E0 (.int .i64 s) (bB (cH g args h1 (k+j)) T (some ⟨8,E,true⟩)) (cK g args h1 (k+j)+n):=⟨h1,j,B,rfl,by rw[G],ab⟩
def yT.mono(H:yT h k cB b C L T ids bH p t)(y:k<=k')(a: ∀i,i<k->h' i=h i):yT h' k' cB b C L T ids bH p t:=
 ⟨by rw[a _ H.lt,H.box],by have:=H.lt;omega,H.ne,H.ni⟩
def U5(h:0<=i.op/\i.op<=17)(g:(iR p m x i).2.2= -1):(iR p m x i).2.1.pc=x.pc+1:=by
 have c: ¬i.op=18:=ab
 have l: ¬i.op=19:=ab
 have Q: ¬i.op=20:=ab
 have Z: ¬i.op=21:=ab
 have j: ¬i.op=22:=ab
 have r: ¬i.op=23:=ab
 have n: ¬i.op=24:=ab
 revert g;unfold iR;simp only[c,l,Q,Z,j,r,n,if_false];repeat' split
 all_goals first|(intro _;rfl)|(intro h;cases h)
@[simp]def QM(c:V)(p:g9)(h:bI)(k cB b:Nat)(vB:V)(C L T:Nat)(ids bH:Nat->Nat)(A:aN)(tn:Nat)(d:Int)(H:dQ h k b vB C L T ids bH A)(HG:cJ p d A)(au:yT h k cB b C L T ids bH p tn)(hd:d<=1099511628776)(S:tn<4)(hL:vB= .sl false (A.am.aK.map (V.int .i64))):ig (df X 227 [.ptr cB 0 0] h k) p h k b vB C L T ids bH A tn:=by
 have hl:=H.len;have nr:tn<A.ce.length:=ab
 have hA:(tn:Int)<4:=ab
 have ae:=HG.lq tn nr;have hR:=H.Ad tn nr;have hg:=eU (ids:=bH) nr;have hT:=H.lq;have kz:=eX bH A.ce;rw[hl]at kz;have hb:=H.uG;unfold iF at hb;rw[hl,hL]at hb;have u:=au.box;have hk:bO A tn=A.ce[tn]:=eL nr;obtain⟨x,mQ⟩:=x_ A.ce[tn];rw[mQ]at hk;rw[mQ]at ae hR;simp only[mQ]at hg;obtain⟨hz,c3,ff,an,dF⟩:=H.mL tn S;have bc: ¬T=bH tn:=fun e=>an e.symm;have bP: ¬b=bH tn:=fun e=>hz e.symm;obtain⟨bs,u2,gX,bL⟩:=H.yG;have S': ¬b=T:=fun e=>bs e.symm;have ah:=au.lt;obtain⟨s,Z,e3,e4⟩:=au.ne;have hh:=(au.ni tn S).2;have bU: ¬T=cB:=fun e=>e4 e.symm;have iS:=H.mem.lt.1;have q1: ∀j,¬b=k+j/\ ¬T=k+j/\ ¬bH tn=k+j/\ ¬k+j=b/\ ¬k+j=T/\ ¬k+j=bH tn/\ ¬cB=k+j/\ ¬k+j=cB:=fun j=>ab
 have n1: ¬b=k/\ ¬T=k/\ ¬bH tn=k/\ ¬cB=k/\ ¬k=b/\ ¬k=T/\ ¬k=bH tn/\ ¬k=cB:=ab
 have aH:=ae.pc;obtain⟨n,hn⟩: ∃n:Nat,x.pc=n:=⟨x.pc.toNat,ab⟩;have h8:=ae.bK;have Xw:p.hw.length<=64:=HG.prog.qH;have hS:=ae.ia;have ba:=z_ (x.ia+1);have dN:=o7 n ab;obtain⟨pc,ps,D⟩:=p;simp only[kX]at u;simp only at Xw;by_cases aq:n<pc.length
 case neg=>
  have c1:(pc.length:Int)<=n:=ab
  refine ig.of H S (fQ x 2) 2 (by rw[hk];exact KR aB) (ip ?_);simp[X6,fU,u,hT,hR,hg,kz,S,hn,nz,jW,h8,an,aq];all_goals ((repeat' apply And.intro)<;>first|omega|rfl|exact oK)
 have c1: ¬(pc.length:Int)<=n:=ab
 have hI:=HG.prog.wS (p:=⟨pc,ps,D⟩) aq;obtain⟨⟨op,iO,bi,ci,eA⟩,o⟩: ∃i,pc[n]=i:=⟨_,rfl⟩;simp only at hI;rw[o]at hI;have ts:=hI;obtain⟨fv,hq,cz,bp,fG,bW,bV,c2⟩:=ts;simp only at fv hq cz bp fG bW bV c2;obtain⟨a,rfl⟩:=jp hq.1;obtain⟨l,rfl⟩:=jp cz.1;obtain⟨c,rfl⟩:=jp bp.1;have hs: ∀r,iR ⟨pc,ps,D⟩ A x ⟨op,a,l,c,eA⟩=r->mI ⟨pc,ps,D⟩ A (bO A tn)=r:=fun r g=>by rw[hk,Ih (p:=⟨pc,ps,D⟩) hn aq o,g]
 have oc:op=23\/(op=18\/op=19\/op=20\/op=21\/op=22\/op=24)\/(0<=op/\op<=17):=ab
 rcases oc with rfl|kg|kg
 .refine ig.of H S (sy x) 1 (hs _ (by simp[iR])) (ip ?_);simp[X6,fU,u,hT,hR,hg,kz,S,hn,Ig,C8,h8,dN,an,q1,e4,aq,o];all_goals ((repeat' apply And.intro)<;>first|omega|rfl|exact oK)
 .have ak: ¬op=23:=ab
  have cQ:fX op=true:=by rcases kg with rfl|rfl|rfl|rfl|rfl|rfl<;>decide
  have aw: ∀(h1:bI) (j:Nat),Below k h h1->lH (df X 264 [.ptr cB 0 0,qr op (a:Int) (l:Int) (c:Int) eA] h1 (k+j)) ⟨pc,ps,D⟩ h1 (k+j) b vB C L T ids bH A tn x ⟨op,a,l,c,eA⟩ id:=fun h1 j z=>
   Y1 .bad op a l c eA ⟨pc,ps,D⟩ h1 (k+j) cB b vB C L T ids bH A tn d x op a l c eA (H.mono ab z) HG (au.mono ab z) hd S hL hk hI (kg)
  by_cases P:(iR ⟨pc,ps,D⟩ A x ⟨op,a,l,c,eA⟩).2.2= -1
  case neg=>
   obtain⟨w,hv,ay⟩: ∃w,iR ⟨pc,ps,D⟩ A x ⟨op,a,l,c,eA⟩=(A.gt,fQ x w,2)/\w≠0:=by
    rcases aw h 0 (fun _ _=>rfl) with g|⟨w,_,_,B,E,_⟩
    .exact absurd g.1 P
    .exact⟨w,B,E⟩
   have f: ∀(h1:bI) (j:Nat),Below k h h1->df X 264 [.ptr cB 0 0,qr op (a:Int) (l:Int) (c:Int) eA] h1 (k+j)=some (.int .i64 w,cH 264 [.ptr cB 0 0,qr op (a:Int) (l:Int) (c:Int) eA] h1 (k+j),cK 264 [.ptr cB 0 0,qr op (a:Int) (l:Int) (c:Int) eA] h1 (k+j))/\k+j<=cK 264 [.ptr cB 0 0,qr op (a:Int) (l:Int) (c:Int) eA] h1 (k+j)/\ ∀i,i<k+j->cH 264 [.ptr cB 0 0,qr op (a:Int) (l:Int) (c:Int) eA] h1 (k+j) i=h1 i:=fun h1 j z=>by
    rcases aw h1 j z with g|⟨w',h',k',B,E,e,g3,g4⟩
    .exact absurd g.1 P
    .have hB:w'=w:=c5
     exact p8
   have cl:=fun h1 j z=>(f h1 j z).1;have O: ∀(h1:bI) (j:Nat),Below k h h1->cH 264 [.ptr cB 0 0,qr op (a:Int) (l:Int) (c:Int) eA] h1 (k+j) cB=some ⟨5,[kX ⟨pc,ps,D⟩ b T tn],true⟩:=fun h1 j z=>h9
   have h3: ∀(h1:bI) (j:Nat),Below k h h1->cH 264 [.ptr cB 0 0,qr op (a:Int) (l:Int) (c:Int) eA] h1 (k+j) T=some ⟨8,dn bH A.ce,true⟩:=fun h1 j z=>ic
   unfold kX at O;refine ig.of H S (fQ x w) 2 (hs _ hv) ?_;obtain⟨v,h',n',e,h1,j,z,rfl,I,aa⟩:=bJ (X:=X) (g:=227) (args:=[.ptr cB 0 0]) (h:=h) (k:=k) (K:=AC h k T 264 [.ptr cB 0 0,qr op (a:Int) (l:Int) (c:Int) eA] 2 ((dn bH A.ce).set tn (dY bH tn (fQ x w)))) Tryz.func227 rfl rfl (by
    simp[X6,u,hT,hg,kz,S,hn,jW,h8,aq,o,ak,cQ,ay,cl,O,h3,tU,u0];refine TH ?_ ?_
    .simp only[cx,cE]
    .first|rfl|simp only[u0])
   obtain⟨_,B,E⟩:=f h1 j z;refine⟨_,h',n',e,rfl,by rw[I];simp[bB],?_,ab,fun i o h1 h2=> ?_⟩
   .rw[I,bB,if_neg an,E _ ab,z _ ab,hR];rfl
   .rw[I,bB,if_neg h1,E _ ab,z _ o]
  obtain⟨M,hx,ho⟩: ∃M hx,iR ⟨pc,ps,D⟩ A x ⟨op,a,l,c,eA⟩=(M,hx, -1):=⟨_,_,by rw[<-P]⟩;have f: ∀(h1:bI) (j:Nat),Below k h h1->df X 264 [.ptr cB 0 0,qr op (a:Int) (l:Int) (c:Int) eA] h1 (k+j)=some (.int .i64 0,cH 264 [.ptr cB 0 0,qr op (a:Int) (l:Int) (c:Int) eA] h1 (k+j),cK 264 [.ptr cB 0 0,qr op (a:Int) (l:Int) (c:Int) eA] h1 (k+j))/\ ∃U,dQ (cH 264 [.ptr cB 0 0,qr op (a:Int) (l:Int) (c:Int) eA] h1 (k+j)) (cK 264 [.ptr cB 0 0,qr op (a:Int) (l:Int) (c:Int) eA] h1 (k+j)) b vB C L T U bH (ie A M tn (id hx))/\k+j<=cK 264 [.ptr cB 0 0,qr op (a:Int) (l:Int) (c:Int) eA] h1 (k+j)/\(∀j,j<4->U j=ids j\/k<=U j)/\
    ∀i,i<k+j->i≠C->i≠L->(∀j,j<4->i≠ids j)->i≠T->i≠bH tn->cH 264 [.ptr cB 0 0,qr op (a:Int) (l:Int) (c:Int) eA] h1 (k+j) i=h1 i:=fun h1 j z=>by
   rcases aw h1 j z with⟨_,h',k',U,e,G,B,E,g3⟩|⟨w',h',k',B,E,e,g3,g4⟩
   .exact n3
   .rw[B]at P;cases P
  have cl:=fun h1 j z=>(f h1 j z).1;have O: ∀(h1:bI) (j:Nat),Below k h h1->cH 264 [.ptr cB 0 0,qr op (a:Int) (l:Int) (c:Int) eA] h1 (k+j) cB=some ⟨5,[kX ⟨pc,ps,D⟩ b T tn],true⟩:=fun h1 j z=>by
   exact l4
  unfold kX at O;obtain⟨v,h',n',e,h1,j,z,rfl,I,aa⟩:=bJ (X:=X) (g:=227) (args:=[.ptr cB 0 0]) (h:=h) (k:=k) (K:=M2 h k 264 [.ptr cB 0 0,qr op (a:Int) (l:Int) (c:Int) eA] (-1)) Tryz.func227 rfl rfl (by
   simp[X6,u,hT,hg,kz,S,hn,h8,aq,o,ak,cQ,cl];refine Q_ ?_;simp only[cx,cE])
  obtain⟨_,U,G,B,ha,E⟩:=f h1 j z;have s:jM ⟨pc,ps,D⟩ A tn=(ie A M tn hx, -1):=by rw[uR,hs _ ho]
  unfold ig;subst I;rw[s];exact⟨_,n',U,e,G.mono aa (fun _ _=>rfl),ab,ha,fun i o hC h4 hf he hr=>by rw[E i ab hC h4 hf he hr,z i o]⟩
 .have ak: ¬op=23:=ab
  have cQ:fX op=false:=eV
  have aw: ∀(h1:bI) (j:Nat),Below k h h1->lH (df X 265 [.ptr cB 0 0,qr op (a:Int) (l:Int) (c:Int) eA] h1 (k+j)) ⟨pc,ps,D⟩ h1 (k+j) b vB C L T ids bH A tn x ⟨op,a,l,c,eA⟩ (uq x.pc):=fun h1 j z=>
   U7 .bad op a l c eA ⟨pc,ps,D⟩ h1 (k+j) cB b vB C L T ids bH A tn d x op a l c eA (H.mono ab z) HG (au.mono ab z) hd S hL hk hI (kg)
  by_cases P:(iR ⟨pc,ps,D⟩ A x ⟨op,a,l,c,eA⟩).2.2= -1
  case neg=>
   obtain⟨w,hv,ay⟩: ∃w,iR ⟨pc,ps,D⟩ A x ⟨op,a,l,c,eA⟩=(A.gt,fQ x w,2)/\w≠0:=by
    rcases aw h 0 (fun _ _=>rfl) with g|⟨w,_,_,B,E,_⟩
    .exact absurd g.1 P
    .exact⟨w,B,E⟩
   have f: ∀(h1:bI) (j:Nat),Below k h h1->df X 265 [.ptr cB 0 0,qr op (a:Int) (l:Int) (c:Int) eA] h1 (k+j)=some (.int .i64 w,cH 265 [.ptr cB 0 0,qr op (a:Int) (l:Int) (c:Int) eA] h1 (k+j),cK 265 [.ptr cB 0 0,qr op (a:Int) (l:Int) (c:Int) eA] h1 (k+j))/\k+j<=cK 265 [.ptr cB 0 0,qr op (a:Int) (l:Int) (c:Int) eA] h1 (k+j)/\ ∀i,i<k+j->cH 265 [.ptr cB 0 0,qr op (a:Int) (l:Int) (c:Int) eA] h1 (k+j) i=h1 i:=fun h1 j z=>by
    rcases aw h1 j z with g|⟨w',h',k',B,E,e,g3,g4⟩
    .exact absurd g.1 P
    .have hB:w'=w:=c5
     exact p8
   have cl:=fun h1 j z=>(f h1 j z).1;have O: ∀(h1:bI) (j:Nat),Below k h h1->cH 265 [.ptr cB 0 0,qr op (a:Int) (l:Int) (c:Int) eA] h1 (k+j) cB=some ⟨5,[kX ⟨pc,ps,D⟩ b T tn],true⟩:=fun h1 j z=>h9
   have h3: ∀(h1:bI) (j:Nat),Below k h h1->cH 265 [.ptr cB 0 0,qr op (a:Int) (l:Int) (c:Int) eA] h1 (k+j) T=some ⟨8,dn bH A.ce,true⟩:=fun h1 j z=>ic
   unfold kX at O;refine ig.of H S (fQ x w) 2 (hs _ hv) ?_;obtain⟨v,h',n',e,h1,j,z,rfl,I,aa⟩:=bJ (X:=X) (g:=227) (args:=[.ptr cB 0 0]) (h:=h) (k:=k) (K:=AC h k T 265 [.ptr cB 0 0,qr op (a:Int) (l:Int) (c:Int) eA] 2 ((dn bH A.ce).set tn (dY bH tn (fQ x w)))) Tryz.func227 rfl rfl (by
    simp[X6,u,hT,hg,kz,S,hn,jW,h8,aq,o,ak,cQ,ay,cl,O,h3,tU,u0];refine TH ?_ ?_
    .simp only[cx,cE]
    .first|rfl|simp only[u0])
   obtain⟨_,B,E⟩:=f h1 j z;refine⟨_,h',n',e,rfl,by rw[I];simp[bB],?_,ab,fun i o h1 h2=> ?_⟩
   .rw[I,bB,if_neg an,E _ ab,z _ ab,hR];rfl
   .rw[I,bB,if_neg h1,E _ ab,z _ o]
  obtain⟨M,hx,ho⟩: ∃M hx,iR ⟨pc,ps,D⟩ A x ⟨op,a,l,c,eA⟩=(M,hx, -1):=⟨_,_,by rw[<-P]⟩;have f: ∀(h1:bI) (j:Nat),Below k h h1->df X 265 [.ptr cB 0 0,qr op (a:Int) (l:Int) (c:Int) eA] h1 (k+j)=some (.int .i64 0,cH 265 [.ptr cB 0 0,qr op (a:Int) (l:Int) (c:Int) eA] h1 (k+j),cK 265 [.ptr cB 0 0,qr op (a:Int) (l:Int) (c:Int) eA] h1 (k+j))/\ ∃U,dQ (cH 265 [.ptr cB 0 0,qr op (a:Int) (l:Int) (c:Int) eA] h1 (k+j)) (cK 265 [.ptr cB 0 0,qr op (a:Int) (l:Int) (c:Int) eA] h1 (k+j)) b vB C L T U bH (ie A M tn ((uq x.pc) hx))/\k+j<=cK 265 [.ptr cB 0 0,qr op (a:Int) (l:Int) (c:Int) eA] h1 (k+j)/\(∀j,j<4->U j=ids j\/k<=U j)/\
    ∀i,i<k+j->i≠C->i≠L->(∀j,j<4->i≠ids j)->i≠T->i≠bH tn->cH 265 [.ptr cB 0 0,qr op (a:Int) (l:Int) (c:Int) eA] h1 (k+j) i=h1 i:=fun h1 j z=>by
   rcases aw h1 j z with⟨_,h',k',U,e,G,B,E,g3⟩|⟨w',h',k',B,E,e,g3,g4⟩
   .exact n3
   .rw[B]at P;cases P
  have cl:=fun h1 j z=>(f h1 j z).1;have O: ∀(h1:bI) (j:Nat),Below k h h1->cH 265 [.ptr cB 0 0,qr op (a:Int) (l:Int) (c:Int) eA] h1 (k+j) cB=some ⟨5,[kX ⟨pc,ps,D⟩ b T tn],true⟩:=fun h1 j z=>by
   exact l4
  unfold kX at O;have hp:hx.pc=x.pc+1:=by
   have:=U5 (p:=⟨pc,ps,D⟩) (m:=A) (x:=x) (i:=⟨op,a,l,c,eA⟩) (kg) P;rw[ho]at this;exact this
  obtain⟨Y,R,dz,q,J,F,N,W⟩:=hx;simp only at hp;subst hp;have h3: ∀(h1:bI) (j:Nat),Below k h h1->cH 265 [.ptr cB 0 0,qr op (a:Int) (l:Int) (c:Int) eA] h1 (k+j) T=some ⟨8,(dn bH A.ce).set tn ((ro Y (.cX (bH tn) 0 R.length) x.pc q J F N W:V)),true⟩:=fun h1 j z=>by
   obtain⟨_,G,_⟩:=(f h1 j z).2;have:=G.lq;rw[this];unfold ie;rw[<-gq nr];rfl
  have bS: ∀y:V,((dn bH A.ce).set tn y).length=4:=fun y=>by rw[rm,kz]
  obtain⟨v,h',n',e,h1,j,z,rfl,I,aa⟩:=bJ (X:=X) (g:=227) (args:=[.ptr cB 0 0]) (h:=h) (k:=k) (K:=AC h k T 265 [.ptr cB 0 0,qr op (a:Int) (l:Int) (c:Int) eA] (-1) ((dn bH A.ce).set tn ((ro Y (.cX (bH tn) 0 R.length) (x.pc+1) q J F N W:V)))) Tryz.func227 rfl rfl (by
   simp[X6,u,hT,hg,kz,S,hn,h8,dN,aq,o,ak,cQ,cl,O,h3,bS,tU,u0];refine TH ?_ ?_
   .simp only[cx,cE]
   .first|rfl|simp only[u0,hn])
  obtain⟨_,U,G,B,ha,E⟩:=f h1 j z;have s:jM ⟨pc,ps,D⟩ A tn=(ie A M tn ⟨Y,R,x.pc+1,q,J,F,N,W⟩, -1):=by rw[uR,hs _ ho]
  unfold ig;rw[s];refine⟨h',n',U,e,?_,ab,ha,fun i o hC h4 hf he hr=>by rw[I,bB,if_neg he,E i ab hC h4 hf he hr,z i o]⟩;have bT:tn<(ie A M tn (uq x.pc ⟨Y,R,x.pc+1,q,J,F,N,W⟩)).ce.length:=by unfold ie;simpa using nr
  have gI:=G.Ad tn bT;have n0:(ie A M tn (uq x.pc ⟨Y,R,x.pc+1,q,J,F,N,W⟩)).ce[tn]=uq x.pc ⟨Y,R,x.pc+1,q,J,F,N,W⟩:=by simp[ie]
  rw[n0]at gI;have Q:=G.put (h':=h') (k':=n') (t:=tn) (x:=⟨Y,R,x.pc+1,q,J,F,N,W⟩) aa S (by
   rw[I,bB,if_pos rfl];unfold ie;rw[u0,<-gq nr];rfl) (by rw[I,bB,if_neg an,gI];rfl) (fun i o h1 h2=>by rw[I,bB,if_neg h1])
  have es:(aN.mk (ie A M tn (uq x.pc ⟨Y,R,x.pc+1,q,J,F,N,W⟩)).am (ie A M tn (uq x.pc ⟨Y,R,x.pc+1,q,J,F,N,W⟩)).gt ((ie A M tn (uq x.pc ⟨Y,R,x.pc+1,q,J,F,N,W⟩)).ce.set tn ⟨Y,R,x.pc+1,q,J,F,N,W⟩))=ie A M tn ⟨Y,R,x.pc+1,q,J,F,N,W⟩:=by
   unfold ie;rw[u0]
  rw[<-es];exact Q
structure FSq (p:g9) (m:aN) (tn:Nat) (h:bI) (k:Nat) (h':bI) (k' cB b C L T:Nat) (ids bH:Nat->Nat):Prop where
 ny:dQ h' k' b (.sl false (m.am.aK.map (V.int .i64))) C L T ids bH m
 core:yT h' k' cB b C L T ids bH p tn
 le:k<=k'
 fr: ∀i,i<k->h' i=h i
 PF:nH k (.sl false (m.am.aK.map (V.int .i64))) C L T ids bH/\k<=cB/\k<=b
@[simp]def UV(u:List hu)(y:List Int)(w:List (List Int))(Z:List Int)(D:Int)(d:List ac)(F:List cP)(c:List gc)(t:Int)(h:bI)(k tn:Nat)(O:xw (w_ Z D d F c))(l:fO (wn u y w) (w_ Z D d F c)=true)(n4:tn<4): ∃h' k' cB b C L T ids bH,df X 226 [iB u y w,.agg (kW (w_ Z D d F c)),(tn:Int)] h k=some (.ed [.ptr cB 0 0,.int .i64 0],h',k')/\FSq (wn u y w) (w_ Z D d F c) tn h k h' k' cB b C L T ids bH:=by
 have M:=xx O l;have p:=M.prog.lens;have m:=M.lens;have K:c.length=4:=M.len;obtain⟨U,h1,k1,W,Q,ev,A,S⟩:=tW Z D d F c (k+20) (wn u y w) _ M;subst Q;subst ev;simp only[X6,Nat.reduceAdd]at W A S;have t0: ¬(tn:Int)<0:=ab
 have N:(tn:Int)<4:=ab
 have f: ¬(4:Int)<=tn:=ab
 have o:=A.lq;obtain⟨z,Y,J⟩:=S;unfold kW;have key: ∃v h' k',df X 226 [iB u y w,ol Z D d F c,(tn:Int)] h k=some (v,h',k')/\ ∃cB b C L T ids bH,v= .ed [.ptr cB 0 0,.int .i64 0]/\FSq (wn u y w) (w_ Z D d F c) tn h k h' k' cB b C L T ids bH:=by
  refine ip ?_;simp[p,m,l,t0,N,f,K,W,fI,gM,o,X6];have he: ∀x,k<=x->k+20<=x\/x<k+20:=fun x hx=>ab
  have R: ∀H:bI,(∀i,k+20<=i->i<k+214->H i=h1 i)->H (k+18)=some ⟨5,[iF (.sl false (Z.map (V.int .i64))) (k+42) (k+43) (k+206) (w_ Z D d F c)],true⟩->dQ H (k+223) (k+18) (.sl false (Z.map (V.int .i64))) (k+42) (k+43) (k+206) (mF (k+64) (k+83) (k+102) (k+121)) (mF (k+141) (k+161) (k+181) (k+201)) (w_ Z D d F c):=fun H P g=>
   Pp (a:=k+20) (k:=k+214) (h1:=H) g ab ab ab (A.mono ⟨z,Y,J⟩ (iX _) P) ⟨z,Y,J⟩ fun _ _=>rfl
  refine⟨k+18,k+42,k+43,k+206,mF (k+64) (k+83) (k+102) (k+121),mF (k+141) (k+161) (k+181) (k+201),⟨R _ (fun i a b=> ?_) ?_,⟨?_,ab,⟨ab,ab,ab,ab⟩,fun j r=> ?_⟩,ab,fun i hi=> ?_,⟨⟨ab,ab,ab⟩,fun j r=> ?_,fun B s n e=>by cases e⟩,ab,ab⟩⟩
  .have G: ¬i=k+220:=ab
   have E: ¬i=k+18:=ab
   have I: ¬i<k+20:=ab
   simp[bB,G,E,I]
  .simp[bB,iF,K]
  .simp[bB,kX]
  .have q:=Y j r;have q2:=A.lt.2.2 j r;have h2:=(A.mL j r).2.2.2;omega
  .have G: ∀j,¬i=k+j:=fun j=>ab
   have E: ¬i=k:=ab
   have I:i<k+20:=ab
   simp[bB,G,E,I]
  .have q:=Y j r;omega
 obtain⟨v,h',k',e,cB,b,C,L,T,ids,bH,rfl,S⟩:=key;exact⟨h',k',cB,b,C,L,T,ids,bH,e,S⟩
def SlI(p:g9)(lay:iy)(cB b C L T:Nat)(bH:Nat->Nat)(tn:Nat)(u:Int)(t:aN×Int)(i:Nat)(S:St):Prop:= ∃m g,(S.f 8= .ptr 2 0 0/\S.f 11= .ptr cB 0 0/\S.f 13= .int .i64 u)/\S.h 2=some ⟨5,[rB (.sl true []) 0 (.sl true []) (.sl true []) (.sl true [])],true⟩/\
   m.am=lay/\dQ S.h S.n b (.sl false (lay.aK.map (V.int .i64))) C L T g bH m/\nH 14 (.sl false (lay.aK.map (V.int .i64))) C L T g bH/\yT S.h S.n cB b C L T g bH p tn/\14<=S.n/\
   cJ p (1099511627776+64) m/\(((bO m tn).ia<u/\i+Ae u (bO m tn)<=19456/\gH p tn u (20000-i) m=t)\/((bO m tn).ia=u/\t=(m,0)))
@[simp]def YW(d:List hu)(q:List Int)(w:List (List Int))(Z:List Int)(B:Int)(f:List ac)(F:List cP)(a:List gc)(t n:Int)(tn:Nat)(hr:xw (w_ Z B f F a))(hv:fO (wn d q w) (w_ Z B f F a)=true)(Q:tn<4)(hn:1<=n/\n<=64): ∃v h k,df X 153 [iB d q w,ol Z B f F a,(tn:Int),.int .i64 n] mg 0=some (v,h,k)/\C9 (dB (wn d q w) (w_ Z B f F a) tn n).1 (dB (wn d q w) (w_ Z B f F a) tn n).2 0 v h k:=by
 obtain⟨ay,z⟩: ∃H:bI,bB (bB (bB mg 0 (some ⟨3,[iB d q w],true⟩)) 1 (some ⟨5,[ol Z B f F a],true⟩)) 2 (some ⟨5,[rB (.sl true []) 0 (.sl true []) (.sl true []) (.sl true [])],true⟩)=H:=⟨_,rfl⟩;have hq:ay 0=some ⟨3,[iB d q w],true⟩:=gp
 have cz:ay 1=some ⟨5,[ol Z B f F a],true⟩:=gp
 have fv:ay 2=some ⟨5,[rB (.sl true []) 0 (.sl true []) (.sl true []) (.sl true [])],true⟩:=gp
 obtain⟨n1,bW⟩:=hn;have h0:(0:Int)<=tn:=ab
 have h4:(tn:Int)<4:=ab
 have hg:=xx hr hv;have hl:a.length=4:=hg.len;have cQ:tn<a.length:=ab
 have hx:bO (w_ Z B f F a) tn=a[tn]:=eL cQ;obtain⟨h1,k1,cB,b,C,L,T,ids,bH,e,U⟩:=UV d q w Z B f F a 0 ay 14 tn hr hv Q;unfold kW at e;simp only at e;have f2:=U.fr 2 ab;rw[fv]at f2;have c:=U.core.box;have hT:=U.ny.lq;unfold kX at c;simp only at c hT;have M:=eU (ids:=bH) cQ;have A:=eX bH a;rw[hl]at A;have c1: ¬n<1:=ab
 have hz: ¬64<n:=ab
 obtain⟨ht,bL,dz⟩:=U.PF;have Y:=U.ny.uG;unfold iF at Y;simp only[hl]at Y;have W: ∀(H:bI) (K k':Nat) (x:Option Ob) (P:Nat->Nat) (r:aN) (s:Int),r.am=⟨Z,B⟩->dQ H K b (.sl false (Z.map (V.int .i64))) C L T P bH r->nH 14 (.sl false (Z.map (V.int .i64))) C L T P bH->
   C9 r s 0 (.ed [.agg [Z,.int .u16 B,.cX C 0 512,.cX L 0 4,.cX T 0 4],.int .i64 s,.int .i64 0]) (bB H 2 x) k':=fun H K k' x P r s R G hp=>by
  refine⟨_,C,L,T,P,bH,_,?_,G.at.mono hp (iX _) fun i hi _=>ib⟩;unfold iF;rw[G.len,R]
 by_cases hs:(a[tn]).im=1
 case neg=>
  have e0:dB (wn d q w) (w_ Z B f F a) tn n=((aN.mk (iy.mk Z B) (aD.mk f F) a),3):=by unfold dB;rw[show(aN.ce (w_ Z B f F a)).getD tn cT=a[tn] from hx];exact if_neg hs
  rw[e0];refine ip ?_;simp[z,hq,cz,e,f2,c1,hz,c,hT,M,A,Q,hs,Y];exact W h1 k1 _ _ ids _ _ rfl U.ny ht
 have bV:=eq_true hs;obtain⟨u,mS⟩:=x_ ((a[tn]).ia+n);have n0:=(hg.lq tn cQ).ia;simp only at n0;have hf:IntKind.i64.wrap ((a[tn]).ia+n)=u:=by rw[mS];exact wrap_i64 ab
 have e0:dB (wn d q w) (w_ Z B f F a) tn n=gH (wn d q w) tn u 20000 (w_ Z B f F a):=by
  unfold dB;rw[show(aN.ce (w_ Z B f F a)).getD tn cT=a[tn] from hx,if_pos hs,mS]
 rw[e0];obtain⟨c2,he⟩:=x_ (gH (wn d q w) tn u 20000 (w_ Z B f F a));rw[he];refine ip ?_;simp[z,hq,cz,e,c1,hz,c,hT,M,A,Q,bV,hf];refine nG (fun i S=>SlI (wn d q w) ⟨Z,B⟩ cB b C L T bH tn u c2 i S) 19456 ?_ 0 ai ?_
 .rintro i S hi ⟨m,P,⟨hd,N,l⟩,hk,R,h3,hp,o,ba,E,hA⟩;have hb:=h3.len;have h2:tn<m.ce.length:=ab
  have ha:=h3.lq;have M:=eU (ids:=bH) h2;have A:=eX bH m.ce;rw[hb]at A;have S':bO m tn=m.ce[tn]:=eL h2;have O:=o.box;unfold kX at O;simp only at O;rcases hA with⟨hc,ts,g⟩|⟨J,g⟩
  case inr=>
   rw[S']at J;have I:=h3.uG;unfold iF at I;rw[hb,R]at I;simp only at I;rw[g];have iS: ¬u<u:=ab
   simp[hd,N,l,hk,O,ha,M,A,Q,J,I];exact W _ _ _ _ _ _ _ R h3 hp
  have b':1<=Ae u (bO m tn):=by
   have:=(E.bO Q).pc;unfold Ae;omega
  have ff:i<19456:=ab
  have hB:20000-i=(20000-(i+1))+1:=ab
  obtain⟨h',k',hL,bs,G,g1,g2,g3⟩:=QM .bad (wn d q w) S.h (S.n+12) cB b _ C L T P bH m tn _ (h3.mono ab fun _ _=>rfl) E (o.mono ab fun _ _=>rfl) ab Q (by rw[R]);have mm:nH 14 (.sl false (Z.map (V.int .i64))) C L T hL bH:=by
   obtain⟨q1,q2,fG⟩:=hp;refine⟨q1,fun j y=>⟨?_,(q2 j y).2⟩,fG⟩;rcases g2 j y with e|e
   .rw[e];exact(q2 j y).1
   .omega
  obtain⟨e1,e2,e3,e4⟩:=o.ne;have hS:=o.lt;have HG:=g3 cB ab e2 e3 (fun j y=>(o.ni j y).1) e4 (o.ni tn Q).2;obtain⟨⟨iO,bU,c3⟩,hh,hR⟩:=hp;have D:=g3 2 ab ab ab (fun j y=>by have:=hh j y;omega) ab (by have:=hh tn Q;omega);rw[hk]at D;have dN:yT h' k' cB b C L T hL bH (wn d q w) tn:=⟨by rw[HG];exact o.box,ab,⟨e1,e2,e3,e4⟩,fun j y=>⟨by
   rcases g2 j y with e|e
   .rw[e];exact(o.ni j y).1
   .omega,(o.ni j y).2⟩⟩
  rw[O]at HG;have I:=G.uG;have h8:=G.len;unfold iF at I;rw[h8,wm,R]at I;simp only at I;have bP:(jM (wn d q w) m tn).1.am=⟨Z,B⟩:=by rw[wm];exact R
  have bp:=hc;rw[S']at bp;by_cases p:(jM (wn d q w) m tn).2= -1
  case neg=>
   rw[<-g,hB,yI p];simp[hd,N,l,O,ha,M,A,Q,bp,bs,HG,D,I,p,X6];exact W _ _ _ _ _ _ _ bP G mm
  have bS:=eq_true p;have bT:=A0 E Q p u;have gX:=(xy E (E.bO Q)).Pm (by rw[uR]at p;exact p);have dF:=xz E Q;simp[N,l,O,ha,M,A,Q,bp,bs,bS,ff,X6];refine⟨(jM (wn d q w) m tn).1,hL,⟨by simp[bB,hd],by simp[bB,N],by simp[bB,l]⟩,D,bP,G.mono aU (fun _ _=>rfl),mm,dN.mono aU (fun _ _=>rfl),aU,AZ E Q ab,?_⟩;by_cases J:(bO (jM (wn d q w) m tn).1 tn).ia=u
  .exact .inr ⟨J,by rw[<-g,hB,Af p J]⟩
  .refine .inl ⟨by rw[dF]at J⊢;omega,ab,?_⟩;rw[<-g,hB,yJ p J]
 .simp;refine⟨(aN.mk (iy.mk Z B) (aD.mk f F) a),ids,⟨al,al,al⟩,f2,rfl,U.ny.mono aU (fun _ _=>rfl),ht,U.core.mono aU (fun _ _=>rfl),by have:=U.le;first|omega|(simp only;omega),hg.mono ab,.inl ⟨by rw[hx];omega,?_,he⟩⟩;have:=(hg.lq tn cQ).pc;simp only at this;rw[hx];unfold Ae;omega
@[simp]def YV(u:List hu)(q:List Int)(w:List (List Int))(Z:List Int)(B:Int)(h:List ac)(e:List cP)(a:List gc)(t n:Int)(r:xw (w_ Z B h e a))(v:fO (wn u q w) (w_ Z B h e a)=true)(S:0<=t/\t<4)(W:1<=n/\n<=64):mh X [(0,4,112)] 153 [iB u q w,ol Z B h e a,.int .i64 t,.int .i64 n]=some (.ed [rJ ((dB (wn u q w) (w_ Z B h e a) t.toNat n).1),.int .i64 ((dB (wn u q w) (w_ Z B h e a) t.toNat n).2),.int .i64 0]):=by
 obtain⟨k,rfl⟩:=jp S.1;exact C9.mh (YW u q w Z B h e a k n k r v ab W)
end Go.Proofs.YtdngefmliibcgaaGreat
