import Derived.Test.YtdngefmliibcgaaGreatB08
set_option linter.all false
set_option maxRecDepth 20000
set_option maxHeartbeats 0
namespace Go.Proofs.YtdngefmliibcgaaGreat
open Go Go.Abs Go.Abs.jJ Qf
variable  {a b c d a' b' c' d' j k K C L T:Nat}{m:aN}{h1 h H:bI}{ids bH:Nat->Nat}
@[simp]def XF(u:List hu)(A:List Int)(v:List (List Int))(m:V)(t:Int)(h:bI)(k b:Nat)(vB:V)(C L T:Nat)(ids bH:Nat->Nat)(z:aN)(tn:Nat)(d:Int)(H:dQ h k b vB C L T ids bH z)(HG:cJ (wn u A v) d z)(hd:d<=1099511628776)(Z:tn<4)(an: ∃B,vB= .cX B 0 z.am.aK.length)(q:(bO z tn).pc<u.length/\(3<=(u.getD (bO z tn).pc.toNat qR).op/\(u.getD (bO z tn).pc.toNat qR).op<=14)):ig (df X 246 [iB u A v,.ptr b 0 0,(tn:Int)] h k) (wn u A v) h k b vB C L T ids bH z tn:=by
 have hl:=H.len;have D:tn<z.ce.length:=ab
 have aa:(tn:Int)<4:=ab
 have R:=HG.lq tn D;have hR:=H.Ad tn D;have hg:=eU (ids:=bH) D;have hT:=H.lq;have kz:=eX bH z.ce;rw[hl]at kz;have P:=H.uG;unfold iF at P;rw[hl]at P;have ct: ∀(K:bI) (k2:Nat) (w:Int),K T=some ⟨8,dn bH z.ce,true⟩->df X 271 [.ptr T tn 0,.int .i64 w] K k2=some (.int .i64 2,bB K T (some ⟨8,(dn bH z.ce).set tn (dY bH tn (fQ z.ce[tn] w)),true⟩),k2+15):=fun K k2 w g=>by
  rw[gq D];exact Ji .bad 0 K k2 T tn w bH z.ce g D
 have I:bO z tn=z.ce[tn]:=eL D;obtain⟨x,mQ⟩:=x_ z.ce[tn];rw[mQ]at R hR I;simp only[mQ]at hg ct;obtain⟨cz,hS,e3,hc,bU⟩:=H.mL tn Z;have ff: ¬T=bH tn:=fun e=>hc e.symm;have bp: ¬b=bH tn:=fun e=>cz e.symm;obtain⟨dN,u2,n1,c3⟩:=H.yG;have h4: ¬b=T:=fun e=>dN e.symm;have iS:=H.mem.lt.1;have q1: ∀j,¬b=k+j/\ ¬T=k+j/\ ¬bH tn=k+j/\ ¬k+j=b/\ ¬k+j=T/\ ¬k+j=bH tn:=fun j=>ab
 have ak: ¬b=k/\ ¬T=k/\ ¬bH tn=k:=ab
 have hy:=R.pc;obtain⟨n,W⟩: ∃n:Nat,x.pc=n:=⟨x.pc.toNat,ab⟩;have h8:=R.bK;have Xw:u.length<=64:=HG.prog.qH;have aJ:=R.ia;have kk:=z_ (x.ia+1);have hp:=o7 n ab;have frame: ∀(K:bI),(∀i,i<k->i≠T->i≠bH tn->K i=h i)-> ∀i,i<k->i≠T->i≠bH tn->K i=h i:=fun _ g=>g;by_cases S:n<u.length
 case neg=>
  have:=q.1;rw[I,W]at this;omega
 have hv: ¬(u.length:Int)<=n:=ab
 have hI:=HG.prog.wS (p:=(g9.mk u A v)) S;simp only at hI;obtain⟨⟨op,aH,bi,ci,eA⟩,l⟩: ∃i,u[n]=i:=⟨_,rfl⟩;rw[l]at hI;obtain⟨hh,ah,e1,ae,cQ,fv,bS,hz⟩:=hI;simp only at hh ah e1 ae cQ fv bS hz;obtain⟨a,rfl⟩:=jp ah.1;obtain⟨E,rfl⟩:=jp e1.1;obtain⟨c,rfl⟩:=jp ae.1;have a8:(a:Int)<8/\(E:Int)<8/\(c:Int)<8/\a<8/\E<8/\c<8:=ab
 have hA:a<x.bK.length:=ab
 have bl:E<x.bK.length:=ab
 have cl:c<x.bK.length:=ab
 have iO:IntKind.u16.wrap eA=eA:=wrap_u16 cQ;have Q:=HG.lay;have G:=Q.len;simp only at Q G;obtain⟨B,hf,n0,⟨bc,g3,dF,bP,bs⟩,c1,S'⟩: ∃B,vB= .cX B 0 z.am.aK.length/\h B=some ⟨1,z.am.aK.map (V.int .i64),false⟩/\(B≠b/\B≠C/\B≠L/\B≠T/\B<k)/\(∀j,j<4->ids j≠B)/\ ∀i,i<4->bH i≠B:=by
  rcases H.aK with e|e
  .obtain⟨_,e2⟩:=an;rw[e]at e2;cases e2
  .exact e
 have Y: ∀j,¬B=k+j:=fun j=>ab
 have ay: ¬B=k:=ab
 have vL: ∀y:ac,(⟨y.gs,y.val⟩:ac)=y:=fun _=>rfl;have ba:(iy.mk z.am.aK z.am.key)=z.am:=rfl;have hs: ∀r,iR (wn u A v) z x ⟨op,a,E,c,eA⟩=r->mI (wn u A v) z (bO z tn)=r:=fun r g=>by rw[I,Ih (p:=(g9.mk u A v)) W S l,g]
 obtain⟨h3,he⟩:=x_ x.bK[a];obtain⟨N,hx⟩:=x_ x.bK[E];obtain⟨M,U⟩:=x_ x.bK[c];have hq:jo x a=h3:=by rw[mT hA,he]
 have hr:jo x E=N:=by rw[mT bl,hx]
 have rc:jo x c=M:=by rw[mT cl,U]
 have ca:iD h3:=by rw[<-hq];exact jq R _
 have cb:iD N:=by rw[<-hr];exact jq R _
 have fG:iD M:=by rw[<-rc];exact jq R _
 have iS:=H.mem.lt;have HM: ∀(h1:bI) (j:Nat),Below k h h1->kV h1 (k+j) b C L ids vB (.int .u16 z.am.key) (.cX T 0 4) z.gt:=fun h1 j jz=>by have:=(H.mono (k':=k+j) ab jz).mem;rwa[hl]at this
 have gX:fX 18=true/\fX 19=true/\fX 20=true/\fX 21=true/\fX 22=true/\fX 24=true/\ ∀o:Int,0<=o->o<=17->fX o=false:=⟨aG,aG,aG,aG,aG,aG,fun o h1 K=>eV⟩;obtain⟨bL,dz,ts,bT,bW,bV,hk⟩:=gX;have oc:op=0\/op=1\/op=2\/(3<=op/\op<=14)\/op=15\/op=16\/op=17\/op=18\/op=19\/op=20\/op=21\/op=22\/op=23\/op=24:=ab
 rcases oc with rfl|rfl|rfl|ho|rfl|rfl|rfl|rfl|rfl|rfl|rfl|rfl|rfl|rfl
 .exact kF
 .exact kF
 .exact kF
 .obtain⟨⟨c2,dv⟩,w,F⟩: ∃r w,rn z.am.aK A op N M=(r,w):=⟨_,_,rfl⟩;obtain⟨g2,hB⟩:=N;obtain⟨g1,ha⟩:=M;have f:=cb.2;have s:=fG.2;simp only at f s;have O: ¬op=0/\ ¬op=1/\ ¬op=2/\ ¬op=15/\ ¬op=16/\ ¬op=17/\ ¬op=18/\ ¬op=19/\ ¬op=20/\ ¬op=21/\ ¬op=22/\ ¬op=23/\ ¬op=24:=ab
  have hj:fX op=false:=hk op ab ab;by_cases J:w=0
  .refine ig.of H Z (v5 x (n+1) (x.bK.set a ⟨c2,dv⟩)) (-1) (hs _ (by simp[iR,W,pe,hr,rc,F,J,O])) (ip ?_);simp[X6,fU,P,hT,hR,hg,kz,Z,aa,W,S,hv,l,xA,rp,h8,a8,he,hx,U,hp,hc,ff,q1,ak,O,hj,Q,hf,n0,Y,ay,f,s,F,J,ac.cN];all_goals exact jc
  .refine ig.of H Z (fQ x w) (2) (hs _ (by simp[iR,hr,rc,F,J,O])) (ip ?_);simp[X6,fU,P,hT,hR,hg,kz,Z,aa,W,S,hv,l,ct,nz,jW,h8,a8,he,hx,U,hp,hc,q1,ak,O,Q,hf,n0,Y,ay,f,s,F,J];all_goals exact jc
 .exact kF
 .exact kF
 .exact kF
 .exact kF
 .exact kF
 .exact kF
 .exact kF
 .exact kF
 .exact kF
 .exact kF
@[simp]def a2v(Q:List hu)(aq:List Int)(aw:List (List Int))(m:V)(t:Int)(h:bI)(k b:Nat)(vB:V)(C L T:Nat)(ids bH:Nat->Nat)(z:aN)(tn:Nat)(d:Int)(H:dQ h k b vB C L T ids bH z)(HG:cJ (wn Q aq aw) d z)(hd:d<=1099511628776)(S:tn<4)(dN: ∃B,vB= .cX B 0 z.am.aK.length):ig (df X 246 [iB Q aq aw,.ptr b 0 0,(tn:Int)] h k) (wn Q aq aw) h k b vB C L T ids bH z tn:=by
 have hl:=H.len;have nr:tn<z.ce.length:=ab
 have F:(tn:Int)<4:=ab
 have ay:=HG.lq tn nr;have R:=H.Ad tn nr;have U:=eU (ids:=bH) nr;have Z:=H.lq;have A:=eX bH z.ce;rw[hl]at A;have q:=H.uG;unfold iF at q;rw[hl]at q;have ct: ∀(h2:bI) (k2:Nat) (w:Int),h2 T=some ⟨8,dn bH z.ce,true⟩->df X 271 [.ptr T tn 0,.int .i64 w] h2 k2=some (.int .i64 2,bB h2 T (some ⟨8,(dn bH z.ce).set tn (dY bH tn (fQ z.ce[tn] w)),true⟩),k2+15):=fun h2 k2 w g=>by
  rw[gq nr];exact Ji .bad 0 h2 k2 T tn w bH z.ce g nr
 have ha:bO z tn=z.ce[tn]:=eL nr;obtain⟨x,mQ⟩:=x_ z.ce[tn];rw[mQ]at ay R ha;simp only[mQ]at U ct;obtain⟨cu,cD,kK,I,m1⟩:=H.mL tn S;have S': ¬T=bH tn:=fun e=>I e.symm;have hy: ¬b=bH tn:=fun e=>cu e.symm;obtain⟨kk,u2,ku,c4⟩:=H.yG;have aJ: ¬b=T:=fun e=>kk e.symm;have iS:=H.mem.lt.1;have O: ∀j,¬b=k+j/\ ¬T=k+j/\ ¬bH tn=k+j/\ ¬k+j=b/\ ¬k+j=T/\ ¬k+j=bH tn:=fun j=>ab
 have M: ¬b=k/\ ¬T=k/\ ¬bH tn=k:=ab
 have cZ:=ay.pc;obtain⟨n,W⟩: ∃n:Nat,x.pc=n:=⟨x.pc.toNat,ab⟩;have J:=ay.bK;have Xw:Q.length<=64:=HG.prog.qH;have hM:=ay.ia;have ah:=z_ (x.ia+1);have N:=o7 n ab;have frame: ∀(h2:bI),(∀i,i<k->i≠T->i≠bH tn->h2 i=h i)-> ∀i,i<k->i≠T->i≠bH tn->h2 i=h i:=fun _ g=>g;by_cases u:n<Q.length
 case neg=>
  have s:(Q.length:Int)<=n:=ab
  refine ig.of H S (fQ x 2) 2 (by rw[ha];exact KR aB) (ip ?_);simp[X6,fU,q,Z,R,U,A,S,F,W,s,ct,nz,jW,I,M];all_goals exact jc
 have s: ¬(Q.length:Int)<=n:=ab
 have hI:=HG.prog.wS (p:=(g9.mk Q aq aw)) u;simp only at hI;obtain⟨⟨op,v',bi,ci,eA⟩,l⟩: ∃i,Q[n]=i:=⟨_,rfl⟩;rw[l]at hI;obtain⟨cg,ba,hS,e3,hf,n4,bU,ih⟩:=hI;simp only at cg ba hS e3 hf n4 bU ih;obtain⟨a,rfl⟩:=jp ba.1;obtain⟨b',rfl⟩:=jp hS.1;obtain⟨c,rfl⟩:=jp e3.1;have a8:(a:Int)<8/\(b':Int)<8/\(c:Int)<8/\a<8/\b'<8/\c<8:=ab
 have bE:a<x.bK.length:=ab
 have bl:b'<x.bK.length:=ab
 have cl:c<x.bK.length:=ab
 have iO:IntKind.u16.wrap eA=eA:=wrap_u16 hf;have hL:=HG.lay;have ae:=hL.len;simp only at hL ae;obtain⟨B,hh,bs,⟨HA,cI,kg,cC,h5⟩,cm,dM⟩: ∃B,vB= .cX B 0 z.am.aK.length/\h B=some ⟨1,z.am.aK.map (V.int .i64),false⟩/\(B≠b/\B≠C/\B≠L/\B≠T/\B<k)/\(∀j,j<4->ids j≠B)/\ ∀i,i<4->bH i≠B:=by
  rcases H.aK with e|e
  .obtain⟨_,e2⟩:=dN;rw[e]at e2;cases e2
  .exact e
 have h3: ∀j,¬B=k+j:=fun j=>ab
 have hq: ¬B=k:=ab
 have vL: ∀y:ac,(⟨y.gs,y.val⟩:ac)=y:=fun _=>rfl;have a':(iy.mk z.am.aK z.am.key)=z.am:=rfl;have P: ∀r,iR (wn Q aq aw) z x ⟨op,a,b',c,eA⟩=r->mI (wn Q aq aw) z (bO z tn)=r:=fun r g=>by rw[ha,Ih (p:=(g9.mk Q aq aw)) W u l,g]
 obtain⟨hx,Y⟩:=x_ x.bK[a];obtain⟨E,D⟩:=x_ x.bK[b'];obtain⟨n1,c1⟩:=x_ x.bK[c];have hk:jo x a=hx:=by rw[mT bE,Y]
 have hB:jo x b'=E:=by rw[mT bl,D]
 have rc:jo x c=n1:=by rw[mT cl,c1]
 have ca:iD hx:=by rw[<-hk];exact jq ay _
 have cb:iD E:=by rw[<-hB];exact jq ay _
 have cL:iD n1:=by rw[<-rc];exact jq ay _
 have iS:=H.mem.lt;have HM: ∀(h1:bI) (j:Nat),Below k h h1->kV h1 (k+j) b C L ids vB (.int .u16 z.am.key) (.cX T 0 4) z.gt:=fun h1 j f=>by have:=(H.mono (k':=k+j) ab f).mem;rwa[hl]at this
 have g4:fX 18=true/\fX 19=true/\fX 20=true/\fX 21=true/\fX 22=true/\fX 24=true/\ ∀o:Int,0<=o->o<=17->fX o=false:=⟨aG,aG,aG,aG,aG,aG,fun o h1 h2=>eV⟩;obtain⟨gX,cz,bp,bL,dz,ts,an⟩:=g4;have oc:op=0\/op=1\/op=2\/(3<=op/\op<=14)\/op=15\/op=16\/op=17\/op=18\/op=19\/op=20\/op=21\/op=22\/op=23\/op=24:=ab
 rcases oc with rfl|rfl|rfl|ho|rfl|rfl|rfl|rfl|rfl|rfl|rfl|rfl|rfl|rfl
 .refine ig.of H S (v5 x (n+1) x.bK) (-1) (P _ (by simp[iR,W,v5])) (ip ?_);simp[X6,fU,q,Z,R,U,A,S,F,W,u,s,l,xA,rp,J,a8,Y,D,N,I,O,M,an];all_goals exact jc
 .refine ig.of H S (v5 x (n+1) (x.bK.set a ⟨0,eA⟩)) (-1) (P _ (by simp[iR,W,pe,v5])) (ip ?_);simp[X6,fU,q,Z,R,U,A,S,F,W,u,s,l,xA,rp,J,a8,Y,D,N,iO,I,S',O,M,an,ac.cN];all_goals exact jc
 .refine ig.of H S (v5 x (n+1) (x.bK.set a E)) (-1) (P _ (by simp[iR,W,pe,hB,v5])) (ip ?_);simp[X6,fU,q,Z,R,U,A,S,F,W,u,s,l,xA,rp,J,a8,Y,D,N,I,S',O,M,an];all_goals exact jc
 .exact XF Q aq aw m t h k b vB C L T ids bH z tn d H HG hd S dN ⟨by rw[ha,W];omega,by rw[ha,W,X7,show Q.getD n qR=Q[n] by simp[List.getD,u],l];exact ho⟩
 .obtain⟨cQ,rfl⟩:=jp hf.1;have i1:=bU rfl;have i2:cQ<aq.length:=ab
  have i3:cQ<z.am.aK.length:=by rw[ae];exact i2
  have bV:(cQ:Int)<z.am.aK.length:=ab
  have f3:=hL.base cQ i3 i2;have t':=hL.sz.elem cQ i2;have m':=y_ z.am.aK[cQ];have w2:nth z.am.aK cQ=z.am.aK[cQ]:=dA i3;refine ig.of H S (v5 x (n+1) (x.bK.set a ⟨1,z.am.aK[cQ]⟩)) (-1) (P _ (by simp[iR,W,pe,w2])) (ip ?_);simp[X6,fU,q,Z,R,U,A,S,F,W,u,s,l,xA,rp,J,a8,Y,D,N,I,S',O,M,an,ac.cN,hh,bs,h3,hq,i3,bV,m'];all_goals exact jc
 .obtain⟨r,w,aa⟩: ∃r w,ji z.am.aK aq E eA false=(r,w):=⟨_,_,rfl⟩;have c2:=cb.2;have n0:=pb (aK:=z.am.aK) (ax:=aq) hL (p:=E) (n:=eA) (back:=false);rw[aa]at n0;simp only at n0;by_cases hp:w=0
  case neg=>
   obtain⟨aH,bc⟩:=E;simp only at c2;refine ig.of H S (fQ x w) 2 (P _ (by simp[iR,hB,aa,hp])) (ip ?_);exact ll
  obtain⟨av,hr,bP⟩:=n0 hp;subst hp;subst hr;have c3:=z_ av;have hv: ∀(h1:bI) (j:Nat),Below k h h1->df X 273 [.ptr b 0 2,(av:Int)] h1 (k+j)=some (((q' (nf z.gt av):V)),cH 273 [.ptr b 0 2,(av:Int)] h1 (k+j),cK 273 [.ptr b 0 2,(av:Int)] h1 (k+j))/\ ∃gU,dQ (cH 273 [.ptr b 0 2,(av:Int)] h1 (k+j)) (cK 273 [.ptr b 0 2,(av:Int)] h1 (k+j)) b vB C L T gU bH ⟨z.am,dL z.gt av,z.ce⟩/\k+j<=cK 273 [.ptr b 0 2,(av:Int)] h1 (k+j)/\(∀j,j<4->gU j=ids j\/k<=gU j)/\ ∀i,i<k+j->i≠C->i≠L->(∀j,j<4->i≠ids j)->cH 273 [.ptr b 0 2,(av:Int)] h1 (k+j) i=h1 i:=fun h1 j f=>by
   obtain⟨h',k',gK,e,G,g1,g2,g3⟩:=Rn .bad 0 h1 (k+j) b C L ids vB (.int .u16 z.am.key) (.cX T 0 4) z.gt av (HM h1 j f) bP;have e:df X 273 [.ptr b 0 2,(av:Int)] h1 (k+j)=some (((q' (nf z.gt av):V)),h',k'):=e;exact kG
  have cl:=fun h1 j f=>(hv h1 j f).1;have bS: ∀(h1:bI) (j:Nat),Below k h h1->cH 273 [.ptr b 0 2,(av:Int)] h1 (k+j) T=some ⟨8,dn bH z.ce,true⟩:=fun h1 j f=>fa
  have fv: ∀(h1:bI) (j:Nat),Below k h h1->cH 273 [.ptr b 0 2,(av:Int)] h1 (k+j) (bH tn)=some ⟨2,x.bK.map ac.e,false⟩:=fun h1 j f=>dt
  have h4: ∀(h1:bI) (j i:Nat),Below k h h1->i<j->cH 273 [.ptr b 0 2,(av:Int)] h1 (k+j) (k+i)=h1 (k+i):=fun h1 j i f lM=>by
   obtain⟨_,_,_,_,_,g⟩:=hv h1 j f;exact mC
  have fG: ∀(h1:bI) (j:Nat),Below k h h1->0<j->cH 273 [.ptr b 0 2,(av:Int)] h1 (k+j) k=h1 k:=fun h1 j f lM=>h4 h1 j 0 f lM;have key:ig (df X 246 [iB Q aq aw,.ptr b 0 0,(tn:Int)] h k) (wn Q aq aw) h k b vB C L T ids bH z tn:=by
   have he:=bJ (X:=X) (g:=246) (args:=[(iB Q aq aw:V),.ptr b 0 0,(tn:Int)]) (h:=h) (k:=k) (K:=EZ h k T bH tn z.ce 273 [.ptr b 0 2,(av:Int)] (v5 x (n+1) (x.bK.set a (nf z.gt av))) (-1)) Tryz.func246 rfl rfl (by
    simp[X6,q,Z,R,U,A,S,F,W,u,s,l,J,a8,Y,D,N,iO,S',O,M,an,hL,hh,bs,h3,hq,hf,c2,aa,c3,cl,bS,fv,h4];exact Z7 aC I (by simp only[rp,rm,J]) (by simp[xA,ac.cN]))
   obtain⟨v,h',n',e,h1,j,f,hE⟩:=he;obtain⟨_,gU,G,g1,bT,g2⟩:=hv h1 j f;refine ig.HB H S G ab bT (fun i l hC dF hz=>by rw[g2 i ab hC dF hz,f i l]) (v5 x (n+1) (x.bK.set a (nf z.gt av))) (-1) (P _ (by simp[iR,W,pe,hB,aa])) ⟨v,h',n',e,hE⟩
  exact key
 .obtain⟨r,w,aa⟩: ∃r w,ji z.am.aK aq hx eA false=(r,w):=⟨_,_,rfl⟩;have c2:=ca.2;have n0:=pb (aK:=z.am.aK) (ax:=aq) hL (p:=hx) (n:=eA) (back:=false);rw[aa]at n0;simp only at n0;by_cases hp:w=0
  case neg=>
   obtain⟨aH,bc⟩:=hx;simp only at c2;refine ig.of H S (fQ x w) 2 (P _ (by simp[iR,hk,aa,hp])) (ip ?_);exact ll
  obtain⟨av,hr,bP⟩:=n0 hp;subst hp;subst hr;have c3:=z_ av;have hv: ∀(h1:bI) (j:Nat),Below k h h1->df X 251 [.ptr b 0 2,(av:Int),q' E] h1 (k+j)=some ((.ed []),cH 251 [.ptr b 0 2,(av:Int),q' E] h1 (k+j),cK 251 [.ptr b 0 2,(av:Int),q' E] h1 (k+j))/\ ∃gU,dQ (cH 251 [.ptr b 0 2,(av:Int),q' E] h1 (k+j)) (cK 251 [.ptr b 0 2,(av:Int),q' E] h1 (k+j)) b vB C L T gU bH ⟨z.am,ke z.gt av E,z.ce⟩/\k+j<=cK 251 [.ptr b 0 2,(av:Int),q' E] h1 (k+j)/\(∀j,j<4->gU j=ids j\/k<=gU j)/\ ∀i,i<k+j->i≠C->i≠L->(∀j,j<4->i≠ids j)->cH 251 [.ptr b 0 2,(av:Int),q' E] h1 (k+j) i=h1 i:=fun h1 j f=>by
   obtain⟨h',k',gK,e,G,g1,g2,g3⟩:=UC .bad 0 E.gs E.val h1 (k+j) b C L ids vB (.int .u16 z.am.key) (.cX T 0 4) z.gt av E (HM h1 j f) bP cb.oG;have e:df X 251 [.ptr b 0 2,(av:Int),q' E] h1 (k+j)=some ((.ed []),h',k'):=e;exact kG
  have cl:=fun h1 j f=>(hv h1 j f).1;have bS: ∀(h1:bI) (j:Nat),Below k h h1->cH 251 [.ptr b 0 2,(av:Int),q' E] h1 (k+j) T=some ⟨8,dn bH z.ce,true⟩:=fun h1 j f=>fa
  have fv: ∀(h1:bI) (j:Nat),Below k h h1->cH 251 [.ptr b 0 2,(av:Int),q' E] h1 (k+j) (bH tn)=some ⟨2,x.bK.map ac.e,false⟩:=fun h1 j f=>dt
  have h4: ∀(h1:bI) (j i:Nat),Below k h h1->i<j->cH 251 [.ptr b 0 2,(av:Int),q' E] h1 (k+j) (k+i)=h1 (k+i):=fun h1 j i f lM=>by
   obtain⟨_,_,_,_,_,g⟩:=hv h1 j f;exact mC
  have fG: ∀(h1:bI) (j:Nat),Below k h h1->0<j->cH 251 [.ptr b 0 2,(av:Int),q' E] h1 (k+j) k=h1 k:=fun h1 j f lM=>h4 h1 j 0 f lM;have key:ig (df X 246 [iB Q aq aw,.ptr b 0 0,(tn:Int)] h k) (wn Q aq aw) h k b vB C L T ids bH z tn:=by
   have he:=bJ (X:=X) (g:=246) (args:=[(iB Q aq aw:V),.ptr b 0 0,(tn:Int)]) (h:=h) (k:=k) (K:=EZ h k T bH tn z.ce 251 [.ptr b 0 2,(av:Int),q' E] (v5 x (n+1) x.bK) (-1)) Tryz.func246 rfl rfl (by
    simp[X6,q,Z,R,U,A,S,F,W,u,s,l,J,a8,Y,D,N,iO,O,M,an,hL,hh,bs,h3,hq,hf,c2,aa,c3,cl,bS,h4];exact Z5 aC I (by simp only[rp,J]) (fv _ _ aC))
   obtain⟨v,h',n',e,h1,j,f,hE⟩:=he;obtain⟨_,gU,G,g1,bT,g2⟩:=hv h1 j f;refine ig.HB H S G ab bT (fun i l hC dF hz=>by rw[g2 i ab hC dF hz,f i l]) (v5 x (n+1) x.bK) (-1) (P _ (by simp[iR,W,hk,hB,aa])) ⟨v,h',n',e,hE⟩
  exact key
 .refine ig.of H S (lW x eA x.bK x.iw) (-1) (P _ (by simp[iR,lW])) (ip ?_);simp[X6,fU,q,Z,R,U,A,S,F,W,u,s,l,jE,iq,J,a8,Y,D,N,ah,I,O,M,gX];all_goals exact jc
 .by_cases t0:hx.gs=0
  .by_cases hc:hx.val=0
   .refine ig.of H S (lW x eA x.bK x.iw) (-1) (P _ dr) (ip ?_);exact mN
   .refine ig.of H S (lW x (n+1) x.bK x.iw) (-1) (P _ (by simp[iR,W,hk,t0,hc])) (ip ?_);exact mN
  .exact la
 .by_cases t0:hx.gs=0
  .by_cases hc:hx.val=0
   .refine ig.of H S (lW x (n+1) x.bK x.iw) (-1) (P _ (by simp[iR,W,hk,t0,hc])) (ip ?_);exact mR
   .refine ig.of H S (lW x eA x.bK x.iw) (-1) (P _ dr) (ip ?_);exact mR
  .exact la
 .have hA:=y_ ((n:Int)+1);refine ig.of H S (lW x eA (x.bK.set a ⟨0,n+1⟩) x.iw) (-1) (P _ (by simp[iR,W,pe])) (ip ?_);simp[X6,fU,q,Z,R,U,A,S,F,W,u,s,l,jE,iq,J,a8,Y,D,N,ah,I,S',O,M,bL,ac.cN,hA];all_goals exact jc
 .by_cases t0:hx.gs=0
  .by_cases hc:255<hx.val
   .refine ig.of H S (fQ x 2) (2) (P _ dr) (ip ?_);simp[X6,fU,q,Z,R,U,A,S,F,W,u,s,l,ct,nz,jW,J,a8,Y,D,N,I,O,M,t0,hc];all_goals exact jc
   .have bW:IntKind.i64.wrap hx.val=hx.val:=wrap_i64 (by have:=ca.2;omega);refine ig.of H S (lW x hx.val x.bK x.iw) (-1) (P _ dr) (ip ?_);simp[X6,fU,q,Z,R,U,A,S,F,W,u,s,l,jE,iq,J,a8,Y,D,N,ah,I,O,M,dz,t0,hc,bW];all_goals exact jc
  .exact la
 .refine ig.of H S (sy x) (1) (P _ (by simp[iR])) (ip ?_);simp[X6,fU,q,Z,R,U,A,S,F,W,u,s,l,Ig,C8,J,a8,Y,D,N,I,O,M];all_goals exact jc
 .by_cases ak:x.iw= -1
  .refine ig.of H S (fQ x 1) (2) (P _ (by simp[iR,ak])) (ip ?_);simp[X6,fU,q,Z,R,U,A,S,F,W,u,s,l,ct,nz,jW,J,a8,Y,D,N,I,O,M,ak];all_goals exact jc
  .refine ig.of H S (lW x x.iw x.bK (-1)) (-1) (P _ (by simp[iR,ak])) (ip ?_);simp[X6,fU,q,Z,R,U,A,S,F,W,u,s,l,jE,iq,J,a8,Y,D,N,ah,I,O,M,ts,ak];all_goals exact jc
def mF(a b c d i:Nat):Nat:=if i=0 then a else if i=1 then b else if i=2 then c else d
def Iz(a b c d:Nat)(W e m l:cP):gh (mF a b c d) [W,e,m,l]=[(rt W.gs W.jK (.cX a 0 W.cells.length):V),(rt e.gs e.jK (.cX b 0 e.cells.length):V),(rt m.gs m.jK (.cX c 0 m.cells.length):V),(rt l.gs l.jK (.cX d 0 l.cells.length):V)]:=rfl
def Po(a b c d:Nat)(C K S x:gc):dn (mF a b c d) [C,K,S,x]=[dY (mF a b c d) 0 C,dY (mF a b c d) 1 K,dY (mF a b c d) 2 S,dY (mF a b c d) 3 x]:=rfl
def k9{P:Nat->Prop}(h:P a/\P b/\P c/\P d)(i:Nat)(j:i<4):P (mF a b c d i):=by
 have:i=0\/i=1\/i=2\/i=3:=ab
 rcases this with rfl|rfl|rfl|rfl
 .exact h.1
 .exact h.2.1
 .exact h.2.2.1
 .exact h.2.2.2
def UJ{P:Nat->Nat->Prop}(h:(P a a'/\P a b'/\P a c'/\P a d')/\(P b a'/\P b b'/\P b c'/\P b d')/\(P c a'/\P c b'/\P c c'/\P c d')/\(P d a'/\P d b'/\P d c'/\P d d'))(i j:Nat)(k:i<4)(q:j<4):P (mF a b c d i) (mF a' b' c' d' j):=
 k9 (P:=fun x=>P x (mF a' b' c' d' j)) ⟨k9 h.1 j q,k9 h.2.1 j q,k9 h.2.2.1 j q,k9 h.2.2.2 j q⟩ i k
def Mj(h:a≠b/\a≠c/\a≠d/\b≠c/\b≠d/\c≠d)(i j:Nat)(m:i<4)(q:j<4)(l:i≠j):mF a b c d i≠mF a b c d j:=by
 have k:i=0\/i=1\/i=2\/i=3:=ab
 have e:j=0\/j=1\/j=2\/j=3:=ab
 rcases k with rfl|rfl|rfl|rfl<;>rcases e with rfl|rfl|rfl|rfl<;>simp only[mF]<;>simp<;>omega
structure MG (m:aD) (v:V) (h:bI) (C L i0 i1 i2 i3:Nat):Prop where
 val:v= .agg [.cX C 0 512,.cX L 0 4]
 cells:h C=some ⟨2,m.cells.map ac.e,false⟩
 ge:h L=some ⟨3,gh (mF i0 i1 i2 i3) m.ge,true⟩
 line: ∀i (g:i<m.ge.length),h (mF i0 i1 i2 i3 i)=some ⟨2,(m.ge[i]).cells.map ac.e,false⟩
def qo.four{m:aD}(h:qo m):m.cells.length=512/\ ∃W f n l,m.ge=[W,f,n,l]/\W.cells.length<=1000000000/\f.cells.length<=1000000000/\n.cells.length<=1000000000/\l.cells.length<=1000000000:=by
 obtain⟨W,f,n,l,e⟩:=JK h.mem.ge;have hx: ∀i (g:i<m.ge.length),(m.ge[i]).cells.length<=1000000000:=fun i g=>by
  have:=h.mem.line i g;by_cases e:(m.ge[i]).gs= -1
  .rw[(this.none e).2];simp
  .rw[(this.some e).2.2.2];omega
 rw[e]at hx;have h0:=hx 0 ai;have h1:=hx 1 ai;have K:=hx 2 ai;have S:=hx 3 ai;exact⟨h.mem.len,W,f,n,l,e,h0,h1,K,S⟩
def cJ.four{p:g9}{c:Int}(h:cJ p c m): ∃C K S x,m.ce=[C,K,S,x]/\C.bK.length=8/\K.bK.length=8/\S.bK.length=8/\x.bK.length=8:=by
 obtain⟨C,K,S,x,e⟩:=JK h.len;have hx:=h.lq;rw[e]at hx;exact⟨C,K,S,x,e,(hx 0 ai).bK,(hx 1 ai).bK,(hx 2 ai).bK,(hx 3 ai).bK⟩
@[simp]def VM(d:List ac)(c:List cP)(k:Nat)(M:qo (aD.mk d c)): ∃v h' k',df X 179 [s_ d c] mg k=some (v,h',k')/\k'=k+91/\MG (aD.mk d c) v h' (k+4) (k+83) (k+19) (k+38) (k+57) (k+76):=by
 obtain⟨n,W,f,m,l,e,h0,h1,N,S⟩:=M.four;simp only at n e;subst e;clear M;obtain⟨v,h',k',e,g⟩:=bJ (X:=X) (g:=179) (args:=[(s_ d ([W,f,m,l]:List cP):V)]) (h:=mg) (k:=k) (K:=fun v h k'=>v= .agg [.cX (k+4) 0 512,.cX (k+83) 0 4]/\k'=k+91/\h (k+4)=some ⟨2,d.map ac.e,false⟩/\h (k+83)=some ⟨3,[rt W.gs W.jK (.cX (k+19) 0 W.cells.length),rt f.gs f.jK (.cX (k+38) 0 f.cells.length),rt m.gs m.jK (.cX (k+57) 0 m.cells.length),rt l.gs l.jK (.cX (k+76) 0 l.cells.length)],true⟩/\h (k+19)=some ⟨2,W.cells.map ac.e,false⟩/\h (k+38)=some ⟨2,f.cells.map ac.e,false⟩/\h (k+57)=some ⟨2,m.cells.map ac.e,false⟩/\h (k+76)=some ⟨2,l.cells.map ac.e,false⟩) Tryz.func179 rfl rfl (by
  simp[eJ,X6,n];all_goals ((repeat' (first|apply And.intro|intro _))<;>first|omega|rfl))
 obtain⟨w,D,L,T,b,o,r,z⟩:=g;refine⟨v,h',k',e,D,w,L,by rw[Iz];exact T,fun i j=> ?_⟩;have:i=0\/i=1\/i=2\/i=3:=by simp at j;omega
 rcases this with rfl|rfl|rfl|rfl
 .exact b
 .exact o
 .exact r
 .exact z
@[simp]def VL(d:List ac)(c:List cP)(k:Nat)(M:qo (aD.mk d c)): ∃v h' k',df X 151 [s_ d c] mg k=some (v,h',k')/\k'=k+96/\MG (aD.mk d c) v h' (k+11) (k+12) (k+33) (k+52) (k+71) (k+90):=by
 obtain⟨n,W,f,m,l,e,h0,h1,N,S⟩:=M.four;simp only at n e;subst e;clear M;obtain⟨v,h',k',e,g⟩:=bJ (X:=X) (g:=151) (args:=[(s_ d ([W,f,m,l]:List cP):V)]) (h:=mg) (k:=k) (K:=fun v h k'=>v= .agg [.cX (k+11) 0 512,.cX (k+12) 0 4]/\k'=k+96/\h (k+11)=some ⟨2,d.map ac.e,false⟩/\h (k+12)=some ⟨3,[rt W.gs W.jK (.cX (k+33) 0 W.cells.length),rt f.gs f.jK (.cX (k+52) 0 f.cells.length),rt m.gs m.jK (.cX (k+71) 0 m.cells.length),rt l.gs l.jK (.cX (k+90) 0 l.cells.length)],true⟩/\h (k+33)=some ⟨2,W.cells.map ac.e,false⟩/\h (k+52)=some ⟨2,f.cells.map ac.e,false⟩/\h (k+71)=some ⟨2,m.cells.map ac.e,false⟩/\h (k+90)=some ⟨2,l.cells.map ac.e,false⟩) Tryz.func151 rfl rfl (by
  simp[eJ,X6,n];all_goals ((repeat' (first|apply And.intro|intro _))<;>first|omega|rfl))
 obtain⟨w,D,L,T,b,o,r,z⟩:=g;refine⟨v,h',k',e,D,w,L,by rw[Iz];exact T,fun i j=> ?_⟩;have:i=0\/i=1\/i=2\/i=3:=by simp at j;omega
 rcases this with rfl|rfl|rfl|rfl
 .exact b
 .exact o
 .exact r
 .exact z
@[simp]def A3(a:List Int)(D:Int)(d:List ac)(F:List cP)(Z:List gc)(k:Nat)(p:g9)(c:Int)(H:cJ p c (w_ a D d F Z)): ∃v h' k',df X 103 [ol a D d F Z] mg k=some (v,h',k')/\k'=k+190/\v=iF (.cX (k+5) 0 a.length) (k+20) (k+99) (k+182) (w_ a D d F Z)/\gA h' k' (.cX (k+5) 0 a.length) (k+20) (k+99) (k+182) (mF (k+35) (k+54) (k+73) (k+92)) (mF (k+118) (k+137) (k+156) (k+175)) (w_ a D d F Z)/\nH k (.cX (k+5) 0 a.length) (k+20) (k+99) (k+182) (mF (k+35) (k+54) (k+73) (k+92)) (mF (k+118) (k+137) (k+156) (k+175)):=by
 have M:qo ⟨d,F⟩:=H.mem;obtain⟨C,L,S,b,e,N,U,f,z⟩:=H.four;simp only at e;subst e;have Y:a.length<=1000000000:=H.lens.aK;obtain⟨h1,m,hx,em,W,J⟩:=VM d F (k+16) M;have Q:=J.val;simp only[X6,Nat.reduceAdd]at em W J Q;subst W;subst Q;obtain⟨v,h',k',e,g⟩:=bJ (X:=X) (g:=103) (args:=[(ol a D d F ([C,L,S,b]:List gc):V)]) (h:=mg) (k:=k) (K:=fun v h k'=>v= (rB (.cX (k+5) 0 a.length) D (.cX (k+20) 0 512) (.cX (k+99) 0 4) (.cX (k+182) 0 4):V)/\k'=k+190/\h (k+5)=some ⟨1,a.map (V.int .i64),false⟩/\h (k+20)=m (k+20)/\h (k+99)=m (k+99)/\h (k+35)=m (k+35)/\h (k+54)=m (k+54)/\h (k+73)=m (k+73)/\h (k+92)=m (k+92)/\h (k+182)=some ⟨8,[ro C.im (.cX (k+118) 0 C.bK.length) C.pc C.ia C.db C.iw C.dD C.hw,ro L.im (.cX (k+137) 0 L.bK.length) L.pc L.ia L.db L.iw L.dD L.hw,ro S.im (.cX (k+156) 0 S.bK.length) S.pc S.ia S.db S.iw S.dD S.hw,ro b.im (.cX (k+175) 0 b.bK.length) b.pc b.ia b.db b.iw b.dD b.hw],true⟩/\h (k+118)=some ⟨2,C.bK.map ac.e,false⟩/\h (k+137)=some ⟨2,L.bK.map ac.e,false⟩/\h (k+156)=some ⟨2,S.bK.map ac.e,false⟩/\h (k+175)=some ⟨2,b.bK.map ac.e,false⟩) Tryz.func103 rfl rfl (by
  simp[eJ,X6,em,N,U,f,z];all_goals ((repeat' (first|apply And.intro|intro _))<;>first|omega|rfl))
 obtain⟨R,O,I,G,E,i0,i1,i2,i3,T,t0,w,r,t⟩:=g;subst O;refine⟨v,h',_,e,rfl,by rw[R];rfl,?_,⟨⟨ab,ab,ab⟩,fun j q=>⟨k9 (P:=fun x=>k<=x) ab j q,k9 (P:=fun x=>k<=x) ab j q⟩,fun B s n A=> ?_⟩⟩
 .refine⟨M.mem,⟨by rw[G];exact J.cells,by rw[E];exact J.ge,fun i l=> ?_⟩,⟨ab,fun i l=>k9 (P:=fun x=>x≠k+20) ab i l,fun i l=>k9 (P:=fun x=>x≠k+99) ab i l,fun i j l q u=>Mj ab i j l q u⟩,
   ⟨ab,ab,fun i l=>k9 (P:=fun x=>x<k+190) ab i l⟩,?_,by rw[Po];simp only[dY];exact T,fun i l=> ?_,rfl,⟨ab,ab,ab⟩,fun i l=>k9 (P:=fun x=>x≠k+182) ab i l,
   fun i l=>k9 (P:=fun x=>x≠k+20/\x≠k+99/\x≠k+182/\x<k+190) ab i l,fun i j l q=>ls (UJ (P:=fun x y=>x≠y) ab i j l q),fun i j l q u=>Mj ab i j l q u⟩
  .have h2:i<4:=fb
   have o:=J.line i l;have:i=0\/i=1\/i=2\/i=3:=ab
   rcases this with rfl|rfl|rfl|rfl
   .rw[<-o];exact i0
   .rw[<-o];exact i1
   .rw[<-o];exact i2
   .rw[<-o];exact i3
  .exact .inr ⟨k+5,rfl,I,⟨ab,ab,ab,ab⟩,fun j q=>k9 (P:=fun x=>x≠k+5) ab j q,fun j q=>k9 (P:=fun x=>x≠k+5) ab j q⟩
  .have:i=0\/i=1\/i=2\/i=3:=by simp at l;omega
   rcases this with rfl|rfl|rfl|rfl
   .exact t0
   .exact w
   .exact r
   .exact t
 .cases A;omega
@[simp]def tW(Z:List Int)(D:Int)(d:List ac)(F:List cP)(b:List gc)(k:Nat)(p:g9)(c:Int)(H:cJ p c (w_ Z D d F b)): ∃v h' k',df X 73 [ol Z D d F b] mg k=some (v,h',k')/\k'=k+194/\v=iF (.sl false (Z.map (V.int .i64))) (k+22) (k+23) (k+186) (w_ Z D d F b)/\gA h' k' (.sl false (Z.map (V.int .i64))) (k+22) (k+23) (k+186) (mF (k+44) (k+63) (k+82) (k+101)) (mF (k+121) (k+141) (k+161) (k+181)) (w_ Z D d F b)/\nH k (.sl false (Z.map (V.int .i64))) (k+22) (k+23) (k+186) (mF (k+44) (k+63) (k+82) (k+101)) (mF (k+121) (k+141) (k+161) (k+181)):=by
 have M:qo ⟨d,F⟩:=H.mem;obtain⟨C,L,S,a,e,N,U,f,A⟩:=H.four;simp only at e;subst e;have w:Z.length<=1000000000:=H.lens.aK;obtain⟨Y,m,h1,em,W,J⟩:=VL d F (k+11) M;have Q:=J.val;simp only[X6,Nat.reduceAdd]at em W J Q;subst W;subst Q;obtain⟨v,h',k',e,g⟩:=bJ (X:=X) (g:=73) (args:=[(ol Z D d F ([C,L,S,a]:List gc):V)]) (h:=mg) (k:=k) (K:=fun v h k'=>v= .agg [Z,.int .u16 D,.cX (k+22) 0 512,.cX (k+23) 0 4,.cX (k+186) 0 4]/\k'=k+194/\h (k+22)=m (k+22)/\h (k+23)=m (k+23)/\h (k+44)=m (k+44)/\h (k+63)=m (k+63)/\h (k+82)=m (k+82)/\h (k+101)=m (k+101)/\h (k+186)=some ⟨8,[ro C.im (.cX (k+121) 0 C.bK.length) C.pc C.ia C.db C.iw C.dD C.hw,ro L.im (.cX (k+141) 0 L.bK.length) L.pc L.ia L.db L.iw L.dD L.hw,ro S.im (.cX (k+161) 0 S.bK.length) S.pc S.ia S.db S.iw S.dD S.hw,ro a.im (.cX (k+181) 0 a.bK.length) a.pc a.ia a.db a.iw a.dD a.hw],true⟩/\h (k+121)=some ⟨2,C.bK.map ac.e,false⟩/\h (k+141)=some ⟨2,L.bK.map ac.e,false⟩/\h (k+161)=some ⟨2,S.bK.map ac.e,false⟩/\h (k+181)=some ⟨2,a.bK.map ac.e,false⟩) Tryz.func73 rfl rfl (by
  simp[eJ,X6,w,em,N,U,f,A];all_goals ((repeat' (first|apply And.intro|intro _))<;>first|omega|rfl))
 obtain⟨R,O,I,G,i0,i1,i2,i3,T,t0,z,r,t⟩:=g;subst O;refine⟨v,h',_,e,rfl,by rw[R];rfl,?_,⟨⟨ab,ab,ab⟩,fun j q=>⟨k9 (P:=fun x=>k<=x) ab j q,k9 (P:=fun x=>k<=x) ab j q⟩,fun B s n E=> ?_⟩⟩
 .refine⟨M.mem,⟨by rw[I];exact J.cells,by rw[G];exact J.ge,fun i l=> ?_⟩,⟨ab,fun i l=>k9 (P:=fun x=>x≠k+22) ab i l,fun i l=>k9 (P:=fun x=>x≠k+23) ab i l,fun i j l q u=>Mj ab i j l q u⟩,
   ⟨ab,ab,fun i l=>k9 (P:=fun x=>x<k+194) ab i l⟩,?_,by rw[Po];simp only[dY];exact T,fun i l=> ?_,rfl,⟨ab,ab,ab⟩,fun i l=>k9 (P:=fun x=>x≠k+186) ab i l,
   fun i l=>k9 (P:=fun x=>x≠k+22/\x≠k+23/\x≠k+186/\x<k+194) ab i l,fun i j l q=>ls (UJ (P:=fun x y=>x≠y) ab i j l q),fun i j l q u=>Mj ab i j l q u⟩
  .have hx:i<4:=fb
   have o:=J.line i l;have:i=0\/i=1\/i=2\/i=3:=ab
   rcases this with rfl|rfl|rfl|rfl
   .rw[<-o];exact i0
   .rw[<-o];exact i1
   .rw[<-o];exact i2
   .rw[<-o];exact i3
  .exact .inl rfl
  .have:i=0\/i=1\/i=2\/i=3:=by simp at l;omega
   rcases this with rfl|rfl|rfl|rfl
   .exact t0
   .exact z
   .exact r
   .exact t
 .cases E
def eQ:aN:=⟨⟨[],0⟩,⟨[],[]⟩,[]⟩
def C9(r:aN)(s e:Int)(v:V)(h:bI)(k:Nat):Prop:= ∃vB C L T ids bH P,v= .ed [iF vB C L T r,.int .i64 s,.int .i64 e]/\gA h P vB C L T ids bH r
def C9.eA{r:aN}{s e:Int}{v:V}{h:bI}{k:Nat}(H:C9 r s e v h k):(da h depth v).map V.l6=some (.ed [.agg (kW r),.int .i64 s,.int .i64 e]):=by
 obtain⟨vB,C,L,T,ids,bH,P,rfl,A⟩:=H;have:=A.eA 5;simp only[depth];simp[da,di,this,V.l6,ft,yH]
def C9.cG{g:FuncId}{args:List V}{r:aN}{s e:Int}(H: ∃v h k,df X g args mg 0=some (v,h,k)/\C9 r s e v h k):cG X g args=some (.ed [.agg (kW r),s,e]):=by
 obtain⟨v,h,k,i,C⟩:=H;have p:qK X (df X) g args=some (v,h,k):=i;unfold Go.Abs.cG;rw[p];exact C.eA
def Cf(a:Nat)(h1 h:bI):Prop:= ∀i,a<=i->h i=h1 i
def qS{v:Option Ob}(q:j<a):Cf a h1 (bB h j v)=Cf a h1 h:=by
 apply propext;constructor<;>intro g i k
 .have:=g i k;rwa[bB,if_neg ab]at this
 .rw[bB,if_neg ab];exact g i k
def wj(a:Nat)(h0 h1:bI):Cf a h1 (fun id=>if id<a then h0 id else h1 id)=True:=eq_true fun i h=>aA
def Pp{vB:V}(f:H b=some ⟨5,[iF vB C L T m],true⟩)(U:b<a)(h:b<K)(D:k<=K)(A:gA h1 k vB C L T ids bH m)(S:nH a vB C L T ids bH)(O:Cf a h1 H):dQ H K b vB C L T ids bH m:=by
 have Y:gA H K vB C L T ids bH m:=A.mono S D fun i l _=>O i l;obtain⟨⟨a1,a2,a3⟩,I,o⟩:=S;exact Y.box (fun _=>⟨fun B s n e=>by have:=o _ _ _ e;omega,ab,ab,ab,fun j q=>by have:=I j q;omega⟩) h (iX _) f fun _ _ _=>rfl
end Go.Proofs.YtdngefmliibcgaaGreat
