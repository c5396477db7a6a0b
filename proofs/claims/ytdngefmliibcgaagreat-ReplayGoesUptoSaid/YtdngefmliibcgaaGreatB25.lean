import Derived.Test.YtdngefmliibcgaaGreatB24
set_option linter.all false
set_option maxRecDepth 20000
set_option maxHeartbeats 0
namespace Go.Proofs.YtdngefmliibcgaaGreat
open Go Go.Abs Go.Abs.jJ Qf
variable  {d:Int}{p:g9}{m:aN}{n i k k':Nat}{r:aN×Bool}{es:List h_}{h h':bI}
def N'{f:FuncId}{S:St}{Q:Ex->St->Prop}{a0 a1 a2 a3 a4 a5 d:Code}(M:St->Prop)(h1: ∀S,M S->Wp X f d S Q)(h: ∀b:Code,(∀S,M S->Wp X f b S Q)->Wp X f (a0.seq (a1.seq (a2.seq (a3.seq (a4.seq (a5.seq b)))))) S Q):Wp X f (a0.seq (a1.seq (a2.seq (a3.seq (a4.seq (a5.seq d)))))) S Q:=h d h1
def YQ(W:n<m.ce.length){c:ac}{r:io}{x:eI}(U:(bO m n).im=2)(Y: -1<=x.lw)(V:x.lw<m.ce.length):
  rW p m n c r x=(M5 p m n r x).map fun ts=>ie ⟨m.am,m.gt,ts⟩ m.gt n (jY (bO ⟨m.am,m.gt,ts⟩ n) c):=by
 have hx:=eL W;unfold rW M5;by_cases B:r.call=12
 .rw[if_pos B,if_pos B];by_cases h:(jk r 0).gs=0/\(jk r 0).val<=255
  .rw[if_pos h,if_pos h];have e:bO ⟨m.am,m.gt,m.ce.set n (Qu (bO m n) (jk r 0).val)⟩ n=Qu (bO m n) (jk r 0).val:=by
    rw[eL gl];simp
   simp only[ue,e];unfold ie;simp only[u0];rfl
  .rw[if_neg h,if_neg h];rfl
 rw[if_neg B,if_neg B];by_cases v:r.call=10/\0<=x.lw
 case neg=>
  have q: ¬(r.call=10/\ ¬x.lw= -1):=fun h=>v ⟨h.1,by have:=h.2;omega⟩;rw[if_neg v,if_neg q];simp only[ue]
 have q:r.call=10/\ ¬x.lw= -1:=⟨v.1,by have:=v.2;omega⟩;rw[if_pos v,if_pos q];by_cases h:(raw m.am.aK m.am.key p.ax (jk r 1)).2=0/\(bO m x.lw.toNat).im=0/\(jk r 0).val<=255/\(jk r 0).gs=0
 case neg=>
  have K: ¬((jk r 0).gs=0/\(jk r 0).val<=255/\(raw m.am.aK m.am.key p.ax (jk r 1)).2=0/\(bO m x.lw.toNat).im=0):=fun g=>h ⟨g.2.2.1,g.2.2.2,g.2.1,g.1⟩;rw[if_neg h,if_neg K];rfl
 have K:(jk r 0).gs=0/\(jk r 0).val<=255/\(raw m.am.aK m.am.key p.ax (jk r 1)).2=0/\(bO m x.lw.toNat).im=0:=⟨h.2.2.2,h.2.2.1,h.1,h.2.1⟩;rw[if_pos h,if_pos K];have G: ¬x.lw.toNat=n:=fun e=>by rw[e,U]at h;cases h.2.1
 have e:bO ⟨m.am,m.gt,m.ce.set x.lw.toNat (vE (jk r 0).val (raw m.am.aK m.am.key p.ax (jk r 1)).1)⟩ n=bO m n:=by
  rw[eL gl,hx];simp[vI G]
 simp only[ue,e];rfl
def YP{c:fd}(h:lZ c=true):0<=c.iC/\c.iC<=65535:=by
 unfold lZ at h;split at h
 .simp only[X8,decide_eq_true_eq]at h;omega
 .split at h
  .split at h<;>(simp only[X8,decide_eq_true_eq]at h;omega)
  .cases h
@[simp]def DB(u:List hu)(q:List Int)(t:List (List Int))(f:List Int)(k:Int)(l:List ac)(F:List cP)(Z:List gc)(kk C v A M z:Int)(p Y:List fd)(o y H J:Int)(W:List fd)(U:Int)(dy:Bool)(d:Int)(HG:cJ (wn u q t) d (w_ f k l F Z))(hd:d<=1099511627776)(xk:p.length<=1000)(FM:Y.length<=1000)(gK:fg p)(hx:qs (wl o y H J W U dy)):cG X 75 [iB u q t,ol f k l F Z,i7 kk C v A M z p Y,lc o y H J W U dy]=some (.ed [rJ ((jN (wn u q t) (w_ f k l F Z) (v_ kk C v A M z p Y) (wl o y H J W U dy)).1),.bool ((jN (wn u q t) (w_ f k l F Z) (v_ kk C v A M z p Y) (wl o y H J W U dy)).2)]):=by
 have g3:=HG.mono hd;have hv:fO (wn u q t) (w_ f k l F Z)=true:=g3.ok;have hp:=HG.prog.lens;have o5:=HG.lens;have hL:=HG.lay;have K:Z.length=4:=HG.len;have btr:W.length<=64:=hx.len;have O:=qU u q t f k l F Z kk C v A M z p Y o y H J W U dy d HG hd ab ab ab;obtain⟨v1,h1,k1,bP,dN,ev,R,hh⟩:=tW f k l F Z 16 (wn u q t) _ g3;subst dN;subst ev;simp only[Nat.reduceAdd]at bP R hh;by_cases lu:qv (wn u q t) (w_ f k l F Z) (v_ kk C v A M z p Y) (wl o y H J W U dy)
 case neg=>
  rw[oX lu];rw[decide_eq_false lu]at O;refine Ka.cG (ip ?_);simp[-qU,O,bP,fI,gM];refine⟨_,38,39,202,_,_,_,?_,R.mono hh (iX _) fun i a b=> ?_⟩
  .unfold iF;rw[show(aN.ce (w_ f k l F Z)).length=4 from K]
  .have T: ¬i<16:=ab
   have D: ¬i=4:=ab
   simp[bB,T,D]
 rw[decide_eq_true lu]at O;obtain⟨_,Gj,ku,u2,nh,hs⟩:=id lu;obtain⟨⟨bT,f3⟩,_,_,_,_,⟨iS,mW⟩,cB,_,_,_⟩:=pj.1 Gj;simp only at ku u2 hs cB bT f3 iS mW;obtain⟨n,rfl⟩:=jp bT;have Q:n<4:=ab
 have a':(n:Int)<4:=ab
 have n0:n<Z.length:=ab
 have gI:bO (w_ f k l F Z) n=Z[n]:=eL n0;rw[X7]at hs;have q2:p.length=(dc z).length:=by
  unfold rL at u2;rw[if_neg ab]at u2;omega
 have ay:=(g3.lq n n0).bK;simp only at ay;have bL:=R.lq;have gX:=R.Ad n n0;simp only at bL gX;have cD:=eX (mF 137 157 177 197) Z;rw[K]at cD;have m':=eU (ids:=mF 137 157 177 197) n0;have a1:=(hh.2.1 n Q).2;have a2:=R.mL n Q;have G: ∀i,i<4-> ¬i=n->16<=mF 137 157 177 197 i/\mF 137 157 177 197 i<210/\mF 137 157 177 197 i≠202:=fun i L _=>⟨(hh.2.1 i L).2,(R.mL i L).2.2.2,(R.mL i L).2.2.1⟩;obtain⟨I,hI⟩:=x_ (mF 137 157 177 197 n);rw[hI]at gX a1 a2;simp only[hI]at m';have b1: ∀j,j<16->(I=j)=False:=fun j _=>aA
 have b0': ∀j,j<16->(j=I)=False:=fun j _=>aA
 have b2:(I=202)=False:=by simp;exact a2.2.2.1
 have q1:(202=I)=False:=gn
 have e4: ¬I<16:=ab
 have b4:I<232:=ab
 by_cases hy:z=0
 .subst hy;have ha:0<p.length:=by rw[q2];decide
  obtain⟨⟨at_,av,ar,ao⟩,n2⟩: ∃c,p[0]=c:=⟨_,rfl⟩;have xM:yN ⟨at_,av,ar,ao⟩:=n2▸gK _ (rx ha);have tk:List.take 8 ((Z[n]).bK.map ac.e)=(Z[n]).bK.map ac.e:=bQ (by simp[ay]);obtain⟨hE,mS,aW⟩:=T1 (Z[n]).im (Z[n]).bK (Z[n]).pc (Z[n]).ia (Z[n]).db (Z[n]).iw (Z[n]).dD (Z[n]).hw 0 av 232 ay;simp only[Nat.reduceAdd]at mS aW;have jw:jN (wn u q t) (w_ f k l F Z) ⟨n,C,v,A,M,0,p,Y⟩ (wl o y H J W U dy)=(⟨⟨f,k⟩,⟨l,F⟩,Z.set n (xJ Z[n] av)⟩,true):=by
   unfold jN;rw[if_pos lu,if_pos rfl];simp only[X7,gI,jk,List.getD,rk ha,n2,tj]
  rw[jw];refine Ka.cG (ip ?_);simp[-qU,O,bP,fI,gM,Q,a',K,bL,gX,cD,m',ay,b1 14 ab,e4,ha,n2,mS,tk,Ms,Gf,Gg,vA,yp];refine⟨_,38,39,202,_,(fun i=>if i=n then 245 else mF 137 157 177 197 i),300,?_,gA.ce (a:=16) (UR:=Z.set n (xJ Z[n] av)) R hh ab (by simp[K]) ?_ ?_ ?_ ?_ ?_⟩
  .unfold iF;simp[K]
  .rw[sK (bH:=mF 137 157 177 197) n0 (fun j r=>if_neg r)];simp[bB,dY,xJ,ay]
  .intro i L;simp only[rm]at L;simp only[r6];by_cases P:n=i
   .subst P;have l2:j6 (hE 245)=some ⟨2,(Z[n]).bK.map ac.e,false⟩:=by
     rw[aW];unfold j6;simp only[Ai,if_true]
    simp[bB,l2,xJ]
   .have nr: ¬i=n:=fun e=>P e.symm;obtain⟨o1,o2,o3⟩:=G i ab nr;have aZ:=R.Ad i L;simp only at aZ;have T: ¬mF 137 157 177 197 i=4:=ab
    have c2:mF 137 157 177 197 i<232:=ab
    have D: ¬mF 137 157 177 197 i=14:=ab
    have c4: ¬mF 137 157 177 197 i<16:=ab
    simp only[P,nr,if_false];simp only[bB,T,c2,D,c4,o3,if_false,if_true];exact aZ
  .intro i L;by_cases P:i=n
   .right;simp[P]
   .left;simp[P]
  .intro i j L r lM;by_cases P:i=n
   .have hz: ¬j=n:=fun e=>lM (P.trans e.symm);have:=G j r hz;simp only[P,hz,if_true,if_false];omega
   .by_cases hz:j=n
    .have:=G i L P;simp only[P,hz,if_true,if_false];omega
    .simp only[P,hz,if_false];exact R.BG i j L r lM
  .intro i HM FY fG mi;have T: ¬i=4:=ab
   have c2:i<232:=ab
   have D: ¬i=14:=ab
   have c4: ¬i<16:=ab
   simp only[bB,T,c2,D,c4,fG,if_false,if_true]
 cases dy with
 |true=>
  have jw:jN (wn u q t) (w_ f k l F Z) ⟨n,C,v,A,M,z,p,Y⟩ ⟨⟨o,y,H,J⟩,W,U,true⟩=(ie (w_ f k l F Z) (aN.gt (w_ f k l F Z)) n (sI Z[n]),true):=by
   unfold jN;rw[if_pos lu,if_neg hy,if_pos rfl];simp only[X7,gI]
  rw[jw];refine Ka.cG (ip ?_);simp[-qU,O,bP,fI,gM,Q,a',K,hy,bL,cD,m',ay];refine⟨_,38,39,202,_,_,300,?_,R.put hh ab Q (x:=sI Z[n]) ?_ ?_ ?_⟩
  .unfold iF ie;simp[K]
  .rw[<-gq n0];simp[bB,dY,sI,ay,hI]
  .rw[hI];simp[bB,b2,e4,b1 4 ab,b1 14 ab,sI,gX]
  .intro i HM FY fG mi;have T: ¬i<16:=ab
   have c2: ¬i=4:=ab
   have D: ¬i=14:=ab
   simp[bB,T,c2,D,fG]
 |false=>
 have JZ: ∀i (h:i<p.length),0<=(p[i]).iC/\(p[i]).iC<=65535:=fun i h=>YP (List.all_eq_true.1 cB _ (rx h));have BC:jN (wn u q t) (w_ f k l F Z) ⟨(n:Int),C,v,A,M,z,p,Y⟩ ⟨⟨o,y,H,J⟩,W,U,false⟩=My (w_ f k l F Z) (tI (wn u q t) (w_ f k l F Z) n ⟨(n:Int),C,v,A,M,z,p,Y⟩ ⟨⟨o,y,H,J⟩,W,U,false⟩):=by
  unfold jN;rw[if_pos lu,if_neg hy,if_neg ai];simp only[X7]
 obtain⟨g,cF⟩:=x_ (tI (wn u q t) (w_ f k l F Z) n ⟨(n:Int),C,v,A,M,z,p,Y⟩ ⟨⟨o,y,H,J⟩,W,U,false⟩);rw[cF]at BC;rw[BC];have hc:=mu (aK:=f) (key:=k) (ax:=q) hx.iW;obtain⟨⟨ct,hS⟩,w,b'⟩: ∃c w,raw f k q ⟨o,y,H,J⟩=(c,w):=⟨_,_,rfl⟩;simp only[b']at hc;obtain⟨ids,bH,uC⟩: ∃ids bH,gA h1 210 (.sl false (f.map (V.int .i64))) 38 39 202 ids bH (w_ f k l F Z)/\nH 16 (.sl false (f.map (V.int .i64))) 38 39 202 ids bH/\bH n=I:=⟨_,_,R,hh,hI⟩;obtain⟨S',ht,mH⟩:=uC;refine Ka.cG (ip ?_);refine N' (fun S=>(S.f 4= .ptr 0 0 0/\S.f 5= .ptr 1 0 0/\S.f 6= .ptr 2 0 0/\S.f 7= .ptr 3 0 0/\S.f 8= .ptr 4 0 0/\S.f 10= .ptr 14 0 0/\S.f 11= .ptr 202 n 0/\S.f 12= .ptr 233 0 0/\S.f 13= .int .i64 w)/\
  (S.h 0=some ⟨3,[iB u q t],true⟩/\S.h 1=some ⟨5,[.agg (kW (w_ f k l F Z))],true⟩/\S.h 2=some ⟨8,[i7 (n:Int) C v A M z p Y],true⟩/\
   S.h 3=some ⟨7,[lc o y H J W U false],true⟩/\S.h 4=some ⟨5,[rB (.sl true []) 0 (.sl true []) (.sl true []) (.sl true [])],true⟩/\S.h 233=some ⟨2,[pi ct hS],true⟩)/\
  dQ S.h S.n 14 (.sl false (f.map (V.int .i64))) 38 39 202 ids bH (w_ f k l F Z)/\S.n=236) ?_ ?_
 case refine_2=>
  intro bb Hb;simp[-qU,O,bP,fI,gM,a',K,hy,bL,hL,b'];refine Hb _ ⟨?_,?_,?_,?_⟩
  .simp[bB]
  .simp[bB,kW]
  .refine Pp (a:=16) ?_ ab aB (iX _) (S'.mono ht aB fun i a b=> ?_) ht (fun _ _=>rfl)
   .simp[bB,iF,K]
   .have T: ¬i<16:=ab
    have c2: ¬i=14:=ab
    have D: ¬i=233:=ab
    simp[bB,T,c2,D]
  .simp only
 rintro⟨sf,bs,sn⟩ ⟨⟨f4,kz,t',w2,hR,hk,iO,n1,hr⟩,⟨bE,g4,hC,ih,fv,ρ⟩,aR,hn⟩;simp only at f4 kz t' w2 hR hk iO n1 hr bE g4 hC ih fv ρ aR hn;subst hn;have gU:w=0->g=(pf (wn u q t) (w_ f k l F Z) ⟨(n:Int),C,v,A,M,z,p,Y⟩ ⟨⟨o,y,H,J⟩,W,U,false⟩).bind fun mem=>rW (wn u q t) ⟨⟨f,k⟩,mem,Z⟩ n ⟨ct,hS⟩ ⟨(n:Int),C,v,A,M,z,p,Y⟩ ⟨⟨o,y,H,J⟩,W,U,false⟩:=fun e=>by
  rw[<-cF];unfold tI;rw[if_pos (by simp only[b',e])];simp only[b']
 have hT: ¬w=0->g=none:=fun e=>by
  rw[<-cF];unfold tI;exact if_neg fun h=>e (by simp only[b']at h;exact h)
 clear bP m' bL gX cD G;by_cases kg:w=0
 case neg=>
  obtain⟨v2,h2,k2,cQ,dN,ev,e1,hg⟩:=tW f k l F Z 256 (wn u q t) _ g3;subst dN;subst ev;simp only[Nat.reduceAdd]at cQ e1 hg;rw[hT kg];simp[kz,hR,hr,g4,fv,kg,kW,cQ,fI,gM];refine⟨_,278,279,442,_,_,_,?_,e1.mono hg (iX _) fun i a b=> ?_⟩
  .unfold iF My;simp[K]
  .have T: ¬i<256:=ab
   have D: ¬i=4:=ab
   simp[bB,T,D]
 have dF:=gU kg;clear gU hT;subst kg;have aM:dQ bs 252 14 (.sl false (f.map (V.int .i64))) 38 39 202 ids bH (w_ f k l F Z):=aR.mono ab fun _ _=>rfl;obtain⟨v2,h2,k2,e9,q1,aP,⟨ly2,ho,sY⟩,rfl,l9,l1,hq,e2,h6,sv,e0,h5⟩:=P0 u q t .bad (n:Int) C v A M z p Y o y H J W U false bs 252 14 38 39 202 ids bH (w_ f k l F Z) d aM HG ⟨iS,mW⟩ q2 JZ ab hx.ap;simp only at hq e2 h6;have pd:=hq.symm;have v':=e2.symm;clear hq e2;subst pd v';have g2: ∀j,j<4->ids j<210/\16<=ids j:=fun j r=>⟨S'.lt.2.2 j r,(ht.2.1 j r).1⟩;have hb: ∀j,j<4->bH j<210/\16<=bH j:=fun j r=>⟨(S'.mL j r).2.2.2,(ht.2.1 j r).2⟩;have kK: ∀i,i<14->h2 i=bs i:=fun i L=>h5 i ab ab ab fun j r=>by have:=g2 j r;omega
 have cZ:h2 233=bs 233:=h5 233 ab ab ab fun j r=>by have:=g2 j r;omega
 cases q1 with
 |false=>
  have g1:g=none:=by rw[dF,h6];rfl
  obtain⟨v3,h3,k3,cQ,dN,ev,e1,hg⟩:=tW f k l F Z (k2+4) (wn u q t) _ g3;subst dN;subst ev;simp only[X6,Nat.reduceAdd]at cQ e1 hg;rw[g1];simp[f4,kz,t',w2,hR,hk,hr,bE,g4,hC,ih,fv,kW,e9,kK,cQ,fI,gM,show 0<k2 from ab];refine⟨_,k2+26,k2+27,k2+190,_,_,_,?_,e1.mono hg (iX _) fun i a b=> ?_⟩
  .unfold iF My;simp[K]
  .have T: ¬i<k2+4:=ab
   have D: ¬i=4:=ab
   simp[bB,T,D]
 |true=>
 have cL:=(vQ.1 nh).2.2.2;simp only at cL;obtain⟨v3,h3,k3,r1,f2,mm,E,rfl,N,jz,ff,hk3,cz,cI⟩:=YR u q t .bad (n:Int) C v A M z p Y o y H J W U false h2 k2 14 38 39 202 aP bH ⟨⟨f,k⟩,ho,Z⟩ d n l9 l1 ⟨rfl,Q⟩ q2 gK cL;simp only at ff N jz;have hA: ∀i,i<14->h3 i=bs i:=fun i L=>by rw[cI i ab ab fun j r=>by have:=hb j r;omega,kK i L]
 have hM:h3 233=bs 233:=by rw[cI 233 ab ab fun j r=>by have:=hb j r;omega,cZ]
 have lJ:g=(M5 (wn u q t) ⟨⟨f,k⟩,ho,Z⟩ n ⟨(n:Int),C,v,A,M,z,p,Y⟩ ⟨⟨o,y,H,J⟩,W,U,false⟩).map fun ts=>ie ⟨⟨f,k⟩,ho,ts⟩ ho n (jY (bO ⟨⟨f,k⟩,ho,ts⟩ n) ⟨ct,hS⟩):=by
  rw[dF,h6];exact YQ (m:=⟨⟨f,k⟩,ho,Z⟩) n0 (by rw[show bO (⟨⟨f,k⟩,ho,Z⟩:aN) n=bO (w_ f k l F Z) n from rfl];exact hs) cL.1 (by simp only[K];omega)
 rw[ff]at lJ;cases f2 with
 |false=>
  have g1:g=none:=lJ;obtain⟨v4,h4,k4,cQ,dN,ev,e1,hg⟩:=tW f k l F Z (k3+4) (wn u q t) _ g3;subst dN;subst ev;simp only[X6,Nat.reduceAdd]at cQ e1 hg;rw[g1];simp[f4,kz,t',w2,hR,hk,hr,bE,g4,hC,ih,fv,kW,e9,r1,kK,hA,cQ,fI,gM,show 0<k3 from ab];refine⟨_,k3+26,k3+27,k3+190,_,_,_,?_,e1.mono hg (iX _) fun i a b=> ?_⟩
  .unfold iF My;simp[K]
  .have T: ¬i<k3+4:=ab
   have D: ¬i=4:=ab
   simp[bB,T,D]
 |true=>
 have PV:g=some (ie ⟨⟨f,k⟩,ho,E⟩ ho n (jY (bO ⟨⟨f,k⟩,ho,E⟩ n) ⟨ct,hS⟩)):=lJ;have m1:=N.len;simp only at m1;have he:n<E.length:=ab
 have ME:bO (⟨⟨f,k⟩,ho,E⟩:aN) n=E[n]:=eL he;have hB:=(jz.lq n he).bK;simp only at hB;have dz:=N.lq;have h8:=N.Ad n he;have hf:=N.uG;simp only at dz h8;unfold iF at hf;simp only[m1]at hf;have cm:=eX mm E;rw[m1]at cm;have w1:=eU (ids:=mm) he;obtain⟨d1,d2,d3,mQ,d5⟩:=N.mL n Q;have dlo:16<=mm n:=by rcases cz n Q with e|e;rw[e];exact(hb n Q).2;omega
 have aE: ¬mm n=233:=by rcases cz n Q with e|e;have:=hb n Q;omega;omega
 have dd: ∀j,j<16->(mm n=j)=False:=fun j _=>aA
 have e3: ∀j,j<16->(j=mm n)=False:=fun j _=>aA
 have lz: ¬202=mm n:=fun e=>mQ e.symm;have bt0: ¬233=mm n:=fun e=>aE e.symm;rw[PV,ME];simp[f4,t',w2,hR,hk,iO,n1,hr,bE,hC,ih,fv,ρ,e9,r1,kK,hA,hM,Q,hB,dz,h8,hf,cm,w1,lz,e3 4 ab,e3 14 ab,X6];have sU:nH 16 (.sl false (f.map (V.int .i64))) 38 39 202 aP mm:=by
  refine⟨⟨ab,ab,ab⟩,fun j r=>⟨?_,?_⟩,fun B s n e=>by cases e⟩
  .rcases e0 j r with e|e
   .have:=g2 j r;omega
   .omega
  .rcases cz j r with e|e
   .have:=hb j r;omega
   .omega
 refine⟨_,38,39,202,_,_,k3+20,?_,N.at.put sU ab Q (x:=jY E[n] ⟨ct,hS⟩) ?_ ?_ ?_⟩
 .unfold iF My ie;simp[m1]
 .rw[<-gq he,qB _ _ _ _ hB];simp[bB]
 .simp[bB,mQ,dd 4 ab,jY,ac.cN]
 .intro i HM FY fG mi;have c2: ¬i=4:=ab
  have D: ¬i=14:=ab
  simp[bB,c2,fG,mi]
structure xX (e:h_):Prop where
 a:e.il.args.length<=1000
 d:e.il.ap.length<=1000
 av:fg e.il.args
 dv:fg e.il.ap
 r:qs e.iL
def Eo.R{e:h_}(h:Eo e):xX e:=⟨by have:=h.a;omega,by have:=h.d;omega,h.av,h.dv,h.r⟩
@[simp]def Tv(Z:List Int)(k:Int)(h:List ac)(F:List cP)(a:List gc)(p:g9)(c:Int)(H:cJ p c (w_ Z k h F a)):cG X 73 [ol Z k h F a]=some ((rJ ((aN.mk (iy.mk Z k) (aD.mk h F) a)):V)):=by
 obtain⟨v,h',k',e,_,i,A,_⟩:=tW Z k h F a 0 p c H;have q:qK X (df X) 73 [ol Z k h F a]=some (v,h',k'):=e;have:=A.eA 6;unfold Go.Abs.cG;rw[q];simp only[depth,i];simp[this,V.l6,yH];rfl
@[simp]def jt(u:List hu)(A:List Int)(w:List (List Int))(Z:List Int)(k:Int)(f:List ac)(F:List cP)(a:List gc)(c b j E J H O l Y:Int)(U p:List fd)(S G R g:Int)(W:List fd)(P:Int)(V:Bool)(d:Int)(K:cJ (wn u A w) d (w_ Z k f F a))(hd:d+64<=1099511627776)(I:xX (wd c b j E J H O l Y U p S G R g W P V)):cG X 21 [iB u A w,ol Z k f F a,xb c b j E J H O l Y U p S G R g W P V]=some (.ed [rJ ((eH (wn u A w) (w_ Z k f F a) (wd c b j E J H O l Y U p S G R g W P V) (gS (wd c b j E J H O l Y U p S G R g W P V))).1),wk ((eH (wn u A w) (w_ Z k f F a) (wd c b j E J H O l Y U p S G R g W P V) (gS (wd c b j E J H O l Y U p S G R g W P V))).2.1),.bool ((eH (wn u A w) (w_ Z k f F a) (wd c b j E J H O l Y U p S G R g W P V) (gS (wd c b j E J H O l Y U p S G R g W P V))).2.2)]):=by
  refine ij ?_;have h1:U.length<=1000000000:=r4 I.a ab;have s:p.length<=1000000000:=r4 I.d ab;have r:W.length<=1000000000:=r4 I.r.len ab;have m:=ov c b j E J H O l Y U p S G R g W P V h1 s r;have L:d<=1099511627776:=ab
  have Q:fO (wn u A w) (w_ Z k f F a)=true:=(K.mono L).ok;have n:=K.prog.lens;have o:=K.lens;have hi:=Tv Z k f F a (wn u A w) d K;cases v:gS (wd c b j E J H O l Y U p S G R g W P V) with
  |false=>
    rw[v]at m;have e:eH (wn u A w) (w_ Z k f F a) (wd c b j E J H O l Y U p S G R g W P V) false=((aN.mk (iy.mk Z k) (aD.mk f F) a),ep,false):=if_neg fun h=>by cases h.1
    rw[e];unfold ep;simp[-ov, -Du,m,hi]
  |true=>
  rw[v]at m;have t:(0<=b/\b<4)/\(c=1->1<=j/\j<=64)/\(c=1\/c=2\/c=3\/c=4):=by
    unfold gS Bv at v;simp only[X8,decide_eq_true_eq]at v;refine⟨⟨v.1,v.2.1⟩,fun D=> ?_,?_⟩
    · rw[if_pos D]at v
      simp only[X8,decide_eq_true_eq]at v;exact⟨v.2.2.1,v.2.2.2.1⟩
    · by_cases k1:c=1
      .exact .inl k1
      by_cases k2:c=2
      .exact .inr (.inl k2)
      by_cases k3:c=3
      .exact .inr (.inr (.inl k3))
      by_cases M:c=4
      .exact .inr (.inr (.inr M))
      · have:=v.2.2
        rw[if_neg k1,if_neg k2,if_neg k3,if_neg M]at this;cases this
  obtain⟨t,i,D⟩:=t;have hx:eH (wn u A w) (w_ Z k f F a) (wd c b j E J H O l Y U p S G R g W P V) true=(if c=1 then((dP (wn u A w) (w_ Z k f F a) b j).1,(dP (wn u A w) (w_ Z k f F a) b j).2.1,true)
     else if c=2 then((jN (wn u A w) (w_ Z k f F a) ⟨E,J,H,O,l,Y,U,p⟩ ⟨⟨S,G,R,g⟩,W,P,V⟩).1,ep,(jN (wn u A w) (w_ Z k f F a) ⟨E,J,H,O,l,Y,U,p⟩ ⟨⟨S,G,R,g⟩,W,P,V⟩).2)
     else if c=3 then((jB (w_ Z k f F a) b).1,ep,(jB (w_ Z k f F a) b).2)
     else((jZ (wn u A w) (w_ Z k f F a) b ⟨⟨S,G,R,g⟩,W,P,V⟩).1,ep,(jZ (wn u A w) (w_ Z k f F a) b ⟨⟨S,G,R,g⟩,W,P,V⟩).2)):=if_pos ⟨rfl,Q⟩
  rw[hx];have N:xw (w_ Z k f F a):=K.R;rcases D with rfl|rfl|rfl|rfl
  · have T:=Vc u A w Z k f F a b j N Q t (i rfl)
    obtain⟨⟨C,q,z⟩,B⟩: ∃x,dP (wn u A w) (w_ Z k f F a) b j=x:=⟨_,rfl⟩;rw[B]at T;rw[if_pos rfl,B];simp[-ov, -Du, -Vc,m,Q,n,o,T]
  · have T:=DB u A w Z k f F a E J H O l Y U p S G R g W P V d K L I.a I.d I.av I.r
    rw[if_neg aG,if_pos rfl];obtain⟨⟨C,z⟩,B⟩: ∃y,jN (wn u A w) (w_ Z k f F a) ⟨E,J,H,O,l,Y,U,p⟩ ⟨⟨S,G,R,g⟩,W,P,V⟩=y:=⟨_,rfl⟩;rw[B]at T⊢;unfold ep;simp[-ov, -Du, -DB,m,Q,n,o,T]
  · have T:=xW Z k f F a b (wn u A w) d K t
    rw[if_neg aG,if_neg aG,if_pos rfl];obtain⟨⟨C,z⟩,B⟩: ∃y,jB (w_ Z k f F a) b=y:=⟨_,rfl⟩;rw[B]at T⊢;unfold ep;simp[-ov, -Du, -xW,m,Q,n,o,T]
  · have T:=BU u A w Z k f F a b S G R g W P V d K L t I.r
    rw[if_neg aG,if_neg aG,if_neg aG];obtain⟨⟨C,z⟩,B⟩: ∃y,jZ (wn u A w) (w_ Z k f F a) b ⟨⟨S,G,R,g⟩,W,P,V⟩=y:=⟨_,rfl⟩;rw[B]at T⊢;unfold ep;simp[-ov, -Du, -BU,m,Q,n,o,T]
def I8(p:g9)(m:aN)(e:h_):Bool:=(rX p m e).2.2&& (decide (¬e.kind=1)||decide ((rX p m e).2.1=e.il))
def lI(p:g9):List h_->Int->aN->aN×Int×Int
 | [],k,m=>(m,k,0)
 |x::es,k,m=>if I8 p m x=true then lI p es (k+1) (rX p m x).1 else(m,k,14)
def sP(p:g9)(es:List h_)(m:aN):Nat->aN
 |0=>m
 |i+1=>(rX p (sP p es m i) (es.getD i Vf)).1
def Qv(p:g9)(es:List h_)(m:aN):sP p es m 0=m:=rfl
def Qw(p:g9)(m:aN)(h:i<es.length):sP p es m (i+1)=(rX p (sP p es m i) es[i]).1:=by
 rw[sP];grind
def Lk(p:g9)(k:Int)(m:aN)(h:i<es.length):lI p (es.drop i) k m=if I8 p m es[i]=true then lI p (es.drop (i+1)) (k+1) (rX p m es[i]).1 else(m,k,14):=by
 rw[w6 h,lI]
@[simp]def w7(f:List hu)(y:List Int)(w:List (List Int))(g:List Int)(k:Int)(h:List ac)(H:List cP)(n:List gc)(c Q j E R F O u a:Int)(U V:List fd)(S G z A:Int)(W:List fd)(P:Int)(Z:Bool)(d:Int)(K:cJ (wn f y w) d (w_ g k h H n))(v:d+64<=1099511627776)(J:xX (wd c Q j E R F O u a U V S G z A W P Z)):cG X 86 [iB f y w,ol g k h H n,xb c Q j E R F O u a U V S G z A W P Z]=some (.ed [rJ ((rX (wn f y w) (w_ g k h H n) (wd c Q j E R F O u a U V S G z A W P Z)).1),.bool (I8 (wn f y w) (w_ g k h H n) (wd c Q j E R F O u a U V S G z A W P Z))]):=by
 refine ij ?_;have C:=jt f y w g k h H n c Q j E R F O u a U V S G z A W P Z d K v J;have I:=(qT K v (e:=(h_.mk c Q j (v_ E R F O u a U V) (wl S G z A W P Z))) J.av J.r).2;have p:I8 (wn f y w) (w_ g k h H n) (wd c Q j E R F O u a U V S G z A W P Z)=((rX (wn f y w) (w_ g k h H n) (wd c Q j E R F O u a U V S G z A W P Z)).2.2&& (decide (¬c=1)||decide ((rX (wn f y w) (w_ g k h H n) (wd c Q j E R F O u a U V S G z A W P Z)).2.1=⟨E,R,F,O,u,a,U,V⟩))):=rfl;rw[p];have T:eH (wn f y w) (w_ g k h H n) (wd c Q j E R F O u a U V S G z A W P Z) (gS (wd c Q j E R F O u a U V S G z A W P Z))=rX (wn f y w) (w_ g k h H n) (wd c Q j E R F O u a U V S G z A W P Z):=rfl;rw[T]at C I;obtain⟨⟨m,q,b⟩,D⟩: ∃x,rX (wn f y w) (w_ g k h H n) (wd c Q j E R F O u a U V S G z A W P Z)=x:=⟨_,rfl⟩;rw[D]at C I⊢;simp only at C I;have B:=cr q.cw q.j' q.dD q.ia q.pc q.call q.args q.ap E R F O u a U V (by have:=I.a;omega) (by have:=I.d;omega);rw[show io.mk q.cw q.j' q.dD q.ia q.pc q.call q.args q.ap=q from rfl]at B;cases b with
 |false=>simp[-cr, -jt,C]
 |true=>
  by_cases k1:c=1
  case neg=>simp[-cr, -jt,C,k1]
  subst k1;simp[-cr, -jt,C,B]
@[simp]def ir(u:List hu)(a:List Int)(w:List (List Int))(y:List Int)(I:Int)(iQ:List h_)(v:o9 (wn u a w))(D:BS (wn u a w))(L:fM y a)(k:0<=I/\I<=65535)(E: ∀i (h:i<iQ.length),xX iQ[i])(n:iQ.length<=1000000):cG X 28 [iB u a w,pp y I,.sl false (iQ.map h_.e)]=some (.ed [rJ ((lI (wn u a w) iQ 0 (dx (wn u a w) (iy.mk y I))).1),.int .i64 ((lI (wn u a w) iQ 0 (dx (wn u a w) (iy.mk y I))).2.1),.int .i64 ((lI (wn u a w) iQ 0 (dx (wn u a w) (iy.mk y I))).2.2)]):=by
 refine ij ?_;have t:=Ve u a w y I v L;have M:=l5 v D (l:=(iy.mk y I)) L k;obtain⟨d,J⟩:=x_ (dx (wn u a w) (iy.mk y I));rw[J]at t M⊢;simp[-Ve,t];refine dO (fun i S=>(S.f 2=iQ/\S.f 3= .ptr 3 0 0/\S.h 3=some ⟨3,[wa ((g9.mk u a w))],true⟩/\S.f 6= .ptr 6 0 0/\S.h 6=some ⟨5,[rJ eQ],true⟩/\S.f 9= .ptr 9 0 0/\S.h 9=some ⟨5,[rJ (sP (wn u a w) iQ d i)],true⟩/\S.f 25= .sl false ((iQ).map h_.e)/\S.f 26= .int .i64 ((iQ.length:Int))/\S.f 27= .int .i64 ((i:Int))/\S.n=1100)/\(lI (wn u a w) iQ 0 d=lI (wn u a w) (iQ.drop i) i (sP (wn u a w) iQ d i)/\cJ (wn u a w) (64*i) (sP (wn u a w) iQ d i))) (iQ.length) ab ?_ ?_ ?_
 .rintro i S ⟨j,O,z⟩ ⟨N,f⟩;obtain⟨R,T⟩:=f;have s:=Qw (wn u a w) d z;obtain⟨m,r⟩:=x_ (sP (wn u a w) iQ d i);rw[r]at R T s;have c:=Lk (wn u a w) i m z;rw[<-R]at c;have P:=E i z;have G:=(qT T ab P.av P.r).1;have U:eH (wn u a w) m iQ[i] (gS iQ[i])=rX (wn u a w) m iQ[i]:=rfl;rw[U]at G;have F:=w7 u a w m.am.aK m.am.key m.gt.cells m.gt.ge m.ce (iQ[i]).kind (iQ[i]).cw (iQ[i]).n (iQ[i]).il.cw (iQ[i]).il.j' (iQ[i]).il.dD (iQ[i]).il.ia (iQ[i]).il.pc (iQ[i]).il.call (iQ[i]).il.args (iQ[i]).il.ap (iQ[i]).iL.iW.gs (iQ[i]).iL.iW.val (iQ[i]).iL.iW.lm (iQ[i]).iL.iW.iC (iQ[i]).iL.ap (iQ[i]).iL.lw (iQ[i]).iL.wait (64*i) T ab P;have o:aN.mk ⟨m.am.aK,m.am.key⟩ ⟨m.gt.cells,m.gt.ge⟩ m.ce=m:=rfl;have p:h_.mk (iQ[i]).kind (iQ[i]).cw (iQ[i]).n ⟨(iQ[i]).il.cw,(iQ[i]).il.j',(iQ[i]).il.dD,(iQ[i]).il.ia,(iQ[i]).il.pc,(iQ[i]).il.call,(iQ[i]).il.args,(iQ[i]).il.ap⟩ ⟨⟨(iQ[i]).iL.iW.gs,(iQ[i]).iL.iW.val,(iQ[i]).iL.iW.lm,(iQ[i]).iL.iW.iC⟩,(iQ[i]).iL.ap,(iQ[i]).iL.lw,(iQ[i]).iL.wait⟩=iQ[i]:=rfl;obtain⟨⟨A,q,b⟩,B⟩: ∃x,rX (wn u a w) m iQ[i]=x:=⟨_,rfl⟩;rw[B]at F c s G;simp only at F c s G;have C:cJ (wn u a w) (64*((i:Int)+1)) A:=G.mono ab;cases e:I8 (wn u a w) m iQ[i] with
  |false=>
   rw[e]at F c;rw[if_neg aG]at c;simp[N,z, -w7,r,F,c]
  |true=>
   rw[e]at F c;rw[if_pos rfl]at c;simp[N,O,z, -w7,r,F,c,s,C]
 .rintro S ⟨N,f⟩;have W:lI (wn u a w) (iQ.drop iQ.length) iQ.length (sP (wn u a w) iQ d iQ.length)=(sP (wn u a w) iQ d iQ.length,(iQ.length:Int),0):=fE
  have Z:=f.1;rw[W]at Z;simp[N,Z]
 .simp[Qv,M];exact⟨rfl,rfl,rfl,rfl,rfl⟩
@[simp]def pk(u:List hu)(a:List Int)(w:List (List Int))(y:List Int)(c:Int)(iQ:List h_)(P:o9 (wn u a w))(D:BS (wn u a w))(L:fM y a)(z:0<=c/\c<=65535)(E: ∀i (h:i<iQ.length),xX iQ[i])(n:iQ.length<=1000000):cG X 32 [iB u a w,pp y c,.sl false (iQ.map h_.e)]=some (.bool (decide ((lI (wn u a w) iQ 0 (dx (wn u a w) (iy.mk y c))).2.2=0))):=by
 refine ij ?_;have F:=ir u a w y c iQ P D L z E n;obtain⟨⟨m,k,e⟩,J⟩: ∃x,lI (wn u a w) iQ 0 (dx (wn u a w) (iy.mk y c))=x:=⟨_,rfl⟩;rw[J]at F⊢;simp[-ir,F]
def FU(p:g9)(l:iy)(es:List h_)(k:Int):aN×Int:=
 if k<0\/(es.length:Int)<k then(eQ,6) else if(lI p (es.take k.toNat) 0 (dx p l)).2.2=0 then((lI p (es.take k.toNat) 0 (dx p l)).1,0) else(eQ,(lI p (es.take k.toNat) 0 (dx p l)).2.2)
@[simp]def lX(u:List hu)(a:List Int)(w:List (List Int))(y:List Int)(c:Int)(iQ:List h_)(k:Int)(q:o9 (wn u a w))(D:BS (wn u a w))(L:fM y a)(z:0<=c/\c<=65535)(E: ∀i (h:i<iQ.length),xX iQ[i])(W:iQ.length<=1000000):cG X 34 [iB u a w,pp y c,.sl false (iQ.map h_.e),.int .i64 k]=some (.ed [rJ ((FU (wn u a w) (iy.mk y c) iQ k).1),.int .i64 ((FU (wn u a w) (iy.mk y c) iQ k).2)]):=by
 refine ij ?_;by_cases P:k<0
 .have e:FU (wn u a w) (iy.mk y c) iQ k=(eQ,6):=if_pos (.inl P);rw[e];simp[eQ,P]
 by_cases k1:(iQ.length:Int)<k
 .have e:FU (wn u a w) (iy.mk y c) iQ k=(eQ,6):=if_pos (.inr k1);rw[e];simp[eQ,P,k1]
 have e:FU (wn u a w) (iy.mk y c) iQ k=if(lI (wn u a w) (iQ.take k.toNat) 0 (dx (wn u a w) (iy.mk y c))).2.2=0 then((lI (wn u a w) (iQ.take k.toNat) 0 (dx (wn u a w) (iy.mk y c))).1,0) else(eQ,(lI (wn u a w) (iQ.take k.toNat) 0 (dx (wn u a w) (iy.mk y c))).2.2):=if_neg ab
 rw[e];obtain⟨n,rfl⟩:=jp (by omega:0<=k);rw[X7];have F:=ir u a w y c (iQ.take n) q D L z (fun i h=>aj) aj;obtain⟨⟨m,j,e⟩,J⟩: ∃x,lI (wn u a w) (iQ.take n) 0 (dx (wn u a w) (iy.mk y c))=x:=⟨_,rfl⟩;rw[J]at F⊢;have s:n<=iQ.length:=ab
 obtain⟨r,t⟩:=x_ (iQ.take n);have g: ∀f:h_->V,List.take n (iQ.map f)=r.map f:=fun f=>by rw[<-t,yB]
 rw[t]at F;by_cases C:e=0
 .subst C;simp[-ir,P,k1,s,g,F]
 .rw[if_neg C];simp[-ir,eQ,P,k1,s,g,F,C]
def qJ(p:g9)(d:Int)(r:aN×Bool)(m:aN)(h:bI)(k:Nat)(v:V)(h':bI)(k':Nat):Prop:=
 (r=(m,false)/\k<=k'/\Below k h h'/\v= .ed [rJ m,.bool false])\/pA p d r h k (fun _=>False) v h' k'
def qJ.K6(e:r=(m,false))(B:Below k h h')(y:k<=k'):qJ p d r m h k (.ed [rJ m,.bool false]) h' k':= .inl ⟨e,y,B,rfl⟩
def qJ.same(e:r=(m,false))(B:Below k h h'):qJ p d r m h k (.ed [rJ m,.bool false]) h' (k+n):= .inl ⟨e,ab,B,rfl⟩
def qJ.zf{p:g9}{d:Int}{r:aN×Bool}{f:aN}{h h':bI}{k k':Nat}{C L T:Nat}{vB:V}{ids bH:Nat->Nat}{m:aN}{key:Int}(H:gA h' k' vB C L T ids bH m)(A:nH k vB C L T ids bH)(G:cJ p d m)(l:key=m.am.key)(e:r=(m,true))(B:Below k h h')(y:k<=k'):
  qJ p d r f h k (.ed [rB vB key (.cX C 0 512) (.cX L 0 4) (.cX T 0 4),.bool true]) h' k':= .inr (pA.zf H A G l e B y)
def qJ.new{p:g9}{d:Int}{r:aN×Bool}{f:aN}{h h':bI}{k n:Nat}{C L T:Nat}{vB:V}{ids bH:Nat->Nat}{m:aN}{key:Int}(H:gA h' (k+n) vB C L T ids bH m)(A:nH k vB C L T ids bH)(G:cJ p d m)(l:key=m.am.key)(e:r=(m,true))(B:Below k h h'):
  qJ p d r f h k (.ed [rB vB key (.cX C 0 512) (.cX L 0 4) (.cX T 0 4),.bool true]) h' (k+n):= .inr (pA.new H A G l e B)
def qJ.eA{p:g9}{d:Int}{r:aN×Bool}{m:aN}{h h':bI}{k k':Nat}{v:V}(H:qJ p d r m h k v h' k'): ∃vB vC vL vT,v= .ed [rB vB r.1.am.key vC vL vT,.bool r.2]/\k<=k'/\Below k h h'/\ ∀hx,Cf k h' hx-> ∀n,da hx (n+4) vB=some (.sl false (r.1.am.aK.map (V.int .i64)))/\da hx (n+4) vC=some (.sl false (r.1.gt.cells.map ac.e))/\da hx (n+4) vL=some (.sl false (r.1.gt.ge.map cP.e))/\da hx (n+4) vT=some (.sl false (r.1.ce.map gc.e)):=by
 rcases H with⟨e,y,B,rfl⟩|⟨q,T,U,f,X,s,rfl,M,G,y,B,S⟩
 .subst e;exact⟨_,_,_,_,rfl,y,B,fun hx _ n=>bu⟩
 .refine⟨_,_,_,_,rfl,y,B,fun hx b n=> ?_⟩;obtain⟨i1,i2,i3,_⟩:=M.eA hx (fun i j _=>b i ((S i j).resolve_left id)) (n+1);have o:=(M.eA hx (fun i j _=>b i ((S i j).resolve_left id)) n).2.2.2;have W:=b T ((S T M.XR).resolve_left id);rw[M.row]at W;have t:=UW M.len;have l:=M.len
  simp_all
@[simp]def Tu(g:List hu)(q:List Int)(u:List (List Int))(Z:List Int)(B:Int)(f:List ac)(F:List cP)(a:List gc)(t y b A J:Int)(W:List fd)(U:Int)(D:Bool)(h:bI)(k:Nat)(d:Int)(H:cJ (wn g q u) d (w_ Z B f F a))(hd:d<=1099511627776)(hx:qs (wl y b A J W U D)): ∃v h' k',df X 121 [iB g q u,ol Z B f F a,.int .i64 t,lc y b A J W U D] h k=some (v,h',k')/\qJ (wn g q u) d (jZ (wn g q u) (w_ Z B f F a) t (wl y b A J W U D)) (w_ Z B f F a) h k v h' k':=by
 have hb:=H.mono hd;have l:fO (wn g q u) (w_ Z B f F a)=true:=hb.ok;have s:=H.prog.lens;have o:=H.lens;have hL:=H.lay;have M:a.length=4:=H.len;have p:W.length<=1000000000:=bq
 cases r:oA (wl y b A J W U D) with
 |false=>
  refine ip ?_;simp[X6,l,s,o,p,r];exact qJ.same (lG (fun h=>by have:=h.2.1;grind)) bu
 |true=>
 by_cases t0:0<=t
 case neg=>
  have z:t<0:=ab
  refine ip ?_;simp[X6,l,s,o,p,r,z];exact qJ.same (lG (fun h=>t0 h.2.2.1.1)) bu
 have z: ¬t<0:=ab
 by_cases K:t<4
 case neg=>
  have Y:4<=t:=ab
  refine ip ?_;simp[X6,l,s,o,p,r,z,Y];exact qJ.same (lG (fun h=>K h.2.2.1.2)) bu
 have Y: ¬4<=t:=ab
 obtain⟨n,rfl⟩:=jp t0;have Q:n<4:=ab
 have x:n<a.length:=ab
 have N:bO (w_ Z B f F a) n=a[n]:=eL x;by_cases L:(a[n]).im=3
 case neg=>
  refine ip ?_;simp[X6,M,l,s,o,p,r,t0,z,K,Y,Q,L];exact qJ.same (lG (fun h=>L (by have:=h.2.2.2.1;rw[X7,N]at this;exact this))) aC
 have hj:=eq_true L;have hc:=mu (aK:=Z) (key:=B) (ax:=q) hx.iW;obtain⟨⟨ct,h3⟩,w,G⟩: ∃c w,raw Z B q ⟨y,b,A,J⟩=(c,w):=⟨_,_,rfl⟩;simp only[G]at hc;by_cases O:w=0
 case neg=>
  refine ip ?_;simp[X6,M,l,s,o,hL,p,r,t0,z,K,Y,Q,hj,G,O];exact qJ.same (lG (fun h=>O eb)) aC
 subst O;obtain⟨n0,h1,k1,hk,hg,ev,HA,S⟩:=A3 Z B f F a (k+50) (wn g q u) _ hb;subst hg;subst ev;simp only[X6,Nat.reduceAdd]at hk HA S;have P:=HA;have ho:=P.lq;have R:=P.Ad n x;simp only at ho R;have mm:=eX (mF (k+168) (k+187) (k+206) (k+225)) a;rw[M]at mm;have hn:=eU (ids:=mF (k+168) (k+187) (k+206) (k+225)) x;have E:=(hb.lq n x).bK;simp only at E;have a1:=(S.2.1 n Q).2;have a2:=(P.mL n Q).2.2.1;obtain⟨I,C⟩:=x_ (mF (k+168) (k+187) (k+206) (k+225) n);rw[C]at R a1 a2;simp only[C]at hn;have b1: ∀j,j<50-> ¬I=k+j:=fun j _=>ab
 have he: ∀j,j<50-> ¬k+j=I:=fun j _=>ab
 have e2: ¬I=k+232:=a2;have h2: ¬k+232=I:=fun e=>a2 e.symm;have ay: ¬I<k+50:=ab
 have ha: ¬I=k:=ab
 have hf: ¬k=I:=ab
 refine ip ?_;simp[X6,l,s,o,hL,M,p,r,t0,z,K,Y,Q,hj,G,hk,fI,gM,uj,ho,R,mm,hn,E,b1,he,h2,ay];have hR:jZ (wn g q u) (w_ Z B f F a) n (wl y b A J W U D)=(ie (w_ Z B f F a) (aN.gt (w_ Z B f F a)) n (jY a[n] ⟨ct,h3⟩),true):=by
  rw[vG ⟨l,r,⟨t0,K⟩,by rw[X7,N];exact L,by simp only[G]⟩];simp only[X7,N,G]
 refine qJ.new (m:=ie (w_ Z B f F a) (aN.gt (w_ Z B f F a)) n (jY a[n] ⟨ct,h3⟩)) (P.put S ab Q ?_ ?_ ?_) (S.less ab) (pG H (tg _) H.mem H.Ia (vz (H.lq n x) hc)) rfl hR ?_
 .rw[<-gq x,qB _ _ _ _ E,C];simp[bB]
 .rw[C];have e1: ¬I=k+3:=ab
  simp[bB,e2,e1,jY,ac.cN]
 .intro i g1 hB cQ ht;rw[C]at ht;have c1: ¬i<k+50:=ab
  have V: ¬i=k+3:=ab
  have T: ¬i=k+48:=ab
  simp[bB,c1,V,T,cQ,ht]
 .simp only[cE];intro i hi;have c1:i<k+50:=ab
  have V: ∀j,¬i=k+j:=fun j=>ab
  have T: ¬i=k:=ab
  have c4: ¬i=I:=ab
  simp[bB,c1,V,T,c4]
@[simp]def PS(u:List hu)(q:List Int)(w:List (List Int))(f:List Int)(C:Int)(z:List ac)(F:List cP)(Z:List gc)(gX J r t M V:Int)(p S:List fd)(g x l y:Int)(W:List fd)(U:Int)(dy:Bool)(h:bI)(k:Nat)(d:Int)(L:cJ (wn u q w) d (w_ f C z F Z))(hd:d<=1099511627776)(he:p.length<=1000000000)(ho:S.length<=1000000000)(hS:fg p)(hx:qs (wl g x l y W U dy)): ∃v h' k',df X 119 [iB u q w,ol f C z F Z,i7 gX J r t M V p S,lc g x l y W U dy] h k=some (v,h',k')/\qJ (wn u q w) d (jN (wn u q w) (w_ f C z F Z) (v_ gX J r t M V p S) (wl g x l y W U dy)) (w_ f C z F Z) h k v h' k':=by
 have ff:=L.mono hd;have R:fO (wn u q w) (w_ f C z F Z)=true:=ff.ok;have hp:=L.prog.lens;have hc:=L.lens;have hL:=L.lay;have hl:Z.length=4:=L.len;have cQ:W.length<=1000000000:=bq
 cases T:ko (v_ gX J r t M V p S) with
 |false=>
  refine ip ?_;simp[X6,R,hp,hc,he,ho,T];exact qJ.same (oX (fun h=>by have h1:=h.2.1;grind)) bu
 |true=>
 have dF:=T;unfold ko at dF;simp only[X8,decide_eq_true_eq]at dF;obtain⟨bs,m1,_,_,_,_,_,_,_,_,h8,lz,_,_,_,_⟩:=dF;by_cases ku:J=1
 case neg=>
  refine ip ?_;simp[X6,R,hp,hc,he,ho,T,ku];exact qJ.same (oX (fun h=>ku h.2.2.1)) bu
 have h3:=eq_true ku;by_cases ht:(p.length:Int)=rL V
 case neg=>
  refine ip ?_;simp[X6,R,hp,hc,he,ho,T,h3,ht];exact qJ.same (oX (fun h=>ht h.2.2.2.1)) aC
 have ha:=eq_true ht;have h5:p.length=(dc V).length:=by
  unfold rL at ht;rw[if_neg ab]at ht;omega
 cases hr:oA (wl g x l y W U dy) with
 |false=>
  refine ip ?_;simp[X6,R,hp,hc,cQ,he,ho,T,h3,ha,hr];exact qJ.same (oX (fun h=>fc)) aC
 |true=>
 obtain⟨n,rfl⟩:=jp bs;have Q:n<4:=ab
 have g1:(n:Int)<4:=ab
 have O:n<Z.length:=ab
 have h4:bO (w_ f C z F Z) n=Z[n]:=eL O;by_cases hs:(Z[n]).im=2
 case neg=>
  refine ip ?_;simp[X6,hl,R,hp,hc,cQ,he,ho,T,h3,ha,hr,Q,g1,hs];exact qJ.same (oX (fun h=>hs (by have h1:=h.2.2.2.2.2;simp only[X7]at h1;rw[h4]at h1;exact h1))) aC
 have hz:=eq_true hs;have hA:qv (wn u q w) (w_ f C z F Z) ⟨n,J,r,t,M,V,p,S⟩ (wl g x l y W U dy):=⟨R,T,ku,ht,hr,by simp only[X7];rw[h4];exact hs⟩;obtain⟨aM,h1,k1,hq,f3,ev,HA,h2⟩:=A3 f C z F Z (k+48) (wn u q w) _ ff;subst f3;subst ev;simp only[X6,Nat.reduceAdd]at hq HA h2;have P:=HA;have bP:=P.lq;have g2:=P.Ad n O;simp only at bP g2;have iO:=eX (mF (k+166) (k+185) (k+204) (k+223)) Z;rw[hl]at iO;have bT:=eU (ids:=(mF (k+166) (k+185) (k+204) (k+223))) O;have hn:=(ff.lq n O).bK;simp only at hn;have a1:=(h2.2.1 n Q).2;have a2:=(P.mL n Q).2.2.1;have a3:=(P.mL n Q).2.2.2;obtain⟨I,hI⟩:=x_ ((mF (k+166) (k+185) (k+204) (k+223)) n);rw[hI]at g2 a1 a2 a3;simp only[hI]at bT;have b1: ∀j,j<48-> ¬I=k+j:=fun j _=>ab
 have w1: ∀j,j<48-> ¬k+j=I:=fun j _=>ab
 have l2: ¬I=k+230:=a2;have q2: ¬k+230=I:=fun e=>a2 e.symm;have ih: ¬I<k+48:=ab
 have h6:I<k+260:=ab
 have mH: ¬I=k:=ab
 have e9: ¬k=I:=ab
 have hh: ∀i,i<k->i<k+48/\(∀j,¬i=k+j)/\ ¬i=k/\ ¬i=I:=fun i A=>⟨ab,fun j=>ab,ab,ab⟩;by_cases n0:V=0
 .subst n0;have hk:0<p.length:=by rw[h5];decide
  obtain⟨⟨at_,av,aE,lu⟩,hR⟩: ∃c,p[0]=c:=⟨_,rfl⟩;have t':yN ⟨at_,av,aE,lu⟩:=hR▸hS _ (rx hk);have kz:List.take 8 ((Z[n]).bK.map ac.e)=(Z[n]).bK.map ac.e:=bQ (by simp[hn]);obtain⟨hE,jz,cI⟩:=F_ (Z[n]).im (Z[n]).bK (Z[n]).pc (Z[n]).ia (Z[n]).db (Z[n]).iw (Z[n]).dD (Z[n]).hw 0 av (k+260) ab;simp only[X6,Nat.reduceAdd,hn]at jz cI;refine ip ?_;simp[X6,hl,R,hp,hc,cQ,he,ho,T,h3,ha,hr,Q,g1,hz,hq,fI,gM,uj,bP,g2,iO,bT,hn,b1,ih,hk,hR,jz,kz,Ms,Gf,Gg,vA,yp];have N: ∀i,i<4-> ¬i=n->k+48<=(mF (k+166) (k+185) (k+204) (k+223)) i/\(mF (k+166) (k+185) (k+204) (k+223)) i<k+238/\(mF (k+166) (k+185) (k+204) (k+223)) i≠k+230:=fun i A _=>⟨(h2.2.1 i A).2,(P.mL i A).2.2.2,(P.mL i A).2.2.1⟩;have n1:jN (wn u q w) (w_ f C z F Z) ⟨n,J,r,t,M,0,p,S⟩ (wl g x l y W U dy)=(⟨⟨f,C⟩,⟨z,F⟩,Z.set n (xJ Z[n] av)⟩,true):=by
   unfold jN;rw[if_pos hA,if_pos rfl];simp only[X7,h4,jk,List.getD,rk hk,hR,tj]
  refine qJ.new (m:=⟨⟨f,C⟩,⟨z,F⟩,Z.set n (xJ Z[n] av)⟩) (bH:=fun i=>if i=n then k+270 else(mF (k+166) (k+185) (k+204) (k+223)) i) (gA.ce (a:=k+48) P h2 ab c6 ?_ ?_ ?_ ?_ ?_) ?_ ?_ rfl n1 ?_
  .rw[sK (bH:=(mF (k+166) (k+185) (k+204) (k+223))) O (fun j E=>if_neg E)];simp[bB,dY,xJ,hn]
  .intro i A;simp only[rm]at A;simp only[r6];by_cases D:n=i
   .subst D;simp[bB,cI,j6,xJ];exact fun _ _=>rfl
   .have g4: ¬i=n:=fun e=>D e.symm;obtain⟨l9,o2,kK⟩:=N i ab g4;have hC:=P.Ad i A;simp only at hC;have c1: ¬(mF (k+166) (k+185) (k+204) (k+223)) i=k+4:=ab
    have c2:(mF (k+166) (k+185) (k+204) (k+223)) i<k+260:=ab
    have c3: ¬(mF (k+166) (k+185) (k+204) (k+223)) i=k+46:=ab
    have c4: ¬(mF (k+166) (k+185) (k+204) (k+223)) i<k+48:=ab
    simp only[D,g4,if_false];simp only[bB,c1,c2,c3,c4,kK,if_false,if_true];exact hC
  .intro i A;by_cases D:i=n
   .right;simp[D]
   .left;simp[D]
  .intro i j A E lM;by_cases D:i=n
   .have mm: ¬j=n:=fun e=>lM (D.trans e.symm);have:=N j E mm;simp only[D,mm,if_true,if_false];omega
   .by_cases mm:j=n
    .have:=N i A D;simp only[D,mm,if_true,if_false];omega
    .simp only[D,mm,if_false];exact P.BG i j A E lM
  .intro i e0 lJ S' cF;have c1: ¬i=k+4:=ab
   have c2:i<k+260:=ab
   have c3: ¬i=k+46:=ab
   have c4: ¬i<k+48:=ab
   simp only[bB,c1,c2,c3,c4,S',if_false,if_true]
  .obtain⟨⟨q1,hy,kk⟩,hg,g3⟩:=h2;refine⟨⟨ab,ab,ab⟩,fun j E=>⟨by have:=hg j E;omega,?_⟩,fun B s n e=>by have:=g3 B s n e;omega⟩;by_cases D:j=n
   .simp[D]
   .have:=hg j E;simp only[D,if_false];omega
  .refine⟨L.prog,L.lay,L.key,L.mem,c6,fun i A=> ?_,L.Ia⟩;simp only[rm]at A;simp only[r6];split
   .exact Mw (L.lq n O) t'
   .exact L.lq i A
  .intro i A;obtain⟨e1,e2,Y,e4⟩:=hh i A;have v':i<k+260:=ab
   simp[bB,e1,e2,Y,v']
 cases dy with
 |true=>
  refine ip ?_;simp[X6,hl,R,hp,hc,cQ,he,ho,T,h3,ha,hr,Q,g1,hz,hq,fI,gM,uj,bP,iO,bT,hn,n0];have n1:jN (wn u q w) (w_ f C z F Z) ⟨n,J,r,t,M,V,p,S⟩ ⟨⟨g,x,l,y⟩,W,U,true⟩=(ie (w_ f C z F Z) (aN.gt (w_ f C z F Z)) n (sI Z[n]),true):=by
   unfold jN;rw[if_pos hA,if_neg n0,if_pos rfl];simp only[X7,h4]
  refine qJ.new (m:=ie (w_ f C z F Z) (aN.gt (w_ f C z F Z)) n (sI Z[n])) (P.put h2 ab Q ?_ ?_ ?_) (h2.less ab) (pG L (tg _) L.mem L.Ia (Iv (L.lq n O))) rfl n1 ?_
  .rw[<-gq O];simp[bB,dY,sI,hn,hI]
  .rw[hI];have cZ: ¬I=k+4:=ab
   have hM: ¬I=k+46:=ab
   simp[bB,l2,ih,cZ,hM,sI,g2]
  .intro i e0 lJ S' cF;have c1: ¬i<k+48:=ab
   have c2: ¬i=k+4:=ab
   have c3: ¬i=k+46:=ab
   simp[bB,c1,c2,c3,S']
  .intro i A;obtain⟨e1,e2,Y,e4⟩:=hh i A;simp[bB,e1,e2,Y]
 |false=>
 have pd:(bO (w_ f C z F Z) n).im=2:=by rw[eL O];exact hs
 have key: ∀(H:bI) (K:Nat),H (k+46)=some ⟨5,[rB (.cX (k+53) 0 f.length) C (.cX (k+68) 0 512) (.cX (k+147) 0 4) (.cX (k+230) 0 4)],true⟩->Cf (k+48) h1 H->k+238<=K->
   df X 198 [iB u q w,.ptr (k+46) 0 0,i7 (n:Int) J r t M V p S,lc g x l y W U false] H K=some (.bool (cB 198 [iB u q w,.ptr (k+46) 0 0,i7 (n:Int) J r t M V p S,lc g x l y W U false] H K),cH 198 [iB u q w,.ptr (k+46) 0 0,i7 (n:Int) J r t M V p S,lc g x l y W U false] H K,cK 198 [iB u q w,.ptr (k+46) 0 0,i7 (n:Int) J r t M V p S,lc g x l y W U false] H K)/\cH 198 [iB u q w,.ptr (k+46) 0 0,i7 (n:Int) J r t M V p S,lc g x l y W U false] H K (k+46)=some ⟨5,[rB (.cX (k+53) 0 f.length) C (.cX (k+68) 0 512) (.cX (k+147) 0 4) (.cX (k+230) 0 4)],true⟩/\(∀i,i<k+48->cH 198 [iB u q w,.ptr (k+46) 0 0,i7 (n:Int) J r t M V p S,lc g x l y W U false] H K i=H i)/\K<=cK 198 [iB u q w,.ptr (k+46) 0 0,i7 (n:Int) J r t M V p S,lc g x l y W U false] H K/\
   ∃gK ay m',dQ (cH 198 [iB u q w,.ptr (k+46) 0 0,i7 (n:Int) J r t M V p S,lc g x l y W U false] H K) (cK 198 [iB u q w,.ptr (k+46) 0 0,i7 (n:Int) J r t M V p S,lc g x l y W U false] H K) (k+46) (.cX (k+53) 0 f.length) (k+68) (k+147) (k+230) gK ay m'/\cJ (wn u q w) d m'/\m'.am=⟨f,C⟩/\(tI (wn u q w) (w_ f C z F Z) n ⟨(n:Int),J,r,t,M,V,p,S⟩ ⟨⟨g,x,l,y⟩,W,U,false⟩=bif (cB 198 [iB u q w,.ptr (k+46) 0 0,i7 (n:Int) J r t M V p S,lc g x l y W U false] H K) then some m' else none)/\nH (k+48) (.cX (k+53) 0 f.length) (k+68) (k+147) (k+230) gK ay:=fun H K hb fv fG=>by
  have f2:=Pp (b:=k+46) gj ab ab fG P h2 fv;obtain⟨v,h',k',e,l1,gK,ay,m',rfl,G,hT,cz,dN,cm,cD,a'⟩:=Ge u q w .bad (n:Int) J r t M V p S g x l y W U false H K (k+46) _ _ _ _ _ _ (w_ f C z F Z) d n f2 L hd ⟨_,rfl⟩ ⟨rfl,Q⟩ pd ⟨h8,lz⟩ h5 hS hr hx;obtain⟨e1,e2⟩:=wi e;have Y:=Ga e;have u2:=G.uG;have w2:=G.len;obtain⟨⟨q1,hy,kk⟩,hg,g3⟩:=h2;rw[e1,e2,Y];refine⟨e,by rw[u2];unfold iF;rw[w2,cz],fun i A=>a' i ab ab ab ab (fun j E=>by have:=hg j E;omega),cm,gK,ay,m',G,hT,cz,dN,⟨q1,hy,kk⟩,fun j E=> ?_,g3⟩;have:=hg j E;have:=cD j E;omega
 have cl:=fun H K a b c=>(key H K a b c).1;have cb:=fun H K a b c=>(key H K a b c).2.1;have bL:=fun H K a b c=>(key H K a b c).2.2.1 (k+1) ab;have dz:=fun H K a b c=>(key H K a b c).2.2.1 (k+4) ab;refine ip ?_;simp[X6,hl,R,hp,hc,cQ,he,ho,T,h3,ha,hr,Q,g1,hz,hq,fI,gM,uj,n0,cl,cb,bL,dz,qS,wj];have hf: ∀(H:bI) (K n2:Nat) (o:Option Ob),H (k+46)=some ⟨5,[rB (.cX (k+53) 0 f.length) C (.cX (k+68) 0 512) (.cX (k+147) 0 4) (.cX (k+230) 0 4)],true⟩->Cf (k+48) h1 H->k+238<=K->Below k h H->
   (cB 198 [iB u q w,.ptr (k+46) 0 0,i7 (n:Int) J r t M V p S,lc g x l y W U false] H K=false->qJ (wn u q w) d (jN (wn u q w) (w_ f C z F Z) ⟨(n:Int),J,r,t,M,V,p,S⟩ ⟨⟨g,x,l,y⟩,W,U,false⟩) (w_ f C z F Z) h k (.ed [ol f C z F Z,.bool false]) (bB (cH 198 [iB u q w,.ptr (k+46) 0 0,i7 (n:Int) J r t M V p S,lc g x l y W U false] H K) (k+4) o) (cK 198 [iB u q w,.ptr (k+46) 0 0,i7 (n:Int) J r t M V p S,lc g x l y W U false] H K+n2))/\
   (cB 198 [iB u q w,.ptr (k+46) 0 0,i7 (n:Int) J r t M V p S,lc g x l y W U false] H K=true->qJ (wn u q w) d (jN (wn u q w) (w_ f C z F Z) ⟨(n:Int),J,r,t,M,V,p,S⟩ ⟨⟨g,x,l,y⟩,W,U,false⟩) (w_ f C z F Z) h k (.ed [rB (.cX (k+53) 0 f.length) C (.cX (k+68) 0 512) (.cX (k+147) 0 4) (.cX (k+230) 0 4),.bool true]) (bB (cH 198 [iB u q w,.ptr (k+46) 0 0,i7 (n:Int) J r t M V p S,lc g x l y W U false] H K) (k+4) o) (cK 198 [iB u q w,.ptr (k+46) 0 0,i7 (n:Int) J r t M V p S,lc g x l y W U false] H K+n2)):=fun H K n2 o hb fv fG hB=>by
  obtain⟨_,_,cL,cm,gK,ay,m',G,hT,cz,dN,bE⟩:=key H K hb fv fG;have iS:Below k h (bB (cH 198 [iB u q w,.ptr (k+46) 0 0,i7 (n:Int) J r t M V p S,lc g x l y W U false] H K) (k+4) o):=fun i A=>by
   have c1: ¬i=k+4:=ab
   simp only[bB,c1,if_false];rw[cL i ab,hB i A]
  have kg:jN (wn u q w) (w_ f C z F Z) ⟨(n:Int),J,r,t,M,V,p,S⟩ ⟨⟨g,x,l,y⟩,W,U,false⟩=My (w_ f C z F Z) (tI (wn u q w) (w_ f C z F Z) n ⟨(n:Int),J,r,t,M,V,p,S⟩ ⟨⟨g,x,l,y⟩,W,U,false⟩):=by
   unfold jN;rw[if_pos hA,if_neg n0,if_neg ai];simp only[X7]
  refine⟨fun ts=>qJ.K6 (by rw[kg,dN,ts];rfl) iS ab,fun ts=> ?_⟩;have b':C=m'.am.key:=by rw[cz]
  exact qJ.zf (h':=bB (cH 198 [iB u q w,.ptr (k+46) 0 0,i7 (n:Int) J r t M V p S,lc g x l y W U false] H K) (k+4) o) (k':=cK 198 [iB u q w,.ptr (k+46) 0 0,i7 (n:Int) J r t M V p S,lc g x l y W U false] H K+n2) (G.at.mono bE ab fun i A _=>by
   have c1: ¬i=k+4:=ab
   simp only[bB,c1,if_false]) (bE.less ab) hT b' (by rw[kg,dN,ts];rfl) iS ab
 refine⟨fun e=>(hf _ _ _ _ ?_ ?_ ?_ ?_).1 e,fun e=>(hf _ _ _ _ ?_ ?_ ?_ ?_).2 e⟩
 .simp[bB]
 .simp[qS,wj]
 .omega
 .exact o0
 .simp[bB]
 .simp[qS,wj]
 .omega
 .exact o0
@[simp]theorem eO(l m N B:Int)(s:List fd)(t:Int)(i:Bool)(o F D A:Int)(u:List fd)(V:Int)(a:Bool)(h:s.length<=1000000000):cG X 190 [lc l m N B s t i,lc o F D A u V a]=some (.bool (decide ((eI.mk (fd.mk l m N B) s t i)=(eI.mk (fd.mk o F D A) u V a)))):=by
 refine ij ?_;simp[h,eI.eq_iff,fd.eq_iff]
 grind
@[simp]def dJ(W C c g d V:Int)(b S:List fd)(h1:b.length<=1000000000)(K:S.length<=1000000000):cG X 192 [i7 W C c g d V b S]=some (.bool (decide ((io.mk W C c g d V b S)=ep))):=by
 refine ij ?_;have h:=jV W C c g d V b S 0 0 0 0 0 0 [] [] h1 K;simp only[r_]at h;rw[show io.mk 0 0 0 0 0 0 [] []=ep from rfl]at h;simp[-jV,h]
@[simp]def py(c b j a R H O u Y:Int)(U V:List fd)(F G z A:Int)(W:List fd)(P:Int)(Z:Bool)(h1:U.length<=1000000000)(K:V.length<=1000000000)(g:W.length<=1000000000):cG X 117 [xb c b j a R H O u Y U V F G z A W P Z]=some (.bool (gS (wd c b j a R H O u Y U V F G z A W P Z))):=by
 refine ij ?_;have N:=dJ a R H O u Y U V h1 K;have h:=eh a R H O u Y U V h1 K;have I:=eu F G z A W P Z g;have S:=eO F G z A W P Z 0 0 0 0 [] 0 false g;simp only[r_]at S;by_cases t0:0<=b
 case neg=>
  have e:gS (wd c b j a R H O u Y U V F G z A W P Z)=false:=fY
  rw[e];have l:b<0:=ab
  simp[-dJ, -eh, -eu, -eO,l]
 by_cases t:b<4
 case neg=>
  have e:gS (wd c b j a R H O u Y U V F G z A W P Z)=false:=by unfold gS;rw[decide_eq_false t];simp
  rw[e];have l: ¬b<0:=ab
  have J:4<=b:=ab
  simp[-dJ, -eh, -eu, -eO,l,J]
 rw[Vd (e:=(h_.mk c b j (v_ a R H O u Y U V) (wl F G z A W P Z))) ⟨t0,t⟩];have es:YB (wd c b j a R H O u Y U V F G z A W P Z)=decide ((⟨a,R,H,O,u,Y,U,V⟩:io)=ep):=rfl;have D:FQ ⟨⟨F,G,z,A⟩,W,P,Z⟩=decide ((⟨⟨F,G,z,A⟩,W,P,Z⟩:eI)=⟨⟨0,0,0,0⟩,[],0,false⟩):=by
  rw[Bool.eq_iff_iff];unfold FQ;simp[eI.eq_iff]
 obtain⟨i,C⟩:=x_ (decide ((⟨a,R,H,O,u,Y,U,V⟩:io)=ep));obtain⟨r,T⟩:=x_ (ko (⟨a,R,H,O,u,Y,U,V⟩:io));obtain⟨f,o⟩:=x_ (decide ((⟨⟨F,G,z,A⟩,W,P,Z⟩:eI)=⟨⟨0,0,0,0⟩,[],0,false⟩));obtain⟨d,Q⟩:=x_ (oA (⟨⟨F,G,z,A⟩,W,P,Z⟩:eI));rw[C]at N es;rw[T]at h;rw[o]at S D;rw[Q]at I;have E:J8 (wd c b j a R H O u Y U V F G z A W P Z)=(r&&decide (a=b)):=by unfold J8;rw[<-T]
 have m:Bv (wd c b j a R H O u Y U V F G z A W P Z)=if c=1 then decide (1<=j)&& (decide (j<=64)&& ((r&&decide (a=b))&& (decide (¬R=3)&&f)))
   else if c=2 then decide (j=0)&& ((r&&decide (a=b))&& (decide (R=1)&&d))
   else if c=3 then decide (j=0)&& (i&&f)
   else if c=4 then decide (j=0)&& (i&& (d&& (decide (P= -1)&& (!Z&&decide (W.length=0)))))
   else false:=by unfold Bv;rw[E,es];simp only[D,Q]
 rw[m];have J: ¬4<=b:=ab
 have l: ¬b<0:=ab
 by_cases k1:c=1
 .subst k1;by_cases n:1<=j
  case neg=>simp[-dJ, -eh, -eu, -eO,l,J,n]
  by_cases B:j<=64
  case neg=>simp[-dJ, -eh, -eu, -eO,l,J,n,B]
  cases r with
  |false=>simp[-dJ, -eh, -eu, -eO,l,J,n,B,h]
  |true=>
  by_cases q:a=b
  case neg=>simp[-dJ, -eh, -eu, -eO,l,J,n,B,h,q]
  subst q;by_cases s:R=3
  case pos=>
   subst s;simp[-dJ, -eh, -eu, -eO,l,J,n,B,h]
  simp[-dJ, -eh, -eu, -eO,l,J,n,B,h,s,S]
 by_cases k2:c=2
 .subst k2;by_cases n:j=0
  case neg=>simp[-dJ, -eh, -eu, -eO,l,J,n]
  subst n;cases r with
  |false=>simp[-dJ, -eh, -eu, -eO,l,J,h]
  |true=>
  by_cases q:a=b
  case neg=>simp[-dJ, -eh, -eu, -eO,l,J,h,q]
  subst q;by_cases s:R=1
  case neg=>simp[-dJ, -eh, -eu, -eO,l,J,h,s]
  subst s;simp[-dJ, -eh, -eu, -eO,l,J,h,I]
 by_cases k3:c=3
 .subst k3;by_cases n:j=0
  case neg=>simp[-dJ, -eh, -eu, -eO,l,J,n]
  subst n;cases i with
  |false=>simp[-dJ, -eh, -eu, -eO,l,J,N]
  |true=>simp[-dJ, -eh, -eu, -eO,l,J,N,S]
 by_cases k:c=4
 case neg=>simp[-dJ, -eh, -eu, -eO,l,J,k1,k2,k3,k]
 subst k;by_cases n:j=0
 case neg=>simp[-dJ, -eh, -eu, -eO,l,J,n]
 subst n;cases i with
 |false=>simp[-dJ, -eh, -eu, -eO,l,J,N]
 |true=>
 cases d with
 |false=>simp[-dJ, -eh, -eu, -eO,l,J,N,I]
 |true=>
 by_cases s:P= -1
 case neg=>simp[-dJ, -eh, -eu, -eO,l,J,N,I,s]
 subst s;cases Z with
 |true=>simp[-dJ, -eh, -eu, -eO,l,J,N,I]
 |false=>simp[-dJ, -eh, -eu, -eO,l,J,N,I]
@[simp]def Lo(Z:List Int)(B:Int)(d:List ac)(F:List cP)(a:List gc)(t:Int)(p:g9)(c:Int)(H:cJ p c (w_ Z B d F a))(T:0<=t/\t<4):cG X 120 [ol Z B d F a,.int .i64 t]=some (.ed [rJ ((jB (w_ Z B d F a) t).1),.bool ((jB (w_ Z B d F a) t).2)]):=by
 refine ij ?_;obtain⟨k,rfl⟩:=jp T.1;have A:k<4:=ab
 have y:(k:Int)<4:=ab
 have l:a.length=4:=H.len;have b:k<a.length:=ab
 have D:=US Z B d F a p c H;have v:=wo Z B d F a k ⟨ab,ab⟩ l;have hx:bO (w_ Z B d F a) k=a[k]:=eL b;have J:a.getD k cT=a[k]:=hx;rw[X7,J]at v;have w: ∀(f:gc->V),List.take 4 (a.map f)=a.map f:=fun f=>bQ aA;have q: ∀(f:gc->Option V),List.take 4 (a.map f)=a.map f:=fun f=>bQ aA;by_cases m:uT a[k]=true
 case neg=>
  have e:jB (w_ Z B d F a) k=((aN.mk (iy.mk Z B) (aD.mk d F) a),false):=by
   unfold jB;rw[X7,hx];exact if_neg fun h=>m h.2
  rw[e];have i:uT a[k]=false:=by simpa using m
  rw[i]at v;simp[D,v,w,l]
 have e:jB (w_ Z B d F a) k=(ie (w_ Z B d F a) (aN.gt (w_ Z B d F a)) k (Mx a[k]),true):=by
  unfold jB;rw[X7,hx];exact if_pos ⟨⟨ab,aB⟩,m⟩
 rw[e];rw[m]at v;obtain⟨⟨st,g,pc,o,W,z,r,L⟩,Q⟩: ∃x,a[k]=x:=⟨_,rfl⟩;rw[Q];unfold ie Mx;obtain⟨s,u⟩:=x_ (a.set k ⟨st,g,W,o,W,pc,r,L⟩);have j:s.length=4:=by rw[<-u];simp[l]
 have C: ∀(f:gc->V),List.take 4 (s.map f)=s.map f:=fun f=>bQ aA;have E: ∀(f:gc->Option V),List.take 4 (s.map f)=s.map f:=fun f=>bQ aA;have I:(gc.e ⟨st,g,pc,o,W,z,r,L⟩).put 5 (.int .i64 pc)=gc.e ⟨st,g,pc,o,W,pc,r,L⟩:=rfl;have P:(gc.e ⟨st,g,pc,o,W,pc,r,L⟩).put 2 (.int .i64 W)=gc.e ⟨st,g,W,o,W,pc,r,L⟩:=rfl;have S:(a.map gc.e).set k (gc.e ⟨st,g,W,o,W,pc,r,L⟩)=s.map gc.e:=by rw[<-u,sB]
 simp only;rw[u];simp[D,v,C,l,j,A,y,Q,I,P,S]
end Go.Proofs.YtdngefmliibcgaaGreat
