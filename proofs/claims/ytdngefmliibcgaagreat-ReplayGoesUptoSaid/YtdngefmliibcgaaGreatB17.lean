import Derived.Test.YtdngefmliibcgaaGreatB13
set_option linter.all false
set_option maxRecDepth 20000
set_option maxHeartbeats 0
namespace Go.Proofs.YtdngefmliibcgaaGreat
open Go Go.Abs Go.Abs.jJ Qf
variable  {p:g9}{d key:Int}{h h' h1 h2 hE:bI}{k b C L T n t R k1 k' k2 J i:Nat}{vB vC vL v:V}{ids bH jA pC:Nat->Nat}{m mi:aN}{g:Option aN}{x xs xn:gc}{E args es:List V}{o:dw}{ts:List gc}{s:aN×List h_}{lay:iy}{r:aN×Bool}{S S1:Nat->Prop}{l:cO}{js js':List Int}{rc:List h_}{q:List (List Int)}
@[simp]def Q5(g:List hu)(x:List Int)(z:List (List Int))(Z:List Int)(B:Int)(f:List ac)(F:List cP)(a:List gc)(t U b aH Y:Int)(W:List fd)(bU:Int)(dy:Bool)(h:bI)(k:Nat)(S:Nat->Prop)(T:Nat)(vB vC vL:V)(es:List V)(d:Int)(M:ld h k S T vB vC vL es (w_ Z B f F a))(G:cJ (wn g x z) d (w_ Z B f F a))(hd:d<=1099511627776)(hx:qs (wl U b aH Y W bU dy)): ∃v h' k',df X 121 [iB g x z,rB vB B vC vL (.cX T 0 4),.int .i64 t,lc U b aH Y W bU dy] h k=some (v,h',k')/\pA (wn g x z) d (jZ (wn g x z) (w_ Z B f F a) t (wl U b aH Y W bU dy)) h k S v h' k':=by
 have hg:=G.mono hd;have o:fO (wn g x z) (w_ Z B f F a)=true:=hg.ok;have P:=G.prog.lens;have C:=G.lens;have hL:=G.lay;have R:=M.row;have u:=M.len;have hl:a.length=4:=M.am0;have h4:=M.lt T M.XR;have s:W.length<=1000000000:=bq
 have O: ∀H,Below k h H->da H 11 vB=some (.sl false (Z.map (V.int .i64))):=fun H p=>(M.eA H (fun i l _=>p i (M.lt i l)) 8).1;have N: ∀H,Below k h H->da H 11 vC=some (.sl false (f.map ac.e)):=fun H p=>(M.eA H (fun i l _=>p i (M.lt i l)) 8).2.1;have L: ∀H,Below k h H->da H 11 vL=some (.sl false (F.map cP.e)):=fun H p=>(M.eA H (fun i l _=>p i (M.lt i l)) 8).2.2.1;have E: ∀H,Below k h H->di (es.map (da H 10))=some (a.map gc.e):=fun H p=>(M.eA H (fun i l _=>p i (M.lt i l)) 7).2.2.2;have A:=UW u;have q: ∀j,¬T=k+j:=fun j=>ab
 have J: ¬T=k:=ab
 cases r:oA (wl U b aH Y W bU dy) with
 |false=>
  refine ip ?_;simp[X6,o,P,C,R,u,s,O,N,L,E,A,q,J,r,cx,cE,cU];exact pA.same M G (lG (fun h=>by have:=h.2.1;rw[r]at this;cases this)) aC
 |true=>
 by_cases t0:0<=t
 case neg=>
  have D:t<0:=ab
  refine ip ?_;simp[X6,o,P,C,R,u,s,O,N,L,E,A,q,J,r,D,cx,cE,cU];exact pA.same M G (lG (fun h=>t0 h.2.2.1.1)) aC
 have D: ¬t<0:=ab
 by_cases h2:t<4
 case neg=>
  have lJ:4<=t:=ab
  refine ip ?_;simp[X6,o,P,C,R,u,s,O,N,L,E,A,q,J,r,D,lJ,cx,cE,cU];exact pA.same M G (lG (fun h=>h2 h.2.2.1.2)) aC
 have lJ: ¬4<=t:=ab
 obtain⟨n,rfl⟩:=jp t0;have Q:n<4:=ab
 have y:n<a.length:=ab
 have h3:n<es.length:=ab
 obtain⟨vR,he⟩:=M.avb n h3 y;simp only at he;have hk:bO (w_ Z B f F a) n=a[n]:=eL y;by_cases hs:(a[n]).im=3
 case neg=>
  refine ip ?_;simp[X6,o,P,C,R,u,s,O,N,L,E,A,q,J,r,t0,D,h2,lJ,Q,he,hs,cx,cE,cU];exact pA.same M G (lG (fun h=>hs (by have:=h.2.2.2.1;rw[X7,hk]at this;exact this))) aC
 have ay:=eq_true hs;have hc:=mu (aK:=Z) (key:=B) (ax:=x) hx.iW;obtain⟨⟨ct,n0⟩,w,K⟩: ∃c w,raw Z B x ⟨U,b,aH,Y⟩=(c,w):=⟨_,_,rfl⟩;simp only[K]at hc;by_cases ht:w=0
 case neg=>
  refine ip ?_;simp[X6,o,P,C,hL,R,u,s,O,N,L,E,A,q,J,r,t0,D,h2,lJ,Q,he,ay,K,ht,cx,cE,cU];exact pA.same M G (lG (fun h=>ht (by have:=h.2.2.2.2;simp only[K]at this;exact this))) aC
 subst ht;obtain⟨S',h1,k1,hf,dN,ev,HA,ho⟩:=A3 Z B f F a (k+50) (wn g x z) _ hg;subst dN;subst ev;simp only[X6,Nat.reduceAdd]at hf HA ho;have hb:=HA.pure;have e1:=hb.lq;have hn:=hb.Ad n y;simp only at e1 hn;have g1:=eX (mF (k+168) (k+187) (k+206) (k+225)) a;rw[hl]at g1;have e2:=eU (ids:=mF (k+168) (k+187) (k+206) (k+225)) y;have hj:=(hg.lq n y).bK;simp only at hj;have a1:=(ho.2.1 n Q).2;have a2:=(hb.mL n Q).2.2.1;obtain⟨I,hI⟩:=x_ (mF (k+168) (k+187) (k+206) (k+225) n);rw[hI]at hn a1 a2;simp only[hI]at e2;have b1: ∀j,j<50-> ¬I=k+j:=fun j _=>ab
 have cQ: ∀j,j<50-> ¬k+j=I:=fun j _=>ab
 have hq: ¬I=k+232:=a2;have mm: ¬k+232=I:=fun e=>a2 e.symm;have cz: ¬I<k+50:=ab
 have bs: ¬I=k:=ab
 have hh: ¬k=I:=ab
 refine ip ?_;simp[X6,o,P,C,hL,hl,R,u,s,O,N,L,E,A,q,J,r,t0,D,h2,lJ,Q,he,ay,K,hf,fI,gM,uj,e1,hn,g1,e2,hj,b1,cQ,mm,cz,cx,cE,cU];have hR:jZ (wn g x z) (w_ Z B f F a) n (wl U b aH Y W bU dy)=(ie (w_ Z B f F a) (aN.gt (w_ Z B f F a)) n (jY a[n] ⟨ct,n0⟩),true):=by
  rw[vG ⟨o,r,⟨t0,h2⟩,by rw[X7,hk];exact hs,by simp only[K]⟩];simp only[X7,hk,K]
 refine pA.new (m:=ie (w_ Z B f F a) (aN.gt (w_ Z B f F a)) n (jY a[n] ⟨ct,n0⟩)) (hb.put ho ab Q ?_ ?_ ?_) (ho.less ab) (pG G (tg _) G.mem G.Ia (vz (G.lq n y) hc)) rfl hR ?_
 .rw[<-gq y,qB _ _ _ _ hj,hI];simp[bB]
 .rw[hI];have bp: ¬I=k+3:=ab
  simp[bB,hq,bp,jY,ac.cN]
 .intro i bP g3 g2 ha;rw[hI]at ha;have c1: ¬i<k+50:=ab
  have c2: ¬i=k+3:=ab
  have c3: ¬i=k+48:=ab
  simp[bB,c1,c2,c3,g2,ha]
 .simp only[cE];intro i l;have c1:i<k+50:=ab
  have c2: ∀j,¬i=k+j:=fun j=>ab
  have c3: ¬i=k:=ab
  have c4: ¬i=I:=ab
  simp[bB,c1,c2,c3,c4]
def kL(p:g9)(d:Int)(g:Option aN)(lay:iy)(h:bI)(k b:Nat)(vB:V)(C L T:Nat)(ids bH:Nat->Nat)(v:V)(h':bI)(k':Nat):Prop:=
 ∃(o:Bool) (K A:Nat->Nat) (m:aN),v= .bool o/\dQ h' k' b vB C L T K A m/\cJ p d m/\m.am=lay/\(g=bif o then some m else none)/\k<=k'/\(∀j,j<4->(K j=ids j\/k<=K j)/\(A j=bH j\/k<=A j))/\
  ∀i,i<k->i≠C->i≠L->i≠T->(∀j,j<4->i≠ids j/\i≠bH j)->h' i=h i
def kL.same(H:dQ h k b vB C L T ids bH m)(G:cJ p d m)(e:g=none)(B:Below k h h'):kL p d g m.am h k b vB C L T ids bH (.bool false) h' (k+n):=
 ⟨false,ids,bH,m,rfl,H.mono ab B,G,rfl,e,ab,fun _ _=>⟨.inl rfl,.inl rfl⟩,fun i j _ _ _ _=>B i j⟩
def kL.put {p:g9} {d:Int} {h h1:bI} {k b C L T n t:Nat} {vB:V} {ids bH:Nat->Nat} {m:aN} {g:Option aN} {x:gc} {E R:List V} (H:dQ h k b vB C L T ids bH m) (G:cJ p d m) (e:g=some (ie m m.gt t x)) (B:Below k h h1) (S:t<4) (hx:eS d x)
  (J:E=(dn bH m.ce).set t (dY bH t x)) (I:R=x.bK.map ac.e):kL p d g m.am h k b vB C L T ids bH (.bool true) (bB (bB h1 (bH t) (some ⟨2,R,false⟩)) T (some ⟨8,E,true⟩)) (k+n):=by
 have r:t<m.ce.length:=cj
 have s:=(H.mL t S).2.2.2.1;refine⟨true,ids,bH,ie m m.gt t x,rfl,H.put ab S (by rw[J,gq r];simp[bB]) (by rw[I];simp[bB,s]) (fun i j h1 K=>by simp[bB,h1,K];exact B i j),pG G (tg _) G.mem G.Ia hx,rfl,e,ab,fun _ _=>⟨.inl rfl,.inl rfl⟩,fun i j _ _ W q=> ?_⟩;simp[bB,W,(q t S).2];exact B i j
def kL.Pb          {R:List V} {o:Option Ob} (H:dQ h k b vB C L T ids bH m) (J:cJ p d m) (y:g=some (ie m m.gt t x)) (B:Below k h h1) (S:t<4) (hx:eS d x)
  (I:E=(dn bH m.ce).set t (dY bH t x)) (G:R=x.bK.map ac.e):kL p d g m.am h k b vB C L T ids bH (.bool true) (bB (bB (bB h1 T o) (bH t) (some ⟨2,R,false⟩)) T (some ⟨8,E,true⟩)) (k+n):=by
 have s:=(H.mL t S).2.2.2.1;have e:bB (bB (bB h1 T o) (bH t) (some ⟨2,R,false⟩)) T (some ⟨8,E,true⟩)=bB (bB h1 (bH t) (some ⟨2,R,false⟩)) T (some ⟨8,E,true⟩):=by
  funext i;simp only[bB];by_cases h1:i=T
  .simp[h1]
  .by_cases K:i=bH t<;>simp[h1,K]
 rw[e];exact kL.put H J y B S hx I G
def MB{s:Nat}(K:s<ts.length)(W:n<ts.length)(w: ¬s=n)(h: ∀j,¬j=s->jA j=bH j):dn jA ((ts.set s xs).set n xn)=((dn bH ts).set s (dY jA s xs)).set n (dY bH n xn):=by
 apply tl;intro j;simp only[dn,vX,t3,DC,rm];by_cases z:n=j
 .subst z;simp[W,dY,h n (fun e=>w e.symm)]
 .by_cases D:s=j
  .subst D;simp[K,z]
  .simp only[z,D,if_false];cases ts[j]? with
   |none=>rfl
   |some x=>simp[dY,h j (fun e=>D e.symm)]
def kL.K6          (H:dQ h1 k1 b vB C L T pC bH mi) (G:cJ p d mi) (e:g=none) (q:mi.am=lay) (y:k<=k1) (c: ∀j,j<4->pC j=ids j\/k<=pC j)
  (f: ∀x,x<k->x≠C->x≠L->x≠T->(∀j,j<4->x≠ids j/\x≠bH j)->h1 x=h x) (B:Below k1 h1 h2):kL p d g lay h k b vB C L T ids bH (.bool false) h2 (k1+n):=
 ⟨false,pC,bH,mi,rfl,H.mono ab B,G,q,e,ab,fun j r=>⟨c j r,.inl rfl⟩,fun i l a1 a2 a3 a4=>by rw[B i ab,f i l a1 a2 a3 a4]⟩
def kL.O'           {R:List V} (H:dQ h1 k1 b vB C L T pC bH mi) (G:cJ p d mi) (e:g=some (ie mi mi.gt t x)) (q:mi.am=lay) (y:k<=k1) (c: ∀j,j<4->pC j=ids j\/k<=pC j)
  (f: ∀x,x<k->x≠C->x≠L->x≠T->(∀j,j<4->x≠ids j/\x≠bH j)->h1 x=h x) (B:Below k1 h1 h2) (S:t<4) (hx:eS d x) (J:E=(dn bH mi.ce).set t (dY bH t x)) (I:R=x.bK.map ac.e):
  kL p d g lay h k b vB C L T ids bH (.bool true) (bB (bB h2 (bH t) (some ⟨2,R,false⟩)) T (some ⟨8,E,true⟩)) (k1+n):=by
 have r:t<mi.ce.length:=cj
 have s:=(H.mL t S).2.2.2.1;refine⟨true,pC,bH,ie mi mi.gt t x,rfl,H.put ab S (by rw[J,gq r];simp[bB]) (by rw[I];simp[bB,s]) (fun i l h1 h2=>by simp[bB,h1,h2];exact B i l),pG G (tg _) G.mem G.Ia hx,q,e,ab,fun j u=>⟨c j u,.inl rfl⟩,fun i l a1 a2 a3 a4=> ?_⟩;simp[bB,a3,(a4 t S).2];rw[B i ab,f i l a1 a2 a3 a4]
def H'(p:g9)(d:Int)(c:aD)(lay:iy)(h:bI)(k b:Nat)(vB:V)(C L T:Nat)(ids bH:Nat->Nat)(n:Nat)(ts:List gc)(P vR v:V)(ct z:Int)(ap:List fd)(r:Nat)(o:Int)(i:Nat)(S:St):Prop:=
 ∃m u,(S.f 1= .ptr b 0 0/\S.f 4= .ptr k 0 0/\S.f 6= .ptr (k+1) 0 0/\S.f 7= .ptr (k+2) 0 0/\S.f 9= .ptr T n 0/\S.f 10= .ptr (k+24) 0 0/\S.f 12= .ptr (k+50) 0 0/\S.f 80= .sl false (ap.map fd.e)/\S.f 81= .int .i64 ap.length/\S.f 82= .int .i64 (i:Int))/\
  (S.h k=some ⟨3,[P],true⟩/\S.h (k+1)=some ⟨8,[vR],true⟩/\S.h (k+2)=some ⟨7,[v],true⟩/\S.h (k+24)=some ⟨2,[pi ct z],true⟩/\S.h (k+50)=some ⟨2,[uS (r:Int) (o+i)],true⟩)/\
  dQ S.h S.n b vB C L T u bH m/\cJ p d m/\m.am=lay/\m.ce=ts/\wx lay.aK lay.key p.ax r o ap c=wx lay.aK lay.key p.ax r (o+i) (ap.drop i) m.gt/\k+72<=S.n/\(∀j,j<4->u j=ids j\/k+72<=u j)/\ ∀x,x<k->x≠C->x≠L->x≠T->(∀j,j<4->x≠ids j/\x≠bH j)->S.h x=h x
@[simp]def UB(pc D arg_val:Int)(k:Nat): ∃h',df X 252 [.int .i64 pc,pi D arg_val] mg k=some ((ro 1 (.cX (k+5) 0 8) pc 0 (-1) (-1) 0 0:V),h',k+18)/\h' (k+5)=some ⟨2,((⟨D,arg_val⟩:ac)::List.replicate 7 ⟨0,0⟩).map ac.e,false⟩:=by
 refine z8 ?_;simp[X6,ac.cN]
@[simp]def Ge(l:List hu)(q:List Int)(u:List (List Int))(m:V)(cW cC cu cg dM z:Int)(bp bS:List fd)(P O Y Q:Int)(W:List fd)(U:Int)(dy:Bool)(h:bI)(k b:Nat)(vB:V)(C L T:Nat)(ids bH:Nat->Nat)(y:aN)(d:Int)(n:Nat)(H:dQ h k b vB C L T ids bH y)(I:cJ (wn l q u) d y)(hd:d<=1099511627776)(aZ: ∃B,vB= .cX B 0 y.am.aK.length)(hn:cW=n/\n<4)(Uf:(bO y n).im=2)(rH:0<=z/\z<=15)(gI:bp.length=(dc z).length)(aM:fg bp)(ih:oA (wl P O Y Q W U dy)=true)(hx:qs (wl P O Y Q W U dy)): ∃v h' k',df X 198 [iB l q u,.ptr b 0 0,i7 cW cC cu cg dM z bp bS,lc P O Y Q W U dy] h k=some (v,h',k')/\kL (wn l q u) d (tI (wn l q u) y n (v_ cW cC cu cg dM z bp bS) (wl P O Y Q W U dy)) y.am h k b vB C L T ids bH v h' k':=by
 obtain⟨rfl,n4⟩:=hn;obtain⟨g,LL⟩:=x_ (tI (wn l q u) y n ⟨(n:Int),cC,cu,cg,dM,z,bp,bS⟩ (wl P O Y Q W U dy));rw[LL];have hl:=H.len;have nr:n<y.ce.length:=ab
 have Z:(n:Int)<4:=ab
 have hA:=I.lq n nr;have hR:=H.Ad n nr;have hg:=eU (ids:=bH) nr;have hT:=H.lq;have kz:=eX bH y.ce;rw[hl]at kz;have f:=H.uG;unfold iF at f;rw[hl]at f;have zp:bO y n=y.ce[n]:=eL nr;obtain⟨D,mQ⟩:=x_ y.ce[n];rw[zp,mQ]at Uf;rw[mQ]at hA hR;simp only[mQ]at hg;have h8:=hA.bK;obtain⟨s1,s3,s4,hM,s6⟩:=H.mL n n4;have hS: ¬T=bH n:=fun e=>hM e.symm;have s1': ¬b=bH n:=fun e=>s1 e.symm;obtain⟨u1,u2,u3,u4⟩:=H.yG;have u1': ¬b=T:=fun e=>u1 e.symm;have iS:=H.mem.lt;have q1: ∀j,¬b=k+j:=fun j=>ab
 have q2: ∀j,¬T=k+j:=fun j=>ab
 have cm: ∀j,¬bH n=k+j:=fun j=>ab
 have q4: ∀j,¬k+j=b:=fun j=>ab
 have q5: ∀j,¬k+j=T:=fun j=>ab
 have q6: ∀j,¬k+j=bH n:=fun j=>ab
 have l1: ∀j,T<k+j:=fun j=>ab
 have l2: ∀j,bH n<k+j:=fun j=>ab
 have l3: ∀j,b<k+j:=fun j=>ab
 have he: ¬b=k:=ab
 have ho: ¬T=k:=ab
 have hv: ¬bH n=k:=ab
 have K:=I.lay;have bs:=K.len;simp only at K bs;obtain⟨B,Nj,hk,⟨nB1,nB2,a2u,nB3,nBk⟩,nBi,nBr⟩: ∃B,vB= .cX B 0 y.am.aK.length/\h B=some ⟨1,y.am.aK.map (V.int .i64),false⟩/\(B≠b/\B≠C/\B≠L/\B≠T/\B<k)/\(∀j,j<4->ids j≠B)/\ ∀i,i<4->bH i≠B:=by
  rcases H.aK with e|e
  .obtain⟨_,e2⟩:=aZ;rw[e]at e2;cases e2
  .exact e
 subst Nj;have hr: ∀j,¬B=k+j:=fun j=>ab
 have an: ¬B=k:=ab
 have uX:W.length<=1000000000:=bq
 have hc:=mu (aK:=y.am.aK) (key:=y.am.key) (ax:=q) hx.iW;obtain⟨⟨ct,aa⟩,w,J⟩: ∃c w,raw y.am.aK y.am.key q ⟨P,O,Y,Q⟩=(c,w):=⟨_,_,rfl⟩;simp only[J]at hc;by_cases e4:w=0
 case neg=>
  refine ip ?_;simp[X6,f,hT,Z,K,hk,hr,an,q1,q2,he,ho,J,e4];exact kL.same H I (by rw[<-LL];unfold tI;exact if_neg fun h=>e4 (by simp only[J]at h;exact h)) aC
 subst e4;have aE:tI (wn l q u) y n ⟨(n:Int),cC,cu,cg,dM,z,bp,bS⟩ (wl P O Y Q W U dy)=(pf (wn l q u) y ⟨(n:Int),cC,cu,cg,dM,z,bp,bS⟩ (wl P O Y Q W U dy)).bind fun mem=>rW (wn l q u) ⟨y.am,mem,y.ce⟩ n ⟨ct,aa⟩ ⟨(n:Int),cC,cu,cg,dM,z,bp,bS⟩ (wl P O Y Q W U dy):=by
  unfold tI;rw[if_pos (by simp only[J])];simp only[J]
 rw[LL]at aE;have pd:pf (wn l q u) y ⟨(n:Int),cC,cu,cg,dM,z,bp,bS⟩ (wl P O Y Q W U dy)=none->g=none:=fun h=>by rw[aE,h];rfl
 have n1: ∀mem:aD,bO (⟨y.am,mem,y.ce⟩:aN) n=D:=fun mem=>by
  rw[show bO (⟨y.am,mem,y.ce⟩:aN) n=y.ce[n] from eL nr,mQ]
 have b16:kv z=2->z=2\/z=14:=fun h=>by
  rcases mn rH with rfl|rfl|rfl|rfl|rfl|rfl|rfl|rfl|rfl|rfl|rfl|rfl|rfl|rfl|rfl|rfl<;>revert h<;>decide
 by_cases hp:kv z=2/\0<(W.length:Int)
 case pos=>
  have avp:=b16 hp.1;have a': ¬z=12:=ab
  have cD: ¬z=10:=ab
  have gX:=hp.1;have bq7:=hp.2;have ff:0<W.length:=ab
  obtain⟨a0,⟨dz,HA,Zh,t⟩,a2,rfl⟩:=OV (show bp.length=3 by rcases avp with rfl|rfl<;>exact gI);by_cases hy:proper q ⟨dz,HA,Zh,t⟩=true
  case neg=>
   refine ip ?_;simp[X6,f,hT,Z,K,hk,hr,an,q1,q2,he,ho,J,gX,ff,hy,fd.cN];exact kL.same H I (pd (by unfold pf;rw[if_pos ⟨gX,ff⟩];exact if_neg fun h=>hy h.1)) aC
  by_cases cL:dz=1
  case neg=>
   refine ip ?_;simp[X6,f,hT,Z,K,hk,hr,an,q1,q2,he,ho,J,gX,ff,hy,cL,fd.cN];exact kL.same H I (pd (by unfold pf;rw[if_pos ⟨gX,ff⟩];exact if_neg fun h=>cL h.2)) aC
  have bch:(dz=1)=True:=eq_true cL;have bci:inside q Zh t=true:=by
   have:=hy;unfold proper at this;simp[cL]at this;exact this.2
  obtain⟨M,g4,rfl,o1,o2⟩:=iK.1 bci;have JN:pf (wn l q u) y ⟨(n:Int),cC,cu,cg,dM,z,[a0,⟨dz,HA,M,t⟩,a2],bS⟩ (wl P O Y Q W U dy)=wx y.am.aK y.am.key q (M:Int) t W y.gt:=by
   unfold pf;rw[if_pos ⟨gX,ff⟩];exact if_pos ⟨hy,cL⟩
  have mW: ∀R:aN,R.am=y.am->R.ce=y.ce->pf (wn l q u) y ⟨(n:Int),cC,cu,cg,dM,z,[a0,⟨dz,HA,M,t⟩,a2],bS⟩ (wl P O Y Q W U dy)=some R.gt->g=some (ie R R.gt n (jY D ⟨ct,aa⟩)):=fun R e1 e2 e3=>by
   rw[aE,e3];show rW _ _ _ _ _ _=_;unfold rW;rw[if_neg a',if_neg fun h=>cD h.1,n1];unfold ie;simp only[e1,e2]
  have qL:=K.sz.elem M g4;have nh:M<y.am.aK.length:=ab
  have T8:=K.base M nh g4;have a35:=eq_true bs;have r1:=hx.len;simp only at r1;have FB: ∀i (h:i<y.am.aK.length), -1000<=y.am.aK[i]/\y.am.aK[i]<=1000:=fun i p=>by have:=K.base i p ab;have:=K.sz.elem i ab;omega
  have aW: ∀i (h:i<q.length),q[i]<=1000:=fun i p=>by have:=K.sz.elem i p;omega
  refine ip ?_;simp[X6,f,hT,Z,K,hk,hr,an,q1,q2,he,ho,J,gX,ff,hy,bch,fd.cN];refine nG (H' (wn l q u) d y.gt y.am h k b (.cX B 0 y.am.aK.length) C L T ids bH n y.ce ((iB l q u:V)) ((i7 (n:Int) cC cu cg dM z [a0,(⟨dz,HA,M,t⟩:fd),a2] bS:V)) ((lc P O Y Q W U dy:V)) ct aa W M t) W.length ?_ 0 ai ?_
  .rintro i S p ⟨R,S',⟨e9,f4,f6,f7,f9,bE,bT,n0,hs,hf⟩,⟨v',z1,z2,z3,cF⟩,dN,ht,lay,fv,Uu,hK,ay,cZ⟩;have aR: ∀j,j<4->S' j=ids j\/k<=S' j:=fun j r=>by rcases ay j r with e|e;exact .inl e;exact .inr ab
   have ku:=dN.uG;unfold iF at ku;rw[lay,fv,hl]at ku;have tT:=dN.lq;rw[fv]at tT;have tR:=dN.Ad n (by rw[fv];exact nr);simp only[fv,mQ]at tR;have tB:S.h B=some ⟨1,y.am.aK.map (V.int .i64),false⟩:=by
    rcases dN.aK with e|⟨B',e,g,_⟩
    .cases e
    .simp only[V.cX.injEq]at e;obtain⟨rfl,_,_⟩:=e;rw[g,lay]
   have Z1:=dN.mem.lt;have m1: ∀j,¬b=S.n+j:=fun j=>ab
   have m2: ∀j,¬T=S.n+j:=fun j=>ab
   have m3: ∀j,¬bH n=S.n+j:=fun j=>ab
   have n2: ∀j,¬B=S.n+j:=fun j=>ab
   have m5: ∀a j,a<72-> ¬k+a=S.n+j:=fun a j ha=>ab
   have mH: ∀j,¬k=S.n+j:=fun j=>ab
   have m1z: ¬b=S.n:=ab
   have m2z: ¬T=S.n:=ab
   have m3z: ¬bH n=S.n:=ab
   have m4z: ¬B=S.n:=ab
   have m5z: ∀a,a<72-> ¬k+a=S.n:=fun a ha=>ab
   have m6z: ¬k=S.n:=ab
   by_cases iS:i<W.length
   case neg=>
    obtain rfl:i=W.length:=ab
    simp[X6,hg,kz,h8,n4,hS,f6,f9,bE,hs,hf,z1,z3,tT,tR,a',cD];refine kL.O' (x:=jY D ⟨ct,aa⟩) dN ht (mW R lay fv (JN.trans (Uu.trans fE))) lay ab aR cZ ?_ n4 (vz hA hc) ?_ ?_
    .simp only[cx]
    .rw[fv,qB bH n D _ h8]
    .simp[jY,ac.cN]
   have cz:(i:Int)<W.length:=ab
   have f2:=Uu;rw[w6 iS]at f2;obtain⟨⟨d1,d2,d3,d4⟩,b'⟩: ∃c,W[i]=c:=⟨_,rfl⟩;have E3:yN ⟨d1,d2,d3,d4⟩:=b'▸hx.ap _ (rx iS);have DJ:=mu (aK:=y.am.aK) (key:=y.am.key) (ax:=q) E3;obtain⟨⟨o,E⟩,w1,N⟩: ∃c w,raw y.am.aK y.am.key q ⟨d1,d2,d3,d4⟩=(c,w):=⟨_,_,rfl⟩;simp only[N]at DJ;by_cases hz:w1=0
   case neg=>
    simp[X6,K,m1,n2,mH,e9,f4,n0,hs,hf,v',ku,tB,iS,cz,b',N,hz];exact kL.K6 dN ht (pd (JN.trans (f2.trans (by rw[oW];exact if_neg fun h=>hz (by have h1:=h.1;rw[b',N]at h1;exact h1))))) lay ab aR cZ cA
   subst hz;cases m7:inside q (M:Int) (t+i) with
   |false=>
    simp[X6,K,m1,n2,m5,mH,e9,f4,bT,n0,hs,hf,v',cF,ku,tB,iS,cz,b',N,m7];exact kL.K6 dN ht (pd (JN.trans (f2.trans (by rw[oW];exact if_neg fun h=>by have h1:=h.2;rw[m7]at h1;cases h1)))) lay ab aR cZ cA
   |true=>
    obtain⟨h6,bcj,e1,o3,o4⟩:=iK.1 m7;obtain rfl:M=h6:=ab
    have Zd:=z_ (t+i+1);have iO:=o7 i ab;obtain⟨av,h4⟩: ∃av:Nat,nth y.am.aK M+(t+i)=av:=⟨(nth y.am.aK M+(t+i)).toNat,by rw[dA nh];omega⟩;have JX:av<512:=by rw[dA nh]at h4;omega
    have jw: ∀(h1:bI) (j:Nat),Below S.n S.h h1->df X 251 [.ptr b 0 2,(av:Int),pi o E] h1 (S.n+j)=some (.ed [],cH 251 [.ptr b 0 2,(av:Int),pi o E] h1 (S.n+j),cK 251 [.ptr b 0 2,(av:Int),pi o E] h1 (S.n+j))/\
      ∃gU,dQ (cH 251 [.ptr b 0 2,(av:Int),pi o E] h1 (S.n+j)) (cK 251 [.ptr b 0 2,(av:Int),pi o E] h1 (S.n+j)) b (.cX B 0 y.am.aK.length) C L T gU bH ⟨R.am,ke R.gt av ⟨o,E⟩,R.ce⟩/\S.n+j<=cK 251 [.ptr b 0 2,(av:Int),pi o E] h1 (S.n+j)/\(∀j,j<4->gU j=S' j\/S.n<=gU j)/\
       ∀x,x<S.n+j->x≠C->x≠L->(∀j,j<4->x≠S' j)->cH 251 [.ptr b 0 2,(av:Int),pi o E] h1 (S.n+j) x=h1 x:=fun h1 j jz=>by
     have HH:dQ h1 (S.n+j) b (.cX B 0 y.am.aK.length) C L T S' bH R:=dN.mono ab jz;obtain⟨h',k',gK,e,G,g1,g2,g3⟩:=UC .bad 0 o E h1 (S.n+j) b C L S' _ _ _ R.gt av ⟨o,E⟩ HH.mem JX DJ.oG;have e:df X 251 [.ptr b 0 2,(av:Int),pi o E] h1 (S.n+j)=some (.ed [],h',k'):=e;obtain⟨e1,e2⟩:=wi e;rw[e1,e2];exact⟨e,gK,HH.gt g1 G g2 g3,g1,fun j r=>hO,g3⟩
    have HM:wx y.am.aK y.am.key q (M:Int) t W y.gt=wx y.am.aK y.am.key q (M:Int) (t+((i+1:Nat):Int)) (W.drop (i+1)) (ke R.gt av ⟨o,E⟩):=by
     rw[f2,oW,b',N,if_pos ⟨rfl,m7⟩,X7,h4,X7,show t+((i+1:Nat):Int)=t+i+1 from ab]
    have cl:=fun h1 j jz=>(jw h1 j jz).1;have cI: ∀a,a<72-> ∀j,j<4-> ¬k+a=S' j:=fun a ha j r=>by
     rcases ay j r with e|e
     .have:=H.mem.lt.2.2.2 j r;omega
     .omega
    have ρ: ∀(h1:bI) (j:Nat),Below S.n S.h h1->cH 251 [.ptr b 0 2,(av:Int),pi o E] h1 (S.n+j) (k+50)=some ⟨2,[uS (M:Int) (t+i)],true⟩:=fun h1 j jz=>by
     obtain⟨_,_,_,_,_,g⟩:=jw h1 j jz;rw[g (k+50) ab ab ab (cI 50 ab),jz _ ab,cF]
    simp[X6,K,a35,FB,aW,m1,n2,m5,mH,cx,cE,e9,f4,bT,n0,hs,hf,v',cF,ku,tB,iS,cz,b',N,m7,h4,Zd,iO,cl,ρ];have fin: ∀(F:Nat->V) (kk:bI),Below S.n S.h kk->(F 1= .ptr b 0 0/\F 4= .ptr k 0 0/\F 6= .ptr (k+1) 0 0/\F 7= .ptr (k+2) 0 0/\F 9= .ptr T n 0/\F 10= .ptr (k+24) 0 0/\F 12= .ptr (k+50) 0 0/\F 80=W/\F 81= .int .i64 W.length/\F 82= .int .i64 ((i:Int)+1))->
      H' (wn l q u) d y.gt y.am h k b (.cX B 0 y.am.aK.length) C L T ids bH n y.ce ((iB l q u:V)) ((i7 (n:Int) cC cu cg dM z [a0,(⟨dz,HA,M,t⟩:fd),a2] bS:V)) ((lc P O Y Q W U dy:V)) ct aa W M t (i+1) ⟨F,bB (cH 251 [.ptr b 0 2,(av:Int),pi o E] kk (S.n+47)) (k+50) (some ⟨2,[uS (M:Int) (t+i+1)],true⟩),cK 251 [.ptr b 0 2,(av:Int),pi o E] kk (S.n+47)+7⟩:=fun F kk hB fF=>by
     obtain⟨_,gU,G,g1,g2,g3⟩:=jw kk 47 hB;have fr: ∀x,x<S.n->x≠C->x≠L->(∀j,j<4->x≠S' j)->cH 251 [.ptr b 0 2,(av:Int),pi o E] kk (S.n+47) x=S.h x:=fun x S5 b1 e0 fG=>by rw[g3 x ab b1 e0 fG,hB x S5]
     have nC:=H.mem.lt;have NM: ∀j,j<4->gU j=ids j\/k+72<=gU j:=fun j r=>by
      rcases g2 j r with e|e
      .rw[e];exact ay j r
      .right;omega
     refine⟨⟨R.am,ke R.gt av ⟨o,E⟩,R.ce⟩,gU,fF,⟨?_,?_,?_,?_,?_⟩,?_,⟨ht.prog,ht.lay,ht.key,ht.mem.store JX DJ,ht.len,ht.lq,fun g=>rM ht.mem.mem (ht.Ia g) JX (by unfold FJ;rw[<-h4,<-lay,dA du];rw[qp ht.lay du bcj o3 o4];simp) _⟩,lay,fv,HM,aB,NM,?_⟩
     .have:=fr k ab ab ab (fun j r=>by have:=cI 0 ab j r;simpa using this);simp[bB,this,v']
     .have:=fr (k+1) ab ab ab (cI 1 ab);simp[bB,this,z1]
     .have:=fr (k+2) ab ab ab (cI 2 ab);simp[bB,this,z2]
     .have:=fr (k+24) ab ab ab (cI 24 ab);simp[bB,this,z3]
     .have e:t+(i:Int)+1=t+((i+1:Nat):Int):=ab
      simp[bB,e]
     .refine G.other (a:=k+50) (JQ _ _) ⟨ab,ab,ab,ab⟩ (fun j r=>⟨?_,?_⟩) (fun B' s n e=> ?_) (fun x _ hx=>by simp[bB,hx])
      .rcases NM j r with e|e
       .have:=nC.2.2.2 j r;omega
       .omega
      .have:=(H.mL j r).2.2.2.2;omega
      .cases e;omega
     .intro x S5 b1 e0 fG hC;have mS: ¬x=k+50:=ab
      simp only[bB,mS,if_false];rw[fr x ab b1 e0 (fun j r=> ?_),cZ x S5 b1 e0 fG hC];rcases ay j r with e|e
      .rw[e];exact(hC j r).1
      .omega
    refine fin _ _ ?_ ?_
    .simp only[cx,cE]
    .simp[bB,e9,f4,f6,f7,f9,bE,bT,n0,hs]
  .refine⟨y,ids,?_,?_,?_,I,rfl,rfl,ai,?_,fun _ _=> .inl rfl,?_⟩
   .simp[bB]
   .simp[bB,fd.cN]
   .refine H.mono aB ?_;show Below k h _;exact ng
   .exact nE
   .intro x hx _ _ _ _;have e: ∀H:bI,Below k h H->H x=h x:=fun H hB=>hB x hx;refine e _ ?_;exact ng
 have A: ∀{g2:Option aN},rW (wn l q u) y n ⟨ct,aa⟩ ⟨(n:Int),cC,cu,cg,dM,z,bp,bS⟩ (wl P O Y Q W U dy)=g2->g=g2:=fun e=>by
  rw[aE,show pf (wn l q u) y ⟨(n:Int),cC,cu,cg,dM,z,bp,bS⟩ (wl P O Y Q W U dy)=some y.gt by unfold pf;exact if_neg fun h=>hp ⟨h.1,by have:=h.2;simp only at this;omega⟩];exact e
 have aP: ∀(c:ac) (a:Int),dY bH n (wv D c a)= (ro 1 (.cX (bH n) 0 8) D.pc D.ia a D.iw D.dD D.hw:V):=fun c a=>Mv bH n D c a h8;by_cases f3:z=12
 .subst f3;have ts: ¬kv 12=2:=aG
  obtain⟨⟨at_,av,ar,ao⟩,rfl⟩:=OT (show bp.length=1 from gI);have bP:=aM _ (t5);have bL:IntKind.i64.wrap av=av:=wrap_i64 eB;by_cases ha:255<av
  .refine ip ?_;simp[X6,f,hT,Z,K,hk,hr,an,q1,q2,he,ho,J,ts,bL,ha];exact kL.same H I (A (by unfold rW;rw[if_pos rfl];exact if_neg fun h=>by have h2:=h.2;simp only[jk,vH]at h2;omega)) aC
  by_cases hq:at_=0
  case neg=>
   refine ip ?_;simp[X6,f,hT,Z,K,hk,hr,an,q1,q2,he,ho,J,ts,bL,ha,hq];exact kL.same H I (A (by unfold rW;rw[if_pos rfl];exact if_neg fun h=>hq h.1)) aC
  have Ix:=eq_true hq;refine ip ?_;simp[X6,f,hT,hR,hg,kz,h8,n4,Z,K,hk,hr,an,hM,hS,q1,q2,cm,q5,he,ho,hv,J,ts,bL,ha,Ix];refine kL.Pb (x:=wv D ⟨ct,aa⟩ av) H I (A (by unfold rW;rw[if_pos rfl,if_pos ⟨hq,by simp only[jk,vH];omega⟩,n1];rfl)) ?_ n4 (PM hA hc f0) ?_ ?_
  .exact ng
  .rw[aP]
  .simp[wv,ac.cN]
 have ae:=vz hA hc;have ah: ∀(c:ac),dY bH n (jY D c)= (ro 1 (.cX (bH n) 0 8) D.pc D.ia D.db D.iw D.dD D.hw:V):=fun c=>qB bH n D c h8;by_cases h5:z=10
 case neg=>
  by_cases FX:kv z=2
  case neg=>
   refine ip ?_;simp[X6,f,hT,hR,hg,kz,h8,n4,Z,K,hk,hr,an,hS,q1,q2,cm,he,ho,hv,J,FX,f3,h5];refine kL.put (x:=jY D ⟨ct,aa⟩) H I (A d7) ?_ n4 ae ?_ ?_
   .exact ng
   .rw[ah]
   .simp[jY,ac.cN]
  have GZ: ¬0<W.length:=fun h=>hp ⟨FX,ab⟩;have brg: ¬0<(W.length:Int):=ab
  refine ip ?_;simp[X6,f,hT,hR,hg,kz,h8,n4,Z,K,hk,hr,an,hS,q1,q2,cm,he,ho,hv,J,FX,GZ,f3,h5];refine kL.put (x:=jY D ⟨ct,aa⟩) H I (A d7) ?_ n4 ae ?_ ?_
  .exact ng
  .rw[ah]
  .simp[jY,ac.cN]
 subst h5;have dF: ¬kv 10=2:=aG
 by_cases hh:0<=U
 case neg=>
  refine ip ?_;simp[X6,f,hT,hR,hg,kz,h8,n4,Z,K,hk,hr,an,hS,q1,q2,cm,he,ho,hv,J,dF,hh];refine kL.put (x:=jY D ⟨ct,aa⟩) H I (A (by unfold rW;rw[if_neg (show¬(10:Int)=12 by decide),if_neg fun h=>hh h.2,n1])) ?_ n4 ae ?_ ?_
  .exact ng
  .rw[ah]
  .simp[jY,ac.cN]
 obtain⟨s,rfl⟩:=jp hh;have cQ:s<4:=by
  unfold oA at ih;simp only[X8,decide_eq_true_eq]at ih;omega
 have lu:(s:Int)<4:=ab
 have ak:s<y.ce.length:=ab
 have lz:=eU (ids:=bH) ak;obtain⟨⟨at_,av,ar,ao⟩,⟨bt,bv,br,bo⟩,rfl⟩:=OU (show bp.length=2 from gI);have bP:=aM _ (t5);have ag0:=aM ⟨bt,bv,br,bo⟩ ai;have DO:=mu (aK:=y.am.aK) (key:=y.am.key) (ax:=q) ag0;obtain⟨⟨et,ev⟩,w1,N⟩: ∃c w,raw y.am.aK y.am.key q ⟨bt,bv,br,bo⟩=(c,w):=⟨_,_,rfl⟩;simp only[N]at DO;have bL:IntKind.i64.wrap av=av:=wrap_i64 eB;by_cases hz:w1=0
 case neg=>
  refine ip ?_;simp[X6,f,hT,Z,K,hk,hr,an,q1,q2,he,ho,J,dF,N,hz];exact kL.same H I (A (by unfold rW;rw[if_neg (show¬(10:Int)=12 by decide),if_pos ⟨rfl,hh⟩];exact if_neg fun h=>hz (by have h1:=h.1;simp only[jk,yZ,vH,N]at h1;exact h1))) aC
 subst hz;by_cases hE:(y.ce[s]).im=0
 case neg=>
  refine ip ?_;simp[X6,f,hT,kz,Z,K,hk,hr,an,q1,q2,he,ho,J,dF,N,lz,cQ,lu,hE];exact kL.same H I (A (by unfold rW;rw[if_neg (show¬(10:Int)=12 by decide),if_pos ⟨rfl,hh⟩];exact if_neg fun h=>hE (by have h1:=h.2.1;simp only[X7]at h1;rw[show bO (⟨y.am,y.gt,y.ce⟩:aN) s=y.ce[s] from eL ak]at h1;exact h1))) aC
 have Iy:=eq_true hE;by_cases ha:255<av
 .refine ip ?_;simp[X6,f,hT,kz,Z,K,hk,hr,an,q1,q2,he,ho,J,dF,N,bL,lz,cQ,lu,Iy,ha];exact kL.same H I (A (by unfold rW;rw[if_neg (show¬(10:Int)=12 by decide),if_pos ⟨rfl,hh⟩];exact if_neg fun h=>by have h2:=h.2.2.1;simp only[jk,vH]at h2;omega)) aC
 by_cases hq:at_=0
 case neg=>
  refine ip ?_;simp[X6,f,hT,kz,Z,K,hk,hr,an,q1,q2,he,ho,J,dF,N,bL,lz,cQ,lu,Iy,ha,hq];exact kL.same H I (A (by unfold rW;rw[if_neg (show¬(10:Int)=12 by decide),if_pos ⟨rfl,hh⟩];exact if_neg fun h=>hq h.2.2.2)) aC
 have Ix:=eq_true hq;have l9: ¬s=n:=fun e=>by subst e;rw[mQ]at hE;rw[hE]at Uf;cases Uf
 have kK: ¬n=s:=fun e=>l9 e.symm;obtain⟨hN,eN,fN⟩:=UB av et ev (k+114);simp only[X6,Nat.reduceAdd]at eN fN;refine ip ?_;simp[X6,f,hT,hR,hg,kz,h8,n4,Z,K,hk,hr,an,hM,hS,q1,q2,cm,q5,he,ho,hv,l1,l2,l3,J,dF,N,bL,lz,cQ,lu,Iy,ha,Ix,l9,eN];have PI:0<=d:=by have:=hA.ia;omega
 have a38:0<=av/\av<=255:=f0
 refine⟨true,ids,fun i=>if i=s then k+119 else bH i,⟨y.am,y.gt,(y.ce.set s (vE av ⟨et,ev⟩)).set n (jY D ⟨ct,aa⟩)⟩,rfl,H.ce ab c6 ?_ ?_ ?_ ?_ ?_,?_,rfl,A (by unfold rW;rw[if_neg (show¬(10:Int)=12 by decide),if_pos ⟨rfl,hh⟩,if_pos ⟨by simp only[jk,yZ,vH,N],by simp only[X7];rw[eL ak];exact hE,by simp only[jk,vH];omega,hq⟩,n1 y.gt];simp only[jk,yZ,vH,N,X7];rfl),ab,fun j _=>⟨.inl rfl,?_⟩,?_⟩
 .rw[MB (bH:=bH) ak nr l9 (fun j r=>if_neg r),ah];simp[bB,dY,vE]
 .intro i p;simp only[rm]at p;simp only[r6];by_cases m7:n=i
  .subst m7;simp[bB,kK,hM,jY,ac.cN]
  .by_cases h3:s=i
   .subst h3;have c1: ¬k+119=T:=ab
    have c2: ¬k+119=bH n:=ab
    simp[bB,kK,c1,c2,fN,vE]
   .have c1:=H.mL i ab;have c2:=H.BG i n ab n4 (fun e=>m7 e.symm);have c3:bH i<k+114:=ab
    have c4: ¬bH i=k+64:=ab
    have t': ¬bH i=k+24:=ab
    have w2: ¬bH i=k+2:=ab
    have m': ¬bH i=k+1:=ab
    have hI: ¬bH i=k:=ab
    have kg: ¬i=s:=fun e=>h3 e.symm;simp[bB,m7,h3,kg,c1.2.2.2.1,c2,c3,c4,t',w2,m',hI,H.Ad i p]
 .intro i p;by_cases h3:i=s
  .right;simp[h3]
  .left;simp[h3]
 .intro i j p r lM;have a1:=(H.mL i p).2.2.2.2;have a2:=(H.mL j r).2.2.2.2;by_cases h3:i=s
  .have lJ: ¬j=s:=fun e=>lM (h3.trans e.symm);simp only[h3,lJ,if_true,if_false];omega
  .by_cases lJ:j=s
   .simp only[h3,lJ,if_true,if_false];omega
   .simp only[h3,lJ,if_false];exact H.BG i j p r lM
 .intro i p JP lM;have c3:i<k+114:=ab
  have c4: ¬i=k+64:=ab
  have t': ¬i=k+24:=ab
  have w2: ¬i=k+2:=ab
  have m': ¬i=k+1:=ab
  have hI: ¬i=k:=ab
  have kg:=lM n n4;simp[bB,JP,c3,c4,t',w2,m',hI,kg]
 .refine⟨I.prog,I.lay,I.key,I.mem,c6,fun i p=> ?_,I.Ia⟩;simp only[rm]at p;simp only[r6];split
  .exact ae
  .split
   .exact Mu PI a38 DO
   .exact I.lq i p
 .by_cases h3:j=s
  .right;simp[h3]
  .left;simp[h3]
 .intro i p hiC hiL JP lM;have c3:i<k+114:=ab
  have c4: ¬i=k+64:=ab
  have t': ¬i=k+24:=ab
  have w2: ¬i=k+2:=ab
  have m': ¬i=k+1:=ab
  have hI: ¬i=k:=ab
  have kg:=(lM n n4).2;simp[bB,JP,c3,c4,t',w2,m',hI,kg]
noncomputable def cB(g:FuncId)(args:List V)(h:bI)(k:Nat):Bool:=match df X g args h k with|some (.bool b,_,_)=>b|_=>false
def Ga{g:FuncId}{b:Bool}(e:df X g args h k=some (.bool b,h',k')):cB g args h k=b:=by
 unfold cB;rw[e]
def pA.K6(H:ld h k S T vB vC vL es m)(G:cJ p d m)(e:r=(m,false))(B:Below k h h')(y:k<=k'):
  pA p d r h k S (.ed [rB vB m.am.key vC vL (.cX T 0 4),.bool false]) h' k':=by
 subst e;exact⟨S,T,vB,vC,vL,es,rfl,H.mono y fun i j=>B i (H.lt i j),G,y,B,fun i j=> .inl j⟩
def pA.zf(H:gA h' k' vB C L T ids bH m)(A:nH k vB C L T ids bH)(G:cJ p d m)(l:key=m.am.key)(e:r=(m,true))(B:Below k h h')(y:k<=k'):
  pA p d r h k S (.ed [rB vB key (.cX C 0 512) (.cX L 0 4) (.cX T 0 4),.bool true]) h' k':=by
 subst e l;exact⟨_,T,vB,_,_,_,rfl,.deep H,G,y,B,fun i j=> .inr (XS.PF A i j)⟩
def sK(W:n<ts.length)(h: ∀j,¬j=n->jA j=bH j):dn jA (ts.set n xn)=(dn bH ts).set n (dY jA n xn):=by
 apply tl;intro j;simp only[dn,vX,t3,DC];by_cases z:n=j
 .subst z;simp[W]
 .simp only[z,if_false];cases ts[j]? with
  |none=>rfl
  |some x=>simp[dY,h j (fun e=>z e.symm)]
@[simp]def F_(R:Int)(c:List ac)(i G d H f o dD hw:Int)(k:Nat)(m:c.length<=1000000000): ∃h',df X 195 [r7 R c i G d H f o,.int .i64 dD,.int .u16 hw] mg k=some ((ro 4 (.cX (k+10) 0 c.length) i G d H dD hw:V),h',k+25)/\h' (k+10)=some ⟨2,c.map ac.e,false⟩:=by
 obtain⟨h1,j,p⟩:=OS R c i G d H f o (k+6) m;simp only[X6,Nat.reduceAdd]at j p;obtain⟨v,h',n',e,q,w,E⟩:=bJ (X:=X) (g:=195) (args:=[(r7 R c i G d H f o:V),.int .i64 dD,.int .u16 hw]) (h:=mg) (k:=k) (K:=fun v h n=>v= (ro 4 (.cX (k+10) 0 c.length) i G d H dD hw:V)/\n=k+25/\h (k+10)=some ⟨2,c.map ac.e,false⟩) Tryz.func195 rfl rfl (by
  simp[X6,j,p])
 subst q;exact p1
@[simp]def Ii(u:List hu)(x:List Int)(w:List (List Int))(f:List Int)(D:Int)(E:List ac)(F:List cP)(Z:List gc)(kk C t A M y:Int)(p Y:List fd)(g z r J:Int)(W:List fd)(U:Int)(dy:Bool)(h:bI)(k:Nat)(S:Nat->Prop)(T:Nat)(vB vC vL:V)(es:List V)(d:Int)(N:ld h k S T vB vC vL es (w_ f D E F Z))(L:cJ (wn u x w) d (w_ f D E F Z))(hd:d<=1099511627776)(hn:p.length<=1000000000)(hf:Y.length<=1000000000)(g4:fg p)(hx:qs (wl g z r J W U dy)): ∃v h' k',df X 119 [iB u x w,rB vB D vC vL (.cX T 0 4),i7 kk C t A M y p Y,lc g z r J W U dy] h k=some (v,h',k')/\pA (wn u x w) d (jN (wn u x w) (w_ f D E F Z) (v_ kk C t A M y p Y) (wl g z r J W U dy)) h k S v h' k':=by
 have cm:=L.mono hd;have hv:fO (wn u x w) (w_ f D E F Z)=true:=cm.ok;have hp:=L.prog.lens;have ht:=L.lens;have hL:=L.lay;have gI:=N.row;have hc:=N.len;have hl:Z.length=4:=N.am0;have aE:=N.lt T N.XR;have dN:W.length<=1000000000:=bq
 have ay: ∀H,Below k h H->da H 11 vB=some (.sl false (f.map (V.int .i64))):=fun H hB=>(N.eA H (fun i l _=>hB i (N.lt i l)) 8).1;have hg: ∀H,Below k h H->da H 11 vC=some (.sl false (E.map ac.e)):=fun H hB=>(N.eA H (fun i l _=>hB i (N.lt i l)) 8).2.1;have mm: ∀H,Below k h H->da H 11 vL=some (.sl false (F.map cP.e)):=fun H hB=>(N.eA H (fun i l _=>hB i (N.lt i l)) 8).2.2.1;have cQ: ∀H,Below k h H->di (es.map (da H 10))=some (Z.map gc.e):=fun H hB=>(N.eA H (fun i l _=>hB i (N.lt i l)) 7).2.2.2;have hk:=UW hc;have q: ∀j,¬T=k+j:=fun j=>ab
 have h3: ¬T=k:=ab
 cases h2:ko (v_ kk C t A M y p Y) with
 |false=>
  refine ip ?_;simp[X6,hv,hp,ht,gI,hc,hn,hf,ay,hg,mm,cQ,hk,q,h3,cx,cE,cU,h2];exact pA.same N L (oX (fun h=>by have h1:=h.2.1;rw[h2]at h1;cases h1)) aC
 |true=>
 have h5:=h2;unfold ko at h5;simp only[X8,decide_eq_true_eq]at h5;obtain⟨h8,w1,_,_,_,_,_,_,_,_,iS,mi,_,_,_,_⟩:=h5;by_cases ku:C=1
 case neg=>
  refine ip ?_;simp[X6,hv,hp,ht,gI,hc,hn,hf,ay,hg,mm,cQ,hk,q,h3,cx,cE,cU,h2,ku];exact pA.same N L (oX (fun h=>ku h.2.2.1)) aC
 have g1:=eq_true ku;by_cases g2:(p.length:Int)=rL y
 case neg=>
  refine ip ?_;simp[X6,hv,hp,ht,gI,hc,hn,hf,ay,hg,mm,cQ,hk,q,h3,cx,cE,cU,h2,g1,g2];exact pA.same N L (oX (fun h=>g2 h.2.2.2.1)) aC
 have bP:=eq_true g2;have kz:p.length=(dc y).length:=by
  unfold rL at g2;rw[if_neg ab]at g2;omega
 cases hr:oA (wl g z r J W U dy) with
 |false=>
  refine ip ?_;simp[X6,hv,hp,ht,gI,hc,dN,hn,hf,ay,hg,mm,cQ,hk,q,h3,cx,cE,cU,h2,g1,bP,hr];exact pA.same N L (oX (fun h=>fc)) aC
 |true=>
 obtain⟨n,rfl⟩:=jp h8;have n4:n<4:=ab
 have g3:(n:Int)<4:=ab
 have he:n<Z.length:=ab
 have hA:n<es.length:=ab
 obtain⟨vR,bs⟩:=N.avb n hA he;simp only at bs;have fv:bO (w_ f D E F Z) n=Z[n]:=eL he;by_cases hs:(Z[n]).im=2
 case neg=>
  refine ip ?_;simp[X6,hv,hp,ht,gI,hc,dN,hn,hf,ay,hg,mm,cQ,hk,q,h3,cx,cE,cU,h2,g1,bP,hr,n4,g3,bs,hs];exact pA.same N L (oX (fun h=>hs (by have h1:=h.2.2.2.2.2;simp only[X7]at h1;rw[fv]at h1;exact h1))) aC
 have dF:=eq_true hs;have q1:qv (wn u x w) (w_ f D E F Z) ⟨n,C,t,A,M,y,p,Y⟩ (wl g z r J W U dy):=⟨hv,h2,ku,g2,hr,by simp only[X7];rw[fv];exact hs⟩;obtain⟨mQ,h1,k1,ts,e0,ev,HA,ho⟩:=A3 f D E F Z (k+48) (wn u x w) _ cm;subst e0;subst ev;simp only[X6,Nat.reduceAdd]at ts HA ho;have R:=HA.pure;have gX:=R.lq;have hz:=R.Ad n he;simp only at gX hz;have hC:=eX (mF (k+166) (k+185) (k+204) (k+223)) Z;rw[hl]at hC;have hR:=eU (ids:=(mF (k+166) (k+185) (k+204) (k+223))) he;have n0:=(cm.lq n he).bK;simp only at n0;have a1:=(ho.2.1 n n4).2;have a2:=(R.mL n n4).2.2.1;have a3:=(R.mL n n4).2.2.2;obtain⟨I,hI⟩:=x_ ((mF (k+166) (k+185) (k+204) (k+223)) n);rw[hI]at hz a1 a2 a3;simp only[hI]at hR;have b1: ∀j,j<48-> ¬I=k+j:=fun j _=>ab
 have l9: ∀j,j<48-> ¬k+j=I:=fun j _=>ab
 have aM: ¬I=k+230:=a2;have cF: ¬k+230=I:=fun e=>a2 e.symm;have a': ¬I<k+48:=ab
 have nh:I<k+260:=ab
 have aP: ¬I=k:=ab
 have l1: ¬k=I:=ab
 have dz: ∀i,i<k->i<k+48/\(∀j,¬i=k+j)/\ ¬i=k/\ ¬i=I:=fun i l=>⟨ab,fun j=>ab,ab,ab⟩;by_cases S':y=0
 .subst S';have ha:0<p.length:=by rw[kz];decide
  obtain⟨⟨at_,av,h6,mH⟩,jz⟩: ∃c,p[0]=c:=⟨_,rfl⟩;have q2:yN ⟨at_,av,h6,mH⟩:=jz▸g4 _ (rx ha);have l2:List.take 8 ((Z[n]).bK.map ac.e)=(Z[n]).bK.map ac.e:=bQ (by simp[n0]);obtain⟨hE,cD,kK⟩:=F_ (Z[n]).im (Z[n]).bK (Z[n]).pc (Z[n]).ia (Z[n]).db (Z[n]).iw (Z[n]).dD (Z[n]).hw 0 av (k+260) ab;simp only[X6,Nat.reduceAdd,n0]at cD kK;refine ip ?_;simp[X6,hl,hv,hp,ht,gI,hc,dN,hn,hf,ay,hg,mm,cQ,hk,q,h3,cx,cE,cU,h2,g1,bP,hr,n4,g3,bs,dF,ts,fI,gM,uj,gX,hz,hC,hR,n0,b1,a',ha,jz,cD,l2,Ms,Gf,Gg,vA,yp];have Q: ∀i,i<4-> ¬i=n->k+48<=(mF (k+166) (k+185) (k+204) (k+223)) i/\(mF (k+166) (k+185) (k+204) (k+223)) i<k+238/\(mF (k+166) (k+185) (k+204) (k+223)) i≠k+230:=fun i l _=>⟨(ho.2.1 i l).2,(R.mL i l).2.2.2,(R.mL i l).2.2.1⟩;have ih:jN (wn u x w) (w_ f D E F Z) ⟨n,C,t,A,M,0,p,Y⟩ (wl g z r J W U dy)=(⟨⟨f,D⟩,⟨E,F⟩,Z.set n (xJ Z[n] av)⟩,true):=by
   unfold jN;rw[if_pos q1,if_pos rfl];simp only[X7,fv,jk,List.getD,rk ha,jz,tj]
  refine pA.new (m:=⟨⟨f,D⟩,⟨E,F⟩,Z.set n (xJ Z[n] av)⟩) (bH:=fun i=>if i=n then k+270 else(mF (k+166) (k+185) (k+204) (k+223)) i) (gA.ce (a:=k+48) R ho ab c6 ?_ ?_ ?_ ?_ ?_) ?_ ?_ rfl ih ?_
  .rw[sK (bH:=(mF (k+166) (k+185) (k+204) (k+223))) he (fun j P=>if_neg P)];simp[bB,dY,xJ,n0]
  .intro i l;simp only[rm]at l;simp only[r6];by_cases O:n=i
   .subst O;simp[bB,kK,j6,xJ];exact fun _ _=>rfl
   .have f3: ¬i=n:=fun e=>O e.symm;obtain⟨gU,o2,e9⟩:=Q i ab f3;have cL:=R.Ad i l;simp only at cL;have c1: ¬(mF (k+166) (k+185) (k+204) (k+223)) i=k+4:=ab
    have c2:(mF (k+166) (k+185) (k+204) (k+223)) i<k+260:=ab
    have c3: ¬(mF (k+166) (k+185) (k+204) (k+223)) i=k+46:=ab
    have c4: ¬(mF (k+166) (k+185) (k+204) (k+223)) i<k+48:=ab
    simp only[O,f3,if_false];simp only[bB,c1,c2,c3,c4,e9,if_false,if_true];exact cL
  .intro i l;by_cases O:i=n
   .right;simp[O]
   .left;simp[O]
  .intro i j l P lM;by_cases O:i=n
   .have h4: ¬j=n:=fun e=>lM (O.trans e.symm);have:=Q j P h4;simp only[O,h4,if_true,if_false];omega
   .by_cases h4:j=n
    .have:=Q i l O;simp only[O,h4,if_true,if_false];omega
    .simp only[O,h4,if_false];exact R.BG i j l P lM
  .intro i jw aW bL mS;have c1: ¬i=k+4:=ab
   have c2:i<k+260:=ab
   have c3: ¬i=k+46:=ab
   have c4: ¬i<k+48:=ab
   simp only[bB,c1,c2,c3,c4,bL,if_false,if_true]
  .obtain⟨⟨t',w2,kg⟩,cz,b'⟩:=ho;refine⟨⟨ab,ab,ab⟩,fun j P=>⟨by have:=cz j P;omega,?_⟩,fun B s n e=>by have:=b' B s n e;omega⟩;by_cases O:j=n
   .simp[O]
   .have:=cz j P;simp only[O,if_false];omega
  .refine⟨L.prog,L.lay,L.key,L.mem,c6,fun i l=> ?_,L.Ia⟩;simp only[rm]at l;simp only[r6];split
   .exact Mw (L.lq n he) q2
   .exact L.lq i l
  .intro i l;obtain⟨e1,e2,e3,e4⟩:=dz i l;have f2:i<k+260:=ab
   simp[bB,e1,e2,e3,f2]
 cases dy with
 |true=>
  refine ip ?_;simp[X6,hl,hv,hp,ht,gI,hc,dN,hn,hf,ay,hg,mm,cQ,hk,q,h3,cx,cE,cU,h2,g1,bP,hr,n4,g3,bs,dF,ts,fI,gM,uj,gX,hC,hR,n0,S'];have ih:jN (wn u x w) (w_ f D E F Z) ⟨n,C,t,A,M,y,p,Y⟩ ⟨⟨g,z,r,J⟩,W,U,true⟩=(ie (w_ f D E F Z) (aN.gt (w_ f D E F Z)) n (sI Z[n]),true):=by
   unfold jN;rw[if_pos q1,if_neg S',if_pos rfl];simp only[X7,fv]
  refine pA.new (m:=ie (w_ f D E F Z) (aN.gt (w_ f D E F Z)) n (sI Z[n])) (R.put ho ab n4 ?_ ?_ ?_) (ho.less ab) (pG L (tg _) L.mem L.Ia (Iv (L.lq n he))) rfl ih ?_
  .rw[<-gq he];simp[bB,dY,sI,n0,hI]
  .rw[hI];have u2: ¬I=k+4:=ab
   have lJ: ¬I=k+46:=ab
   simp[bB,aM,a',u2,lJ,sI,hz]
  .intro i jw aW bL mS;have c1: ¬i<k+48:=ab
   have c2: ¬i=k+4:=ab
   have c3: ¬i=k+46:=ab
   simp[bB,c1,c2,c3,bL]
  .intro i l;obtain⟨e1,e2,e3,e4⟩:=dz i l;simp[bB,e1,e2,e3]
 |false=>
 have f4:(bO (w_ f D E F Z) n).im=2:=by rw[eL he];exact hs
 have key: ∀(H:bI) (K:Nat),H (k+46)=some ⟨5,[rB (.cX (k+53) 0 f.length) D (.cX (k+68) 0 512) (.cX (k+147) 0 4) (.cX (k+230) 0 4)],true⟩->Cf (k+48) (fun i=>j6 (h1 i)) H->k+238<=K->
   df X 198 [iB u x w,.ptr (k+46) 0 0,i7 (n:Int) C t A M y p Y,lc g z r J W U false] H K=some (.bool (cB 198 [iB u x w,.ptr (k+46) 0 0,i7 (n:Int) C t A M y p Y,lc g z r J W U false] H K),cH 198 [iB u x w,.ptr (k+46) 0 0,i7 (n:Int) C t A M y p Y,lc g z r J W U false] H K,cK 198 [iB u x w,.ptr (k+46) 0 0,i7 (n:Int) C t A M y p Y,lc g z r J W U false] H K)/\cH 198 [iB u x w,.ptr (k+46) 0 0,i7 (n:Int) C t A M y p Y,lc g z r J W U false] H K (k+46)=some ⟨5,[rB (.cX (k+53) 0 f.length) D (.cX (k+68) 0 512) (.cX (k+147) 0 4) (.cX (k+230) 0 4)],true⟩/\(∀i,i<k+48->cH 198 [iB u x w,.ptr (k+46) 0 0,i7 (n:Int) C t A M y p Y,lc g z r J W U false] H K i=H i)/\K<=cK 198 [iB u x w,.ptr (k+46) 0 0,i7 (n:Int) C t A M y p Y,lc g z r J W U false] H K/\
   ∃gK hq m',dQ (cH 198 [iB u x w,.ptr (k+46) 0 0,i7 (n:Int) C t A M y p Y,lc g z r J W U false] H K) (cK 198 [iB u x w,.ptr (k+46) 0 0,i7 (n:Int) C t A M y p Y,lc g z r J W U false] H K) (k+46) (.cX (k+53) 0 f.length) (k+68) (k+147) (k+230) gK hq m'/\cJ (wn u x w) d m'/\m'.am=⟨f,D⟩/\(tI (wn u x w) (w_ f D E F Z) n ⟨(n:Int),C,t,A,M,y,p,Y⟩ ⟨⟨g,z,r,J⟩,W,U,false⟩=bif (cB 198 [iB u x w,.ptr (k+46) 0 0,i7 (n:Int) C t A M y p Y,lc g z r J W U false] H K) then some m' else none)/\nH (k+48) (.cX (k+53) 0 f.length) (k+68) (k+147) (k+230) gK hq:=fun H K hb ff hT=>by
  have ρ:=Pp (b:=k+46) gj ab ab hT R ho ff;obtain⟨v,h',k',e,mW,gK,hq,m',rfl,G,cI,bT,fG,m1,lu,lz⟩:=Ge u x w .bad (n:Int) C t A M y p Y g z r J W U false H K (k+46) _ _ _ _ _ _ (w_ f D E F Z) d n ρ L hd ⟨_,rfl⟩ ⟨rfl,n4⟩ f4 ⟨iS,mi⟩ kz g4 hr hx;obtain⟨e1,e2⟩:=wi e;have e3:=Ga e;have r1:=G.uG;have cZ:=G.len;obtain⟨⟨t',w2,kg⟩,cz,b'⟩:=ho;rw[e1,e2,e3];refine⟨e,by rw[r1];unfold iF;rw[cZ,bT],fun i l=>lz i ab ab ab ab (fun j P=>by have:=cz j P;omega),m1,gK,hq,m',G,cI,bT,fG,⟨t',w2,kg⟩,fun j P=> ?_,b'⟩;have:=cz j P;have:=lu j P;omega
 have cl:=fun H K a b c=>(key H K a b c).1;have cb:=fun H K a b c=>(key H K a b c).2.1;have hS:=fun H K a b c=>(key H K a b c).2.2.1 (k+1) ab;have iO:=fun H K a b c=>(key H K a b c).2.2.1 (k+4) ab;refine ip ?_;simp[X6,hl,hv,hp,ht,gI,hc,dN,hn,hf,ay,hg,mm,cQ,hk,q,h3,cx,cE,cU,h2,g1,bP,hr,n4,g3,bs,dF,ts,fI,gM,uj,S',cl,cb,hS,iO,qS,wj];have hh: ∀(H:bI) (K n2:Nat) (o:Option Ob),H (k+46)=some ⟨5,[rB (.cX (k+53) 0 f.length) D (.cX (k+68) 0 512) (.cX (k+147) 0 4) (.cX (k+230) 0 4)],true⟩->Cf (k+48) (fun i=>j6 (h1 i)) H->k+238<=K->Below k h H->
   (cB 198 [iB u x w,.ptr (k+46) 0 0,i7 (n:Int) C t A M y p Y,lc g z r J W U false] H K=false->pA (wn u x w) d (jN (wn u x w) (w_ f D E F Z) ⟨(n:Int),C,t,A,M,y,p,Y⟩ ⟨⟨g,z,r,J⟩,W,U,false⟩) h k S (.ed [rB vB D vC vL (.cX T 0 4),.bool false]) (bB (cH 198 [iB u x w,.ptr (k+46) 0 0,i7 (n:Int) C t A M y p Y,lc g z r J W U false] H K) (k+4) o) (cK 198 [iB u x w,.ptr (k+46) 0 0,i7 (n:Int) C t A M y p Y,lc g z r J W U false] H K+n2))/\
   (cB 198 [iB u x w,.ptr (k+46) 0 0,i7 (n:Int) C t A M y p Y,lc g z r J W U false] H K=true->pA (wn u x w) d (jN (wn u x w) (w_ f D E F Z) ⟨(n:Int),C,t,A,M,y,p,Y⟩ ⟨⟨g,z,r,J⟩,W,U,false⟩) h k S (.ed [rB (.cX (k+53) 0 f.length) D (.cX (k+68) 0 512) (.cX (k+147) 0 4) (.cX (k+230) 0 4),.bool true]) (bB (cH 198 [iB u x w,.ptr (k+46) 0 0,i7 (n:Int) C t A M y p Y,lc g z r J W U false] H K) (k+4) o) (cK 198 [iB u x w,.ptr (k+46) 0 0,i7 (n:Int) C t A M y p Y,lc g z r J W U false] H K+n2)):=fun H K n2 o hb ff hT hB=>by
  obtain⟨_,_,pd,m1,gK,hq,m',G,cI,bT,fG,v'⟩:=key H K hb ff hT;have bE:Below k h (bB (cH 198 [iB u x w,.ptr (k+46) 0 0,i7 (n:Int) C t A M y p Y,lc g z r J W U false] H K) (k+4) o):=fun i l=>by
   have c1: ¬i=k+4:=ab
   simp only[bB,c1,if_false];rw[pd i ab,hB i l]
  have hM:jN (wn u x w) (w_ f D E F Z) ⟨(n:Int),C,t,A,M,y,p,Y⟩ ⟨⟨g,z,r,J⟩,W,U,false⟩=My (w_ f D E F Z) (tI (wn u x w) (w_ f D E F Z) n ⟨(n:Int),C,t,A,M,y,p,Y⟩ ⟨⟨g,z,r,J⟩,W,U,false⟩):=by
   unfold jN;rw[if_pos q1,if_neg S',if_neg ai];simp only[X7]
  refine⟨fun n1=>pA.K6 N L (by rw[hM,fG,n1];rfl) bE ab,fun n1=> ?_⟩;have hy:D=m'.am.key:=by rw[bT]
  exact pA.zf (S:=S) (h':=bB (cH 198 [iB u x w,.ptr (k+46) 0 0,i7 (n:Int) C t A M y p Y,lc g z r J W U false] H K) (k+4) o) (k':=cK 198 [iB u x w,.ptr (k+46) 0 0,i7 (n:Int) C t A M y p Y,lc g z r J W U false] H K+n2) (G.at.mono v' ab fun i l _=>by
   have c1: ¬i=k+4:=ab
   simp only[bB,c1,if_false]) (v'.less ab) cI hy (by rw[hM,fG,n1];rfl) bE ab
 refine⟨fun e=>(hh _ _ _ _ ?_ ?_ ?_ ?_).1 e,fun e=>(hh _ _ _ _ ?_ ?_ ?_ ?_).2 e⟩
 .simp[bB]
 .simp[qS,wj]
 .omega
 .exact ou
 .simp[bB]
 .simp[qS,wj]
 .omega
 .exact ou
def Bs(p:g9)(vB:V)(key:Int)(vC vL:V)(T:Nat)(o:dw)(l:cO)(R n J:Nat):V:= .agg [.sl false (p.hw.map hu.e),.sl false (p.ax.map (V.int .i64)),.sl false (p.ap.map bw),vB,.int .u16 key,vC,vL,.cX T 0 4,.sl false (o.md.map (V.int .u16)),.sl false (o.nl.map (V.int .u16)),.sl false (o.dK.map bw),.sl false (o.iG.ap.map bZ),.sl false (o.iG.iV.map fR.e),.sl false (o.dT.map i5.e),.sl false (l.pl.map (V.int .i64)),.sl false (l.i4.map dC),.cX R 0 n,.cX J 0 4]
structure xN (p:g9) (d:Int) (lay:iy) (o:dw) (l:cO) (js:List Int) (h:bI) (k b:Nat) (S:Nat->Prop) (T:Nat) (vB vC vL:V) (es:List V) (m:aN) (R:Nat) (rc:List h_) (J:Nat):Prop where
 box:h b=some ⟨18,[Bs p vB lay.key vC vL T o l R rc.length J],true⟩
 own:ld h k S T vB vC vL es m
 PW:cJ p d m
 lay:m.am=lay
 iQ:h R=some ⟨18,rc.map h_.e,false⟩
 sW:h J=some ⟨1,js.map (V.int .i64),false⟩
 Cp:js.length=4
 lt:b<k/\R<k/\J<k
 ne:b≠R/\b≠J/\R≠J
 off: ¬S b/\ ¬S R/\ ¬S J
def O_(p:g9)(d:Int)(lay:iy)(o:dw)(l:cO)(js:List Int)(h:bI)(k b:Nat)(S:Nat->Prop)(R J:Nat)(m:aN)(r:List h_)(h':bI)(k':Nat):Prop:=
 ∃j T U V X B c,xN p d lay o l js h' k' b j T U V X B m c r J/\k<=k'/\k<=c/\(∀i,j i->S i\/k<=i)/\ ∀i,i<k->i≠b->i≠R->h' i=h i
def qE(t n:Int):h_:=⟨4,t,0,⟨0,0,0,0,0,0,[],[]⟩,⟨⟨0,n,0,0⟩,[], -1,false⟩⟩
def JY(t n:Int):h_.e ⟨4,t,0,⟨0,0,0,0,0,0,[],[]⟩,⟨⟨0,n,0,0⟩,[], -1,false⟩⟩= .agg [.int .i64 4,.int .i64 t,.int .i64 0,.int .i64 0,.int .i64 0,.int .i64 0,.int .i64 0,.int .i64 0,.int .i64 0,.sl false [],.sl false [],.int .u8 0,.int .u16 n,.int .i64 0,.int .i64 0,.sl false [],.int .i64 (-1),.bool false]:=rfl
@[simp]def If(r:V)(t n:Int)(p:g9)(d:Int)(lay:iy)(o:dw)(l:cO)(js:List Int)(h:bI)(k b:Nat)(S:Nat->Prop)(T:Nat)(vB vC vL:V)(es:List V)(m:aN)(R:Nat)(rc:List h_)(J:Nat)(H:xN p d lay o l js h k b S T vB vC vL es m R rc J)(hd:d<=1099511627776)(Y:0<=n/\n<=65535)(hg:rc.length<=1000000): ∃v h' k',df X 210 [.ptr b 0 0,t,.int .u16 n] h k=some (v,h',k')/\v= .ed []/\O_ p d lay o l js h k b S R J (jZ p m t ⟨⟨0,n,0,0⟩,[], -1,false⟩).1 (rc++ [qE t n]) h' k':=by
 have C:=H.box;unfold Bs at C;have hr:=z_ n;have I:IntKind.u16.wrap n=n:=wrap_u16 Y;obtain⟨l1,l2,an⟩:=H.lt;obtain⟨n1,n2,hl⟩:=H.ne;obtain⟨ho,f2,f3⟩:=H.off;have he:=H.iQ;have P:=H.sW;obtain⟨⟨pc,ps,F⟩,rfl⟩: ∃q,p=q:=⟨_,rfl⟩;obtain⟨⟨⟨O,A⟩,⟨c,z⟩,mt⟩,rfl⟩: ∃q,m=q:=⟨_,rfl⟩;have U:=H.lay;simp only at U;obtain⟨g,u⟩: ∃g:bI,bB (bB h (k+3) (some ⟨7,[.agg [.int .u8 0,.int .u16 0,.int .i64 0,.int .i64 0,.sl true [],.int .i64 0,.bool false]],true⟩)) (k+3) (some ⟨7,[.agg [.int .u8 0,.int .u16 n,.int .i64 0,.int .i64 0,.sl false [],.int .i64 (-1),.bool false]],true⟩)=g:=⟨_,rfl⟩;have B:Below k h g:=by rw[<-u];simp only[cx,cE]
 have hc:ld g (k+23) S T vB vC vL es ⟨⟨O,A⟩,⟨c,z⟩,mt⟩:=H.own.mono ab fun i s=>B i (H.own.lt i s);obtain⟨hs,h1,k1,W,S1,hv,E,K,L,Q,rfl,M,G,ae,w,x⟩:=Q5 pc ps F O A c z mt t 0 n 0 0 [] (-1) false g (k+23) S T vB vC vL es d hc H.PW hd ⟨⟨Y.1,Y.2⟩,fg.nil,ai⟩;obtain⟨⟨m1,cQ⟩,au⟩: ∃r,jZ ⟨pc,ps,F⟩ ⟨⟨O,A⟩,⟨c,z⟩,mt⟩ t ⟨⟨0,n,0,0⟩,[], -1,false⟩=r:=⟨_,rfl⟩;have a:=A8 ⟨pc,ps,F⟩ ⟨⟨O,A⟩,⟨c,z⟩,mt⟩ t ⟨⟨0,n,0,0⟩,[], -1,false⟩;rw[au]at W M G a;simp only at W M G a;rw[au];rw[<-u]at W;simp only[r_]at W;have D: ∀i,i<k->h1 i=h i:=fun i s=>by rw[w i ab,B i s]
 have Z:=D b l1;rw[C]at Z;have aq:=D R l2;rw[he]at aq;have g3:h1 (k+3)=some ⟨7,[.agg [.int .u8 0,.int .u16 n,.int .i64 0,.int .i64 0,.sl false [],.int .i64 (-1),.bool false]],true⟩:=by
  rw[w _ ab,<-u];simp[bB]
 have q1: ∀j,¬b=k+j:=fun j=>ab
 have q2: ∀j,¬R=k+j:=fun j=>ab
 have aw: ∀j,¬k+j=b:=fun j=>ab
 have hp: ∀j,¬k+j=R:=fun j=>ab
 have r1: ∀j,¬b=k1+j:=fun j=>ab
 have mm: ∀j,¬R=k1+j:=fun j=>ab
 have aa: ¬k+3=b:=ab
 have ht: ¬R=b:=fun e=>n1 e.symm;refine ip ?_;rw[<-U]at C Z;simp[X6,C,hr,I,W,Z,aq,g3,n1,ht,q1,aw,r1];have f:m1.am=lay:=by rw[a];exact U
 have hx:=M.lt;have y: ∀i,S1 i->i≠b/\i≠R/\i≠J/\i<k1:=fun i s=>by
  have:=hx i s;rcases x i s with e|e
  .exact⟨fun q=>ho (q▸e),fun q=>f2 (q▸e),fun q=>f3 (q▸e),this⟩
  .exact⟨ab,ab,ab,this⟩
 have ak: ∀i,i≠R-> ¬i=R:=fun i h=>h;refine⟨⟨ab,ab⟩,fun _ _=>⟨S1,hv,E,K,L,Q,k1+9,⟨?_,M.mono ab fun i s=> ?_,G,f,?_,?_,H.Cp,⟨ab,ab,ab⟩,⟨ab,n2,ab⟩,fun e=>(y b e).1 rfl,fun e=> ?_,fun e=>(y J e).2.2.1 rfl⟩,ab,ab,fun i s=> ?_,fun i h1 h2 h3=> ?_⟩⟩
 .simp[bB,Bs,f]
 .obtain⟨e1,e2,e3,e4⟩:=y i s;have N: ¬i=k1+9:=ab
  simp[bB,e1,e2,N]
 .have N: ¬k1+9=b:=ab
  simp[bB,N,qE,JY]
 .have N: ¬J=k1+9:=ab
  have hk: ¬J=b:=fun e=>n2 e.symm;have hj: ¬J=R:=fun e=>hl e.symm;simp only[bB,N,hk,hj,if_false];rw[D J an];exact P
 .have:=(y _ e).2.2.2;omega
 .rcases x i s with e|e
  .exact .inl e
  .exact .inr ab
 .have N: ¬i=k1+9:=ab
  simp only[bB,N,h2,h3,if_false];exact D i h1
def MH(v:V)(vs:List V):Bx .bad (v::vs)=v:=rfl
noncomputable def cV(g:FuncId)(args:List V)(h:bI)(k:Nat):V:=match df X g args h k with|some (v,_,_)=>v|none=> .bad
def a39{g:FuncId}(e:df X g args h k=some (v,h',k')):cV g args h k=v:=by
 unfold cV;rw[e]
def pv(j:Nat)(v:V):V:=match v with| .ed [.agg cs,_]=>cs.getD j .bad|_=> .bad
def pt(v:V):Nat:=match pv 4 v with| .cX T _ _=>T|_=>0
def pA.cl(H: ∃v h' k',df X 119 args h k=some (v,h',k')/\pA p d r h k S v h' k'):
  df X 119 args h k=some (.ed [rB (pv 0 (cV 119 args h k)) r.1.am.key (pv 2 (cV 119 args h k)) (pv 3 (cV 119 args h k)) (.cX (pt (cV 119 args h k)) 0 4),.bool r.2],cH 119 args h k,cK 119 args h k)/\
  ∃(j:Nat->Prop) (B:List V),ld (cH 119 args h k) (cK 119 args h k) j (pt (cV 119 args h k)) (pv 0 (cV 119 args h k)) (pv 2 (cV 119 args h k)) (pv 3 (cV 119 args h k)) B r.1/\cJ p d r.1/\k<=cK 119 args h k/\(∀i,i<k->cH 119 args h k i=h i)/\ ∀i,j i->S i\/k<=i:=by
 obtain⟨v,h',k',e,j,T,U,g,W,B,rfl,M,G,y,f,O⟩:=H;obtain⟨l,q⟩:=wi e;have x:=a39 e;rw[l,q,x];refine⟨?_,j,B,M,G,y,f,O⟩;rw[e];rfl
def xO(q:io)(x:eI):h_:=⟨2,q.cw,0,q,x⟩
def An(p:g9)(m:aN)(rc:List h_)(q:io)(P:dw×cO×List Int×eI)(own:Int):aN×dw×cO×List Int×List h_:=
 if 0<=own then((jZ p (jN p m q P.2.2.2).1 own ⟨⟨0,0,0,0⟩,[], -1,false⟩).1,P.1,P.2.1,P.2.2.1,rc++ [xO q P.2.2.2,qE own 0]) else((jN p m q P.2.2.2).1,P.1,P.2.1,P.2.2.1,rc++ [xO q P.2.2.2])
noncomputable def sL(p:g9)(m:aN)(o:dw)(l:cO)(js:List Int)(rc:List h_)(q:io):aN×dw×cO×List Int×List h_:=
 An p m rc q (ot m.ce o l js q) (if q.call=9 then(eY l (dI q 0) q.cw).2.1 else-1)
def ze(p:g9)(d:Int)(lay:iy)(s:aN×dw×cO×List Int×List h_)(v:V)(h':bI)(k':Nat):Prop:=
 v= .ed []/\ ∃(S:Nat->Prop) (T:Nat) (vB vC vL:V) (es:List V) (R:Nat) (J:Nat),xN p d lay s.2.1 s.2.2.1 s.2.2.2.1 h' k' 0 S T vB vC vL es s.1 R s.2.2.2.2 J/\rR s.2.1/\iN s.2.2.1
structure Tx (p:g9) (d:Int) (lay:iy) (k:Nat) (S:Nat->Prop) (h h1:bI) (k1:Nat) (S1:Nat->Prop) (T:Nat) (vB vC vL:V) (es:List V) (m:aN):Prop where
 own:ld h1 k1 S1 T vB vC vL es m
 PW:cJ p d m
 lay:m.am=lay
 le:k<=k1
 fr: ∀i,i<k->h1 i=h i
 sub: ∀i,S1 i->S i\/k<=i
def pA.fn{P:bI->Prop}(l:r.1.am=lay)(H: ∀h,P h-> ∃v h' k',df X 119 args h k=some (v,h',k')/\pA p d r h k S v h' k'):
  ∃(U C L:bI->V) (T K:bI->Nat) (Q:bI->bI) (f:bI->Nat->Prop) (E:bI->List V),∀h,P h->
   df X 119 args h k=some (.ed [rB (U h) lay.key (C h) (L h) (.cX (T h) 0 4),.bool r.2],Q h,K h)/\Tx p d lay k S h (Q h) (K h) (f h) (T h) (U h) (C h) (L h) (E h) r.1:=by
 subst l;have g: ∀h,∃(j:Nat->Prop) (B:List V),P h->df X 119 args h k=some (.ed [rB (pv 0 (cV 119 args h k)) r.1.am.key (pv 2 (cV 119 args h k)) (pv 3 (cV 119 args h k)) (.cX (pt (cV 119 args h k)) 0 4),.bool r.2],cH 119 args h k,cK 119 args h k)/\
   Tx p d r.1.am k S h (cH 119 args h k) (cK 119 args h k) j (pt (cV 119 args h k)) (pv 0 (cV 119 args h k)) (pv 2 (cV 119 args h k)) (pv 3 (cV 119 args h k)) B r.1:=fun h=>by
  by_cases m:P h
  .obtain⟨e,j,B,h1,M,a,i,q⟩:=pA.cl (H h m);exact⟨j,B,fun _=>⟨e,h1,M,rfl,a,i,q⟩⟩
  .exact⟨fun _=>False,[],fun e=>absurd e m⟩
 obtain⟨f,g⟩:=Classical.skolem.1 g;obtain⟨E,g⟩:=Classical.skolem.1 g;exact⟨_,_,_,_,_,_,f,E,g⟩
def Tx.run                  (r J:Nat) (rc:List h_)
  (H:Tx p d lay k S h h1 k1 S1 T vB vC vL es m) (h0:hE 0=some ⟨18,[Bs p vB lay.key vC vL T o l R n J],true⟩) (X:rc.length=n) (I:hE R=some ⟨18,rc.map h_.e,false⟩) (u:h J=some ⟨1,js.map (V.int .i64),false⟩) (U:js.length=4)
  (O: ∀i,S i->i≠0/\i≠r/\i≠J) (y:0<J/\J<k/\r<k/\r≠J) (v:k1<=R/\R<k2) (C: ∀i,i<k1-> ¬i=0-> ¬i=r->hE i=h1 i):xN p d lay o l js hE k2 0 S1 T vB vC vL es m R rc J:=by
 obtain⟨M,N,G,f,L,K⟩:=H;have W:=M.lt;have s: ∀i,S1 i-> ¬i=0/\ ¬i=r/\ ¬i=J/\i<k1:=fun i j=>by
  have:=W i j;rcases K i j with e|e
  .obtain⟨a,b,c⟩:=O i e;exact⟨a,b,c,this⟩
  .exact⟨ab,ab,ab,this⟩
 subst X;refine⟨h0,M.mono ab fun i j=> ?_,N,G,I,?_,U,⟨ab,ab,ab⟩,⟨ab,ab,ab⟩,fun e=>(s 0 e).1 rfl,fun e=> ?_,fun e=>(s _ e).2.2.1 rfl⟩
 .obtain⟨t,q,x,F⟩:=s i j;exact C i F t q
 .rw[C J ab ab ab,L J ab,u]
 .have:=(s _ e).2.2.2;omega
def xN.back(H:xN p d lay o l js h k 0 S T vB vC vL es m R rc J):
  CK X [(0,16,65),(0,17,3),(0,7,112)] (.ed []) h=some (18,(t7 p.hw p.ax p.ap m.am.aK m.am.key m.gt.cells m.gt.ge m.ce o.md o.nl o.dK o.iG.ap o.iG.iV o.dT l.pl l.i4 rc js:V),[]):=by
 obtain⟨b,O,I,y,G,w,u,g,K,Z⟩:=H;have a:=O.row;have c: ¬T=0:=fun e=>Z.1 (e▸O.XR);have n: ¬T=R:=fun e=>Z.2.1 (e▸O.XR);have C: ¬T=J:=fun e=>Z.2.2 (e▸O.XR);have Y: ¬R=T:=fun e=>n e.symm;have N: ¬J=T:=fun e=>C e.symm;have M: ¬R=0:=fun e=>K.1 e.symm;have A: ¬J=0:=fun e=>K.2.1 e.symm;have q: ¬R=J:=K.2.2;have v: ¬J=R:=fun e=>K.2.2 e.symm;obtain⟨i1,i2,i3,r⟩:=O.eA (bB (bB (bB (bB h 0 none) T none) J none) R none) (fun i j P=>by
  have a1: ¬i=0:=fun e=>Z.1 (e▸j);have a2: ¬i=R:=fun e=>Z.2.1 (e▸j);have a3: ¬i=J:=fun e=>Z.2.2 (e▸j);simp[bB,a1,a2,a3,P]) 9
 simp only[Nat.reduceAdd]at i1 i2 i3 r;have s:=UW O.len;have t: ∀(f:Int->V),List.take 4 (js.map f)=js.map f:=fun f=>bQ aA;have W:=O.len;unfold Bs at b;rw[y]at i1;simp(maxSteps:=10000000)[b,a,G,w,u,W,c,Y,N,M,A,q,s,t,i1,i2,i3,r,<-y]
@[simp]def Z0(b:List hu)(n:List Int)(A:List (List Int))(Q:List Int)(E:Int)(l:List ac)(I:List cP)(M:List gc)(he hb:List Int)(hc:List (List Int))(h1:List (List fd))(h2:List fR)(aq:List i5)(W:List Int)(Y:List (List Int))(B:List h_)(F:List Int)(x G k c s g:Int)(y j:List fd)(d:Int)(HG:cJ ⟨b,n,A⟩ d ⟨⟨Q,E⟩,⟨l,I⟩,M⟩)(hd:d<=1099511627776)(ho:rR ⟨he,hb,hc,⟨h1,h2⟩,aq⟩)(hl:iN ⟨W,Y⟩)(hj:F.length=4)(n4:B.length<=900000)(dF:0<=x/\x<4)(hR:y.length<=3)(bP:j.length<=16)(bL:(g=8\/g=9\/g=11)->1<=y.length)(ha:fg y)(hq:fg j): ∃(t:aN) (o2:dw) (l2:cO) (L:List Int) (bT:List h_),qP X [(0,16,65),(0,17,3),(0,7,112)] 138 18 ((t7 b n A Q E l I M he hb hc h1 h2 aq W Y B F:V)) [i7 x G k c s g y j]=some (18,(t7 b n A t.am.aK t.am.key t.gt.cells t.gt.ge t.ce o2.md o2.nl o2.dK o2.iG.ap o2.iG.iV o2.dT l2.pl l2.i4 bT L:V),[],.ed [])/\cJ ⟨b,n,A⟩ d t/\t.am=⟨Q,E⟩/\rR o2/\iN l2/\L.length=4/\sL ⟨b,n,A⟩ ⟨⟨Q,E⟩,⟨l,I⟩,M⟩ ⟨he,hb,hc,⟨h1,h2⟩,aq⟩ ⟨W,Y⟩ F B ⟨x,G,k,c,s,g,y,j⟩=(t,o2,l2,L,bT):=by
 have ak:M.length=4:=HG.len;have bS: ∀(f:gc->V),List.take 4 (M.map f)=M.map f:=fun f=>bQ aA;have hA: ∀(f:gc->Option V),List.take 4 (M.map f)=M.map f:=fun f=>bQ aA;have hz: ∀(hx:bI),di (M.map (da hx 12∘gc.e))=some (M.map gc.e):=fun hx=>qQ (fun _=>rfl) M;have fG: ∀(f:Int->V),List.take 4 (F.map f)=F.map f:=fun f=>bQ aA;have cC:IntKind.u16.wrap 0=0:=aG
 obtain⟨⟨au,hk,hn,⟨an,aw⟩,hr⟩,⟨ht,h3⟩,L,⟨⟨O,U,u,p⟩,q,C,N⟩,mm,fv,bp,cQ,hv,aa⟩:=X9 b n A Q E l I M he hb hc h1 h2 aq W Y B F x G k c s g y j ak ho hl hj ab dF hR bP bL ha hq;have aJ: ∀(f:Int->V),List.take 4 (L.map f)=L.map f:=fun f=>bQ aA;obtain⟨⟨t,ah⟩,ae⟩: ∃z,jN ⟨b,n,A⟩ ⟨⟨Q,E⟩,⟨l,I⟩,M⟩ ⟨x,G,k,c,s,g,y,j⟩ ⟨⟨O,U,u,p⟩,q,C,N⟩=z:=⟨_,rfl⟩;have h4:=Iw ⟨b,n,A⟩ ⟨⟨Q,E⟩,⟨l,I⟩,M⟩ ⟨x,G,k,c,s,g,y,j⟩ ⟨⟨O,U,u,p⟩,q,C,N⟩;rw[ae]at h4;simp only at h4;have c3:q.length<=1000000000:=by have:=hv.len;simp only at this;omega
 have ay: ∃v h' k',df X 138 [.ptr 0 0 0,i7 x G k c s g y j] (mY X 138 18 ((t7 b n A Q E l I M he hb hc h1 h2 aq W Y B F:V))) 4=some (v,h',k')/\ze ⟨b,n,A⟩ d ⟨Q,E⟩ (sL ⟨b,n,A⟩ ⟨⟨Q,E⟩,⟨l,I⟩,M⟩ ⟨he,hb,hc,⟨h1,h2⟩,aq⟩ ⟨W,Y⟩ F B ⟨x,G,k,c,s,g,y,j⟩) v h' k':=by
  by_cases hL:g=9
  case pos=>
   have h0:0<y.length:=by have:=bL (.inr (.inl hL));omega
   have hs:=ha _ (rx h0);obtain⟨⟨cm,hp,zc,h5⟩,dN⟩: ∃z,y[0]=z:=⟨_,rfl⟩;rw[dN]at hs;have dz:IntKind.i64.wrap hp=hp:=wrap_i64 (by have:=hs.1;have:=hs.2;simp only at*;omega);have hf:=PC hl hp x;obtain⟨⟨hT,ff⟩,own,Fy,g3⟩: ∃l2 own ok,eY ⟨W,Y⟩ hp x=(l2,own,ok):=⟨_,_,_,rfl⟩;have g1:=Dc W Y hp x hl;rw[g3]at g1 hf;simp only at g1 hf;have Z:=eq_true hL;have w:=pA.fn (P:=fun H=>H 34=some ⟨8,M.map gc.e,true⟩) (r:=(t,ah)) h4 fun H c2=>by have:=Ii b n A Q E l I M x G k c s g y j O U u p q C N H 53 (fun i=>i=34) 34 _ _ _ _ d (ld.flat (m:=⟨⟨Q,E⟩,⟨l,I⟩,M⟩) c2 ak ab) HG hd ab ab ha hv;rw[ae]at this;exact this
   obtain⟨ba,hS,iO,n1,hh,bs,bU,e3,key⟩:=w;simp only at key;have cl:=fun H a=>(key H a).1;have g2: ∀H:bI,H 34=some ⟨8,M.map gc.e,true⟩-> ∀i,i<53->bs H i=H i:=fun H a=>(key H a).2.fr;have aH: ∀H:bI,H 34=some ⟨8,M.map gc.e,true⟩->53<=hh H:=fun H a=>(key H a).2.le;have bV: ∀(K:bI) (o:Nat),(∃(S:Nat->Prop) (T:Nat) (vB vC vL:V) (es:List V) (R:Nat) (J:Nat),xN ⟨b,n,A⟩ d ⟨Q,E⟩ ⟨au,hk,hn,⟨an,aw⟩,hr⟩ ⟨ht,h3⟩ L K o 0 S T vB vC vL es t R (B++ [xO ⟨x,G,k,c,s,g,y,j⟩ ⟨⟨O,U,u,p⟩,q,C,N⟩]) J)->df X 210 [.ptr 0 0 0,.int .i64 own,.int .u16 0] K o=some (.ed [],cH 210 [.ptr 0 0 0,.int .i64 own,.int .u16 0] K o,cK 210 [.ptr 0 0 0,.int .i64 own,.int .u16 0] K o)/\ ∃(S:Nat->Prop) (T:Nat) (vB vC vL:V) (es:List V) (R:Nat) (J:Nat),xN ⟨b,n,A⟩ d ⟨Q,E⟩ ⟨au,hk,hn,⟨an,aw⟩,hr⟩ ⟨ht,h3⟩ L (cH 210 [.ptr 0 0 0,.int .i64 own,.int .u16 0] K o) (cK 210 [.ptr 0 0 0,.int .i64 own,.int .u16 0] K o) 0 S T vB vC vL es (jZ ⟨b,n,A⟩ t own ⟨⟨0,0,0,0⟩,[], -1,false⟩).1 R (B++ [xO ⟨x,G,k,c,s,g,y,j⟩ ⟨⟨O,U,u,p⟩,q,C,N⟩,qE own 0]) J/\rR ⟨au,hk,hn,⟨an,aw⟩,hr⟩/\iN ⟨ht,h3⟩:=fun K o ⟨S,T,vB,vC,vL,es,R,J,hg⟩=>by
    obtain⟨v,h',k',e,rfl,S',q1,hy,kk,iS,dM,cu,bW,_⟩:=If .bad own 0 _ _ _ _ _ _ K o 0 S T vB vC vL es t R _ J hg hd ab aA;obtain⟨e1,e2⟩:=wi e;rw[e1,e2];rw[vD]at bW;exact⟨e,S',q1,hy,kk,iS,dM,cu,J,bW,fv,bp⟩
   have ts:dI ⟨x,G,k,c,s,g,y,j⟩ 0=hp:=by simp[dI,List.getD,h0,dN]
   by_cases hB:0<=own
   case neg=>
    have D:sL ⟨b,n,A⟩ ⟨⟨Q,E⟩,⟨l,I⟩,M⟩ ⟨he,hb,hc,⟨h1,h2⟩,aq⟩ ⟨W,Y⟩ F B ⟨x,G,k,c,s,g,y,j⟩=(t,⟨au,hk,hn,⟨an,aw⟩,hr⟩,⟨ht,h3⟩,L,(B++ [xO ⟨x,G,k,c,s,g,y,j⟩ ⟨⟨O,U,u,p⟩,q,C,N⟩])):=by
     unfold sL;simp only[aa,Z,if_true,ts,g3];unfold An;simp only[ae];exact if_neg hB
    rw[D];refine ip ?_;simp[ak,hj,cQ,bS,hz,fG,Z,h0,dN,dz,g1,hB,mm,MH,cl,g2];refine⟨⟨ab,ab⟩,fun _ _=>⟨rfl,_,_,_,_,_,_,_,_,Tx.run 32 33 (B++ [xO ⟨x,G,k,c,s,g,y,j⟩ ⟨⟨O,U,u,p⟩,q,C,N⟩]) (key _ ?_).2 rfl ?_ ?_ ?_ cQ ?_ ?_ ?_ ?_,fv,bp⟩⟩
    .simp[bB]
    .simp
    .simp[bB];rfl
    .simp[bB]
    .intro i hi;omega
    .omega
    .omega
    .exact kl
   have D:sL ⟨b,n,A⟩ ⟨⟨Q,E⟩,⟨l,I⟩,M⟩ ⟨he,hb,hc,⟨h1,h2⟩,aq⟩ ⟨W,Y⟩ F B ⟨x,G,k,c,s,g,y,j⟩=((jZ ⟨b,n,A⟩ t own ⟨⟨0,0,0,0⟩,[], -1,false⟩).1,⟨au,hk,hn,⟨an,aw⟩,hr⟩,⟨ht,h3⟩,L,B++ [xO ⟨x,G,k,c,s,g,y,j⟩ ⟨⟨O,U,u,p⟩,q,C,N⟩,qE own 0]):=by
    unfold sL;simp only[aa,Z,if_true,ts,g3];unfold An;simp only[ae];exact if_pos hB
   rw[D];have c1: ∀(K:bI) (o:Nat),(∃(S:Nat->Prop) (T:Nat) (vB vC vL:V) (es:List V) (R:Nat) (J:Nat),xN ⟨b,n,A⟩ d ⟨Q,E⟩ ⟨au,hk,hn,⟨an,aw⟩,hr⟩ ⟨ht,h3⟩ L K o 0 S T vB vC vL es t R (B++ [xO ⟨x,G,k,c,s,g,y,j⟩ ⟨⟨O,U,u,p⟩,q,C,N⟩]) J)->ze ⟨b,n,A⟩ d ⟨Q,E⟩ ((jZ ⟨b,n,A⟩ t own ⟨⟨0,0,0,0⟩,[], -1,false⟩).1,⟨au,hk,hn,⟨an,aw⟩,hr⟩,⟨ht,h3⟩,L,B++ [xO ⟨x,G,k,c,s,g,y,j⟩ ⟨⟨O,U,u,p⟩,q,C,N⟩,qE own 0]) (.ed []) (cH 210 [.ptr 0 0 0,.int .i64 own,.int .u16 0] K o) (cK 210 [.ptr 0 0 0,.int .i64 own,.int .u16 0] K o):=fun K o h=>⟨rfl,(bV K o h).2⟩;refine ip ?_;simp[ak,hj,cQ,bS,hz,fG,Z,h0,dN,dz,g1,hB,mm,MH,cl,g2];refine⟨⟨ab,ab⟩,fun _ _=> ?_⟩;rw[(bV _ _ ?_).1];simp;refine c1 _ _ ?_;all_goals
    refine⟨_,_,_,_,_,_,_,33,Tx.run 32 33 _ (key _ ?_).2 rfl ?_ ?_ ?_ cQ ?_ ?_ ?_ ?_⟩
    .simp[bB]
    .simp
    .simp[bB];rfl
    .simp[bB]
    .intro i hi;omega
    .omega
    .omega
    .exact kl
  have w:=pA.fn (P:=fun H=>H 16=some ⟨8,M.map gc.e,true⟩) (r:=(t,ah)) h4 fun H c2=>by have:=Ii b n A Q E l I M x G k c s g y j O U u p q C N H 35 (fun i=>i=16) 16 _ _ _ _ d (ld.flat (m:=⟨⟨Q,E⟩,⟨l,I⟩,M⟩) c2 ak ab) HG hd ab ab ha hv;rw[ae]at this;exact this
  obtain⟨ba,hS,iO,n1,hh,bs,bU,e3,key⟩:=w;simp only at key;have cl:=fun H a=>(key H a).1;have g2: ∀H:bI,H 16=some ⟨8,M.map gc.e,true⟩-> ∀i,i<35->bs H i=H i:=fun H a=>(key H a).2.fr;have aH: ∀H:bI,H 16=some ⟨8,M.map gc.e,true⟩->35<=hh H:=fun H a=>(key H a).2.le;have D:sL ⟨b,n,A⟩ ⟨⟨Q,E⟩,⟨l,I⟩,M⟩ ⟨he,hb,hc,⟨h1,h2⟩,aq⟩ ⟨W,Y⟩ F B ⟨x,G,k,c,s,g,y,j⟩=(t,⟨au,hk,hn,⟨an,aw⟩,hr⟩,⟨ht,h3⟩,L,(B++ [xO ⟨x,G,k,c,s,g,y,j⟩ ⟨⟨O,U,u,p⟩,q,C,N⟩])):=by
   unfold sL;simp only[aa,hL,if_false];unfold An;simp only[ae];exact if_neg aG
  rw[D];refine ip ?_;simp[ak,hj,cQ,bS,hz,fG,hL,mm,MH,cl,g2];refine⟨⟨ab,ab⟩,fun _ _=>⟨rfl,_,_,_,_,_,_,_,_,Tx.run 14 15 (B++ [xO ⟨x,G,k,c,s,g,y,j⟩ ⟨⟨O,U,u,p⟩,q,C,N⟩]) (key _ ?_).2 rfl ?_ ?_ ?_ cQ ?_ ?_ ?_ ?_,fv,bp⟩⟩
  .simp[bB]
  .simp
  .simp[bB];rfl
  .simp[bB]
  .intro i hi;omega
  .omega
  .omega
  .exact kl
 obtain⟨v,h',k',e,rfl,jz,cI,b',gX,h8,bc,ih,hC,hg,cz,cg⟩:=ay;refine⟨_,_,_,_,_,?_,hg.PW,hg.lay,cz,cg,hg.Cp,rfl⟩;unfold qP;rw[show 1+(X.gy 138).length=4 from rfl,e];simp only[hg.back];rfl
def mw(q:List (List Int))(t:Int)(i:Nat):List (List Int):=(q.take i).map (fun x=>rP x t)++q.drop i
def PY(q:List (List Int))(t:Int):mw q t 0=q:=by simp[mw]
def IC(q:List (List Int))(t:Int)(i:Nat):(mw q t i).length=q.length:=by simp[mw];omega
def Ye{t:Int}(h:i<q.length)(h':i<(mw q t i).length):(mw q t i)[i]=q[i]:=by
 have e:(mw q t i)[i]?=some q[i]:=by
  unfold mw;exact p3
 rw[rk h']at e;exact BZ e
def Ty{t:Int}(h:i<q.length):(mw q t i).set i (rP q[i] t)=mw q t (i+1):=by
 unfold mw;have e:((q.take i).map (fun x=>rP x t)).length=i:=aA
 rw[DW _ _ ab,e,xv,drop_cons h,z4,kJ h,t2];simp
def Tz(q:List (List Int))(t:Int):mw q t q.length=q.map fun x=>rP x t:=by simp[mw]
def Ao(l:cO)(t:Int):fP l t 0=(⟨l.pl,l.i4.map fun q=>rP q t⟩,[]):=rfl
def Eg(l:cO)(t:Int)(i:Nat):fP l t (i+1)=((eY (fP l t i).1 i t).1,if(eY (fP l t i).1 i t).2.2=true/\0<=(eY (fP l t i).1 i t).2.1 then(fP l t i).2++ [(eY (fP l t i).1 i t).2.1] else(fP l t i).2):=rfl
@[simp]def MJ(D:List Int)(m:List (List Int))(t:Int)(h:iN (cO.mk D m)):cG X 211 [up D m,.int .i64 t]=some (.ed [uN ((fP (cO.mk D m) t 4).1),.sl false (((fP (cO.mk D m) t 4).2).map (V.int .i64))]):=by
 refine ij ?_;have h1:D.length=4:=h.Ch;have K:m.length=4:=h.Ci;obtain⟨T,p⟩:=h.lens;simp only at T p;simp[h1,K,p];refine dO (fun i S=>(S.f 1= .int .i64 t/\S.f 4= .ptr 4 0 0/\S.h 4=some ⟨2,[up ([]:List Int) ([]:List (List Int))],true⟩/\S.f 6= .ptr 6 0 0/\S.h 1000=some ⟨1,(⟨D,mw m t i⟩:cO).i4.map dC,false⟩/\S.h 6=some ⟨2,[.agg [.sl false ((⟨D,mw m t i⟩:cO).pl.map (V.int .i64)),.cX 1000 0 ((⟨D,mw m t i⟩:cO).i4.map dC).length]],true⟩/\S.f 20= .cX 1000 0 4/\S.f 21= .int .i64 ((4:Int))/\S.f 22=(i:Int)/\S.n=1101)/\True) (4) ab ?_ ?_ ?_
 .rintro i S ⟨hi,G,w⟩ ⟨d,M⟩;have l:i<m.length:=ab
  have O:=(h.i4 i l).len;have r:=IC m t i;have C:i<(mw m t i).length:=ab
  have B:=Ye (t:=t) l C;have y:=Ty (t:=t) l;have n:(i:Int)<4:=ab
  rw[K]at r;simp only at O;simp[d,w,r,B,n];refine dO (fun j S=>(S.f 1= .int .i64 t/\S.f 4= .ptr 4 0 0/\S.h 4=some ⟨2,[up ([]:List Int) ([]:List (List Int))],true⟩/\S.f 6= .ptr 6 0 0/\S.h 1000=some ⟨1,(⟨D,mw m t i⟩:cO).i4.map dC,false⟩/\S.h 6=some ⟨2,[.agg [.sl false ((⟨D,mw m t i⟩:cO).pl.map (V.int .i64)),.cX 1000 0 ((⟨D,mw m t i⟩:cO).i4.map dC).length]],true⟩/\S.f 7= .int .i64 ((i:Int))/\S.f 9= .cX 9 0 (((rP ((m[i]).take j) t).map (V.int .i64))).length/\S.h 9=some ⟨1,((rP ((m[i]).take j) t).map (V.int .i64)),false⟩/\S.f 20= .cX 1000 0 4/\S.f 21= .int .i64 ((4:Int))/\S.f 22=(i:Int)/\S.f 27= .sl false ((m[i]).map (V.int .i64))/\S.f 28= .int .i64 (((m[i]).length:Int))/\S.f 29=(j:Int)/\S.n=1101)/\True) ((m[i]).length) ab ?_ ?_ ?_
  .rintro j S ⟨lM,z,P⟩ ⟨H,Y⟩;by_cases hx:(m[i])[j]=t
   .have e:=af1 P hx;have U:=eq_true hx;simp[H,z,P,U,e]
   .have e:=XL P hx;have l:(rP ((m[i]).take j) t).length<=4:=by have:=XM ((m[i]).take j) t;simp only[sr]at this;omega
    simp[H,z,P,hx,e];all_goals exact i9
  .rintro S ⟨H,Y⟩;have A:((mw m t i).map dC).set i (.sl false ((rP m[i] t).map (V.int .i64)))=(mw m t (i+1)).map dC:=by rw[<-kS,<-List.map_set,y]
   have I:=IC m t (i+1);rw[K]at I;simp[w,H,r,A,I,n,af0,G];all_goals exact i9
  .simp[d]<;>(
    first|rfl|exact⟨rfl,rfl⟩|(simp[r];rfl)|simp[r])
 .rintro S ⟨d,M⟩;rw[show mw m t 4=m.map fun q=>rP q t by rw[<-Tz,K]]at d;have m1:(m.map fun q=>rP q t).length=4:=by simp[K]
  simp[d,h1];refine dO (fun k S=>(S.f 1= .int .i64 t/\S.f 4= .ptr 4 0 0/\S.h 4=some ⟨2,[up ([]:List Int) ([]:List (List Int))],true⟩/\S.f 6= .ptr 6 0 0/\S.h 6=some ⟨2,[uN ((fP (cO.mk D m) t k).1)],true⟩/\S.f 12= .cX 12 0 ((((fP (cO.mk D m) t k).2).map (V.int .i64))).length/\S.h 12=some ⟨1,(((fP (cO.mk D m) t k).2).map (V.int .i64)),false⟩/\S.f 49= .int .i64 ((4:Int))/\S.f 50=(k:Int)/\S.n=1100)/\True) (4) ab ?_ ?_ ?_
  .rintro k S ⟨hc,N,o⟩ ⟨E,R⟩;obtain⟨f,u,s⟩:=u6 h t k;have v:(k:Int)<4:=ab
   have x:=Eg (cO.mk D m) t k;obtain⟨⟨F,J⟩,he,L⟩: ∃a b,fP (cO.mk D m) t k=(a,b):=⟨_,_,rfl⟩;rw[L]at f u s E x;simp only at f u s x;obtain⟨⟨g1,g2⟩,Q,Z,g⟩: ∃a b c,eY ⟨F,J⟩ k t=(a,b,c):=⟨_,_,_,rfl⟩;rw[g]at x;simp only at x;cases Z with
   |false=>
    simp[E,N,o,v,f,g,x]
   |true=>
    by_cases W:0<=Q
    .simp[E,N,o,v,f,g,x,W];all_goals exact i9
    .simp[E,N,o,v,f,g,x,W]
  .rintro S ⟨E,R⟩;simp[E]
  .simp[d]<;>(
    simp[Ao])
 .simp<;>(
   simp[PY,K])
def um(p:g9)(s:aN×List h_)(t n:Int):aN×List h_:=((jZ p s.1 t ⟨⟨0,n,0,0⟩,[], -1,false⟩).1,s.2++ [qE t n])
def jG(p:g9)(s:aN×List h_)(l:List Int):aN×List h_:=l.foldl (fun s u=>um p s u 0) s
def Yf(p:g9)(s:aN×List h_){l:List Int}(h:i<l.length):jG p s (l.take (i+1))=um p (jG p s (l.take i)) l[i] 0:=by
 unfold jG;rw[kJ h,Dk];rfl
def Dl(p:g9)(t:Nat)(s:(aN×List h_)×List Int)(u:Nat):(aN×List h_)×List Int:=if s.2.getD u 0=t then(um p s.1 u (bO s.1.1 t).hw,s.2.set u (-1)) else s
def lC(p:g9)(t:Nat)(s:(aN×List h_)×List Int)(k:Nat):(aN×List h_)×List Int:=(List.range k).foldl (Dl p t) s
def xP(p:g9)(t:Nat)(s:(aN×List h_)×List Int)(k:Nat):lC p t s (k+1)=Dl p t (lC p t s k) k:=by
 unfold lC;rw[u5,Dk];rfl
def J1(p:g9)(m:aN)(o:dw)(l:cO)(js:List Int)(rc:List h_)(t:Nat):aN×dw×cO×List Int×List h_:=
 ((lC p t (jG p (m,rc) (fP l t 4).2,js) 4).1.1,o,(fP l t 4).1,(lC p t (jG p (m,rc) (fP l t 4).2,js) 4).2,(lC p t (jG p (m,rc) (fP l t 4).2,js) 4).1.2)
def yQ(p:g9)(s:aN×List h_): ∀l:List Int,(jG p s l).2.length=s.2.length+l.length
 | []=>rfl
 |x::l=>by
  have:jG p s (x::l)=jG p (um p s x 0) l:=rfl;rw[this,yQ p _ l];simp[um];omega
def Cq(p:g9)(t:Nat)(s:(aN×List h_)×List Int): ∀k,(lC p t s k).1.2.length<=s.1.2.length+k
 |0=>iX _
 |k+1=>by
  rw[xP];have:=Cq p t s k;unfold Dl;split
  .simp[um];omega
  .omega
def J4(p:g9)(d:Int)(lay:iy)(o:dw)(l:cO)(J:Nat)(js:List Int)(s:aN×List h_)(h:bI)(k:Nat):Prop:=
 ∃(S:Nat->Prop) (T:Nat) (vB vC vL:V) (es:List V) (R:Nat),xN p d lay o l js h k 0 S T vB vC vL es s.1 R s.2 J
def J4.mono{p:g9}{d:Int}{lay:iy}{o:dw}{l:cO}{J:Nat}{js:List Int}{s:aN×List h_}{h h':bI}{k k':Nat}(H:J4 p d lay o l J js s h k)(y:k<=k')(a: ∀i,i<k->h' i=h i):J4 p d lay o l J js s h' k':=by
 obtain⟨S,T,vB,vC,vL,es,R,⟨h1,K,U,b,m,q,z,G,O,B⟩⟩:=H;have:=K.lt;exact⟨S,T,vB,vC,vL,es,R,⟨by rw[a _ G.1,h1],K.mono y fun i j=>a i (this i j),U,b,by rw[a _ G.2.1,m],by rw[a _ G.2.2,q],z,⟨ab,ab,ab⟩,O,B⟩⟩
def J4.Yg(H:J4 p d lay o l J js s h k)(u:d<=1099511627776)(t n:Int)(W:0<=n/\n<=65535)(c:s.2.length<=1000000):
  ∃h' k',df X 210 [.ptr 0 0 0,t,.int .u16 n] h k=some (.ed [],h',k')/\J4 p d lay o l J js (um p s t n) h' k'/\k<=k':=by
 obtain⟨S,T,vB,vC,vL,es,R,r⟩:=H;obtain⟨v,h',k',i,rfl,j,q,U,V,m,B,f,y,e,_⟩:=If .bad t n _ _ _ _ _ _ h k 0 S T vB vC vL es s.1 R s.2 J r u W c;exact⟨h',k',i,⟨j,q,U,V,m,B,f,y⟩,e⟩
def xN.O9                 (H:xN p d lay o l js h k b S T vB vC vL es m R rc J) (y:k<=k') (I:js'.length=4)
  (u:h' J=some ⟨1,js'.map (V.int .i64),false⟩) (a: ∀i,i<k->i≠J->h' i=h i):xN p d lay o l js' h' k' b S T vB vC vL es m R rc J:=by
 obtain⟨h1,K,U,c,n,q,z,G,O,B⟩:=H;have:=K.lt;exact⟨by rw[a _ G.1 O.2.1,h1],K.mono y fun i j=>a i (this i j) fun e=>B.2.2 (e▸j),U,c,by rw[a _ G.2.1 O.2.2,n],u,I,⟨ab,ab,ab⟩,O,B⟩
def J4.VS(H:J4 p d lay o l J js s h k)(e:rR o)(G:iN l):ze p d lay (s.1,o,l,js,s.2) (.ed []) h k:=by
 obtain⟨S,T,vB,vC,vL,es,R,q⟩:=H;exact⟨rfl,S,T,vB,vC,vL,es,R,J,q,e,G⟩
def Ap{l:cO}(h:iN l)(t:Int): ∀i,(fP l t i).2.length<=i
 |0=>by simp[Ao]
 |i+1=>by
  have:=Ap h t i;rw[Eg];simp only;split
  .simp;omega
  .omega
@[simp]def U6(Y:List hu)(n:List Int)(A:List (List Int))(Q:List Int)(E:Int)(l:List ac)(k:List cP)(W:List gc)(M F:List Int)(G:List (List Int))(Z:List (List fd))(f:List fR)(C:List i5)(N:List Int)(U:List (List Int))(y:List h_)(g:List Int)(t d:Int)(HG:cJ ⟨Y,n,A⟩ d ⟨⟨Q,E⟩,⟨l,k⟩,W⟩)(hd:d<=1099511627776)(ho:rR ⟨M,F,G,⟨Z,f⟩,C⟩)(hl:iN ⟨N,U⟩)(hj:g.length=4)(bL:y.length<=900010)(bS:0<=t/\t<4): ∃(w:aN) (o2:dw) (l2:cO) (K:List Int) (p:List h_),qP X [(0,16,65),(0,17,3),(0,7,112)] 139 18 ((t7 Y n A Q E l k W M F G Z f C N U y g:V)) [t]=some (18,(t7 Y n A w.am.aK w.am.key w.gt.cells w.gt.ge w.ce o2.md o2.nl o2.dK o2.iG.ap o2.iG.iV o2.dT l2.pl l2.i4 p K:V),[],.ed [])/\cJ ⟨Y,n,A⟩ d w/\w.am=⟨Q,E⟩/\rR o2/\iN l2/\K.length=4/\J1 ⟨Y,n,A⟩ ⟨⟨Q,E⟩,⟨l,k⟩,W⟩ ⟨M,F,G,⟨Z,f⟩,C⟩ ⟨N,U⟩ g y t.toNat=(w,o2,l2,K,p):=by
 have h4:W.length=4:=HG.len;obtain⟨⟨hB,ha⟩,x,cX⟩: ∃a b,fP ⟨N,U⟩ t 4=(a,b):=⟨_,_,rfl⟩;have aw:=MJ N U t hl;have L:=Ap hl t 4;have hr:=(u6 hl t 4).1;rw[cX]at aw L hr;simp only at aw L hr;obtain⟨tn,rfl⟩:=jp bS.1;have ht:tn<4:=ab
 have e1:(tn:Int)<4:=ab
 have r: ∃v h' k',df X 139 [.ptr 0 0 0,.int .i64 tn] (mY X 139 18 ((t7 Y n A Q E l k W M F G Z f C N U y g:V))) 4=some (v,h',k')/\ze ⟨Y,n,A⟩ d ⟨Q,E⟩ (J1 ⟨Y,n,A⟩ ⟨⟨Q,E⟩,⟨l,k⟩,W⟩ ⟨M,F,G,⟨Z,f⟩,C⟩ ⟨N,U⟩ g y tn) v h' k':=by
  obtain⟨s0,n0⟩: ∃s0:aN×List h_,(⟨⟨Q,E⟩,⟨l,k⟩,W⟩,y)=s0:=⟨_,rfl⟩;have ak:J1 ⟨Y,n,A⟩ ⟨⟨Q,E⟩,⟨l,k⟩,W⟩ ⟨M,F,G,⟨Z,f⟩,C⟩ ⟨N,U⟩ g y tn=((lC ⟨Y,n,A⟩ tn (jG ⟨Y,n,A⟩ s0 x,g) 4).1.1,⟨M,F,G,⟨Z,f⟩,C⟩,⟨hB,ha⟩,(lC ⟨Y,n,A⟩ tn (jG ⟨Y,n,A⟩ s0 x,g) 4).2,(lC ⟨Y,n,A⟩ tn (jG ⟨Y,n,A⟩ s0 x,g) 4).1.2):=by
   unfold J1;rw[cX,n0]
  rw[ak];have fG:s0.2.length<=900010:=by rw[<-n0];exact bL
  refine ip ?_;simp[h4,hj,aw];refine nG (fun i S=>(S.f 0= .ptr 0 0 0/\S.f 1= .int .i64 tn/\S.f 23= .sl false (x.map (V.int .i64))/\S.f 24= .int .i64 x.length/\S.f 25= .int .i64 i)/\J4 ⟨Y,n,A⟩ d ⟨Q,E⟩ ⟨M,F,G,⟨Z,f⟩,C⟩ ⟨hB,ha⟩ 2 g (jG ⟨Y,n,A⟩ s0 (x.take i)) S.h S.n) x.length ?_ 0 ab ?_
  .rintro i S hi ⟨⟨j,he,cQ,hx,h1⟩,au⟩;by_cases s:i<x.length
   .have c:(i:Int)<x.length:=ab
    obtain⟨h2,k2,e2,I,g3⟩:=(au.mono (k':=S.n+7) (h':=S.h) ab fun _ _=>rfl).Yg hd (x[i]) 0 ab (by rw[yQ];simp;omega);have hc:=z_ ((i:Int)+1);simp[j,he,cQ,hx,h1,s,c,e2,hc];rw[Yf _ _ s];exact I.mono ab fun _ _=>rfl
   .have c: ¬(i:Int)<x.length:=ab
    have m7:i=x.length:=ab
    rw[m7,un]at au;have g1:=au;obtain⟨iO,T,vB,vC,vL,es,R,H⟩:=g1;have O:=H.box;unfold Bs at O;have hS:=H.sW;simp[j,hx,h1,c,O];refine nG (fun i S=>(S.f 0= .ptr 0 0 0/\S.f 1= .int .i64 tn/\S.f 36= .cX 2 0 4/\S.f 37= .int .i64 4/\S.f 38= .int .i64 i)/\J4 ⟨Y,n,A⟩ d ⟨Q,E⟩ ⟨M,F,G,⟨Z,f⟩,C⟩ ⟨hB,ha⟩ 2 (lC ⟨Y,n,A⟩ tn (jG ⟨Y,n,A⟩ s0 x,g) i).2 (lC ⟨Y,n,A⟩ tn (jG ⟨Y,n,A⟩ s0 x,g) i).1 S.h S.n) 4 ?_ 0 ab ?_
    .rintro u hq n1 ⟨⟨j,he,P,h,o⟩,J⟩;have g2:=xP ⟨Y,n,A⟩ tn (jG ⟨Y,n,A⟩ s0 x,g) u;have h3:=Cq ⟨Y,n,A⟩ tn (jG ⟨Y,n,A⟩ s0 x,g) u;rw[yQ]at h3;by_cases s:u<4
     case neg=>
      have c: ¬(u:Int)<4:=ab
      have hs:u=4:=ab
      subst hs;simp[h,o];exact(J.mono ab fun _ _=>rfl).VS ho hr
     obtain⟨⟨⟨m,p⟩,K⟩,ku⟩: ∃z,lC ⟨Y,n,A⟩ tn (jG ⟨Y,n,A⟩ s0 x,g) u=z:=⟨_,rfl⟩;rw[ku]at J g2 h3;simp only at J h3;obtain⟨bT,T,vB,vC,vL,es,R,H⟩:=id J;simp only at H;have hv:=H.Cp;have B:=H.sW;have c:(u:Int)<4:=ab
     have hc:=z_ ((u:Int)+1);have bp:u<K.length:=ab
     by_cases aq:K[u]=tn
     case neg=>
      simp[j,he,P,h,o,s,c,B,hv,aq,hc];rw[g2];unfold Dl;rw[if_neg eE];exact J.mono ab fun _ _=>rfl
     have ae:=eq_true aq;have ay:bO m tn=m.ce[tn]'(by have:=H.own.am0;omega):=eL _;have hh:Dl ⟨Y,n,A⟩ tn ((m,p),K) u=(um ⟨Y,n,A⟩ (m,p) u (bO m tn).hw,K.set u (-1)):=if_pos eE;have bP:=H.own.len;have c3:=H.own.am0;have hT:=H.own.row;have O:=H.box;unfold Bs at O;obtain⟨vR,hf⟩:=H.own.avb tn ab ab;obtain⟨⟨hR,ff,dF,hA,b',gX,h8,hL⟩,hz⟩: ∃z,m.ce[tn]' ab=z:=⟨_,rfl⟩;have dN:=(H.PW.lq tn ab).hw;have ah:lC ⟨Y,n,A⟩ tn (jG ⟨Y,n,A⟩ s0 x,g) (u+1)=(um ⟨Y,n,A⟩ (m,p) u hL,K.set u (-1)):=by rw[g2,hh,ay,hz]
     rw[hz]at hf dN;simp only at hf dN;have fv:tn<es.length:=ab
     obtain⟨h2,k2,e2,I,g3⟩:=(J.mono (k':=hq.n+21) (h':=hq.h) ab fun _ _=>rfl).Yg hd u hL ab aB;obtain⟨bW,bV,hk,hn,an,hg,ts,q⟩:=id I;have D:=q.box;unfold Bs at D;have mm:=q.sW;simp[j,he,P,h,o,s,c,B,hv,ae,hc,hT,O,hf,bP,ht,e1,e2,D,mm];rw[ah];exact⟨bW,bV,hk,hn,an,hg,ts,q.O9 ab (by simp[hv]) al (fun i hi hp=>by simp[bB,hp])⟩
    .simp[j,he];exact au.mono ab fun _ _=>rfl
  .simp;rw[<-n0];exact⟨_,3,_,_,_,_,1,⟨by simp[bB,Bs,jG],ld.flat (by simp[bB,jG]) h4 ab,HG,rfl,by simp[bB,jG],al,hj,ab,ab,ab⟩⟩
 obtain⟨v,h',k',e,rfl,bT,bU,c1,bs,S',c2,e3,ba,H,aa,dz⟩:=r;refine⟨_,_,_,_,_,?_,H.PW,H.lay,aa,dz,H.Cp,rfl⟩;unfold qP;rw[show 1+(X.gy 139).length=4 from rfl,e];simp only[H.back];rfl
end Go.Proofs.YtdngefmliibcgaaGreat
