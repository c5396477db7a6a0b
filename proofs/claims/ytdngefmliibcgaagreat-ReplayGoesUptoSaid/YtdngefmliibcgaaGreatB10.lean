import Derived.Test.YtdngefmliibcgaaGreatB09
set_option linter.all false
set_option maxRecDepth 20000
set_option maxHeartbeats 0
namespace Go.Proofs.YtdngefmliibcgaaGreat
open Go Go.Abs Go.Abs.jJ Qf
variable  {p:g9}{t k i n:Nat}{upto s e c key:Int}{m r:aN}{bK:List ac}{aK ax:List Int}
def In(p:g9)(m:aN)(t n:Int):aN×Int×Int:=
 if fO p m=true/\(0<=t/\t<4)/\1<=n/\n<=64 then((dB p m t.toNat n).1,(dB p m t.toNat n).2,0) else(eQ,0,1)
def yI(h: ¬(jM p m t).2= -1):gH p t upto (k+1) m=jM p m t:=by rw[gH,if_neg h]
def Af(h:(jM p m t).2= -1)(c:(bO (jM p m t).1 t).ia=upto):gH p t upto (k+1) m=((jM p m t).1,0):=by
 rw[gH,if_pos h];exact if_pos c
def yJ(h:(jM p m t).2= -1)(c: ¬(bO (jM p m t).1 t).ia=upto):gH p t upto (k+1) m=gH p t upto k (jM p m t).1:=by
 rw[gH,if_pos h];exact if_neg c
def wm(p:g9)(m:aN)(t:Nat):(jM p m t).1.am=m.am:=rfl
@[simp]def VJ(d:List hu)(q:List Int)(w:List (List Int))(a:List Int)(B:Int)(f:List ac)(F:List cP)(Z:List gc)(t n:Int)(tn:Nat)(hr:xw (w_ a B f F Z))(hv:fO (wn d q w) (w_ a B f F Z)=true)(Q:tn<4)(hn:1<=n/\n<=64): ∃v h k,df X 193 [iB d q w,.agg (kW (w_ a B f F Z)),(tn:Int),.int .i64 n] mg 0=some (v,h,k)/\C9 (dB (wn d q w) (w_ a B f F Z) tn n).1 (dB (wn d q w) (w_ a B f F Z) tn n).2 0 v h k:=by
 have M:=xx hr hv;have hp:=M.prog.lens;have hd:=M.lens;have R:Z.length=4:=M.len;have O:tn<Z.length:=ab
 have hx:bO (w_ a B f F Z) tn=Z[tn]:=eL O;obtain⟨bV,h1,k1,hg,bS,ev,HA,V⟩:=A3 a B f F Z 29 (wn d q w) _ M;subst bS;subst ev;simp only[Nat.reduceAdd]at hg HA V;have t0:(0:Int)<=tn:=ab
 have lz: ¬(tn:Int)<0:=ab
 have L:(tn:Int)<4:=ab
 have lJ: ¬(4:Int)<=tn:=ab
 have bp: ¬n<1:=ab
 have cz: ¬64<n:=ab
 have b: ∀(H:bI) (K:Nat),H 27=some ⟨5,[rB (.cX 34 0 a.length) B (.cX 49 0 512) (.cX 128 0 4) (.cX 211 0 4)],true⟩->Cf 29 h1 H->219<=K->dQ H K 27 (.cX 34 0 a.length) 49 128 211 (mF 64 83 102 121) (mF 147 166 185 204) (w_ a B f F Z):=fun H K hb hz hB=>
  Pp (by rw[hb];unfold iF;simp only[R]) ab ab hB HA V hz
 have W: ∀(H:bI) (K k':Nat) (x:Option Ob) (g:Nat->Nat) (r:aN) (s:Int),r.am=⟨a,B⟩->dQ H K 27 (.cX 34 0 a.length) 49 128 211 g (mF 147 166 185 204) r->nH 29 (.cX 34 0 a.length) 49 128 211 g (mF 147 166 185 204)->
   C9 r s 0 (.ed [rB (.cX 34 0 a.length) B (.cX 49 0 512) (.cX 128 0 4) (.cX 211 0 4),.int .i64 s,.int .i64 0]) (bB H 2 x) k':=fun H K k' x g r s y G D=>by
  refine⟨_,49,128,211,g,_,_,?_,G.at.mono D (iX _) fun i hi _=>ch⟩;unfold iF;rw[G.len,y]
 by_cases P:(Z[tn]).im=1
 case neg=>
  have e:dB (wn d q w) (w_ a B f F Z) tn n=((aN.mk (iy.mk a B) (aD.mk f F) Z),3):=by unfold dB;rw[show(aN.ce (w_ a B f F Z)).getD tn cT=Z[tn] from hx];exact if_neg P
  rw[e];unfold kW;refine ip ?_;simp[hp,hd,hv,t0,lz,L,lJ,bp,cz,Q,R,P,hg,fI,gM];refine W _ 300 _ _ _ _ _ rfl (b _ _ ?_ ?_ ab) V;all_goals simp[qS,wj]
 have bs:=eq_true P;obtain⟨u,mS⟩:=x_ ((Z[tn]).ia+n);have hk:=(M.lq tn O).ia;simp only at hk;have h2:IntKind.i64.wrap ((Z[tn]).ia+n)=u:=by rw[mS];exact wrap_i64 ab
 have e:dB (wn d q w) (w_ a B f F Z) tn n=gH (wn d q w) tn u 20000 (w_ a B f F Z):=by
  unfold dB;rw[show(aN.ce (w_ a B f F Z)).getD tn cT=Z[tn] from hx,if_pos P,mS]
 rw[e];have hT:=HA.lq;have ht:=eU (ids:=mF 147 166 185 204) O;have p:=eX (mF 147 166 185 204) Z;rw[R]at p;unfold kW;refine ip ?_;simp[hp,hd,hv,t0,lz,L,lJ,bp,cz,Q,R,bs,hg,fI,gM,h2,hT,ht,p];refine nG (fun i S=> ∃m g,(S.f 2= .int .i64 tn/\S.f 4= .ptr 0 0 0/\S.f 8= .ptr 2 0 0/\S.f 11= .ptr 27 0 0/\S.f 12= .int .i64 u)/\
   (S.h 0=some ⟨3,[iB d q w],true⟩/\S.h 2=some ⟨5,[rB (.sl true []) 0 (.sl true []) (.sl true []) (.sl true [])],true⟩)/\
   m.am=⟨a,B⟩/\dQ S.h S.n 27 (.cX 34 0 a.length) 49 128 211 g (mF 147 166 185 204) m/\nH 29 (.cX 34 0 a.length) 49 128 211 g (mF 147 166 185 204)/\29<=S.n/\
   cJ (wn d q w) (1099511627776+64) m/\(bO m tn).ia<u/\i+Ae u (bO m tn)<=19456/\gH (wn d q w) tn u (20000-i) m=gH (wn d q w) tn u 20000 (w_ a B f F Z)) 19456 ?_ 0 ai ?_
 .rintro i S hi ⟨m,g,⟨f2,f4,mm,N,Y⟩,⟨U,he⟩,y,c2,D,hB,T,hc,bP,l⟩;have fv:1<=Ae u (bO m tn):=by
   have:=(T.bO Q).pc;unfold Ae;omega
  have fG:i<19456:=ab
  have e2:20000-i=(20000-(i+1))+1:=ab
  have hf:=c2.mono (k':=S.n+4) (h':=S.h) ab fun _ _=>rfl;obtain⟨h',k',hh,cQ,G,g1,g2,g3⟩:=a2v d q w .bad 0 S.h (S.n+4) 27 _ _ _ _ _ _ m tn _ hf T ab Q ⟨34,by rw[y]⟩;have A:nH 29 (.cX 34 0 a.length) 49 128 211 hh (mF 147 166 185 204):=by
   obtain⟨q1,q2,S'⟩:=D;refine⟨q1,fun j z=>⟨?_,(q2 j z).2⟩,S'⟩;rcases g2 j z with e|e
   .rw[e];exact(q2 j z).1
   .omega
  have low: ∀x,x<27->h' x=S.h x:=fun x hx=>g3 x ab ab ab (fun j z=>by have:=D.2.1 j z;omega) ab (by have:=D.2.1 tn Q;omega);have HG:=low 0 ab;have E:=low 2 ab;rw[U]at HG;rw[he]at E;have I:=G.uG;have h3:=G.len;unfold iF at I;rw[h3,wm,y]at I;have dN:=G.lq;have C:tn<(jM (wn d q w) m tn).1.ce.length:=by rw[h3];exact Q
  have h4:=eU (ids:=mF 147 166 185 204) C;have n0:=eX (mF 147 166 185 204) (jM (wn d q w) m tn).1.ce;rw[h3]at n0;have hL:bO (jM (wn d q w) m tn).1 tn=(jM (wn d q w) m tn).1.ce[tn]:=eL C;have ay:(jM (wn d q w) m tn).1.am=⟨a,B⟩:=by rw[wm];exact y
  by_cases o:(jM (wn d q w) m tn).2= -1
  case neg=>
   rw[<-l,e2,yI o];simp[f2,f4,mm,N,U,cQ,E,I,o];exact W _ _ _ _ _ _ _ ay G A
  have ha:=eq_true o;have c1:=A0 T Q o u;by_cases c:(bO (jM (wn d q w) m tn).1 tn).ia=u
  .rw[<-l,e2,Af o c];rw[hL]at c;simp[f2,f4,mm,N,Y,U,cQ,E,I,ha,dN,h4,n0,Q,L,c];exact W _ _ _ _ _ _ _ ay G A
  .have e1:=yJ (k:=20000-(i+1)) o c;have J:=c;rw[hL]at J;simp[f2,f4,mm,N,Y,U,cQ,HG,E,I,ha,dN,h4,n0,Q,L,J,fG];refine⟨(jM (wn d q w) m tn).1,ay,hh,?_,A,ab,AZ T Q ab,ab,ab,?_⟩
   .exact G.mono ab fun _ _=>rfl
   .have hq:=e1.symm;rw[<-e2,l]at hq;rw[show 19999-i=20000-(i+1) from ab];exact hq
 .simp;refine⟨(aN.mk (iy.mk a B) (aD.mk f F) Z),rfl,mF 64 83 102 121,b _ _ ?_ ?_ ab,V,M.mono ab,by rw[hx];omega,?_,rfl⟩
  .simp
  .simp[qS,wj]
  .have:=(M.lq tn O).pc;simp only at this;rw[hx];unfold Ae;omega
def C9.own{v:V}{h:bI}(H:C9 r s e v h k):Nr X h v [(0,4,112)]=some (.ed [.agg (kW r),.int .i64 s,.int .i64 e]):=by
 obtain⟨vB,C,L,T,ids,bH,P,rfl,A⟩:=H;have W:=A.lq;have G:=A.len;have w:=A.mp.ge;have m:=A.mp.len;have g: ¬C=T:=fun e=>A.yG.1 e.symm;have D: ¬L=T:=fun e=>A.yG.2.1 e.symm;have u: ∀i,i≠T->bB h T none i=h i:=fun i j=>by simp[bB,j]
 have o:=A.Gc (hx:=bB h T none) (fun i j=>u _ (A.mL i j).2.2.1) 10;have p:=A.AY (hx:=bB h T none) (fun i j=>u _ (A.afp i j)) 9;have f:=eX bH r.ce;have l:=j9 ids r.gt.ge;rw[G]at f;rw[w]at l;have n:(dn bH r.ce).take 4=dn bH r.ce:=bQ ab;have q:(gh ids r.gt.ge).take 4=gh ids r.gt.ge:=bQ ab;have t:(r.gt.cells.map ac.e).take 512=r.gt.cells.map ac.e:=bQ aA;have I:(r.ce.map gc.e).take 4=r.ce.map gc.e:=bQ aA;unfold iF kW;rcases A.aK with e|⟨B,e,x,E,M,U⟩
 .simp[e,W,G,m,g,D,A.mem.cells,A.mem.ge,f,l,n,q,t,o,p]
 .have Y: ¬B=T:=E.2.2.1;simp[e,x,W,G,m,Y,g,D,A.mem.cells,A.mem.ge,f,l,n,q,t,o,p]
def C9.mh{g:FuncId}{args:List V}{r:aN}{s e:Int}(H: ∃v h k,df X g args mg 0=some (v,h,k)/\C9 r s e v h k):mh X [(0,4,112)] g args=some (.ed [.agg (kW r),s,e]):=by
 obtain⟨v,h,k,i,C⟩:=H;unfold Go.Abs.mh;rw[i];exact C.own
@[simp]def UK(u:List hu)(q:List Int)(w:List (List Int))(Z:List Int)(B:Int)(h:List ac)(e:List cP)(a:List gc)(t n:Int)(r:xw (w_ Z B h e a))(v:fO (wn u q w) (w_ Z B h e a)=true)(S:0<=t/\t<4)(W:1<=n/\n<=64):mh X [(0,4,112)] 193 [iB u q w,ol Z B h e a,.int .i64 t,.int .i64 n]=some (.ed [rJ ((dB (wn u q w) (w_ Z B h e a) t.toNat n).1),.int .i64 ((dB (wn u q w) (w_ Z B h e a) t.toNat n).2),.int .i64 0]):=by
 obtain⟨k,rfl⟩:=jp S.1;exact C9.mh (VJ u q w Z B h e a k n k r v ab W)
def Ij: ∀(k:List UInt8) (l:List Int) (i:Nat) (h:i<k.length) (h':i<l.length),gr (k.take (i+1)) (l.take (i+1))=(gr (k.take i) (l.take i)&&wh ((k[i]).toNat:Int) l[i])
 | [],_,i,h,_=>by simp at h
 |_::_,[],i,_,h'=>by simp at h'
 |a::k,b::l,0,_,_=>by simp[gr]
 |a::k,b::l,i+1,h,h'=>by
  have:=Ij k l i bn (by simpa using h');simp only[List.take_succ_cons,gr,this,y4,Bool.and_assoc]
def Ik: ∀(k:List UInt8) (l:List Int) (i:Nat) (h:i<k.length) (h':i<l.length),wh ((k[i]).toNat:Int) l[i]=false->gr k l=false
 | [],_,i,h,_,_=>by simp at h
 |_::_,[],i,_,h',_=>by simp at h'
 |a::k,b::l,0,_,_,e=>by simp only[xL]at e;simp[gr,e]
 |a::k,b::l,i+1,h,h',e=>by
  have:=Ik k l i bn (by simpa using h') (by simpa using e);simp[gr,this]
def mr(h:0<=c/\c<=15):(dc c).length<=3:=by
 rcases mn h with rfl|rfl|rfl|rfl|rfl|rfl|rfl|rfl|rfl|rfl|rfl|rfl|rfl|rfl|rfl|rfl<;>decide
def mM(c:Int)(bK:List ac):List Int:=(bK.take (dc c).length).map (·.gs)
def Il(h:0<=c/\c<=15)(r:bK.length=8):(mM c bK).length=(dc c).length:=by
 have:=mr h;simp[mM,r];omega
def KT(h:i<(mM c bK).length)(r:i<bK.length):(mM c bK)[i]=(bK[i]).gs:=by simp[mM]
def Eb(aK ax:List Int)(n:Nat)(c:Int)(bK:List ac):qn aK ax n c bK=if gr (dc c) (mM c bK)=false then 6
 else if 0<kv c/\((iA aK ax (bK.getD 1 ⟨0,0⟩) (bK.getD 2 ⟨0,0⟩).val).2≠0\/16<(bK.getD 2 ⟨0,0⟩).val) then 6
 else if(c=10\/c=12)/\(n:Int)<=(bK.getD 0 ⟨0,0⟩).val then 6 else 0:=rfl
@[simp]def BH(u:List hu)(q:List Int)(V:List (List Int))(g:List Int)(W:Int)(Y:List ac)(ae:List cP)(a:List gc)(t:Int)(cQ:a.length=4)(ht:0<=t/\t<4)(Q:fM g q)(hl:u.length<=1000)(h:(a.getD t.toNat cT).bK.length=8)(o:Ac (a.getD t.toNat cT).bK)(hp:1<=(a.getD t.toNat cT).pc/\(a.getD t.toNat cT).pc<=u.length)(m:0<=(kq u (a.getD t.toNat cT).pc).eA/\(kq u (a.getD t.toNat cT).pc).eA<=15):cG X 194 [iB u q V,ol g W Y ae a,.int .i64 t]=some (.int .i64 (qn g q u.length (kq u (a.getD t.toNat cT).pc).eA (a.getD t.toNat cT).bK)):=by
 refine ij ?_;obtain⟨k,rfl⟩:=jp ht.1;have hk:k<a.length:=ab
 have hn:(k:Int)<4:=ab
 have E:k<4:=ab
 have hx:a.getD (k:Int).toNat cT=a[k]:=by simp[List.getD,hk]
 rw[hx]at h o hp m⊢;obtain⟨j,J⟩: ∃j:Nat,(a[k]).pc-1=j:=⟨((a[k]).pc-1).toNat,ab⟩;have H:j<u.length:=ab
 have n0:(j:Int)<u.length:=ab
 have h3:kq u (a[k]).pc=u[j]:=by unfold kq;rw[J];simp[List.getD,H]
 rw[h3]at m⊢;have O:IntKind.i64.wrap ((a[k]).pc-1)=j:=by rw[J];exact wrap_i64 ab
 obtain⟨c,R⟩:=x_ ((u[j]).eA);rw[R]at m⊢;obtain⟨bK,F⟩:=x_ ((a[k]).bK);rw[F]at h o⊢;have k3:=mr m;have ha:=Il m h;have ay:=o 0 ab;have U:=o 1 ab;have c2:=o 2 ab;obtain⟨M,Z⟩:=x_ (bK[0]' ab);obtain⟨⟨h1,P⟩,n⟩: ∃x,bK[1]' ab=x:=⟨_,rfl⟩;obtain⟨r,p⟩:=x_ (bK[2]' ab);rw[Z]at ay;rw[n]at U;rw[p]at c2;simp only at U;have hg:bK.getD 0 ⟨0,0⟩=M:=by simp[List.getD,h,Z]
 have g1:bK.getD 1 ⟨0,0⟩=⟨h1,P⟩:=by simp[List.getD,h,n]
 have g2:bK.getD 2 ⟨0,0⟩=r:=by simp[List.getD,h,p]
 have hd:0<bK.length:=ab
 have l1:1<bK.length:=ab
 have l2:2<bK.length:=ab
 have A:0<=P/\P<=65535:=ab
 have v:r.val<=1000000:=ab
 have w:=z_ M.val;have N:=z_ r.val;rw[Eb,hg,g1,g2];simp[cQ,hn,E,H,n0,O,R,m,F];refine dO (fun i S=>(S.f 3= .ptr 3 0 0/\S.h 3=some ⟨3,[iB u q V],true⟩/\S.f 4= .ptr 4 0 0/\S.h 4=some ⟨5,[ol g W Y ae a],true⟩/\S.f 7= .ptr 7 0 0/\S.h 7=some ⟨8,[uO (a[k])],true⟩/\S.f 8= .int .i64 (c)/\S.f 9= .str (dc c)/\S.f 29= .int .i64 (((dc c).length:Int))/\S.f 30=(i:Int)/\S.n=1100)/\(gr ((dc c).take i) ((mM c bK).take i)=true)) ((dc c).length) ab ?_ ?_ ?_
 .rintro i S ⟨HG,iO,z⟩ ⟨d,G⟩;have T:i<8:=ab
  have h2:(i:Int)<8:=ab
  have mm:i<bK.length:=ab
  have C:i<(mM c bK).length:=ab
  have s:=Ij (dc c) (mM c bK) i z C;have hs:=KT C mm;have bad:=Ik (dc c) (mM c bK) i z C;rw[hs]at s bad;rw[G]at s;cases L:wh ((dc c)[i].toNat:Int) (bK[i]).gs with
  |false=>
   have b:=bad L;simp[d,z,F,h,T,h2,L,b]
  |true=>
   rw[L]at s;simp[d,iO,z,F,h,T,h2,L,s]
 .rintro S ⟨d,G⟩;have K:gr (dc c) (mM c bK)=true:=by
   rw[un,bQ ab]at G;exact G
  by_cases b:0<kv c
  .by_cases D:(iA g q ⟨h1,P⟩ r.val).2=0
   .by_cases ho:16<r.val
    .simp[d,ac.cN,K,b,Q,A,v,N,F,h,n,p,D,ho]
    .have I: ¬c=10:=fun e=>by rw[e]at b;revert b;decide
     have B: ¬c=12:=fun e=>by rw[e]at b;revert b;decide
     simp[d,ac.cN,K,b,Q,A,v,N,F,h,n,p,D,ho,I,B]
   .simp[d,ac.cN,K,b,Q,A,v,N,F,h,n,p,D]
  .by_cases y:c=10
   .have he:=eq_true y;by_cases l:(u.length:Int)<=M.val
    .simp[d,ac.cN,K,b,w,F,h,Z,he,l]
    .simp[d,ac.cN,K,b,w,F,h,Z,he,l]
   .by_cases hi:c=12
    .have f:=eq_true hi;by_cases l:(u.length:Int)<=M.val
     .simp[d,ac.cN,K,b,w,F,h,Z,y,f,l]
     .simp[d,ac.cN,K,b,w,F,h,Z,y,f,l]
    .simp[d,K,b,y,hi]
 .simp<;>(
   first|rfl|exact⟨rfl,rfl⟩|(simp[gr,F];done)|(rw[F];first|rfl|simp[gr]))
def tX(hx:bI)(l:List gc):di (l.map (da hx 12∘gc.e))=some (l.map gc.e):=qQ (fun _=>rfl) l
def dW(aK:List Int)(key:Int)(ax:List Int)(bK:List ac)(i:Nat):List fd:=(bK.take i).map (canon aK key ax)
def A5(h:i<bK.length):dW aK key ax bK (i+1)=dW aK key ax bK i++ [canon aK key ax bK[i]]:=by
 unfold dW;rw[kJ h,t2];rfl
def ry(h:i<=bK.length):(dW aK key ax bK i).length=i:=by
 simp[dW];omega
def rN(aK:List Int)(key:Int)(ax:List Int)(bK:List ac):dW aK key ax bK 0=[]:=by simp[dW]
def jL(aK:List Int)(key:Int)(ax:List Int)(mem:aD)(a i:Nat):List fd:=(List.range i).map fun j=>canon aK key ax (look mem (a+j))
def Da(aK:List Int)(key:Int)(ax:List Int)(mem:aD)(a i:Nat):jL aK key ax mem a (i+1)=jL aK key ax mem a i++ [canon aK key ax (look mem (a+i))]:=by
 unfold jL;rw[u5,t2];rfl
def tG(aK:List Int)(key:Int)(ax:List Int)(mem:aD)(a i:Nat):(jL aK key ax mem a i).length=i:=by simp[jL]
def S9(aK:List Int)(key:Int)(ax:List Int)(mem:aD)(a:Nat):jL aK key ax mem a 0=[]:=rfl
def kf(p:g9)(x:gc):Int:=(kq p.hw x.pc).eA
def wU(p:g9)(m:aN)(x:gc):Int:=qn m.am.aK p.ax p.hw.length (kf p x) x.bK
def ep:io:=⟨0,0,0,0,0,0,[],[]⟩
def xD(p:g9)(m:aN)(x:gc)(t:Int):io:=
 ⟨t,1,0,x.ia,x.pc,kf p x,dW m.am.aK m.am.key p.ax x.bK (dc (kf p x)).length,if kv (kf p x)=1 then jL m.am.aK m.am.key p.ax m.gt (x.bK.getD 1 ⟨0,0⟩).val.toNat (x.bK.getD 2 ⟨0,0⟩).val.toNat else []⟩
def jr(p:g9)(m:aN)(t:Nat)(s:Int):aN×io:=
 if s=1 then(if wU p m (bO m t)=0 then(m,xD p m (bO m t) t) else(ie m m.gt t (fQ (bO m t) (wU p m (bO m t))),⟨t,2,wU p m (bO m t),(bO m t).ia,(bO m t).pc,0,[],[]⟩))
 else(m,⟨t,s,if s=2 then(bO m t).dD else 0,(bO m t).ia,(bO m t).pc,0,[],[]⟩)
def dP(p:g9)(m:aN)(t n:Int):aN×io×Int:=
 if fO p m=true/\(0<=t/\t<4)/\1<=n/\n<=64 then((jr p (dB p m t.toNat n).1 t.toNat (dB p m t.toNat n).2).1,(jr p (dB p m t.toNat n).1 t.toNat (dB p m t.toNat n).2).2,0) else(eQ,ep,1)
def fq.look{m:aD}(h:qo m)(a:Nat):iD (look m a):=by
 unfold Go.Proofs.YtdngefmliibcgaaGreat.look;split
 .exact(h.line _).getD _
 .exact h.cells.getD _
def KU(aK ax:List Int)(n:Nat)(c:Int)(bK:List ac):qn aK ax n c bK=0\/qn aK ax n c bK=6:=by
 unfold qn;split
 .exact .inr rfl
 split
 .exact .inr rfl
 split
 .exact .inr rfl
 .exact .inl rfl
def rO(h:qn aK ax n c bK=0):gr (dc c) (mM c bK)=true/\(0<kv c->(iA aK ax (bK.getD 1 ⟨0,0⟩) (bK.getD 2 ⟨0,0⟩).val).2=0/\(bK.getD 2 ⟨0,0⟩).val<=16):=by
 rw[Eb]at h;split at h
 .cases h
 rename_i h1;split at h
 .cases h
 rename_i K;refine⟨eC,fun b=> ?_⟩;refine w8 fun W=>K ⟨b,?_⟩;by_cases e:(iA aK ax (bK.getD 1 ⟨0,0⟩) (bK.getD 2 ⟨0,0⟩).val).2=0
 .exact .inr ab
 .exact .inl e
def xE(L:fM aK ax){x:ac}{n:Int}(h:(iA aK ax x n).2=0):x.gs=1/\0<=n/\0<=x.val/\x.val+n<=512:=by
 unfold iA at h;split at h
 case isFalse=>cases h
 rename_i h1;split at h
 case isFalse=>cases h
 rename_i K;split at h
 .cases h
 rename_i S;split at h
 .cases h
 rename_i a;obtain⟨k,y,t,e,M,U⟩:=jn K;have b:=L.base k y t;have z:=L.sz.elem k t;have F:nth ax k=ax[k]:=dA t;rw[e]at a;simp only[X7,F]at a;refine⟨h1,ab,ab,ab⟩
@[simp]def Ps(u:List hu)(q:List Int)(w:List (List Int))(Z:List Int)(k:Int)(d:List ac)(F:List cP)(a:List gc)(t n:Int)(hp:AU (wn u q w))(m:yA (w_ Z k d F a))(r:xw (w_ Z k d F a))(o: ¬(fO (wn u q w) (w_ Z k d F a)=true/\(0<=t/\t<4)/\1<=n/\n<=64)):mh X [(0,4,112)] 193 [iB u q w,ol Z k d F a,.int .i64 t,.int .i64 n]=some (.ed [rJ eQ,.int .i64 0,.int .i64 1]):=by
 unfold eQ;refine tS ?_;by_cases v:fO (wn u q w) (w_ Z k d F a)=true
 case neg=>
  simp[hp,m,v]
 by_cases h0:0<=t
 case neg=>
  have P:t<0:=ab
  simp[hp,m,v,P]
 have P: ¬t<0:=ab
 by_cases b:t<4
 case neg=>
  have h:4<=t:=ab
  simp[hp,m,v,P,h]
 have h: ¬4<=t:=ab
 by_cases s:1<=n
 case neg=>
  have c:n<1:=ab
  simp[hp,m,v,P,h,c]
 have c: ¬n<1:=ab
 have S:64<n:=by
  refine w8 fun e=>o ⟨v,⟨h0,b⟩,s,ab⟩
 simp[hp,m,v,P,h,c,S]
@[simp]def Ta(u:List hu)(a:List Int)(y:List (List Int))(g:List Int)(B:Int)(d:List ac)(F:List cP)(Z:List gc)(t n:Int)(hp:AU (wn u a y))(aH:yA (w_ g B d F Z))(hr:xw (w_ g B d F Z)):mh X [(0,4,112)] 118 [iB u a y,ol g B d F Z,.int .i64 t,.int .i64 n]=some (.ed [rJ ((dP (wn u a y) (w_ g B d F Z) t n).1),wk ((dP (wn u a y) (w_ g B d F Z) t n).2.1),.int .i64 ((dP (wn u a y) (w_ g B d F Z) t n).2.2)]):=by
 refine tS ?_;by_cases C:fO (wn u a y) (w_ g B d F Z)=true/\(0<=t/\t<4)/\1<=n/\n<=64
 case neg=>
  exact kE
 have e:dP (wn u a y) (w_ g B d F Z) t n=((jr (wn u a y) (dB (wn u a y) (w_ g B d F Z) t.toNat n).1 t.toNat (dB (wn u a y) (w_ g B d F Z) t.toNat n).2).1,(jr (wn u a y) (dB (wn u a y) (w_ g B d F Z) t.toNat n).1 t.toNat (dB (wn u a y) (w_ g B d F Z) t.toNat n).2).2,0):=if_pos C;rw[e];have A:=UK u a y g B d F Z t n hr C.1 C.2.1 C.2.2;obtain⟨hv,ht,hn⟩:=C;obtain⟨k,rfl⟩:=jp ht.1;have P:k<4:=ab
 have R:(k:Int)<4:=ab
 have gX:=xx hr hv;simp only[X7]at A⊢;have ho:(dB (wn u a y) (w_ g B d F Z) k n).2=3/\cJ (wn u a y) (1099511627776+n) (dB (wn u a y) (w_ g B d F Z) k n).1\/wT (wn u a y) (1099511627776+n) k (dB (wn u a y) (w_ g B d F Z) k n):=by
  by_cases hs:(bO (w_ g B d F Z) k).im=1
  .exact .inr (tF gX P hn.1 hs)
  .have e1:dB (wn u a y) (w_ g B d F Z) k n=((aN.mk (iy.mk g B) (aD.mk d F) Z),3):=d8
   rw[e1];exact .inl ⟨rfl,gX.mono ab⟩
 obtain⟨⟨⟨b,key⟩,⟨cs,l⟩,v⟩,s,cu⟩: ∃mm s,dB (wn u a y) (w_ g B d F Z) k n=(mm,s):=⟨_,_,rfl⟩;rw[cu]at A ho⊢;simp only at A ho⊢;have I:cJ (wn u a y) (1099511627776+n) ⟨⟨b,key⟩,⟨cs,l⟩,v⟩:=by
  rcases ho with h|h
  .exact h.2
  .exact h.ny
 have G:v.length=4:=I.len;have h4:k<v.length:=ab
 have hx:bO ⟨⟨b,key⟩,⟨cs,l⟩,v⟩ k=v[k]:=eL h4;have O:=I.lq k h4;simp only at O;obtain⟨⟨st,r,pc,o,W,z,m,L⟩,Q⟩: ∃x,v[k]=x:=⟨_,rfl⟩;rw[Q]at hx O;have H:r.length=8:=O.bK;have D: ∀(f:gc->V),List.take 4 (v.map f)=v.map f:=fun f=>bQ aA;have n1: ∀(f:gc->Option V),List.take 4 (v.map f)=v.map f:=fun f=>bQ aA;by_cases ay:s=1
 case neg=>
  have e2:jr (wn u a y) ⟨⟨b,key⟩,⟨cs,l⟩,v⟩ k s=(⟨⟨b,key⟩,⟨cs,l⟩,v⟩,⟨k,s,if s=2 then m else 0,o,pc,0,[],[]⟩):=by
   unfold jr;rw[if_neg ay,hx]
  rw[e2];by_cases dz:s=2
  .subst dz;simp[A,D,tX,G,P,R,Q]
  .simp[A,D,tX,G,P,R,Q,ay,dz]
 subst ay;have bS:wT (wn u a y) (1099511627776+n) k (⟨⟨b,key⟩,⟨cs,l⟩,v⟩,1):=by
  rcases ho with h|h
  .exact absurd h.1 aG
  .exact h
 obtain⟨c1,c2,c3,c4⟩:=bS.calls rfl;simp only[hx]at c1 c2 c3 c4;have hL:=I.lay;have Xw:u.length<=64:=I.prog.qH;have b':=O.cells.Mh;simp only at hL b';have h1:v.getD (k:Int).toNat cT=⟨st,r,pc,o,W,z,m,L⟩:=by rw[X7];simp[List.getD,h4,Q]
 obtain⟨j,hj⟩: ∃j:Nat,pc-1=j:=⟨(pc-1).toNat,ab⟩;have cQ:j<u.length:=ab
 have dM:(j:Int)<u.length:=ab
 have hi:kq u pc=u[j]:=f1
 have bp:IntKind.i64.wrap (pc-1)=j:=hH
 have hI:=I.prog.wS (p:=(g9.mk u a y)) cQ;simp only at hI;rw[hi]at c4;have fv:0<=(u[j]).eA/\(u[j]).eA<=15:=⟨hI.eA.1,hI.sys c4⟩;have N:=BH u a y b key cs l v k G ⟨ab,R⟩ hL ab (by rw[h1];exact H) (by rw[h1];exact b') (by rw[h1];exact⟨c2,c3⟩) fZ;rw[h1]at N;simp only[hi]at N;obtain⟨c,n0⟩:=x_ ((u[j]).eA);rw[n0]at N fv;have U:kf (wn u a y) ⟨st,r,pc,o,W,z,m,L⟩=c:=by unfold kf;simp only;rw[hi,n0]
 obtain⟨w,hq⟩:=x_ (qn b a u.length c r);rw[hq]at N;have T:wU (wn u a y) ⟨⟨b,key⟩,⟨cs,l⟩,v⟩ ⟨st,r,pc,o,W,z,m,L⟩=w:=by unfold wU;rw[U];exact hq
 by_cases h3:w=0
 case neg=>
  have e2:jr (wn u a y) ⟨⟨b,key⟩,⟨cs,l⟩,v⟩ k 1=(⟨⟨b,key⟩,⟨cs,l⟩,v.set k (fQ ⟨st,r,pc,o,W,z,m,L⟩ w)⟩,⟨k,2,w,o,pc,0,[],[]⟩):=by
   unfold jr;rw[if_pos rfl,hx,T,if_neg h3];rfl
  rw[e2];obtain⟨Y,hg⟩:=x_ (v.set k (fQ ⟨st,r,pc,o,W,z,m,L⟩ w));have hA:Y.length=4:=by rw[<-hg];simp[G]
  have cC: ∀(f:gc->V),List.take 4 (Y.map f)=Y.map f:=fun f=>bQ aA;have jz: ∀(f:gc->Option V),List.take 4 (Y.map f)=Y.map f:=fun f=>bQ aA;have ba:(v.map gc.e).set k (V.agg [.int .i64 4,r,.int .i64 pc,.int .i64 o,.int .i64 W,.int .i64 z,.int .i64 w,.int .u16 0])=Y.map gc.e:=by rw[<-hg,sB];rfl
  have cg:(gc.e ⟨st,r,pc,o,W,z,m,L⟩).put 0 (V.agg [.int .i64 4,r,.int .i64 pc,.int .i64 o,.int .i64 W,.int .i64 z,.int .i64 w,.int .u16 0])=V.agg [.int .i64 4,r,.int .i64 pc,.int .i64 o,.int .i64 W,.int .i64 z,.int .i64 w,.int .u16 0]:=rfl;rw[hg];simp[A,D,cC,tX,G,hA,P,R,Q,H,N,h3,ba,cg]
 subst h3;obtain⟨hf,hy⟩:=rO hq;have k3:=mr fv;have e2:jr (wn u a y) ⟨⟨b,key⟩,⟨cs,l⟩,v⟩ k 1=(⟨⟨b,key⟩,⟨cs,l⟩,v⟩,⟨k,1,0,o,pc,c,dW b key a r (dc c).length,if kv c=1 then jL b key a ⟨cs,l⟩ (r.getD 1 ⟨0,0⟩).val.toNat (r.getD 2 ⟨0,0⟩).val.toNat else []⟩):=by
  exact pL
 rw[e2];have he:=O.cells;simp only at he;have l1:1<r.length:=ab
 have l2:2<r.length:=ab
 obtain⟨⟨kk,q1⟩,e1⟩: ∃x,r[1]'l1=x:=⟨_,rfl⟩;obtain⟨⟨hB,hd⟩,e3⟩: ∃x,r[2]'l2=x:=⟨_,rfl⟩;have g1:r.getD 1 ⟨0,0⟩=⟨kk,q1⟩:=by simp[List.getD,H,e1]
 have g2:r.getD 2 ⟨0,0⟩=⟨hB,hd⟩:=by simp[List.getD,H,e3]
 rw[g1,g2];simp only;have hT:=(e1▸he.at l1).2;have ff:=(e3▸he.at l2).2;simp only at hT ff;simp[A,D,G,P,R,Q,N,cQ,dM,bp,n0];refine dO (fun i S=>(S.f 4= .ptr 4 0 0/\S.h 4=some ⟨3,[iB u a y],true⟩/\S.f 8= .ptr 8 0 0/\S.h 8=some ⟨5,[ol ([]:List Int) 0 ([]:List ac) ([]:List cP) ([]:List gc)],true⟩/\S.f 9= .ptr 9 0 0/\S.h 9=some ⟨8,[i7 0 0 0 0 0 0 ([]:List fd) ([]:List fd)],true⟩/\S.f 11= .ptr 11 0 0/\S.h 1000=some ⟨8,(⟨⟨b,key⟩,⟨cs,l⟩,v⟩:aN).ce.map gc.e,false⟩/\S.h 11=some ⟨5,[xY (⟨⟨b,key⟩,⟨cs,l⟩,v⟩:aN).am.aK (⟨⟨b,key⟩,⟨cs,l⟩,v⟩:aN).am.key (⟨⟨b,key⟩,⟨cs,l⟩,v⟩:aN).gt.cells (⟨⟨b,key⟩,⟨cs,l⟩,v⟩:aN).gt.ge (.cX 1000 0 ((⟨⟨b,key⟩,⟨cs,l⟩,v⟩:aN).ce.map gc.e).length)],true⟩/\S.f 14= .ptr 14 0 0/\S.h 14=some ⟨8,[uO (⟨st,r,pc,o,W,z,m,L⟩:gc)],true⟩/\S.f 15= .ptr 15 0 0/\S.h 1001=some ⟨4,(⟨(k:Int),1,0,o,pc,c,dW b key a r i,[]⟩:io).args.map fd.e,false⟩/\S.h 1002=some ⟨4,(⟨(k:Int),1,0,o,pc,c,dW b key a r i,[]⟩:io).ap.map fd.e,false⟩/\S.h 15=some ⟨8,[.agg [.int .i64 (⟨(k:Int),1,0,o,pc,c,dW b key a r i,[]⟩:io).cw,.int .i64 (⟨(k:Int),1,0,o,pc,c,dW b key a r i,[]⟩:io).j',.int .i64 (⟨(k:Int),1,0,o,pc,c,dW b key a r i,[]⟩:io).dD,.int .i64 (⟨(k:Int),1,0,o,pc,c,dW b key a r i,[]⟩:io).ia,.int .i64 (⟨(k:Int),1,0,o,pc,c,dW b key a r i,[]⟩:io).pc,.int .i64 (⟨(k:Int),1,0,o,pc,c,dW b key a r i,[]⟩:io).call,.cX 1001 0 ((⟨(k:Int),1,0,o,pc,c,dW b key a r i,[]⟩:io).args.map fd.e).length,.cX 1002 0 ((⟨(k:Int),1,0,o,pc,c,dW b key a r i,[]⟩:io).ap.map fd.e).length]],true⟩/\S.f 80= .int .i64 (((dc c).length:Int))/\S.f 81=(i:Int)/\S.n=1103)/\True) ((dc c).length) ab ?_ ?_ ?_
 .rintro i S ⟨cI,iO,cz⟩ ⟨dN,fG⟩;have bc:i<8:=ab
  have hE:(i:Int)<8:=ab
  have bL:i<r.length:=ab
  exact jl
 .rintro S ⟨dN,fG⟩;by_cases hb:kv c=1
  case neg=>
   have hk:=eq_false hb;simp[dN,D,tX,G,hk]
  have hk:=eq_true hb;have bV:=hy ab;rw[g1,g2]at bV;obtain⟨_,w2,bT,dF⟩:=xE hL bV.1;simp only at w2 bT dF;obtain⟨a1,rfl⟩:=jp bT;obtain⟨n2,rfl⟩:=jp w2;have hS:n2<=16:=gk
  have bU:=z_ a1;have cm:=z_ n2;have hM:su ⟨cs,l⟩:=I.mem.mem;simp[dN,hk,H,e3,ac.cN,cm];refine dO (fun E S=>(S.f 4= .ptr 4 0 0/\S.h 4=some ⟨3,[iB u a y],true⟩/\S.f 8= .ptr 8 0 0/\S.h 8=some ⟨5,[ol ([]:List Int) 0 ([]:List ac) ([]:List cP) ([]:List gc)],true⟩/\S.f 9= .ptr 9 0 0/\S.h 9=some ⟨8,[i7 0 0 0 0 0 0 ([]:List fd) ([]:List fd)],true⟩/\S.f 11= .ptr 11 0 0/\S.h 1000=some ⟨8,(⟨⟨b,key⟩,⟨cs,l⟩,v⟩:aN).ce.map gc.e,false⟩/\S.h 11=some ⟨5,[xY (⟨⟨b,key⟩,⟨cs,l⟩,v⟩:aN).am.aK (⟨⟨b,key⟩,⟨cs,l⟩,v⟩:aN).am.key (⟨⟨b,key⟩,⟨cs,l⟩,v⟩:aN).gt.cells (⟨⟨b,key⟩,⟨cs,l⟩,v⟩:aN).gt.ge (.cX 1000 0 ((⟨⟨b,key⟩,⟨cs,l⟩,v⟩:aN).ce.map gc.e).length)],true⟩/\S.f 14= .ptr 14 0 0/\S.h 14=some ⟨8,[uO (⟨st,r,pc,o,W,z,m,L⟩:gc)],true⟩/\S.f 15= .ptr 15 0 0/\S.h 1001=some ⟨4,(⟨(k:Int),1,0,o,pc,c,dW b key a r (dc c).length,jL b key a ⟨cs,l⟩ a1 E⟩:io).args.map fd.e,false⟩/\S.h 1002=some ⟨4,(⟨(k:Int),1,0,o,pc,c,dW b key a r (dc c).length,jL b key a ⟨cs,l⟩ a1 E⟩:io).ap.map fd.e,false⟩/\S.h 15=some ⟨8,[.agg [.int .i64 (⟨(k:Int),1,0,o,pc,c,dW b key a r (dc c).length,jL b key a ⟨cs,l⟩ a1 E⟩:io).cw,.int .i64 (⟨(k:Int),1,0,o,pc,c,dW b key a r (dc c).length,jL b key a ⟨cs,l⟩ a1 E⟩:io).j',.int .i64 (⟨(k:Int),1,0,o,pc,c,dW b key a r (dc c).length,jL b key a ⟨cs,l⟩ a1 E⟩:io).dD,.int .i64 (⟨(k:Int),1,0,o,pc,c,dW b key a r (dc c).length,jL b key a ⟨cs,l⟩ a1 E⟩:io).ia,.int .i64 (⟨(k:Int),1,0,o,pc,c,dW b key a r (dc c).length,jL b key a ⟨cs,l⟩ a1 E⟩:io).pc,.int .i64 (⟨(k:Int),1,0,o,pc,c,dW b key a r (dc c).length,jL b key a ⟨cs,l⟩ a1 E⟩:io).call,.cX 1001 0 ((⟨(k:Int),1,0,o,pc,c,dW b key a r (dc c).length,jL b key a ⟨cs,l⟩ a1 E⟩:io).args.map fd.e).length,.cX 1002 0 ((⟨(k:Int),1,0,o,pc,c,dW b key a r (dc c).length,jL b key a ⟨cs,l⟩ a1 E⟩:io).ap.map fd.e).length]],true⟩/\S.f 109= .int .i64 ((n2:Int))/\S.f 110=(E:Int)/\S.n=1103)/\True) (n2) ab ?_ ?_ ?_
  .rintro E S ⟨iS,bP,g3⟩ ⟨mH,hR⟩;have K:=Da b key a ⟨cs,l⟩ a1 E;have len:=tG b key a ⟨cs,l⟩ a1 E;obtain⟨M,hh⟩: ∃q:Nat,a1+E=q:=⟨_,rfl⟩;rw[hh]at K;have S':0<=(M:Int)/\(M:Int)<512:=ab
   have h5:IntKind.i64.wrap ((a1:Int)+E)=(M:Int):=g7
   exact jC
  .rintro S ⟨mH,hR⟩;simp[mH,D,tX,G]
  .simp[dN]<;>(
    exact⟨rfl,rfl⟩)
 .simp<;>(
   exact⟨G.symm,rN ..,by rw[rN];rfl,by unfold rL;rw[if_neg ab]⟩)
@[simp]def Im(u:List hu)(a:List Int)(y:List (List Int))(g:List Int)(B:Int)(d:List ac)(F:List cP)(Z:List gc)(t n:Int)(hp:AU (wn u a y))(aH:yA (w_ g B d F Z))(hr:xw (w_ g B d F Z)):cG X 118 [iB u a y,ol g B d F Z,.int .i64 t,.int .i64 n]=some (.ed [rJ ((dP (wn u a y) (w_ g B d F Z) t n).1),wk ((dP (wn u a y) (w_ g B d F Z) t n).2.1),.int .i64 ((dP (wn u a y) (w_ g B d F Z) t n).2.2)]):=by
 refine ij ?_;by_cases C:fO (wn u a y) (w_ g B d F Z)=true/\(0<=t/\t<4)/\1<=n/\n<=64
 case neg=>
  exact kE
 have e:dP (wn u a y) (w_ g B d F Z) t n=((jr (wn u a y) (dB (wn u a y) (w_ g B d F Z) t.toNat n).1 t.toNat (dB (wn u a y) (w_ g B d F Z) t.toNat n).2).1,(jr (wn u a y) (dB (wn u a y) (w_ g B d F Z) t.toNat n).1 t.toNat (dB (wn u a y) (w_ g B d F Z) t.toNat n).2).2,0):=if_pos C;rw[e];have A:=UK u a y g B d F Z t n hr C.1 C.2.1 C.2.2;obtain⟨hv,ht,hn⟩:=C;obtain⟨k,rfl⟩:=jp ht.1;have P:k<4:=ab
 have R:(k:Int)<4:=ab
 have gX:=xx hr hv;simp only[X7]at A⊢;have ho:(dB (wn u a y) (w_ g B d F Z) k n).2=3/\cJ (wn u a y) (1099511627776+n) (dB (wn u a y) (w_ g B d F Z) k n).1\/wT (wn u a y) (1099511627776+n) k (dB (wn u a y) (w_ g B d F Z) k n):=by
  by_cases hs:(bO (w_ g B d F Z) k).im=1
  .exact .inr (tF gX P hn.1 hs)
  .have e1:dB (wn u a y) (w_ g B d F Z) k n=((aN.mk (iy.mk g B) (aD.mk d F) Z),3):=d8
   rw[e1];exact .inl ⟨rfl,gX.mono ab⟩
 obtain⟨⟨⟨b,key⟩,⟨cs,l⟩,v⟩,s,cu⟩: ∃mm s,dB (wn u a y) (w_ g B d F Z) k n=(mm,s):=⟨_,_,rfl⟩;rw[cu]at A ho⊢;simp only at A ho⊢;have I:cJ (wn u a y) (1099511627776+n) ⟨⟨b,key⟩,⟨cs,l⟩,v⟩:=by
  rcases ho with h|h
  .exact h.2
  .exact h.ny
 have G:v.length=4:=I.len;have h4:k<v.length:=ab
 have hx:bO ⟨⟨b,key⟩,⟨cs,l⟩,v⟩ k=v[k]:=eL h4;have O:=I.lq k h4;simp only at O;obtain⟨⟨st,r,pc,o,W,z,m,L⟩,Q⟩: ∃x,v[k]=x:=⟨_,rfl⟩;rw[Q]at hx O;have H:r.length=8:=O.bK;have D: ∀(f:gc->V),List.take 4 (v.map f)=v.map f:=fun f=>bQ aA;have n1: ∀(f:gc->Option V),List.take 4 (v.map f)=v.map f:=fun f=>bQ aA;by_cases ay:s=1
 case neg=>
  have e2:jr (wn u a y) ⟨⟨b,key⟩,⟨cs,l⟩,v⟩ k s=(⟨⟨b,key⟩,⟨cs,l⟩,v⟩,⟨k,s,if s=2 then m else 0,o,pc,0,[],[]⟩):=by
   unfold jr;rw[if_neg ay,hx]
  rw[e2];by_cases dz:s=2
  .subst dz;simp[A,D,G,P,R,Q]
  .simp[A,D,G,P,R,Q,ay,dz]
 subst ay;have bS:wT (wn u a y) (1099511627776+n) k (⟨⟨b,key⟩,⟨cs,l⟩,v⟩,1):=by
  rcases ho with h|h
  .exact absurd h.1 aG
  .exact h
 obtain⟨c1,c2,c3,c4⟩:=bS.calls rfl;simp only[hx]at c1 c2 c3 c4;have hL:=I.lay;have Xw:u.length<=64:=I.prog.qH;have b':=O.cells.Mh;simp only at hL b';have h1:v.getD (k:Int).toNat cT=⟨st,r,pc,o,W,z,m,L⟩:=by rw[X7];simp[List.getD,h4,Q]
 obtain⟨j,hj⟩: ∃j:Nat,pc-1=j:=⟨(pc-1).toNat,ab⟩;have cQ:j<u.length:=ab
 have dM:(j:Int)<u.length:=ab
 have hi:kq u pc=u[j]:=f1
 have bp:IntKind.i64.wrap (pc-1)=j:=hH
 have hI:=I.prog.wS (p:=(g9.mk u a y)) cQ;simp only at hI;rw[hi]at c4;have fv:0<=(u[j]).eA/\(u[j]).eA<=15:=⟨hI.eA.1,hI.sys c4⟩;have N:=BH u a y b key cs l v k G ⟨ab,R⟩ hL ab (by rw[h1];exact H) (by rw[h1];exact b') (by rw[h1];exact⟨c2,c3⟩) fZ;rw[h1]at N;simp only[hi]at N;obtain⟨c,n0⟩:=x_ ((u[j]).eA);rw[n0]at N fv;have U:kf (wn u a y) ⟨st,r,pc,o,W,z,m,L⟩=c:=by unfold kf;simp only;rw[hi,n0]
 obtain⟨w,hq⟩:=x_ (qn b a u.length c r);rw[hq]at N;have T:wU (wn u a y) ⟨⟨b,key⟩,⟨cs,l⟩,v⟩ ⟨st,r,pc,o,W,z,m,L⟩=w:=by unfold wU;rw[U];exact hq
 by_cases h3:w=0
 case neg=>
  have e2:jr (wn u a y) ⟨⟨b,key⟩,⟨cs,l⟩,v⟩ k 1=(⟨⟨b,key⟩,⟨cs,l⟩,v.set k (fQ ⟨st,r,pc,o,W,z,m,L⟩ w)⟩,⟨k,2,w,o,pc,0,[],[]⟩):=by
   unfold jr;rw[if_pos rfl,hx,T,if_neg h3];rfl
  rw[e2];obtain⟨Y,hg⟩:=x_ (v.set k (fQ ⟨st,r,pc,o,W,z,m,L⟩ w));have hA:Y.length=4:=by rw[<-hg];simp[G]
  have cC: ∀(f:gc->V),List.take 4 (Y.map f)=Y.map f:=fun f=>bQ aA;have jz: ∀(f:gc->Option V),List.take 4 (Y.map f)=Y.map f:=fun f=>bQ aA;have ba:(v.map gc.e).set k (V.agg [.int .i64 4,r,.int .i64 pc,.int .i64 o,.int .i64 W,.int .i64 z,.int .i64 w,.int .u16 0])=Y.map gc.e:=by rw[<-hg,sB];rfl
  have cg:(gc.e ⟨st,r,pc,o,W,z,m,L⟩).put 0 (V.agg [.int .i64 4,r,.int .i64 pc,.int .i64 o,.int .i64 W,.int .i64 z,.int .i64 w,.int .u16 0])=V.agg [.int .i64 4,r,.int .i64 pc,.int .i64 o,.int .i64 W,.int .i64 z,.int .i64 w,.int .u16 0]:=rfl;rw[hg];simp[A,D,cC,G,hA,P,R,Q,H,N,h3,ba,cg]
 subst h3;obtain⟨hf,hy⟩:=rO hq;have k3:=mr fv;have e2:jr (wn u a y) ⟨⟨b,key⟩,⟨cs,l⟩,v⟩ k 1=(⟨⟨b,key⟩,⟨cs,l⟩,v⟩,⟨k,1,0,o,pc,c,dW b key a r (dc c).length,if kv c=1 then jL b key a ⟨cs,l⟩ (r.getD 1 ⟨0,0⟩).val.toNat (r.getD 2 ⟨0,0⟩).val.toNat else []⟩):=by
  exact pL
 rw[e2];have he:=O.cells;simp only at he;have l1:1<r.length:=ab
 have l2:2<r.length:=ab
 obtain⟨⟨kk,q1⟩,e1⟩: ∃x,r[1]'l1=x:=⟨_,rfl⟩;obtain⟨⟨hB,hd⟩,e3⟩: ∃x,r[2]'l2=x:=⟨_,rfl⟩;have g1:r.getD 1 ⟨0,0⟩=⟨kk,q1⟩:=by simp[List.getD,H,e1]
 have g2:r.getD 2 ⟨0,0⟩=⟨hB,hd⟩:=by simp[List.getD,H,e3]
 rw[g1,g2];simp only;have hT:=(e1▸he.at l1).2;have ff:=(e3▸he.at l2).2;simp only at hT ff;simp[A,D,G,P,R,Q,N,cQ,dM,bp,n0];refine dO (fun i S=>(S.f 4= .ptr 4 0 0/\S.h 4=some ⟨3,[iB u a y],true⟩/\S.f 8= .ptr 8 0 0/\S.h 8=some ⟨5,[ol ([]:List Int) 0 ([]:List ac) ([]:List cP) ([]:List gc)],true⟩/\S.f 9= .ptr 9 0 0/\S.h 9=some ⟨8,[i7 0 0 0 0 0 0 ([]:List fd) ([]:List fd)],true⟩/\S.f 11= .ptr 11 0 0/\S.h 1000=some ⟨8,(⟨⟨b,key⟩,⟨cs,l⟩,v⟩:aN).ce.map gc.e,false⟩/\S.h 11=some ⟨5,[xY (⟨⟨b,key⟩,⟨cs,l⟩,v⟩:aN).am.aK (⟨⟨b,key⟩,⟨cs,l⟩,v⟩:aN).am.key (⟨⟨b,key⟩,⟨cs,l⟩,v⟩:aN).gt.cells (⟨⟨b,key⟩,⟨cs,l⟩,v⟩:aN).gt.ge (.cX 1000 0 ((⟨⟨b,key⟩,⟨cs,l⟩,v⟩:aN).ce.map gc.e).length)],true⟩/\S.f 14= .ptr 14 0 0/\S.h 14=some ⟨8,[uO (⟨st,r,pc,o,W,z,m,L⟩:gc)],true⟩/\S.f 15= .ptr 15 0 0/\S.h 1001=some ⟨4,(⟨(k:Int),1,0,o,pc,c,dW b key a r i,[]⟩:io).args.map fd.e,false⟩/\S.h 1002=some ⟨4,(⟨(k:Int),1,0,o,pc,c,dW b key a r i,[]⟩:io).ap.map fd.e,false⟩/\S.h 15=some ⟨8,[.agg [.int .i64 (⟨(k:Int),1,0,o,pc,c,dW b key a r i,[]⟩:io).cw,.int .i64 (⟨(k:Int),1,0,o,pc,c,dW b key a r i,[]⟩:io).j',.int .i64 (⟨(k:Int),1,0,o,pc,c,dW b key a r i,[]⟩:io).dD,.int .i64 (⟨(k:Int),1,0,o,pc,c,dW b key a r i,[]⟩:io).ia,.int .i64 (⟨(k:Int),1,0,o,pc,c,dW b key a r i,[]⟩:io).pc,.int .i64 (⟨(k:Int),1,0,o,pc,c,dW b key a r i,[]⟩:io).call,.cX 1001 0 ((⟨(k:Int),1,0,o,pc,c,dW b key a r i,[]⟩:io).args.map fd.e).length,.cX 1002 0 ((⟨(k:Int),1,0,o,pc,c,dW b key a r i,[]⟩:io).ap.map fd.e).length]],true⟩/\S.f 80= .int .i64 (((dc c).length:Int))/\S.f 81=(i:Int)/\S.n=1103)/\True) ((dc c).length) ab ?_ ?_ ?_
 .rintro i S ⟨cI,iO,cz⟩ ⟨dN,fG⟩;have bc:i<8:=ab
  have hE:(i:Int)<8:=ab
  have bL:i<r.length:=ab
  exact jl
 .rintro S ⟨dN,fG⟩;by_cases hb:kv c=1
  case neg=>
   have hk:=eq_false hb;simp[dN,D,G,hk]
  have hk:=eq_true hb;have bV:=hy ab;rw[g1,g2]at bV;obtain⟨_,w2,bT,dF⟩:=xE hL bV.1;simp only at w2 bT dF;obtain⟨a1,rfl⟩:=jp bT;obtain⟨n2,rfl⟩:=jp w2;have hS:n2<=16:=gk
  have bU:=z_ a1;have cm:=z_ n2;have hM:su ⟨cs,l⟩:=I.mem.mem;simp[dN,hk,H,e3,ac.cN,cm];refine dO (fun E S=>(S.f 4= .ptr 4 0 0/\S.h 4=some ⟨3,[iB u a y],true⟩/\S.f 8= .ptr 8 0 0/\S.h 8=some ⟨5,[ol ([]:List Int) 0 ([]:List ac) ([]:List cP) ([]:List gc)],true⟩/\S.f 9= .ptr 9 0 0/\S.h 9=some ⟨8,[i7 0 0 0 0 0 0 ([]:List fd) ([]:List fd)],true⟩/\S.f 11= .ptr 11 0 0/\S.h 1000=some ⟨8,(⟨⟨b,key⟩,⟨cs,l⟩,v⟩:aN).ce.map gc.e,false⟩/\S.h 11=some ⟨5,[xY (⟨⟨b,key⟩,⟨cs,l⟩,v⟩:aN).am.aK (⟨⟨b,key⟩,⟨cs,l⟩,v⟩:aN).am.key (⟨⟨b,key⟩,⟨cs,l⟩,v⟩:aN).gt.cells (⟨⟨b,key⟩,⟨cs,l⟩,v⟩:aN).gt.ge (.cX 1000 0 ((⟨⟨b,key⟩,⟨cs,l⟩,v⟩:aN).ce.map gc.e).length)],true⟩/\S.f 14= .ptr 14 0 0/\S.h 14=some ⟨8,[uO (⟨st,r,pc,o,W,z,m,L⟩:gc)],true⟩/\S.f 15= .ptr 15 0 0/\S.h 1001=some ⟨4,(⟨(k:Int),1,0,o,pc,c,dW b key a r (dc c).length,jL b key a ⟨cs,l⟩ a1 E⟩:io).args.map fd.e,false⟩/\S.h 1002=some ⟨4,(⟨(k:Int),1,0,o,pc,c,dW b key a r (dc c).length,jL b key a ⟨cs,l⟩ a1 E⟩:io).ap.map fd.e,false⟩/\S.h 15=some ⟨8,[.agg [.int .i64 (⟨(k:Int),1,0,o,pc,c,dW b key a r (dc c).length,jL b key a ⟨cs,l⟩ a1 E⟩:io).cw,.int .i64 (⟨(k:Int),1,0,o,pc,c,dW b key a r (dc c).length,jL b key a ⟨cs,l⟩ a1 E⟩:io).j',.int .i64 (⟨(k:Int),1,0,o,pc,c,dW b key a r (dc c).length,jL b key a ⟨cs,l⟩ a1 E⟩:io).dD,.int .i64 (⟨(k:Int),1,0,o,pc,c,dW b key a r (dc c).length,jL b key a ⟨cs,l⟩ a1 E⟩:io).ia,.int .i64 (⟨(k:Int),1,0,o,pc,c,dW b key a r (dc c).length,jL b key a ⟨cs,l⟩ a1 E⟩:io).pc,.int .i64 (⟨(k:Int),1,0,o,pc,c,dW b key a r (dc c).length,jL b key a ⟨cs,l⟩ a1 E⟩:io).call,.cX 1001 0 ((⟨(k:Int),1,0,o,pc,c,dW b key a r (dc c).length,jL b key a ⟨cs,l⟩ a1 E⟩:io).args.map fd.e).length,.cX 1002 0 ((⟨(k:Int),1,0,o,pc,c,dW b key a r (dc c).length,jL b key a ⟨cs,l⟩ a1 E⟩:io).ap.map fd.e).length]],true⟩/\S.f 109= .int .i64 ((n2:Int))/\S.f 110=(E:Int)/\S.n=1103)/\True) (n2) ab ?_ ?_ ?_
  .rintro E S ⟨iS,bP,g3⟩ ⟨mH,hR⟩;have K:=Da b key a ⟨cs,l⟩ a1 E;have len:=tG b key a ⟨cs,l⟩ a1 E;obtain⟨M,hh⟩: ∃q:Nat,a1+E=q:=⟨_,rfl⟩;rw[hh]at K;have S':0<=(M:Int)/\(M:Int)<512:=ab
   have h5:IntKind.i64.wrap ((a1:Int)+E)=(M:Int):=g7
   exact jC
  .rintro S ⟨mH,hR⟩;simp[mH,D,G]
  .simp[dN]<;>(
    exact⟨rfl,rfl⟩)
 .simp<;>(
   exact⟨G.symm,rN ..,by rw[rN];rfl,by unfold rL;rw[if_neg ab]⟩)
end Go.Proofs.YtdngefmliibcgaaGreat
