import Derived.Test.YtdngefmliibcgaaGreatB19
set_option linter.all false
set_option maxRecDepth 20000
set_option maxHeartbeats 0
namespace Go.Proofs.YtdngefmliibcgaaGreat
open Go Go.Abs Go.Abs.jJ Qf
variable  {c n key d s:Int}{r q:io}{aK ax:List Int}{p:g9}{m:aN}{t:Nat}
def Lf(h:0<=c/\c<=15):rL c=((dc c).length:Int):=if_neg ab
def U_(h:0<=c/\c<=15):0<=kv c:=by
 unfold kv;rw[if_neg ab];split
 .omega
 .split<;>omega
@[simp]def FP(u:List hu)(y:List Int)(aw:List (List Int))(A:List Int)(ak:Int)(ah:List ac)(ae:List cP)(a:List gc)(t:Int)(hf:a.length=4)(ht:0<=t/\t<4)(T:fM A y)(hl:u.length<=1000)(r:(a.getD t.toNat cT).bK.length=8)(B:Ac (a.getD t.toNat cT).bK)(hp:1<=(a.getD t.toNat cT).pc/\(a.getD t.toNat cT).pc<=u.length)(ho:(kq u (a.getD t.toNat cT).pc).op=23)(h:0<=(kq u (a.getD t.toNat cT).pc).eA/\(kq u (a.getD t.toNat cT).pc).eA<=15)(hB:(a.getD t.toNat cT).pc<=255):cG X 154 [iB u y aw,ol A ak ah ae a,.int .i64 t]=some (.int .i64 (qn A y u.length (kq u (a.getD t.toNat cT).pc).eA (a.getD t.toNat cT).bK)):=by
 refine ij ?_;obtain⟨k,rfl⟩:=jp ht.1;have hk:k<a.length:=ab
 have hn:(k:Int)<4:=ab
 have Q: ¬(4:Int)<=(k:Int):=ab
 have R:k<4:=ab
 have O: ¬(k:Int)<0:=ab
 have hx:a.getD (k:Int).toNat cT=a[k]:=by simp[List.getD,hk]
 rw[hx]at r B hp ho h hB⊢;have p:=Pf hp ho;have J:0<=(a[k]).pc/\(a[k]).pc<=255:=ab
 obtain⟨c,mm⟩:=x_ ((kq u (a[k]).pc).eA);rw[mm]at h p⊢;obtain⟨bK,F⟩:=x_ ((a[k]).bK);rw[F]at r B⊢;have k3:=mr h;have l:=Il h r;have ha:=B 0 ab;have c1:=B 1 ab;have c2:=B 2 ab;obtain⟨M,Z⟩:=x_ (bK[0]' ab);obtain⟨⟨U,P⟩,s⟩: ∃x,bK[1]' ab=x:=⟨_,rfl⟩;obtain⟨j,q⟩:=x_ (bK[2]' ab);rw[Z]at ha;rw[s]at c1;rw[q]at c2;simp only at c1;have h2:bK.getD 0 ⟨0,0⟩=M:=by simp[List.getD,r,Z]
 have g1:bK.getD 1 ⟨0,0⟩=⟨U,P⟩:=by simp[List.getD,r,s]
 have g2:bK.getD 2 ⟨0,0⟩=j:=by simp[List.getD,r,q]
 have h4:bK[0]?.getD ⟨0,0⟩=M:=h2;have q1:bK[1]?.getD ⟨0,0⟩=⟨U,P⟩:=g1;have q2:bK[2]?.getD ⟨0,0⟩=j:=g2;have bp:0<bK.length:=ab
 have l1:1<bK.length:=ab
 have l2:2<bK.length:=ab
 have E:0<=P/\P<=65535:=ab
 have v:j.val<=1000000:=ab
 have C:=z_ M.val;have L:=z_ j.val;have hA:rL c=((dc c).length:Int):=Lf h;have n0:=U_ h;have N:(if 0<(dc c).length then((dc c).length:Int) else 0)=((dc c).length:Int):=ee
 rw[Eb,h2,g1,g2];simp[hf,hn,Q,R,O,hl,J,p,hA,F];refine dO (fun i S=>(S.f 3= .ptr 3 0 0/\S.h 3=some ⟨3,[iB u y aw],true⟩/\S.f 4= .ptr 4 0 0/\S.h 4=some ⟨5,[ol A ak ah ae a],true⟩/\S.f 7= .ptr 7 0 0/\S.h 7=some ⟨8,[uO (a[k])],true⟩/\S.f 8= .int .i64 (c)/\S.f 9= .cX 9 0 ((((mM c bK).take i).map (V.int .u8))).length/\S.h 9=some ⟨1,(((mM c bK).take i).map (V.int .u8)),false⟩/\S.f 33= .int .i64 (((dc c).length:Int))/\S.f 34=(i:Int)/\S.n=1100)/\True) ((dc c).length) ab ?_ ?_ ?_
 .rintro i S ⟨cQ,iO,cz⟩ ⟨d,fG⟩;have ay:i<8:=ab
  have hd:(i:Int)<8:=ab
  have h1:i<bK.length:=ab
  have Y:i<(mM c bK).length:=ab
  have hs:=KT Y h1;have hq:bK[i]?.getD ⟨0,0⟩=bK[i]:=by rw[rk h1];rfl
  have W:=px (f:=V.int .u8) Y;rw[hs]at W;have b1:i<=140737488355327:=ab
  have HG:i<=4611686018427387903:=ab
  have hg:min (i+1) (dc c).length=i+1:=ab
  simp[d,cQ,iO,cz,F,r,ay,hd,l,W,b1,HG,hg]
 .rintro S ⟨d,fG⟩;have z:(dc c).length<=1000000000:=ab
  have m: ∀f:Int->V,List.take (dc c).length ((mM c bK).map f)=(mM c bK).map f:=fun f=>bQ eT;have h3: ∀f:Int->Option V,List.take (dc c).length ((mM c bK).map f)=(mM c bK).map f:=fun f=>bQ eT;have tt:(mM c bK).take (dc c).length=mM c bK:=bQ ab;cases K:gr (dc c) (mM c bK) with
  |false=>
   simp[d,z,l,tt,m,h,K]
  |true=>
   by_cases g:0<kv c
   .have n: ¬kv c=0:=ab
    by_cases H:(iA A y ⟨U,P⟩ j.val).2=0
    .by_cases hj:16<j.val
     .simp[d,z,l,tt,m,h,K,g,n,T,E,v,L,F,r,s,q,H,hj]
     .have I: ¬c=10:=fun e=>by rw[e]at g;revert g;decide
      have G: ¬c=12:=fun e=>by rw[e]at g;revert g;decide
      simp[d,z,l,tt,m,h,K,g,n,T,E,v,L,F,r,s,q,H,hj,I,G]
    .simp[d,z,l,tt,m,h,K,g,n,T,E,v,L,F,r,s,q,H]
   .have b:kv c=0:=ab
    by_cases D:c=10
    .have he:=eq_true D;by_cases o:(u.length:Int)<=M.val
     .simp[d,z,l,tt,m,h,K,b,C,F,r,Z,he,o]
     .simp[d,z,l,tt,m,h,K,b,C,F,r,Z,he,o]
    .by_cases hi:c=12
     .have w:=eq_true hi;by_cases o:(u.length:Int)<=M.val
      .simp[d,z,l,tt,m,h,K,b,C,F,r,Z,D,w,o]
      .simp[d,z,l,tt,m,h,K,b,C,F,r,Z,D,w,o]
     .simp[d,z,l,tt,m,h,K,b,D,hi]
 .simp[N,F]
def Two(k:Nat)(A D:List fd)(v:V)(h:bI)(n:Nat):Prop:= ∃U s,v= .ed [U,s]/\Ee fd.e 4 k A U h n/\Ee fd.e 4 k D s h n
def Ee.lower{m:Type}{f:m->V}{c k k' n:Nat}{l:List m}{v:V}{h:bI}(H:Ee f c k l v h n)(y:k'<=k):Ee f c k' l v h n:=by
 rcases H with H|⟨h0,id,k1,k2,e,g⟩
 .exact .inl H
 .exact .inr ⟨h0,id,ab,k2,e,g⟩
@[simp]def UO(au:List hu)(y:List Int)(aw:List (List Int))(Z:List Int)(B:Int)(h:List ac)(e:List cP)(an:List gc)(ha:Int)(c:List ac)(cQ hB HG hd hf ay call:Int)(k:Nat)(L:fM Z y)(hM:qo ⟨h,e⟩)(F:c.length=8)(hz:fq c)(hc:0<=call/\call<=15)(hb:kv call=1->0<=(c.getD 1 ⟨0,0⟩).val/\0<=(c.getD 2 ⟨0,0⟩).val/\(c.getD 2 ⟨0,0⟩).val<=16/\(c.getD 1 ⟨0,0⟩).val+(c.getD 2 ⟨0,0⟩).val<=512): ∃v h' k',df X 157 [iB au y aw,ol Z B h e an,r7 ha c cQ hB HG hd hf ay,.int .i64 call] mg k=some (v,h',k')/\Two k (dW Z B y c (dc call).length) (if kv call=1 then jL Z B y ⟨h,e⟩ (c.getD 1 ⟨0,0⟩).val.toNat (c.getD 2 ⟨0,0⟩).val.toNat else []) v h' k':=by
 have l1:1<c.length:=ab
 have l2:2<c.length:=ab
 obtain⟨⟨dN,cz⟩,e1⟩: ∃x,c[1]'l1=x:=⟨_,rfl⟩;obtain⟨⟨D,C⟩,e3⟩: ∃x,c[2]'l2=x:=⟨_,rfl⟩;have g1:c.getD 1 ⟨0,0⟩=⟨dN,cz⟩:=by simp[List.getD,F,e1]
 have g2:c.getD 2 ⟨0,0⟩=⟨D,C⟩:=by simp[List.getD,F,e3]
 have q1:c[1]?.getD ⟨0,0⟩=⟨dN,cz⟩:=g1;have q2:c[2]?.getD ⟨0,0⟩=⟨D,C⟩:=g2;rw[g1,g2]at hb⊢;simp only at hb⊢;have k3:=mr hc;have hA:rL call=((dc call).length:Int):=Lf hc;have z:=rN Z B y c;have kk: ∀j,¬k=k+1+j:=fun j=>ab
 refine ip ?_;simp[X6,hA];refine nG (fun i S=>(S.f 3= .int .i64 call/\S.f 4= .ptr k 0 0/\S.f 5= .ptr (k+1) 0 0/\S.f 6= .ptr (k+2) 0 0/\S.f 11= .sl true []/\S.f 18=((dc call).length:Int)/\S.f 19=(i:Int))/\
  (S.h k=some ⟨3,[iB au y aw],true⟩/\S.h (k+1)=some ⟨5,[ol Z B h e an],true⟩/\S.h (k+2)=some ⟨8,[r7 ha c cQ hB HG hd hf ay],true⟩)/\
  Ee fd.e 4 (k+3) (dW Z B y c i) (S.f 10) S.h S.n/\k+3<=S.n) (dc call).length ?_ 0 ai ?_
 .rintro i S hi ⟨⟨K,f4,ho,hl,N,Y,f⟩,⟨h0,h1,h2⟩,O,hn⟩;have n0: ∀j,¬k=S.n+j:=fun j=>ab
  have n1: ∀j,¬k+1=S.n+j:=fun j=>ab
  have n2: ∀j,¬k+2=S.n+j:=fun j=>ab
  have len:=ry (aK:=Z) (key:=B) (ax:=y) (bK:=c) (i:=i) ab;by_cases iS:i<(dc call).length
  .have hg:i<8:=ab
   have bp:(i:Int)<8:=ab
   have T:i<c.length:=ab
   have iO:=o7 i ab;have u:=A5 (aK:=Z) (key:=B) (ax:=y) T;obtain⟨⟨ct,h4⟩,w⟩: ∃x,c[i]=x:=⟨_,rfl⟩;have hs:=w▸hz.at T;have E:=hs.2;have t:ct=0\/ct=1\/ct=2:=by have:=hs.1;simp only at this;omega
   simp only at E;rw[w]at u;have bW:c[i]?.getD ⟨0,0⟩=⟨ct,h4⟩:=by rw[rk T,w];rfl
   obtain⟨hh,s⟩:=x_ (dW Z B y c i);rw[s]at O u len;rcases O with⟨J,g⟩|⟨J,id,b1,g3,g,fv⟩
   .simp[X6,K,f4,ho,hl,N,Y,f,h0,h1,h2,n0,iS,F,L,hg,bp,w,E,t,iO,g];refine⟨?_,ab⟩;rw[u,J];exact .inr ⟨ai,S.n+13,ab,ab,rfl,cq⟩
   .have ni: ∀j,¬id=S.n+j:=fun j=>ab
    simp[X6,K,f4,ho,hl,N,Y,f,h0,h1,h2,n0,iS,F,L,hg,bp,w,E,t,iO,g,fv];refine⟨⟨ab,ab⟩,fun _ _=>⟨⟨ab,ab,ab⟩,?_,ab⟩⟩;rw[u];exact .inr ⟨ai,S.n+13,ab,ab,ai,cq⟩
  .have W:i=(dc call).length:=ab
   subst W;by_cases m:kv call=1
   case neg=>
    have M:=eq_false m;simp[X6,K,N,Y,f,M];exact⟨_,_,rfl,(O.mono ab fun i a b=>ai).lower ab,.inl ⟨rfl,rfl⟩⟩
   have M:=eq_true m;obtain⟨w1,w2,bV,fG⟩:=hb m;obtain⟨a1,rfl⟩:=jp w1;obtain⟨P,rfl⟩:=jp w2;have bP:P<=16:=ab
   have bs:=z_ a1;have c2:=z_ P;have he:su ⟨h,e⟩:=hM.mem;simp[X6,K,hl,Y,f,h2,M,F,e1,e3,bs,c2];obtain⟨R,bS⟩:=x_ S.n;rw[bS]at O hn;refine nG (fun j l=>(l.f 4= .ptr k 0 0/\l.f 5= .ptr (k+1) 0 0/\l.f 13=(a1:Int)/\l.f 44=(P:Int)/\l.f 45=(j:Int))/\
    (l.h k=some ⟨3,[iB au y aw],true⟩/\l.h (k+1)=some ⟨5,[ol Z B h e an],true⟩)/\
    Ee fd.e 4 (k+3) (dW Z B y c (dc call).length) (l.f 10) l.h R/\Ee fd.e 4 R (jL Z B y ⟨h,e⟩ a1 j) (l.f 11) l.h l.n/\R<=l.n) P ?_ 0 ai ?_
   .rintro j l hj ⟨⟨hp,mm,H,o,A⟩,⟨e2,I⟩,HA,ht,ts⟩;have d: ∀i,¬k=l.n+i:=fun i=>ab
    have bT: ∀i,¬k+1=l.n+i:=fun i=>ab
    have hk:=tG Z B y ⟨h,e⟩ a1 j;by_cases G:j<P
    .have u:=Da Z B y ⟨h,e⟩ a1 j;obtain⟨r,U⟩: ∃q:Nat,a1+j=q:=⟨_,rfl⟩;rw[U]at u;have hx:0<=(r:Int)/\(r:Int)<512:=ab
     have hv:=o7 j ab;have hq:IntKind.i64.wrap ((a1:Int)+j)=(r:Int):=g7
     have h3:=fq.look hM r;have n:=OX h e (r:Int) he hx;rw[X7]at n;obtain⟨⟨ct,h4⟩,w⟩: ∃x,look ⟨h,e⟩ r=x:=⟨_,rfl⟩;rw[w]at u h3 n;have E:=h3.2;have t:ct=0\/ct=1\/ct=2:=by have:=h3.1;simp only at this;omega
     try simp only at E
     try simp only at n
     obtain⟨hh,s⟩:=x_ (jL Z B y ⟨h,e⟩ a1 j);rw[s]at ht u hk;rcases ht with⟨J,p⟩|⟨J,id,b1,g3,p,fv⟩
     .simp[X6,hp,mm,H,o,A,e2,I,d,G,L,hq,hv,n,E,t,p];refine⟨?_,?_,ab⟩
      .exact HA.mono (iX _) fun i a b=>by
        have Q: ∀j,¬i=l.n+j:=fun j=>ab
        simp[bB,Q]
      .rw[u,J];exact .inr ⟨ai,l.n+23,ab,ab,rfl,cq⟩
     .have ni: ∀j,¬id=l.n+j:=fun j=>ab
      simp[X6,hp,mm,H,o,A,e2,I,d,G,L,hq,hv,n,E,t,p,fv,ni];refine⟨⟨ab,ab⟩,fun _ _=>⟨⟨ab,ab⟩,?_,?_,ab⟩⟩
      .exact HA.mono (iX _) fun i a b=>by
        have Q: ∀j,¬i=l.n+j:=fun j=>ab
        have c1: ¬i=id:=ab
        simp[bB,Q,c1]
      .rw[u];exact .inr ⟨ai,l.n+23,ab,ab,ai,cq⟩
    .have V:j=P:=ab
     subst V;simp[X6,o,A];exact⟨_,_,rfl,(HA.mono ab fun i a b=>ai).lower ab,(ht.mono ab fun i a b=>ai).lower ab⟩
   .simp;exact⟨⟨f4,ho⟩,⟨h0,h1⟩,O,.inl ⟨S9 ..,N⟩,ab⟩
 .simp;exact .inl ⟨z,rfl⟩
def Cx(l:List fd):j6 (some ⟨4,l.map fd.e,false⟩)=some ⟨4,l.map fd.e,false⟩:=by
 show(if(l.map fd.e).all V.Nq=true then some (Ob.mk 4 (l.map fd.e) false) else none)=_;rw[if_pos];rw[rZ];intro x hx;obtain⟨c, -,rfl⟩:=List.mem_map.1 hx;rfl
@[simp]def Vc(u:List hu)(q:List Int)(v:List (List Int))(l:List Int)(B:Int)(i:List ac)(F:List cP)(Z:List gc)(t n:Int)(hr:xw (w_ l B i F Z))(hv:fO (wn u q v) (w_ l B i F Z)=true)(ht:0<=t/\t<4)(hn:1<=n/\n<=64):cG X 74 [iB u q v,ol l B i F Z,.int .i64 t,.int .i64 n]=some (.ed [rJ ((dP (wn u q v) (w_ l B i F Z) t n).1),wk ((dP (wn u q v) (w_ l B i F Z) t n).2.1),.int .i64 0]):=by
 refine ij ?_;have e:dP (wn u q v) (w_ l B i F Z) t n=((jr (wn u q v) (dB (wn u q v) (w_ l B i F Z) t.toNat n).1 t.toNat (dB (wn u q v) (w_ l B i F Z) t.toNat n).2).1,(jr (wn u q v) (dB (wn u q v) (w_ l B i F Z) t.toNat n).1 t.toNat (dB (wn u q v) (w_ l B i F Z) t.toNat n).2).2,0):=if_pos ⟨hv,ht,hn⟩;rw[e];have z:=YV u q v l B i F Z t n hr hv ht hn;obtain⟨k,rfl⟩:=jp ht.1;have H:k<4:=ab
 have K:(k:Int)<4:=ab
 have bp:=xx hr hv;simp only[X7]at z⊢;have h2:(dB (wn u q v) (w_ l B i F Z) k n).2=3/\cJ (wn u q v) (1099511627776+n) (dB (wn u q v) (w_ l B i F Z) k n).1\/wT (wn u q v) (1099511627776+n) k (dB (wn u q v) (w_ l B i F Z) k n):=by
  by_cases hs:(bO (w_ l B i F Z) k).im=1
  .exact .inr (tF bp H hn.1 hs)
  .have e1:dB (wn u q v) (w_ l B i F Z) k n=((aN.mk (iy.mk l B) (aD.mk i F) Z),3):=d8
   rw[e1];exact .inl ⟨rfl,bp.mono ab⟩
 obtain⟨⟨⟨U,key⟩,⟨cs,m⟩,r⟩,s,ff⟩: ∃mm s,dB (wn u q v) (w_ l B i F Z) k n=(mm,s):=⟨_,_,rfl⟩;rw[ff]at z h2⊢;simp only at z h2⊢;have P:cJ (wn u q v) (1099511627776+n) ⟨⟨U,key⟩,⟨cs,m⟩,r⟩:=by
  rcases h2 with h|h
  .exact h.2
  .exact h.ny
 have G:r.length=4:=P.len;have hk:k<r.length:=ab
 have hx:bO ⟨⟨U,key⟩,⟨cs,m⟩,r⟩ k=r[k]:=eL hk;have N:=P.lq k hk;simp only at N;obtain⟨⟨st,g,pc,o,W,y,C,L⟩,Q⟩: ∃x,r[k]=x:=⟨_,rfl⟩;rw[Q]at hx N;have h8:g.length=8:=N.bK;have J: ∀(f:gc->V),List.take 4 (r.map f)=r.map f:=fun f=>bQ aA;have fG: ∀(f:gc->Option V),List.take 4 (r.map f)=r.map f:=fun f=>bQ aA;by_cases hc:s=1
 case neg=>
  have e2:jr (wn u q v) ⟨⟨U,key⟩,⟨cs,m⟩,r⟩ k s=(⟨⟨U,key⟩,⟨cs,m⟩,r⟩,⟨k,s,if s=2 then C else 0,o,pc,0,[],[]⟩):=by
   unfold jr;rw[if_neg hc,hx]
  rw[e2];by_cases hB:s=2
  .subst hB;simp[z,J,G,H,K,Q]
  .simp[z,J,G,H,K,Q,hc,hB]
 subst hc;have n0:wT (wn u q v) (1099511627776+n) k (⟨⟨U,key⟩,⟨cs,m⟩,r⟩,1):=by
  rcases h2 with h|h
  .exact absurd h.1 aG
  .exact h
 obtain⟨c1,c2,c3,c4⟩:=n0.calls rfl;simp only[hx]at c1 c2 c3 c4;have hL:=P.lay;have Xw:u.length<=64:=P.prog.qH;have hh:=N.cells.Mh;simp only at hL hh;have O:r.getD (k:Int).toNat cT=⟨st,g,pc,o,W,y,C,L⟩:=by rw[X7];simp[List.getD,hk,Q]
 obtain⟨j,hj⟩: ∃j:Nat,pc-1=j:=⟨(pc-1).toNat,ab⟩;have hd:j<u.length:=ab
 have ba:(j:Int)<u.length:=ab
 have M:kq u pc=u[j]:=by unfold kq;rw[hj];simp[List.getD,hd]
 have bT:IntKind.i64.wrap (pc-1)=j:=hH
 have hI:=P.prog.wS (p:=(g9.mk u q v)) hd;simp only at hI;rw[M]at c4;have hi:0<=(u[j]).eA/\(u[j]).eA<=15:=⟨hI.eA.1,hI.sys c4⟩;have I:=FP u q v U key cs m r k G ⟨ab,K⟩ hL ab (by rw[O];exact h8) (by rw[O];exact hh) (by rw[O];exact⟨c2,c3⟩) (by rw[O];simp only;rw[M];exact c4) (by rw[O];simp only;rw[M];exact hi) (by rw[O];have:=N.pc;simp only at this⊢;omega);rw[O]at I;simp only[M]at I;obtain⟨c,ho⟩:=x_ ((u[j]).eA);rw[ho]at I hi;have T:kf (wn u q v) ⟨st,g,pc,o,W,y,C,L⟩=c:=by unfold kf;simp only;rw[M,ho]
 obtain⟨w,h3⟩:=x_ (qn U q u.length c g);rw[h3]at I;have S:wU (wn u q v) ⟨⟨U,key⟩,⟨cs,m⟩,r⟩ ⟨st,g,pc,o,W,y,C,L⟩=w:=by unfold wU;rw[T];exact h3
 by_cases he:w=0
 case neg=>
  have e2:jr (wn u q v) ⟨⟨U,key⟩,⟨cs,m⟩,r⟩ k 1=(⟨⟨U,key⟩,⟨cs,m⟩,r.set k (fQ ⟨st,g,pc,o,W,y,C,L⟩ w)⟩,⟨k,2,w,o,pc,0,[],[]⟩):=by
   unfold jr;rw[if_pos rfl,hx,S,if_neg he];rfl
  rw[e2];obtain⟨Y,h1⟩:=x_ (r.set k (fQ ⟨st,g,pc,o,W,y,C,L⟩ w));have S':Y.length=4:=by rw[<-h1];simp[G]
  have hR: ∀(f:gc->V),List.take 4 (Y.map f)=Y.map f:=fun f=>bQ aA;have hS: ∀(f:gc->Option V),List.take 4 (Y.map f)=Y.map f:=fun f=>bQ aA;have bV:(r.map gc.e).set k (V.agg [.int .i64 4,g,.int .i64 pc,.int .i64 o,.int .i64 W,.int .i64 y,.int .i64 w,.int .u16 0])=Y.map gc.e:=by rw[<-h1,sB];rfl
  have hT:(gc.e ⟨st,g,pc,o,W,y,C,L⟩).put 0 (V.agg [.int .i64 4,g,.int .i64 pc,.int .i64 o,.int .i64 W,.int .i64 y,.int .i64 w,.int .u16 0])=V.agg [.int .i64 4,g,.int .i64 pc,.int .i64 o,.int .i64 W,.int .i64 y,.int .i64 w,.int .u16 0]:=rfl;have bW:k<Y.length:=ab
  have ay:Y[k]=⟨4,g,pc,o,W,y,w,0⟩:=by simp only[<-h1];rw[y3];rfl
  rw[h1];simp[z,J,hR,G,S',H,K,Q,h8,I,he,bV,hT,ay]
 subst he;obtain⟨hf,dF⟩:=rO h3;have k3:=mr hi;have e2:jr (wn u q v) ⟨⟨U,key⟩,⟨cs,m⟩,r⟩ k 1=(⟨⟨U,key⟩,⟨cs,m⟩,r⟩,⟨k,1,0,o,pc,c,dW U key q g (dc c).length,if kv c=1 then jL U key q ⟨cs,m⟩ (g.getD 1 ⟨0,0⟩).val.toNat (g.getD 2 ⟨0,0⟩).val.toNat else []⟩):=by
  unfold jr;rw[if_pos rfl,hx,S,if_pos rfl];unfold xD;simp only[T]
 rw[e2];have cz:=N.pc;simp only at cz;have hp:EY u pc=c:=by rw[Pf ⟨c2,c3⟩ (by rw[M];exact c4),M,ho]
 have R:=H6 u q v st g pc o W y C L ab cz;rw[hp]at R;obtain⟨n1,W,e3,E,iO,bU,rfl,HA,g1⟩:=UO u q v U key cs m r st g pc o W y C L c 70 hL P.mem h8 N.cells hi (fun hb=>by
  have hq:=dF ab;obtain⟨_,w2,g3,bP⟩:=xE hL hq.1;exact⟨g3,w2,hq.2,bP⟩)
 obtain⟨A,hA⟩:=x_ (dW U key q g (dc c).length);obtain⟨D,dz⟩:=x_ (if kv c=1 then jL U key q ⟨cs,m⟩ (g.getD 1 ⟨0,0⟩).val.toNat (g.getD 2 ⟨0,0⟩).val.toNat else []);rw[hA]at HA⊢;rw[dz]at g1⊢;have fv:(V.ed [V.sl true [],V.sl true []]).pu=true:=rfl;have bS: ∀a b,(V.ed [V.sl true [],V.cX a 0 b]).pu=true:=fun _ _=>rfl;have u2: ∀a b,(V.ed [V.cX a 0 b,V.sl true []]).pu=true:=fun _ _=>rfl;have hz: ∀a b c d,(V.ed [V.cX a 0 b,V.cX c 0 d]).pu=true:=fun _ _ _ _=>rfl;rcases HA with⟨rfl,rfl⟩|⟨a0,g2,a1,a2,rfl,a4⟩
 .rcases g1 with⟨rfl,rfl⟩|⟨b',id,gX,bL,rfl,hg⟩
  .simp[z,J,G,H,K,Q,I,R,E,fv]
  .have dl: ¬id<70:=ab
   have cQ: ∀j,j<70->(id=j)=False:=fun j _=>aA
   simp[z,J,G,H,K,Q,I,R,E,bS,Cx,hg,dl,cQ]
 .have h4: ¬g2<70:=ab
  have dN: ∀j,j<70->(g2=j)=False:=fun j _=>aA
  rcases g1 with⟨rfl,rfl⟩|⟨b',id,gX,bL,rfl,hg⟩
  .simp[z,J,G,H,K,Q,I,R,E,u2,Cx,a4,h4,dN]
  .have dl: ¬id<70:=ab
   have cQ: ∀j,j<70->(id=j)=False:=fun j _=>aA
   simp[z,J,G,H,K,Q,I,R,E,hz,Cx,a4,h4,dN,hg,dl,cQ]
def FQ(x:eI):Bool:=decide (x.iW=⟨0,0,0,0⟩)&& (decide (x.ap.length=0)&& (decide (x.lw=0)&& !x.wait))
@[simp]def YA(a b H J:Int)(W:List fd)(U:Int)(d:Bool):cG X 142 [lc a b H J W U d]=some (.bool (FQ (wl a b H J W U d))):=by
 refine ij ?_;by_cases h1:(⟨a,b,H,J⟩:fd)=⟨0,0,0,0⟩
 case neg=>
  have e:FQ (wl a b H J W U d)=false:=by unfold FQ;rw[decide_eq_false h1];rfl
  rw[e];have u:=h1;simp only[fd.mk.injEq]at u;simp[u];try omega
 simp only[fd.mk.injEq]at h1;obtain⟨rfl,rfl,rfl,rfl⟩:=h1;by_cases h:W.length=0
 case neg=>simp[h,FQ]
 by_cases S:U=0
 case neg=>simp[h,S,FQ]
 cases d<;>simp[h,S,FQ]
@[simp]def aho(g c H J:Int)(b:List fd)(U:Int)(d:Bool)(h:b.length<=1000000000):cG X 143 [lc g c H J b U d]=some (.bool (oA (wl g c H J b U d))):=by
 refine ij ?_;cases h1:lZ (eI.mk (fd.mk g c H J) b U d).iW
 case false=>simp[h1,oA]
 cases K:iH b
 case false=>simp[h1,K,h,oA]
 by_cases S:(b.length:Int)<=16
 case neg=>
  have O: ¬b.length<=16:=ab
  simp[h1,K,S,O,h,oA]
 have O:b.length<=16:=ab
 by_cases a: -1<=U
 case neg=>simp[h1,K,S,O,a,h,oA]
 by_cases i:U<4
 case neg=>simp[h1,K,S,O,a,i,h,oA]
 simp[h1,K,S,O,a,i,h,oA]
def J8(e:h_):Bool:=ko e.il&&decide (e.il.cw=e.cw)
def YB(e:h_):Bool:=decide (e.il=ep)
def Bv(e:h_):Bool:=
 if e.kind=1 then decide (1<=e.n)&& (decide (e.n<=64)&& (J8 e&& (decide (¬e.il.j'=3)&&FQ e.iL)))
 else if e.kind=2 then decide (e.n=0)&& (J8 e&& (decide (e.il.j'=1)&&oA e.iL))
 else if e.kind=3 then decide (e.n=0)&& (YB e&&FQ e.iL)
 else if e.kind=4 then decide (e.n=0)&& (YB e&& (oA e.iL&& (decide (e.iL.lw= -1)&& (!e.iL.wait&&decide (e.iL.ap.length=0)))))
 else false
def gS(e:h_):Bool:=decide (0<=e.cw)&& (decide (e.cw<4)&&Bv e)
def Vd{e:h_}(h:0<=e.cw/\e.cw<4):gS e=Bv e:=by unfold gS;simp[h.1,h.2]
@[simp]def Du(c E j a R F O b Y:Int)(U V:List fd)(T G z A:Int)(W:List fd)(P:Int)(Z:Bool)(h1:U.length<=1000000000)(K:V.length<=1000000000)(e:W.length<=1000000000)(k:c=1)(h:gS (wd c E j a R F O b Y U V T G z A W P Z)=true):cG X 71 [xb c E j a R F O b Y U V T G z A W P Z]=some (.bool true):=by
 refine ij ?_;have S:=cr a R F O b Y U V 0 0 0 0 0 0 [] [] h1 K;simp only[r_]at S;subst k;unfold gS at h;simp only[X8,decide_eq_true_eq]at h;obtain⟨t0,t,h⟩:=h;unfold Bv at h;rw[if_pos rfl]at h;simp only[X8,decide_eq_true_eq,J8]at h;obtain⟨s,B,⟨n,q⟩,d,o⟩:=h;subst q;have J: ¬4<=a:=ab
 have l: ¬a<0:=ab
 simp[-cr,S,h1,K,l,J,n,o,s,B,d]
def pj:ko r=true↔(0<=r.cw/\r.cw<4)/\(0<=r.j'/\r.j'<=3)/\(0<=r.dD/\r.dD<=6)/\(0<=r.ia/\r.ia<=1099511627776)/\(0<=r.pc/\r.pc<=255)/\(0<=r.call/\r.call<=15)/\iH r.args=true/\r.args.length<=3/\iH r.ap=true/\r.ap.length<=16:=by unfold ko<;>grind
def YU(L:fM aK ax){bK:List ac}(h:fq bK)(i:Nat):iH (dW aK key ax bK i)=true:=by
 unfold iH;rw[rZ];intro c m;obtain⟨x,hx,rfl⟩:=List.mem_map.1 m;exact Vb L (h x (sw hx))
def UM(L:fM aK ax){mem:aD}(h:qo mem)(a i:Nat):iH (jL aK key ax mem a i)=true:=by
 unfold iH;rw[rZ];intro c m;obtain⟨x,hx,rfl⟩:=List.mem_map.1 m;exact Vb L (fq.look h _)
def QH{x:gc}(H:cJ p d m)(u:d<=1099511627776)(hx:eS d x){t:Int}(S:0<=t/\t<4)(c:0<=kf p x/\kf p x<=15)(w:wU p m x=0):ko (xD p m x t)=true:=by
 have h:=UT H hx t c w;have h1:=hx.ia;have K:=hx.pc;refine pj.2 ⟨S,by simp[xD],by simp[xD],⟨fs,fs⟩,K,c,YU H.lay hx.cells _,h.args,?_,h.ap⟩;simp only[xD];split
 .exact UM H.lay H.mem _ _
 .rfl
def UL(S:t<4)(v:d<=1099511627776)(H:wT p d t (m,s))(L:0<=s/\s<=3):ko (jr p m t s).2=true:=by
 have M:=H.ny;simp only at M;have hx:=M.bO S;have h1:=hx.ia;have K:=hx.pc;have U:=hx.dD;have i:(0:Int)<=t/\(t:Int)<4:=ab
 unfold jr;by_cases b:s=1
 .subst b;rw[if_pos rfl];obtain⟨T,e,k,c⟩:=H.calls rfl;simp only at T e k c;have P:0<=kf p (bO m t)/\kf p (bO m t)<=15:=by
   obtain⟨j,q⟩: ∃j:Nat,(bO m t).pc-1=j:=⟨((bO m t).pc-1).toNat,ab⟩;have u:j<p.hw.length:=ab
   have J:kq p.hw (bO m t).pc=p.hw[j]:=by unfold kq;rw[q];simp[List.getD,u]
   have n:=M.prog.wS (p:=p) u;unfold kf;rw[J]at c⊢;exact⟨n.eA.1,n.sys c⟩
  by_cases w:wU p m (bO m t)=0
  .rw[if_pos w];exact QH M v hx i P w
  .rw[if_neg w];have I:wU p m (bO m t)=6:=by
    rcases KU m.am.aK p.ax p.hw.length (kf p (bO m t)) (bO m t).bK with h|h
    .exact absurd h w
    .exact h
   rw[I];exact pj.2 ⟨i,ai,ai,⟨h1.1,aj⟩,K,ai,rfl,ai,rfl,ai⟩
 .rw[if_neg b];refine pj.2 ⟨i,L,?_,⟨h1.1,aB⟩,K,ai,rfl,ai,rfl,ai⟩<;>grind
def MT(H:cJ p d m)(u:d+64<=1099511627776)(T:t<4)(h:1<=n/\n<=64)(K:(bO m t).im=1):ko (dP p m t n).2.1=true:=by
 have v:fO p m=true:=(H.mono ab).ok;have S:=tF H T h.1 K;obtain⟨⟨l,s⟩,N⟩: ∃r,dB p m t n=r:=⟨_,rfl⟩;rw[N]at S;have e:dP p m t n=((jr p l t s).1,(jr p l t s).2,0):=by
  unfold dP;rw[if_pos ⟨v,⟨ab,ab⟩,h.1,h.2⟩,X7,N]
 rw[e];have h1:=S.j';exact UL T ab S ab
structure Eo (e:h_):Prop where
 ok:gS e=true
 a:e.il.args.length<=3
 d:e.il.ap.length<=16
 av:fg e.il.args
 dv:fg e.il.ap
 r:qs e.iL
def Lg:FQ ⟨⟨0,0,0,0⟩,[],0,false⟩=true:=aG
def Ql(T:t<4)(W:1<=n/\n<=64)(u:ko q=true)(h:De q)(e:q.cw=t)(S:q.j'≠3):Eo (rA t n q):=by
 refine⟨?_,h.args,h.ap,h.av,h.dv,qz⟩;unfold gS Bv J8 rA;simp[u,e,S,Lg,W.1,W.2];omega
def H5(h:t<4):Eo (FN t):=by
 refine⟨?_,by simp[FN],by simp[FN],by simp[FN,fg],by simp[FN,fg],qz⟩;unfold gS Bv YB FN;simp[Lg,ep];omega
def H4(u:ko q=true)(h:De q)(h1:q.j'=1){x:eI}(hx:qs x)(b:oA x=true):Eo (xO q x):=by
 have t:=(pj.1 u).1;refine⟨?_,h.args,h.ap,h.av,h.dv,hx⟩;unfold gS Bv J8 xO<;>grind
def Gk{t:Int}(h:0<=t/\t<4)(W:0<=n/\n<=65535):Eo (qE t n):=by
 refine⟨?_,by simp[qE],by simp[qE],by simp[qE,fg],by simp[qE,fg],⟨W,by simp[qE,fg],by simp[qE]⟩⟩;unfold gS Bv YB qE;simp[ep,h.1,h.2,oA,lZ,iH]
@[simp]def Qs(R:Int)(c:List ac)(i G a H f d:Int)(k:Nat)(m:c.length<=1000000000)(h0:0<c.length): ∃h',df X 233 [r7 R c i G a H f d] mg k=some ((ro R (.cX (k+7) 0 c.length) i G a H f d:V),h',k+10)/\h' (k+7)=some ⟨2,c.map ac.e,false⟩:=by
 have r:c.length*4<=140737488355328:=ab
 have u:c.length<=4611686018427387904:=ab
 obtain⟨v,h',n',e,o,w,E⟩:=bJ (X:=X) (g:=233) (args:=[(r7 R c i G a H f d:V)]) (h:=mg) (k:=k) (K:=fun v h n=>v= (ro R (.cX (k+7) 0 c.length) i G a H f d:V)/\n=k+10/\h (k+7)=some ⟨2,c.map ac.e,false⟩) Tryz.func233 rfl rfl (by
  simp[X6,r,u])
 subst o;exact p1
@[simp]def T2(R:Int)(c:List ac)(i G a H f d r I S:Int)(k:Nat)(J:c.length=8): ∃h',df X 163 [r7 R c i G a H f d,.int .i64 0,pi I S] mg k=some ((ro R (.cX (k+14) 0 8) i G a H f d:V),h',k+33)/\h' (k+14)=some ⟨2,(c.set 0 ⟨I,S⟩).map ac.e,false⟩:=by
 obtain⟨h1,j,p⟩:=Qs R c i G a H f d (k+7) ab ab;simp only[X6,Nat.reduceAdd,J]at j p;obtain⟨v,h',n',e,o,w,E⟩:=bJ (X:=X) (g:=163) (args:=[(r7 R c i G a H f d:V),.int .i64 0,(pi I S:V)]) (h:=mg) (k:=k) (K:=fun v h n=>v= (ro R (.cX (k+14) 0 8) i G a H f d:V)/\n=k+33/\h (k+14)=some ⟨2,(c.set 0 ⟨I,S⟩).map ac.e,false⟩) Tryz.func163 rfl rfl (by
  simp[X6,j,p,J,ac.cN])
 subst o;exact p1
@[simp]def T1(R:Int)(c:List ac)(i G d H f o dD hw:Int)(k:Nat)(I:c.length=8): ∃h',df X 155 [r7 R c i G d H f o,.int .i64 dD,.int .u16 hw] mg k=some ((ro 4 (.cX (k+13) 0 8) i G d H dD hw:V),h',k+26)/\h' (k+13)=some ⟨2,c.map ac.e,false⟩:=by
 obtain⟨h1,j,p⟩:=Qs R c i G d H f o (k+6) ab ab;simp only[X6,Nat.reduceAdd,I]at j p;obtain⟨v,h',n',e,q,w,E⟩:=bJ (X:=X) (g:=155) (args:=[(r7 R c i G d H f o:V),.int .i64 dD,.int .u16 hw]) (h:=mg) (k:=k) (K:=fun v h n=>v= (ro 4 (.cX (k+13) 0 8) i G d H dD hw:V)/\n=k+26/\h (k+13)=some ⟨2,c.map ac.e,false⟩) Tryz.func155 rfl rfl (by
  simp[X6,j,p])
 subst q;exact p1
def Ka(r:aN×Bool)(v:V)(h:bI):Prop:= ∃vB C L T ids bH k,v= .ed [iF vB C L T r.1,.bool r.2]/\gA h k vB C L T ids bH r.1
def Ka.cG{g:FuncId}{args:List V}{r:aN×Bool}(H: ∃v h k,df X g args mg 0=some (v,h,k)/\Ka r v h):cG X g args=some (.ed [.agg (kW r.1),.bool r.2]):=by
 obtain⟨v,h,k,i,vB,C,L,T,ids,bH,P,rfl,A⟩:=H;have e:qK X (df X) g args=some (.ed [iF vB C L T r.1,.bool r.2],h,k):=i;have:=A.eA 5;exact p5
@[simp]def T0(Z:List Int)(k:Int)(h:List ac)(F:List cP)(a:List gc)(p:g9)(c:Int)(H:cJ p c (w_ Z k h F a)):mh X [(0,4,112)] 73 [ol Z k h F a]=some ((rJ ((aN.mk (iy.mk Z k) (aD.mk h F) a)):V)):=by
 obtain⟨v,h',k',e,_,i,A,_⟩:=tW Z k h F a 0 p c H;unfold Go.Abs.mh;rw[e];simp only[i];exact A.own
@[simp]def M4(Z:List Int)(B:Int)(d:List ac)(e:List cP)(a:List gc)(t:Int)(S:0<=t/\t<4)(h:a.length=4):cG X 162 [ol Z B d e a,.int .i64 t]=some (.bool (uT (a.getD t.toNat cT))):=by
 refine ij ?_;obtain⟨k,rfl⟩:=jp S.1;have v:k<4:=ab
 have y:(k:Int)<4:=ab
 have l:k<a.length:=ab
 rw[X7,show a.getD k cT=a[k] by simp[List.getD,l]];obtain⟨⟨st,g,pc,o,W,s,r,L⟩,m⟩: ∃x,a[k]=x:=⟨_,rfl⟩;rw[m];by_cases c:st=1
 case neg=>simp[h,v,y,m,c,uT]
 by_cases b:W= -1
 case pos=>simp[h,v,y,m,c,b,uT]
 by_cases j:s= -1
 case neg=>simp[h,v,y,m,c,b,j,uT]
 simp[h,v,y,m,c,b,j,uT]
@[simp]def xW(Z:List Int)(B:Int)(g:List ac)(F:List cP)(a:List gc)(t:Int)(p:g9)(d:Int)(H:cJ p d (w_ Z B g F a))(T:0<=t/\t<4):cG X 76 [ol Z B g F a,.int .i64 t]=some (.ed [rJ ((jB (w_ Z B g F a) t).1),.bool ((jB (w_ Z B g F a) t).2)]):=by
 refine ij ?_;obtain⟨k,rfl⟩:=jp T.1;have z:k<4:=ab
 have y:(k:Int)<4:=ab
 have G:a.length=4:=H.len;have b:k<a.length:=ab
 have D:=T0 Z B g F a p d H;have v:=M4 Z B g F a k ⟨ab,ab⟩ G;rw[X7,show a.getD k cT=a[k] by simp[List.getD,b]]at v;have hx:bO (w_ Z B g F a) k=a[k]:=eL b;obtain⟨⟨st,l,pc,c,W,w,r,L⟩,Q⟩: ∃x,a[k]=x:=⟨_,rfl⟩;rw[Q]at v hx;have n: ∀(f:gc->V),List.take 4 (a.map f)=a.map f:=fun f=>bQ aA;have o: ∀(f:gc->Option V),List.take 4 (a.map f)=a.map f:=fun f=>bQ aA;cases m:uT ⟨st,l,pc,c,W,w,r,L⟩ with
 |false=>
  have e:jB (w_ Z B g F a) k=((aN.mk (iy.mk Z B) (aD.mk g F) a),false):=by
   unfold jB;rw[X7,hx,m];exact if_neg fun h=>by cases h.2
  rw[e];rw[m]at v;simp[D,v,n,G]
 |true=>
  have e:jB (w_ Z B g F a) k=(⟨⟨Z,B⟩,⟨g,F⟩,a.set k ⟨st,l,W,c,W,pc,r,L⟩⟩,true):=by
   unfold jB;rw[X7,hx,m];exact if_pos ⟨⟨ab,by simp only[G];omega⟩,rfl⟩
  rw[e];rw[m]at v;obtain⟨s,u⟩:=x_ (a.set k ⟨st,l,W,c,W,pc,r,L⟩);have j:s.length=4:=by rw[<-u];simp[G]
  have C: ∀(f:gc->V),List.take 4 (s.map f)=s.map f:=fun f=>bQ aA;have A: ∀(f:gc->Option V),List.take 4 (s.map f)=s.map f:=fun f=>bQ aA;have I:(gc.e ⟨st,l,pc,c,W,w,r,L⟩).put 5 (.int .i64 pc)=gc.e ⟨st,l,pc,c,W,pc,r,L⟩:=rfl;have P:(gc.e ⟨st,l,pc,c,W,pc,r,L⟩).put 2 (.int .i64 W)=gc.e ⟨st,l,W,c,W,pc,r,L⟩:=rfl;have S:(a.map gc.e).set k (gc.e ⟨st,l,W,c,W,pc,r,L⟩)=s.map gc.e:=by rw[<-u,sB]
  simp only[u];simp[D,v,C,G,j,z,y,Q,I,P,S]
@[simp]def BU(s:List hu)(q:List Int)(u:List (List Int))(f:List Int)(k:Int)(g:List ac)(F:List cP)(Z:List gc)(t v x y J:Int)(W:List fd)(U:Int)(z:Bool)(d:Int)(N:cJ (wn s q u) d (w_ f k g F Z))(hd:d<=1099511627776)(ht:0<=t/\t<4)(hx:qs (wl v x y J W U z)):cG X 77 [iB s q u,ol f k g F Z,.int .i64 t,lc v x y J W U z]=some (.ed [rJ ((jZ (wn s q u) (w_ f k g F Z) t (wl v x y J W U z)).1),.bool ((jZ (wn s q u) (w_ f k g F Z) t (wl v x y J W U z)).2)]):=by
 have M:=N.mono hd;have K:fO (wn s q u) (w_ f k g F Z)=true:=M.ok;have S:=N.prog.lens;have P:=N.lens;have hL:=N.lay;have l:Z.length=4:=N.len;have O:W.length<=1000000000:=bq
 obtain⟨n,rfl⟩:=jp ht.1;have Q:n<4:=ab
 have he:(n:Int)<4:=ab
 have E:n<Z.length:=ab
 have t0:(0:Int)<=n:=ab
 have lz: ¬(n:Int)<0:=ab
 have lJ: ¬(4:Int)<=n:=ab
 have ho:bO (w_ f k g F Z) n=Z[n]:=eL E;cases D:oA (wl v x y J W U z) with
 |false=>
  rw[lG (fun h=>by have:=h.2.1;rw[D]at this;cases this)];obtain⟨h3,h1,k1,C,L,ev,H,B⟩:=tW f k g F Z 35 (wn s q u) _ M;subst L;subst ev;simp only[Nat.reduceAdd]at C H B;refine Ka.cG (ip ?_);simp[K,S,P,O,D,l,C,fI,gM];refine⟨_,57,58,221,_,_,_,?_,H.mono B (iX _) fun i a b=> ?_⟩
  .exact lF
  .have T: ¬i<35:=ab
   have r: ¬i=3:=ab
   simp[bB,T,r]
 |true=>
 by_cases R:(Z[n]).im=3
 case neg=>
  rw[lG (fun h=>R (by have:=h.2.2.2.1;rw[X7,ho]at this;exact this))];obtain⟨h3,h1,k1,C,L,ev,H,B⟩:=tW f k g F Z 35 (wn s q u) _ M;subst L;subst ev;simp only[Nat.reduceAdd]at C H B;refine Ka.cG (ip ?_);simp[K,S,P,O,D,Q,he,t0,lz,lJ,l,R,C,fI,gM];refine⟨_,57,58,221,_,_,_,?_,H.mono B (iX _) fun i a b=> ?_⟩
  .exact lF
  .have T: ¬i<35:=ab
   have r: ¬i=3:=ab
   simp[bB,T,r]
 have cQ:=eq_true R;have hc:=mu (aK:=f) (key:=k) (ax:=q) hx.iW;obtain⟨⟨ct,h2⟩,w,G⟩: ∃c w,raw f k q ⟨v,x,y,J⟩=(c,w):=⟨_,_,rfl⟩;simp only[G]at hc;obtain⟨h3,h1,k1,C,L,ev,H,B⟩:=tW f k g F Z 50 (wn s q u) _ M;subst L;subst ev;simp only[Nat.reduceAdd]at C H B;by_cases hn:w=0
 case neg=>
  rw[lG (fun h=>hn eb)];refine Ka.cG (ip ?_);simp[K,S,P,hL,O,D,Q,he,t0,lz,lJ,l,cQ,G,hn,C,fI,gM];refine⟨_,72,73,236,_,_,_,?_,H.mono B (iX _) fun i a b=> ?_⟩
  .exact lF
  .have T: ¬i<50:=ab
   have r: ¬i=3:=ab
   simp[bB,T,r]
 subst hn;rw[show jZ (wn s q u) (w_ f k g F Z) n (wl v x y J W U z)=(ie (w_ f k g F Z) (aN.gt (w_ f k g F Z)) n (jY Z[n] ⟨ct,h2⟩),true) by
  rw[vG ⟨K,D,⟨ab,ab⟩,by rw[X7,ho];exact R,by simp only[G]⟩];simp only[X7,ho,G]]
 have Y:=(M.lq n E).bK;simp only at Y;have mm:=H.lq;have hb:=H.Ad n E;simp only at mm hb;have n0:=eX (mF 171 191 211 231) Z;rw[l]at n0;have hg:=eU (ids:=mF 171 191 211 231) E;have a1:=(B.2.1 n Q).2;have a2:=H.mL n Q;have o: ∀i,i<4-> ¬i=n->50<=mF 171 191 211 231 i/\mF 171 191 211 231 i<244/\mF 171 191 211 231 i≠236:=fun i p _=>⟨(B.2.1 i p).2,(H.mL i p).2.2.2,(H.mL i p).2.2.1⟩;obtain⟨I,hI⟩:=x_ (mF 171 191 211 231 n);rw[hI]at hb a1 a2;simp only[hI]at hg;have bp: ∀j,j<50->(I=j)=False:=fun j _=>aA
 have dN: ∀j,j<50->(j=I)=False:=fun j _=>aA
 have hh:(I=236)=False:=by simp;exact a2.2.2.1
 have h4:(236=I)=False:=gn
 have g2: ¬I<50:=ab
 have hq:I<256:=ab
 have g1:List.take 8 ((Z[n]).bK.map ac.e)=(Z[n]).bK.map ac.e:=bQ (by simp[Y]);obtain⟨hE,ay,e1⟩:=T2 (Z[n]).im (Z[n]).bK (Z[n]).pc (Z[n]).ia (Z[n]).db (Z[n]).iw (Z[n]).dD (Z[n]).hw 0 ct h2 256 Y;simp only[Nat.reduceAdd]at ay e1;refine Ka.cG (ip ?_);simp[K,S,P,hL,O,D,Q,he,t0,lz,lJ,l,cQ,G,C,fI,gM,mm,hb,n0,hg,Y,bp 48 ab,g2,ay,g1,Ms,Gf,Gg,vA,yp];refine⟨_,72,73,236,_,(fun i=>if i=n then 270 else mF 171 191 211 231 i),300,?_,gA.ce (a:=50) (UR:=Z.set n (jY Z[n] ⟨ct,h2⟩)) H B ab eT ?_ ?_ ?_ ?_ ?_⟩
 .unfold iF ie;simp[l]
 .rw[sK (bH:=mF 171 191 211 231) E (fun j V=>if_neg V),qB _ _ _ _ Y];simp[bB]
 .intro i p;simp only[rm]at p;simp only[r6];by_cases m:n=i
  .subst m;have hk:j6 (hE 270)=some ⟨2,((Z[n]).bK.set 0 ⟨ct,h2⟩).map ac.e,false⟩:=by
    rw[e1];unfold j6;simp only[Ai,if_true]
   simp[bB,hk,jY]
  .have hf: ¬i=n:=fun e=>m e.symm;obtain⟨cz,o2,hB⟩:=o i ab hf;have e2:=H.Ad i p;simp only at e2;have T: ¬mF 171 191 211 231 i=3:=ab
   have c2:mF 171 191 211 231 i<256:=ab
   have r: ¬mF 171 191 211 231 i=48:=ab
   have c4: ¬mF 171 191 211 231 i<50:=ab
   simp only[m,hf,if_false];simp only[bB,T,c2,r,c4,hB,if_false,if_true];exact e2
 .intro i p;by_cases m:i=n
  .right;simp[m]
  .left;simp[m]
 .intro i j p V lM;by_cases m:i=n
  .have A: ¬j=n:=fun e=>lM (m.trans e.symm);have:=o j V A;simp only[m,A,if_true,if_false];omega
  .by_cases A:j=n
   .have:=o i p m;simp only[m,A,if_true,if_false];omega
   .simp only[m,A,if_false];exact H.BG i j p V lM
 .intro i bs bP ha g3;have T: ¬i=3:=ab
  have c2:i<256:=ab
  have r: ¬i=48:=ab
  have c4: ¬i<50:=ab
  simp only[bB,T,c2,r,c4,ha,if_false,if_true]
end Go.Proofs.YtdngefmliibcgaaGreat
