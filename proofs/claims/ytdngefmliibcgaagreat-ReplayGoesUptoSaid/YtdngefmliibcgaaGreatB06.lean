import Derived.Test.YtdngefmliibcgaaGreatB03
set_option linter.all false
set_option maxRecDepth 20000
set_option maxHeartbeats 0
namespace Go.Proofs.YtdngefmliibcgaaGreat
open Go Go.Abs Go.Abs.jJ Qf
variable  {α:Type}{ids:Nat->Nat}{l xs:List ac}{i n k p r a b C L k' o:Nat}{x:cP}{m:aD}{h h':bI}{vB vK vT:V}{c:ac}{B:Nat->Prop}
def tU(f:Nat->α)(a:Nat)(x y:α):bB (bB f a x) a y=bB f a y:=by
 funext i;unfold bB;split<;>rfl
def OY(f:Nat->α)(a b:Nat)(x y:α)(h:a≠b):bB (bB f a x) b y=bB (bB f b y) a x:=by
 funext i;unfold bB;split<;>split<;>first|rfl|(exfalso;omega)
def KM(ids:Nat->Nat)(i:Nat)(x:cP):V:= (rt x.gs x.jK (.cX (ids i) 0 x.cells.length):V)
def gh(ids:Nat->Nat)(l:List cP):List V:=l.mapIdx (KM ids)
def j9(ids:Nat->Nat)(l:List cP):(gh ids l).length=l.length:=by simp[gh]
def lk{l:List cP}(h:i<l.length)(h':i<(gh ids l).length):(gh ids l)[i]= (rt (l[i]).gs (l[i]).jK (.cX (ids i) 0 (l[i]).cells.length):V):=by
 simp[gh,KM]
def Cd{l:List cP}(h:i<l.length):(gh ids l).set i ((rt x.gs x.jK (.cX n 0 x.cells.length):V))=gh (bB ids i n) (l.set i x):=by
 apply tl;intro j;unfold gh;rw[t3,vX,vX,t3];by_cases q:i=j
 .subst q;simp[h,KM,bB]
 .rw[if_neg q,if_neg q];cases l[j]? with
  |none=>rfl
  |some y=>simp[KM,bB,ls q]
def EO{l:List cP}(h:i<l.length):(gh ids l).set i ((rt x.gs x.jK (.cX (ids i) 0 x.cells.length):V))=gh ids (l.set i x):=by
 rw[Cd h];congr 1;funext j;unfold bB;split
 .rename_i e;rw[e]
 .rfl
structure OZ (h:bI) (C L:Nat) (ids:Nat->Nat) (m:aD):Prop where
 cells:h C=some ⟨2,m.cells.map ac.e,false⟩
 ge:h L=some ⟨3,gh ids m.ge,true⟩
 line: ∀i (g:i<m.ge.length),h (ids i)=some ⟨2,(m.ge[i]).cells.map ac.e,false⟩
structure SR (C L:Nat) (ids:Nat->Nat):Prop where
 cl:C≠L
 ci: ∀i,i<4->ids i≠C
 li: ∀i,i<4->ids i≠L
 ii: ∀i j,i<4->j<4->i≠j->ids i≠ids j
@[simp]def O0(m:V)(d:Int)(h:bI)(b C L k a:Nat)(ids:Nat->Nat)(vB vK vT:V)(x:aD)(e:h b=some ⟨5,[.agg [vB,vK,.cX C 0 512,.cX L 0 4,vT]],true⟩)(A:OZ h C L ids x)(l:x.ge.length=4)(Y:a<512)(t:(x.ge.getD (a/4 % 4) jf).gs=((a/4:Nat):Int)):df X 276 [.ptr b 0 2,(a:Int)] h k=some (.ptr L (a/4 % 4) 0,h,k+20):=by
 obtain⟨n,W⟩: ∃n:Nat,a/4=n:=⟨_,rfl⟩;rw[W]at t⊢;obtain⟨r,D⟩: ∃r:Nat,n % 4=r:=⟨_,rfl⟩;rw[D]at t⊢;have y:(a:Int).tdiv 4=n:=hD
 have w:=z_ n;have Q:(n:Int).tmod 4=r:=g8
 have h1:r<x.ge.length:=ab
 have u:r<4:=ab
 have q:(r:Int)<4:=ab
 have M:=A.ge;have S:=lk (ids:=ids) h1;have z:(gh ids x.ge).length=4:=by rw[j9,l]
 simp[List.getD,h1]at t;obtain⟨v,h',n',i,p,B,F⟩:=bJ (X:=X) (g:=276) (args:=[.ptr b 0 2,(a:Int)]) (h:=h) (k:=k) (K:=fun v h' n'=>v= .ptr L r 0/\h'=h/\n'=k+20) Tryz.func276 rfl rfl (by
  simp[X6,e,y,w,Q,u,q,M,S,z,t])
 rw[i,p,B,F]
@[simp]def JL(m:V)(M:Int)(h:bI)(b C L k a:Nat)(ids:Nat->Nat)(vB vK vT:V)(y:aD)(i:h b=some ⟨5,[.agg [vB,vK,.cX C 0 512,.cX L 0 4,vT]],true⟩)(A:OZ h C L ids y)(N:C≠L)(J:b≠L)(hk:b<k/\C<k/\L<k)(F:y.cells.length=512)(G:y.ge.length=4)(ha:a<512)(t: ¬(y.ge.getD (a/4 % 4) jf).gs=((a/4:Nat):Int))(hx:(y.ge.getD (a/4 % 4) jf).jK=false):df X 276 [.ptr b 0 2,(a:Int)] h k=some (.ptr L (a/4 % 4) 0,bB (bB h (k+42) (some ⟨2,((y.cells.drop (a/4*4)).take 4).map ac.e,false⟩)) L (some ⟨3,(gh ids y.ge).set (a/4 % 4) ((rt ((a/4:Nat):Int) false (.cX (k+42) 0 4):V)),true⟩),k+48):=by
 obtain⟨n,W⟩: ∃n:Nat,a/4=n:=⟨_,rfl⟩;rw[W]at t hx⊢;obtain⟨r,D⟩: ∃r:Nat,n % 4=r:=⟨_,rfl⟩;rw[D]at t hx⊢;have B:(a:Int).tdiv 4=n:=hD
 have s:=z_ n;obtain⟨p,o⟩: ∃p:Nat,n*4=p:=⟨_,rfl⟩;rw[o];obtain⟨q,hq⟩: ∃q:Nat,p+4=q:=⟨_,rfl⟩;have hi:IntKind.i64.wrap ((n:Int)*4)=(p:Int):=g7
 have Z:=o7 n ab;have w:IntKind.i64.wrap (((n:Int)+1)*4)=(q:Int):=g7
 have O:q-p=4:=ab
 have f:p+4<=512:=ab
 have E:q<=512:=ab
 have h2:(q:Int)<=512:=ab
 have l:min 4 (512-p)=4:=ab
 have P: ∀x∈List.take 4 (List.drop p (List.map ac.e y.cells)),x.cells.length=2:=fun x hx=>by
  exact ka
 have he:p<=q:=ab
 have Q:(n:Int).tmod 4=r:=g8
 have h1:r<y.ge.length:=ab
 have u:r<4:=ab
 have aq:(r:Int)<4:=ab
 have R:=A.ge;have H:=A.cells;have S:=lk (ids:=ids) h1;have z:(gh ids y.ge).length=4:=by rw[j9,G]
 simp[List.getD,h1]at t hx;have Y: ¬L=b:=fun e=>J e.symm;have aw: ¬L=C:=fun e=>N e.symm;have q1: ¬b=k+42:=ab
 have q2: ¬C=k+42:=ab
 have d: ¬L=k+42:=ab
 have au: ¬k+42=L:=ab
 obtain⟨v,h',n',j,U,T,I⟩:=bJ (X:=X) (g:=276) (args:=[.ptr b 0 2,(a:Int)]) (h:=h) (k:=k) (K:=fun v h' n'=>v= .ptr L r 0/\h'=bB (bB h (k+42) (some ⟨2,((y.cells.drop p).take 4).map ac.e,false⟩)) L (some ⟨3,(gh ids y.ge).set r ((rt (n:Int) false (.cX (k+42) 0 4):V)),true⟩)/\n'=k+48) Tryz.func276 rfl rfl (by
  simp[X6,i,B,s,Z,hi,w,Q,u,aq,R,H,S,z,t,hx,O,f,h2,he,F,J,N,d,l,tU];refine⟨P,fun _=> ?_⟩;rw[OY h L (k+42) _ _ d,tU])
 rw[j,U,T,I]
def oQ(l:List ac)(k:Nat)(xs:List ac):List ac:=l.take k++xs++l.drop (k+xs.length)
def HK(h:xs.length=4):(l.map ac.e).take k++(xs.map ac.e).take 4++(l.map ac.e).drop (k+4)=(oQ l k xs).map ac.e:=by
 unfold oQ;have e:(xs.map ac.e).take 4=xs.map ac.e:=bQ (by simp[h]);rw[t2,t2,yB,Cl,h,e]
def HL(h:k+xs.length<=l.length):(oQ l k xs).length=l.length:=by
 unfold oQ;simp;omega
@[simp]def JM(m:V)(J:Int)(h:bI)(b C L k a T:Nat)(ids:Nat->Nat)(vB vK vT:V)(y:aD)(hb:h b=some ⟨5,[.agg [vB,vK,.cX C 0 512,.cX L 0 4,vT]],true⟩)(f:OZ h C L ids y)(P:SR C L ids)(w:b≠L/\b≠C)(hk:b<k/\C<k/\L<k/\ ∀i,i<4->ids i<k)(H:y.cells.length=512)(hl:y.ge.length=4)(ha:a<512)(S: ¬(y.ge.getD (a/4 % 4) jf).gs=((a/4:Nat):Int))(hx:(y.ge.getD (a/4 % 4) jf).jK=true)(W:(y.ge.getD (a/4 % 4) jf).gs=(T:Int)/\T<128)(d:(y.ge.getD (a/4 % 4) jf).cells.length=4):df X 276 [.ptr b 0 2,(a:Int)] h k=some (.ptr L (a/4 % 4) 0,bB (bB (bB h C (some ⟨2,(oQ y.cells (T*4) (y.ge.getD (a/4 % 4) jf).cells).map ac.e,false⟩)) (k+57) (some ⟨2,(((oQ y.cells (T*4) (y.ge.getD (a/4 % 4) jf).cells).drop (a/4*4)).take 4).map ac.e,false⟩)) L (some ⟨3,(gh ids y.ge).set (a/4 % 4) ((rt ((a/4:Nat):Int) false (.cX (k+57) 0 4):V)),true⟩),k+63):=by
 obtain⟨n,hn⟩: ∃n:Nat,a/4=n:=⟨_,rfl⟩;rw[hn]at S hx W d⊢;obtain⟨r,hr⟩: ∃r:Nat,n % 4=r:=⟨_,rfl⟩;rw[hr]at S hx W d⊢;have hd:(a:Int).tdiv 4=n:=hD
 have he:=z_ n;obtain⟨p,hp⟩: ∃p:Nat,n*4=p:=⟨_,rfl⟩;rw[hp];obtain⟨q,hq⟩: ∃q:Nat,p+4=q:=⟨_,rfl⟩;obtain⟨s,hs⟩: ∃s:Nat,T*4=s:=⟨_,rfl⟩;rw[hs];have ak:IntKind.i64.wrap ((n:Int)*4)=(p:Int):=g7
 have I:=o7 n ab;have A:IntKind.i64.wrap (((n:Int)+1)*4)=(q:Int):=g7
 have au:=W.2;have hf:IntKind.i64.wrap ((T:Int)*4)=(s:Int):=g7
 have O:q-p=4:=ab
 have M:p+4<=512:=ab
 have aq:q<=512:=ab
 have aa:(q:Int)<=512:=ab
 have ae:p<=q:=ab
 have Y:s<=512:=ab
 have j:(s:Int)<=512:=ab
 have D:min 4 (512-s)=4:=ab
 have dN:s+(512-s)<=512:=ab
 have Q:(n:Int).tmod 4=r:=g8
 have h1:r<y.ge.length:=ab
 have u:r<4:=ab
 have n0:(r:Int)<4:=ab
 have hL:=f.ge;have hC:=f.cells;have ay:=f.line r h1;have hg:=lk (ids:=ids) h1;have kz:(gh ids y.ge).length=4:=by rw[j9,hl]
 have Z:(y.ge.getD r jf)=y.ge[r]:=by simp[List.getD,h1]
 rw[Z]at S hx W d⊢;have t:=W.1;have U: ¬(T:Int)=n:=by rw[<-t];exact S
 have ho: ¬T=n:=ab
 have z:=HK (l:=y.cells) (k:=s) d;have o:=HL (l:=y.cells) (k:=s) (xs:=(y.ge[r]).cells) ab;rw[H]at o;have h3: ¬L=b:=fun e=>w.1 e.symm;have an: ¬C=b:=fun e=>w.2 e.symm;have E:=w.1;have hv:=w.2;have N:=P.cl;have cQ: ¬L=C:=fun e=>N e.symm;have B:=P.ci r u;have ah:=P.li r u;have aw: ¬C=ids r:=fun e=>B e.symm;have g1: ¬L=ids r:=fun e=>ah e.symm;have q1: ¬b=k+57:=ab
 have q2: ¬C=k+57:=ab
 have G: ¬L=k+57:=ab
 have g2: ¬k+57=L:=ab
 have hB: ¬k+57=C:=ab
 have h2:min 4 (512-p)=4:=ab
 have hi: ∀x∈ (y.ge[r]).cells.map ac.e,x.cells.length=2:=fun x hx=>by
  simp only[D5]at hx;obtain⟨c,_,rfl⟩:=hx;rfl
 have F:List.take 4 (List.map ac.e (y.ge[r]).cells)=List.map ac.e (y.ge[r]).cells:=bQ (by simp[d]);rw[F,vD]at z;have hj:p+4<=s+(4+(508-s)):=ab
 have R: ∀x∈List.take 4 (List.drop p (List.map ac.e (oQ y.cells s (y.ge[r]).cells))),x.cells.length=2:=fun x hx=>by
  exact ka
 obtain⟨v,h',n',e1,e2,e3,F⟩:=bJ (X:=X) (g:=276) (args:=[.ptr b 0 2,(a:Int)]) (h:=h) (k:=k) (K:=fun v h' n'=>v= .ptr L r 0/\h'=bB (bB (bB h C (some ⟨2,(oQ y.cells s (y.ge[r]).cells).map ac.e,false⟩)) (k+57) (some ⟨2,(((oQ y.cells s (y.ge[r]).cells).drop p).take 4).map ac.e,false⟩)) L (some ⟨3,(gh ids y.ge).set r ((rt (n:Int) false (.cX (k+57) 0 4):V)),true⟩)/\n'=k+63) Tryz.func276 rfl rfl (by
  simp[X6,hb,hd,he,I,ak,A,hf,Q,u,n0,hL,hC,ay,hg,kz,t,U,hx,d,O,M,aa,ae,Y,j,D,H,o,F,z,E,hv,N,cQ,G,h2,tU];exact⟨R,fun _=>by rw[OY _ L (k+57) _ _ G,tU]⟩)
 rw[e1,e2,e3,F]
def eZ(m:aD)(r:Nat):cP:=m.ge.getD r jf
def kU(m:aD)(r:Nat):List ac:=if(eZ m r).jK=true then oQ m.cells ((eZ m r).gs.toNat*4) (eZ m r).cells else m.cells
def dL(m:aD)(a:Nat):aD:=
 if(eZ m (a/4 % 4)).gs=((a/4:Nat):Int) then m else
  ⟨kU m (a/4 % 4),m.ge.set (a/4 % 4) ⟨((a/4:Nat):Int),false,((kU m (a/4 % 4)).drop (a/4*4)).take 4⟩⟩
def nf(m:aD)(a:Nat):ac:=((eZ (dL m a) (a/4 % 4)).cells.getD (a % 4) ⟨0,0⟩)
def ke(m:aD)(a:Nat)(c:ac):aD:=
 ⟨(dL m a).cells,(dL m a).ge.set (a/4 % 4) ⟨(eZ (dL m a) (a/4 % 4)).gs,true,(eZ (dL m a) (a/4 % 4)).cells.set (a % 4) c⟩⟩
structure kV (h:bI) (k b C L:Nat) (ids:Nat->Nat) (vB vK vT:V) (m:aD):Prop where
 box:h b=some ⟨5,[.agg [vB,vK,.cX C 0 512,.cX L 0 4,vT]],true⟩
 at_:OZ h C L ids m
 sep:SR C L ids
 bl:b≠L/\b≠C
 bi: ∀i,i<4->ids i≠b
 lt:b<k/\C<k/\L<k/\ ∀i,i<4->ids i<k
 mem:su m
def SS(h:hX l=true):hX ((l.drop p).take 4)=true:=by
 unfold hX at h⊢;rw[rZ]at h⊢;exact fun x hx=>h x (t_ (sw hx))
def Ma(h:hX l=true)(hx:hX xs=true):hX (oQ l p xs)=true:=by
 unfold hX oQ at*;rw[rZ]at h hx⊢;intro x hm;simp only[zC]at hm;rcases hm with(hm|hm)|hm
 .exact h x (sw hm)
 .exact hx x hm
 .exact h x (t_ hm)
def iZ(h:r<m.ge.length):eZ m r=m.ge[r]:=by simp[eZ,List.getD,h]
def F9(h:su m)(C:r<4):(kU m r).length=512/\hX (kU m r)=true:=by
 have h1:r<m.ge.length:=by rw[h.ge];exact C
 unfold kU;split
 .rename_i d;rw[iZ h1]at d⊢;have l:=h.line r h1;have n:(m.ge[r]).gs≠ -1:=fun e=>by rw[(l.none e).1]at d;cases d
  obtain⟨v,D,L,g⟩:=l.some n;refine⟨?_,Ma h.cells l.cells⟩;rw[HL (by rw[h.len];omega),h.len]
 .exact⟨h.len,h.cells⟩
def qj(h:su m)(W:a<512):su (dL m a):=by
 unfold dL;split
 .exact h
 .obtain⟨M,b⟩:=F9 h (r:=a/4 % 4) ab;refine⟨M,by simp[h.ge],b,fun i j=> ?_⟩;have q:i<m.ge.length:=by simpa using j
  by_cases C:a/4 % 4=i
  .subst C;simp only[y3];refine⟨fun e=> ?_,fun _=>⟨?_,?_,?_,?_⟩,SS b⟩
   .simp only at e;omega
   .exact nE
   .exact nE
   .exact nE
   .simp only[sr,xB,M];omega
  .simp only[vI C];exact h.line i q
def qk(M:su m)(W:a<512):(eZ (dL m a) (a/4 % 4)).gs=((a/4:Nat):Int)/\(eZ (dL m a) (a/4 % 4)).cells.length=4:=by
 have f:=qj M W;have h1:a/4 % 4<(dL m a).ge.length:=by rw[f.ge];omega
 have h:(eZ (dL m a) (a/4 % 4)).gs=((a/4:Nat):Int):=by
  unfold dL;split
  .assumption
  .have K:a/4 % 4<m.ge.length:=dq
   simp[eZ,List.getD,K]
 refine⟨h,?_⟩;rw[iZ h1]at h⊢;exact((f.line _ h1).some ab).2.2.2
def HN(H:kV h k b C L ids vB vK vT m)(Y:a<512):
  ∃h' k' gK,df X 276 [.ptr b 0 2,(a:Int)] h k=some (.ptr L (a/4 % 4) 0,h',k')/\kV h' k' b C L gK vB vK vT (dL m a)/\k<=k'/\
   (∀j,j<4->gK j=ids j\/k<=gK j)/\(∀i,i<k->i≠C->i≠L->(∀j,j<4->i≠ids j)->h' i=h i):=by
 obtain⟨g,A,O,w,s,S,M⟩:=H;have N:=M.ge;have hc:a/4 % 4<4:=ab
 have r:a/4 % 4<m.ge.length:=ab
 by_cases t:(eZ m (a/4 % 4)).gs=((a/4:Nat):Int)
 .have e:=O0 .bad 0 h b C L k a ids vB vK vT m g A N Y t;have B:dL m a=m:=by unfold dL;rw[if_pos t]
  exact⟨h,k+20,ids,e,⟨g,by rw[B];exact A,O,w,s,⟨ab,ab,ab,fun i l=>by have:=S.2.2.2 i l;omega⟩,by rw[B];exact M⟩,ab,fun j z=> .inl rfl,fun i _ _ _ _=>rfl⟩
 .have B:dL m a=⟨kU m (a/4 % 4),m.ge.set (a/4 % 4) ⟨((a/4:Nat):Int),false,((kU m (a/4 % 4)).drop (a/4*4)).take 4⟩⟩:=by unfold dL;rw[if_neg t]
  obtain⟨b1,aq⟩:=F9 M hc;have Z:(((kU m (a/4 % 4)).drop (a/4*4)).take 4).length=4:=by simp only[sr,xB,b1];omega
  have d:=qj M Y;have W: ∀(h1:bI) (q:Nat),k<=q->h1 C=some ⟨2,(kU m (a/4 % 4)).map ac.e,false⟩->(∀i,i<k->i≠C->h1 i=h i)->
    kV (bB (bB h1 q (some ⟨2,(((kU m (a/4 % 4)).drop (a/4*4)).take 4).map ac.e,false⟩)) L (some ⟨3,(gh ids m.ge).set (a/4 % 4) ((rt ((a/4:Nat):Int) false (.cX q 0 4):V)),true⟩)) (q+6) b C L (bB ids (a/4 % 4) q) vB vK vT (dL m a)/\
    (∀j,j<4->bB ids (a/4 % 4) q j=ids j\/k<=bB ids (a/4 % 4) q j)/\
    (∀i,i<k->i≠C->i≠L->(∀j,j<4->i≠ids j)->bB (bB h1 q (some ⟨2,(((kU m (a/4 % 4)).drop (a/4*4)).take 4).map ac.e,false⟩)) L (some ⟨3,(gh ids m.ge).set (a/4 % 4) ((rt ((a/4:Nat):Int) false (.cX q 0 4):V)),true⟩) i=h i):=by
   intro h1 q hq hC F;rw[B]at d⊢;have U:=Cd (ids:=ids) (n:=q) (x:=⟨((a/4:Nat):Int),false,((kU m (a/4 % 4)).drop (a/4*4)).take 4⟩) r;simp only[Z]at U;have p: ∀{o:Type} (f:Nat->o) (i:Nat) (v:o),bB f i v i=v:=fun f i v=>al
   have u: ∀{o:Type} (f:Nat->o) (i j:Nat) (v:o),j≠i->bB f i v j=f j:=fun f i j v K=>gw
   refine⟨⟨?_,⟨?_,?_,fun i l=> ?_⟩,⟨O.cl,fun i l=> ?_,fun i l=> ?_,fun i j l z I=> ?_⟩,w,fun i l=> ?_,⟨ab,ab,ab,fun i l=> ?_⟩,d⟩,fun j z=> ?_,fun i h2 Q P I=> ?_⟩
   .rw[u _ _ _ _ w.1,u _ _ _ _ ab,F b S.1 w.2,g]
   .rw[u _ _ _ _ O.cl,u _ _ _ _ ab,hC]
   .rw[p,U]
   .simp only[rm]at l;by_cases D:a/4 % 4=i
    .subst D;rw[p,u _ _ _ _ ab,p];simp
    .rw[u _ _ _ _ (ls D),u _ _ _ _ (O.li i ab),u _ _ _ _ (by have:=S.2.2.2 i ab;omega),F _ (S.2.2.2 i ab) (O.ci i ab),A.line i l];simp[vI D]
   .by_cases D:a/4 % 4=i
    .subst D;rw[p];omega
    .rw[u _ _ _ _ (ls D)];exact O.ci i l
   .by_cases D:a/4 % 4=i
    .subst D;rw[p];omega
    .rw[u _ _ _ _ (ls D)];exact O.li i l
   .by_cases D:a/4 % 4=i
    .subst D;rw[p,u _ _ _ _ (ls I)];have:=S.2.2.2 j z;omega
    .rw[u _ _ _ _ (ls D)];by_cases c:a/4 % 4=j
     .subst c;rw[p];have:=S.2.2.2 i l;omega
     .rw[u _ _ _ _ (ls c)];exact O.ii i j l z I
   .by_cases D:a/4 % 4=i
    .subst D;rw[p];omega
    .rw[u _ _ _ _ (ls D)];exact s i l
   .by_cases D:a/4 % 4=i
    .subst D;rw[p];omega
    .rw[u _ _ _ _ (ls D)];have:=S.2.2.2 i l;omega
   .by_cases D:a/4 % 4=j
    .subst D;rw[p];exact .inr hq
    .rw[u _ _ _ _ (ls D)];exact .inl rfl
   .rw[u _ _ _ _ P,u _ _ _ _ ab,F i h2 Q]
  cases hx:(eZ m (a/4 % 4)).jK with
  |false=>
   have e:=JL .bad 0 h b C L k a ids vB vK vT m g A O.cl w.1 ⟨S.1,S.2.1,S.2.2.1⟩ M.len N Y t hx;have J:kU m (a/4 % 4)=m.cells:=by unfold kU;rw[hx];simp
   obtain⟨y,R,E⟩:=W h (k+42) ab (by rw[J];exact A.cells) (fun i _ _=>rfl);rw[J]at y E;exact⟨_,_,_,e,y,ab,R,E⟩
  |true=>
   have T:=M.line _ r;rw[iZ r]at hx;have hn:(m.ge[a/4 % 4]).gs≠ -1:=fun e=>by rw[(T.none e).1]at hx;cases hx
   obtain⟨g1,g2,g3,g4⟩:=T.some hn;have G:m.ge.getD (a/4 % 4) jf=m.ge[a/4 % 4]:=by simp[List.getD,r]
   have e:=JM .bad 0 h b C L k a (m.ge[a/4 % 4]).gs.toNat ids vB vK vT m g A O w S M.len N Y t (by rw[G];exact hx) ⟨by rw[G];omega,ab⟩ (by rw[G];exact g4);have J:kU m (a/4 % 4)=oQ m.cells ((m.ge[a/4 % 4]).gs.toNat*4) (m.ge.getD (a/4 % 4) jf).cells:=by
    unfold kU;rw[iZ r,hx,if_pos rfl,G]
   obtain⟨y,R,E⟩:=W (bB h C (some ⟨2,(kU m (a/4 % 4)).map ac.e,false⟩)) (k+57) ab al (fun i _ K=>gw);rw[J]at y E;exact⟨_,_,_,e,y,ab,R,E⟩
def kV.eP(H:kV h k b C L ids vB vK vT m)(z:k<=k')(e:h' b=h b)(q:h' C=h C)(K:h' L=h L)(l: ∀j,j<4->h' (ids j)=h (ids j)):
  kV h' k' b C L ids vB vK vT m:=by
 obtain⟨h1,⟨M,S,a⟩,n,r,y,G,O⟩:=H;have I:=O.ge;refine⟨by rw[e,h1],⟨by rw[q,M],by rw[K,S],fun i g=> ?_⟩,n,r,y,⟨ab,ab,ab,fun i l=>by have:=G.2.2.2 i l;omega⟩,O⟩;rw[l i ab,a i g]
def kV.mono(H:kV h k b C L ids vB vK vT m)(y:k<=k')(a: ∀i,i<k->h' i=h i):kV h' k' b C L ids vB vK vT m:=
 H.eP y (a _ H.lt.1) (a _ H.lt.2.1) (a _ H.lt.2.2.1) fun j q=>a _ (H.lt.2.2.2 j q)
def t8(h:hX l=true)(m:oG c=true):hX (l.set o c)=true:=by
 unfold hX at h⊢;rw[rZ]at h⊢;intro x hx;rcases vb hx with hx|hx
 .exact h x hx
 .rw[hx];exact m
def HQ(M:su m)(W:a<512)(n:oG c=true):su (ke m a c):=by
 have h:=qj M W;obtain⟨t,b⟩:=qk M W;have r:a/4 % 4<(dL m a).ge.length:=by rw[h.ge];omega
 rw[iZ r]at t b;unfold ke;rw[iZ r];refine⟨h.len,by simp[h.ge],h.cells,fun i j=> ?_⟩;have q:i<(dL m a).ge.length:=by simpa using j
 by_cases C:a/4 % 4=i
 .subst C;simp only[y3];have l:=h.line _ r;refine⟨fun e=> ?_,fun _=>⟨?_,?_,?_,?_⟩,t8 l.cells n⟩
  .simp only at e;omega
  .exact nE
  .exact nE
  .exact nE
  .simp only[rm];exact b
 .simp only[vI C];exact h.line i q
@[simp]def Rn(m:V)(d:Int)(h:bI)(k b C L:Nat)(ids:Nat->Nat)(vB vK vT:V)(x:aD)(a:Nat)(H:kV h k b C L ids vB vK vT x)(W:a<512): ∃h' k' gK,df X 273 [.ptr b 0 2,(a:Int)] h k=some ((nf x a).e,h',k')/\kV h' k' b C L gK vB vK vT (dL x a)/\k<=k'/\(∀j,j<4->gK j=ids j\/k<=gK j)/\(∀i,i<k->i≠C->i≠L->(∀j,j<4->i≠ids j)->h' i=h i):=by
 have Z:kV (bB h k (some ⟨2,[pi 0 0],true⟩)) (k+12) b C L ids vB vK vT x:=H.mono ab (fun i s=>ch);obtain⟨h1,k1,U,t,G,hc,Y,w⟩:=HN Z W;obtain⟨r,D⟩: ∃r:Nat,a/4 % 4=r:=⟨_,rfl⟩;obtain⟨o,F⟩: ∃o:Nat,a % 4=o:=⟨_,rfl⟩;have z:(a:Int).tmod 4=o:=g8
 have y:=qk H.mem W;have M:=qj H.mem W;have E:r<(dL x a).ge.length:=dq
 rw[D]at y t;rw[iZ E]at y;have B:=M.ge;have N:=G.at_.ge;have hx:=G.at_.line r E;have S:=lk (ids:=U) E;have p:(gh U (dL x a).ge).length=4:=by rw[j9,B]
 have c:=y.2;have h2:r<4:=ab
 have f:o<4:=ab
 have R:(o:Int)<4:=ab
 have n:o<((dL x a).ge[r]).cells.length:=ab
 have he:h1 k=some ⟨2,[pi 0 0],true⟩:=by
  exact pw
 have l:nf x a=((dL x a).ge[r]).cells[o]:=by
  unfold nf;rw[D,F,iZ E];simp[List.getD,n]
 obtain⟨v,h',n',Q,P,J,O⟩:=bJ (X:=X) (g:=273) (args:=[.ptr b 0 2,(a:Int)]) (h:=h) (k:=k) (K:=fun v h' n'=>v=(nf x a).e/\h'=bB h1 k (some ⟨2,[(nf x a).e],true⟩)/\n'=k1) Tryz.func273 rfl rfl (by
  simp[X6,t,z,N,hx,S,p,c,h2,f,R,he,l];exact⟨rfl,rfl⟩)
 subst P J O;have u: ∀i,i≠k->bB h1 k (some ⟨2,[(nf x a).e],true⟩) i=h1 i:=fun i s=>by simp[bB,s]
 refine⟨_,_,U,Q,G.eP (iX _) (u _ (by have:=H.lt.1;omega)) (u _ bX) (u _ bG) (fun j q=>u _ ?_),ab,fun j q=> ?_,fun i s I T A=> ?_⟩
 .rcases Y j q with e|e
  .rw[e];have:=H.lt.2.2.2 j q;omega
  .omega
 .rcases Y j q with e|e
  .exact .inl e
  .exact .inr ab
 .rw[u _ ab,w i ab I T A];simp[bB];intro e;omega
@[simp]def UC(m:V)(P an hn:Int)(h:bI)(k b C L:Nat)(ids:Nat->Nat)(vB vK vT:V)(y:aD)(a:Nat)(c:ac)(H:kV h k b C L ids vB vK vT y)(W:a<512)(h2:oG c=true): ∃h' k' gK,df X 251 [.ptr b 0 2,(a:Int),c.e] h k=some (.ed [],h',k')/\kV h' k' b C L gK vB vK vT (ke y a c)/\k<=k'/\(∀j,j<4->gK j=ids j\/k<=gK j)/\(∀i,i<k->i≠C->i≠L->(∀j,j<4->i≠ids j)->h' i=h i):=by
 have aq:kV (bB h k (some ⟨2,[c.e],true⟩)) (k+5) b C L ids vB vK vT y:=H.mono ab (fun i l=>ch);obtain⟨h1,k1,U,O,G,hk,N,B⟩:=HN aq W;obtain⟨r,I⟩: ∃r:Nat,a/4 % 4=r:=⟨_,rfl⟩;obtain⟨o,ho⟩: ∃o:Nat,a % 4=o:=⟨_,rfl⟩;have T:(a:Int).tmod 4=o:=g8
 have Y:=qk H.mem W;have M:=qj H.mem W;have E:r<(dL y a).ge.length:=dq
 rw[I]at Y O;rw[iZ E]at Y;have kz:=M.ge;have hL:=G.at_.ge;have aw:=G.at_.line r E;have hg:=lk (ids:=U) E;have q:(gh U (dL y a).ge).length=4:=by rw[j9,kz]
 have J:=Y.2;have F:r<4:=ab
 have p:o<4:=ab
 have hb:(o:Int)<4:=ab
 have hc:o<((dL y a).ge[r]).cells.length:=ab
 have hl:h1 k=some ⟨2,[c.e],true⟩:=by
  exact pE
 have au:=G.sep.li r F;have hx: ¬L=U r:=fun e=>au e.symm;obtain⟨v,h',n',e2,g1,g2,g3⟩:=bJ (X:=X) (g:=251) (args:=[.ptr b 0 2,(a:Int),c.e]) (h:=h) (k:=k) (K:=fun v h' n'=>v= .ed []/\h'=bB (bB h1 (U r) (some ⟨2,(((dL y a).ge[r]).cells.set o c).map ac.e,false⟩)) L (some ⟨3,(gh U (dL y a).ge).set r ((rt ((dL y a).ge[r]).gs true (.cX (U r) 0 4):V)),true⟩)/\n'=k1+13) Tryz.func251 rfl rfl (by
  simp[X6,O,T,hL,aw,hg,q,J,F,p,hb,hl,hx];exact⟨rfl,fun _=>rfl⟩)
 subst g1 g2 g3;have w:ke y a c=⟨(dL y a).cells,(dL y a).ge.set r ⟨((dL y a).ge[r]).gs,true,((dL y a).ge[r]).cells.set o c⟩⟩:=by
  unfold ke;rw[I,ho,iZ E]
 have s:su (ke y a c):=HQ H.mem W h2;have A: ∀{n:Type} (f:Nat->n) (i:Nat) (v:n),bB f i v i=v:=fun f i v=>al
 have u: ∀{n:Type} (f:Nat->n) (i j:Nat) (v:n),j≠i->bB f i v j=f j:=fun f i j v Z=>by simp[bB,Z]
 have z:=G.sep.ci r F;refine⟨_,_,U,e2,⟨?_,⟨?_,?_,fun i l=> ?_⟩,G.sep,G.bl,G.bi,⟨?_,?_,?_,fun i l=> ?_⟩,s⟩,ab,fun j t=> ?_,fun i l hC Q d=> ?_⟩
 .exact pR
 .exact pK
 .rw[A,w];have S:=EO (ids:=U) (x:=⟨((dL y a).ge[r]).gs,true,((dL y a).ge[r]).cells.set o c⟩) E;simp only[rm,J]at S;rw[S]
 .rw[w]at l;simp only[rm]at l;have R:i<4:=ab
  rw[u _ _ _ _ (G.sep.li i R)];by_cases D:r=i
  .subst D;rw[A];simp[w]
  .rw[u _ _ _ _ (G.sep.ii i r R F (fun e=>D e.symm)),G.at_.line i l];simp[w,vI D]
 .have:=G.lt.1;omega
 .have:=G.lt.2.1;omega
 .have:=G.lt.2.2.1;omega
 .have:=G.lt.2.2.2 i l;omega
 .rcases N j t with e|e
  .exact .inl e
  .exact .inr ab
 .have Z:i≠U r:=by
   rcases N r F with e|e
   .rw[e];exact d r F
   .omega
  rw[u _ _ _ _ Q,u _ _ _ _ Z,B i ab hC Q d];simp[bB];intro e;omega
@[simp]def Mb(m:V)(i:Int)(h:bI)(b C L k r:Nat)(ids:Nat->Nat)(vB vK vT:V)(x:aD)(H:kV h k b C L ids vB vK vT x)(D:r<x.ge.length)(hx:(x.ge[r]).jK=false):df X 294 [.ptr b 0 2,(r:Int)] h k=some (.ed [],bB h (k+7) (some ⟨3,[rt (x.ge[r]).gs (x.ge[r]).jK (.cX (ids r) 0 (x.ge[r]).cells.length)],true⟩),k+28):=by
 have l:=H.mem.ge;have u:r<4:=ab
 have q:(r:Int)<4:=ab
 have e:=H.box;have M:=H.at_.ge;have S:=lk (ids:=ids) D;have z:(gh ids x.ge).length=4:=by rw[j9,l]
 obtain⟨v,h',n',j,p,y,F⟩:=bJ (X:=X) (g:=294) (args:=[.ptr b 0 2,(r:Int)]) (h:=h) (k:=k) (K:=fun v h' n'=>v= .ed []/\h'=bB h (k+7) (some ⟨3,[rt (x.ge[r]).gs (x.ge[r]).jK (.cX (ids r) 0 (x.ge[r]).cells.length)],true⟩)/\n'=k+28) Tryz.func294 rfl rfl (by
  simp[X6,e,u,q,M,S,z,hx,tU])
 rw[j,p,y,F]
@[simp]def Mc(m:V)(i:Int)(h:bI)(b C L k r T:Nat)(ids:Nat->Nat)(vB vK vT:V)(y:aD)(H:kV h k b C L ids vB vK vT y)(E:r<y.ge.length)(hx:(y.ge[r]).jK=true)(Y:(y.ge[r]).gs=(T:Int)/\T<128)(d:(y.ge[r]).cells.length=4):df X 294 [.ptr b 0 2,(r:Int)] h k=some (.ed [],bB (bB h (k+7) (some ⟨3,[rt (y.ge[r]).gs (y.ge[r]).jK (.cX (ids r) 0 (y.ge[r]).cells.length)],true⟩)) C (some ⟨2,(oQ y.cells (T*4) (y.ge[r]).cells).map ac.e,false⟩),k+39):=by
 have J:=H.mem.ge;have n:=H.mem.len;have z:r<4:=ab
 have h2:(r:Int)<4:=ab
 have o:=H.box;have P:=H.at_.ge;have w:=H.at_.cells;have R:=H.at_.line r E;have f:=lk (ids:=ids) E;have j:(gh ids y.ge).length=4:=by rw[j9,J]
 obtain⟨s,M⟩: ∃s:Nat,T*4=s:=⟨_,rfl⟩;rw[M];have t:=Y.1;have O:=Y.2;have h1:IntKind.i64.wrap ((T:Int)*4)=(s:Int):=g7
 have S:=o7 T ab;have u:IntKind.i64.wrap (((T:Int)+1)*4)=(s:Int)+4:=g7
 have e:(s:Int)+4<=512:=ab
 have U:s<=512:=ab
 have W:(s:Int)<=512:=ab
 have D:min 4 (512-s)=4:=ab
 have aq:s+(512-s)<=512:=ab
 have a:=HK (l:=y.cells) (k:=s) d;have F:List.take 4 (List.map ac.e (y.ge[r]).cells)=List.map ac.e (y.ge[r]).cells:=bQ (by simp[d]);rw[F,vD]at a;have Z:=H.lt;have G: ¬b=k+7:=ab
 have N: ¬C=k+7:=ab
 have q: ¬ids r=k+7:=by have:=Z.2.2.2 r z;omega
 have he: ¬L=k+7:=ab
 have hi: ¬k+7=C:=ab
 have I: ∀x∈ (y.ge[r]).cells.map ac.e,x.cells.length=2:=fun x hx=>by
  simp only[D5]at hx;obtain⟨c,_,rfl⟩:=hx;rfl
 obtain⟨v,h',n',B,p,A,Q⟩:=bJ (X:=X) (g:=294) (args:=[.ptr b 0 2,(r:Int)]) (h:=h) (k:=k) (K:=fun v h' n'=>v= .ed []/\h'=bB (bB h (k+7) (some ⟨3,[rt (y.ge[r]).gs (y.ge[r]).jK (.cX (ids r) 0 (y.ge[r]).cells.length)],true⟩)) C (some ⟨2,(oQ y.cells s (y.ge[r]).cells).map ac.e,false⟩)/\n'=k+39) Tryz.func294 rfl rfl (by
  simp[X6,o,z,h2,P,w,R,f,j,hx,t,d,n,h1,S,u,e,U,W,D,F,a,G,N,q,tU])
 rw[B,p,A,Q]
@[simp]def Md(m:V)(d:Int)(h:bI)(b C L k a:Nat)(ids:Nat->Nat)(vB vK vT:V)(x:aD)(H:kV h k b C L ids vB vK vT x)(Y:a<512)(t:(eZ x (a/4 % 4)).gs=((a/4:Nat):Int)):df X 268 [.ptr b 0 2,(a:Int)] h k=some (.ed [.ptr L (a/4 % 4) 0,((a % 4:Nat):Int),.bool true],h,k+64):=by
 obtain⟨n,W⟩: ∃n:Nat,a/4=n:=⟨_,rfl⟩;rw[W]at t⊢;obtain⟨r,D⟩: ∃r:Nat,n % 4=r:=⟨_,rfl⟩;rw[D]at t⊢;obtain⟨o,e⟩: ∃o:Nat,a % 4=o:=⟨_,rfl⟩;rw[e];have l:=H.mem.ge;have A:(a:Int).tdiv 4=n:=hD
 have w:=z_ n;have Q:(n:Int).tmod 4=r:=g8
 have u:(a:Int).tmod 4=o:=g8
 have h1:r<x.ge.length:=ab
 have y:r<4:=ab
 have q:(r:Int)<4:=ab
 have a0: ¬(a:Int)<0:=ab
 have a5: ¬(512:Int)<=(a:Int):=ab
 have a6: ¬512<=a:=ab
 have f:=H.box;have M:=H.at_.ge;have S:=lk (ids:=ids) h1;have z:(gh ids x.ge).length=4:=by rw[j9,l]
 rw[iZ h1]at t;have c:=((H.mem.line r h1).some ab).2.2.2;obtain⟨v,h',n',i,p,B,F⟩:=bJ (X:=X) (g:=268) (args:=[.ptr b 0 2,(a:Int)]) (h:=h) (k:=k) (K:=fun v h' n'=>v= .ed [.ptr L r 0,(o:Int),.bool true]/\h'=h/\n'=k+64) Tryz.func268 rfl rfl (by
  simp[X6,f,A,w,Q,u,y,q,a0,a5,M,S,z,t,c])
 rw[i,p,B,F]
@[simp]def BF(m:V)(d:Int)(h:bI)(b C L k a:Nat)(cs:List ac)(ids:Nat->Nat)(vB vK vT:V)(y:aD)(H:kV h k b C L ids vB vK vT y)(au:cs.length=512)(ha:a<512)(t: ¬(eZ y (a/4 % 4)).gs=((a/4:Nat):Int)): ∀(h1:bI) (k1:Nat),df X 294 [.ptr b 0 2,((a/4 % 4:Nat):Int)] h (k+56)=some (.ed [],h1,k1)->k+56<=k1->h1 b=h b->h1 L=h L->h1 C=some ⟨2,cs.map ac.e,false⟩->df X 268 [.ptr b 0 2,(a:Int)] h k=some (.ed [.ptr L (a/4 % 4) 0,((a % 4:Nat):Int),.bool true],bB (bB h1 (k1+16) (some ⟨2,((cs.drop (a/4*4)).take 4).map ac.e,false⟩)) L (some ⟨3,(gh ids y.ge).set (a/4 % 4) ((rt ((a/4:Nat):Int) false (.cX (k1+16) 0 4):V)),true⟩),k1+31):=by
 intro z k1 B hj Y j P;obtain⟨n,W⟩: ∃n:Nat,a/4=n:=⟨_,rfl⟩;rw[W]at t B⊢;obtain⟨r,G⟩: ∃r:Nat,n % 4=r:=⟨_,rfl⟩;rw[G]at t B⊢;obtain⟨o,T⟩: ∃o:Nat,a % 4=o:=⟨_,rfl⟩;rw[T];obtain⟨p,S⟩: ∃p:Nat,n*4=p:=⟨_,rfl⟩;rw[S];obtain⟨q,hq⟩: ∃q:Nat,p+4=q:=⟨_,rfl⟩;have U:=H.mem.ge;have hd:(a:Int).tdiv 4=n:=hD
 have F:=z_ n;have he:IntKind.i64.wrap ((n:Int)*4)=(p:Int):=g7
 have Z:=o7 n ab;have w:IntKind.i64.wrap (((n:Int)+1)*4)=(q:Int):=g7
 have O:q-p=4:=ab
 have s:p+4<=512:=ab
 have I:q<=512:=ab
 have hi:(q:Int)<=512:=ab
 have hc:p<=q:=ab
 have D:min 4 (512-p)=4:=ab
 have A: ∀x∈List.take 4 (List.drop p (List.map ac.e cs)),x.cells.length=2:=fun x hx=>by
  exact ka
 have Q:(n:Int).tmod 4=r:=g8
 have u:(a:Int).tmod 4=o:=g8
 have h1:r<y.ge.length:=ab
 have l:r<4:=ab
 have aq:(r:Int)<4:=ab
 have a0: ¬(a:Int)<0:=ab
 have a5: ¬(512:Int)<=(a:Int):=ab
 have a6: ¬512<=a:=ab
 have f:=H.box;have M:=H.at_.ge;rw[f]at Y;rw[M]at j;have hg:=lk (ids:=ids) h1;have E:(gh ids y.ge).length=4:=by rw[j9,U]
 rw[iZ h1]at t;have iS:=H.lt;have J:=H.bl.1;have N:=H.sep.cl;have h2: ¬L=b:=fun e=>J e.symm;have an: ¬L=C:=fun e=>N e.symm;have R: ¬b=k1+16:=ab
 have q2: ¬C=k1+16:=ab
 have i: ¬L=k1+16:=ab
 have aw: ¬k1+16=L:=ab
 obtain⟨v,h',n',e1,e2,e3,e4⟩:=bJ (X:=X) (g:=268) (args:=[.ptr b 0 2,(a:Int)]) (h:=h) (k:=k) (K:=fun v h' n'=>v= .ed [.ptr L r 0,(o:Int),.bool true]/\h'=bB (bB z (k1+16) (some ⟨2,((cs.drop p).take 4).map ac.e,false⟩)) L (some ⟨3,(gh ids y.ge).set r ((rt (n:Int) false (.cX (k1+16) 0 4):V)),true⟩)/\n'=k1+31) Tryz.func268 rfl rfl (by
  simp[X6,f,B,Y,j,P,au,hd,F,Z,he,w,Q,u,l,aq,a0,a5,M,hg,E,t,O,s,hi,hc,D,J,R,i];exact A)
 rw[e1,e2,e3,e4]
def yC(B:Nat->Prop)(m:aD):Prop:= ∀r,r<4-> ∀t:Nat,(eZ m r).gs=(t:Int)-> ∀o,o<4->((eZ m r).jK=false\/B (t*4+o))->(eZ m r).cells.getD o ⟨0,0⟩=m.cells.getD (t*4+o) ⟨0,0⟩
def look_eq(m:aD)(a:Nat):look m a=if(eZ m (a/4 % 4)).gs=((a/4:Nat):Int) then(eZ m (a/4 % 4)).cells.getD (a % 4) ⟨0,0⟩ else m.cells.getD a ⟨0,0⟩:=rfl
def SX(h:k+xs.length<=l.length):(oQ l k xs).getD i ⟨0,0⟩=if k<=i/\i<k+xs.length then xs.getD (i-k) ⟨0,0⟩ else l.getD i ⟨0,0⟩:=by
 have y:(l.take k).length=k:=aA
 unfold oQ<;>grind
def C7{c:List ac}{l:List cP}(h:r<l.length):eZ ⟨c,l.set r x⟩ i=if r=i then x else eZ ⟨c,l⟩ i:=by unfold eZ<;>grind
def yD(c c':List ac)(l:List cP)(i:Nat):eZ ⟨c,l⟩ i=eZ ⟨c',l⟩ i:=rfl
def Mg(h:su m)(C:r<4):CE r (eZ m r):=by
 have h1:r<m.ge.length:=by rw[h.ge];exact C
 rw[iZ h1];exact h.line r h1
def Pj(M:su m)(C:r<4)(i:Nat):(kU m r).getD i ⟨0,0⟩=if(eZ m r).jK=true/\(eZ m r).gs=((i/4:Nat):Int) then(eZ m r).cells.getD (i % 4) ⟨0,0⟩ else m.cells.getD i ⟨0,0⟩:=by
 unfold kU;by_cases d:(eZ m r).jK=true
 .have h:=Mg M C;have n:(eZ m r).gs≠ -1:=fun e=>by rw[(h.none e).1]at d;grind
  obtain⟨v,D,L,g⟩:=h.some n;obtain⟨t,S⟩:=jp v;rw[if_pos d,SX (by rw[M.len,g];omega),g,S]
  grind
 grind
def Xx(M:su m)(h:a<512):(eZ (dL m a) (a/4 % 4)).gs=((a/4:Nat):Int):=(qk M h).1
def yE(M:su m)(C:yC B m)(W:a<512)(x:Nat):look (dL m a) x=look m x:=by
 have f:m.ge.length=4:=M.ge;unfold dL;by_cases i:(eZ m (a/4 % 4)).gs=((a/4:Nat):Int)
 .grind
 rw[if_neg i,look_eq,look_eq,C7 ab];have b:=Pj M (r:=a/4 % 4) ab;by_cases hx:a/4 % 4=x/4 % 4
 .rw[if_pos hx,<-hx];by_cases e:a/4=x/4
  .rw[if_pos bC,if_neg ab];have c:((List.drop (a/4*4) (kU m (a/4 % 4))).take 4).getD (x % 4) ⟨0,0⟩=(kU m (a/4 % 4)).getD x ⟨0,0⟩:=by
    simp only[rT];rw[List.getElem?_take_of_lt ab,ux];congr 2;omega
   simp_all
  .rw[if_neg aj,b x];by_cases h:(eZ m (a/4 % 4)).gs=((x/4:Nat):Int)
   .rw[if_pos h];by_cases d:(eZ m (a/4 % 4)).jK=true
    .grind
    .rw[if_neg (fun g=>d g.1)];have:=C (a/4 % 4) ab (x/4) h (x % 4) ab (.inl aj)
     grind
   grind
 .rw[if_neg hx,yD _ m.cells];by_cases h:(eZ m (x/4 % 4)).gs=((x/4:Nat):Int)
  .rw[if_pos h,if_pos h]
  .rw[if_neg h,if_neg h,b x];have l:=Mg M (r:=a/4 % 4) ab;rw[if_neg];intro g;have n:(eZ m (a/4 % 4)).gs≠ -1:=by rw[g.2];omega
   have:=(l.some n).2.2.1;rw[g.2]at this;omega
def KQ(M:su m)(C:yC B m)(h:a<512):nf m a=look m a:=by
 rw[<-yE M C h a,look_eq,if_pos (Xx M h)];rfl
def AW(M:su m)(s:yC B m)(X:a<512):yC B (dL m a):=by
 have d:m.ge.length=4:=M.ge;unfold dL;by_cases i:(eZ m (a/4 % 4)).gs=((a/4:Nat):Int)
 .grind
 rw[if_neg i];have c:=Pj M (r:=a/4 % 4) ab;intro r C t h o f b;rw[C7 ab]at h b⊢;by_cases e:a/4 % 4=r
 .rw[if_pos e]at h b⊢;simp only at h;have y:a/4=t:=ab
  simp_all
 .rw[if_neg e,yD _ m.cells]at h b⊢;have h1:=s r C t h o f b;rw[c,if_neg]
  .omega
  .intro g;have l:=Mg M (r:=a/4 % 4) ab;have W:(eZ m (a/4 % 4)).gs≠ -1:=by rw[g.2];omega
   have q:=(l.some W).2.2.1;have x:=Mg M C;have n:(eZ m r).gs≠ -1:=by rw[h];omega
   have V:=(x.some n).2.2.1;rw[h]at V;omega
def Pk(a:Nat)(c:ac):ke m a c=⟨(dL m a).cells,(dL m a).ge.set (a/4 % 4) ⟨(eZ (dL m a) (a/4 % 4)).gs,true,(eZ (dL m a) (a/4 % 4)).cells.set (a % 4) c⟩⟩:=rfl
def yF(M:su m)(C:yC B m)(h:a<512)(c:ac)(x:Nat):look (ke m a c) x=if x=a then c else look m x:=by
 have f:=qj M h;have b:(dL m a).ge.length=4:=f.ge;obtain⟨i,t⟩:=qk M h;rw[<-yE M C h x,Pk,look_eq,look_eq,C7 ab];by_cases hx:a/4 % 4=x/4 % 4
 .grind
 .rw[if_neg hx,yD _ (dL m a).cells]
  grind
def rM(M:su m)(q:yC B m)(W:a<512)(j: ¬B a)(c:ac):yC B (ke m a c):=by
 have K:=qj M W;have n:=AW M q W;have b:(dL m a).ge.length=4:=K.ge;obtain⟨i,s⟩:=qk M W;rw[Pk];intro r C t S o f h;rw[C7 ab]at S h⊢;by_cases e:a/4 % 4=r
 .rw[if_pos e]at S h⊢;have x:a/4=t:=by rw[i]at S;omega
  rcases h with h|h
  .grind
  have V:a % 4≠o:=fun g=>j aj;rw[rT,y0 V,<-List.getD_eq_getElem?_getD];have:=n (a/4 % 4) ab t ab o f (.inr h);omega
 .rw[if_neg e,yD _ (dL m a).cells]at S h⊢;exact n r C t S o f h
def D7(B:Nat->Prop)(c:List ac):yC B ⟨c,fp⟩:=fun r C t h=>by
 have:(eZ ⟨c,fp⟩ r).gs= -1:=by
  have:r=0\/r=1\/r=2\/r=3:=ab
  rcases this with rfl|rfl|rfl|rfl<;>rfl
 omega
def FJ(aK ax:List Int)(a:Nat):Prop:=(resolve aK ax (a:Int)).2=false
end Go.Proofs.YtdngefmliibcgaaGreat
