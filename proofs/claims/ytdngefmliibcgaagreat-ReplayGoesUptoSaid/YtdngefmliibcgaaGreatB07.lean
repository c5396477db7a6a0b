import Derived.Test.YtdngefmliibcgaaGreatB04
import Derived.Test.YtdngefmliibcgaaGreatB06
set_option linter.all false
set_option maxRecDepth 20000
set_option maxHeartbeats 0
namespace Go.Proofs.YtdngefmliibcgaaGreat
open Go Go.Abs Go.Abs.jJ Qf
variable  {h:bI}{k b C L a i t:Nat}{ids:Nat->Nat}{vB vK vT:V}{m mem:aD}{l r bK:List ac}{x:gc}{c d n o op pc iw w:Int}{p:g9}{aK ax:List Int}
def KN(H:kV h k b C L ids vB vK vT m)(c:a<512)(Z: ¬(eZ m (a/4 % 4)).gs=((a/4:Nat):Int)):
  ∀(h1:bI) (q:Nat),k<=q->h1 C=some ⟨2,(kU m (a/4 % 4)).map ac.e,false⟩->(∀i,i<k->i≠C->h1 i=h i)->
    kV (bB (bB h1 q (some ⟨2,(((kU m (a/4 % 4)).drop (a/4*4)).take 4).map ac.e,false⟩)) L (some ⟨3,(gh ids m.ge).set (a/4 % 4) ((rt ((a/4:Nat):Int) false (.cX q 0 4):V)),true⟩)) (q+6) b C L (bB ids (a/4 % 4) q) vB vK vT (dL m a)/\
    (∀j,j<4->bB ids (a/4 % 4) q j=ids j\/k<=bB ids (a/4 % 4) q j)/\
    (∀i,i<k->i≠C->i≠L->(∀j,j<4->i≠ids j)->bB (bB h1 q (some ⟨2,(((kU m (a/4 % 4)).drop (a/4*4)).take 4).map ac.e,false⟩)) L (some ⟨3,(gh ids m.ge).set (a/4 % 4) ((rt ((a/4:Nat):Int) false (.cX q 0 4):V)),true⟩) i=h i):=by
 obtain⟨g,d,S,w,t,W,T⟩:=H;have G:=T.ge;have F:a/4 % 4<4:=ab
 have D:a/4 % 4<m.ge.length:=ab
 have B:dL m a=⟨kU m (a/4 % 4),m.ge.set (a/4 % 4) ⟨((a/4:Nat):Int),false,((kU m (a/4 % 4)).drop (a/4*4)).take 4⟩⟩:=by unfold dL;rw[if_neg Z]
 obtain⟨O,E⟩:=F9 T F;have X:(((kU m (a/4 % 4)).drop (a/4*4)).take 4).length=4:=by simp only[sr,xB,O];omega
 have J:=qj T c;intro h1 q z A y;rw[B]at J⊢;have U:=Cd (ids:=ids) (n:=q) (x:=⟨((a/4:Nat):Int),false,((kU m (a/4 % 4)).drop (a/4*4)).take 4⟩) D;simp only[X]at U;have p: ∀{o:Type} (f:Nat->o) (i:Nat) (v:o),bB f i v i=v:=fun f i v=>al
 have u: ∀{o:Type} (f:Nat->o) (i j:Nat) (v:o),j≠i->bB f i v j=f j:=fun f i j v K=>gw
 refine⟨⟨?_,⟨?_,?_,fun i l=> ?_⟩,⟨S.cl,fun i l=> ?_,fun i l=> ?_,fun i j l r M=> ?_⟩,w,fun i l=> ?_,⟨ab,ab,ab,fun i l=> ?_⟩,J⟩,fun j r=> ?_,fun i I N s M=> ?_⟩
 .rw[u _ _ _ _ w.1,u _ _ _ _ ab,y b W.1 w.2,g]
 .rw[u _ _ _ _ S.cl,u _ _ _ _ ab,A]
 .rw[p,U]
 .simp only[rm]at l;by_cases e:a/4 % 4=i
  .subst e;rw[p,u _ _ _ _ ab,p];simp
  .rw[u _ _ _ _ (ls e),u _ _ _ _ (S.li i ab),u _ _ _ _ (by have:=W.2.2.2 i ab;omega),y _ (W.2.2.2 i ab) (S.ci i ab),d.line i l];simp[vI e]
 .by_cases e:a/4 % 4=i
  .subst e;rw[p];omega
  .rw[u _ _ _ _ (ls e)];exact S.ci i l
 .by_cases e:a/4 % 4=i
  .subst e;rw[p];omega
  .rw[u _ _ _ _ (ls e)];exact S.li i l
 .by_cases e:a/4 % 4=i
  .subst e;rw[p,u _ _ _ _ (ls M)];have:=W.2.2.2 j r;omega
  .rw[u _ _ _ _ (ls e)];by_cases Y:a/4 % 4=j
   .subst Y;rw[p];have:=W.2.2.2 i l;omega
   .rw[u _ _ _ _ (ls Y)];exact S.ii i j l r M
 .by_cases e:a/4 % 4=i
  .subst e;rw[p];omega
  .rw[u _ _ _ _ (ls e)];exact t i l
 .by_cases e:a/4 % 4=i
  .subst e;rw[p];omega
  .rw[u _ _ _ _ (ls e)];have:=W.2.2.2 i l;omega
 .by_cases e:a/4 % 4=j
  .subst e;rw[p];exact .inr z
  .rw[u _ _ _ _ (ls e)];exact .inl rfl
 .rw[u _ _ _ _ s,u _ _ _ _ ab,y i I N]
def ER(H:kV h k b C L ids vB vK vT m)(W:a<512):
  ∃h' k' gK,df X 268 [.ptr b 0 2,(a:Int)] h k=some (.ed [.ptr L (a/4 % 4) 0,((a % 4:Nat):Int),.bool true],h',k')/\kV h' k' b C L gK vB vK vT (dL m a)/\k<=k'/\
   (∀j,j<4->gK j=ids j\/k<=gK j)/\(∀i,i<k->i≠C->i≠L->(∀j,j<4->i≠ids j)->h' i=h i):=by
 have G:=H.mem.ge;have F:a/4 % 4<4:=ab
 have r:a/4 % 4<m.ge.length:=ab
 by_cases t:(eZ m (a/4 % 4)).gs=((a/4:Nat):Int)
 .have e:=Md .bad 0 h b C L k a ids vB vK vT m H W t;have s:dL m a=m:=by unfold dL;rw[if_pos t]
  exact⟨h,k+64,ids,e,by rw[s];exact H.mono ab (fun _ _=>rfl),ab,fun j z=> .inl rfl,fun i _ _ _ _=>rfl⟩
 .obtain⟨N,U⟩:=F9 H.mem F;have y:kV h (k+56) b C L ids vB vK vT m:=H.mono ab (fun _ _=>rfl);have u: ∀{l:Type} (f:Nat->l) (i j:Nat) (v:l),j≠i->bB f i v j=f j:=fun f i j v K=>gw
  have S:=H.lt;cases hx:(eZ m (a/4 % 4)).jK with
  |false=>
   have J:kU m (a/4 % 4)=m.cells:=by unfold kU;rw[hx];simp
   rw[iZ r]at hx;have B:=Mb .bad 0 h b C L (k+56) (a/4 % 4) ids vB vK vT m y r hx;have e:=BF .bad 0 h b C L k a (kU m (a/4 % 4)) ids vB vK vT m H N W t _ _ B ab (u _ _ _ _ ab) (u _ _ _ _ ab) hZ;obtain⟨o,w,E⟩:=KN H W t (bB h (k+56+7) (some ⟨3,[rt (m.ge[a/4 % 4]).gs (m.ge[a/4 % 4]).jK (.cX (ids (a/4 % 4)) 0 (m.ge[a/4 % 4]).cells.length)],true⟩)) (k+56+28+16) ab hZ (fun i q _=>u _ _ _ _ ab);exact⟨_,_,_,e,o.mono ab (fun _ _=>rfl),ab,w,E⟩
  |true=>
   have R:=hx;rw[iZ r]at hx;have x:=H.mem.line _ r;have n:(m.ge[a/4 % 4]).gs≠ -1:=fun e=>by rw[(x.none e).1]at hx;cases hx
   obtain⟨A,D,O,g⟩:=x.some n;have J:kU m (a/4 % 4)=oQ m.cells ((m.ge[a/4 % 4]).gs.toNat*4) (m.ge[a/4 % 4]).cells:=by
    unfold kU;rw[R,if_pos rfl,iZ r]
   have B:=Mc .bad 0 h b C L (k+56) (a/4 % 4) (m.ge[a/4 % 4]).gs.toNat ids vB vK vT m y r hx ⟨ab,ab⟩ g;have M:=H.bl.2;have p:L≠C:=fun e=>H.sep.cl e.symm;have e:=BF .bad 0 h b C L k a (kU m (a/4 % 4)) ids vB vK vT m H N W t _ _ B ab (by rw[u _ _ _ _ M,u _ _ _ _ ab]) (by rw[u _ _ _ _ p,u _ _ _ _ ab]) (by rw[J];simp[bB]);obtain⟨o,w,E⟩:=KN H W t (bB (bB h (k+56+7) (some ⟨3,[rt (m.ge[a/4 % 4]).gs (m.ge[a/4 % 4]).jK (.cX (ids (a/4 % 4)) 0 (m.ge[a/4 % 4]).cells.length)],true⟩)) C (some ⟨2,(oQ m.cells ((m.ge[a/4 % 4]).gs.toNat*4) (m.ge[a/4 % 4]).cells).map ac.e,false⟩)) (k+56+39+16) ab (by rw[J];simp[bB]) (fun i q K=>by rw[u _ _ _ _ K,u _ _ _ _ ab]);exact⟨_,_,_,e,o.mono ab (fun _ _=>rfl),ab,w,E⟩
@[simp]def Rd(m:V)(d:Int)(h:bI)(k b C L:Nat)(ids:Nat->Nat)(vB vK vT:V)(x:aD)(a:Nat)(H:kV h k b C L ids vB vK vT x)(W:a<512): ∃h' k' gK,df X 292 [.ptr b 0 2,(a:Int)] h k=some (.ed [(nf x a).e,.bool true],h',k')/\kV h' k' b C L gK vB vK vT (dL x a)/\k<=k'/\(∀j,j<4->gK j=ids j\/k<=gK j)/\(∀i,i<k->i≠C->i≠L->(∀j,j<4->i≠ids j)->h' i=h i):=by
 have T:kV (bB h k (some ⟨2,[pi 0 0],true⟩)) (k+12) b C L ids vB vK vT x:=H.mono ab (fun i s=>ch);obtain⟨h1,k1,U,z,G,hc,Y,w⟩:=ER T W;obtain⟨r,D⟩: ∃r:Nat,a/4 % 4=r:=⟨_,rfl⟩;obtain⟨o,t⟩: ∃o:Nat,a % 4=o:=⟨_,rfl⟩;have he:(a:Int).tmod 4=o:=g8
 have y:=qk H.mem W;have M:=qj H.mem W;have E:r<(dL x a).ge.length:=dq
 rw[D]at y;rw[D,t]at z;rw[iZ E]at y;have B:=M.ge;have N:=G.at_.ge;have Z:=G.at_.line r E;have S:=lk (ids:=U) E;have p:(gh U (dL x a).ge).length=4:=by rw[j9,B]
 have c:=y.2;have hx:r<4:=ab
 have f:o<4:=ab
 have Q:(o:Int)<4:=ab
 have n:o<((dL x a).ge[r]).cells.length:=ab
 have h2:h1 k=some ⟨2,[pi 0 0],true⟩:=by
  exact pw
 have l:nf x a=((dL x a).ge[r]).cells[o]:=by
  unfold nf;rw[D,t,iZ E];simp[List.getD,n]
 obtain⟨v,h',n',P,J,I,O⟩:=bJ (X:=X) (g:=292) (args:=[.ptr b 0 2,(a:Int)]) (h:=h) (k:=k) (K:=fun v h' n'=>v= .ed [(nf x a).e,.bool true]/\h'=bB h1 k (some ⟨2,[(nf x a).e],true⟩)/\n'=k1+11) Tryz.func292 rfl rfl (by
  simp[X6,z,N,Z,S,p,c,hx,f,Q,h2,l];exact⟨rfl,rfl⟩)
 subst J I O;have u: ∀i,i≠k->bB h1 k (some ⟨2,[(nf x a).e],true⟩) i=h1 i:=fun i s=>by simp[bB,s]
 refine⟨_,_,U,P,G.eP ab (u _ (by have:=H.lt.1;omega)) (u _ bX) (u _ bG) (fun j q=>u _ ?_),ab,fun j q=> ?_,fun i s F R A=> ?_⟩
 .rcases Y j q with e|e
  .rw[e];have:=H.lt.2.2.2 j q;omega
  .omega
 .rcases Y j q with e|e
  .exact .inl e
  .exact .inr ab
 .rw[u _ ab,w i ab F R A];simp[bB];intro e;omega
@[simp]def UD(m:V)(Q hn hk:Int)(h:bI)(k b C L:Nat)(ids:Nat->Nat)(vB vK vT:V)(y:aD)(a:Nat)(c:ac)(H:kV h k b C L ids vB vK vT y)(W:a<512)(h2:oG c=true): ∃h' k' gK,df X 237 [.ptr b 0 2,(a:Int),c.e] h k=some (.bool true,h',k')/\kV h' k' b C L gK vB vK vT (ke y a c)/\k<=k'/\(∀j,j<4->gK j=ids j\/k<=gK j)/\(∀i,i<k->i≠C->i≠L->(∀j,j<4->i≠ids j)->h' i=h i):=by
 have aq:kV (bB h k (some ⟨2,[c.e],true⟩)) (k+12) b C L ids vB vK vT y:=H.mono ab (fun i l=>ch);obtain⟨h1,k1,U,P,G,h3,O,B⟩:=ER aq W;obtain⟨r,D⟩: ∃r:Nat,a/4 % 4=r:=⟨_,rfl⟩;obtain⟨o,J⟩: ∃o:Nat,a % 4=o:=⟨_,rfl⟩;have an:(a:Int).tmod 4=o:=g8
 have Y:=qk H.mem W;have M:=qj H.mem W;have E:r<(dL y a).ge.length:=dq
 rw[D]at Y;rw[D,J]at P;rw[iZ E]at Y;have kz:=M.ge;have hL:=G.at_.ge;have aw:=G.at_.line r E;have hg:=lk (ids:=U) E;have q:(gh U (dL y a).ge).length=4:=by rw[j9,kz]
 have N:=Y.2;have F:r<4:=ab
 have p:o<4:=ab
 have hb:(o:Int)<4:=ab
 have hc:o<((dL y a).ge[r]).cells.length:=ab
 have hl:h1 k=some ⟨2,[c.e],true⟩:=by
  exact pE
 have au:=G.sep.li r F;have hx: ¬L=U r:=fun e=>au e.symm;obtain⟨v,h',n',e2,g1,g2,g3⟩:=bJ (X:=X) (g:=237) (args:=[.ptr b 0 2,(a:Int),c.e]) (h:=h) (k:=k) (K:=fun v h' n'=>v= .bool true/\h'=bB (bB h1 (U r) (some ⟨2,(((dL y a).ge[r]).cells.set o c).map ac.e,false⟩)) L (some ⟨3,(gh U (dL y a).ge).set r ((rt ((dL y a).ge[r]).gs true (.cX (U r) 0 4):V)),true⟩)/\n'=k1+15) Tryz.func237 rfl rfl (by
  simp[X6,P,hL,aw,hg,q,N,F,p,hb,hl,hx];exact⟨rfl,fun _=>rfl⟩)
 subst g1 g2 g3;have w:ke y a c=⟨(dL y a).cells,(dL y a).ge.set r ⟨((dL y a).ge[r]).gs,true,((dL y a).ge[r]).cells.set o c⟩⟩:=by
  unfold ke;rw[D,J,iZ E]
 have s:su (ke y a c):=HQ H.mem W h2;have A: ∀{n:Type} (f:Nat->n) (i:Nat) (v:n),bB f i v i=v:=fun f i v=>al
 have u: ∀{n:Type} (f:Nat->n) (i j:Nat) (v:n),j≠i->bB f i v j=f j:=fun f i j v Z=>by simp[bB,Z]
 have z:=G.sep.ci r F;refine⟨_,_,U,e2,⟨?_,⟨?_,?_,fun i l=> ?_⟩,G.sep,G.bl,G.bi,⟨?_,?_,?_,fun i l=> ?_⟩,s⟩,ab,fun j t=> ?_,fun i l hC R d=> ?_⟩
 .exact pR
 .exact pK
 .rw[A,w];have S:=EO (ids:=U) (x:=⟨((dL y a).ge[r]).gs,true,((dL y a).ge[r]).cells.set o c⟩) E;simp only[rm,N]at S;rw[S]
 .rw[w]at l;simp only[rm]at l;have T:i<4:=ab
  rw[u _ _ _ _ (G.sep.li i T)];by_cases I:r=i
  .subst I;rw[A];simp[w]
  .rw[u _ _ _ _ (G.sep.ii i r T F (fun e=>I e.symm)),G.at_.line i l];simp[w,vI I]
 .have:=G.lt.1;omega
 .have:=G.lt.2.1;omega
 .have:=G.lt.2.2.1;omega
 .have:=G.lt.2.2.2 i l;omega
 .rcases O j t with e|e
  .exact .inl e
  .exact .inr ab
 .have Z:i≠U r:=by
   rcases O r F with e|e
   .rw[e];exact d r F
   .omega
  rw[u _ _ _ _ R,u _ _ _ _ Z,B i ab hC R d];simp[bB];intro e;omega
def dY(ids:Nat->Nat)(i:Nat)(x:gc):V:= (ro x.im (.cX (ids i) 0 x.bK.length) x.pc x.ia x.db x.iw x.dD x.hw:V)
def dn(ids:Nat->Nat)(l:List gc):List V:=l.mapIdx (dY ids)
def eX(ids:Nat->Nat)(l:List gc):(dn ids l).length=l.length:=by simp[dn]
def eU{l:List gc}(h:i<l.length)(h':i<(dn ids l).length):(dn ids l)[i]= (ro (l[i]).im (.cX (ids i) 0 (l[i]).bK.length) (l[i]).pc (l[i]).ia (l[i]).db (l[i]).iw (l[i]).dD (l[i]).hw:V):=by
 simp[dn,dY]
def gq{l:List gc}(h:i<l.length):(dn ids l).set i (dY ids i x)=dn ids (l.set i x):=by
 apply tl;intro j;unfold dn;rw[t3,vX,vX,t3];by_cases q:i=j
 .subst q;simp[h]
 .rw[if_neg q,if_neg q]
def fQ(x:gc)(why:Int):gc:=⟨4,x.bK,x.pc,x.ia,x.db,x.iw,why,0⟩
@[simp]def Ji(x:V)(why:Int)(h:bI)(k T t:Nat)(w:Int)(ids:Nat->Nat)(ts:List gc)(W:h T=some ⟨8,dn ids ts,true⟩)(S:t<ts.length):df X 271 [.ptr T t 0,w] h k=some (.int .i64 2,bB h T (some ⟨8,dn ids (ts.set t (fQ ts[t] w)),true⟩),k+15):=by
 have U:=eU (ids:=ids) S;have z:=eX ids ts;have l:=gq (ids:=ids) (x:=fQ ts[t] w) S;obtain⟨v,h',n',i,p,y,e⟩:=bJ (X:=X) (g:=271) (args:=[.ptr T t 0,.int .i64 w]) (h:=h) (k:=k) (K:=fun v h' n'=>v= .int .i64 2/\h'=bB h T (some ⟨8,(dn ids ts).set t (dY ids t (fQ ts[t] w)),true⟩)/\n'=k+15) Tryz.func271 rfl rfl (by
  simp[X6,W,S,U,z,tU];rfl)
 rw[i,p,y,e,l]
def iD(c:ac):Prop:=(0<=c.gs/\c.gs<=2)/\0<=c.val/\c.val<=65535
def fq(l:List ac):Prop:= ∀c∈l,iD c
def mo:iD ⟨0,0⟩:=⟨⟨aG,aG⟩,aG,aG⟩
def fq.at(h:fq l)(j:i<l.length):iD l[i]:=h _ (rx j)
def fq.getD{l:List ac}(h:fq l)(i:Nat):iD (l.getD i ⟨0,0⟩):=by
 by_cases j:i<l.length
 .simp only[List.getD,rk j,tj];exact h.at j
 .simp only[List.getD,uf (C3 j),zR];exact mo
def fq.set{l:List ac}(h:fq l){c:ac}(m:iD c)(i:Nat):fq (l.set i c):=by
 intro x hx;rcases vb hx with hx|rfl
 .exact h x hx
 omega
def fq.take{l:List ac}(h:fq l)(n:Nat):fq (l.take n):=fun x hx=>h x (sw hx)
def fq.drop{l:List ac}(h:fq l)(n:Nat):fq (l.drop n):=fun x hx=>h x (t_ hx)
def fq.append(h:fq l)(K:fq r):fq (l++r):=fun x hx=>by
 rcases List.mem_append.1 hx with hx|hx
 .exact h x hx
 .exact K x hx
def fq.nil:fq []:=fun x hx=>aj
def fq.hX{l:List ac}(h:fq l):hX l=true:=by
 unfold Go.Proofs.YtdngefmliibcgaaGreat.hX;rw[rZ];intro x hx;have:=(h x hx).1.2;simpa[oG] using this
def fq.Mh(h:fq l):Ac l:=fun i j=>⟨(h.at j).1.1,(h.at j).2⟩
def iD.oG{c:ac}(h:iD c):oG c=true:=by simpa[Go.Proofs.YtdngefmliibcgaaGreat.oG] using h.1.2
def D8(h:hX l=true)(r:Ac l):fq l:=by
 intro x hx;obtain⟨i,j,rfl⟩:=vP hx;have h1:=List.all_eq_true.1 h _ (rx j);have K:=r i j;simp[oG]at h1;exact⟨⟨K.1,h1⟩,K.2⟩
structure qo (m:aD):Prop where
 mem:su m
 cells:fq m.cells
 line: ∀i,fq (eZ m i).cells
def H9(c c':List ac)(l:List cP)(r i:Nat)(x:cP):eZ ⟨c,l.set r x⟩ i=if r=i/\r<l.length then x else eZ ⟨c',l⟩ i:=by unfold eZ<;>grind
def qo.back(h:qo m)(r:Nat):fq (kU m r):=by
 unfold kU;split
 .exact((h.cells.take _).append (h.line r)).append (h.cells.drop _)
 .exact h.cells
def qo.BX(h:qo m)(W:a<512):qo (dL m a):=by
 refine⟨qj h.mem W,?_,fun i=> ?_⟩
 .unfold dL;split
  .exact h.cells
  .exact h.back _
 .unfold dL;split
  .exact h.line i
  .rw[H9 _ m.cells];split
   .exact((h.back _).drop _).take _
   .exact h.line i
def qo.load(h:qo m)(W:a<512):iD (nf m a):=((h.BX W).line _).getD _
def qo.store(h:qo m)(W:a<512){c:ac}(n:iD c):qo (ke m a c):=by
 have f:=h.BX W;refine⟨HQ h.mem W n.oG,f.cells,fun i=> ?_⟩;unfold ke;rw[H9 _ (dL m a).cells];split
 .exact(f.line _).set n _
 .exact f.line i
structure eS (c:Int) (x:gc):Prop where
 im:0<=x.im/\x.im<=4
 bK:x.bK.length=8
 cells:fq x.bK
 pc:0<=x.pc/\x.pc<=255
 ia:0<=x.ia/\x.ia<=c
 db: -1<=x.db/\x.db<=255
 iw: -1<=x.iw/\x.iw<=255
 dD:0<=x.dD/\x.dD<=6
 hw:0<=x.hw/\x.hw<=65535
def eS.mono(h:eS c x)(u:c<=d):eS d x:=by
 obtain⟨h1,K,S,a,i,q,y,G,O⟩:=h;exact⟨h1,K,S,a,⟨i.1,ab⟩,q,y,G,O⟩
def eS.ok(h:eS 1099511627776 x):oP x=true:=by
 obtain⟨h1,K,S,a,i,q,y,G,O⟩:=h;unfold oP;rw[S.hX]
 grind
structure cJ (p:g9) (c:Int) (m:aN):Prop where
 prog:o9 p
 lay:fM m.am.aK p.ax
 key:0<=m.am.key/\m.am.key<=65535
 mem:qo m.gt
 len:m.ce.length=4
 lq: ∀i (h:i<m.ce.length),eS c m.ce[i]
 Ia:c<=1000000->yC (FJ m.am.aK p.ax) m.gt
def cJ.mono{p:g9}{c d:Int}{m:aN}(h:cJ p c m)(u:c<=d):cJ p d m:=⟨h.prog,h.lay,h.key,h.mem,h.len,fun i j=>(h.lq i j).mono u,fun g=>h.Ia ab⟩
def cJ.ok{p:g9}{m:aN}(h:cJ p 1099511627776 m):fO p m=true:=by
 unfold fO;simp only[X8,decide_eq_true_eq];refine⟨AV h.prog,nd.2 h.lay,OW.2 h.mem.mem,h.len,?_⟩;unfold nX;rw[rZ];intro x hx;obtain⟨i,j,rfl⟩:=vP hx;exact(h.lq i j).ok
def cJ.lens{m:aN}(h:cJ p c m):yA m:=by
 have z:=h.lay.sz.le;have l:=h.lay.len;have O:=h.mem.mem.len;have n:=h.mem.mem.ge;have t:=h.len;refine⟨ab,ab,ab,fun i j=> ?_,ab,fun i j=> ?_⟩
 .have:=h.mem.mem.line i j;by_cases e:(m.gt.ge[i]).gs= -1
  .rw[(this.none e).2];simp
  .rw[(this.some e).2.2.2];omega
 .rw[(h.lq i j).bK];omega
def o9.lens(h:o9 p):AU p:=by
 have:=h.ax.le;have:=h.len;have:=h.qH;exact⟨ab,ab,ab⟩
structure xw (m:aN):Prop where
 key:0<=m.am.key/\m.am.key<=65535
 cells:Ac m.gt.cells
 line: ∀i (h:i<m.gt.ge.length),Ac (m.gt.ge[i]).cells
 bK: ∀i (h:i<m.ce.length),Ac (m.ce[i]).bK
 hw: ∀i (h:i<m.ce.length),0<=(m.ce[i]).hw/\(m.ce[i]).hw<=65535
def xx{m:aN}(r:xw m)(h:fO p m=true):cJ p 1099511627776 m:=by
 unfold fO at h;simp only[X8,decide_eq_true_eq]at h;obtain⟨h1,K,S,a,k⟩:=h;have O:=OW.1 S;refine⟨Pg h1,nd.1 K,r.key,⟨O,D8 O.cells r.cells,fun i=> ?_⟩,a,fun i j=> ?_,fun g=>ab⟩
 .by_cases j:i<m.gt.ge.length
  .rw[iZ j];exact D8 (O.line i j).cells (r.line i j)
  .unfold eZ;simp only[List.getD,uf (C3 j),zR];exact fq.nil
 .have:=List.all_eq_true.1 k _ (rx j);unfold oP at this;simp only[X8,decide_eq_true_eq]at this;have c:=r.hw i j;obtain⟨a1,a2,a3,a4,a5,a6,a7,a8,a9,SY,s5,s2,sS,sJ⟩:=this;exact⟨⟨a2,a3⟩,a4,D8 a1 (r.bK i j),⟨a5,a6⟩,⟨a7,a8⟩,⟨a9,SY⟩,⟨s5,s2⟩,⟨sS,sJ⟩,c⟩
structure D9 (n m:Nat) (i:hu):Prop where
 op:0<=i.op/\i.op<=24
 a:0<=i.a/\i.a<8
 b:0<=i.b/\i.b<8
 c:0<=i.c/\i.c<8
 eA:0<=i.eA/\i.eA<=65535
 jump:jumps i.op=true->i.eA<n
 lea:i.op=15->i.eA<m
 sys:i.op=23->i.eA<=15
def Xy{n m:Nat}{i:hu}(h:nW i=true)(K:qX n m i=true):D9 n m i:=by
 unfold nW at h;split at h
 .cases h
 split at h
 .cases h
 split at h
 .cases h
 split at h
 .cases h
 split at h
 .cases h
 unfold qX at K;simp only[X8,sG,DX,decide_eq_false_iff_not]at K;refine⟨ab,ab,ab,ab,ab,fun j=> ?_,fun l=> ?_,fun s=> ?_⟩
 .grind
 .omega
 .have j: ¬jumps i.op=true:=by rw[s];decide
  grind
def o9.wS(h:o9 p)(y:k<p.hw.length):D9 p.hw.length p.ax.length p.hw[k]:=Xy (h.aq4 k y) (h.range k y)
def nY(n:Int):0<=IntKind.u16.wrap n/\IntKind.u16.wrap n<=65535:=dj
def Ib(n:Int):iD ⟨0,IntKind.u16.wrap n⟩:=⟨⟨ai,ai⟩,nY n⟩
def pb(L:fM aK ax){p:ac}{back:Bool}(h:(ji aK ax p n back).2=0): ∃a:Nat,(ji aK ax p n back).1=⟨1,(a:Int)⟩/\a<512:=by
 by_cases h1:p.gs=1
 case neg=>rw[ud h1]at h;cases h
 cases K:(resolve aK ax p.val).2 with
 |false=>rw[uZ h1 K]at h;cases h
 |true=>
  obtain⟨k,y,t,e,M,U⟩:=jn K;have em:=xr (n:=n) (back:=back) h1 K e;have b:=L.base k y t;rw[em]at h⊢;have F:nth aK k=aK[k]:=dA y;by_cases i:inside ax k (if back=true then p.val-aK[k]-n else p.val-aK[k]+n)=true
  .obtain⟨k',s,d,z,o⟩:=iK.1 i;have Q:k=k':=ab
   subst Q;rw[if_pos i,F];refine⟨(aK[k]+(if back=true then p.val-aK[k]-n else p.val-aK[k]+n)).toNat,?_,ab⟩<;>grind
  grind
def Pl: ∀(bs s:List Int) (k:Nat) (o:Int) (r:Nat) (y:k<bs.length) (t:k<s.length),0<=o->o<s[k]->(∀j (h:j<bs.length) (h':j<s.length),j≠k->bs[j]+s[j]<bs[k]\/bs[k]+s[k]<bs[j])->(∀j (h':j<s.length),1<=s[j])->sX bs s (bs[k]+o) r=(⟨((r+k:Nat):Int),o⟩,true)
 | [],s,k,o,r,y,_,_,_,_,_=>aj
 |b::bs,[],k,o,r,_,t,_,_,_,_=>aj
 |b::bs,z::s,0,o,r,_,_,h0,h1,_,_=>by
  simp only[xL]at h1⊢;unfold sX<;>grind
 |b::bs,z::s,k+1,o,r,y,t,h0,h1,W,O=>by
  simp only[y4]at h1⊢;have l:k<bs.length:=by simpa using y
  have a:k<s.length:=by simpa using t
  have h:=W 0 ai ai ab;simp only[xL,y4]at h;unfold sX;rw[if_neg ab,Pl bs s k o (r+1) l a h0 h1 (fun j q B K=>by
   have:=W (j+1) aj aj ab
   grind) (fun j q=>by have:=O (j+1) aj;grind)]
  grind
def qp(L:fM aK ax)(y:k<aK.length)(t:k<ax.length)(h0:0<=o)(h1:o<ax[k]):resolve aK ax (aK[k]+o)=(⟨(k:Int),o⟩,true):=by
 unfold resolve;rw[Pl aK ax k o 0 y t h0 h1 (fun j h h' K=>L.apart j k h h' y t K) (fun j h=>(L.sz.elem j h).1)];simp
def Xz(L:fM aK ax){p:ac}{back:Bool}(h:(ji aK ax p n back).2=0):(resolve aK ax (ji aK ax p n back).1.val).2=true:=by
 by_cases h1:p.gs=1
 case neg=>rw[ud h1]at h;cases h
 cases K:(resolve aK ax p.val).2 with
 |false=>rw[uZ h1 K]at h;cases h
 |true=>
  obtain⟨k,y,t,e,M,b⟩:=jn K;have em:=xr (n:=n) (back:=back) h1 K e;rw[em]at h⊢;by_cases i:inside ax k (if back=true then p.val-aK[k]-n else p.val-aK[k]+n)=true
  .obtain⟨k',s,d,z,o⟩:=iK.1 i;have Q:k=k':=ab
   subst Q;rw[if_pos i,dA y];rw[qp L y s z o]
  grind
def Ce(aK ax:List Int)(p:ac)(n:Int)(back:Bool):0<=(ji aK ax p n back).2/\(ji aK ax p n back).2<=6:=by
 by_cases h1:p.gs=1
 case neg=>rw[ud h1];decide
 cases h:(resolve aK ax p.val).2 with
 |false=>rw[uZ h1 h];decide
 |true=>
  obtain⟨k,y,t,e,M,b⟩:=jn h;rw[xr (n:=n) (back:=back) h1 h e]
  grind
def Ea(op:BinOp)(a b:Int):0<=Go.Abs.bits .u16 op a b/\Go.Abs.bits .u16 op a b<=65535:=by
 unfold Go.Abs.bits;split<;>exact nY _
def VV{b:Int}(e:0<=b/\b<=65535)(m:0<=c/\c<=65535):iD (zY op b c).1/\0<=(zY op b c).2/\(zY op b c).2<=6:=by
 have z: ∀t:Int,0<=t/\t<=6->iD ((⟨0,0⟩:ac),t).1/\0<=((⟨0,0⟩:ac),t).2/\((⟨0,0⟩:ac),t).2<=6:=fun t h=>⟨mo,h⟩;have w: ∀n:Int,iD ((⟨0,IntKind.u16.wrap n⟩:ac),(0:Int)).1/\0<=((⟨0,IntKind.u16.wrap n⟩:ac),(0:Int)).2/\((⟨0,IntKind.u16.wrap n⟩:ac),(0:Int)).2<=6:=fun n=>⟨Ib n,ai⟩;have L: ∀n:Int,0<=n/\n<=65535->iD ((⟨0,n⟩:ac),(0:Int)).1/\0<=((⟨0,n⟩:ac),(0:Int)).2/\((⟨0,n⟩:ac),(0:Int)).2<=6:=fun n W=>⟨⟨⟨ai,ai⟩,W⟩,ai⟩;unfold zY;split
 .grind
 split
 .grind
 split
 .grind
 split
 .grind
 split
 .split
  .grind
  .refine L _ ?_;have h1:=DS c e.1;have K:b.tmod c<=b:=by
    rw[v0 e.1];rcases Int.lt_or_le b c with h|h
    .rw[Dj e.1 h];omega
    .have:=t4 b (show 0<c from ab);omega
   omega
 split
 .exact L _ (Ea ..)
 split
 .exact L _ (Ea ..)
 split
 .exact L _ (Ea ..)
 split
 .grind
 split
 .refine L _ ?_;have p:(0:Int)<2^ (min (c.tmod 16).toNat 16):=Int.pow_pos ab;rw[Int.fdiv_eq_ediv_of_nonneg _ ab];have h1:0<=b/2^ (min (c.tmod 16).toNat 16):=DT e.1 ab;have K:b/2^ (min (c.tmod 16).toNat 16)<=b:=C_ _ e.1;omega
 grind
def SZ(L:fM aK ax)(p:ac)(n:Int)(back:Bool):iD (ji aK ax p n back).1:=by
 by_cases h:(ji aK ax p n back).2=0
 .obtain⟨a,e,W⟩:=pb L h;rw[e];exact⟨⟨ai,ai⟩,aj⟩
 .have:(ji aK ax p n back).1=⟨0,0⟩:=by
   by_cases h1:p.gs=1
   case neg=>rw[ud h1]
   cases K:(resolve aK ax p.val).2 with
   |false=>rw[uZ h1 K]
   |true=>
    obtain⟨k,y,t,e,M,b⟩:=jn K;rw[xr (n:=n) (back:=back) h1 K e]at h⊢
    grind
  rw[this];exact mo
def IA(L:fM aK ax){b c:ac}(e:iD b)(h:iD c):iD (rn aK ax op b c).1/\0<=(rn aK ax op b c).2/\(rn aK ax op b c).2<=6:=by
 have m: ∀p n back,iD (ji aK ax p n back).1/\0<=(ji aK ax p n back).2/\(ji aK ax p n back).2<=6:=fun p n back=>⟨SZ L p n back,Ce ..⟩;have one:iD (⟨0,1⟩:ac):=⟨⟨ai,ai⟩,ai⟩;unfold rn;split
 .exact⟨mo,ai⟩
 split
 .refine⟨?_,ai⟩;split
  .omega
  .exact mo
 split
 .exact VV e.2 h.2
 split
 .grind
 split
 .grind
 split
 .grind
 split
 .split
  .exact⟨mo,ai⟩
  .split
   .refine⟨?_,ai⟩;split
    .omega
    .exact mo
   .exact⟨Ib _,ai⟩
 .exact⟨mo,ai⟩
def qR:hu:=⟨0,0,0,0,0⟩
def v5(x:gc)(pc:Int)(bK:List ac):gc:=⟨x.im,bK,pc,x.ia,x.db,x.iw,x.dD,x.hw⟩
def lW(x:gc)(pc:Int)(bK:List ac)(iw:Int):gc:=⟨x.im,bK,pc,x.ia+1,x.db,iw,x.dD,x.hw⟩
def sy(x:gc):gc:=⟨2,x.bK,x.pc+1,x.ia,x.db,x.iw,x.dD,x.hw⟩
def ie(m:aN)(mem:aD)(t:Nat)(x:gc):aN:=⟨m.am,mem,m.ce.set t x⟩
def jo(x:gc)(a:Int):ac:=x.bK.getD a.toNat ⟨0,0⟩
def Bp(x:gc)(a:Int)(c:ac):List ac:=x.bK.set a.toNat c
def iR(p:g9)(m:aN)(x:gc)(i:hu):aD×gc×Int:=
 if i.op=23 then(m.gt,sy x,1)
 else if i.op=0 then(m.gt,v5 x (x.pc+1) x.bK, -1)
 else if i.op=1 then(m.gt,v5 x (x.pc+1) (Bp x i.a ⟨0,i.eA⟩), -1)
 else if i.op=2 then(m.gt,v5 x (x.pc+1) (Bp x i.a (jo x i.b)), -1)
 else if i.op=15 then(m.gt,v5 x (x.pc+1) (Bp x i.a ⟨1,nth m.am.aK i.eA.toNat⟩), -1)
 else if i.op=16 then
  if(ji m.am.aK p.ax (jo x i.b) i.eA false).2=0 then
   (dL m.gt (ji m.am.aK p.ax (jo x i.b) i.eA false).1.val.toNat,
    v5 x (x.pc+1) (Bp x i.a (nf m.gt (ji m.am.aK p.ax (jo x i.b) i.eA false).1.val.toNat)), -1)
  else(m.gt,fQ x (ji m.am.aK p.ax (jo x i.b) i.eA false).2,2)
 else if i.op=17 then
  if(ji m.am.aK p.ax (jo x i.a) i.eA false).2=0 then
   (ke m.gt (ji m.am.aK p.ax (jo x i.a) i.eA false).1.val.toNat (jo x i.b),v5 x (x.pc+1) x.bK, -1)
  else(m.gt,fQ x (ji m.am.aK p.ax (jo x i.a) i.eA false).2,2)
 else if i.op=18 then(m.gt,lW x i.eA x.bK x.iw, -1)
 else if i.op=19 then
  if(jo x i.a).gs=0 then(m.gt,lW x (if(jo x i.a).val=0 then i.eA else x.pc+1) x.bK x.iw, -1) else(m.gt,fQ x 3,2)
 else if i.op=20 then
  if(jo x i.a).gs=0 then(m.gt,lW x (if(jo x i.a).val=0 then x.pc+1 else i.eA) x.bK x.iw, -1) else(m.gt,fQ x 3,2)
 else if i.op=21 then(m.gt,lW x i.eA (Bp x i.a ⟨0,x.pc+1⟩) x.iw, -1)
 else if i.op=22 then
  if(jo x i.a).gs=0 then
   if 255<(jo x i.a).val then(m.gt,fQ x 2,2) else(m.gt,lW x (jo x i.a).val x.bK x.iw, -1)
  else(m.gt,fQ x 3,2)
 else if i.op=24 then
  if x.iw= -1 then(m.gt,fQ x 1,2) else(m.gt,lW x x.iw x.bK (-1), -1)
 else if(rn m.am.aK p.ax i.op (jo x i.b) (jo x i.c)).2=0 then
  (m.gt,v5 x (x.pc+1) (Bp x i.a (rn m.am.aK p.ax i.op (jo x i.b) (jo x i.c)).1), -1)
 else(m.gt,fQ x (rn m.am.aK p.ax i.op (jo x i.b) (jo x i.c)).2,2)
def mI(p:g9)(m:aN)(x:gc):aD×gc×Int:=
 if x.pc<p.hw.length then iR p m x (p.hw.getD x.pc.toNat qR) else(m.gt,fQ x 2,2)
def jM(p:g9)(m:aN)(t:Nat):aN×Int:=
 (ie m (mI p m (m.ce.getD t cT)).1 t (mI p m (m.ce.getD t cT)).2.1,(mI p m (m.ce.getD t cT)).2.2)
def gH(p:g9)(t:Nat)(u:Int):Nat->aN->aN×Int
 |0,m=>(m,0)
 |k+1,m=>if(jM p m t).2= -1 then
   if((jM p m t).1.ce.getD t cT).ia=u then((jM p m t).1,0) else gH p t u k (jM p m t).1
  else jM p m t
def dB(p:g9)(m:aN)(t:Nat)(n:Int):aN×Int:=
 if(m.ce.getD t cT).im=1 then gH p t ((m.ce.getD t cT).ia+n) 20000 m else(m,3)
structure oI (c:Int) (x:gc) (r:aD×gc×Int):Prop where
 mem:qo r.1
 lq:eS (c+1) r.2.1
 j':r.2.2= -1\/r.2.2=1\/r.2.2=2
 Pm:r.2.2= -1->r.2.1.im=x.im/\((r.2.1.ia=x.ia+1)\/(r.2.1.ia=x.ia/\r.2.1.pc=x.pc+1))
 calls:r.2.2=1->r.2.1=sy x
 aq5:r.2.2=2->r.2.1.im=4/\r.2.1.ia=x.ia
def R2(h:eS c x)(F:0<=pc/\pc<=255)(l:bK.length=8)(r:fq bK):eS (c+1) (v5 x pc bK):=
 ⟨h.im,l,r,F,⟨h.ia.1,by have:=h.ia.2;simp only[v5];omega⟩,h.db,h.iw,h.dD,h.hw⟩
def afk(h:eS c x)(F:0<=pc/\pc<=255)(l:bK.length=8)(r:fq bK)(s: -1<=iw/\iw<=255):eS (c+1) (lW x pc bK iw):=
 ⟨h.im,l,r,F,by have:=h.ia;simp only[lW];omega,h.db,s,h.dD,h.hw⟩
def afl(h:eS c x)(q:0<=w/\w<=6):eS (c+1) (fQ x w):=
 ⟨ga,h.bK,h.cells,h.pc,by have:=h.ia;simp only[fQ];omega,h.db,h.iw,q,ga⟩
def afm(h:eS c x)(F:x.pc<=254):eS (c+1) (sy x):=
 ⟨by simp[sy],h.bK,h.cells,by have:=h.pc;simp only[sy];omega,by have:=h.ia;simp only[sy];omega,h.db,h.iw,h.dD,h.hw⟩
def AX(h:eS c x){a:Int}{v:ac}(i:iD v):(Bp x a v).length=8/\fq (Bp x a v):=
 ⟨by simp[Bp,h.bK],h.cells.set i _⟩
def jq(h:eS c x)(a:Int):iD (jo x a):=h.cells.getD _
def vr(h:eS c x)(O:qo m)(F:x.pc<=254)(r:bK.length=8/\fq bK):oI c x (m,v5 x (x.pc+1) bK, -1):=
 ⟨O,R2 h (by have:=h.pc;omega) r.1 r.2,.inl rfl,fun _=>⟨rfl,.inr ⟨rfl,rfl⟩⟩,fun h=>aj,fun h=>aj⟩
def tE(h:eS c x)(O:qo m)(F:0<=pc/\pc<=255)(r:bK.length=8/\fq bK)(s: -1<=iw/\iw<=255):oI c x (m,lW x pc bK iw, -1):=
 ⟨O,afk h F r.1 r.2 s,.inl rfl,fun _=>⟨rfl,.inl rfl⟩,fun h=>aj,fun h=>aj⟩
def oT(h:eS c x)(O:qo m)(q:0<=w/\w<=6):oI c x (m,fQ x w,2):=
 ⟨O,afl h q,.inr (.inr rfl),fun h=>aj,fun h=>aj,fun _=>⟨rfl,rfl⟩⟩
def oU{l:Type}{P:l->Prop}{c:Prop}[Decidable c]{a b:l}(h1:c->P a)(h: ¬c->P b):P (if c then a else b):=aj
def VU{m:aN}(H:cJ p d m)(hx:eS c x){i:hu}(j:D9 p.hw.length p.ax.length i)(F:x.pc<p.hw.length):oI c x (iR p m x i):=by
 have q:=H.prog.qH;have n:x.pc<=254:=ab
 have O:=H.mem;have r:x.bK.length=8/\fq x.bK:=⟨hx.bK,hx.cells⟩;have b:=j.eA;refine oU (P:=oI c x) (fun k=> ?_) fun _=> ?_
 .exact⟨O,afm hx n,.inr (.inl rfl),fun h=>aj,fun _=>rfl,fun h=>aj⟩
 refine oU (P:=oI c x) (fun h=> ?_) fun _=> ?_
 .exact vr hx O n r
 refine oU (P:=oI c x) (fun h=> ?_) fun _=> ?_
 .exact vr hx O n (AX hx ⟨⟨ai,ai⟩,b⟩)
 refine oU (P:=oI c x) (fun h=> ?_) fun _=> ?_
 .exact vr hx O n (AX hx (jq hx _))
 refine oU (P:=oI c x) (fun L=> ?_) fun _=> ?_
 .refine vr hx O n (AX hx ⟨⟨ai,ai⟩,?_⟩);have G:=j.lea L;have l:=H.lay.len;have h1:i.eA.toNat<m.am.aK.length:=ab
  have K:i.eA.toNat<p.ax.length:=ab
  rw[dA h1];have:=H.lay.base _ h1 K;have:=H.lay.sz.elem _ K
  grind
 refine oU (P:=oI c x) (fun h=> ?_) fun _=> ?_
 .refine oU (P:=oI c x) (fun h0=> ?_) fun _=> ?_
  .obtain⟨a,e,W⟩:=pb H.lay h0;rw[e];exact vr hx (O.BX aj) n (AX hx (O.load aj))
  .exact oT hx O (Ce ..)
 refine oU (P:=oI c x) (fun h=> ?_) fun _=> ?_
 .refine oU (P:=oI c x) (fun h0=> ?_) fun _=> ?_
  .obtain⟨a,e,W⟩:=pb H.lay h0;rw[e];exact vr hx (O.store aj (jq hx _)) n r
  .exact oT hx O (Ce ..)
 refine oU (P:=oI c x) (fun o=> ?_) fun _=> ?_
 .have:=j.jump en;exact p2
 refine oU (P:=oI c x) (fun o=> ?_) fun _=> ?_
 .have:=j.jump en;have:=hx.pc;refine oU (P:=oI c x) (fun h=> ?_) fun _=> ?_
  .exact p2
  .exact oT hx O ab
 refine oU (P:=oI c x) (fun o=> ?_) fun _=> ?_
 .have:=j.jump en;have:=hx.pc;refine oU (P:=oI c x) (fun h=> ?_) fun _=> ?_
  .exact p2
  .exact oT hx O ab
 refine oU (P:=oI c x) (fun o=> ?_) fun _=> ?_
 .have:=j.jump en;have:=hx.pc;exact tE hx O ab (AX hx ⟨⟨ai,ai⟩,aj⟩) hx.iw
 refine oU (P:=oI c x) (fun o=> ?_) fun _=> ?_
 .refine oU (P:=oI c x) (fun h=> ?_) fun _=> ?_
  .refine oU (P:=oI c x) (fun h=> ?_) fun _=> ?_
   .exact oT hx O ab
   .have:=(jq hx i.a).2;exact p2
  .exact oT hx O ab
 refine oU (P:=oI c x) (fun o=> ?_) fun _=> ?_
 .refine oU (P:=oI c x) (fun h=> ?_) fun _=> ?_
  .exact oT hx O ab
  .have:=hx.iw;exact tE hx O ab r ab
 refine oU (P:=oI c x) (fun o=> ?_) fun _=> ?_
 .exact vr hx O n (AX hx (IA H.lay (jq hx _) (jq hx _)).1)
 .exact oT hx O (IA H.lay (jq hx _) (jq hx _)).2
def xy{m:aN}(H:cJ p d m)(hx:eS c x):oI c x (mI p m x):=by
 unfold mI;split
 .rename_i h;have k:x.pc.toNat<p.hw.length:=by have:=hx.pc;omega
  have e:p.hw.getD x.pc.toNat qR=p.hw[x.pc.toNat]:=gi
  rw[e];exact VU H hx (H.prog.wS k) h
 .exact oT hx H.mem ab
def Z'{m:aN}(h:t<m.ce.length):m.ce.getD t cT=m.ce[t]:=aj
def Z_{m:aN}(H:cJ p d m)(C:yC (FJ m.am.aK p.ax) m.gt)(x:gc)(i:hu):yC (FJ m.am.aK p.ax) (iR p m x i).1:=by
 have f: ∀c:ac,(ji m.am.aK p.ax c i.eA false).2=0->(ji m.am.aK p.ax c i.eA false).1.val.toNat<512/\ ¬FJ m.am.aK p.ax (ji m.am.aK p.ax c i.eA false).1.val.toNat:=fun c h=>by
  obtain⟨a,e,W⟩:=pb H.lay h;have r:=Xz H.lay h;rw[e]at r⊢;simp only[X7]at r⊢;exact⟨W,fun g=>by unfold FJ at g<;>grind⟩
 unfold iR;repeat' (refine oU (P:=fun r:aD×gc×Int=>yC (FJ m.am.aK p.ax) r.1) (fun h=> ?_) fun h=> ?_)
 all_goals first
  |exact C
  |exact AW H.mem.mem C (f _ h).1
  |exact rM H.mem.mem C (f _ h).1 (f _ h).2 _
def XA{m:aN}(H:cJ p d m)(h:yC (FJ m.am.aK p.ax) m.gt)(x:gc):yC (FJ m.am.aK p.ax) (mI p m x).1:=by
 unfold mI;split
 .exact Z_ H h x _
 omega
def pG{m:aN}(H:cJ p c m)(h:c<=d)(O:qo mem)(k:d<=1000000->yC (FJ m.am.aK p.ax) mem)(hx:eS d x):cJ p d (ie m mem t x):=by
 refine⟨H.prog,H.lay,H.key,O,by simp[ie,H.len],fun i j=> ?_,k⟩;simp only[ie,rm]at j;simp only[ie,r6];split
 .omega
 .exact(H.lq i j).mono h
end Go.Proofs.YtdngefmliibcgaaGreat
