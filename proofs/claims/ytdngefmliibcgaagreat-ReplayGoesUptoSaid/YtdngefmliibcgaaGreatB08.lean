import Derived.Test.YtdngefmliibcgaaGreatB05
import Derived.Test.YtdngefmliibcgaaGreatB07
set_option linter.all false
set_option maxRecDepth 20000
set_option maxHeartbeats 0
namespace Go.Proofs.YtdngefmliibcgaaGreat
open Go Go.Abs Go.Abs.jJ Qf
variable  {x x':gc}{mem XE:aD}{c n s key:Int}{p:g9}{i:hu}{o:dw}{g:FuncId}{ts:List gc}{l aK ax:List Int}{f:cn}{r:io}
def VP(h:bI)(k b C L T:Nat)(ids bH:Nat->Nat)(vB:V)(bs:List Int):Prop:=
 vB= .sl false (bs.map (V.int .i64))\/ ∃B,vB= .cX B 0 bs.length/\h B=some ⟨1,bs.map (V.int .i64),false⟩/\(B≠b/\B≠C/\B≠L/\B≠T/\B<k)/\(∀j,j<4->ids j≠B)/\ ∀i,i<4->bH i≠B
structure dQ (h:bI) (k b:Nat) (vB:V) (C L T:Nat) (ids bH:Nat->Nat) (m:aN):Prop where
 mem:kV h k b C L ids vB (.int .u16 m.am.key) (.cX T 0 m.ce.length) m.gt
 aK:VP h k b C L T ids bH vB m.am.aK
 lq:h T=some ⟨8,dn bH m.ce,true⟩
 Ad: ∀i (g:i<m.ce.length),h (bH i)=some ⟨2,(m.ce[i]).bK.map ac.e,false⟩
 len:m.ce.length=4
 yG:T≠b/\T≠C/\T≠L/\T<k
 afp: ∀j,j<4->ids j≠T
 mL: ∀i,i<4->bH i≠b/\bH i≠C/\bH i≠L/\bH i≠T/\bH i<k
 aq6: ∀i j,i<4->j<4->ids j≠bH i
 BG: ∀i j,i<4->j<4->i≠j->bH i≠bH j
section
variable {h h':bI} {k k' b C L T:Nat} {vB:V} {ids gK bH:Nat->Nat} {m:aN}
theorem dQ.mono(H:dQ h k b vB C L T ids bH m)(y:k<=k')(a: ∀i,i<k->h' i=h i):dQ h' k' b vB C L T ids bH m:=by
 obtain⟨h1,K,S,c,h0,q,z,G,O,I⟩:=H;refine⟨h1.mono y a,?_,aj,fun i g=>aj,h0,⟨q.1,q.2.1,q.2.2.1,ab⟩,z,
  fun i j=>aj,O,I⟩
 rcases K with e|⟨B,e,v,D,M,U⟩
 .exact .inl e
 .exact .inr ⟨B,e,aj,ab,M,U⟩
theorem dQ.put (H:dQ h k b vB C L T ids bH m) (z:k<=k') {t:Nat} (U:t<4)  (X:h' T=some ⟨8,dn bH (m.ce.set t x),true⟩) (R:h' (bH t)=some ⟨2,x.bK.map ac.e,false⟩)
  (a: ∀i,i<k->i≠T->i≠bH t->h' i=h i):dQ h' k' b vB C L T ids bH (ie m m.gt t x):=by
 obtain⟨h1,K,Y,c,h0,q,y,G,O,I⟩:=H;obtain⟨W,l,s,A,J⟩:=G t U;have S:=h1.lt;refine⟨?_,?_,X,fun i g=> ?_,by simp[ie,h0],⟨q.1,q.2.1,q.2.2.1,ab⟩,y,fun i n=>aj,O,I⟩
 .have e:(ie m m.gt t x).ce.length=m.ce.length:=by simp[ie]
  rw[e];exact h1.eP z (a _ S.1 (ls q.1) (ls W)) (a _ S.2.1 (ls q.2.1) (ls l)) (a _ S.2.2.1 (ls q.2.2.1) (ls s)) fun j r=>a _ (S.2.2.2 j r) (y j r) (O t j U r)
 .rcases K with e|⟨B,e,v,D,M,V⟩
  .exact .inl e
  .exact .inr ⟨B,e,by rw[a _ D.2.2.2.2 D.2.2.2.1 (ls (V t U)),v];rfl,ab,M,V⟩
 .simp only[ie,rm]at g;simp only[ie,r6]<;>grind
theorem dQ.gt (H:dQ h k b vB C L T ids bH m) (y:k<=k')  (M:kV h' k' b C L gK vB (.int .u16 m.am.key) (.cX T 0 m.ce.length) mem)
  (l: ∀j,j<4->gK j=ids j\/k<=gK j) (a: ∀i,i<k->i≠C->i≠L->(∀j,j<4->i≠ids j)->h' i=h i):dQ h' k' b vB C L T gK bH ⟨m.am,mem,m.ce⟩:=by
 obtain⟨h1,K,S,c,h0,r,z,G,O,I⟩:=H;refine⟨M,?_,?_,fun i g=> ?_,h0,⟨r.1,r.2.1,r.2.2.1,ab⟩,fun j q=> ?_,fun i l=>aj,fun i j d q=> ?_,I⟩
 .rcases K with e|⟨B,e,v,D,N,U⟩
  .exact .inl e
  .refine .inr ⟨B,e,by rw[a _ D.2.2.2.2 D.2.1 D.2.2.1 fun j q=>ls (N j q),v],ab,fun j q=> ?_,U⟩<;>grind
 .grind
 .grind
 .grind
 grind
structure gA (h:bI) (k:Nat) (vB:V) (C L T:Nat) (ids bH:Nat->Nat) (m:aN):Prop where
 mp:su m.gt
 mem:OZ h C L ids m.gt
 sep:SR C L ids
 lt:C<k/\L<k/\ ∀i,i<4->ids i<k
 aK:vB= .sl false (m.am.aK.map (V.int .i64))\/ ∃B,vB= .cX B 0 m.am.aK.length/\h B=some ⟨1,m.am.aK.map (V.int .i64),false⟩/\(B≠C/\B≠L/\B≠T/\B<k)/\(∀j,j<4->ids j≠B)/\ ∀i,i<4->bH i≠B
 lq:h T=some ⟨8,dn bH m.ce,true⟩
 Ad: ∀i (g:i<m.ce.length),h (bH i)=some ⟨2,(m.ce[i]).bK.map ac.e,false⟩
 len:m.ce.length=4
 yG:T≠C/\T≠L/\T<k
 afp: ∀j,j<4->ids j≠T
 mL: ∀i,i<4->bH i≠C/\bH i≠L/\bH i≠T/\bH i<k
 aq6: ∀i j,i<4->j<4->ids j≠bH i
 BG: ∀i j,i<4->j<4->i≠j->bH i≠bH j
def iF(vB:V)(C L T:Nat)(m:aN):V:= (rB vB m.am.key (.cX C 0 512) (.cX L 0 4) (.cX T 0 m.ce.length):V)
theorem fI(vB:V)(C L T:Nat)(m:aN):(iF vB C L T m).cells=[vB,.int .u16 m.am.key,.cX C 0 512,.cX L 0 4,.cX T 0 m.ce.length]:=rfl
theorem gM(vB:V)(C L T:Nat)(m:aN):(iF vB C L T m).fits 5=true:=rfl
def nH(k:Nat)(vB:V)(C L T:Nat)(ids bH:Nat->Nat):Prop:=(k<=C/\k<=L/\k<=T)/\(∀j,j<4->k<=ids j/\k<=bH j)/\ ∀B s n,vB= .cX B s n->k<=B
theorem gA.mono(H:gA h k vB C L T ids bH m){a:Nat}(A:nH a vB C L T ids bH)(z:k<=k')(b: ∀i,a<=i->i<k->h' i=h i):gA h' k' vB C L T ids bH m:=by
 obtain⟨h0,h1,K,S,c,l,q,y,P,B,U,O,t⟩:=H;obtain⟨⟨u,N,Z⟩,I,n⟩:=A;refine⟨h0,⟨by rw[b _ u S.1,h1.cells],by rw[b _ N S.2.1,h1.ge],fun i g=> ?_⟩,K,⟨ab,ab,fun i j=>aj⟩,?_,aj,fun i g=> ?_,y,ab,B,fun i j=>aj,O,t⟩
 .have j:i<4:=by have:=h0.ge;omega
  rw[b _ (I i j).1 (S.2.2 i j),h1.line i g]
 .grind
 grind
theorem gA.box(H:gA h k vB C L T ids bH m)(f:b<k->(∀B s n,vB= .cX B s n->b≠B)/\b≠C/\b≠L/\b≠T/\ ∀j,j<4->b≠ids j/\b≠bH j)(y:b<k')(W:k<=k')(p:h' b=some ⟨5,[iF vB C L T m],true⟩)(a: ∀i,i<k->i≠b->h' i=h i):dQ h' k' b vB C L T ids bH m:=by
 obtain⟨h0,h1,K,S,c,u,r,z,O,P,V,J,t⟩:=H;have o:C≠b:=fun e=>ab
 have A:L≠b:=fun e=>ab
 have M:T≠b:=fun e=>ab
 have I: ∀j,j<4->ids j≠b:=fun j q e=>aj
 have R: ∀j,j<4->bH j≠b:=fun j q e=>aj
 refine⟨⟨p,⟨by rw[a _ S.1 o,h1.cells],by rw[a _ S.2.1 A,h1.ge],fun i g=> ?_⟩,K,⟨ls A,ls o⟩,I,⟨y,ab,ab,fun i l=>aj⟩,h0⟩,?_,?_,fun i g=> ?_,z,⟨M,O.1,O.2.1,ab⟩,P,fun i l=> ?_,J,t⟩
 .have l:i<4:=by have:=h0.ge;omega
  rw[a _ (S.2.2 i l) (I i l),h1.line i g]
 .rcases c with e|⟨B,e,v,D,N,U⟩
  .exact .inl e
  .have Y:B≠b:=fun w=>aj
   exact .inr ⟨B,e,aj,⟨Y,D.1,D.2.1,D.2.2.1,ab⟩,N,U⟩
 .grind
 .grind
 grind
theorem dQ.at(H:dQ h k b vB C L T ids bH m):gA h k vB C L T ids bH m:=by
 obtain⟨h1,K,S,a,h0,q,y,G,O,I⟩:=H;refine⟨h1.mem,h1.at_,h1.sep,h1.lt.2,?_,S,a,h0,⟨q.2.1,q.2.2.1,q.2.2.2⟩,y,fun i j=>(G i j).2,O,I⟩;rcases K with e|⟨B,e,v,D,M,g⟩<;>grind
theorem dQ.uG(H:dQ h k b vB C L T ids bH m):h b=some ⟨5,[iF vB C L T m],true⟩:=H.mem.box
theorem mq{m:Type}{g:V->Option V}{e:m->V}: ∀(l:List m) (f:Nat->m->V) (h: ∀i (k:i<l.length),g (f i l[i])=some (e l[i])),di ((l.mapIdx f).map g)=some (l.map e):=by
 intro l;induction l with
 |nil=>simp_all
 |cons a l j=>
  intro f h;have h0:=h 0 ai;have:=j (fun i=>f (i+1)) fun i k=>h (i+1) aj
  simp_all
theorem gA.Gc(H:gA h k vB C L T ids bH m){hx:bI}(S: ∀i,i<4->hx (bH i)=h (bH i))(d:Nat):di ((dn bH m.ce).map (da hx (d+2)))=some (m.ce.map gc.e):=by
 refine mq _ _ fun i j=> ?_;have l:=H.len;have:=H.Ad i j;rw[<-S i ab]at this;simp[dY,da,di,this,gc.cN]
theorem gA.AY(H:gA h k vB C L T ids bH m){hx:bI}(S: ∀i,i<4->hx (ids i)=h (ids i))(d:Nat):di ((gh ids m.gt.ge).map (da hx (d+2)))=some (m.gt.ge.map cP.e):=by
 refine mq _ _ fun i j=> ?_;have l:=H.mp.ge;have:=H.mem.line i j;rw[<-S i ab]at this;simp[KM,da,di,this,cP.cN]
def kW(m:aN):List V:=[.sl false (m.am.aK.map (V.int .i64)),.int .u16 m.am.key,.sl false (m.gt.cells.map ac.e),.sl false (m.gt.ge.map cP.e),.sl false (m.ce.map gc.e)]
theorem yH(m:aN):ft (kW m)=kW m:=by
 simp[kW,V.l6,ft]
theorem gA.eA(H:gA h k vB C L T ids bH m)(d:Nat):da h (d+6) (iF vB C L T m)=some (.agg (kW m)):=by
 have j:=H.Gc (hx:=h) (fun _ _=>rfl) (d+2);have p:=H.AY (hx:=h) (fun _ _=>rfl) (d+2);have G:=H.mp.ge;have c:=H.mp.len;have f:=eX bH m.ce;have l:=j9 ids m.gt.ge;have i:(dn bH m.ce).take m.ce.length=dn bH m.ce:=bQ ab;have q:(gh ids m.gt.ge).take 4=gh ids m.gt.ge:=bQ ab;have t:(m.gt.cells.map ac.e).take 512=m.gt.cells.map ac.e:=bQ aj;rcases H.aK with e|⟨B,e,g,D,M,U⟩
 .simp[iF,kW,da,di,e,H.mem.cells,H.mem.ge,H.lq,f,l,G,c,i,q,t,j,p]
 .simp[iF,kW,da,di,e,g,H.mem.cells,H.mem.ge,H.lq,f,l,G,c,i,q,t,j,p]
end
def eS.self(h:eS c x):eS x.ia x:=by
 obtain⟨h1,K,S,a,i,q,y,G,O⟩:=h;exact⟨h1,K,S,a,⟨i.1,tg _⟩,q,y,G,O⟩
def bO(m:aN)(t:Nat):gc:=m.ce.getD t cT
def eL{m:aN}{t:Nat}(h:t<m.ce.length):bO m t=m.ce[t]:=Z' h
def cJ.bO{p:g9}{c:Int}{m:aN}(h:cJ p c m){t:Nat}(S:t<4):eS c (bO m t):=by
 have l:t<m.ce.length:=by rw[h.len];exact S
 rw[eL l];exact h.lq t l
def XB{m:aN}{t:Nat}(h:t<m.ce.length):bO (ie m mem t x) t=x:=by
 rw[eL (by simpa[ie] using h)];simp[ie]
def uR(p:g9)(m:aN)(t:Nat):jM p m t=(ie m (mI p m (bO m t)).1 t (mI p m (bO m t)).2.1,(mI p m (bO m t)).2.2):=rfl
def xz{m:aN}(H:cJ p c m){t:Nat}(h:t<4):bO (jM p m t).1 t=(mI p m (bO m t)).2.1:=by
 exact XB (by rw[H.len];omega)
def AZ{m:aN}(H:cJ p c m){t:Nat}(S:t<4)(n:(bO m t).ia+1<=c):cJ p c (jM p m t).1:=by
 have h1:=H.bO S;have h:=xy H h1.self;exact pG H (tg _) h.mem (fun g=>XA H (H.Ia g) _) (h.lq.mono ab)
def Ae(u:Int)(x:gc):Int:=(u-x.ia)*300+(256-x.pc)
def A0{m:aN}(H:cJ p c m){t:Nat}(h:t<4)(g:(jM p m t).2= -1)(u:Int):
  Ae u (bO (jM p m t).1 t)+1<=Ae u (bO m t)/\(bO (jM p m t).1 t).im=(bO m t).im/\(bO m t).ia<=(bO (jM p m t).1 t).ia/\(bO (jM p m t).1 t).ia<=(bO m t).ia+1:=by
 have h1:=H.bO h;have K:=xy H h1;rw[xz H h];have S:=K.Pm g;have a:=K.lq.pc;have i:=h1.pc;unfold Ae<;>grind
def XC{m:aN}(O: ¬i.op=23): ¬(iR p m x i).2.2=1:=by
 unfold iR;rw[if_neg O];repeat' (refine oU (P:=fun r:aD×gc×Int=> ¬r.2.2=1) (fun _=> ?_) fun _=> ?_)
 all_goals simp
def S6{m:aN}(h:(mI p m x).2.2=1):x.pc<p.hw.length/\(p.hw.getD x.pc.toNat qR).op=23/\(mI p m x).2.1=sy x/\(mI p m x).1=m.gt:=by
 unfold mI at h⊢;split at h
 case isFalse=>grind
 rename_i n;rw[if_pos n];obtain⟨i,j⟩:=x_ (p.hw.getD x.pc.toNat qR);rw[j]at h⊢;by_cases O:i.op=23
 .unfold iR<;>grind
 .exfalso;exact XC O h
structure wT (p:g9) (d:Int) (t:Nat) (r:aN×Int):Prop where
 ny:cJ p d r.1
 j':r.2=0\/r.2=1\/r.2=2
 calls:r.2=1->(bO r.1 t).im=2/\1<=(bO r.1 t).pc/\(bO r.1 t).pc<=p.hw.length/\(kq p.hw (bO r.1 t).pc).op=23
 aq5:r.2=2->(bO r.1 t).im=4
 Pm:r.2=0->(bO r.1 t).im=1
def Ie{p:g9}{d u:Int}{t:Nat}(S:t<4)(v:u<=d): ∀(k:Nat) (m:aN),cJ p d m->(bO m t).ia<u->(bO m t).im=1->wT p d t (gH p t u k m)
 |0,m,H,c,s=>⟨H,.inl rfl,fun h=>by simp[gH]at h,fun h=>by simp[gH]at h,fun _=>s⟩
 |k+1,m,H,c,s=>by
  have h1:=AZ H S ab;unfold gH;split
  .rename_i g;have L:=A0 H S g u;split
   .exact⟨h1,.inl rfl,fun h=>ab,fun h=>ab,fun _=>L.2.1.trans s⟩
   .rename_i K;have K: ¬(bO (jM p m t).1 t).ia=u:=K;exact Ie S v k _ h1 ab ab
  .have T:=xy H (H.bO S);have e:(jM p m t).2=(mI p m (bO m t)).2.2:=rfl;have w:=T.j';refine⟨h1,ab,fun r=> ?_,fun a=> ?_,fun h0=>ab⟩
   .rw[xz H S];obtain⟨U,b,j,x⟩:=S6 (e▸r);have F:=(H.bO S).pc;rw[j];refine⟨rfl,by simp only[sy];omega,by simp only[sy];omega,?_⟩;unfold kq;simp only[sy]<;>grind
   .rw[xz H S];exact(T.aq5 (e▸a)).1
def tF{m:aN}(H:cJ p c m){t:Nat}(h:t<4)(W:1<=n)(s:(bO m t).im=1):wT p (c+n) t (dB p m t n):=by
 have e:m.ce.getD t cT=bO m t:=rfl;unfold dB;rw[e,if_pos s];have:=(H.bO h).ia;exact Ie h ab _ _ (H.mono ab) ab s
def rp(ids:Nat->Nat)(i:Nat)(x:gc)(pc:Int)(bK:List ac):dY ids i (v5 x pc bK)= (ro x.im (.cX (ids i) 0 bK.length) pc x.ia x.db x.iw x.dD x.hw:V):=rfl
def iq(ids:Nat->Nat)(i:Nat)(x:gc)(pc:Int)(bK:List ac)(s:Int):dY ids i (lW x pc bK s)= (ro x.im (.cX (ids i) 0 bK.length) pc (x.ia+1) x.db s x.dD x.hw:V):=rfl
def C8(ids:Nat->Nat)(i:Nat)(x:gc):dY ids i (sy x)= (ro 2 (.cX (ids i) 0 x.bK.length) (x.pc+1) x.ia x.db x.iw x.dD x.hw:V):=rfl
def jW(ids:Nat->Nat)(i:Nat)(x:gc)(w:Int):dY ids i (fQ x w)= (ro 4 (.cX (ids i) 0 x.bK.length) x.pc x.ia x.db x.iw w 0:V):=rfl
def xA(x:gc)(pc:Int)(bK:List ac):(v5 x pc bK).bK=bK:=rfl
def jE(x:gc)(pc:Int)(bK:List ac)(s:Int):(lW x pc bK s).bK=bK:=rfl
def Ig(x:gc):(sy x).bK=x.bK:=rfl
def nz(x:gc)(w:Int):(fQ x w).bK=x.bK:=rfl
def pe(x:gc)(a:Nat)(c:ac):Bp x a c=x.bK.set a c:=by simp[Bp]
def mT{a:Nat}(h:a<x.bK.length):jo x a=x.bK[a]:=by simp[jo,List.getD,h]
def FK(h:bI)(k a b:Nat)(h':bI):Prop:= ∀i,i<k->i≠a->i≠b->h' i=h i
@[simp]def ayh(h:bI)(k a b:Nat):FK h k a b h=True:=eq_true fun _ _ _ _=>rfl
def Gd{h:bI}{k a b c:Nat}{h':bI}{o:Option Ob}(g: ¬c<k\/c=a\/c=b):FK h k a b (bB h' c o)=FK h k a b h':=by
 apply propext;constructor<;>intro f i j h1 K<;>have:=f i j h1 K<;>have e: ¬i=c:=ab<;>simpa[bB,e] using this
@[simp]def ba0(h:bI)(k a b j:Nat)(h':bI)(o:Option Ob):FK h k a b (bB h' (k+j) o)=FK h k a b h':=Gd ab
@[simp]def ba1(h:bI)(k a b:Nat)(h':bI)(o:Option Ob):FK h k a b (bB h' k o)=FK h k a b h':=Gd ab
@[simp]def ba2(h:bI)(k a b:Nat)(h':bI)(o:Option Ob):FK h k a b (bB h' a o)=FK h k a b h':=Gd ab
@[simp]def ba3(h:bI)(k a b:Nat)(h':bI)(o:Option Ob):FK h k a b (bB h' b o)=FK h k a b h':=Gd ab
def XD(h:bI)(k T:Nat)(bH:Nat->Nat)(t:Nat)(ts:List gc)(x':gc)(s:Int)(v:V)(h':bI)(k':Nat):Prop:=
 v= .int .i64 s/\h' T=some ⟨8,(dn bH ts).set t (dY bH t x'),true⟩/\h' (bH t)=some ⟨2,x'.bK.map ac.e,false⟩/\k<=k'/\ ∀i,i<k->i≠T->i≠bH t->h' i=h i
def fU(h:bI)(k T:Nat)(bH:Nat->Nat)(t:Nat)(ts:List gc)(x':gc)(s:Int)(v:V)(h':bI)(k':Nat):XD h k T bH t ts x' s v h' k'=
 (v= .int .i64 s/\h' T=some ⟨8,(dn bH ts).set t (dY bH t x'),true⟩/\h' (bH t)=some ⟨2,x'.bK.map ac.e,false⟩/\k<=k'/\FK h k T (bH t) h'):=rfl
def ig(r:Option (V×bI×Nat))(p:g9)(h:bI)(k b:Nat)(vB:V)(C L T:Nat)(ids bH:Nat->Nat)(m:aN)(t:Nat):Prop:= ∃h' k' g,r=some (.int .i64 (jM p m t).2,h',k')/\dQ h' k' b vB C L T g bH (jM p m t).1/\k<=k'/\(∀j,j<4->g j=ids j\/k<=g j)/\
 ∀i,i<k->i≠C->i≠L->(∀j,j<4->i≠ids j)->i≠T->i≠bH t->h' i=h i
def ig.of {r:Option (V×bI×Nat)}  {h:bI} {k b C L T:Nat} {vB:V} {ids bH:Nat->Nat} {m:aN} {t:Nat} (H:dQ h k b vB C L T ids bH m) (S:t<4) (x':gc) (s:Int) (K:mI p m (bO m t)=(m.gt,x',s))
  (E: ∃v h' n',r=some (v,h',n')/\XD h k T bH t m.ce x' s v h' n'):ig r p h k b vB C L T ids bH m t:=by
 obtain⟨v,h',n',e,rfl,D,M,U,g⟩:=E;have u:t<m.ce.length:=cj
 have l:jM p m t=(ie m m.gt t x',s):=by rw[uR,K]
 rw[gq u]at D;unfold ig;rw[l];exact⟨h',n',ids,e,H.put U S D M g,U,fun _ _=> .inl rfl,fun i j _ _ _ J n=>g i j J n⟩
def ig.HB {r:Option (V×bI×Nat)}  {h h1:bI} {k k1 b C L T:Nat} {vB:V} {ids g bH:Nat->Nat} {m:aN} {t:Nat} (H:dQ h k b vB C L T ids bH m) (S:t<4)  (y:dQ h1 k1 b vB C L T g bH ⟨m.am,XE,m.ce⟩) (z:k<=k1) (f: ∀j,j<4->g j=ids j\/k<=g j)
  (w: ∀i,i<k->i≠C->i≠L->(∀j,j<4->i≠ids j)->h1 i=h i) (x':gc) (s:Int) (K:mI p m (bO m t)=(XE,x',s))
  (E: ∃v h' n',r=some (v,h',n')/\XD h1 k1 T bH t m.ce x' s v h' n'):ig r p h k b vB C L T ids bH m t:=by
 obtain⟨v,h',n',e,rfl,D,M,U,c⟩:=E;have u:t<m.ce.length:=cj
 have x:jM p m t=(ie m XE t x',s):=by rw[uR,K]
 rw[gq u]at D;unfold ig;rw[x];exact⟨h',n',g,e,y.put U S D M c,ab,f,fun i o N q l J n=>by rw[c i ab J n,w i o N q l]⟩
def Ih{m:aN}{n:Nat}(W:x.pc=n)(h:n<p.hw.length)(j:p.hw[n]=i):mI p m x=iR p m x i:=by
 unfold mI;rw[if_pos ab,W,X7];simp[List.getD,h,j]
def KR{m:aN}(h: ¬x.pc<p.hw.length):mI p m x=(m.gt,fQ x 2,2):=by
 unfold mI;rw[if_neg h]
noncomputable def cH(g:FuncId)(args:List V)(h:bI)(k:Nat):bI:=match df X g args h k with|some (_,h',_)=>h'|none=>h
noncomputable def cK(g:FuncId)(args:List V)(h:bI)(k:Nat):Nat:=match df X g args h k with|some (_,_,n)=>n|none=>k
def wi{args:List V}{h h':bI}{k k':Nat}{v:V}(e:df X g args h k=some (v,h',k')):cH g args h k=h'/\cK g args h k=k':=by
 unfold cH cK;rw[e];exact⟨rfl,rfl⟩
def Below(k:Nat)(h h1:bI):Prop:= ∀i,i<k->h1 i=h i
@[simp]def cx(k:Nat)(h:bI):Below k h h=True:=eq_true fun _ _=>rfl
@[simp]def cE(k j:Nat)(h h1:bI)(v:Option Ob):Below k h (bB h1 (k+j) v)=Below k h h1:=by
 apply propext;constructor<;>intro g i l
 .have:=g i l;rwa[bB,if_neg ab]at this
 .rw[bB,if_neg ab];exact g i l
@[simp]def cU(k:Nat)(h h1:bI)(v:Option Ob):Below k h (bB h1 k v)=Below k h h1:=cE k 0 h h1 v
def EZ(h:bI)(k T:Nat)(bH:Nat->Nat)(t:Nat)(ts:List gc)(g:FuncId)(args:List V)(x':gc)(s:Int)(v:V)(h':bI)(k':Nat):Prop:=
 ∃h1 j,Below k h h1/\XD (cH g args h1 (k+j)) (cK g args h1 (k+j)) T bH t ts x' s v h' k'
def Z7{h h1:bI}{k T:Nat}{bH:Nat->Nat}{t:Nat}{args:List V}{j n:Nat}{E R:List V}(B:Below k h h1)(K:bH t≠T)(H:E=(dn bH ts).set t (dY bH t x'))(G:R=x'.bK.map ac.e):
  EZ h k T bH t ts g args x' s (.int .i64 s) (bB (bB (cH g args h1 (k+j)) (bH t) (some ⟨2,R,false⟩)) T (some ⟨8,E,true⟩)) (cK g args h1 (k+j)+n):=
 ⟨h1,j,B,rfl,by rw[H];simp[bB],by rw[G];simp[bB,K],ab,fun i _ h1 L=>by simp[bB,h1,L]⟩
def Z5{h h1:bI}{k T:Nat}{bH:Nat->Nat}{t:Nat}{args:List V}{j n:Nat}{E:List V}(B:Below k h h1)(K:bH t≠T)(G:E=(dn bH ts).set t (dY bH t x'))(R:cH g args h1 (k+j) (bH t)=some ⟨2,x'.bK.map ac.e,false⟩):
  EZ h k T bH t ts g args x' s (.int .i64 s) (bB (cH g args h1 (k+j)) T (some ⟨8,E,true⟩)) (cK g args h1 (k+j)+n):=
 ⟨h1,j,B,rfl,by rw[G];simp[bB],by simp[bB,K,R],ab,fun i _ h1 L=>by simp[bB,h1]⟩
def yN(c:fd):Prop:=0<=c.val/\c.val<=65535
def fg(l:List fd):Prop:= ∀c∈l,yN c
def fg.nil:fg []:=fun _ h=>bF
def fg.append{a b:List fd}(W:fg a)(e:fg b):fg (a++b):=fun c m=>by
 rcases List.mem_append.1 m with h|h
 .exact W c h
 .exact e c h
def fg.take{l:List fd}(h:fg l)(n:Nat):fg (l.take n):=fun c m=>h c (sw m)
def fg.drop{l:List fd}(h:fg l)(n:Nat):fg (l.drop n):=fun c m=>h c (t_ m)
def fg.A'(h: ∀x∈l,0<=x/\x<=65535):fg (l.map Ag):=fun c m=>by
 obtain⟨x,hx,rfl⟩:=List.mem_map.1 m;exact h x hx
def mu{x:fd}(hx:yN x):iD (raw aK key ax x).1:=by
 unfold raw;split
 .exact mo
 split
 .exact⟨⟨ai,ai⟩,hx⟩
 split
 .exact⟨⟨ai,ai⟩,nY _⟩
 .exact⟨⟨ai,ai⟩,nY _⟩
def UP{c:ac}(h:iD c):yN (canon aK key ax c):=by
 unfold canon;split
 .exact h.2
 split
 .exact nY _
 split
 .exact⟨ai,ai⟩
 .exact⟨ai,ai⟩
def qq(f:cn):Prop:= ∀d∈f.ap,fg d
def qq.at(h:qq f){i:Nat}(j:i<f.ap.length):fg f.ap[i]:=h _ (rx j)
def qq.set{f:cn}(h:qq f){d:List fd}(u:fg d)(k:Nat)(o:List fR):qq ⟨f.ap.set k d,o⟩:=fun x hx=>by
 rcases vb hx with hx|rfl
 .exact h x hx
 omega
def Vu(h:qq f)(iE m:Int):qq (pH f iE m).1:=by
 unfold pH;split
 .exact h
 .unfold xH;split
  .exact h.set .nil _ _
  .exact h
def af6(h:qq f)(k:Int):qq (sC f k).1:=by
 unfold sC;split
 .exact h
 omega
def Vt(h:qq f)(k o:Int):qq (s7 f k o).1:=by
 unfold s7;split
 .split
  .exact h
  omega
 omega
def U'(K:jT f)(h:qq f)(k n:Int):qq (oJ f k n).1/\fg (oJ f k n).2.1:=by
 unfold oJ;split
 .rename_i c;obtain⟨i,rfl,l,j,q,m,e,x,F,N⟩:=rQ K c.1;refine⟨h,?_⟩;rw[e];exact((h.at q).drop _).take _
 .exact⟨h,.nil⟩
def af7(K:jT f)(h:qq f)(k:Int){l:List fd}(G:fg l):qq (nZ f k l).1:=by
 unfold nZ;split
 .rename_i c;obtain⟨i,rfl,m,j,q,n,e,x,F,N⟩:=rQ K c.1;refine h.set ?_ _ _;rw[e];exact(((h.at q).take _).append (G.take _)).append ((h.at q).drop _)
 omega
def XQ(h:jT f)(k:Int):jT (sC f k).1:=by
 unfold sC;split
 .exact Dd h _ (.inl ⟨rfl,rfl,rfl⟩)
 omega
structure a3h (o:dw):Prop where
 input: ∀d∈o.dK,∀x∈d,0<=x/\x<=65535
 iG:qq o.iG
def af8{Y:List (List Int)}(h1:Y.length<=2)(K: ∀i (h:i<Y.length),(Y[i]).length<=64)(S: ∀d∈Y,∀x∈d,0<=x/\x<=65535)(s n:Int):
  (oq Y s n).1.length<=2/\(∀i (h:i<(oq Y s n).1.length),((oq Y s n).1[i]).length<=64)/\(∀d∈ (oq Y s n).1,∀x∈d,0<=x/\x<=65535)/\fg (oq Y s n).2.1/\(oq Y s n).2.1.length<=64:=by
 unfold oq;split
 .exact⟨h1,K,S,.nil,ai⟩
 .have k:s.toNat<Y.length:=ab
  have e:Y.getD s.toNat []=Y[s.toNat]:=gi
  have l:=K _ k;have hx:=S _ (rx k);rw[e];refine⟨eC,fun i h=> ?_,fun d u=> ?_,fg.A' fun x J=>hx x (sw J),aA⟩<;>grind
def ky(n:Int)(ok:Bool):eI:=⟨⟨0,if ok=true then IntKind.u16.wrap n else 65535,0,0⟩,[], -1,false⟩
def Mq(n:Int)(ok:Bool):yN (ky n ok).iW:=by
 unfold ky;split
 .exact nY _
 .exact⟨ai,ai⟩
def ln:dw:=⟨[],[],[],⟨[],[]⟩,[]⟩
def mD:eI:=⟨⟨0,0,0,0⟩,[],0,false⟩
def dI(r:io)(i:Nat):Int:=(r.args.getD i ⟨0,0,0,0⟩).val
def BK(l:List i5)(kw:Int)(ap:List fd):List i5:=if sZ l kw ap=true then l++ [⟨l.length,kw,ap⟩] else l
def a3i(l:List i5)(kw:Int)(ap:List fd):Int:=if sZ l kw ap=true then(ap.length:Int) else 0
def rz(o:dw)(r:io):dw×eI:=
 if r.call=1 then(⟨o.md,o.nl,o.dK,(nZ o.iG (dI r 0) r.ap).1,o.dT⟩,ky (nZ o.iG (dI r 0) r.ap).2.1 (nZ o.iG (dI r 0) r.ap).2.2)
 else if r.call=2 then(⟨o.md,o.nl,o.dK,(oJ o.iG (dI r 0) (dI r 2)).1,o.dT⟩,
  ⟨(ky (oJ o.iG (dI r 0) (dI r 2)).2.1.length (oJ o.iG (dI r 0) (dI r 2)).2.2).iW,(oJ o.iG (dI r 0) (dI r 2)).2.1, -1,false⟩)
 else if r.call=3 then(⟨o.md,o.nl,o.dK,(pH o.iG (dI r 0) (dI r 1)).1,o.dT⟩,
  if 0<=(pH o.iG (dI r 0) (dI r 1)).2 then⟨⟨2,IntKind.u16.wrap (pH o.iG (dI r 0) (dI r 1)).2,0,0⟩,[], -1,false⟩ else ky 0 false)
 else if r.call=4 then(⟨o.md,o.nl,o.dK,(sC o.iG (dI r 0)).1,o.dT⟩,ky 0 (sC o.iG (dI r 0)).2)
 else if r.call=5 then(⟨o.md,o.nl,o.dK,(s7 o.iG (dI r 0) (dI r 1)).1,o.dT⟩,ky 0 (s7 o.iG (dI r 0) (dI r 1)).2)
 else if r.call=6 then(⟨o.md.drop 1,o.nl,o.dK,o.iG,o.dT⟩,match o.md with| []=>ky 0 false|x::_=>ky x true)
 else if r.call=7 then(⟨o.md,o.nl.drop 1,o.dK,o.iG,o.dT⟩,match o.nl with| []=>ky 0 false|x::_=>ky x true)
 else if r.call=13 then(⟨o.md,o.nl,o.dK,o.iG,BK o.dT (dI r 0) r.ap⟩,ky (a3i o.dT (dI r 0) r.ap) (sZ o.dT (dI r 0) r.ap))
 else(⟨o.md,o.nl,(oq o.dK (dI r 0) (dI r 2)).1,o.iG,o.dT⟩,
  ⟨(ky (oq o.dK (dI r 0) (dI r 2)).2.1.length (oq o.dK (dI r 0) (dI r 2)).2.2).iW,(oq o.dK (dI r 0) (dI r 2)).2.1, -1,false⟩)
structure qs (x:eI):Prop where
 iW:yN x.iW
 ap:fg x.ap
 len:x.ap.length<=64
def iY(n:Int)(ok:Bool):qs (ky n ok):=⟨Mq n ok,.nil,by simp[ky]⟩
def qz:qs mD:=⟨⟨by simp[mD],by simp[mD]⟩,.nil,by simp[mD]⟩
structure lB (o:dw):Prop where
 p:xF o
 r:a3h o
def rR(o:dw):Prop:=lB o\/o=ln
def lB.iG(h:lB o)(hp:jT f)(r:qq f):lB ⟨o.md,o.nl,o.dK,f,o.dT⟩:=
 ⟨⟨h.p.md,h.p.nl,h.p.dK,h.p.input,hp,h.p.dT,h.p.output⟩,h.r.input,r⟩
def af9{l:List i5}(h1:l.length<=200)(K: ∀i (h:i<l.length),(l[i]).seq=i/\0<=(l[i]).kw/\(l[i]).kw<2/\(l[i]).ap.length<=16/\iH (l[i]).ap=true)(s:Int){d:List fd}(u:iH d=true):
  (BK l s d).length<=200/\ ∀i (h:i<(BK l s d).length),((BK l s d)[i]).seq=i/\0<=((BK l s d)[i]).kw/\((BK l s d)[i]).kw<2/\((BK l s d)[i]).ap.length<=16/\iH ((BK l s d)[i]).ap=true:=by
 by_cases b:sZ l s d=true
 case neg=>
  have e:BK l s d=l:=if_neg b
  grind
 have e:BK l s d=l++ [⟨l.length,s,d⟩]:=if_pos b;rw[e];unfold sZ at b;simp only[X8,decide_eq_true_eq]at b;obtain⟨M,U,c,k⟩:=b;refine⟨aj,fun i h=> ?_⟩;by_cases j:i<l.length
 .grind
 .simp only[ta,s9,w4]at h;have:i=l.length:=ab
  simp_all
def vx(h:lB o)(d:iH r.ap=true)(v:fg r.ap):lB (rz o r).1/\qs (rz o r).2:=by
 have f:=h.p.iG;have C:=h.r.iG;refine oU (P:=fun q:dw×eI=>lB q.1/\qs q.2) (fun _=> ?_) fun _=> ?_
 .exact⟨h.iG (XP f _ _) (af7 f C _ v),iY _ _⟩
 refine oU (P:=fun q:dw×eI=>lB q.1/\qs q.2) (fun _=> ?_) fun _=> ?_
 .have h1:=PB f (dI r 0) (dI r 2);have K:=U' f C (dI r 0) (dI r 2);exact⟨h.iG h1.1 K.1,Mq _ _,K.2,h1.2.1⟩
 refine oU (P:=fun q:dw×eI=>lB q.1/\qs q.2) (fun _=> ?_) fun _=> ?_
 .refine⟨h.iG (af4 f _ _).1 (Vu C _ _),?_⟩;split
  .exact⟨nY _,.nil,ai⟩
  .exact iY _ _
 refine oU (P:=fun q:dw×eI=>lB q.1/\qs q.2) (fun _=> ?_) fun _=> ?_
 .exact⟨h.iG (XQ f _) (af6 C _),iY _ _⟩
 refine oU (P:=fun q:dw×eI=>lB q.1/\qs q.2) (fun _=> ?_) fun _=> ?_
 .exact⟨h.iG (af5 f _ _) (Vt C _ _),iY _ _⟩
 refine oU (P:=fun q:dw×eI=>lB q.1/\qs q.2) (fun _=> ?_) fun _=> ?_
 .refine⟨⟨⟨by have:=h.p.md;grind,h.p.nl,h.p.dK,h.p.input,f,h.p.dT,h.p.output⟩,h.r.input,C⟩,?_⟩;split
  .exact iY _ _
  .exact iY _ _
 refine oU (P:=fun q:dw×eI=>lB q.1/\qs q.2) (fun _=> ?_) fun _=> ?_
 .refine⟨⟨⟨h.p.md,by have:=h.p.nl;grind,h.p.dK,h.p.input,f,h.p.dT,h.p.output⟩,h.r.input,C⟩,?_⟩;split
  .exact iY _ _
  .exact iY _ _
 refine oU (P:=fun q:dw×eI=>lB q.1/\qs q.2) (fun _=> ?_) fun _=> ?_
 .have s:=af9 h.p.dT h.p.output (dI r 0) d;exact⟨⟨⟨h.p.md,h.p.nl,h.p.dK,h.p.input,f,s.1,s.2⟩,h.r.input,C⟩,iY _ _⟩
 .obtain⟨a1,a2,a3,a4,a5⟩:=af8 h.p.dK h.p.input h.r.input (dI r 0) (dI r 2);exact⟨⟨⟨h.p.md,h.p.nl,a1,a2,f,h.p.dT,h.p.output⟩,a3,C⟩,Mq _ _,a4,a5⟩
def w0(r:io):Bool:=ko r&& (decide (r.j'=1)&& (decide ((1<=r.call/\r.call<=7)\/r.call=13\/r.call=14)&& (gr (dc r.call) (r.args.map (·.gs))&&decide (¬(kv r.call=2/\16<dI r 2)))))
def A6(h:ko r=true):iH r.ap=true/\r.ap.length<=16:=by unfold ko at h<;>grind
def PC{l:cO}(h:iN l)(k t:Int): -1<=(eY l k t).2.1/\(eY l k t).2.1<4:=(xG h k t).2
end Go.Proofs.YtdngefmliibcgaaGreat
