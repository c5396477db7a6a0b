import Derived.Test.YtdngefmliibcgaaGreatB26
set_option linter.all false
set_option maxRecDepth 20000
set_option maxHeartbeats 0
namespace Go.Proofs.YtdngefmliibcgaaGreat
open Go Go.Abs Go.Abs.jJ Qf
variable  {k n i t j:Nat}{h:bI}{p:g9}{d pc:Int}{m m1:aN}{ly y:iy}{rc es:List h_}{o:dw}{l:cO}{js:List Int}{e:h_}
def yh.eA{s:rK}{v:V}(H:yh k n s v h)(h1:0<s.i6.length)(K:0<s.ce.length)(d:Nat):da h (d+6) v=some ((Fr s:V)):=by
 obtain⟨R,T,ri,vi,rfl,Q⟩:=H.R h1 K;have e:(ki ri s.i6).length=s.i6.length:=by simp[ki]
 have m:(qu vi s.ce).length=s.ce.length:=by simp[qu]
 have l:(ki ri s.i6).take s.i6.length=ki ri s.i6:=bQ ab;have t:(qu vi s.ce).take s.ce.length=qu vi s.ce:=bQ ab;have o:di ((ki ri s.i6).map (da h (d+4)))=some (s.i6.map bZ):=by
  refine mq _ _ fun i j=> ?_;have:=Q.rat i j;simp[da,this,sk]
 have p:di ((qu vi s.ce).map (da h (d+4)))=some (s.ce.map rd.e):=by
  refine mq _ _ fun i j=> ?_;have:=Q.vat i j;simp[Dh,da,di,this,rd.cN]
 simp[da,di,Q.row,Q.vow,e,m,l,t,o,p]
def Cz(H:cJ p d m):PG (nA p m)/\0<(nA p m).i6.length/\0<(nA p m).ce.length:=by
 have z:=H.lay.sz;have a:=H.len;refine⟨⟨by simp[nA,kn];have:=z.le;omega,fun i h=> ?_,by simp[nA,pJ];omega,fun i h=> ?_⟩,by simp[nA,kn];have:=z.pos;omega,by simp[nA,pJ];omega⟩
 .simp only[nA,kn,r9,List.length_range]at h;have:=z.elem i h;simp only[nA,kn,uc,List.getElem_range,Dg,tG];rw[dA h];omega
 .simp only[nA,pJ,r9]at h;have:=(H.lq i h).bK;simp only[nA,pJ,uc,KY,r9];omega
@[simp]def Gp(u:List hu)(q:List Int)(a:List (List Int))(Z:List Int)(k:Int)(h:List ac)(F:List cP)(n:List gc)(d:Int)(G:cJ (wn u q a) d (w_ Z k h F n)):cG X 36 [iB u q a,ol Z k h F n]=some ((Fr (nA (wn u q a) (w_ Z k h F n)):V)):=by
 obtain⟨v,h',k',e,H⟩:=V1 u q a Z k h F n 0 d G;have l:=Cz G;unfold Go.Abs.cG;have p:qK X (df X) 36 [iB u q a,ol Z k h F n]=some (v,h',k'):=e;rw[p];have i:=H.eA l.2.1 l.2.2 (depth-6)
 simp_all
theorem Br{p:g9}{A B:List Int}{kA kB:Int}(c:fM A p.ax)(j:fM B p.ax){f:aN}: ∀{es:List h_} {a b:aN} {d:Int},tM p a es f->RM kA kB p.ax A B a b->cJ p d a->cJ p d b->(∀i (h:i<es.length),xX es[i])->d+64*es.length<=1099511627776->tM p b es (sP p es b es.length)/\RM kA kB p.ax A B f (sP p es b es.length)
 | [],a,b,d,h,R,_,_,_,_=>by
  subst h;exact⟨rfl,R⟩
 |e::es,a,b,d,h,R,D,G,E,u=>by
  simp only[s9]at u;have C:xX e:=E 0 ai;obtain⟨T,g⟩:=Vk c j R D G ab C.av C.r;have ok:uW p b e:=by
   obtain⟨h1,K⟩:=h.1;exact⟨aj,fun k=>aj⟩
  have:=Br c j h.2 g (qT D ab C.av C.r).1 (qT G ab C.av C.r).1 (fun i l=>E (i+1) aj) ab;simp only[s9];rw[I9];exact⟨⟨ok,this.1⟩,this.2⟩
structure N0 (p:g9) (ly y:iy) (m:aN) (rc:List h_) (my:aN):Prop where
 fol:tM p (dx p y) rc my
 r:RM ly.key y.key p.ax ly.aK y.aK m my
 ny:cJ p 100000 my
def TQ.other(Q:TQ p ly m rc)(n:rc.length<=300)(h:fM y.aK p.ax)(k:0<=y.key/\y.key<=65535):N0 p ly y m rc (sP p rc (dx p y) rc.length):=by
 have h0:=l5 Q.prog Q.xd h k;obtain⟨o,f⟩:=Br Q.lay h (kA:=ly.key) (kB:=y.key) Q.fol (MW Q.prog Q.lay h) (l5 Q.prog Q.xd Q.lay Q.key) h0 Q.TS ab;exact⟨o,f,(Ll h0 Q.TS ab rc.length (iX _)).mono ab⟩
def TQ.part(Q:TQ p ly m rc)(n:rc.length<=300)(h:i<=rc.length):tM p (dx p ly) (rc.take i) (sP p rc (dx p ly) i)/\cJ p 100000 (sP p rc (dx p ly) i):=
 ⟨(Q.fol.parts i h).1,(Ll (l5 Q.prog Q.xd Q.lay Q.key) Q.TS ab i h).mono ab⟩
def M6(j:i<=es.length)(h:tM p (dx p ly) (es.take i) m1):FU p ly es i=(m1,0):=by
 unfold FU;rw[if_neg ab,X7,h.lI];rfl
theorem Qx(h: ∀i (h:i<es.length),xX es[i])(k:Nat): ∀i (h:i<(es.take k).length),xX (es.take k)[i]:=fun i j=>aj
def TQ.two(Q:TQ p ly m rc)(n:rc.length<=300)(h:fM y.aK p.ax)(k:0<=y.key/\y.key<=65535)(j:i<=rc.length):
  ∃a b,FU p y rc i=(a,0)/\FU p ly rc i=(b,0)/\cJ p 100000 a/\cJ p 100000 b/\nA p a=nA p b:=by
 obtain⟨G,O⟩:=Q.part n j;have h0:=l5 Q.prog Q.xd h k;have l:(rc.take i).length<=300:=eK
 obtain⟨o,f⟩:=Br Q.lay h (kA:=ly.key) (kB:=y.key) G (MW Q.prog Q.lay h) (l5 Q.prog Q.xd Q.lay Q.key) h0 (Qx Q.TS i) ab;have g:=(Ll h0 (Qx Q.TS i) ab _ (iX _)).mono (d:=100000) ab;exact⟨_,_,M6 j o,M6 j G,g,O,(Vh Q.lay h rfl f O g).symm⟩
@[simp]theorem M7(l:List Int)(dz k:Int)(hl:l.length<=2000000): ∃h' k',df X 6 [l,dz,k] mg 0=some (.bool true,h',k'):=by
 suffices H: ∃v h' k',df X 6 [.sl false (l.map (V.int .i64)),.int .i64 dz,.int .i64 k] mg 0=some (v,h',k')/\v= .bool true by grind
 have B:=Bf;have hv:fA l 0:=⟨ab,ab⟩;obtain⟨kt,p,d,m,o,ak,js,rc,hM,aa,HG,hk,hb,ly,mm,hp,hr,hS,hR⟩:=MS (dl:=l) hv;have Q:=Gn hS hR hr.2;obtain⟨pc,ps,z⟩:=p;obtain⟨⟨O,I⟩,⟨hn,hj⟩,mt⟩:=m;have an:=Q.eq;subst an;obtain⟨T,c⟩:=x_ (dz % 1048576);have n:0<=T/\T<=1048575:=ab
 have W:tA ps:=HG.prog.ax;have K:=uP ps T W n;have Y:=yR W n.1;have Z:=nY (40503*T);obtain⟨t,E⟩:=x_ (fy ps T);obtain⟨N,w⟩:=x_ (IntKind.u16.wrap (40503*T));rw[E]at K Y;rw[w]at K Z;have aq:=nu dz 1048576 ab;rw[c]at aq;have aw:=z_ ((rc.length:Int)+1);have au:=nu k (rc.length+1) ab;have i0:=t9 k (show(rc.length:Int)+1≠0 by omega);have i1:=t4 k (show(0:Int)<rc.length+1 by omega);obtain⟨i,hi⟩:=jp i0;rw[hi]at au i1;have m7:i<=rc.length:=ab
 obtain⟨U,e,h⟩:=Q.other hb (y:=⟨t,N⟩) Y Z;obtain⟨my,M⟩:=x_ (sP ⟨pc,ps,z⟩ rc (dx ⟨pc,ps,z⟩ ⟨t,N⟩) rc.length);rw[M]at U e h;have F:=ir pc ps z t N rc Q.prog Q.xd Y Z Q.TS ab;rw[U.lI]at F;have h3:=Vh Q.lay Y rfl e (Q.ny.mono (d:=100000) ab) h;have A:=Q.prog.lens;have h1:=k7 pc ps z my.am.aK my.am.key my.gt.cells my.gt.ge my.ce A h.lens;rw[(h.mono ab).ok]at h1;have x:=Gp pc ps z my.am.aK my.am.key my.gt.cells my.gt.ge my.ce _ h;have r:=Gp pc ps z O I hn hj mt _ Q.ny;rw[h3]at r;have j:=Cz h;obtain⟨a,b,e1,e2,R,g,u⟩:=Q.two hb (y:=⟨t,N⟩) Y Z m7;have D:=lX pc ps z t N rc i Q.prog Q.xd Y Z Q.TS ab;have C:=lX pc ps z O I rc i Q.prog Q.xd Q.lay Q.key Q.TS ab;rw[e1]at D;rw[e2]at C;have f:=k7 pc ps z a.am.aK a.am.key a.gt.cells a.gt.ge a.ce A R.lens;rw[(R.mono ab).ok]at f;have J:=k7 pc ps z b.am.aK b.am.key b.gt.cells b.gt.ge b.ce A g.lens;rw[(g.mono ab).ok]at J;have P:=Gp pc ps z a.am.aK a.am.key a.gt.cells a.gt.ge a.ce _ R;have G:=Gp pc ps z b.am.aK b.am.key b.gt.cells b.gt.ge b.ce _ g;rw[u]at P;have L:=Cz g;obtain⟨⟨hc,h2⟩,hs⟩: ∃s,nA ⟨pc,ps,z⟩ my=s:=⟨_,rfl⟩;obtain⟨⟨he,hx⟩,ho⟩: ∃s,nA ⟨pc,ps,z⟩ b=s:=⟨_,rfl⟩;rw[hs]at x r j;rw[ho]at P G L;have q:=yP hc h2 hc h2 j.1;have S:=yP he hx he hx L.1;rw[decide_eq_true rfl]at q S;simp only at F D C x r P G;have ht:(0:Int)+rc.length=rc.length:=ab
 rw[ht]at F;refine ip ?_;simp[-nu, -lX, -ir, -uP, -k7, -yP,UY,hM,aq,K,F,h1,x,r,q,aw,au,D,C,f,J,P,G,S,B]
theorem YN{q:io}(h:e∈rc):e∈ (sL p m o l js rc q).2.2.2.2:=by
 unfold sL;generalize (if q.call=9 then(eY l (dI q 0) q.cw).2.1 else-1)=own;unfold An<;>grind
def Je{p:g9}{e:h_}: ∀(L:List Int) (s:aN×List h_),e∈s.2->e∈ (jG p s L).2
 | [],s,h=>h
 |x::L,s,h=>Je L (um p s x 0) (DI _ h)
def CA{p:g9}{e:h_}{t:Nat}{s:(aN×List h_)×List Int}(h:e∈s.1.2): ∀k,e∈ (lC p t s k).1.2
 |0=>h
 |k+1=>by
  rw[xP];unfold Dl;split
  .exact DI _ (CA h k)
  .exact CA h k
def Ln{n:Int}:rA t n (dP p m t n).2.1∈ (xQ p m o l js rc t n).2.2.2.2:=by
 have h1:rA t n (dP p m t n).2.1∈ (sM p ((dP p m t n).1,o,l,js,rc++ [rA t n (dP p m t n).2.1]) (dP p m t n).2.1).2.2.2.2:=by
  unfold sM;split
  .exact YN (List.mem_append_right _ (List.mem_singleton.2 rfl))
  .grind
 unfold xQ BM;split
 .exact CA (s:=(jG p (_,_) _,_)) (Je _ (_,_) h1) 4
 omega
def yS.slice{s0 s:RS}(h:yS p s0 k s)(y:1<=k): ∃e∈s.2.2.2.2,e.kind=1:=by
 cases h with
 |zero=>omega
 |next ct cb sg r n=>
  unfold wy at n;split at n
  .grind
  .cases n;unfold BN;split
   .exact⟨_,Ln,rfl⟩
   .exact⟨_,Ln,rfl⟩
def CB(es:List h_):Nat->List Int
 |0=> []
 |i+1=>if(es.getD i Vf).kind=1 then CB es i++ [(i:Int)] else CB es i
def PU(es:List h_):CB es 0=[]:=rfl
theorem TT(h:i<es.length):CB es (i+1)=if(es[i]).kind=1 then CB es i++ [(i:Int)] else CB es i:=by
 rw[CB];grind
theorem Jf(es:List h_): ∀i,(CB es i).length<=i
 |0=>by simp[CB]
 |i+1=>by
  have:=Jf es i;rw[CB]
  grind
theorem M8{es:List h_}{x:Int}: ∀i,i<=es.length->x∈CB es i-> ∃j,∃h:j<es.length,x=(j:Int)/\(es[j]).kind=1
 |0,_,h=>bF
 |i+1,l,h=>by
  rw[TT ab]at h;split at h
  .rename_i k;rcases List.mem_append.1 h with h|h
   .exact M8 i ab h
   grind
  .exact M8 i ab h
theorem Qy{es:List h_}{j:Nat}(h:j<es.length)(k:(es[j]).kind=1): ∀i,j<i->i<=es.length->(j:Int)∈CB es i
 |0,h0,_=>ab
 |i+1,h0,l=>by
  rw[TT ab];by_cases e:j=i
  .grind
  .have:=Qy h k i ab ab
   grind
def uh(e:h_)(pc:Int):h_:=⟨e.kind,e.cw,e.n,⟨e.il.cw,e.il.j',e.il.dD,e.il.ia,pc,e.il.call,e.il.args,e.il.ap⟩,e.iL⟩
def a51(h:xX e)(pc:Int):xX (uh e pc):=⟨h.a,h.d,h.av,h.dv,h.r⟩
theorem PT(h:uW p m e)(k:e.kind=1)(K:pc≠e.il.pc):I8 p m (uh e pc)=false:=by
 unfold I8 rX;by_cases v:gS (uh e pc)=true/\fO p m=true
 .have i:eH p m (uh e pc) (gS (uh e pc))=((dP p m e.cw e.n).1,(dP p m e.cw e.n).2.1,true):=by
   unfold eH;rw[if_pos v,if_pos (show(uh e pc).kind=1 from k)];rfl
  obtain⟨h1,L⟩:=h;have S:=L k;have q:(dP p m e.cw e.n).2.1=e.il:=by
   unfold eH at h1 S;by_cases Q:gS e=true/\fO p m=true
   .grind
   .grind
  rw[i,q];have: ¬e.il=(uh e pc).il:=fun g=>K (by
   have:=congrArg io.pc g;exact this.symm)
  have s:(uh e pc).kind=1:=k
  grind
 .have i:eH p m (uh e pc) (gS (uh e pc))=(m,ep,false):=if_neg v
  grind
theorem tM.j'{p:g9}{x:h_}{l:aN}(hx:I8 p l x=false)(r:List h_): ∀{es:List h_} {m:aN} (k:Int),tM p m es l->Go.Proofs.YtdngefmliibcgaaGreat.lI p (es++x::r) k m=(l,k+es.length,14)
 | [],m,k,h=>by
  subst h;rw[zD,Go.Proofs.YtdngefmliibcgaaGreat.lI.eq_def]
  grind
 |e::es,m,k,h=>by
  rw[zP,Go.Proofs.YtdngefmliibcgaaGreat.lI.eq_def];simp only;rw[if_pos h.1.fit,show(rX p m e).1=Cy p m e from rfl,tM.j' hx r (k+1) h.2]
  grind
def YO(h:j<es.length)(x:h_):es.set j x=es.take j++x::es.drop (j+1):=List.set_eq_take_append_cons_drop.trans (if_pos h)
@[simp]def NZ(l:List h_)(m:l.length<=1000000)(hx: ∀i (h:i<l.length),xX l[i]):mh X [(0,0,65)] 37 [l]=some l:=by
 refine tS ?_;simp;refine dO (fun i S=>(S.f 3= .cX 3 0 (((l.take i).map h_.e)).length/\S.h 3=some ⟨18,((l.take i).map h_.e),false⟩/\S.f 6=l/\S.f 7=((l).length:Int)/\S.f 8=(i:Int)/\S.n=1100)/\True) (l.length) ab ?_ ?_ ?_
 .rintro i S ⟨q,O,c⟩ ⟨d,f⟩;have g:=hx i c;have v:(l[i]).il.args.length<=1000000000:=r4 g.a ab;have D:(l[i]).il.ap.length<=1000000000:=r4 g.d ab;have L:(l[i]).iL.ap.length<=1000000000:=r4 g.r.len ab;have N:min i l.length=i:=ab
  simp[d,O,c,v,D,N];all_goals exact j3
 .simp_all
 simp_all
def MC(k:Int)(run y:V)(rc:List h_)(sl:List Int)(S:St):Prop:=
 (S.f 1= .int .i64 k/\S.f 7= .ptr 7 0 0/\S.h 7=some ⟨18,[run],true⟩/\S.f 8= .ptr 8 0 0/\S.h 8=some ⟨2,[y],true⟩/\S.f 10= .cX 10 0 rc.length/\S.h 10=some ⟨18,rc.map h_.e,false⟩/\S.f 11= .cX 11 0 sl.length/\S.h 11=some ⟨1,sl.map (V.int .i64),false⟩)/\S.n=1104
@[simp]theorem FV(l:List Int)(k dz:Int)(hl:l.length<=2000000): ∃h' k',df X 7 [l,k,dz] mg 0=some (.bool true,h',k'):=by
 suffices H: ∃v h' k',df X 7 [.sl false (l.map (V.int .i64)),.int .i64 k,.int .i64 dz] mg 0=some (v,h',k')/\v= .bool true by grind
 have h1:=Bf;have g3:fA l 0:=⟨ab,ab⟩;obtain⟨kt,p,d,m,o,G,js,rc,hM,c2,HG,hq,bP,ly,h8,gX,h3,hS,hR⟩:=MS (dl:=l) g3;have Q:=Gn hS hR h3.2;have hd:=hR.slice h3.1;obtain⟨pc,ps,z⟩:=p;obtain⟨⟨cQ,hp⟩,⟨ak,mm⟩,mt⟩:=m;have bL:=Q.eq;obtain⟨s,T⟩:=x_ (dz % 1048576);have q:0<=s/\s<=1048575:=ab
 have hz:tA ps:=HG.prog.ax;have an:=uP ps s hz q;have Y:=yR hz q.1;have Z:=nY (40503*s);obtain⟨t,M⟩:=x_ (fy ps s);obtain⟨N,K⟩:=x_ (IntKind.u16.wrap (40503*s));rw[M]at an Y;rw[K]at an Z;have ay:=nu dz 1048576 ab;rw[T]at ay;have aw:=NZ rc ab Q.TS;obtain⟨L,B⟩:=x_ (CB rc rc.length);have hh:L.length<=rc.length:=by rw[<-B];exact Jf rc _
 have hc:0<L.length:=by
  obtain⟨e,he,D⟩:=hd;obtain⟨j,r,rfl⟩:=vP he;have:=Qy r D rc.length r (iX _);rw[B]at this;exact List.length_pos_of_mem this
 have ah:=nu k L.length ab;have hB:=t9 k (show(L.length:Int)≠0 by omega);have hg:=t4 k (show(0:Int)<L.length by omega);obtain⟨j,r⟩:=jp hB;rw[r]at ah hg;have hf:j<L.length:=ab
 obtain⟨a,W,h2,A⟩:=M8 (es:=rc) (x:=L[j]) rc.length (iX _) aj;have ae:=nu k 200 ab;obtain⟨w,h4⟩:=x_ (k % 200);rw[h4]at ae;have hE:=(hR.W hS ab).Qm _ (rx W);have O:=hE.ok;have b':0<=(rc[a]).il.pc/\(rc[a]).il.pc<=255:=by
  unfold gS Bv at O;simp only[A,if_true,X8,decide_eq_true_eq]at O;have:=O.2.2.2.2.1;unfold J8 at this;simp only[X8,decide_eq_true_eq]at this;exact(pj.1 this.1).2.2.2.2.1
 obtain⟨c,U⟩:=x_ (((rc[a]).il.pc+1+w) % 256);have kK:c≠ (rc[a]).il.pc:=ab
 obtain⟨x,hx⟩:=x_ (rc.set a (uh rc[a] c));have bT:x.length=rc.length:=by rw[<-hx];simp
 have E: ∀i (h:i<x.length),xX x[i]:=fun i h=>by
  subst hx;simp only[rm]at h;simp only[r6];split
  .exact a51 (Q.TS a W) c
  .exact Q.TS i h
 obtain⟨aa,bW,bV⟩:=Q.other bP (y:=⟨t,N⟩) Y Z;have F:=(aa.parts a ab).1;have ht:=PT (aa.at W) A kK;have hs:=(Ll (l5 Q.prog Q.xd (l:=⟨t,N⟩) Y Z) Q.TS ab a ab).mono (d:=100000) ab;obtain⟨n,n0⟩:=x_ (sP ⟨pc,ps,z⟩ rc (dx ⟨pc,ps,z⟩ ⟨t,N⟩) a);rw[n0]at F ht hs;have fv:lI ⟨pc,ps,z⟩ x 0 (dx ⟨pc,ps,z⟩ ⟨t,N⟩)=(n,(a:Int),14):=by
  have e1:=F.j' ht (rc.drop (a+1)) 0;have e2:(rc.take a).length=a:=eK
  rw[<-YO W,hx,e2]at e1;simpa using e1
 have hn:=ir pc ps z t N x Q.prog Q.xd Y Z E ab;have ho:=pk pc ps z t N x Q.prog Q.xd Y Z E ab;rw[fv]at hn ho;have hk:=lX pc ps z t N rc a Q.prog Q.xd Y Z Q.TS ab;rw[M6 ab F]at hk;have I:=jU n.am.aK n.am.key n.gt.cells n.gt.ge n.ce n.am.aK n.am.key n.gt.cells n.gt.ge n.ce hs.lens;rw[decide_eq_true rfl]at I;simp only at hn hk ho;have R:=z_ ((rc[a]).il.pc+1);have f:=z_ ((rc[a]).il.pc+1+w);have bS:List.take rc.length ((rc.map h_.e).set a ((rc[a]).e.put 7 (.int .i64 c)))=x.map h_.e:=by
  rw[bQ ai,<-hx,sB];rfl
 have hr: ¬L=[]:=by rintro rfl;simp at hc
 have hi:(a:Int)<rc.length:=ab
 have P:Int.tmod ((rc[a]).il.pc+1+w) 256=c:=by rw[v0 ab];exact U
 refine ip ?_;refine MD (MC k ((t7 pc ps z cQ hp ak mm mt o.md o.nl o.dK o.iG.ap o.iG.iV o.dT G.pl G.i4 rc js:V)) ((pp t N:V)) rc L) (fun S bp=> ?_) (fun b hb=> ?_)
 .obtain⟨⟨g1,c1,hL,bs,g2,au,g,aq,J⟩,S'⟩:=bp;simp[g1,c1,hL,bs,g2,au,g,aq,J,S', -nu, -lX, -ir, -pk, -jU,ah,hg,hf,h2,ae,W,hi,R,f,P,bS,hn,hk,ho,I,h1]
 simp[-nu, -lX, -ir, -pk, -uP,UY,hM,ay,an,aw];refine dO (fun i S=>(S.f 1= .int .i64 k/\S.f 7= .ptr 7 0 0/\S.h 7=some ⟨18,[xZ (⟨⟨pc,ps,z⟩,⟨⟨cQ,hp⟩,⟨ak,mm⟩,mt⟩,o,G,rc,js⟩:lV)],true⟩/\S.f 8= .ptr 8 0 0/\S.h 8=some ⟨2,[y7 (⟨t,N⟩:iy)],true⟩/\S.f 10= .cX 10 0 (((rc).map h_.e)).length/\S.h 10=some ⟨18,((rc).map h_.e),false⟩/\S.f 11= .cX 11 0 (((CB rc i).map (V.int .i64))).length/\S.h 11=some ⟨1,((CB rc i).map (V.int .i64)),false⟩/\S.f 35= .cX 10 0 rc.length/\S.f 36= .int .i64 ((rc.length:Int))/\S.f 37= .int .i64 ((i:Int))/\S.n=1100)/\True) (rc.length) ab ?_ ?_ ?_
 .rintro i S ⟨ts,iO,cz⟩ ⟨C,fG⟩;have u:=TT cz;have sl:=Jf rc i;by_cases D:(rc[i]).kind=1
  .rw[if_pos D]at u;simp[C,iO,cz,D,u];exact⟨ab,ab⟩
  .rw[if_neg D]at u;simp[C,iO,cz,D,u]
 .rintro S ⟨C,fG⟩;simp[C,B,hr];exact hb _ (by simp[MC,bB,C,B])
 .simp[PU]
theorem qJ.ex{r:aN×Bool}{c:Option (V×bI×Nat)}(H: ∃v h' k',c=some (v,h',k')/\qJ p d r m h k v h' k'): ∃vB vC vL vT h' k',c=some (.ed [rB vB r.1.am.key vC vL vT,.bool r.2],h',k')/\k<=k'/\Below k h h'/\ ∀hx,Cf k h' hx-> ∀n,da hx (n+4) vB=some (.sl false (r.1.am.aK.map (V.int .i64)))/\da hx (n+4) vC=some (.sl false (r.1.gt.cells.map ac.e))/\da hx (n+4) vL=some (.sl false (r.1.gt.ge.map cP.e))/\da hx (n+4) vT=some (.sl false (r.1.ce.map gc.e)):=by
 obtain⟨v,h',k',e,P⟩:=H;obtain⟨vB,vC,vL,vT,rfl,a⟩:=P.eA<;>grind
@[simp]theorem qV(u:List hu)(A:List Int)(w:List (List Int))(Z:List Int)(B:Int)(f:List ac)(F:List cP)(n:List gc)(c b E K J H O l Y:Int)(U p:List fd)(S G R g:Int)(W:List fd)(P:Int)(V:Bool)(d:Int)(I:cJ (wn u A w) d (w_ Z B f F n))(hd:d+64<=1099511627776)(L:xX (wd c b E K J H O l Y U p S G R g W P V)):cG X 56 [iB u A w,ol Z B f F n,xb c b E K J H O l Y U p S G R g W P V]=some (.ed [rJ ((eH (wn u A w) (w_ Z B f F n) (wd c b E K J H O l Y U p S G R g W P V) (gS (wd c b E K J H O l Y U p S G R g W P V))).1),wk ((eH (wn u A w) (w_ Z B f F n) (wd c b E K J H O l Y U p S G R g W P V) (gS (wd c b E K J H O l Y U p S G R g W P V))).2.1),.bool ((eH (wn u A w) (w_ Z B f F n) (wd c b E K J H O l Y U p S G R g W P V) (gS (wd c b E K J H O l Y U p S G R g W P V))).2.2)]):=by
  refine ij ?_;have h1:U.length<=1000000000:=r4 L.a ab;have h2:p.length<=1000000000:=r4 L.d ab;have h3:W.length<=1000000000:=r4 L.r.len ab;have r:=py c b E K J H O l Y U p S G R g W P V h1 h2 h3;have he:d<=1099511627776:=ab
  have T:fO (wn u A w) (w_ Z B f F n)=true:=(I.mono he).ok;have D:=I.prog.lens;have t:=I.lens;cases s:gS (wd c b E K J H O l Y U p S G R g W P V) with
  |false=>
    rw[s]at r;have e:eH (wn u A w) (w_ Z B f F n) (wd c b E K J H O l Y U p S G R g W P V) false=((aN.mk (iy.mk Z B) (aD.mk f F) n),ep,false):=if_neg fun h=>aj
    rw[e];unfold ep;simp[-py,r]
  |true=>
  rw[s]at r;have ht:(0<=b/\b<4)/\(c=1->1<=E/\E<=64)/\(c=1\/c=2\/c=3\/c=4):=by
    unfold gS Bv at s;simp only[X8,decide_eq_true_eq]at s;refine⟨⟨s.1,s.2.1⟩,fun hk=> ?_,?_⟩
    .grind
    .grind
  obtain⟨ht,hn,hk⟩:=ht;have e1:eH (wn u A w) (w_ Z B f F n) (wd c b E K J H O l Y U p S G R g W P V) true=(if c=1 then((dP (wn u A w) (w_ Z B f F n) b E).1,(dP (wn u A w) (w_ Z B f F n) b E).2.1,true)
     else if c=2 then((jN (wn u A w) (w_ Z B f F n) ⟨K,J,H,O,l,Y,U,p⟩ ⟨⟨S,G,R,g⟩,W,P,V⟩).1,ep,(jN (wn u A w) (w_ Z B f F n) ⟨K,J,H,O,l,Y,U,p⟩ ⟨⟨S,G,R,g⟩,W,P,V⟩).2)
     else if c=3 then((jB (w_ Z B f F n) b).1,ep,(jB (w_ Z B f F n) b).2)
     else((jZ (wn u A w) (w_ Z B f F n) b ⟨⟨S,G,R,g⟩,W,P,V⟩).1,ep,(jZ (wn u A w) (w_ Z B f F n) b ⟨⟨S,G,R,g⟩,W,P,V⟩).2)):=if_pos ⟨rfl,T⟩
  rw[e1];have hR:xw (w_ Z B f F n):=I.R;rcases hk with rfl|rfl|rfl|rfl
  · have M:=Im u A w Z B f F n b E D t hR
    obtain⟨⟨hj,q,z⟩,v⟩: ∃x,dP (wn u A w) (w_ Z B f F n) b E=x:=⟨_,rfl⟩;rw[v]at M;rw[if_pos rfl,v];simp[-py, -Im,r,T,D,t,M]
  · rw[if_neg aG,if_pos rfl]
    have C:=fun(h:bI) (k:Nat)=>(qJ.ex (PS u A w Z B f F n K J H O l Y U p S G R g W P V h k d I he h1 h2 L.av L.r));obtain⟨⟨⟨⟨hl,hb⟩,⟨hr,hc⟩,mt⟩,z⟩,v⟩: ∃y,jN (wn u A w) (w_ Z B f F n) ⟨K,J,H,O,l,Y,U,p⟩ ⟨⟨S,G,R,g⟩,W,P,V⟩=y:=⟨_,rfl⟩;rw[v]at C⊢;simp only[Classical.skolem]at C;obtain⟨hg,cQ,mm,hs,N,m,C⟩:=C;have cl:=fun h k=>(C h k).1;have Q:=fun h k=>(C h k).2.1;have cb: ∀h k i,i<k->N h k i=h i:=fun h k=>(C h k).2.2.1;have c1: ∀h k i j,i<k-> ¬i=m h k+j:=fun h k i j o=>bN
    have c2: ∀h k i j,i<k-> ¬m h k+j=i:=fun h k i j o=>bN
    have c3: ∀h k i,i<k-> ¬i=m h k:=fun h k i o=>bN
    have c4: ∀h k i,i<k-> ¬m h k=i:=fun h k i o=>bN
    exact j8
  · have M:=Lo Z B f F n b (wn u A w) d I ht
    rw[if_neg aG,if_neg aG,if_pos rfl];obtain⟨⟨hj,z⟩,v⟩: ∃y,jB (w_ Z B f F n) b=y:=⟨_,rfl⟩;rw[v]at M⊢;unfold ep;simp[-py, -Lo,r,T,D,t,M]
  · rw[if_neg aG,if_neg aG,if_neg aG]
    have C:=fun(h:bI) (k:Nat)=>(qJ.ex (Tu u A w Z B f F n b S G R g W P V h k d I he L.r));obtain⟨⟨⟨⟨hl,hb⟩,⟨hr,hc⟩,mt⟩,z⟩,v⟩: ∃y,jZ (wn u A w) (w_ Z B f F n) b ⟨⟨S,G,R,g⟩,W,P,V⟩=y:=⟨_,rfl⟩;rw[v]at C⊢;simp only[Classical.skolem]at C;obtain⟨hg,cQ,mm,hs,N,m,C⟩:=C;have cl:=fun h k=>(C h k).1;have Q:=fun h k=>(C h k).2.1;have cb: ∀h k i,i<k->N h k i=h i:=fun h k=>(C h k).2.2.1;have c1: ∀h k i j,i<k-> ¬i=m h k+j:=fun h k i j o=>bN
    have c2: ∀h k i j,i<k-> ¬m h k+j=i:=fun h k i j o=>bN
    have c3: ∀h k i,i<k-> ¬i=m h k:=fun h k i o=>bN
    have c4: ∀h k i,i<k-> ¬m h k=i:=fun h k i o=>bN
    exact j8
@[simp]def vU(u:List hu)(a:List Int)(w:List (List Int))(y:List Int)(I:Int)(s:List h_)(P:o9 (wn u a w))(F:BS (wn u a w))(L:fM y a)(k:0<=I/\I<=65535)(K: ∀i (h:i<s.length),xX s[i])(Y:s.length<=1000000):cG X 31 [iB u a w,pp y I,.sl false (s.map h_.e)]=some (.ed [rJ ((lI (wn u a w) s 0 (dx (wn u a w) (iy.mk y I))).1),.int .i64 ((lI (wn u a w) s 0 (dx (wn u a w) (iy.mk y I))).2.1),.int .i64 ((lI (wn u a w) s 0 (dx (wn u a w) (iy.mk y I))).2.2)]):=by
 refine ij ?_;have t:=tV u a w y I P L;have M:=l5 P F (l:=(iy.mk y I)) L k;obtain⟨d,V⟩:=x_ (dx (wn u a w) (iy.mk y I));rw[V]at t M⊢;simp[-tV,t];refine dO (fun i S=>(S.f 2=s/\S.f 3= .ptr 3 0 0/\S.h 3=some ⟨3,[wa ((g9.mk u a w))],true⟩/\S.f 6= .ptr 6 0 0/\S.h 6=some ⟨5,[rJ eQ],true⟩/\S.f 9= .ptr 9 0 0/\S.h 9=some ⟨5,[rJ (sP (wn u a w) s d i)],true⟩/\S.f 26= .sl false ((s).map h_.e)/\S.f 27= .int .i64 ((s.length:Int))/\S.f 28= .int .i64 ((i:Int))/\S.n=1100)/\(lI (wn u a w) s 0 d=lI (wn u a w) (s.drop i) i (sP (wn u a w) s d i)/\cJ (wn u a w) (64*i) (sP (wn u a w) s d i))) (s.length) ab ?_ ?_ ?_
 .rintro i S ⟨n,O,z⟩ ⟨N,J⟩;obtain⟨H,U⟩:=J;have A:=Qw (wn u a w) d z;obtain⟨m,r⟩:=x_ (sP (wn u a w) s d i);rw[r]at H U A;have c:=Lk (wn u a w) i m z;rw[<-H]at c;have T:=K i z;have G:=(qT U ab T.av T.r).1;have R:eH (wn u a w) m s[i] (gS s[i])=rX (wn u a w) m s[i]:=rfl;rw[R]at G;have C:=qV u a w m.am.aK m.am.key m.gt.cells m.gt.ge m.ce (s[i]).kind (s[i]).cw (s[i]).n (s[i]).il.cw (s[i]).il.j' (s[i]).il.dD (s[i]).il.ia (s[i]).il.pc (s[i]).il.call (s[i]).il.args (s[i]).il.ap (s[i]).iL.iW.gs (s[i]).iL.iW.val (s[i]).iL.iW.lm (s[i]).iL.iW.iC (s[i]).iL.ap (s[i]).iL.lw (s[i]).iL.wait (64*i) U ab T;have j:aN.mk ⟨m.am.aK,m.am.key⟩ ⟨m.gt.cells,m.gt.ge⟩ m.ce=m:=rfl;have p:h_.mk (s[i]).kind (s[i]).cw (s[i]).n ⟨(s[i]).il.cw,(s[i]).il.j',(s[i]).il.dD,(s[i]).il.ia,(s[i]).il.pc,(s[i]).il.call,(s[i]).il.args,(s[i]).il.ap⟩ ⟨⟨(s[i]).iL.iW.gs,(s[i]).iL.iW.val,(s[i]).iL.iW.lm,(s[i]).iL.iW.iC⟩,(s[i]).iL.ap,(s[i]).iL.lw,(s[i]).iL.wait⟩=s[i]:=rfl;have Q:=(qT U ab T.av T.r).2;rw[j,p,R]at C;rw[R]at Q;have e:I8 (wn u a w) m s[i]=((rX (wn u a w) m s[i]).2.2&& (decide (¬(s[i]).kind=1)||decide ((rX (wn u a w) m s[i]).2.1=(s[i]).il))):=rfl;obtain⟨⟨D,q,b⟩,E⟩: ∃x,rX (wn u a w) m s[i]=x:=⟨_,rfl⟩;rw[E]at C Q c A G e;simp only at C Q c A G e;have v:cJ (wn u a w) (64*((i:Int)+1)) D:=G.mono ab;have B:=jV q.cw q.j' q.dD q.ia q.pc q.call q.args q.ap (s[i]).il.cw (s[i]).il.j' (s[i]).il.dD (s[i]).il.ia (s[i]).il.pc (s[i]).il.call (s[i]).il.args (s[i]).il.ap (by have:=Q.a;omega) (by have:=Q.d;omega);rw[show io.mk q.cw q.j' q.dD q.ia q.pc q.call q.args q.ap=q from rfl,show io.mk (s[i]).il.cw (s[i]).il.j' (s[i]).il.dD (s[i]).il.ia (s[i]).il.pc (s[i]).il.call (s[i]).il.args (s[i]).il.ap=(s[i]).il from rfl]at B;cases b with
  |false=>
   rw[e,if_neg ai]at c;simp[N,z, -qV, -jV,r,C,c]
  |true=>
   by_cases k1:(s[i]).kind=1
   case neg=>
    rw[e,if_pos (by simp[k1])]at c;simp[N,O,z, -qV, -jV,r,C,k1,c,A,v]
   rw[k1]at C;by_cases f:q=(s[i]).il
   .rw[e,if_pos (by simp[f])]at c;rw[decide_eq_true f]at B;simp[N,O,z, -qV, -jV,r,C,k1,B,c,A,v]
   .rw[e,if_neg (by simp[k1,f])]at c;rw[decide_eq_false f]at B;simp[N,z, -qV, -jV,r,C,k1,B,c]
 .rintro S ⟨N,J⟩;have W:lI (wn u a w) (s.drop s.length) s.length (sP (wn u a w) s d s.length)=(sP (wn u a w) s d s.length,(s.length:Int),0):=fE
  have Z:=J.1;rw[W]at Z;simp[N,Z]
 .simp[Qv,M];exact⟨rfl,rfl,rfl,rfl,rfl⟩
@[simp]def vV(u:List hu)(a:List Int)(w:List (List Int))(y:List Int)(c:Int)(l:List h_)(k:Int)(q:o9 (wn u a w))(D:BS (wn u a w))(L:fM y a)(z:0<=c/\c<=65535)(E: ∀i (h:i<l.length),xX l[i])(W:l.length<=1000000):cG X 24 [iB u a w,pp y c,.sl false (l.map h_.e),.int .i64 k]=some (.ed [rJ ((FU (wn u a w) (iy.mk y c) l k).1),.int .i64 ((FU (wn u a w) (iy.mk y c) l k).2)]):=by
 refine ij ?_;by_cases P:k<0
 .have e:FU (wn u a w) (iy.mk y c) l k=(eQ,6):=if_pos (.inl P);rw[e];simp[eQ,P]
 by_cases k1:(l.length:Int)<k
 .have e:FU (wn u a w) (iy.mk y c) l k=(eQ,6):=if_pos (.inr k1);rw[e];simp[eQ,P,k1]
 have e:FU (wn u a w) (iy.mk y c) l k=if(lI (wn u a w) (l.take k.toNat) 0 (dx (wn u a w) (iy.mk y c))).2.2=0 then((lI (wn u a w) (l.take k.toNat) 0 (dx (wn u a w) (iy.mk y c))).1,0) else(eQ,(lI (wn u a w) (l.take k.toNat) 0 (dx (wn u a w) (iy.mk y c))).2.2):=if_neg ab
 rw[e];obtain⟨n,rfl⟩:=jp (by omega:0<=k);rw[X7];have F:=vU u a w y c (l.take n) q D L z (fun i h=>by
  simp only[sr]at h;simp only[C'];exact E i ab) eK
 obtain⟨⟨m,j,e⟩,J⟩: ∃x,lI (wn u a w) (l.take n) 0 (dx (wn u a w) (iy.mk y c))=x:=⟨_,rfl⟩;rw[J]at F⊢;simp only at F⊢;have s:n<=l.length:=ab
 obtain⟨r,t⟩:=x_ (l.take n);have g: ∀f:h_->V,List.take n (l.map f)=r.map f:=fun f=>by rw[<-t,yB]
 rw[t]at F;by_cases C:e=0
 .subst C;simp[-vU,P,k1,s,g,F]
 .rw[if_neg C];simp[-vU,eQ,P,k1,s,g,F,C]
@[simp]def M9(l:List Int)(hl:l.length<=2000000): ∃h' k',df X 3 [l] mg 0=some (.bool true,h',k'):=by
 suffices H: ∃v h' k',df X 3 [.sl false (l.map (V.int .i64))] mg 0=some (v,h',k')/\v= .bool true by
  obtain⟨v,h',k',e,rfl⟩:=H;exact⟨h',k',e⟩
 have K:=Bf;have hb:fA l 0:=⟨ab,ab⟩;obtain⟨kt,p,d,m,o,hx,js,rc,hM,aq,U,h2,he,ly,aw,an,h1,hS,hR⟩:=MS (dl:=l) hb;have Q:=Gn hS hR h1.2;obtain⟨pc,ps,y⟩:=p;obtain⟨⟨N,k⟩,⟨W,F⟩,mt⟩:=m;have M:=Q.eq;simp only at M;subst M;have au:mt.length=4:=U.len;have T:=tV pc ps y N k Q.prog Q.lay;have j:=Q.fol.end;have hc:=Q.prog.lens;obtain⟨g,E⟩:=x_ (dx ⟨pc,ps,y⟩ ⟨N,k⟩);have L:cJ ⟨pc,ps,y⟩ 0 g:=E▸l5 Q.prog Q.xd (l:=⟨N,k⟩) Q.lay Q.key;have n:=fun(i:Nat) (R:i<=rc.length)=>M6 R (Q.part he R).1;rw[E]at T j;simp only[E]at n;have I:=jU N k W F mt N k W F mt U.lens;rw[decide_eq_true rfl]at I;refine ip ?_;simp[-tV,UY,hM,T];refine dO (fun i S=>(S.f 3= .ptr 3 0 0/\S.h 3=some ⟨18,[xZ (⟨⟨pc,ps,y⟩,⟨⟨N,k⟩,⟨W,F⟩,mt⟩,o,hx,rc,js⟩:lV)],true⟩/\S.f 4= .ptr 4 0 0/\S.h 4=some ⟨5,[rJ (sP ⟨pc,ps,y⟩ rc g i)],true⟩/\S.f 26= .sl false ((rc).map h_.e)/\S.f 27= .int .i64 ((rc.length:Int))/\S.f 28= .int .i64 ((i:Int))/\S.n=1100)/\(cJ ⟨pc,ps,y⟩ (64*i) (sP ⟨pc,ps,y⟩ rc g i))) (rc.length) ab ?_ ?_ ?_
 .rintro i S ⟨hr,O,c⟩ ⟨z,J⟩;have u:=Qw ⟨pc,ps,y⟩ g c;have ok:=Q.fol.at c;rw[E]at ok;have D:=n (i+1) ab;obtain⟨t,f⟩:=x_ (sP ⟨pc,ps,y⟩ rc g i);rw[f]at u ok J;have P:=Q.TS i c;have G:=(qT J ab P.av P.r).1;have h:=(qT J ab P.av P.r).2;have C:=jt pc ps y t.am.aK t.am.key t.gt.cells t.gt.ge t.ce (rc[i]).kind (rc[i]).cw (rc[i]).n (rc[i]).il.cw (rc[i]).il.j' (rc[i]).il.dD (rc[i]).il.ia (rc[i]).il.pc (rc[i]).il.call (rc[i]).il.args (rc[i]).il.ap (rc[i]).iL.iW.gs (rc[i]).iL.iW.val (rc[i]).iL.iW.lm (rc[i]).iL.iW.iC (rc[i]).iL.ap (rc[i]).iL.lw (rc[i]).iL.wait (64*i) J ab P;have c1:aN.mk ⟨t.am.aK,t.am.key⟩ ⟨t.gt.cells,t.gt.ge⟩ t.ce=t:=rfl;have c2:h_.mk (rc[i]).kind (rc[i]).cw (rc[i]).n ⟨(rc[i]).il.cw,(rc[i]).il.j',(rc[i]).il.dD,(rc[i]).il.ia,(rc[i]).il.pc,(rc[i]).il.call,(rc[i]).il.args,(rc[i]).il.ap⟩ ⟨⟨(rc[i]).iL.iW.gs,(rc[i]).iL.iW.val,(rc[i]).iL.iW.lm,(rc[i]).iL.iW.iC⟩,(rc[i]).iL.ap,(rc[i]).iL.lw,(rc[i]).iL.wait⟩=rc[i]:=rfl;have c3:eH ⟨pc,ps,y⟩ t rc[i] (gS rc[i])=rX ⟨pc,ps,y⟩ t rc[i]:=rfl;rw[c1,c2]at C;unfold uW at ok;rw[c3]at C G h ok;obtain⟨⟨B,q,b⟩,hq⟩: ∃x,rX ⟨pc,ps,y⟩ t rc[i]=x:=⟨_,rfl⟩;rw[hq]at C G h ok u;simp only at C G h ok u;obtain⟨rfl,Z⟩:=ok;have Y:cJ ⟨pc,ps,y⟩ (64*((i:Int)+1)) B:=G.mono ab;rw[u]at D;have A:=vV pc ps y N k rc (i+1) Q.prog Q.xd Q.lay Q.key Q.TS ab;have a:((i:Int)+1)=((i+1:Nat):Int):=ab
  rw[a,D,<-a]at A;simp only at A;have r:=k7 pc ps y B.am.aK B.am.key B.gt.cells B.gt.ge B.ce hc Y.lens;rw[(Y.mono ab).ok]at r;have S1:=jU B.am.aK B.am.key B.gt.cells B.gt.ge B.ce B.am.aK B.am.key B.gt.cells B.gt.ge B.ce Y.lens;rw[decide_eq_true rfl]at S1;have w:=jV q.cw q.j' q.dD q.ia q.pc q.call q.args q.ap (rc[i]).il.cw (rc[i]).il.j' (rc[i]).il.dD (rc[i]).il.ia (rc[i]).il.pc (rc[i]).il.call (rc[i]).il.args (rc[i]).il.ap (by have:=h.a;omega) (by have:=h.d;omega);rw[show io.mk q.cw q.j' q.dD q.ia q.pc q.call q.args q.ap=q from rfl,show io.mk (rc[i]).il.cw (rc[i]).il.j' (rc[i]).il.dD (rc[i]).il.ia (rc[i]).il.pc (rc[i]).il.call (rc[i]).il.args (rc[i]).il.ap=(rc[i]).il from rfl]at w;by_cases s:Int.tmod i 5=0
  .by_cases k1:(rc[i]).kind=1
   .rw[decide_eq_true (Z k1)]at w;rw[k1]at C;simp[z,O,c, -jt, -jV, -k7, -vV, -jU,f,C,k1,w,r,A,s,S1,u,Y]
   .simp[z,O,c, -jt, -jV, -k7, -vV, -jU,f,C,k1,r,A,s,S1,u,Y]
  .by_cases k1:(rc[i]).kind=1
   .rw[decide_eq_true (Z k1)]at w;rw[k1]at C;simp[z,O,c, -jt, -jV, -k7, -vV, -jU,f,C,k1,w,r,A,s,u,Y]
   .simp[z,O,c, -jt, -jV, -k7, -vV, -jU,f,C,k1,r,A,s,u,Y]
 .rintro S ⟨z,J⟩;simp[z, -jU,j,I,K]
 .simp[Qv,L]
end Go.Proofs.YtdngefmliibcgaaGreat
