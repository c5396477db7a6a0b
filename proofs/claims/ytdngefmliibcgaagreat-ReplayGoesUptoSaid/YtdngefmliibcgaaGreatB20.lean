import Derived.Test.YtdngefmliibcgaaGreatB19
set_option linter.all false
set_option maxRecDepth 20000
set_option maxHeartbeats 0
namespace Go.Proofs.YtdngefmliibcgaaGreat
open Go Go.Abs Go.Abs.jJ Qf
variable  {p:g9}{t k k2 i:Nat}{m b a:aN}{c c' p' b':ac}
def H3{u:Int}(h: ¬(jM p m t).2= -1):gH p t u (k+1) m=jM p m t:=by rw[gH,if_neg h]
def FL{u:Int}(h:(jM p m t).2= -1)(c:(bO (jM p m t).1 t).ia=u):gH p t u (k+1) m=((jM p m t).1,0):=by
 rw[gH,if_pos h];exact if_pos c
def H2{u:Int}(h:(jM p m t).2= -1)(c: ¬(bO (jM p m t).1 t).ia=u):gH p t u (k+1) m=gH p t u k (jM p m t).1:=by
 rw[gH,if_pos h];exact if_neg c
def YD{n:Int}(h:(bO m t).im=1):dB p m t n=gH p t ((bO m t).ia+n) 20000 m:=by
 have e:m.ce.getD t cT=bO m t:=rfl;unfold dB<;>grind
def tight(u:Int)(x:gc):Int:=(u-x.ia-1)*65+(65-x.pc)
def TK{c:Int}(H:cJ p c m)(S:t<4)(h:(jM p m t).2= -1)(u:Int):(bO m t).pc<=64/\tight u (bO (jM p m t).1 t)+1<=tight u (bO m t):=by
 have h1:=H.bO S;have K:=xy H h1;have e:(jM p m t).2=(mI p m (bO m t)).2.2:=rfl;have T:=K.Pm (e▸h);have F:(bO m t).pc<p.hw.length:=by
  refine w8 fun n=> ?_;rw[e]at h;unfold mI at h;rw[if_neg n]at h;simp at h
 have q:=H.prog.qH;rw[xz H S];have a:=K.lq.pc;unfold tight<;>grind
def uI(p:g9)(m:aN):Nat->aN
 |0=>m
 |k+1=>(jM p (uI p m k) 0).1
def Ba(p:g9)(m:aN)(k:Nat):uI p m (k+1)=(jM p (uI p m k) 0).1:=rfl
def MV(p:g9)(m:aN):uI p m 0=m:=rfl
structure IU (p:g9) (d:Int) (m:aN) (n:Int) (k:Nat):Prop where
 g:cJ p d (uI p m k)
 st:(bO (uI p m k) 0).im=1
 lt:(bO (uI p m k) 0).ia<(bO m 0).ia+n
 le:(k:Int)<=n*65
 tt:(k:Int)+tight ((bO m 0).ia+n) (bO (uI p m k) 0)<=n*65
 go:gH p 0 ((bO m 0).ia+n) (20000-k) (uI p m k)=dB p m 0 n
def IU.zero{d:Int}{n:Int}(h:cJ p d m)(s:(bO m 0).im=1)(W:1<=n):IU p (d+n) m n 0:=by
 refine⟨h.mono ab,s,by rw[MV];omega,ab,?_,?_⟩
 .rw[MV];have:=(h.bO (t:=0) ab).pc;unfold tight;omega
 .rw[MV,YD s]
def IU.step{d:Int}{n:Int}(I:IU p d m n k)(O:cJ p (d-n) m)(W:n<=6)(h:(jM p (uI p m k) 0).2= -1):
  cJ p d (uI p m (k+1))/\(k:Int)+1<=n*65/\
  ((bO (uI p m (k+1)) 0).ia=(bO m 0).ia+n->dB p m 0 n=(uI p m (k+1),0))/\
  (¬(bO (uI p m (k+1)) 0).ia=(bO m 0).ia+n->IU p d m n (k+1)):=by
 have b:=(O.bO (t:=0) ab).ia;have G:=AZ I.g (t:=0) ab (by have:=I.lt;omega);have S:=TK I.g (t:=0) ab h ((bO m 0).ia+n);have l:=A0 I.g (t:=0) ab h ((bO m 0).ia+n);have h1:=I.lt;have K:=I.tt;have T:=(I.g.bO (t:=0) ab).pc;have a:=I.go;have y:(k:Int)+1<=n*65:=by
  have:=S.1;unfold tight at K;omega
 have Q:20000-k=(20000-(k+1))+1:=ab
 rw[Q]at a;rw[Ba];refine⟨G,y,fun c=> ?_,fun c=> ?_⟩
 .rw[<-a,Af h c]
 .refine⟨by rw[Ba];exact G,by rw[Ba,l.2.1];exact I.st,by rw[Ba];have:=l.2.2.2;omega,by simpa using y,by rw[Ba];have:=S.2;omega,?_⟩;rw[Ba,<-a,yJ h c]
def IU.j'{d:Int}{n:Int}(I:IU p d m n k)(W:n<=6)(o: ¬(jM p (uI p m k) 0).2= -1):dB p m 0 n=jM p (uI p m k) 0:=by
 have Q:20000-k=(20000-(k+1))+1:=by have:=I.le;omega
 have h:=I.go;rw[Q,yI o]at h;exact h.symm
def Bb(n:Int):IntKind.u16.wrap n=n % 65536:=by
 simp only[IntKind.wrap,IntKind.signed,IntKind.bits,xI];simp
def xV(A:List Int)(kA:Int)(B:List Int)(kB:Int)(sz:List Int)(c c':ac):Prop:=
 (c.gs=0/\c'.gs=0/\c.val=c'.val)\/(c.gs=2/\c'.gs=2/\IntKind.u16.wrap (c.val-kA)=IntKind.u16.wrap (c'.val-kB))\/
 (c.gs=1/\c'.gs=1/\ ∃k:Nat,∃o:Int,k<sz.length/\resolve A sz c.val=(⟨(k:Int),o⟩,true)/\resolve B sz c'.val=(⟨(k:Int),o⟩,true))
section
variable {A:List Int} {kA:Int} {B:List Int} {kB:Int} {sz:List Int}
theorem Dx{aK ax:List Int}{a:Int}{o:Int}(h:resolve aK ax a=(⟨(k:Int),o⟩,true)): ∃(h1:k<aK.length) (K:k<ax.length),a=aK[k]+o/\0<=o/\o<ax[k]:=by obtain⟨j,q,B,e,M,b⟩:=jn (aK:=aK) (ax:=ax) (a:=a) dp<;>grind
theorem xV.of(m:iD c)(i:iD c')(h:canon A kA sz c=canon B kB sz c')(w:KX (canon A kA sz c)=false):xV A kA B kB sz c c':=by
 have key: ∀{b:List Int} {k:Int} {x:ac},iD x->(x.gs=0/\canon b k sz x=⟨0,x.val,0,0⟩)\/(x.gs=2/\canon b k sz x=⟨2,IntKind.u16.wrap (x.val-k),0,0⟩)\/(x.gs=1/\ ∃q:Nat,∃o:Int,q<sz.length/\resolve b sz x.val=(⟨(q:Int),o⟩,true)/\canon b k sz x=⟨1,0,(q:Int),o⟩)\/(x.gs=1/\canon b k sz x=⟨1,0, -1,x.val⟩):=by
  intro b k x hx;unfold canon;by_cases t0:x.gs=0
  .grind
  by_cases s:x.gs=2
  .grind
  have v:x.gs=1:=by have:=hx.1;omega
  rw[if_neg t0,if_neg s];by_cases r:(resolve b sz x.val).2=true
  .obtain⟨j,y,C,e,M,V⟩:=jn r<;>grind
  .grind
 rcases key (b:=A) (k:=kA) m with⟨t,e⟩|⟨t,e⟩|⟨t,q,o,u,r,e⟩|⟨t,e⟩
 .rcases key (b:=B) (k:=kB) i with⟨G,F⟩|⟨G,F⟩|⟨G,l,o',J,U,F⟩|⟨G,F⟩<;>rw[e,F]at h<;>simp only[fd.mk.injEq]at h
  .exact .inl ⟨t,G,h.2.1⟩
  all_goals omega
 .rcases key (b:=B) (k:=kB) i with⟨G,F⟩|⟨G,F⟩|⟨G,l,o',J,U,F⟩|⟨G,F⟩<;>rw[e,F]at h<;>simp only[fd.mk.injEq]at h
  .omega
  .exact .inr (.inl ⟨t,G,h.2.1⟩)
  all_goals omega
 .rcases key (b:=B) (k:=kB) i with⟨G,F⟩|⟨G,F⟩|⟨G,l,o',J,U,F⟩|⟨G,F⟩<;>rw[e,F]at h<;>simp only[fd.mk.injEq]at h
  .omega
  .omega
  .have n:l=q:=ab
   have p:o'=o:=ab
   subst n;subst p;exact .inr (.inr ⟨t,G,l,o',u,r,U⟩)
  omega
 .rw[e]at w;simp[KX]at w
theorem xV.canon{c c':ac}(h:xV A kA B kB sz c c'):canon A kA sz c=Go.Proofs.YtdngefmliibcgaaGreat.canon B kB sz c'/\KX (Go.Proofs.YtdngefmliibcgaaGreat.canon A kA sz c)=false:=by
 unfold Go.Proofs.YtdngefmliibcgaaGreat.canon;rcases h with⟨t,G,e⟩|⟨t,G,e⟩|⟨t,G,k,o,y,r,r'⟩
 .rw[if_pos t,if_pos G,e];exact⟨rfl,rfl⟩
 .have s: ¬c.gs=0:=ab
  have n: ¬c'.gs=0:=ab
  rw[if_neg s,if_neg n,if_pos t,if_pos G,e];exact⟨rfl,rfl⟩
 .have s: ¬c.gs=0:=ab
  have n: ¬c'.gs=0:=ab
  have I: ¬c.gs=2:=ab
  have Q: ¬c'.gs=2:=ab
  rw[if_neg s,if_neg n,if_neg I,if_neg Q,r,r'];simp only[if_true];unfold KX<;>grind
theorem xV.gs{c c':ac}(h:xV A kA B kB sz c c'):c.gs=c'.gs:=by
 rcases h with⟨t,G,e⟩|⟨t,G,e⟩|⟨t,G,_⟩<;>omega
theorem xV.num(v:Int):xV A kA B kB sz ⟨0,v⟩ ⟨0,v⟩:= .inl ⟨rfl,rfl,rfl⟩
theorem xV.val{c c':ac}(h:xV A kA B kB sz c c')(t:c.gs=0):c.val=c'.val:=by rcases h with⟨_,_,e⟩|⟨G,_⟩|⟨G,_⟩<;>grind
theorem xV.ptr(a:fM A sz)(i:fM B sz)(h:k<sz.length){o:Int}(h0:0<=o)(h1:o<sz[k]):xV A kA B kB sz ⟨1,nth A k+o⟩ ⟨1,nth B k+o⟩:=by
 have a1:k<A.length:=by rw[a.len];exact h
 have b:k<B.length:=by rw[i.len];exact h
 exact .inr (.inr ⟨rfl,rfl,k,o,h,by rw[dA a1];exact qp a a1 h h0 h1,by rw[dA b];exact qp i b h h0 h1⟩)
def zb(A:List Int)(kA:Int)(B:List Int)(kB:Int)(sz:List Int)(r r':ac×Int):Prop:=r.2=r'.2/\(r.2=0->xV A kA B kB sz r.1 r'.1)
theorem zb.same(r:ac×Int)(h:r.1.gs=0):zb A kA B kB sz r r:=⟨rfl,fun _=>by
 obtain⟨⟨t,v⟩,w⟩:=r;subst h;exact .num v⟩
theorem IV(a:fM A sz)(l:fM B sz){p:ac}(h:xV A kA B kB sz p p')(n:Int)(back:Bool):zb A kA B kB sz (ji A sz p n back) (ji B sz p' n back):=by
 have S:=h.gs;by_cases t:p.gs=1
 case neg=>rw[ud t,ud ab];exact .same _ rfl
 rcases h with⟨G,_⟩|⟨G,_⟩|⟨_,G,k,o,y,r,r'⟩
 .omega
 .omega
 .unfold ji;rw[if_pos t,if_pos G,r,r'];by_cases i:inside sz (k:Int) (if back=true then o-n else o+n)=true
  .rw[if_pos i,if_pos i];refine⟨rfl,fun _=> ?_⟩;obtain⟨j,q,V,M,b⟩:=iK.1 i;have e:j=k:=ab
   subst e;exact .ptr a l y M b
  .rw[if_neg i,if_neg i];exact n9
theorem Uj{b:ac}(e:xV A kA B kB sz b b')(h:xV A kA B kB sz c c')(tb:b.gs=1)(S:c.gs=1):nw A sz b c=nw B sz b' c':=by
 rcases e with⟨t,_⟩|⟨t,_⟩|⟨_,_,k,o,y,r,r'⟩
 .omega
 .omega
 rcases h with⟨t,_⟩|⟨t,_⟩|⟨_,_,k2,H,s,d,P⟩
 .omega
 .omega
 unfold nw<;>grind
theorem N1{b:ac}(S:iD b)(F:iD b')(i:iD c)(N:iD c')(g:xV A kA B kB sz b b')(h:xV A kA B kB sz c c'):(b.gs=c.gs/\b.val=c.val)↔(b'.gs=c'.gs/\b'.val=c'.val):=by
 have Q:=S.2;have V:=F.2;have m:=i.2;have l:=N.2;rcases g with⟨t,G,e⟩|⟨t,G,e⟩|⟨t,G,k,o,C,r,r'⟩<;>rcases h with⟨s,s',f⟩|⟨s,s',f⟩|⟨s,s',k2,J,I,d,P⟩<;>rw[t,G,s,s']
 .omega
 .simp
 .simp
 .simp
 .rw[Bb,Bb]at e f;omega
 .simp
 .simp
 .simp
 .obtain⟨a1,a2,z,E,M⟩:=Dx r;obtain⟨x,a,j,u,v⟩:=Dx r';obtain⟨U,n,D,L,T⟩:=Dx d;obtain⟨H,O,q,y,w⟩:=Dx P<;>grind
theorem YT(op b c:Int):(zY op b c).1.gs=0:=by
 unfold zY;repeat' split
 all_goals rfl
theorem OK(d:fM A sz)(j:fM B sz)(op:Int){b:ac}(T:iD b)(F:iD b')(k:iD c)(P:iD c')(f:xV A kA B kB sz b b')(m:xV A kA B kB sz c c'):zb A kA B kB sz (rn A sz op b c) (rn B sz op b' c'):=by
 have tb:=f.gs;have t:=m.gs;unfold rn;by_cases h0:op<3\/14<op
 .rw[if_pos h0,if_pos h0];exact n9
 rw[if_neg h0,if_neg h0];by_cases C:op=14
 .rw[if_pos C,if_pos C];have e:=N1 T F k P f m;by_cases h:b.gs=c.gs/\b.val=c.val
  .rw[if_pos h,if_pos (e.1 h)];exact n9
  .rw[if_neg h,if_neg (fun g=>h (e.2 g))];exact n9
 rw[if_neg C,if_neg C,<-tb,<-t];by_cases h1:b.gs=0/\c.gs=0
 .rw[if_pos h1,if_pos h1,<-f.val h1.1,<-m.val h1.2];exact .same _ (YT ..)
 rw[if_neg h1,if_neg h1];by_cases K:op=3/\b.gs=1/\c.gs=0
 .rw[if_pos K,if_pos K,<-m.val K.2.2];exact IV d j f _ _
 rw[if_neg K,if_neg K];by_cases S:op=3/\b.gs=0/\c.gs=1
 .rw[if_pos S,if_pos S,<-f.val S.2.1];exact IV d j m _ _
 rw[if_neg S,if_neg S];by_cases a:op=4/\b.gs=1/\c.gs=0
 .rw[if_pos a,if_pos a,<-m.val a.2.2];exact IV d j f _ _
 rw[if_neg a,if_neg a];by_cases i:(op=4\/op=13)/\b.gs=1/\c.gs=1
 .rw[if_pos i,if_pos i,<-Uj f m i.2.1 i.2.2];cases nw A sz b c with
  |none=>exact .same _ rfl
  |some n=>
   simp only;split
   .split
    .exact n9
    .exact n9
   .exact n9
 .rw[if_neg i,if_neg i];exact n9
theorem YS{p:ac}(h:xV A kA B kB sz p p')(n:Int):(iA A sz p n).2=(iA B sz p' n).2:=by
 have S:=h.gs;unfold iA;by_cases t:p.gs=1
 .rcases h with⟨G,_⟩|⟨G,_⟩|⟨_,G,k,o,y,r,r'⟩<;>grind
 grind
end
structure uE (A:List Int) (kA:Int) (B:List Int) (kB:Int) (sz:List Int) (x x':gc):Prop where
 im:x.im=x'.im
 pc:x.pc=x'.pc
 ia:x.ia=x'.ia
 db:x.db=x'.db
 iw:x.iw=x'.iw
 dD:x.dD=x'.dD
 hw:x.hw=x'.hw
 len:x.bK.length=x'.bK.length
 bK: ∀i,xV A kA B kB sz (x.bK.getD i ⟨0,0⟩) (x'.bK.getD i ⟨0,0⟩)
def vl(A:List Int)(kA:Int)(B:List Int)(kB:Int)(sz:List Int)(m J:aD):Prop:= ∀k,k<sz.length-> ∀o:Int,0<=o->o<nth sz k->xV A kA B kB sz (look m (nth A k+o).toNat) (look J (nth B k+o).toNat)
abbrev Bw(m:aD):Prop:=yC (fun _=>False) m
structure RM (kA kB:Int) (sz:List Int) (A B:List Int) (a b:aN):Prop where
 yV:a.am=⟨A,kA⟩
 FR:b.am=⟨B,kB⟩
 mem:vl A kA B kB sz a.gt b.gt
 ca:Bw a.gt
 cb:Bw b.gt
 lq: ∀t,uE A kA B kB sz (bO a t) (bO b t)
structure Fs (A:List Int) (kA:Int) (B:List Int) (kB:Int) (sz:List Int) (r r':aD×gc×Int):Prop where
 j':r.2.2=r'.2.2
 lq:uE A kA B kB sz r.2.1 r'.2.1
 mem:vl A kA B kB sz r.1 r'.1
 ca:Bw r.1
 cb:Bw r'.1
section
variable {A:List Int} {kA:Int} {B:List Int} {kB:Int} {sz:List Int} {x x':gc}
theorem Bc(l:List ac)(a i:Nat)(c:ac):(l.set a c).getD i ⟨0,0⟩=if a=i/\a<l.length then c else l.getD i ⟨0,0⟩:=by
 simp only[rT,t3];by_cases h:a=i
 .subst h;by_cases g:a<l.length
  .simp[g]
  .simp[g]
 .simp[h]
theorem uE.set(h:uE A kA B kB sz x x')(m:xV A kA B kB sz c c')(a:Int):(Bp x a c).length=(Bp x' a c').length/\ ∀i,xV A kA B kB sz ((Bp x a c).getD i ⟨0,0⟩) ((Bp x' a c').getD i ⟨0,0⟩):=by
 unfold Bp;refine⟨by simp[h.len],fun i=> ?_⟩;rw[Bc,Bc,h.len];split
 .exact m
 .exact h.bK i
theorem uE.eP(h:uE A kA B kB sz x x'):x.bK.length=x'.bK.length/\ ∀i,xV A kA B kB sz (x.bK.getD i ⟨0,0⟩) (x'.bK.getD i ⟨0,0⟩):=⟨h.len,h.bK⟩
theorem uE.go(h:uE A kA B kB sz x x'){r r':List ac}(C:r.length=r'.length/\ ∀i,xV A kA B kB sz (r.getD i ⟨0,0⟩) (r'.getD i ⟨0,0⟩)):uE A kA B kB sz (v5 x (x.pc+1) r) (v5 x' (x'.pc+1) r'):=
 ⟨h.im,by simp only[v5];rw[h.pc],h.ia,h.db,h.iw,h.dD,h.hw,C.1,C.2⟩
theorem uE.jump(h:uE A kA B kB sz x x'){pc p:Int}(hp:pc=p){r r':List ac}(C:r.length=r'.length/\ ∀i,xV A kA B kB sz (r.getD i ⟨0,0⟩) (r'.getD i ⟨0,0⟩)){s s':Int}(K:s=s'):uE A kA B kB sz (lW x pc r s) (lW x' p r' s'):=
 ⟨h.im,hp,by simp only[lW];rw[h.ia],h.db,K,h.dD,h.hw,C.1,C.2⟩
theorem uE.fQ(h:uE A kA B kB sz x x'){w w':Int}(q:w=w'):uE A kA B kB sz (fQ x w) (Go.Proofs.YtdngefmliibcgaaGreat.fQ x' w'):=
 ⟨rfl,h.pc,h.ia,h.db,h.iw,q,rfl,h.len,h.bK⟩
theorem uE.sy(h:uE A kA B kB sz x x'):uE A kA B kB sz (sy x) (Go.Proofs.YtdngefmliibcgaaGreat.sy x'):=
 ⟨rfl,by simp only[Go.Proofs.YtdngefmliibcgaaGreat.sy];rw[h.pc],h.ia,h.db,h.iw,h.dD,h.hw,h.len,h.bK⟩
theorem uE.Ad(h:uE A kA B kB sz x x')(a:Int):xV A kA B kB sz (jo x a) (jo x' a):=h.bK _
theorem IW{aK:List Int}(L:fM aK sz)(y:k<sz.length)(s:k2<sz.length){o o2:Int}(h0:0<=o)(h1:o<nth sz k)(n:0<=o2)(g:o2<nth sz k2)(h:nth aK k+o=nth aK k2+o2):k=k2/\o=o2:=by
 have a1:k<aK.length:=by rw[L.len];exact y
 have b:k2<aK.length:=by rw[L.len];exact s
 rw[dA y]at h1;rw[dA s]at g;rw[dA a1,dA b]at h;have r:=qp L a1 y h0 h1;have c:=qp L b s n g;rw[h,c]at r;simp only[cy,FE.mk.injEq,and_true]at r;omega
theorem zh{aK:List Int}(L:fM aK sz)(h:k<sz.length){o:Int}(h0:0<=o)(h1:o<nth sz k):0<=nth aK k+o/\nth aK k+o<512:=by
 have a1:k<aK.length:=by rw[L.len];exact h
 have:=L.base k a1 h;rw[dA h]at h1;rw[dA a1];omega
theorem wA{aK:List Int}(L:fM aK sz){o:Int}(y:k<sz.length)(h:resolve aK sz c.val=(⟨(k:Int),o⟩,true)):c.val=nth aK k+o/\0<=o/\o<nth sz k:=by
 obtain⟨h1,K,w,E,v⟩:=Dx h;rw[dA h1,dA K];exact⟨w,E,v⟩
theorem a5j(f:fM A sz)(j:fM B sz)(hr:p.ax=sz){d:Int}(R:RM kA kB sz A B a b)(O:cJ p d a)(N:cJ p d b)(h:uE A kA B kB sz x x')(an:eS d x)(M:eS d x'){i:hu}(hi:D9 p.hw.length p.ax.length i):Fs A kA B kB sz (iR p a x i) (iR p b x' i):=by
 have hv:a.am.aK=A:=by rw[R.yV]
 have h3:b.am.aK=B:=by rw[R.FR]
 have G:=h.Ad i.a;have U:=h.Ad i.b;have hs:=h.Ad i.c;have T: ∀{t t':gc} {s:Int},uE A kA B kB sz t t'->Fs A kA B kB sz (a.gt,t,s) (b.gt,t',s):=fun ht=>⟨rfl,ht,R.mem,R.ca,R.cb⟩;unfold iR;rw[hv,h3,hr];by_cases Z:i.op=23
 .rw[if_pos Z,if_pos Z];exact T h.sy
 rw[if_neg Z,if_neg Z];by_cases h0:i.op=0
 .rw[if_pos h0,if_pos h0];exact T (h.go h.eP)
 rw[if_neg h0,if_neg h0];by_cases h1:i.op=1
 .rw[if_pos h1,if_pos h1];exact T (h.go (h.set (.num _) _))
 rw[if_neg h1,if_neg h1];by_cases X:i.op=2
 .rw[if_pos X,if_pos X];exact T (h.go (h.set U _))
 rw[if_neg X,if_neg X];by_cases L:i.op=15
 .rw[if_pos L,if_pos L];have hl:=hi.lea L;rw[hr]at hl;have y:i.eA.toNat<sz.length:=by have:=hi.eA;omega
  have e:=xV.ptr (kA:=kA) (kB:=kB) f j y (o:=0) ab (by have:=(f.sz.elem _ y).1;omega);simp only[Int.add_zero]at e;exact T (h.go (h.set e _))
 rw[if_neg L,if_neg L];by_cases hx:i.op=16
 .rw[if_pos hx,if_pos hx];have S:=IV f j U i.eA false;have C:=pb f (p:=jo x i.b) (n:=i.eA) (back:=false);have H:=pb j (p:=jo x' i.b) (n:=i.eA) (back:=false);obtain⟨⟨c,w⟩,e1⟩: ∃r,ji A sz (jo x i.b) i.eA false=r:=⟨_,rfl⟩;obtain⟨⟨c',w'⟩,e2⟩: ∃r,ji B sz (jo x' i.b) i.eA false=r:=⟨_,rfl⟩;rw[e1]at S C⊢;rw[e2]at S H⊢;obtain⟨V,J⟩:=S;simp only at V J C H⊢;subst V;by_cases u:w=0
  .rw[if_pos u,if_pos u];obtain⟨hn,rfl,W⟩:=C u;obtain⟨hj,rfl,F⟩:=H u;simp only[X7];rcases J u with⟨t,_⟩|⟨t,_⟩|⟨_,_,k,o,y,r,r'⟩
   .cases t
   .cases t
   obtain⟨Q,u2,he⟩:=wA f y r;obtain⟨P,au,aq⟩:=wA j y r';simp only at Q P;have aw:=R.mem k y o u2 he;rw[<-Q,<-P,X7,X7,<-KQ O.mem.mem R.ca W,<-KQ N.mem.mem R.cb F]at aw;refine⟨rfl,h.go (h.set aw _),fun k2 I H E D=> ?_,AW O.mem.mem R.ca W,AW N.mem.mem R.cb F⟩;simp only;rw[yE O.mem.mem R.ca W,yE N.mem.mem R.cb F];exact R.mem k2 I H E D
  .rw[if_neg u,if_neg u];exact nF
 rw[if_neg hx,if_neg hx];by_cases Y:i.op=17
 .rw[if_pos Y,if_pos Y];have S:=IV f j G i.eA false;have C:=pb f (p:=jo x i.a) (n:=i.eA) (back:=false);have H:=pb j (p:=jo x' i.a) (n:=i.eA) (back:=false);obtain⟨⟨c,w⟩,e1⟩: ∃r,ji A sz (jo x i.a) i.eA false=r:=⟨_,rfl⟩;obtain⟨⟨c',w'⟩,e2⟩: ∃r,ji B sz (jo x' i.a) i.eA false=r:=⟨_,rfl⟩;rw[e1]at S C⊢;rw[e2]at S H⊢;obtain⟨V,J⟩:=S;simp only at V J C H⊢;subst V;by_cases u:w=0
  .rw[if_pos u,if_pos u];obtain⟨hn,rfl,W⟩:=C u;obtain⟨hj,rfl,F⟩:=H u;simp only[X7];rcases J u with⟨t,_⟩|⟨t,_⟩|⟨_,_,k,o,y,r,r'⟩
   .cases t
   .cases t
   obtain⟨Q,u2,he⟩:=wA f y r;obtain⟨P,au,aq⟩:=wA j y r';simp only at Q P;refine⟨rfl,h.go h.eP,fun k2 I H E D=> ?_,rM O.mem.mem R.ca W (fun e=>e) _,rM N.mem.mem R.cb F (fun e=>e) _⟩;simp only;rw[yF O.mem.mem R.ca W,yF N.mem.mem R.cb F];have i1:=zh f I E D;have i2:=zh j I E D;by_cases e:k2=k/\H=o
   .obtain⟨rfl,rfl⟩:=e;rw[if_pos ab,if_pos ab];exact U
   .rw[if_neg (fun q=>e (IW f I y E D u2 he ab)),if_neg (fun q=>e (IW j I y E D au aq ab))];exact R.mem k2 I H E D
  .rw[if_neg u,if_neg u];exact nF
 rw[if_neg Y,if_neg Y];by_cases m:i.op=18
 .rw[if_pos m,if_pos m];exact nJ
 rw[if_neg m,if_neg m];by_cases z:i.op=19
 .rw[if_pos z,if_pos z,<-G.gs];split
  .rename_i t;rw[<-G.val t,<-h.pc];exact nJ
  .exact nF
 rw[if_neg z,if_neg z];by_cases g:i.op=20
 .rw[if_pos g,if_pos g,<-G.gs];split
  .rename_i t;rw[<-G.val t,<-h.pc];exact nJ
  .exact nF
 rw[if_neg g,if_neg g];by_cases l:i.op=21
 .rw[if_pos l,if_pos l,<-h.pc];exact T (h.jump rfl (h.set (.num _) _) h.iw)
 rw[if_neg l,if_neg l];by_cases v:i.op=22
 .rw[if_pos v,if_pos v,<-G.gs];split
  .rename_i t;rw[<-G.val t];split
   .exact nF
   .exact nJ
  .exact nF
 rw[if_neg v,if_neg v];by_cases K:i.op=24
 .rw[if_pos K,if_pos K,<-h.iw];split
  .exact nF
  .exact T (h.jump rfl h.eP rfl)
 rw[if_neg K,if_neg K];have ho:=OK f j i.op (jq an i.b) (jq M i.b) (jq an i.c) (jq M i.c) U hs;rw[<-ho.1];split
 .rename_i u;exact T (h.go (h.set (ho.2 u) _))
 .exact nF
theorem QB(c:fM A sz)(i:fM B sz)(q:p.ax=sz){d:Int}(R:RM kA kB sz A B a b)(G:cJ p d a)(L:cJ p d b)(h:uE A kA B kB sz x x')(r:eS d x)(g:eS d x'):Fs A kA B kB sz (mI p a x) (mI p b x'):=by
 unfold mI;rw[<-h.pc];split
 .rename_i m;have k:x.pc.toNat<p.hw.length:=by have:=r.pc;omega
  have e:p.hw.getD x.pc.toNat qR=p.hw[x.pc.toNat]:=gi
  rw[e];exact a5j c i q R G L h r g (G.prog.wS k)
 .exact⟨rfl,h.fQ rfl,R.mem,R.ca,R.cb⟩
theorem a5k(c:fM A sz)(i:fM B sz)(q:p.ax=sz){d:Int}(R:RM kA kB sz A B a b)(D:cJ p d a)(G:cJ p d b)(h:t<4):(jM p a t).2=(jM p b t).2/\RM kA kB sz A B (jM p a t).1 (jM p b t).1:=by
 have S:=QB c i q R D G (R.lq t) (D.bO h) (G.bO h);rw[uR,uR];refine⟨S.j',⟨R.yV,R.FR,S.mem,S.ca,S.cb,fun u=> ?_⟩⟩;have y:t<a.ce.length:=by rw[D.len];exact h
 have l:t<b.ce.length:=by rw[G.len];exact h
 unfold bO ie;simp only[rT,t3];by_cases e:t=u
 .subst e;simp only[y,l,if_true,tj];exact S.lq
 .simp only[e,if_false];have:=R.lq u;unfold bO at this;simpa only[rT] using this
theorem Mm(j:fM A sz)(i:fM B sz){p:g9}(L:p.ax=sz){t:Nat}(S:t<4){u d:Int}(q:u<=d): ∀(f:Nat) (a b:aN),RM kA kB sz A B a b->cJ p d a->cJ p d b->(bO a t).ia<u->(gH p t u f a).2=(gH p t u f b).2/\RM kA kB sz A B (gH p t u f a).1 (gH p t u f b).1
 |0,a,b,R,_,_,_=>⟨rfl,R⟩
 |f+1,a,b,R,G,M,m=>by
  obtain⟨e,E⟩:=a5k j i L R G M S;have k:(bO b t).ia<u:=by rw[<-(R.lq t).ia];exact m
  have P:=AZ G S ab;have X:=AZ M S ab;by_cases h:(jM p a t).2= -1
  case neg=>
   rw[H3 h,H3 (by rw[<-e];exact h)];exact⟨e,E⟩
  have z:(jM p b t).2= -1:=by rw[<-e];exact h
  have T:=(E.lq t).ia;by_cases c:(bO (jM p a t).1 t).ia=u
  .rw[FL h c,FL z (by rw[<-T];exact c)];exact⟨rfl,E⟩
  .rw[H2 h c,H2 z (by rw[<-T];exact c)];have g:=(xy G (G.bO S)).Pm (by rw[uR]at h;exact h);have C:=xz G S;exact Mm j i L S q f _ _ E P X (by rw[C]at c⊢;omega)
theorem Uh(e:fM A sz)(i:fM B sz)(q:p.ax=sz)(h:t<4){d:Int}(R:RM kA kB sz A B a b)(G:cJ p d a)(L:cJ p d b){n:Int}(W:1<=n):(dB p a t n).2=(dB p b t n).2/\RM kA kB sz A B (dB p a t n).1 (dB p b t n).1:=by
 have s:=(R.lq t).im;have c:=(R.lq t).ia;have Z:a.ce.getD t cT=bO a t:=rfl;have j:b.ce.getD t cT=bO b t:=rfl;unfold dB;rw[Z,j,<-s,<-c];split
 .have:=(G.bO h).ia;exact Mm e i q h (u:=(bO a t).ia+n) (d:=d+n) ab 20000 a b R (G.mono ab) (L.mono ab) ab
 .exact⟨rfl,R⟩
theorem Vh(c:fM A sz)(l:fM B sz)(L:p.ax=sz){d:Int}(R:RM kA kB sz A B a b)(D:cJ p d a)(G:cJ p d b):nA p a=nA p b:=by
 unfold nA;rw[L,R.yV,R.FR];simp only[rK.mk.injEq];constructor
 .unfold kn;refine w5 fun r C=> ?_;have k:r<sz.length:=List.mem_range.1 C;unfold Dg jL;refine w5 fun j s=> ?_;have E:=List.mem_range.1 s;have z:=c.sz.elem r k;have e:=R.mem r k (j:Int) ab (by rw[dA k]at E⊢;omega);have i1:=zh c k (o:=0) ab (by rw[dA k];omega);have i2:=zh l k (o:=0) ab (by rw[dA k];omega);rw[show(nth A r+(j:Int)).toNat=(nth A r).toNat+j by omega,show(nth B r+(j:Int)).toNat=(nth B r).toNat+j by omega]at e;exact e.canon.1
 .unfold pJ;apply zu
  .simp[D.len,G.len]
  .intro i h1 K;simp only[r9]at h1 K;simp only[uc];have h:=R.lq i;rw[eL h1,eL K]at h;unfold KY;simp only[rd.mk.injEq];refine⟨h.im,h.pc,h.ia,h.db,h.iw,h.dD,h.hw,?_⟩;apply zu
   .simpa using h.len
   .intro j v g;simp only[r9]at v g;simp only[uc];have q:=h.bK j;rw[rT,rT,rk v,rk g]at q;exact q.canon.1
end
def TN(h:i≠t):(jM p m t).1.ce[i]?=m.ce[i]?:=by
 rw[uR];exact y0 (ls h)
def BT{p:g9}{t:Nat}(u:Int){i:Nat}(h:i≠t): ∀(k:Nat) (m:aN),(gH p t u k m).1.ce[i]?=m.ce[i]?
 |0,m=>rfl
 |k+1,m=>by
  have h1:=TN (p:=p) (m:=m) h;unfold gH;split
  .split
   .exact h1
   .rw[BT u h k,h1]
  .exact h1
def MY(h:i≠t)(n:Int):(dB p m t n).1.ce[i]?=m.ce[i]?:=by
 unfold dB;split
 .exact BT _ h _ _
 .rfl
end Go.Proofs.YtdngefmliibcgaaGreat
