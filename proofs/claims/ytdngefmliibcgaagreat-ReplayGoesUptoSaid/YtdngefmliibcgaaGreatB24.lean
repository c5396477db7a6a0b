import Derived.Test.YtdngefmliibcgaaGreatB23
set_option linter.all false
set_option maxRecDepth 20000
set_option maxHeartbeats 0
namespace Go.Proofs.YtdngefmliibcgaaGreat
open Go Go.Abs Go.Abs.jJ Qf
variable  {q r:io}{mem zv m m':aD}{n k i:Nat}{e:h_}{c c':ac}
def De.l(h:De q):zg q:=⟨by have:=h.args;omega,by have:=h.ap;omega,fun i g=>h.av _ (rx g),fun i g=>h.dv _ (rx g)⟩
def YE{p:g9}{d:Int}{m:aN}(H:cJ p d m)(u:d+64<=1099511627776){t n:Int}(S:0<=t/\t<4)(h:1<=n/\n<=64):cJ p (d+64) (dP p m t n).1/\zg (dP p m t n).2.1:=by
 obtain⟨k,rfl⟩:=jp S.1;by_cases s:(bO m k).im=1
 .obtain⟨J,q,e,h1,_,_,K,_⟩:=uk H u (t:=k) ab h s;rw[e];exact⟨h1,K.l⟩
 .have v:fO p m=true:=(H.mono ab).ok;have j:dB p m k n=(m,3):=by unfold dB;exact if_neg s
  have e:dP p m k n=((jr p m k 3).1,(jr p m k 3).2,0):=by
   unfold dP;rw[if_pos ⟨v,S,h.1,h.2⟩,X7,j]
  have r:jr p m k 3=(m,⟨k,3,if(3:Int)=2 then(bO m k).dD else 0,(bO m k).ia,(bO m k).pc,0,[],[]⟩):=by unfold jr;rw[if_neg aG]
  rw[e,r];exact⟨H.mono ab,ai,ai,fun i g=>by simp at g,fun i g=>by simp at g⟩
def Dw{p:g9}{d:Int}{m:aN}(H:cJ p d m)(t:Int){x:eI}(hx:yN x.iW):cJ p d (jZ p m t x).1:=by
 by_cases h:vF p m t x
 .rw[vG h];have S:=h.2.2.1;exact pG H (tg _) H.mem H.Ia (vz (H.bO (t:=t.toNat) ab) (mu hx))
 .rw[lG h];omega
def QE{p:g9}{d:Int}{m:aN}(H:cJ p d m)(t:Int):cJ p d (jB m t).1:=by
 unfold jB;split
 .rename_i h;have l:=H.len;have hx:=H.bO (t:=t.toNat) ab;have c:=h.2;unfold uT at c;simp only[X8,decide_eq_true_eq]at c;have h1:=hx.db;have K:=hx.pc;exact pG H (tg _) H.mem H.Ia ⟨hx.im,hx.bK,hx.cells,by simp only[Mx];omega,hx.ia,hx.db,by simp only[Mx];omega,hx.dD,hx.hw⟩
 omega
def Vg{p:g9}{d:Int}{ly:iy}{ts:List gc}(k:Int): ∀(l:List fd) (o:Int) (mem z:aD),fg l->cJ p d ⟨ly,mem,ts⟩->wx ly.aK ly.key p.ax k o l mem=some z->cJ p d ⟨ly,z,ts⟩
 | [],o,mem,z,_,H,h=>by cases h;omega
 |c::l,o,mem,z,v,H,h=>by
  rw[oW]at h;split at h
  case isFalse=>cases h
  rename_i m;obtain⟨r,j,i,P,X⟩:=iK.1 m.2;subst i;have L:=H.lay;simp only at L;have e:=L.len;have n:r<ly.aK.length:=ab
  have T:=L.base r n j;obtain⟨av,Z⟩: ∃av:Nat,nth ly.aK r+o=av:=⟨(nth ly.aK r+o).toNat,by rw[dA n];omega⟩;have J:av<512:=by rw[dA n]at Z;omega
  rw[X7,Z,X7]at h;have D:=mu (aK:=ly.aK) (key:=ly.key) (ax:=p.ax) (v c t5);refine Vg r l (o+1) _ z (fun x hx=>v x (u' _ hx)) ?_ h;refine⟨H.prog,H.lay,H.key,H.mem.store J D,H.len,H.lq,fun g=>rM H.mem.mem (H.Ia g) J ?_ _⟩;unfold FJ;rw[<-Z,dA n,qp L n j P X];simp
def UF{p:g9}{d:Int}{m:aN}(H:cJ p d m){x:eI}(hx:fg x.ap)(h:pf p m r x=some mem):cJ p d ⟨m.am,mem,m.ce⟩:=by
 unfold pf at h;split at h
 .split at h
  .exact Vg _ _ _ _ _ hx H h
  grind
 .cases h;omega
def fg.jk{r:io}(h:fg r.args)(i:Nat):yN (jk r i):=by
 unfold Go.Proofs.YtdngefmliibcgaaGreat.jk;by_cases j:i<r.args.length
 .simp[List.getD,j];exact h _ (rx j)
 .simp[List.getD,j];exact⟨ai,ai⟩
def QD{p:g9}{d:Int}{m J:aN}(G:cJ p d m)(W:n<4){x:eI}(a:fg r.args)(hx:qs x)(s: -1<=x.lw/\x.lw<4)(h:tI p m n r x=some J):cJ p d J:=by
 unfold tI at h;split at h
 case isFalse=>cases h
 have o:=mu (aK:=m.am.aK) (key:=m.am.key) (ax:=p.ax) hx.iW;obtain⟨c,k⟩:=x_ ((raw m.am.aK m.am.key p.ax x.iW).1);rw[k]at h o;cases f:pf p m r x with
 |none=>grind
 |some mem=>
  rw[f]at h;have H:=UF G hx.ap f;have h:rW p ⟨m.am,mem,m.ce⟩ n c r x=some J:=h;have t:=H.bO W;have h0:=a.jk 0;unfold rW at h;split at h
  .split at h
   .rename_i q;cases h;exact pG H (tg _) H.mem H.Ia (PM t o ⟨by have:=h0.1;omega,q.2⟩)
   grind
  .split at h
   .split at h
    .rename_i N V;cases h;have P:0<=d:=by have:=t.ia;omega
     have B:=Mu P (pc:=(jk r 0).val) ⟨h0.1,V.2.2.1⟩ (mu (aK:=m.am.aK) (key:=m.am.key) (ax:=p.ax) (a.jk 1));have w:=vz t o;refine⟨H.prog,H.lay,H.key,H.mem,by simp[G.len],fun i j=> ?_,H.Ia⟩;simp only[rm]at j;simp only[r6];split
     .omega
     .split
      .omega
      .exact G.lq i j
    grind
   .cases h;exact pG H (tg _) H.mem H.Ia (vz t o)
def vQ{x:eI}:oA x=true↔lZ x.iW=true/\iH x.ap=true/\x.ap.length<=16/\ -1<=x.lw/\x.lw<4:=by unfold oA<;>grind
def TL{p:g9}{d:Int}{m:aN}(H:cJ p d m){x:eI}(a:fg r.args)(hx:qs x):cJ p d (jN p m r x).1:=by
 by_cases h:qv p m r x
 case neg=>rw[oX h];omega
 have S:=(pj.1 h.2.1).1;have n:r.cw.toNat<4:=ab
 have t:=H.bO n;unfold jN;rw[if_pos h];split
 .refine⟨H.prog,H.lay,H.key,H.mem,by simp[H.len],fun i j=> ?_,H.Ia⟩;simp only[rm]at j;simp only[r6];split
  .exact Mw t (a.jk 0)
  .exact H.lq i j
 .split
  .exact pG H (tg _) H.mem H.Ia (Iv t)
  .cases g:tI p m r.cw.toNat r x with
   |none=>exact H
   |some J=>exact QD H n a hx (vQ.1 h.2.2.2.2.1).2.2.2 g
def rX(p:g9)(m:aN)(e:h_):aN×io×Bool:=eH p m e (gS e)
def qT{p:g9}{d:Int}{m:aN}(G:cJ p d m)(u:d+64<=1099511627776)(a:fg e.il.args)(r:qs e.iL):cJ p (d+64) (eH p m e (gS e)).1/\zg (eH p m e (gS e)).2.1:=by
 have z:zg ep:=⟨by simp[ep],by simp[ep],fun i h=>by simp[ep]at h,fun i h=>by simp[ep]at h⟩;have H:cJ p (d+64) m:=G.mono ab;unfold eH;split
 case isFalse=>grind
 rename_i b;have v:=b.1;split
 .rename_i k;unfold gS Bv at v;simp only[k,if_true,X8,decide_eq_true_eq]at v;exact YE G u ⟨v.1,v.2.1⟩ ⟨v.2.2.1,v.2.2.2.1⟩
 split
 .exact⟨TL H a r,z⟩
 split
 .exact⟨QE H _,z⟩
 .exact⟨Dw H _ r.iW,z⟩
def a5m{A B sz:List Int}{kA kB:Int}(a:fM A sz)(i:fM B sz){c:fd}(hp:proper sz c=true)(m:yN c):xV A kA B kB sz (A1 A kA sz c) (A1 B kB sz c):=by
 have h: ¬proper sz c=false:=by rw[hp];simp
 unfold A1 raw;rw[if_neg h,if_neg h];by_cases t0:c.gs=0
 .rw[if_pos t0,if_pos t0];exact .num _
 rw[if_neg t0,if_neg t0];by_cases t:c.gs=2
 .rw[if_pos t,if_pos t];refine .inr (.inl ⟨rfl,rfl,?_⟩);simp only[Bb];omega
 rw[if_neg t,if_neg t];unfold proper at hp;rw[if_neg ab]at hp;split at hp
 case isFalse=>cases hp
 simp only[X8,decide_eq_true_eq]at hp;obtain⟨k,y,d,r,o⟩:=iK.1 hp.2;have a1:k<A.length:=by rw[a.len];exact y
 have b:k<B.length:=by rw[i.len];exact y
 have j:=a.base k a1 y;have q:=i.base k b y;rw[d,X7];have e:=xV.ptr (kA:=kA) (kB:=kB) a i y r o;rw[dA a1,dA b]at e⊢;simp only[Bb];rw[Dj ab ab,Dj ab ab];exact e
def IX(cells:List ac)(a:Nat):look ⟨cells,fp⟩ a=cells.getD a ⟨0,0⟩:=by
 have e:(eZ ⟨cells,fp⟩ (a/4 % 4)).gs= -1:=by
  have:a/4 % 4=0\/a/4 % 4=1\/a/4 % 4=2\/a/4 % 4=3:=ab
  rcases this with h|h|h|h<;>rw[h]<;>rfl
 rw[look_eq,e,if_neg ab]
def Dy{aK sz:List Int}{key:Int}(L:fM aK sz)(m:iD c)(w:KX (canon aK key sz c)=false):proper sz (canon aK key sz c)=true:=by
 revert w;unfold canon;split
 .intro _;simp[proper]
 split
 .intro _;simp[proper]
 split
 .rename_i h;obtain⟨k,y,t,e,M,b⟩:=jn h;intro _;rw[e];have:inside sz (k:Int) (c.val-aK[k])=true:=iK.2 ⟨k,t,rfl,ab,ab⟩;simp[proper,this]
 .intro w;simp[KX]at w
def Zz(bs:List Int)(key:Int)(sz:List Int)(x:fd):(raw bs key sz x).2=if proper sz x=true then 0 else 1:=by unfold raw<;>grind
def kI{bs:List Int}{key:Int}{sz:List Int}{x:fd}:(raw bs key sz x).2=0↔proper sz x=true:=by
 rw[Zz];grind
section
variable {A:List Int} {kA:Int} {B:List Int} {kB:Int} {sz:List Int}
theorem Gl(a:fM A sz)(i:fM B sz){x:fd}(hx:yN x)(h:proper sz x=true):xV A kA B kB sz (raw A kA sz x).1 (raw B kB sz x).1:=a5m a i h hx
theorem ox(ly:iy)(mem:aD)(ts:List gc)(t u:Nat)(x:gc):bO ⟨ly,mem,ts.set t x⟩ u=if t=u/\t<ts.length then x else ts.getD u cT:=by
 unfold bO;grind
theorem RM.set{a b:aN}(R:RM kA kB sz A B a b)(l:a.ce.length=b.ce.length)(h:vl A kA B kB sz mem zv)(ca:Bw mem)(cb:Bw zv){x x':gc}(hx:uE A kA B kB sz x x')(t:Nat):RM kA kB sz A B (ie a mem t x) (ie b zv t x'):=
 ⟨R.yV,R.FR,h,ca,cb,fun u=>by
  unfold ie;rw[ox,ox,l];split
  .omega
  .exact R.lq u⟩
theorem RM.OJ{a b:aN}(R:RM kA kB sz A B a b)(h:vl A kA B kB sz mem zv)(ca:Bw mem)(cb:Bw zv):RM kA kB sz A B ⟨a.am,mem,a.ce⟩ ⟨b.am,zv,b.ce⟩:=⟨R.yV,R.FR,h,ca,cb,R.lq⟩
section
variable {x x':gc}
theorem uE.Ml(h:uE A kA B kB sz x x')(m:xV A kA B kB sz c c')(i:Nat):xV A kA B kB sz ((x.bK.set 0 c).getD i ⟨0,0⟩) ((x'.bK.set 0 c').getD i ⟨0,0⟩):=by
 rw[Bc,Bc,h.len];split
 .omega
 .exact h.bK i
theorem uE.jY(h:uE A kA B kB sz x x'){c c':ac}(m:xV A kA B kB sz c c'):uE A kA B kB sz (jY x c) (Go.Proofs.YtdngefmliibcgaaGreat.jY x' c'):=
 ⟨rfl,h.pc,h.ia,h.db,h.iw,h.dD,h.hw,by simp[Go.Proofs.YtdngefmliibcgaaGreat.jY,h.len],h.Ml m⟩
theorem uE.wv(h:uE A kA B kB sz x x'){c c':ac}(m:xV A kA B kB sz c c')(n:Int):uE A kA B kB sz (wv x c n) (Go.Proofs.YtdngefmliibcgaaGreat.wv x' c' n):=
 ⟨rfl,h.pc,h.ia,rfl,h.iw,h.dD,h.hw,by simp[Go.Proofs.YtdngefmliibcgaaGreat.wv,h.len],h.Ml m⟩
theorem uE.xJ(h:uE A kA B kB sz x x')(n:Int):uE A kA B kB sz (xJ x n) (Go.Proofs.YtdngefmliibcgaaGreat.xJ x' n):=⟨rfl,h.pc,h.ia,h.db,h.iw,rfl,rfl,h.len,h.bK⟩
theorem uE.sI(h:uE A kA B kB sz x x'):uE A kA B kB sz (sI x) (Go.Proofs.YtdngefmliibcgaaGreat.sI x'):=⟨rfl,h.pc,h.ia,h.db,h.iw,h.dD,h.hw,h.len,h.bK⟩
theorem uE.Mx(h:uE A kA B kB sz x x'):uE A kA B kB sz (Mx x) (Go.Proofs.YtdngefmliibcgaaGreat.Mx x'):=⟨h.im,h.db,h.ia,h.db,h.pc,h.dD,h.hw,h.len,h.bK⟩
theorem uE.vE{c c':ac}(h:xV A kA B kB sz c c')(n:Int):uE A kA B kB sz (vE n c) (Go.Proofs.YtdngefmliibcgaaGreat.vE n c'):=
 ⟨rfl,rfl,rfl,rfl,rfl,rfl,rfl,rfl,fun i=>by
  unfold Go.Proofs.YtdngefmliibcgaaGreat.vE;cases i with
  |zero=>grind
  |succ i=>
   simp only[yZ];rw[show(List.replicate 7 (⟨0,0⟩:ac)).getD i ⟨0,0⟩=⟨0,0⟩ by grind];exact .num 0⟩
end
theorem a5o{a b:aN}(R:RM kA kB sz A B a b)(l:a.ce.length=b.ce.length)(t:Int):(jB a t).2=(jB b t).2/\RM kA kB sz A B (jB a t).1 (jB b t).1:=by
 have h:=R.lq t.toNat;have e:uT (bO a t.toNat)=uT (bO b t.toNat):=by unfold uT;rw[h.im,h.db,h.iw]
 unfold jB;rw[e,l];split
 .exact⟨rfl,R.set l R.mem R.ca R.cb h.Mx _⟩
 grind
end
section
variable {A:List Int} {kA:Int} {B:List Int} {kB:Int} {p:g9} {d:Int} {a b:aN}
theorem QA(c:fM A p.ax)(i:fM B p.ax)(R:RM kA kB p.ax A B a b)(W:fO p a=true)(f:fO p b=true)(l:a.ce.length=b.ce.length)(t:Int){x:eI}(hx:yN x.iW):
  (jZ p a t x).2=(jZ p b t x).2/\RM kA kB p.ax A B (jZ p a t x).1 (jZ p b t x).1:=by
 have e:vF p a t x↔vF p b t x:=by
  unfold vF;rw[W,f,(R.lq t.toNat).im,kI,kI]
 by_cases h:vF p a t x
 .rw[vG h,vG (e.1 h)];refine⟨rfl,R.set l R.mem R.ca R.cb ((R.lq t.toNat).jY ?_) _⟩;rw[R.yV,R.FR];exact Gl c i hx (kI.1 h.2.2.2.2)
 .rw[lG h,lG (fun g=>h (e.2 g))];grind
theorem Ue{sz:List Int}(a:fM A sz)(i:fM B sz)(D:su m)(G:su m')(h:vl A kA B kB sz m m')(ca:Bw m)(cb:Bw m')(y:k<sz.length){o:Int}(x:0<=o)(u:o<nth sz k)(p:xV A kA B kB sz c c'):
  vl A kA B kB sz (ke m (nth A k+o).toNat c) (ke m' (nth B k+o).toNat c')/\Bw (ke m (nth A k+o).toNat c)/\Bw (ke m' (nth B k+o).toNat c'):=by
 have N:=zh a y x u;have V:=zh i y x u;refine⟨fun k2 s H n g=> ?_,rM D ca ab (fun e=>e) _,rM G cb ab (fun e=>e) _⟩;rw[yF D ca ab,yF G cb ab];have i1:=zh a s n g;have i2:=zh i s n g;by_cases e:k2=k/\H=o
 .grind
 .rw[if_neg (fun q=>e (IW a s y n g x u ab)),if_neg (fun q=>e (IW i s y n g x u ab))];exact h k2 s H n g
def Mk(A:List Int)(kA:Int)(B:List Int)(kB:Int)(sz:List Int)(x y:Option aD):Prop:=(x=none/\y=none)\/ ∃m J,x=some m/\y=some J/\vl A kA B kB sz m J/\Bw m/\Bw J
theorem Vi{sz:List Int}(a:fM A sz)(i:fM B sz)(r:Int): ∀(l:List fd) (o:Int) (m J:aD),fg l->qo m->qo J->vl A kA B kB sz m J->Bw m->Bw J->Mk A kA B kB sz (wx A kA sz r o l m) (wx B kB sz r o l J)
 | [],o,m,J,_,_,_,h,ca,cb=> .inr ⟨m,J,rfl,rfl,h,ca,cb⟩
 |c::l,o,m,J,v,D,G,h,ca,cb=>by
  rw[oW,oW];by_cases g:proper sz c=true/\inside sz r o=true
  case neg=>rw[if_neg d_,if_neg d_];exact .inl ⟨rfl,rfl⟩
  rw[if_pos d_,if_pos d_];obtain⟨k,y,rfl,s,z⟩:=iK.1 g.2;rw[X7];have p:=v c t5;have n:o<nth sz k:=by rw[dA y];exact z
  have N:=zh a y s n;have q:=zh i y s n;obtain⟨b,j,t⟩:=Ue a i D.mem G.mem h ca cb y s n (Gl (kA:=kA) (kB:=kB) a i p g.1);exact Vi a i (k:Int) l (o+1) _ _ (fun x hx=>v x (u' _ hx)) (D.store ab (mu p)) (G.store ab (mu p)) b j t
theorem Ud(c:fM A p.ax)(h:fM B p.ax)(R:RM kA kB p.ax A B a b)(D:qo a.gt)(G:qo b.gt)(r:io){x:eI}(hx:fg x.ap):Mk A kA B kB p.ax (pf p a r x) (pf p b r x):=by
 unfold pf;rw[R.yV,R.FR];split
 .split
  .exact Vi c h _ _ _ _ _ hx D G R.mem R.ca R.cb
  .exact qa
 .exact .inr ⟨_,_,rfl,rfl,R.mem,R.ca,R.cb⟩
def za(A:List Int)(kA:Int)(B:List Int)(kB:Int)(sz:List Int)(x y:Option aN):Prop:=(x=none/\y=none)\/ ∃m J,x=some m/\y=some J/\RM kA kB sz A B m J
theorem za.some{sz:List Int}{m J:aN}(h:RM kA kB sz A B m J):za A kA B kB sz (some m) (Option.some J):= .inr ⟨m,J,rfl,rfl,h⟩
theorem Qd(d:fM A p.ax)(i:fM B p.ax)(R:RM kA kB p.ax A B a b)(l:a.ce.length=b.ce.length)(m:xV A kA B kB p.ax c c')(C:fg r.args)(n:Nat)(x:eI):za A kA B kB p.ax (rW p a n c r x) (rW p b n c' r x):=by
 have T:=R.lq n;unfold rW;split
 .split
  .exact .some (R.set l R.mem R.ca R.cb (T.wv m _) _)
  .exact qa
 split
 .have s:=(R.lq x.lw.toNat).im;by_cases h:proper p.ax (jk r 1)=true/\(bO b x.lw.toNat).im=0/\(jk r 0).val<=255/\(jk r 0).gs=0
  .rw[if_pos (by rw[kI,s];exact h),if_pos (by rw[kI];exact h)];have h1:=Gl (kA:=kA) (kB:=kB) d i (C.jk 1) h.1;have M:=R.set l R.mem R.ca R.cb (uE.vE h1 (jk r 0).val) x.lw.toNat;rw[R.yV,R.FR];have:=M.set (by simp[ie,l]) R.mem R.ca R.cb (T.jY m) n;unfold ie at this;simp only[R.yV,R.FR]at this;exact .some this
  .rw[if_neg (by rw[kI,s];exact h),if_neg (by rw[kI];exact h)];exact qa
 .exact .some (R.set l R.mem R.ca R.cb (T.jY m) _)
theorem Qb(c:fM A p.ax)(h:fM B p.ax)(R:RM kA kB p.ax A B a b)(D:qo a.gt)(G:qo b.gt)(l:a.ce.length=b.ce.length)(C:fg r.args){x:eI}(hx:qs x)(n:Nat):za A kA B kB p.ax (tI p a n r x) (tI p b n r x):=by
 unfold tI;by_cases g:proper p.ax x.iW=true
 case neg=>rw[if_neg d_,if_neg d_];exact .inl ⟨rfl,rfl⟩
 rw[if_pos (kI.2 g),if_pos (kI.2 g)];have o:=Gl (kA:=kA) (kB:=kB) c h hx.iW g;rcases Ud c h R D G r hx.ap with⟨i,e⟩|⟨m,J,i,e,d,j,s⟩
 .rw[i,e];exact qa
 .rw[i,e];have M:=R.OJ d j s;rw[R.yV,R.FR]at M⊢;exact Qd c h M l o C n x
theorem a5q(c:fM A p.ax)(j:fM B p.ax)(R:RM kA kB p.ax A B a b)(D:qo a.gt)(G:qo b.gt)(W:fO p a=true)(f:fO p b=true)(l:a.ce.length=b.ce.length)(C:fg r.args){x:eI}(hx:qs x):
  (jN p a r x).2=(jN p b r x).2/\RM kA kB p.ax A B (jN p a r x).1 (jN p b r x).1:=by
 have T:=R.lq r.cw.toNat;have e:qv p a r x↔qv p b r x:=by unfold qv;rw[W,f,T.im]
 by_cases h:qv p a r x
 case neg=>rw[oX h,oX fun g=>h (e.2 g)];grind
 unfold jN;rw[if_pos h,if_pos (e.1 h)];split
 .exact⟨rfl,R.set l R.mem R.ca R.cb (T.xJ _) _⟩
 split
 .exact⟨rfl,R.set l R.mem R.ca R.cb T.sI _⟩
 .rcases Qb c j R D G l C hx r.cw.toNat with⟨i,q⟩|⟨m,J,i,q,K⟩
  .rw[i,q];exact⟨rfl,R⟩
  .rw[i,q];exact⟨rfl,K⟩
theorem uE.args{sz:List Int}{x x':gc}(h:uE A kA B kB sz x x')(n:Nat):dW A kA sz x.bK n=dW B kB sz x'.bK n:=by
 unfold dW;refine zu (by simp[h.len]) fun i h1 K=> ?_;simp only[r9,sr]at h1 K;have q:=h.bK i;rw[rT,rT,rk ab,rk ab]at q;simp only[uc,C'];exact q.canon.1
theorem uE.tags{sz:List Int}{x x':gc}(h:uE A kA B kB sz x x')(n:Nat):(x.bK.take n).map (·.gs)=(x'.bK.take n).map (·.gs):=by
 refine zu (by simp[h.len]) fun i h1 K=> ?_;simp only[r9,sr]at h1 K;have q:=h.bK i;rw[rT,rT,rk ab,rk ab]at q;simp only[uc,C'];exact q.gs
theorem Dz: ∀{k:List UInt8} {l:List Int},gr k l=true-> ∀i (h:i<k.length),wh (k[i]).toNat (l.getD i 0)=true
 | [],_,_,i,h=>aj
 |a::k,[],f,_,_=>by simp[gr]at f
 |a::k,b::l,f,i,h=>by
  simp only[gr,X8]at f;cases i with
  |zero=>grind
  |succ i=>exact Dz f.2 i aj
theorem Vj{bK:List ac}(h:i<n)(r:i<bK.length):((bK.take n).map (·.gs)).getD i 0=(bK.getD i ⟨0,0⟩).gs:=aj
theorem Bd{c:Int}(h:0<kv c):c=1\/c=2\/c=13\/c=14:=by unfold kv at h;grind
theorem DA{c:Int}{bK:List ac}(r:bK.length=8)(h:gr (dc c) ((bK.take (dc c).length).map (·.gs))=true):
  (0<kv c->(bK.getD 1 ⟨0,0⟩).gs=1/\(bK.getD 2 ⟨0,0⟩).gs=0)/\(c=10\/c=12->(bK.getD 0 ⟨0,0⟩).gs=0):=by
 refine⟨fun b=> ?_,fun m=> ?_⟩
 .have S:(dc c).length=3/\(dc c)[1]?=some 80/\(dc c)[2]?=some 78:=by
   rcases Bd b with rfl|rfl|rfl|rfl<;>decide
  obtain⟨l,k1,k2⟩:=S;have a1:=Dz h 1 ab;have a2:=Dz h 2 ab;rw[Vj ab ab]at a1 a2;rw[(DG _).2 k1]at a1;rw[(DG _).2 k2]at a2;exact⟨by simpa[wh] using a1,by simpa[wh] using a2⟩
 .have S:0<(dc c).length/\(dc c)[0]?=some 78:=by rcases m with rfl|rfl<;>decide
  obtain⟨l,k1⟩:=S;have a1:=Dz h 0 l;rw[Vj ab ab,(DG _).2 k1]at a1;simpa[wh] using a1
theorem T'{x x':gc}(r:x'.bK.length=8)(h:uE A kA B kB p.ax x x')(n:Nat)(c:Int):qn A p.ax n c x.bK=qn B p.ax n c x'.bK:=by
 unfold qn;rw[h.tags];by_cases f:gr (dc c) ((x'.bK.take (dc c).length).map (·.gs))=false
 .grind
 obtain⟨H,P⟩:=DA r (by simpa using f);have K:=h.bK 0;have S:=h.bK 1;have T:=h.bK 2;have i:(0<kv c/\((iA A p.ax (x.bK.getD 1 ⟨0,0⟩) (x.bK.getD 2 ⟨0,0⟩).val).2≠0\/16<(x.bK.getD 2 ⟨0,0⟩).val))↔(0<kv c/\((iA B p.ax (x'.bK.getD 1 ⟨0,0⟩) (x'.bK.getD 2 ⟨0,0⟩).val).2≠0\/16<(x'.bK.getD 2 ⟨0,0⟩).val)):=by
  refine and_congr_right fun b=> ?_;rw[T.val (T.gs.trans (H b).2),YS S]
 have e:((c=10\/c=12)/\(n:Int)<=(x.bK.getD 0 ⟨0,0⟩).val)↔((c=10\/c=12)/\(n:Int)<=(x'.bK.getD 0 ⟨0,0⟩).val):=by
  refine and_congr_right fun m=> ?_;rw[K.val (K.gs.trans (P m))]
 grind
theorem a5r{sz:List Int}(a:fM A sz)(i:fM B sz)(M:vl A kA B kB sz mem zv)(m:xV A kA B kB sz c c'){n:Int}(h:(iA A sz c n).2=0):jL A kA sz mem c.val.toNat n.toNat=jL B kB sz zv c'.val.toNat n.toNat:=by
 have S:=xE a h;rcases m with⟨t,_⟩|⟨t,_⟩|⟨t,G,k,o,y,r,r'⟩
 .omega
 .omega
 obtain⟨p,x,u⟩:=wA a y r;obtain⟨v,E,N⟩:=wA i y r';have W:n<=nth sz k-o:=by
  unfold iA at h;rw[if_pos t,r]at h;simp only[if_true,X7]at h;rw[if_neg ab]at h;split at h
  .omega
  .omega
 have b:=zh i y x u;refine w5 fun j q=> ?_;have q:=List.mem_range.1 q;have:=M k y (o+j) ab ab;rw[p,v,show(nth A k+o).toNat+j=(nth A k+(o+(j:Int))).toNat by omega,show(nth B k+o).toNat+j=(nth B k+(o+(j:Int))).toNat by omega];exact this.canon.1
theorem P'(j:fM A p.ax)(i:fM B p.ax)(R:RM kA kB p.ax A B a b)(D:cJ p d a)(L:cJ p d b)(x:d+64<=1099511627776){t n:Int}(U:0<=t/\t<4)(W:1<=n/\n<=64):
  (dP p a t n).2=(dP p b t n).2/\RM kA kB p.ax A B (dP p a t n).1 (dP p b t n).1:=by
 have F:fO p a=true:=(D.mono ab).ok;have N:fO p b=true:=(L.mono ab).ok;obtain⟨t,rfl⟩:=jp U.1;have G:t<4:=ab
 have v: ∀{m:aN},cJ p d m->cJ p (d+64) (dB p m t n).1:=fun{m} H=>by
  by_cases M:(bO m t).im=1
  .exact(tF H G W.1 M).ny.mono ab
  .have e:dB p m t n=(m,3):=if_neg M;rw[e];exact H.mono ab
 have P:=v D;have g:=v L;obtain⟨es,S⟩:=Uh j i rfl G R D L W.1;unfold dP;rw[if_pos ⟨F,U,W⟩,if_pos ⟨N,U,W⟩,X7];obtain⟨⟨f,s⟩,l⟩: ∃r,dB p a t n=r:=⟨_,rfl⟩;obtain⟨⟨k,s'⟩,u⟩: ∃r,dB p b t n=r:=⟨_,rfl⟩;rw[l,u]at es S;rw[l]at P⊢;rw[u]at g⊢;subst es;have T:=S.lq t;have y:f.ce.length=k.ce.length:=by rw[P.len,g.len]
 have V:kf p (bO f t)=kf p (bO k t):=by unfold kf;rw[T.pc]
 have w:wU p f (bO f t)=wU p k (bO k t):=by
  unfold wU;rw[S.yV,S.FR,V];exact T' (g.bO G).bK T _ _
 unfold jr;by_cases c:s=1
 .rw[if_pos c,if_pos c];by_cases h:wU p f (bO f t)=0
  .rw[if_pos h,if_pos (w▸h)];refine⟨?_,S⟩;have z:qn f.am.aK p.ax p.hw.length (kf p (bO f t)) (bO f t).bK=0:=h;have q:=rO z;rw[S.yV,V]at q;have eq:xD p f (bO f t) t=xD p k (bO k t) t:=by
    unfold xD;rw[V,T.ia,T.pc,S.yV,S.FR];simp only;rw[T.args];by_cases C:kv (kf p (bO k t))=1
    .have O:=q.2 ab;have K:=(DA (g.bO G).bK (by rw[<-T.tags];exact q.1)).1 ab;have o:=T.bK 2;rw[a5r j i S.mem (T.bK 1) O.1,o.val (o.gs.trans K.2)]
    .grind
   grind
  .rw[if_neg h,if_neg (w▸h),<-w];refine⟨?_,S.set y S.mem S.ca S.cb (T.fQ rfl) _⟩;rw[T.ia,T.pc]
 .rw[if_neg c,if_neg c];refine⟨?_,S⟩;rw[T.ia,T.pc,T.dD]
theorem u7{m:aN}(h:gS e=true)(O:fO p m=true):eH p m e (gS e)=if e.kind=1 then((dP p m e.cw e.n).1,(dP p m e.cw e.n).2.1,true)
     else if e.kind=2 then((jN p m e.il e.iL).1,ep,(jN p m e.il e.iL).2)
     else if e.kind=3 then((jB m e.cw).1,ep,(jB m e.cw).2)
     else((jZ p m e.cw e.iL).1,ep,(jZ p m e.cw e.iL).2):=by unfold eH<;>grind
theorem Zv{m:aN}(h:gS e=true)(O:fO p m=true)(k:e.kind=1):eH p m e (gS e)=((dP p m e.cw e.n).1,(dP p m e.cw e.n).2.1,true):=by rw[u7 h O,if_pos k]
theorem Zu{m:aN}(h:gS e=true)(O:fO p m=true)(k:e.kind=2):eH p m e (gS e)=((jN p m e.il e.iL).1,ep,(jN p m e.il e.iL).2):=by rw[u7 h O,if_neg ab,if_pos k]
theorem Zo{m:aN}(h:gS e=true)(O:fO p m=true)(k:e.kind=3):eH p m e (gS e)=((jB m e.cw).1,ep,(jB m e.cw).2):=by rw[u7 h O,if_neg ab,if_neg ab,if_pos k]
theorem Zl{m:aN}(h:gS e=true)(O:fO p m=true)(k:e.kind=4):eH p m e (gS e)=((jZ p m e.cw e.iL).1,ep,(jZ p m e.cw e.iL).2):=by rw[u7 h O,if_neg ab,if_neg ab,if_neg ab]
theorem Lh{m:aN}(h: ¬gS e=true):eH p m e (gS e)=(m,ep,false):=by unfold eH<;>grind
theorem Vk(c:fM A p.ax)(i:fM B p.ax)(R:RM kA kB p.ax A B a b)(D:cJ p d a)(G:cJ p d b)(u:d+64<=1099511627776)(W:fg e.il.args)(r:qs e.iL):
  (eH p a e (gS e)).2=(eH p b e (gS e)).2/\RM kA kB p.ax A B (eH p a e (gS e)).1 (eH p b e (gS e)).1:=by
 have F:fO p a=true:=(D.mono ab).ok;have m:fO p b=true:=(G.mono ab).ok;have l:a.ce.length=b.ce.length:=by rw[D.len,G.len]
 by_cases h:gS e=true
 case neg=>rw[Lh h,Lh h];grind
 rw[u7 h F,u7 h m];by_cases k1:e.kind=1
 .rw[if_pos k1,if_pos k1];unfold gS Bv at h;simp only[k1,if_true,X8,decide_eq_true_eq]at h;obtain⟨N,q⟩:=P' c i R D G u (t:=e.cw) (n:=e.n) ⟨h.1,h.2.1⟩ ⟨h.2.2.1,h.2.2.2.1⟩<;>grind
 rw[if_neg k1,if_neg k1];by_cases k2:e.kind=2
 .rw[if_pos k2,if_pos k2];obtain⟨N,q⟩:=a5q c i R D.mem G.mem F m l W r<;>grind
 rw[if_neg k2,if_neg k2];by_cases k3:e.kind=3
 .rw[if_pos k3,if_pos k3];obtain⟨N,q⟩:=a5o R l e.cw<;>grind
 rw[if_neg k3,if_neg k3];obtain⟨N,q⟩:=QA c i R F m l e.cw r.iW<;>grind
theorem H_(hp:o9 p)(a:fM A p.ax)(i:fM B p.ax){k:Nat}(y:k<p.ax.length){o:Int}(h0:0<=o)(h1:o<nth p.ax k): ∀r,r<=p.ap.length->(pa p A r).getD (nth A k+o).toNat ⟨0,0⟩=(pa p B r).getD (nth B k+o).toNat ⟨0,0⟩
 |0,_=>by rw[xu,xu];grind
 |r+1,C=>by
  have j:=H_ hp a i y h0 h1 r ab;have U:r<p.ap.length:=ab
  have h:r<p.ax.length:=by have:=hp.len;omega
  have Q:=hp.ap r U h;have key: ∀{b:List Int},fM b p.ax->(pa p b (r+1)).getD (nth b k+o).toNat ⟨0,0⟩=if k=r/\o<(p.ap[r]).length then⟨((pa p b r).getD (nth b k+o).toNat ⟨0,0⟩).gs,nth p.ap[r] o.toNat⟩ else(pa p b r).getD (nth b k+o).toNat ⟨0,0⟩:=by
   intro b L;have N:=zh L y h0 h1;have M:r<b.length:=by rw[L.len];exact h
   have V:=L.base r M h;have d:nth b r=b[r]:=dA M;have q:=C6 p b r;rw[Mf _ _ U,rT,MU _ _ _ _ (iX _) ab];by_cases e:k=r/\o<(p.ap[r]).length
   .grind
   .rw[if_neg,if_neg e,rT];intro g;refine e ?_;have:=IW L y h h0 h1 (o2:=nth b k+o-nth b r) ab (by rw[dA h];omega) ab;omega
  grind
theorem uE.zero{sz:List Int}{x:gc}(h: ∀i,x.bK.getD i ⟨0,0⟩=⟨0,0⟩):uE A kA B kB sz x x:=⟨rfl,rfl,rfl,rfl,rfl,rfl,rfl,rfl,fun i=>by rw[h i];exact .num 0⟩
theorem MW(hp:o9 p)(a:fM A p.ax)(j:fM B p.ax):RM kA kB p.ax A B (dx p ⟨A,kA⟩) (dx p ⟨B,kB⟩):=by
 refine⟨rfl,rfl,fun k h o h0 h1=> ?_,D7 _ _,D7 _ _,fun t=> ?_⟩
 .unfold dx;rw[IX,IX];have e:=H_ hp a j h h0 h1 p.ap.length (iX _);have t0:((pa p A p.ap.length).getD (nth A k+o).toNat ⟨0,0⟩).gs=0:=by
   have:=IT p A p.ap.length
   grind
  rw[<-e];exact .inl ⟨t0,t0,rfl⟩
 .have e:bO (dx p ⟨A,kA⟩) t=bO (dx p ⟨B,kB⟩) t:=rfl;refine .zero fun i=> ?_;unfold bO dx;match t with
  |0|1|2|3=>grind
  |t+4=>simp[cT]
end
end Go.Proofs.YtdngefmliibcgaaGreat
