import Derived.Test.YtdngefmliibcgaaGreatB25
set_option linter.all false
set_option maxRecDepth 20000
set_option maxHeartbeats 0
namespace Go.Proofs.YtdngefmliibcgaaGreat
open Go Go.Abs Go.Abs.jJ Qf
variable  {s s':RS}{sg:Bool}{f:cn}{x:eI}
def IY(n:Int):lZ ⟨0,n,0,0⟩=true:=by simp[lZ]
def TM(n:Int)(ok:Bool):lZ (ky n ok).iW=true:=by exact IY _
def oy(n:Int)(ok:Bool):oA (ky n ok)=true:=vQ.2 ⟨TM n ok,rfl,by simp[ky],by simp[ky],by simp[ky]⟩
def ur(n s:Int)(w:Bool)(h: -1<=s/\s<4):oA ⟨⟨0,n,0,0⟩,[],s,w⟩=true:=vQ.2 ⟨IY _,rfl,ai,h⟩
theorem YF(f:cn)(h:Int){n:Int}(W:n<=16):(oJ f h n).2.1.length<=16:=by
 unfold oJ;split
 .simp only[sr];unfold BJ<;>grind
 .simp
theorem YG(l:List (List Int))(s:Int){n:Int}(h:n<=16):(oq l s n).2.1.length<=16:=by
 unfold oq;split
 .simp
 .simp only[r9,sr];unfold E5<;>grind
def P_(l:List Int):iH (l.map Ag)=true:=by
 unfold iH;rw[rZ];intro c h;obtain⟨x,_,rfl⟩:=List.mem_map.1 h;exact IY _
def T_(l:List (List Int))(s n:Int):iH (oq l s n).2.1=true:=by
 unfold oq;split
 .rfl
 .exact P_ _
theorem MX{q:io}(S:q.args.length=3)(v:fg q.args):dI (tH q) 2=dI q 2:=by
 have h:2<q.args.length:=ab
 have b:=v _ (rx h);have i:dI q 2=(q.args[2]).val:=by simp[dI,List.getD,h]
 have e:dI (tH q) 2=pM q.args q.args.length 2:=rfl;rw[i,e];unfold pM;rw[if_pos h,show q.args.getD 2 ⟨0,0,0,0⟩=q.args[2] from aj];exact wrap_i64 (by have:=b.1;have:=b.2;omega)
def a5s{o:dw}(f:rR o){q:io}(u:De q):rR (uu o q).1/\qs (uu o q).2.1/\oA (uu o q).2.1=true:=by
 by_cases h:lB o/\w0 q=true
 case neg=>rw[Ck h];exact⟨.inr rfl,qz,aG⟩
 rw[To h];obtain⟨M,U,d,k,b⟩:=wu.1 h.2;have C:=A6 M;have l:=vx h.1 (r:=tH q) C.1 u.dv;refine⟨.inl l.1,l.2,?_⟩;have v:q.args.length=(dc q.call).length:=by have:=Ak _ _ k;simpa using this
 have c:(tH q).call=q.call:=rfl;unfold rz;rw[c];split
 .exact oy _ _
 split
 .rename_i e;have Q:q.args.length=3:=by rw[v,e];rfl
  have K:dI (tH q) 2<=16:=by
   exact qh
  exact vQ.2 ⟨TM _ _,(PB h.1.p.iG _ _).2.2,YF _ _ K,ai,ai⟩
 split
 .split
  .exact vQ.2 ⟨by simp[lZ],rfl,ai,ai,ai⟩
  .exact oy _ _
 split
 .exact oy _ _
 split
 .exact oy _ _
 split
 .split<;>exact oy _ _
 split
 .split<;>exact oy _ _
 split
 .exact oy _ _
 .have e:q.call=14:=ab
  have Q:q.args.length=3:=by rw[v,e];rfl
  have K:dI (tH q) 2<=16:=by
   exact qh
  exact vQ.2 ⟨TM _ _,T_ _ _ _,YG _ _ K,ai,ai⟩
theorem Vl{ts:List gc}{o:dw}{l:cO}{js:List Int}{q:io}(h:rR o)(G:iN l)(j:js.length=4)(u:De q)(t:0<=q.cw/\q.cw<4):
  rR (ot ts o l js q).1/\iN (ot ts o l js q).2.1/\(ot ts o l js q).2.2.1.length=4/\qs (ot ts o l js q).2.2.2/\oA (ot ts o l js q).2.2.2=true:=by
 have n: ∀s w,qs ⟨⟨0,0,0,0⟩,[],s,w⟩:=fun s w=>⟨⟨ai,ai⟩,.nil,ai⟩;unfold ot;split
 .exact q0
 split
 .refine⟨h,Py G _ t,j,?_,?_⟩
  .split
   .exact iY _ _
   split
   .exact n _ _
   grind
  .split
   .exact oy _ _
   split
   .exact qt
   .exact qt
 split
 .exact⟨h,(xG G _ _).1,j,iY _ _,oy _ _⟩
 split
 .have f: ∀z:Int,qs ⟨⟨0,IntKind.u16.wrap z,0,0⟩,[],z,false⟩:=fun z=>⟨nY _,.nil,ai⟩;refine⟨h,G,j,?_,?_⟩
  .unfold tJ;repeat' split
   .grind
   .grind
   .grind
   .grind
   .exact iY _ _
  .unfold tJ;repeat' split
   .exact qt
   .exact qt
   .exact qt
   .exact qt
   .exact oy _ _
 split
 .split
  .exact q0
  split
  .exact q0
  .exact⟨h,G,aj,n _ _,ur _ _ _ ab⟩
 .have:=a5s h u
  grind
structure Az (p:g9) (d:Int) (s:RS):Prop where
 ny:cJ p d s.1
 outs:rR s.2.1
 nc:iN s.2.2.1
 Cp:s.2.2.2.1.length=4
 Qm: ∀e∈s.2.2.2.2,Eo e
def Az.mono{p:g9}{d d':Int}{s:RS}(h:Az p d s)(u:d<=d'):Az p d' s:=⟨h.ny.mono u,h.outs,h.nc,h.Cp,h.Qm⟩
theorem vS{P:h_->Prop}{l:List h_}{x:h_}(h: ∀e∈l,P e)(hx:P x): ∀e∈l++ [x],P e:=fun e C=>aj
def T9{p:g9}{d:Int}{m:aN}{o:dw}{l:cO}{js:List Int}{rc:List h_}(H:Az p d (m,o,l,js,rc)){q:io}(h:De q)(b:ko q=true)(h1:q.j'=1):Az p d (sL p m o l js rc q):=by
 have t:=(pj.1 b).1;obtain⟨G,O,W,f,n⟩:=Vl (ts:=m.ce) (q:=q) H.outs H.nc H.Cp h t;obtain⟨P,r⟩:=x_ (ot m.ce o l js q);simp only[r]at G O W f n;have E:=H4 b h h1 f n;have M:=TL H.ny h.av f;have g: ∀own:Int,own<4->Az p d (An p m rc q P own):=fun own i=>by
  unfold An;split
  .refine⟨Dw M _ ⟨ai,ai⟩,G,O,W,fun e C=> ?_⟩;rw[show rc++ [xO q P.2.2.2,qE own 0]=(rc++ [xO q P.2.2.2])++ [qE own 0] from ai]at C;exact vS (vS H.Qm E) (Gk ⟨ab,i⟩ ab) e C
  .exact⟨M,G,O,W,vS H.Qm E⟩
 unfold sL;rw[r];refine g _ ?_;split
 .exact(xG H.nc _ _).2.2
 omega
def Qn{p:g9}{d:Int}: ∀(l:List Int) (s:aN×List h_),(∀x∈l,0<=x/\x<4)->cJ p d s.1->(∀e∈s.2,Eo e)->cJ p d (jG p s l).1/\ ∀e∈ (jG p s l).2,Eo e
 | [],s,_,h1,h=>⟨h1,h⟩
 |x::l,s,hx,h1,h=>Qn l (um p s x 0) (fun y G=>hx y (u' _ G)) (Dw h1 _ ⟨ai,ai⟩) (vS h (Gk (hx x t5) ab))
theorem Qo{p:g9}{d:Int}{t:Nat}(h:t<4){s:(aN×List h_)×List Int}(h1:cJ p d s.1.1)(K: ∀e∈s.1.2,Eo e)(S:s.2.length=4): ∀k,k<=4->cJ p d (lC p t s k).1.1/\(∀e∈ (lC p t s k).1.2,Eo e)/\(lC p t s k).2.length=4
 |0,_=>⟨h1,K,S⟩
 |k+1,y=>by
  obtain⟨g,D,L⟩:=Qo h h1 K S k ab;rw[xP];unfold Dl;split
  .have c:=(g.bO h).hw;exact⟨Dw g _ c,vS D (Gk ab c),aj⟩
  grind
def P5{p:g9}{d:Int}{m:aN}{o:dw}{l:cO}{js:List Int}{rc:List h_}(H:Az p d (m,o,l,js,rc)){t:Nat}(S:t<4):Az p d (J1 p m o l js rc t):=by
 have h:=u6 H.nc t 4;obtain⟨a1,a2⟩:=Qn (p:=p) (d:=d) (fP l t 4).2 (m,rc) h.2.2 H.ny H.Qm;obtain⟨M,U,b⟩:=Qo (p:=p) (d:=d) S (s:=(jG p (m,rc) (fP l t 4).2,js)) a1 a2 H.Cp 4 ab;exact⟨M,H.outs,h.1,b,U⟩
def Vm{p:g9}{d:Int}(u:d+64<=1099511627776){m:aN}{o:dw}{l:cO}{js:List Int}{rc:List h_}(H:Az p d (m,o,l,js,rc)){t:Nat}(h:t<4){n:Int}(W:1<=n/\n<=64)(s:(bO m t).im=1):Az p (d+64) (xQ p m o l js rc t n):=by
 obtain⟨J,q,e,v,_,L,g,b⟩:=uk H.ny u h W s;have B:=MT H.ny u h W s;rw[e]at B;have r:Az p (d+64) (J,o,l,js,rc++ [rA t n q]):=⟨v,H.outs,H.nc,H.Cp,vS H.Qm (Ql h W B g L b)⟩;have w:Az p (d+64) (sM p (J,o,l,js,rc++ [rA t n q]) q):=by
  unfold sM;split
  .exact T9 r g B ab
  .omega
 unfold xQ BM;simp only[e];split
 .exact P5 w h
 omega
theorem T6{p:g9}{d:Int}(u:d+64<=1099511627776)(H:Az p d s){ct cb:Int}(h:wy p s.1 s.2.1 s.2.2.1 s.2.2.2.1 s.2.2.2.2 ct cb sg=some s'):Az p (d+64) s':=by
 obtain⟨m,o,l,js,rc⟩:=s;unfold wy at h;split at h
 .cases h
 rename_i c;have Z: ¬(gV m.ce 4).length=0:=fun e=>c (.inl e);have f:=t9 ct (show((gV m.ce 4).length:Int)≠0 by omega);have v:=t4 ct (show(0:Int)<(gV m.ce 4).length by omega);obtain⟨x,hx⟩:=jp f;have O:x<(gV m.ce 4).length:=ab
 obtain⟨t,G,y,k⟩:=yO O;rw[hx,X7,show(gV m.ce 4).getD x 0=(t:Int) by grind,X7]at h;have z:1<=1+cb % 64/\1+cb % 64<=64:=ab
 cases h;unfold BN;split
 .rename_i r;obtain⟨q,_,W⟩:=Df H.ny G r.2;have n:Az p d (uU m t,o,l,js,rc++ [FN t]):=⟨q,H.outs,H.nc,H.Cp,vS H.Qm (H5 G)⟩;exact Vm u n G z W
 .exact Vm u H G z k
theorem yS.W{p:g9}{ly:iy}{o:dw}(S:Qj p ly o){k:Nat}(h:yS p (rD p ly o) k s)(b:k<=1000000):Az p (64*(k:Int)) s:=by
 induction h with
 |zero=>exact⟨(l5 S.prog S.xd S.lay S.key).mono ai,.inl S.outs,Ay,rfl,fun e C=>by cases C⟩
 |next ct cb sg r n i=>
  rename_i k s s';have:=T6 (d:=64*(k:Int)) ab (i ab) n
  grind
def YH(p:g9)(m:aN)(o:dw)(l:cO)(js:List Int)(rc:List h_)(q:io):(sL p m o l js rc q).1.am=m.am:=by
 unfold sL;generalize (if q.call=9 then(eY l (dI q 0) q.cw).2.1 else-1)=own;unfold An;split
 .exact(A8 _ _ _ _).trans (Iw _ _ _ _)
 .exact Iw _ _ _ _
def IZ(p:g9): ∀(l:List Int) (s:aN×List h_),(jG p s l).1.am=s.1.am
 | [],s=>rfl
 |x::l,s=>(IZ p l (um p s x 0)).trans (A8 _ _ _ _)
def I3(p:g9)(t:Nat)(s:(aN×List h_)×List Int): ∀k,(lC p t s k).1.1.am=s.1.1.am
 |0=>rfl
 |k+1=>by
  rw[xP,<-I3 p t s k];unfold Dl;split
  .exact A8 _ _ _ _
  .rfl
def Zi(p:g9)(m:aN)(o:dw)(l:cO)(js:List Int)(rc:List h_)(t:Nat):(J1 p m o l js rc t).1.am=m.am:=(I3 p t _ 4).trans (IZ p _ _)
theorem Li{p:g9}{d:Int}(u:d+64<=1099511627776){m:aN}(H:cJ p d m)(o:dw)(l:cO)(js:List Int)(rc:List h_){t:Nat}(h:t<4){n:Int}(W:1<=n/\n<=64)(s:(bO m t).im=1):(xQ p m o l js rc t n).1.am=m.am:=by
 obtain⟨J,q,e,_,g,_⟩:=uk H u h W s;have K:(sM p (J,o,l,js,rc++ [rA t n q]) q).1.am=J.am:=by
  unfold sM;split
  .exact YH _ _ _ _ _ _ _
  .rfl
 unfold xQ BM;simp only[e];split
 .exact(Zi _ _ _ _ _ _ _).trans (K.trans g)
 grind
theorem YI{p:g9}{d:Int}(u:d+64<=1099511627776)(H:Az p d s){ct cb:Int}(h:wy p s.1 s.2.1 s.2.2.1 s.2.2.2.1 s.2.2.2.2 ct cb sg=some s'):s'.1.am=s.1.am:=by
 obtain⟨m,o,l,js,rc⟩:=s;unfold wy at h;split at h
 .cases h
 rename_i c;have Z: ¬(gV m.ce 4).length=0:=fun e=>c (.inl e);have f:=t9 ct (show((gV m.ce 4).length:Int)≠0 by omega);have n:=t4 ct (show(0:Int)<(gV m.ce 4).length by omega);obtain⟨x,hx⟩:=jp f;have O:x<(gV m.ce 4).length:=ab
 obtain⟨t,G,A,k⟩:=yO O;rw[hx,X7,show(gV m.ce 4).getD x 0=(t:Int) by grind,X7]at h;have z:1<=1+cb % 64/\1+cb % 64<=64:=ab
 cases h;unfold BN;split
 .rename_i r;obtain⟨q,y,W⟩:=Df H.ny G r.2;exact(Li u q _ _ _ _ G z W).trans y
 .exact Li u H.ny _ _ _ _ G z k
def yS.lay{p:g9}{ly:iy}{o:dw}(S:Qj p ly o){k:Nat}(h:yS p (rD p ly o) k s)(b:k<=1000000):s.1.am=ly:=by
 induction h with
 |zero=>rfl
 |next ct cb sg r n i=>
  rename_i k s s';exact(YI (d:=64*(k:Int)) ab (r.W S ab) n).trans (i ab)
def Vn(sz:List Int)(l:List fd):Prop:= ∀c∈l,proper sz c=true
def Zj(sz:List Int)(f:cn):Prop:= ∀d∈f.ap,Vn sz d
theorem P4{sz:List Int}(h:pg sz f.ap=true):Zj sz f:=fun d u c m=>by
 have:=List.all_eq_true.1 h d u;unfold qZ at this<;>grind
theorem Vn.nil(sz:List Int):Vn sz []:=fun c h=>aj
def Zj.get{sz:List Int}(h:Zj sz f)(k:Nat):Vn sz (f.ap.getD k []):=by
 by_cases y:k<f.ap.length
 .rw[rT,rk y];exact h _ (rx y)
 .rw[rT,uf ab];exact .nil sz
def Zb(sz l:List Int):Vn sz (l.map Ag):=fun c h=>by
 exact qG
def sN(sz:List Int)(n:Int):proper sz ⟨0,n,0,0⟩=true:=by simp[proper]
def kQ(sz:List Int)(n:Int)(ok:Bool):proper sz (ky n ok).iW=true:=sN _ _
structure I4 (sz:List Int) (o:dw) (x:eI) (n:Int):Prop where
 iG:Zj sz o.iG
 val:proper sz x.iW=true
 ap:Vn sz x.ap
 len:x.ap=[]\/(x.ap.length:Int)<=n
def I4.num{sz:List Int}{o:dw}(h:Zj sz o.iG)(k:Int)(ok:Bool)(n:Int):I4 sz o (ky k ok) n:=⟨h,kQ _ _ _,.nil _,.inl rfl⟩
theorem a5t{sz:List Int}{o:dw}(h:Zj sz o.iG){r:io}(u:Vn sz r.ap):I4 sz (rz o r).1 (rz o r).2 (dI r 2):=by
 have st: ∀{f:cn} {k:Nat} {d:List fd},Zj sz f->Vn sz d-> ∀x∈f.ap.set k d,Vn sz x:=fun K u x hx=>by
  rcases vb hx with hx|rfl
  .exact K x hx
  omega
 refine oU (P:=fun q:dw×eI=>I4 sz q.1 q.2 (dI r 2)) (fun _=> ?_) fun _=> ?_
 .refine .num ?_ _ _ _;unfold nZ;split
  .refine st h fun c m=> ?_;unfold lO at m;simp only[zC]at m;rcases m with(m|m)|m
   .exact h.get _ c (sw m)
   .exact u c (sw m)
   .exact h.get _ c (t_ m)
  omega
 refine oU (P:=fun q:dw×eI=>I4 sz q.1 q.2 (dI r 2)) (fun _=> ?_) fun _=> ?_
 .unfold oJ;split
  .refine⟨h,kQ _ _ _,fun c m=>h.get _ c (t_ (sw m)),.inr ?_⟩;simp only[sr];unfold BJ<;>grind
  .exact kb
 refine oU (P:=fun q:dw×eI=>I4 sz q.1 q.2 (dI r 2)) (fun _=> ?_) fun _=> ?_
 .have K:Zj sz (pH o.iG (dI r 0) (dI r 1)).1:=by
   unfold pH;split
   .exact h
   .unfold xH;split
    .exact st h (.nil _)
    .exact h
  split
  .exact⟨K,by simp[proper],.nil _,.inl rfl⟩
  .exact⟨K,kQ _ _ _,.nil _,.inl rfl⟩
 refine oU (P:=fun q:dw×eI=>I4 sz q.1 q.2 (dI r 2)) (fun _=> ?_) fun _=> ?_
 .refine .num ?_ _ _ _;unfold sC;split
  .exact h
  omega
 refine oU (P:=fun q:dw×eI=>I4 sz q.1 q.2 (dI r 2)) (fun _=> ?_) fun _=> ?_
 .refine .num ?_ _ _ _;unfold s7;split
  .split
   .exact h
   omega
  omega
 refine oU (P:=fun q:dw×eI=>I4 sz q.1 q.2 (dI r 2)) (fun _=> ?_) fun _=> ?_
 .split
  .exact kb
  .exact kb
 refine oU (P:=fun q:dw×eI=>I4 sz q.1 q.2 (dI r 2)) (fun _=> ?_) fun _=> ?_
 .split
  .exact kb
  .exact kb
 refine oU (P:=fun q:dw×eI=>I4 sz q.1 q.2 (dI r 2)) (fun _=> ?_) fun _=> ?_
 .exact kb
 .unfold oq;split
  .exact kb
  .refine⟨h,kQ _ _ _,Zb _ _,.inr ?_⟩;simp only[r9,sr];unfold E5<;>grind
structure rU (p:g9) (m:aN) (t:Nat) (q:io):Prop where
 e:q=xD p m (bO m t) t
 why:wU p m (bO m t)=0
 st:(bO m t).im=2
 rq:ko q=true
 g:De q
theorem TO{p:g9}{d:Int}{m:aN}{t:Nat}{n:Int}(H:cJ p d m)(u:d+64<=1099511627776)(S:t<4)(W:1<=n/\n<=64)(K:(bO m t).im=1)(h1:(dP p m t n).2.1.j'=1):rU p (dP p m t n).1 t (dP p m t n).2.1:=by
 have B:=MT H u S W K;obtain⟨_,_,e,_,_,_,g,_⟩:=uk H u S W K;have v:fO p m=true:=(H.mono ab).ok;have O:=tF H S W.1 K;obtain⟨⟨l,s⟩,N⟩: ∃r,dB p m t n=r:=⟨_,rfl⟩;rw[N]at O;have q:dP p m t n=((jr p l t s).1,(jr p l t s).2,0):=by
  unfold dP;rw[if_pos ⟨v,⟨ab,ab⟩,W.1,W.2⟩,X7,N]
 have h:De (dP p m t n).2.1:=by rw[e];exact g
 rw[q]at B h1 h⊢;unfold jr at B h1 h⊢;by_cases b:s=1
 .rw[if_pos b]at B h1 h⊢;by_cases w:wU p l (bO l t)=0
  .rw[if_pos w]at B h1 h⊢;exact⟨rfl,w,(O.calls b).1,B,h⟩
  grind
 grind
theorem Qp{p:g9}{d:Int}{m:aN}{t u:Nat}{n:Int}(H:cJ p d m)(w:d+64<=1099511627776)(S:t<4)(W:1<=n/\n<=64)(a:u≠t):bO (dP p m t n).1 u=bO m u:=by
 have v:fO p m=true:=(H.mono ab).ok;have e:bO (dB p m t n).1 u=bO m u:=by
  have:=MY (p:=p) (m:=m) a n;unfold bO;grind
 unfold dP;rw[if_pos ⟨v,⟨ab,ab⟩,W.1,W.2⟩,X7];unfold jr;split
 .split
  .omega
  .unfold ie;rw[ox,if_neg fun h=>a h.1.symm];exact e
 omega
section
variable {p:g9} {d:Int} {A:List Int} {kA:Int} {m:aN} {t:Nat} {q:io}
theorem rU.call(Q:rU p m t q):q.call=kf p (bO m t):=by rw[Q.e];rfl
theorem rU.cw(Q:rU p m t q):q.cw=t:=by rw[Q.e];rfl
theorem rU.j'(Q:rU p m t q):q.j'=1:=by rw[Q.e];rfl
theorem rU.kinds(Q:rU p m t q)(H:cJ p d m)(S:t<4):gr (dc q.call) (((bO m t).bK.take (dc q.call).length).map (·.gs))=true/\(0<kv q.call->(iA m.am.aK p.ax ((bO m t).bK.getD 1 ⟨0,0⟩) ((bO m t).bK.getD 2 ⟨0,0⟩).val).2=0/\((bO m t).bK.getD 2 ⟨0,0⟩).val<=16)/\(q.call=10\/q.call=12->((bO m t).bK.getD 0 ⟨0,0⟩).val<=255):=by
 have h:qn m.am.aK p.ax p.hw.length (kf p (bO m t)) (bO m t).bK=0:=Q.why;rw[<-Q.call]at h;have K:=rO h;refine⟨K.1,K.2,fun c=> ?_⟩;have:=H.prog.qH;unfold qn at h<;>grind
theorem rU.yg(Q:rU p m t q)(H:cJ p d m)(h:t<4){i:Nat}(j:i<(dc q.call).length):jk q i=canon m.am.aK m.am.key p.ax ((bO m t).bK.getD i ⟨0,0⟩):=by
 have G:=(H.bO h).bK;have k:=mr (pj.1 Q.rq).2.2.2.2.2.1;have e:q.args=dW m.am.aK m.am.key p.ax (bO m t).bK (dc q.call).length:=dG
 unfold jk;rw[e];unfold dW<;>grind
theorem rU.len(Q:rU p m t q)(H:cJ p d m)(h:t<4):q.args.length=(dc q.call).length:=by
 have G:=(H.bO h).bK;have k:=mr (pj.1 Q.rq).2.2.2.2.2.1;have e:q.args=dW m.am.aK m.am.key p.ax (bO m t).bK (dc q.call).length:=dG
 rw[e];exact ry ab
theorem rU.prop(Q:rU p m t q)(H:cJ p d m)(h:t<4)(R:RM kA kA p.ax A A m m){i:Nat}(j:i<(dc q.call).length):proper p.ax (jk q i)=true:=by
 rw[Q.yg H h j];have c:iD ((bO m t).bK.getD i ⟨0,0⟩):=(H.bO h).cells.getD _;have:=((R.lq t).bK i).canon.2;have l:=R.yV;rw[l];have L:=H.lay;rw[l]at L;exact Dy L c this
theorem I5{sz b:List Int}{key:Int}{k:Nat}(y:k<sz.length): ∀(l:List fd) (o:Int) (mem:aD),Vn sz l->0<=o->o+l.length<=nth sz k-> ∃zv,wx b key sz (k:Int) o l mem=some zv
 | [],o,mem,_,_,_=>⟨mem,rfl⟩
 |c::l,o,mem,h,h0,h1=>by
  simp only[s9]at h1;rw[oW,if_pos ⟨kI.2 (h c t5),iK.2 ⟨k,y,rfl,h0,by rw[dA y]at h1;omega⟩⟩];exact I5 y l (o+1) _ (fun x hx=>h x (u' _ hx)) ab ab
theorem rU.ap(Q:rU p m t q)(H:cJ p d m)(S:t<4)(R:RM kA kA p.ax A A m m):Vn p.ax q.ap:=by
 obtain⟨I,K,X⟩:=Q.kinds H S;have e:q.ap=if kv q.call=1 then jL m.am.aK m.am.key p.ax m.gt ((bO m t).bK.getD 1 ⟨0,0⟩).val.toNat ((bO m t).bK.getD 2 ⟨0,0⟩).val.toNat else []:=dG
 rw[e];split
 case isFalse=>exact .nil _
 obtain⟨w,L⟩:=K ab;have h:=H.lay;rw[R.yV]at w h⊢;simp only at w h⊢;have s:=xE h w;rcases(R.lq t).bK 1 with⟨g,_⟩|⟨g,_⟩|⟨_,_,k,o,y,r,_⟩
 .omega
 .omega
 obtain⟨v,x,F⟩:=wA h y r;have W:((bO m t).bK.getD 2 ⟨0,0⟩).val<=nth p.ax k-o:=by
  unfold iA at w;rw[if_pos s.1,r]at w;simp only[if_true,X7]at w;rw[if_neg ab]at w;split at w
  .omega
  .omega
 intro c n;obtain⟨j,u,rfl⟩:=List.mem_map.1 n;have u:=List.mem_range.1 u;have:=R.mem k y (o+j) ab ab;rw[v,show(nth A k+o).toNat+j=(nth A k+(o+(j:Int))).toNat by omega];exact Dy h (fq.look H.mem _) this.canon.2
theorem P3(Q:rU p m t q)(H:cJ p d m)(D:d<=1099511627776)(S:t<4)(R:RM kA kA p.ax A A m m)(C:oA x=true)(z:proper p.ax x.iW=true)(hx:Vn p.ax x.ap)(X:x.ap=[]\/(x.ap.length:Int)<=dI q 2)(K:q.call=10->0<=x.lw->(bO m x.lw.toNat).im=0):qv p m q x/\(jN p m q x).2=true:=by
 obtain⟨I,P,h2⟩:=Q.kinds H S;have G:=(H.bO S).bK;obtain⟨f,h1⟩:=DA G I;have O:fO p m=true:=(H.mono D).ok;have Z:=(pj.1 Q.rq).2.2.2.2.2.1;have V:=Q.cw;have U:q.cw.toNat=t:=ab
 have ok:qv p m q x:=⟨O,Q.rq,Q.j',by rw[Q.len H S];unfold rL<;>grind,C,by rw[U];exact Q.st⟩;refine⟨ok,?_⟩;unfold jN;rw[if_pos ok];split
 .rfl
 split
 .rfl
 have W: ∃mem,pf p m q x=some mem:=by
  unfold pf;split
  case isFalse=>grind
  rename_i b;have k3:(dc q.call).length=3:=g_
  obtain⟨w,N⟩:=P ab;obtain⟨l,v⟩:=f ab;have L:=H.lay;rw[R.yV]at w L;simp only at w L;have e:=Q.yg H S (i:=1) ab;have s:=Q.yg H S (i:=2) ab;rw[R.yV]at e s;simp only at e s;rcases(R.lq t).bK 1 with⟨g,_⟩|⟨g,_⟩|⟨_,_,k,o,y,r,_⟩
  .omega
  .omega
  obtain⟨T,u,F⟩:=wA L y r;have E:((bO m t).bK.getD 2 ⟨0,0⟩).val<=nth p.ax k-o:=by
   unfold iA at w;rw[if_pos l,r]at w;simp only[if_true,X7]at w;split at w
   .omega
   split at w
   .omega
   .omega
  have j:jk q 1=⟨1,0,(k:Int),o⟩:=by
   rw[e];unfold canon;rw[if_neg ab,if_neg ab,r];rfl
  have Y:dI q 2=((bO m t).bK.getD 2 ⟨0,0⟩).val:=by
   have:dI q 2=(jk q 2).val:=rfl;rw[this,s];unfold canon;rw[if_pos v]
  have B:=Q.prop H S R (i:=1) ab;rw[if_pos ⟨B,by rw[j]⟩,j];refine I5 y _ _ _ hx u ?_;show o+(x.ap.length:Int)<=nth p.ax k;rcases X with h|h
  .grind
  .omega
 obtain⟨mem,W⟩:=W;have M: ∃J,tI p m q.cw.toNat q x=some J:=by
  unfold tI;rw[if_pos (kI.2 z),W];show∃J,rW p ⟨m.am,mem,m.ce⟩ q.cw.toNat _ q x=some J;have a0:q.call=10\/q.call=12->(jk q 0).gs=0/\(jk q 0).val<=255:=fun n=>by
   have k1:0<(dc q.call).length:=by rcases n with h|h<;>rw[h]<;>decide
   rw[Q.yg H S k1];unfold canon<;>grind
  unfold rW;split
  .simp_all
  split
  .rename_i n;have a:=a0 (.inl n.1);have B:=Q.prop H S R (i:=1) (by rw[n.1];decide);rw[if_pos ⟨kI.2 B,K n.1 n.2,a.2,a.1⟩]
   grind
  .grind
 obtain⟨J,M⟩:=M;rw[M];rfl
theorem Qq{p:g9}{m:aN}{q:io}{u:Nat}(h:(bO m u).im=3):(bO (jN p m q x).1 u).im=3:=by
 by_cases ok:qv p m q x
 case neg=>rw[oX ok];exact h
 have w:(bO m q.cw.toNat).im=2:=ok.2.2.2.2.2;have k: ∀{v:Nat},(bO m v).im≠3-> ¬(v=u/\v<m.ce.length):=fun i g=>i (g.1▸h);have n:=k (v:=q.cw.toNat) ab;have F:(m.ce.getD u cT).im=3:=h;unfold jN;rw[if_pos ok];split
 .rw[ox,if_neg n];omega
 split
 .exact qm
 .cases S:tI p m q.cw.toNat q x with
  |none=>exact h
  |some J=>
   simp only[My];unfold tI at S;split at S
   case isFalse=>grind
   cases f:pf p m q x with
   |none=>grind
   |some mem=>
    rw[f]at S;have S:rW p ⟨m.am,mem,m.ce⟩ q.cw.toNat _ q x=some J:=S;unfold rW at S;split at S
    .split at S
     .cases S;exact qm
     grind
    split at S
    .split at S
     .rename_i c;have h0:(bO m x.lw.toNat).im=0:=c.2.1;cases S;rw[ox,if_neg aj]
      grind
     grind
    .cases S;exact qm
theorem YJ(ok:qv p m q x)(h0: ¬q.call=0)(h:x.wait=true)(l:q.cw.toNat<m.ce.length):(bO (jN p m q x).1 q.cw.toNat).im=3:=by
 unfold jN;rw[if_pos ok,if_neg h0,if_pos h];unfold ie;rw[ox,if_pos ⟨rfl,l⟩];rfl
end
def Cy(p:g9)(m:aN)(e:h_):aN:=(eH p m e (gS e)).1
def uW(p:g9)(m:aN)(e:h_):Prop:=(eH p m e (gS e)).2.2=true/\(e.kind=1->(eH p m e (gS e)).2.1=e.il)
def tM(p:g9):aN->List h_->aN->Prop
 |m,[],J=>m=J
 |m,e::es,J=>uW p m e/\tM p (Cy p m e) es J
def tM.snoc{p:g9}{e:h_}{l:aN}(h:uW p l e): ∀{es:List h_} {m:aN},tM p m es l->tM p m (es++ [e]) (Cy p l e)
 | [],m,f=>by
  subst f;exact⟨h,rfl⟩
 |x::es,m,f=>⟨f.1,tM.snoc h f.2⟩
structure uv (p:g9) (ly:iy) (d:Int) (m:aN) (rc:List h_):Prop where
 ny:cJ p d m
 fol:tM p (dx p ly) rc m
 r:RM ly.key ly.key p.ax ly.aK ly.aK m m
section
variable {p:g9} {ly:iy} {d:Int} {m:aN} {rc:List h_}
theorem uv.mono(H:uv p ly d m rc){d':Int}(h:d<=d'):uv p ly d' m rc:=⟨H.ny.mono h,H.fol,H.r⟩
theorem uv.add(H:uv p ly d m rc)(u:d+64<=1099511627776){e:h_}(C:Eo e)(k:uW p m e){d':Int}(G:cJ p d' (Cy p m e)):uv p ly d' (Cy p m e) (rc++ [e]):=by
 have h:=H.ny.lay;rw[H.r.yV]at h;exact⟨G,H.fol.snoc k,(Vk h h H.r H.ny H.ny u C.av C.r).2⟩
theorem uv.slice(H:uv p ly d m rc)(u:d+64<=1099511627776){t:Nat}(h:t<4){n:Int}(W:1<=n/\n<=64)(s:(bO m t).im=1):Eo (rA t n (dP p m t n).2.1)/\uv p ly (d+64) (dP p m t n).1 (rc++ [rA t n (dP p m t n).2.1]):=by
 obtain⟨J,q,e,v,D,L,T,g⟩:=uk H.ny u h W s;have B:=MT H.ny u h W s;have O:fO p m=true:=(H.ny.mono ab).ok;rw[e]at B⊢;have E:=Ql h W B T L g;have c:eH p m (rA t n q) (gS (rA t n q))=(J,q,true):=by
  rw[Zv E.ok O rfl];show((dP p m t n).1,(dP p m t n).2.1,true)=_;rw[e]
 have f:Cy p m (rA t n q)=J:=by unfold Cy;rw[c]
 have:=H.add u E ⟨by rw[c],fun _=>by rw[c];rfl⟩ (by rw[f];omega)
 grind
theorem uv.sig(H:uv p ly d m rc)(u:d+64<=1099511627776){t:Nat}(S:t<4)(c:uT (bO m t)=true):uv p ly d (uU m t) (rc++ [FN t]):=by
 have O:fO p m=true:=(H.ny.mono ab).ok;have E:=H5 S;have l:=H.ny.len;have es:jB m t=(uU m t,true):=by
  unfold jB;rw[if_pos ⟨⟨ab,ab⟩,aj⟩];rfl
 have e:eH p m (FN t) (gS (FN t))=(uU m t,ep,true):=by
  rw[Zo E.ok O rfl];show((jB m t).1,ep,(jB m t).2)=_;rw[es]
 have f:Cy p m (FN t)=uU m t:=by unfold Cy;rw[e]
 have:=H.add u E ⟨bC,fun h=>bF⟩ (by rw[f];exact(Df H.ny S c).1)
 grind
theorem uv.Yg(H:uv p ly d m rc)(v:d+64<=1099511627776){t n:Int}(S:0<=t/\t<4)(W:0<=n/\n<=65535)(s:(bO m t.toNat).im=3):uv p ly d (um p (m,rc) t n).1 (um p (m,rc) t n).2/\ ∀u,u≠t.toNat->(bO (um p (m,rc) t n).1 u).im=(bO m u).im:=by
 have O:fO p m=true:=(H.ny.mono ab).ok;have ok:vF p m t ⟨⟨0,n,0,0⟩,[], -1,false⟩:=⟨O,ur _ _ _ ab,S,s,kI.2 (sN _ _)⟩;have E:=Gk S W;have e:=vG ok;have c:eH p m (qE t n) (gS (qE t n))=((jZ p m t ⟨⟨0,n,0,0⟩,[], -1,false⟩).1,ep,true):=by
  rw[Zl E.ok O rfl];show((jZ p m t ⟨⟨0,n,0,0⟩,[], -1,false⟩).1,ep,(jZ p m t ⟨⟨0,n,0,0⟩,[], -1,false⟩).2)=_;rw[e]
 have f:Cy p m (qE t n)=(um p (m,rc) t n).1:=by unfold Cy;rw[c];rfl
 have:=H.add v E ⟨by rw[c],fun h=>bF⟩ (by rw[f];exact Dw H.ny t W);rw[f]at this;refine⟨this,fun u a=> ?_⟩;unfold um;rw[e];unfold ie;rw[ox,if_neg fun h=>a h.1.symm];rfl
end
def Be(l:cO)(i:Nat):List Int:=l.i4.getD i []
structure s8 (m:aN) (l:cO) (js:List Int):Prop where
 q: ∀i x,x∈Be l i->(bO m x.toNat).im=3/\js.getD x.toNat 0= -1
 j: ∀u,u<4->js.getD u 0≠ -1->(bO m u).im=3
 one: ∀i k x,x∈Be l i->x∈Be l k->i=k
section
variable {m m':aN} {l l':cO} {js:List Int}
theorem s8.mono(H:s8 m l js)(h: ∀u,(bO m u).im=3->(bO m' u).im=3):s8 m' l js:=⟨fun i x hx=>⟨h _ (H.q i x hx).1,(H.q i x hx).2⟩,fun u a j=>h _ (H.j u a j),H.one⟩
theorem s8.sub(H:s8 m l js)(h: ∀k x,x∈Be l' k->x∈Be l k):s8 m l' js:=⟨fun i x hx=>H.q i x (h i x hx),H.j,fun i k x h1 K=>H.one i k x (h i x h1) (h k x K)⟩
theorem s8.eP(H:s8 m l js)(S:List Int)(O: ∀x∈S,0<=x/\js.getD x.toNat 0= -1/\ ∀k,x∉Be l k)(J:iN l)(h: ∀u,(∀x∈S,u≠x.toNat)->(bO m' u).im=(bO m u).im):s8 m' l js:=by
 refine⟨fun i x hx=>⟨?_,(H.q i x hx).2⟩,fun u a q=> ?_,H.one⟩
 .rw[h,(H.q i x hx).1];intro y I e;obtain⟨K,_,Z⟩:=O y I;have j:i<l.i4.length:=by
   refine w8 fun n=> ?_;unfold Be at hx;rw[rT,uf ab]at hx;cases hx
  have o:0<=x:=by
   have G:=hx;unfold Be at G;rw[rT,rk j]at G;exact((J.i4 i j).range x G).1
  grind
 .rw[h,H.j u a q]
  grind
theorem I6{i:Nat}{x:Int}(h:x∈Be l i): ∃hi:i<l.i4.length,x∈l.i4[i]:=by unfold Be at h<;>grind
theorem MZ{i k:Nat}{q:List Int}{o:List Int}{x:Int}(h:x∈Be ⟨o,l.i4.set i q⟩ k):(i=k/\x∈q)\/(i≠k/\x∈Be l k):=by
 obtain⟨y,K⟩:=I6 h;simp only[rm]at y;simp only[r6]at K;by_cases e:i=k
 .grind
 .rw[if_neg e]at K;refine .inr ⟨e,?_⟩;unfold Be<;>grind
theorem Vo(H:s8 m l js)(I:iN l)(i8 t:Int):(∀k x,x∈Be (eY l i8 t).1 k->x∈Be l k)/\(0<=(eY l i8 t).2.1->(bO m (eY l i8 t).2.1.toNat).im=3/\js.getD (eY l i8 t).2.1.toNat 0= -1/\(∃k,(eY l i8 t).2.1∈Be l k)/\ ∀k,(eY l i8 t).2.1∉Be (eY l i8 t).1 k):=by
 unfold eY;split
 .grind
 split
 .exact⟨fun k x h=>h,fun h=>bF⟩
 .rename_i x r e;have hx:x∈Be l i8.toNat:=by unfold Be;rw[e];exact t5
  obtain⟨i,_⟩:=I6 hx;have n:(x::r).Nodup:=by
   have:=(I.i4 _ i).nodup;rw[rT,rk i]at e;simp only[tj]at e;rwa[e]at this
  refine⟨fun k y G=> ?_,fun _=>⟨(H.q _ _ hx).1,(H.q _ _ hx).2,⟨_,hx⟩,fun k z=> ?_⟩⟩
  .rcases MZ G with⟨rfl,h⟩|⟨_,h⟩
   .unfold Be<;>grind
   omega
  .rcases MZ z with⟨rfl,h⟩|⟨K,h⟩
   .grind
   .exact K (H.one _ _ _ hx h)
theorem Qr(H:s8 m l js)(G:iN l)(t:Int): ∀i,s8 m (fP l t i).1 js/\(fP l t i).2.Nodup/\ ∀x∈ (fP l t i).2,(bO m x.toNat).im=3/\js.getD x.toNat 0= -1/\ ∀k,x∉Be (fP l t i).1 k
 |0=>by
  rw[Ao];refine⟨H.sub fun k x hx=> ?_,List.nodup_nil,fun x hx=>aj⟩;obtain⟨h,K⟩:=I6 hx;simp only[r9]at h;simp only[uc]at K;unfold Be;rw[rT,rk h];exact(List.mem_filter.1 K).1
 |i+1=>by
  obtain⟨h1,K,S⟩:=Qr H G t i;obtain⟨g,D⟩:=Vo h1 (u6 G t i).1 i t;rw[Eg];have F: ∀x∈ (fP l t i).2,(bO m x.toNat).im=3/\js.getD x.toNat 0= -1/\ ∀k,x∉Be (eY (fP l t i).1 i t).1 k:=fun x hx=>⟨(S x hx).1,(S x hx).2.1,fun k h=>(S x hx).2.2 k (g k x h)⟩;refine⟨h1.sub g,?_,?_⟩<;>grind
end
section
variable {p:g9} {ly:iy} {d:Int}
theorem uv.FH(v:d+64<=1099511627776): ∀(L:List Int) {m:aN} {rc:List h_},uv p ly d m rc->L.Nodup->(∀x∈L,(0<=x/\x<4)/\(bO m x.toNat).im=3)->uv p ly d (jG p (m,rc) L).1 (jG p (m,rc) L).2/\ ∀u,(∀x∈L,u≠x.toNat)->(bO (jG p (m,rc) L).1 u).im=(bO m u).im
 | [],m,rc,H,_,_=>⟨H,fun _ _=>rfl⟩
 |x::L,m,rc,H,W,hx=>by
  obtain⟨h1,K⟩:=hx x t5;obtain⟨D,w⟩:=H.Yg v h1 (n:=0) ab K;obtain⟨s,A⟩:=List.nodup_cons.1 W;obtain⟨U,r⟩:=uv.FH v L D A fun y h=>aj
  refine⟨U,fun u a=>(r u fun y h=>a y (u' _ h)).trans (w u (a x t5))⟩
theorem uv.sW(w:d+64<=1099511627776){l:cO}{t:Nat}(h:t<4){s:(aN×List h_)×List Int}(H:uv p ly d s.1.1 s.1.2)(W:s8 s.1.1 l s.2)(G:iN l)(a:s.2.length=4): ∀k,k<=4->uv p ly d (lC p t s k).1.1 (lC p t s k).1.2/\s8 (lC p t s k).1.1 l (lC p t s k).2/\(lC p t s k).2.length=4
 |0,_=>⟨H,W,a⟩
 |k+1,y=>by
  obtain⟨v,D,L⟩:=uv.sW w h H W G a k ab;rw[xP];obtain⟨⟨⟨m,rc⟩,js⟩,e⟩: ∃s',lC p t s k=s':=⟨_,rfl⟩;rw[e]at v D L⊢;simp only at v D L;unfold Dl;simp only;split
  case isFalse=>grind
  have K:=D.j k ab ab;have c:=(v.ny.bO h).hw;obtain⟨E,M⟩:=v.Yg w (t:=(k:Int)) ab c aj;refine⟨E,⟨fun i x hx=> ?_,fun u b Z=> ?_,D.one⟩,aj⟩
  .obtain⟨N,q⟩:=D.q i x hx<;>grind
  .by_cases e:u=k
   .grind
   .rw[rT,t3,if_neg (fun g=>e g.symm),<-List.getD_eq_getElem?_getD]at Z;exact(M u e).trans (D.j u b Z)
end
structure FT (p:g9) (ly:iy) (d:Int) (s:RS):Prop where
 rcd:uv p ly d s.1 s.2.2.2.2
 wt:s8 s.1 s.2.2.1 s.2.2.2.1
 outs:lB s.2.1
 iG:Zj p.ax s.2.1.iG
 nc:iN s.2.2.1
 Cp:s.2.2.2.1.length=4
def FT.mono{p:g9}{ly:iy}{d d':Int}{s:RS}(H:FT p ly d s)(h:d<=d'):FT p ly d' s:=⟨H.rcd.mono h,H.wt,H.outs,H.iG,H.nc,H.Cp⟩
section
variable {p:g9} {ly:iy} {d:Int} {m:aN} {o:dw} {l:cO} {js:List Int} {rc:List h_} {t:Nat} {q:io}
structure a5u (p:g9) (m:aN) (l:cO) (js:List Int) (q:io) (P:dw×cO×List Int×eI):Prop where
 outs:lB P.1
 iG:Zj p.ax P.1.iG
 val:proper p.ax P.2.2.2.iW=true
 ap:Vn p.ax P.2.2.2.ap
 len:P.2.2.2.ap=[]\/(P.2.2.2.ap.length:Int)<=dI q 2
 lw:q.call=10->0<=P.2.2.2.lw->(bO m P.2.2.2.lw.toNat).im=0
 i8:q.call=9\/(P.2.1.i4=l.i4/\P.2.2.1=js)\/(¬q.call=0/\P.2.2.2.wait=true/\((P.2.1.i4=l.i4/\ ∃k:Int,P.2.2.1=js.set q.cw.toNat k)\/(P.2.2.1=js/\ ∃i,P.2.1.i4=l.i4.set i (l.i4.getD i []++ [q.cw]))))
 nine:q.call=9->P.2.1=(eY l (dI q 0) q.cw).1/\P.2.2.1=js
theorem P2(Q:rU p m t q)(H:cJ p d m)(S:t<4)(f:lB o)(L:Zj p.ax o.iG)(z:Vn p.ax q.ap):a5u p m l js q (ot m.ce o l js q):=by
 have n:=(pj.1 Q.rq).2.2.2.2.2.1;unfold ot;by_cases M:q.call=0\/q.call=12\/q.call=15
 .rw[if_pos M];exact jP
 rw[if_neg M];by_cases X:q.call=8
 .rw[if_pos X];unfold qD;by_cases a1:dI q 0<0\/4<=dI q 0\/nth l.pl (dI q 0).toNat=q.cw
  .rw[if_pos a1];exact jP
  rw[if_neg a1];by_cases a2:vw l q.cw=true
  .rw[if_pos a2];exact jP
  rw[if_neg a2];by_cases a3:nth l.pl (dI q 0).toNat= -1
  .rw[if_pos a3];exact⟨f,L,sN _ _,.nil _,.inl rfl,fun h=>ab,.inr (.inl ⟨rfl,rfl⟩),fun h=>ab⟩
  rw[if_neg a3];exact⟨f,L,sN _ _,.nil _,.inl rfl,fun h=>ab,.inr (.inr ⟨ab,rfl,.inr ⟨rfl,_,rfl⟩⟩),fun h=>ab⟩
 rw[if_neg X];by_cases g:q.call=9
 .rw[if_pos g];exact⟨f,L,kQ _ _ _,.nil _,.inl rfl,fun h=>ab,.inl g,fun _=>⟨rfl,rfl⟩⟩
 rw[if_neg g];by_cases v:q.call=10
 .rw[if_pos v];have i:proper p.ax (tJ m.ce).iW=true/\(tJ m.ce).ap=[]/\(0<=(tJ m.ce).lw->(bO m (tJ m.ce).lw.toNat).im=0):=by
   unfold tJ bO;split
   .exact lA
   split
   .exact lA
   split
   .exact lA
   split
   .exact lA
   .exact⟨kQ _ _ _,rfl,fun h=>by simp[ky]at h⟩
  obtain⟨w,E,N⟩:=i;exact⟨f,L,w,by rw[E];exact .nil _,.inl E,fun _=>N,.inr (.inl ⟨rfl,rfl⟩),fun h=>ab⟩
 rw[if_neg v];by_cases J:q.call=11
 .rw[if_pos J];split
  .exact jP
  split
  .exact jP
  .exact⟨f,L,sN _ _,.nil _,.inl rfl,fun h=>ab,.inr (.inr ⟨ab,rfl,.inl ⟨rfl,_,rfl⟩⟩),fun h=>ab⟩
 rw[if_neg J];have K:=Q.kinds H S;have y:=Q.len H S;have I:=(H.bO S).bK;have B:kv q.call=2->dI q 2<=16:=fun b=>by
  have u:(dc q.call).length=3:=g_
  have:dI q 2=(jk q 2).val:=rfl;rw[this,Q.yg H S ab];unfold canon;rw[if_pos ((DA I K.1).1 ab).2]
  grind
 have x:w0 q=true:=by
  refine wu.2 ⟨Q.rq,Q.j',ab,?_,fun h=>ab⟩;have:q.args.map (·.gs)=((bO m t).bK.take (dc q.call).length).map (·.gs):=by
   have e:q.args=dW m.am.aK m.am.key p.ax (bO m t).bK (dc q.call).length:=dG
   rw[e];unfold dW;rw[w3];refine w5 fun c n=> ?_;have P:=(H.bO S).cells c (sw n);have:=P.1;show(canon _ _ _ c).gs=c.gs;unfold canon;split
   .grind
   split
   .grind
   .grind
  rw[this];exact K.1
 rw[To ⟨f,x⟩];have O:(tH q).ap=q.ap:=rfl;have D:=a5t (r:=tH q) L aj;have G:=vx f (r:=tH q) (A6 Q.rq).1 Q.g.dv;refine⟨G.1,D.iG,D.val,D.ap,?_,fun h=>ab,.inr (.inl ⟨rfl,rfl⟩),fun h=>ab⟩;rcases D.len with h|h
 .grind
 .by_cases b:kv q.call=2
  .have u:(dc q.call).length=3:=g_
   rw[MX ab Q.g.av]at h
   grind
  .left;have A: ¬(tH q).call=2:=fun e=>b (by have:q.call=2:=e;rw[this];rfl);have s: ¬(tH q).call=14:=fun e=>b (by have:q.call=14:=e;rw[this];rfl);have j:(tH q).call=q.call:=rfl;unfold rz;repeat' (first|rw[if_neg A]|split)
   all_goals first
    |rfl
    |omega
theorem T4(H:uv p ly d m rc)(W:s8 m l js)(I:iN l)(hj:js.length=4)(j:lB o)(hf:Zj p.ax o.iG)(D:d+64<=1099511627776)(Q:rU p m t q)(S:t<4):FT p ly d (sL p m o l js rc q):=by
 have G:=H.ny;have T:=Vl (ts:=m.ce) (q:=q) (.inl j) I hj Q.g (by have:=Q.cw;omega);have F:=P2 (o:=o) (l:=l) (js:=js) Q G S j hf (Q.ap G S H.r);obtain⟨P,v⟩:=x_ (ot m.ce o l js q);rw[v]at F;simp only[v]at T;obtain⟨_,O,X,f,w⟩:=T;obtain⟨ok,aq⟩:=P3 Q G ab S H.r w F.val F.ap F.len F.lw;have J:=H4 Q.rq Q.g Q.j' f w;have hc:fO p m=true:=(G.mono ab).ok;have c:eH p m (xO q P.2.2.2) (gS (xO q P.2.2.2))=((jN p m q P.2.2.2).1,ep,true):=by
  rw[Zu J.ok hc rfl];show((jN p m q P.2.2.2).1,ep,(jN p m q P.2.2.2).2)=_;rw[aq]
 have N:Cy p m (xO q P.2.2.2)=(jN p m q P.2.2.2).1:=by unfold Cy;rw[c]
 have s:=H.add D J ⟨by rw[c],fun h=>bF⟩ (d':=d) (by rw[N];exact TL G Q.g.av f);rw[N]at s;have E:q.cw.toNat=t:=by have:=Q.cw;omega
 have z: ∀C,(∀k x,x∈Be C k->x∈Be l k)->s8 (jN p m q P.2.2.2).1 C js:=fun C h=>(W.sub h).mono fun u a=>Qq a;unfold sL;rw[v];by_cases R:q.call=9
 .rw[if_pos R];obtain⟨A,n2⟩:=F.nine R;obtain⟨M,g2⟩:=Vo W I (dI q 0) q.cw;have hb:=xG I (dI q 0) q.cw;rw[<-A]at M;have r:=z _ M;unfold An;by_cases h0:0<=(eY l (dI q 0) q.cw).2.1
  .rw[if_pos h0];obtain⟨b,au,_,Y⟩:=g2 h0;rw[<-A]at Y;obtain⟨V,U⟩:=s.Yg D (t:=(eY l (dI q 0) q.cw).2.1) (n:=0) ⟨h0,hb.2.2⟩ ab (Qq b);refine⟨?_,?_,F.outs,F.iG,O,X⟩
   .have:rc++ [xO q P.2.2.2,qE (eY l (dI q 0) q.cw).2.1 0]=(rc++ [xO q P.2.2.2])++ [qE (eY l (dI q 0) q.cw).2.1 0]:=ai
    rw[this];exact V
   .rw[n2];refine r.eP [(eY l (dI q 0) q.cw).2.1] (fun x hx=> ?_) O fun u a=>U u (a _ ai)<;>grind
  .rw[if_neg h0];exact⟨s,aj,F.outs,F.iG,O,X⟩
 .unfold An;rw[if_neg ab];refine⟨s,?_,F.outs,F.iG,O,X⟩;have aw:=Q.st;have an:js.getD t 0= -1:=w8 fun h=>by have:=W.j t S h;omega
  have he: ∀k,q.cw∉Be l k:=fun k h=>by have:=(W.q k _ h).1;grind
  rcases F.i8 with h|⟨h1,K⟩|⟨h0,hi,h⟩
  .omega
  .rw[K];exact z _ fun k x hx=>by unfold Be at hx⊢ <;>grind
  .have B:=YJ ok h0 hi (by rw[G.len];omega);rw[E]at B;rcases h with⟨h1,k,K⟩|⟨K,i,h1⟩
   .have r:=z P.2.1 fun k x hx=>by unfold Be at hx⊢ <;>grind
    rw[K,E];refine⟨fun i x hx=> ?_,fun u a Z=> ?_,r.one⟩
    .obtain⟨q1,q2⟩:=r.q i x hx;refine⟨q1,?_⟩;have kK:t≠x.toNat:=fun e=>by
      have L:x∈Be l i:=gJ
      have:=(W.q i x L).1
      grind
     grind
    .by_cases e:u=t
     .grind
     .rw[rT,t3,if_neg (fun g=>e g.symm),<-List.getD_eq_getElem?_getD]at Z;exact r.j u a Z
   .have r:=z l fun k x hx=>hx;rw[K];have key: ∀k x,x∈Be P.2.1 k->x∈Be l k\/(k=i/\x=q.cw):=fun k x hx=>by
     have hx:x∈Be ⟨P.2.1.pl,l.i4.set i (l.i4.getD i []++ [q.cw])⟩ k:=gJ
     rcases MZ hx with⟨e,y⟩|⟨_,y⟩
     .subst e;rcases List.mem_append.1 y with y|y
      .exact .inl y
      grind
     grind
    refine⟨fun k x hx=> ?_,r.j,fun k k2 x hx L=> ?_⟩
    .rcases key k x hx with g|⟨_,g⟩
     .exact r.q k x g
     grind
    .rcases key k x hx with g|⟨e,g⟩
     .rcases key k2 x L with g'|⟨_,g'⟩
      .exact W.one k k2 x g g'
      grind
     grind
theorem P1(H:FT p ly d (m,o,l,js,rc))(h:d+64<=1099511627776)(S:t<4):FT p ly d (J1 p m o l js rc t):=by
 obtain⟨h1,K,T,b,i,u⟩:=H;obtain⟨a,k,q⟩:=u6 i t 4;obtain⟨D,L,w⟩:=Qr K i t 4;obtain⟨U,r⟩:=h1.FH h (fP l t 4).2 L fun x hx=>⟨q x hx,(w x hx).1⟩;have W:=D.eP (fP l t 4).2 (fun x hx=>⟨(q x hx).1,(w x hx).2⟩) a r;obtain⟨Q,Y,j⟩:=uv.sW h S (s:=(jG p (m,rc) (fP l t 4).2,js)) U W a u 4 (iX _);exact⟨Q,Y,T,b,a,j⟩
theorem Vp(H:FT p ly d (m,o,l,js,rc))(w:d+128<=1099511627776)(h:t<4){n:Int}(X:1<=n/\n<=64)(s:(bO m t).im=1):FT p ly (d+64) (xQ p m o l js rc t n):=by
 obtain⟨h1,K,S,a,i,q⟩:=H;simp only at h1 K S a i q;have A:d+64<=1099511627776:=ab
 obtain⟨_,r⟩:=h1.slice A h X s;have W:s8 (dP p m t n).1 l js:=K.mono fun u b=>by rw[Qp h1.ny A h X fun e=>aj];omega
 have v:FT p ly (d+64) (sM p ((dP p m t n).1,o,l,js,rc++ [rA t n (dP p m t n).2.1]) (dP p m t n).2.1):=by
  unfold sM;split
  .rename_i c;exact T4 r W i q S a ab (TO h1.ny A h X s c) h
  .exact⟨r,W,S,a,i,q⟩
 unfold xQ BM;split
 .exact P1 v ab h
 omega
theorem T3(H:FT p ly d s)(v:d+128<=1099511627776){ct cb:Int}(h:wy p s.1 s.2.1 s.2.2.1 s.2.2.2.1 s.2.2.2.2 ct cb sg=some s'):FT p ly (d+64) s':=by
 obtain⟨m,o,l,js,rc⟩:=s;unfold wy at h;split at h
 .cases h
 rename_i c;have Z: ¬(gV m.ce 4).length=0:=fun e=>c (.inl e);have f:=t9 ct (show((gV m.ce 4).length:Int)≠0 by omega);have n:=t4 ct (show(0:Int)<(gV m.ce 4).length by omega);obtain⟨x,hx⟩:=jp f;have O:x<(gV m.ce 4).length:=ab
 obtain⟨t,G,y,k⟩:=yO O;rw[hx,X7,show(gV m.ce 4).getD x 0=(t:Int) by grind,X7]at h;have z:1<=1+cb % 64/\1+cb % 64<=64:=ab
 cases h;unfold BN;split
 .rename_i q;obtain⟨_,_,W⟩:=Df H.rcd.ny G q.2;refine Vp ⟨H.rcd.sig ab G q.2,H.wt.mono fun u a=> ?_,H.outs,H.iG,H.nc,H.Cp⟩ v G z W;show(bO (uU m t) u).im=3;unfold uU;rw[ox];split
  .grind
  .exact a
 .exact Vp H v G z k
theorem yS.F{o:dw}(S:Qj p ly o){k:Nat}(h:yS p (rD p ly o) k s)(b:k<=1000000):FT p ly (64*(k:Int)) s:=by
 induction h with
 |zero=>
  refine⟨⟨(l5 S.prog S.xd S.lay S.key).mono ai,rfl,MW S.prog S.lay S.lay⟩,⟨fun i x hx=> ?_,fun u a q=> ?_,fun i k x hx=> ?_⟩,S.outs,P4 S.prop,Ay,rfl⟩
  .obtain⟨j,h⟩:=I6 hx;revert h;have:i=0\/i=1\/i=2\/i=3:=by simp[rD,gG]at j;omega
   rcases this with rfl|rfl|rfl|rfl<;>simp[rD,gG]
  .exfalso;refine q ?_;have:u=0\/u=1\/u=2\/u=3:=ab
   rcases this with rfl|rfl|rfl|rfl<;>rfl
  .obtain⟨j,h⟩:=I6 hx;revert h;have:i=0\/i=1\/i=2\/i=3:=by simp[rD,gG]at j;omega
   rcases this with rfl|rfl|rfl|rfl<;>simp[rD,gG]
 |next ct cb sg r n l=>
  rename_i k s s';have:=T3 (d:=64*(k:Int)) (l ab) ab n
  grind
end
section
variable {p:g9} {m m':aN} {es:List h_}
theorem uW.fit{e:h_}(h:uW p m e):I8 p m e=true:=by
 have h1:(rX p m e).2.2=true:=h.1;unfold I8;rw[h1];by_cases k:e.kind=1
 .have K:(rX p m e).2.1=e.il:=h.2 k
  grind
 grind
theorem tM.lI: ∀{es:List h_} {m:aN} (k:Int),tM p m es m'->lI p es k m=(m',k+es.length,0)
 | [],m,k,h=>by
  subst h;simp[Go.Proofs.YtdngefmliibcgaaGreat.lI]
 |e::es,m,k,h=>by
  rw[Go.Proofs.YtdngefmliibcgaaGreat.lI,if_pos h.1.fit];have:=tM.lI (k+1) h.2;rw[show(rX p m e).1=Cy p m e from rfl,this]
  grind
theorem I9(p:g9)(e:h_)(es:List h_)(m:aN): ∀i,sP p (e::es) m (i+1)=sP p es (Cy p m e) i
 |0=>rfl
 |i+1=>by
  have h:=I9 p e es m i;rw[sP,h,sP];rfl
theorem tM.parts: ∀{es:List h_} {m:aN},tM p m es m'-> ∀i,i<=es.length->tM p m (es.take i) (sP p es m i)/\tM p (sP p es m i) (es.drop i) m'
 |es,m,h,0,_=>⟨gT,h⟩
 | [],m,h,i+1,j=>aj
 |e::es,m,h,i+1,j=>by
  obtain⟨h1,K⟩:=tM.parts h.2 i aj;rw[I9];exact⟨⟨h.1,h1⟩,K⟩
theorem tM.at(h:tM p m es m'){i:Nat}(j:i<es.length):uW p (sP p es m i) es[i]:=by
 have:=(h.parts i ab).2;rw[w6 j]at this;exact this.1
theorem tM.end(h:tM p m es m'):sP p es m es.length=m':=by
 have:=(h.parts es.length (iX _)).2;rw[J2]at this;exact this
theorem Ll{d:Int}(H:cJ p d m)(E: ∀i (h:i<es.length),xX es[i])(u:d+64*es.length<=1099511627776): ∀i,i<=es.length->cJ p (d+64*i) (sP p es m i)
 |0,_=>by rw[Qv];grind
 |i+1,k=>by
  have j:=Ll H E u i ab;rw[Qw p m ab];have e:=E i ab;exact(qT j ab e.av e.r).1.mono ab
end
structure TQ (p:g9) (ly:iy) (m:aN) (rc:List h_):Prop where
 prog:o9 p
 xd:BS p
 lay:fM ly.aK p.ax
 key:0<=ly.key/\ly.key<=65535
 eq:m.am=ly
 ny:cJ p 2000 m
 fol:tM p (dx p ly) rc m
 TS: ∀i (h:i<rc.length),xX rc[i]
 r:RM ly.key ly.key p.ax ly.aK ly.aK m m
def Gn{p:g9}{ly:iy}{r:dw}(S:Qj p ly r){n:Nat}{m:aN}{o:dw}{l:cO}{js:List Int}{rc:List h_}(R:yS p (rD p ly r) n (m,o,l,js,rc))(X:n<=20):TQ p ly m rc:=by
 have F:=R.F S ab;have W:=R.W S ab;exact⟨S.prog,S.xd,S.lay,S.key,F.rcd.r.yV,F.rcd.ny.mono ab,F.rcd.fol,fun i h=>(W.Qm _ (rx h)).R,F.rcd.r⟩
def Lm:g9:=⟨[⟨0,0,0,0,0⟩],[1],[[]]⟩
def H1:o9 Lm:=Pg aF
theorem Vr:BS Lm:=fun d h x hx=>by simp[Lm]at h;grind
def H0:fM [3] Lm.ax:=nd.1 aF
@[simp]theorem Bf:cG X 26 []=some (.bool true):=by
 have F:=ir Lm.hw Lm.ax Lm.ap [3] 0 [] H1 Vr H0 ai (fun i h=>aj) ai;have A:=pk Lm.hw Lm.ax Lm.ap [3] 0 [] H1 Vr H0 ai (fun i h=>aj) ai;have e:lI ⟨Lm.hw,Lm.ax,Lm.ap⟩ [] 0 (dx ⟨Lm.hw,Lm.ax,Lm.ap⟩ ⟨[3],0⟩)=(dx Lm ⟨[3],0⟩,0,0):=rfl;have l:(dx Lm ⟨[3],0⟩).ce.length=4:=rfl;rw[e]at F A;obtain⟨⟨⟨b,k⟩,⟨c,s⟩,t⟩,m⟩: ∃x,dx Lm ⟨[3],0⟩=x:=⟨_,rfl⟩;rw[m]at F A l;simp only[Lm,r2,r_,hu.cN,Cc]at F A;refine ij ?_;simp[-ir, -pk,F,A,l]
@[simp]theorem Kb(l:List Int)(k:Int)(hl:l.length<=2000000): ∃h' k',df X 8 [l,k] mg 0=some (.bool true,h',k'):=by
 suffices H: ∃v h' k',df X 8 [.sl false (l.map (V.int .i64)),.int .i64 k] mg 0=some (v,h',k')/\v= .bool true by grind
 have a:=Bf;have hr:fA l 0:=⟨ab,ab⟩;obtain⟨kt,p,d,m,o,hb,js,rc,hM,an,HG,aq,hv,ly,hk,h3,h1,hS,hR⟩:=MS (dl:=l) hr;obtain⟨O,W,e,D,he,hn,h2,R,hj⟩:=Gn hS hR h1.2;obtain⟨pc,ps,y⟩:=p;obtain⟨⟨N,n⟩,⟨c,F⟩,mt⟩:=m;subst he;have Z:=z_ ((rc.length:Int)+1);have T:=nu k (rc.length+1) ab;have i0:=t9 k (show(rc.length:Int)+1≠0 by omega);have i1:=t4 k (show(0:Int)<rc.length+1 by omega);obtain⟨i,hi⟩:=jp i0;rw[hi]at T i1;have K:i<=rc.length:=ab
 have B:=lX pc ps y N n rc i O W e D R ab;have Q:=lX pc ps y N n rc (rc.length+1) O W e D R ab;obtain⟨aw,A⟩:=h2.parts i K;have e1:FU ⟨pc,ps,y⟩ ⟨N,n⟩ rc i=(sP ⟨pc,ps,y⟩ rc (dx ⟨pc,ps,y⟩ ⟨N,n⟩) i,0):=by
  unfold FU;rw[if_neg ab,X7,aw.lI];rfl
 have e2:FU ⟨pc,ps,y⟩ ⟨N,n⟩ rc (rc.length+1)=(eQ,6):=if_pos (.inr ab);rw[e1]at B;rw[e2]at Q;have Y:=Ll (l5 O W e D) R ab i K;obtain⟨w,hx⟩:=x_ (sP ⟨pc,ps,y⟩ rc (dx ⟨pc,ps,y⟩ ⟨N,n⟩) i);rw[hx]at B Y A;have s: ∀j (h:j<(rc.drop i).length),xX (rc.drop i)[j]:=fun j h=>aj
 obtain⟨r,z⟩:=x_ (rc.drop i);have cX: ∀f:h_->V,List.drop i (rc.map f)=r.map f:=fun f=>by rw[<-z,Cl]
 have ho:r.length<=300:=by rw[<-z];simp only[xB];omega
 rw[z]at A s;have L:=A.end;simp only at B Q;have I:=jU N n c F mt N n c F mt HG.lens;rw[decide_eq_true rfl]at I;have ht:(rc.length:Int)-i=r.length:=by rw[<-z];simp only[xB];omega
 refine ip ?_;simp[-nu, -lX, -jU,UY,hM,Z,T,B,cX,K];refine dO (fun j S=>(S.f 5= .ptr 5 0 0/\S.h 5=some ⟨18,[xZ (⟨⟨pc,ps,y⟩,⟨⟨N,n⟩,⟨c,F⟩,mt⟩,o,hb,rc,js⟩:lV)],true⟩/\S.f 7= .ptr 7 0 0/\S.h 7=some ⟨5,[rJ (sP ⟨pc,ps,y⟩ r w j)],true⟩/\S.f 42= .sl false ((r).map h_.e)/\S.f 43= .int .i64 ((r.length:Int))/\S.f 44= .int .i64 ((j:Int))/\S.n=1100)/\(cJ ⟨pc,ps,y⟩ (64*(i+j)) (sP ⟨pc,ps,y⟩ r w j))) (r.length) ab ?_ ?_ ?_
 .rintro j S ⟨lM,U,P⟩ ⟨M,J⟩;have u:=Qw ⟨pc,ps,y⟩ w P;have ok:=(A.at P).1;obtain⟨t,g⟩:=x_ (sP ⟨pc,ps,y⟩ r w j);rw[g]at u ok J;have E:=s j P;have G:=(qT J ab E.av E.r).1;have C:=jt pc ps y t.am.aK t.am.key t.gt.cells t.gt.ge t.ce (r[j]).kind (r[j]).cw (r[j]).n (r[j]).il.cw (r[j]).il.j' (r[j]).il.dD (r[j]).il.ia (r[j]).il.pc (r[j]).il.call (r[j]).il.args (r[j]).il.ap (r[j]).iL.iW.gs (r[j]).iL.iW.val (r[j]).iL.iW.lm (r[j]).iL.iW.iC (r[j]).iL.ap (r[j]).iL.lw (r[j]).iL.wait (64*(i+j)) J ab E;have c1:aN.mk ⟨t.am.aK,t.am.key⟩ ⟨t.gt.cells,t.gt.ge⟩ t.ce=t:=rfl;have c2:h_.mk (r[j]).kind (r[j]).cw (r[j]).n ⟨(r[j]).il.cw,(r[j]).il.j',(r[j]).il.dD,(r[j]).il.ia,(r[j]).il.pc,(r[j]).il.call,(r[j]).il.args,(r[j]).il.ap⟩ ⟨⟨(r[j]).iL.iW.gs,(r[j]).iL.iW.val,(r[j]).iL.iW.lm,(r[j]).iL.iW.iC⟩,(r[j]).iL.ap,(r[j]).iL.lw,(r[j]).iL.wait⟩=r[j]:=rfl;have c3:eH ⟨pc,ps,y⟩ t r[j] (gS r[j])=rX ⟨pc,ps,y⟩ t r[j]:=rfl;rw[c1,c2]at C;rw[c3]at C G ok;obtain⟨⟨hc,q,b⟩,hq⟩: ∃x,rX ⟨pc,ps,y⟩ t r[j]=x:=⟨_,rfl⟩;rw[hq]at C G ok u;simp only at C G ok u;subst ok;have au:cJ ⟨pc,ps,y⟩ (64*(i+((j:Int)+1))) hc:=G.mono ab;simp[M,U,P, -jt,g,C,u,au]
 .rintro S ⟨M,J⟩;simp[M, -lX, -jU,L,Z,Q,I,a,eQ]
 .simp[Qv];exact Y.mono ab
end Go.Proofs.YtdngefmliibcgaaGreat
