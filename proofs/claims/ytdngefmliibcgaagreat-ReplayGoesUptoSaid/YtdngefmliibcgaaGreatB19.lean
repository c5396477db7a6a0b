import Derived.Test.YtdngefmliibcgaaGreatB14
import Derived.Test.YtdngefmliibcgaaGreatB18
set_option linter.all false
set_option maxRecDepth 20000
set_option maxHeartbeats 0
namespace Go.Proofs.YtdngefmliibcgaaGreat
open Go Go.Abs Go.Abs.jJ Qf
variable  {aK ax a b dl js:List Int}{key d kt kt':Int}{c n n' T i j t:Nat}{h h' hx:bI}{s s':rK}{ri vi:Nat->Nat}{l:cO}{p:g9}{m:aN}{o:dw}{rc:List h_}{S S':St}
def A1(aK:List Int)(key:Int)(ax:List Int)(c:fd):ac:=(raw aK key ax c).1
structure IP (p:g9) (d:Int) (s:rK):Prop where
 p:Q9 p s
 rv: ∀l∈s.i6,fg l
 tv: ∀v∈s.ce,fg v.bK/\(0<=v.hw/\v.hw<=65535)/\v.ia<=d
def Yu:yN ⟨0,0,0,0⟩:=⟨ai,ai⟩
def fg.getD{l:List fd}(h:fg l)(i:Nat):yN (l.getD i ⟨0,0,0,0⟩):=by
 rcases ru i l.length with g|g
 .rw[rT,rk g];exact h _ (rx g)
 .rw[rT,uf g];exact Yu
def Vb(L:fM aK ax){c:ac}(m:iD c):lZ (canon aK key ax c)=true:=by
 have w:=L.sz.le;unfold canon;split
 .simp[lZ]
 split
 .simp[lZ]
 split
 .rename_i h;obtain⟨k,y,t,e,M,b⟩:=jn h;have z:=L.sz.elem k t;rw[e];simp[lZ];omega
 .have:=m.2;simp[lZ];omega
structure Qk (h:bI) (c n:Nat) (s:rK) (R T:Nat) (ri vi:Nat->Nat):Prop where
 row:h R=some ⟨1,ki ri s.i6,true⟩
 vow:h T=some ⟨8,qu vi s.ce,true⟩
 rat: ∀i (g:i<s.i6.length),h (ri i)=some ⟨4,(s.i6[i]).map fd.e,false⟩
 vat: ∀i (g:i<s.ce.length),h (vi i)=some ⟨4,(s.ce[i]).bK.map fd.e,false⟩
 lt:(c<=R/\R<n)/\(c<=T/\T<n)/\R≠T
 lr: ∀i,i<s.i6.length->c<=ri i/\ri i<n/\ri i≠R/\ri i≠T
 lv: ∀i,i<s.ce.length->c<=vi i/\vi i<n/\vi i≠R/\vi i≠T
 rr: ∀i j,i<s.i6.length->j<s.i6.length->i≠j->ri i≠ri j
 vv: ∀i j,i<s.ce.length->j<s.ce.length->i≠j->vi i≠vi j
 rv: ∀i j,i<s.i6.length->j<s.ce.length->ri i≠vi j
def yh.R{k n:Nat}{s:rK}{v:V}{h:bI}(H:yh k n s v h)(h1:0<s.i6.length)(K:0<s.ce.length): ∃R T ri vi,v= .agg [.cX R 0 s.i6.length,.cX T 0 s.ce.length]/\Qk h k n s R T ri vi:=by
 obtain⟨vR,vT,w,rfl,q,W,k1,k2⟩:=H;rcases q with⟨e,_⟩|⟨_,R,ri,rfl,U,c,m,r⟩
 .grind
 rcases W with⟨e,_⟩|⟨_,T,vi,rfl,l,u,y,t⟩
 .grind
 refine⟨R,T,ri,vi,rfl,U,l,fun i g=>(m i g).1,fun i g=>(y i g).1,⟨⟨c.1,ab⟩,⟨ab,ab⟩,ab⟩,fun i g=> ?_,fun i g=> ?_,r,t,fun i j b o=> ?_⟩
 .grind
 .grind
 grind
def Qk.mono{R:Nat}(H:Qk h c n s R T ri vi)(W:n<=n')(a: ∀i,c<=i->i<n->h' i=h i):Qk h' c n' s R T ri vi:=by
 obtain⟨a1,a2,a3,a4,a5,a6,a7,a8,a9,SY⟩:=H;refine⟨by rw[a _ a5.1.1 a5.1.2,a1],by rw[a _ a5.2.1.1 a5.2.1.2,a2],fun i g=>by rw[a _ (a6 i g).1 (a6 i g).2.1,a3],fun i g=>by rw[a _ (a7 i g).1 (a7 i g).2.1,a4],ab,fun i g=> ?_,fun i g=> ?_,a8,a9,SY⟩<;>grind
def Yv{l:List (List fd)}{x:List fd}(h:i<l.length)(hx:x.length=(l[i]).length):ki ri (l.set i x)=ki ri l:=by
 apply tl;intro j;simp only[ki,vX,t3]<;>grind
def wZ(s:rK)(i:Nat)(x:List fd):rK:=⟨s.i6.set i x,s.ce⟩
def Qk.wZ{h h':bI}{c n n':Nat}{s:rK}{R T:Nat}{ri vi:Nat->Nat}(H:Qk h c n s R T ri vi)(W:n<=n'){i:Nat}(k:i<s.i6.length){x:List fd}(hx:x.length=(s.i6[i]).length)(w:h' (ri i)=some ⟨4,x.map fd.e,false⟩)(a: ∀j,c<=j->j<n->j≠ri i->h' j=h j):Qk h' c n' (wZ s i x) R T ri vi:=by
 obtain⟨a1,a2,a3,a4,a5,a6,a7,a8,a9,SY⟩:=H;unfold Go.Proofs.YtdngefmliibcgaaGreat.wZ;have q:=a6 i k;refine⟨by rw[a _ a5.1.1 a5.1.2 (fun e=>q.2.2.1 e.symm),a1,Yv k hx],aj,fun j g=> ?_,fun j g=> ?_,ab,fun j g=> ?_,fun j g=> ?_,fun j l v D=>a8 j l aj aj,a9,fun j l v=>SY j l aj⟩
 .grind
 .grind
 .grind
 grind
def Qk.pure{R:Nat}(H:Qk h c n s R T ri vi):Qk (fun i=>j6 (h i)) c n s R T ri vi:=by
 obtain⟨a1,a2,a3,a4,a5,a6,a7,a8,a9,SY⟩:=H;have j:(ki ri s.i6).all V.Nq=true:=by
  rw[rZ];intro x hx;simp only[ki,List.mem_mapIdx]at hx;obtain⟨i,g,rfl⟩:=hx;rfl
 have p:(qu vi s.ce).all V.Nq=true:=by
  rw[rZ];intro x hx;simp only[qu,List.mem_mapIdx]at hx;obtain⟨i,g,rfl⟩:=hx;rfl
 have e: ∀l:List fd,(l.map fd.e).all V.Nq=true:=fun l=>by
  rw[rZ];intro x hx;obtain⟨y,_,rfl⟩:=List.mem_map.1 hx;rfl
 exact⟨by rw[a1];unfold j6<;>grind,by rw[a2];unfold j6<;>grind,fun i g=>by rw[a3 i g];unfold j6<;>grind,fun i g=>by rw[a4 i g];unfold j6<;>grind,a5,a6,a7,a8,a9,SY⟩
def Qk.qQ{R:Nat}(H:Qk h c n s R T ri vi)(a: ∀i,c<=i->i<n->hx i=h i)(d:Nat):da hx (d+3) (.cX R 0 s.i6.length)=some (.sl false (s.i6.map bZ)):=by
 have e:di ((ki ri s.i6).map (da hx (d+2)))=some (s.i6.map bZ):=by
  unfold ki;refine mq _ _ fun i j=> ?_;have q:=H.lr i j;have k:hx (ri i)=some ⟨4,(s.i6[i]).map fd.e,false⟩:=by rw[a _ q.1 q.2.1,H.rat i j]
  simp[da,k,bZ]
 have k:hx R=some ⟨1,ki ri s.i6,true⟩:=by rw[a _ H.lt.1.1 H.lt.1.2,H.row]
 have l:=rS ri s.i6;have t:(ki ri s.i6).take s.i6.length=ki ri s.i6:=bQ ab
 simp_all
def IP.wZ{p:g9}{d:Int}{s:rK}(H:IP p d s){i j:Nat}(m:i<s.i6.length){c:fd}(n:yN c)(b:lZ c=true):IP p d (wZ s i ((s.i6[i]).set j c)):=by
 obtain⟨⟨G,O,W,f⟩,K,S⟩:=H;unfold Go.Proofs.YtdngefmliibcgaaGreat.wZ;refine⟨⟨aj,fun k g g'=> ?_,W,f⟩,fun l h=> ?_,S⟩
 .have r:k<s.i6.length:=by simpa using g
  by_cases e:i=k
  .subst e;simp only[y3,rm];refine⟨(O i r g').1,?_⟩;unfold iH;rw[rZ];intro x hx;rcases vb hx with hx|rfl
   .exact List.all_eq_true.1 (O i r g').2 x hx
   omega
  grind
 .rcases vb h with h|rfl
  .grind
  .intro x hx;rcases vb hx with hx|rfl
   .exact K _ (rx m) x hx
   omega
structure Mo (q:io):Prop where
 ok:ko q=true
 args:fg q.args
 ap:fg q.ap
def Mo.lens{q:io}(h:Mo q):q.args.length<=3/\q.ap.length<=16:=by
 have:=h.ok;unfold ko at this;simp only[X8,decide_eq_true_eq]at this;omega
def vO.append(W:vO a)(e:vO b):vO (a++b):=fun x hx=>by
 rcases List.mem_append.1 hx with h|h
 .exact W x h
 .exact e x h
def vO.cons{x:Int}(hx:0<=x/\x<=255)(W:vO a):vO (x::a):=fun y G=>by
 rcases List.mem_cons.1 G with rfl|h
 .exact hx
 .exact W y h
def vO.nil:vO []:=fun x hx=>by cases hx
def FI(dl:List Int)(v:V)(h:bI)(k:Nat):Prop:=
 ∃(kt:Int) (p:g9) (d:Int) (T:Nat) (m:aN),v= .ed [wa p,xY m.am.aK m.am.key m.gt.cells m.gt.ge (.cX T 0 4)]/\
  h 0=some ⟨2,[pm dl kt],true⟩/\h T=some ⟨8,m.ce.map gc.e,false⟩/\T≠0/\fA dl kt/\cJ p d m/\d<=2000
def Qk.fits(s:rK)(R T:Nat):(V.agg [.cX R 0 s.i6.length,.cX T 0 s.ce.length]).fits 2=true:=rfl
def N3(p:g9)(m:aN)(o:dw)(l:cO)(js:List Int)(rc:List h_):List V:=[.sl false (p.hw.map hu.e),.sl false (p.ax.map (V.int .i64)),.sl false (p.ap.map bw),.sl false (m.am.aK.map (V.int .i64)),.int .u16 m.am.key,.sl false (m.gt.cells.map ac.e),.sl false (m.gt.ge.map cP.e),.cX 7 0 4,
   .sl false (o.md.map (V.int .u16)),.sl false (o.nl.map (V.int .u16)),.sl false (o.dK.map bw),.sl false (o.iG.ap.map bZ),.sl false (o.iG.iV.map fR.e),.sl false (o.dT.map i5.e),.sl false (l.pl.map (V.int .i64)),.sl false (l.i4.map dC),.sl false (rc.map h_.e),.sl false (js.map (V.int .i64))]
structure MI (dl:List Int) (p:g9) (m:aN) (d:Int) (o:dw) (l:cO) (js:List Int) (rc:List h_) (R T:Nat) (ri vi:Nat->Nat) (kt:Int) (s:rK) (S:St):Prop where
 f:S.f 0= .ptr 0 0 0/\S.f 2= .ptr 1 0 0/\S.f 3= .ptr 2 0 0/\S.f 4= .ptr 5 0 0/\S.f 5= .ptr 10 0 0/\S.f 6= .ptr 19 0 0
 h0:S.h 0=some ⟨2,[.agg [.sl false (dl.map (V.int .i64)),.int .i64 kt]],true⟩
 h:S.h 1=some ⟨3,[.agg [.sl true [],.sl true [],.sl true []]],true⟩/\S.h 2=some ⟨5,[.agg [.sl true [],.int .u16 0,.sl true [],.sl true [],.sl true []]],true⟩/\S.h 5=some ⟨18,[.agg (N3 p m o l js rc)],true⟩/\S.h 7=some ⟨8,m.ce.map gc.e,false⟩/\S.h 10=some ⟨5,[.agg [.sl false (m.am.aK.map (V.int .i64)),.int .u16 m.am.key,.sl false (m.gt.cells.map ac.e),.sl false (m.gt.ge.map cP.e),.cX 7 0 4]],true⟩/\S.h 19=some ⟨2,[.agg [.cX R 0 s.i6.length,.cX T 0 4]],true⟩
 st:Qk S.h 36 S.n s R T ri vi
 g:IP p d s
 dk:fA dl kt
 n:36<=S.n
def MI.put         {R:Nat}     (H:MI dl p m d o l js rc R T ri vi kt s S)   
  (f:S'.f 0=S.f 0/\S'.f 2=S.f 2/\S'.f 3=S.f 3/\S'.f 4=S.f 4/\S'.f 5=S.f 5/\S'.f 6=S.f 6) (h0:S'.h 0=some ⟨2,[pm dl kt'],true⟩) (h: ∀j,1<=j->j<36->S'.h j=S.h j)
  (st:Qk S'.h 36 S'.n s' R T ri vi) (r:s'.i6.length=s.i6.length) (g:IP p d s') (dk:fA dl kt') (W:S.n<=S'.n):MI dl p m d o l js rc R T ri vi kt' s' S':=by
 obtain⟨⟨i,w,E,M,U,c⟩,_,⟨v,D,b,t,L,q⟩,_,_,_,n⟩:=H;obtain⟨a0,a2,a3,a4,a5,a6⟩:=f;refine⟨⟨a0.trans i,a2.trans w,a3.trans E,a4.trans M,a5.trans U,a6.trans c⟩,h0,⟨?_,?_,?_,?_,?_,?_⟩,st,g,dk,ab⟩
 .rw[h 1 ab ab,v]
 .rw[h 2 ab ab,D]
 .rw[h 5 ab ab,b]
 .rw[h 7 ab ab,t]
 .rw[h 10 ab ab,L]
 .rw[h 19 ab ab,q,r]
def MI.len{R:Nat}(H:MI dl p m d o l js rc R T ri vi kt s S):s.i6.length=p.ax.length/\s.ce.length=4:=⟨H.g.p.i6,H.g.p.ce⟩
def MI.same         {R:Nat}     (H:MI dl p m d o l js rc R T ri vi kt s S)  
  (f:S'.f 0=S.f 0/\S'.f 2=S.f 2/\S'.f 3=S.f 3/\S'.f 4=S.f 4/\S'.f 5=S.f 5/\S'.f 6=S.f 6) (h0:S'.h 0=some ⟨2,[pm dl kt'],true⟩) (G: ∀j,1<=j->S'.h j=S.h j)
  (dk:fA dl kt') (h:S.n<=S'.n):MI dl p m d o l js rc R T ri vi kt' s S':=
 H.put f h0 (fun j a _=>G j a) (H.st.mono h fun j a _=>G j ab) rfl H.g dk h
def MI.Ad         {R:Nat}     (H:MI dl p m d o l js rc R T ri vi kt s S)    (h:i<s.i6.length) {c:fd} 
  (f:S'.f 0=S.f 0/\S'.f 2=S.f 2/\S'.f 3=S.f 3/\S'.f 4=S.f 4/\S'.f 5=S.f 5/\S'.f 6=S.f 6) (h0:S'.h 0=some ⟨2,[pm dl kt'],true⟩)
  (w:S'.h (ri i)=some ⟨4,((s.i6[i]).set j c).map fd.e,false⟩) (G: ∀j,1<=j-> ¬j=ri i->S'.h j=S.h j) (r:yN c/\lZ c=true)
  (dk:fA dl kt') (n:S.n<=S'.n):MI dl p m d o l js rc R T ri vi kt' (wZ s i ((s.i6[i]).set j c)) S':=by
 have q:=H.st.lr i h;refine H.put f h0 (fun j a b=>G j a ab) (H.st.wZ n h ai w fun j a b e=>G j ab e) (by simp[wZ]) (H.g.wZ h r.1 r.2) dk n
def Far(c:Nat)(h hx:bI):Prop:= ∀i,c<=i->hx i=h i
def Qk.Di{R:Nat}(H:Qk h c n s R T ri vi)(f:Far c h hx):di (List.take s.i6.length (List.map (da hx 11) (ki ri s.i6)))=some (s.i6.map bZ):=by
 have t:List.take s.i6.length (List.map (da hx 11) (ki ri s.i6))=List.map (da hx 11) (ki ri s.i6):=bQ (by simp[rS]);rw[t];unfold ki;refine mq _ _ fun i j=> ?_;have q:=H.lr i j;have e:hx (ri i)=some ⟨4,(s.i6[i]).map fd.e,false⟩:=by rw[f _ q.1,H.rat i j]
 simp[da,e,bZ]
def Fx(p:g9)(m:aN):List V:=[(wa p:V),(rJ m:V)]
def cJ.one(h:cJ p d m)(u:d<=1099511627776)(S:t<4){n:Int}(W:1<=n/\n<=64):In p m t n=((dB p m t n).1,(dB p m t n).2,0):=by
 unfold In;rw[if_pos ⟨(h.mono u).ok,ab,W.1,W.2⟩,X7]
end Go.Proofs.YtdngefmliibcgaaGreat
