/- Part of a proof: G5. -/
import Derived.Test.YtdngefmliibcgaaGreatM28
set_option linter.all false
set_option maxRecDepth 20000
set_option maxHeartbeats 20000000
namespace Go.Proofs.YtdngefmliibcgaaGreat
open Go Go.Abs Go.Abs.kX Qf
variable  {p:Prog}{m:aO}{t c T i j k:Nat}{n d st kt Sn:Int}{h h' hx:bh}{s s':State}{ri vi:Nat->Nat}{l:bX}{x v:View}{an dl js:List Int}{o:cS}{rc:List Entry}{S S':St}
def Wq(hs:(cg m t).state=1):dN p m t n=jZ p t ((cg m t).count+n) 20000 m:=by
 have e0:m.threads.getD t cw=cg m t:=rfl;unfold dN;rw[e0,if_pos hs]
def tight(u:Int)(x:Thread):Int:=(u-x.count-1)*65+(65-x.pc)
def RI{c:Int}(H:db p c m)(ht:t<4)(hg:(lu p m t).2= -1)(u:Int):(cg m t).pc<=64/\tight u (cg (lu p m t).1 t)+1<=tight u (cg m t):=by
 have h1:=H.cg ht;have h2:=yO H h1;have e:(lu p m t).2=(ny p m (cg m t)).2.2:=rfl;have h3:=h2.akh (e▸hg);have D1:(cg m t).pc<p.code.length:=by
  refine acL fun hn=> ?_;rw[e]at hg;unfold ny at hg;rw[if_neg hn]at hg;simp at hg
 have h64:=H.prog.rp;rw[yP H ht];have h4:=h2.pg.pc;unfold tight;refine⟨by omega,?_⟩;rcases h3.2 with q|⟨q,q'⟩
 ·rw[q];omega
 ·rw[q,q'];omega
structure Hx (h:bh) (c n:Nat) (s:State) (R T:Nat) (ri vi:Nat->Nat):Prop where
 row:h R=some ⟨1,jN ri s.regions,true⟩
 vow:h T=some ⟨8,jS vi s.threads,true⟩
 rat: ∀i (g:i<s.regions.length),h (ri i)=some ⟨4,(s.regions[i]).map Canon.e,false⟩
 vat: ∀i (g:i<s.threads.length),h (vi i)=some ⟨4,(s.threads[i]).bz.map Canon.e,false⟩
 lt:(c<=R/\R<n)/\(c<=T/\T<n)/\R≠T
 lr: ∀i,i<s.regions.length->c<=ri i/\ri i<n/\ri i≠R/\ri i≠T
 lv: ∀i,i<s.threads.length->c<=vi i/\vi i<n/\vi i≠R/\vi i≠T
 rr: ∀i j,i<s.regions.length->j<s.regions.length->i≠j->ri i≠ri j
 vv: ∀i j,i<s.threads.length->j<s.threads.length->i≠j->vi i≠vi j
 rv: ∀i j,i<s.regions.length->j<s.threads.length->ri i≠vi j
def ati.R{k n:Nat}{s:State}{v:V}{h:bh}(H:ati k n s v h)(h1:0<s.regions.length)(h2:0<s.threads.length): ∃R T ri vi,v= .agg [.cu R 0 s.regions.length,.cu T 0 s.threads.length]/\Hx h k n s R T ri vi:=by
 obtain⟨vR,vT,n1,rfl,HR,HV,k1,k2⟩:=H;rcases HR with⟨e,_⟩|⟨_,R,ri,rfl,r1,r2,r3,r4⟩
 ·rw[e]at h1;simp at h1
 rcases HV with⟨e,_⟩|⟨_,T,vi,rfl,t1,t2,t3,t4⟩
 ·rw[e]at h2;simp at h2
 refine⟨R,T,ri,vi,rfl,r1,t1,fun i g=>(r3 i g).1,fun i g=>(t3 i g).1,⟨⟨r2.1,by omega⟩,⟨by omega,by omega⟩,by omega⟩,fun i g=> ?_,fun i g=> ?_,r4,t4,fun i j gi gj=> ?_⟩
 ·obtain⟨_,a1,a2,a3⟩:=r3 i g;exact⟨a1,by omega,a3,by omega⟩
 ·obtain⟨_,a1,a2,a3⟩:=t3 i g;exact⟨by omega,a2,by omega,a3⟩
 ·obtain⟨_,a1,a2,a3⟩:=r3 i gi;obtain⟨_,b1,b2,b3⟩:=t3 j gj;omega
def Hx.mono{n n':Nat}{R:Nat}(H:Hx h c n s R T ri vi)(hn:n<=n')(hh: ∀i,c<=i->i<n->h' i=h i):Hx h' c n' s R T ri vi:=by
 obtain⟨a1,a2,a3,a4,a5,a6,a7,a8,a9,Wc⟩:=H;refine⟨by rw[hh _ a5.1.1 a5.1.2,a1],by rw[hh _ a5.2.1.1 a5.2.1.2,a2],fun i g=>by rw[hh _ (a6 i g).1 (a6 i g).2.1,a3],fun i g=>by rw[hh _ (a7 i g).1 (a7 i g).2.1,a4],by omega,fun i g=> ?_,fun i g=> ?_,a8,a9,Wc⟩
 ·obtain⟨b1,b2,b3,b4⟩:=a6 i g;exact⟨b1,by omega,b3,b4⟩
 ·obtain⟨b1,b2,b3,b4⟩:=a7 i g;exact⟨b1,by omega,b3,b4⟩
def WZ{l:List (List Canon)}{x:List Canon}(h:i<l.length)(hx:x.length=(l[i]).length):jN ri (l.set i x)=jN ri l:=by
 apply abA;intro j;simp only[jN,abV,abK];by_cases e:i=j
 ·subst e;simp[h,hx]
 ·simp[e]
def G9{l:List View}(h:i<l.length):(jS vi l).set i (rB vi i x)=jS vi (l.set i x):=by
 apply abA;intro j;simp only[jS,abV,abK,adM];by_cases e:i=j
 ·subst e;simp[h]
 ·simp[e]
def Sm{l:List View}(h:i<l.length):jS vi l=(jS vi l).set i (rB vi i l[i]):=by
 rw[G9 h,abO]
def DY{l:List View}(h:i<l.length)(h':i<(jS vi l).length):(jS vi l)[i]= .agg [.int .i64 (l[i]).state,.int .i64 (l[i]).pc,.int .i64 (l[i]).count,.int .i64 (l[i]).cn,.int .i64 (l[i]).saved,.int .i64 (l[i]).dn,.int .u16 (l[i]).code,.cu (vi i) 0 (l[i]).bz.length]:=by simp[jS,rB]
def Ha{l:List (List Canon)}(h:i<l.length)(h':i<(jN ri l).length):(jN ri l)[i]= .cu (ri i) 0 (l[i]).length:=by simp[jN]
def vE(s:State)(i:Nat)(x:List Canon):State:=⟨s.regions.set i x,s.threads⟩
def At(s:State)(i:Nat)(x:View):State:=⟨s.regions,s.threads.set i x⟩
def Hx.vE{h h':bh}{c n n':Nat}{s:State}{R T:Nat}{ri vi:Nat->Nat}(H:Hx h c n s R T ri vi)(hn:n<=n'){i:Nat}(hi:i<s.regions.length){x:List Canon}(hx:x.length=(s.regions[i]).length)(hw:h' (ri i)=some ⟨4,x.map Canon.e,false⟩)(hh: ∀j,c<=j->j<n->j≠ri i->h' j=h j):Hx h' c n' (vE s i x) R T ri vi:=by
 obtain⟨a1,a2,a3,a4,a5,a6,a7,a8,a9,Wc⟩:=H;unfold Go.Proofs.YtdngefmliibcgaaGreat.vE;have q:=a6 i hi;refine⟨by rw[hh _ a5.1.1 a5.1.2 (fun e=>q.2.2.1 e.symm),a1,WZ hi hx],by rw[hh _ a5.2.1.1 a5.2.1.2 (fun e=>q.2.2.2 e.symm),a2],fun j g=> ?_,fun j g=> ?_,by omega,fun j g=> ?_,fun j g=> ?_,fun j l g1 g2=>a8 j l (by simpa using g1) (by simpa using g2),a9,fun j l g1=>Wc j l (by simpa using g1)⟩
 ·have gj:j<s.regions.length:=by simpa using g
  by_cases e:i=j
  ·subst e;simp only[abY];exact hw
  ·rw[hh _ (a6 j gj).1 (a6 j gj).2.1 (a8 j i gj hi (fun x=>e x.symm)),a3 j gj];simp only[abQ e]
 ·rw[hh _ (a7 j g).1 (a7 j g).2.1 (fun e=>Wc i j hi g e.symm),a4 j g]
 ·obtain⟨b1,b2,b3,b4⟩:=a6 j (by simpa using g);exact⟨b1,by omega,b3,b4⟩
 ·obtain⟨b1,b2,b3,b4⟩:=a7 j g;exact⟨b1,by omega,b3,b4⟩
def Hx.At{h h':bh}{c n n':Nat}{s:State}{R T:Nat}{ri vi:Nat->Nat}(H:Hx h c n s R T ri vi)(hn:n<=n'){i:Nat}(hi:i<s.threads.length){x:View}(hT:h' T=some ⟨8,(jS vi s.threads).set i (rB vi i x),true⟩)(hw:h' (vi i)=some ⟨4,x.bz.map Canon.e,false⟩)(hh: ∀j,c<=j->j<n->j≠T->j≠vi i->h' j=h j):Hx h' c n' (At s i x) R T ri vi:=by
 obtain⟨a1,a2,a3,a4,a5,a6,a7,a8,a9,Wc⟩:=H;unfold Go.Proofs.YtdngefmliibcgaaGreat.At;have q:=a7 i hi;refine⟨by rw[hh _ a5.1.1 a5.1.2 a5.2.2 (fun e=>q.2.2.1 e.symm),a1],by rw[hT,G9 hi],fun j g=> ?_,fun j g=> ?_,by omega,fun j g=> ?_,fun j g=> ?_,a8,fun j l g1 g2=>a9 j l (by simpa using g1) (by simpa using g2),fun j l g1 g2=>Wc j l g1 (by simpa using g2)⟩
 ·rw[hh _ (a6 j g).1 (a6 j g).2.1 (a6 j g).2.2.2 (Wc j i g hi),a3 j g]
 ·have gj:j<s.threads.length:=by simpa using g
  by_cases e:i=j
  ·subst e;simp only[abY];exact hw
  ·rw[hh _ (a7 j gj).1 (a7 j gj).2.1 (a7 j gj).2.2.2 (a9 j i gj hi (fun x=>e x.symm)),a4 j gj];simp only[abQ e]
 ·obtain⟨b1,b2,b3,b4⟩:=a6 j g;exact⟨b1,by omega,b3,b4⟩
 ·obtain⟨b1,b2,b3,b4⟩:=a7 j (by simpa using g);exact⟨b1,by omega,b3,b4⟩
def Hx.pure{n:Nat}{R:Nat}(H:Hx h c n s R T ri vi):Hx (fun i=>kL (h i)) c n s R T ri vi:=by
 obtain⟨a1,a2,a3,a4,a5,a6,a7,a8,a9,Wc⟩:=H;have e1:(jN ri s.regions).all V.LN=true:=by
  rw[aaP];intro x hx;simp only[jN,List.mem_mapIdx]at hx;obtain⟨i,g,rfl⟩:=hx;rfl
 have e2:(jS vi s.threads).all V.LN=true:=by
  rw[aaP];intro x hx;simp only[jS,List.mem_mapIdx]at hx;obtain⟨i,g,rfl⟩:=hx;rfl
 have e3: ∀l:List Canon,(l.map Canon.e).all V.LN=true:=fun l=>by
  rw[aaP];intro x hx;obtain⟨y,_,rfl⟩:=List.mem_map.1 hx;rfl
 exact⟨by rw[a1];unfold kL;simp only[e1,if_true],by rw[a2];unfold kL;simp only[e2,if_true],fun i g=>by rw[a3 i g];unfold kL;simp only[e3,if_true],fun i g=>by rw[a4 i g];unfold kL;simp only[e3,if_true],a5,a6,a7,a8,a9,Wc⟩
def Hx.qi{n:Nat}{R:Nat}(H:Hx h c n s R T ri vi)(hh: ∀i,c<=i->i<n->hx i=h i)(d:Nat):cx hx (d+3) (.cu R 0 s.regions.length)=some (.sl false (s.regions.map bw)):=by
 have e:cF ((jN ri s.regions).map (cx hx (d+2)))=some (s.regions.map bw):=by
  unfold jN;refine nA _ _ fun i hi=> ?_;have q:=H.lr i hi;have e1:hx (ri i)=some ⟨4,(s.regions[i]).map Canon.e,false⟩:=by rw[hh _ q.1 q.2.1,H.rat i hi]
  simp[cx,e1,bw]
 have e1:hx R=some ⟨1,jN ri s.regions,true⟩:=by rw[hh _ H.lt.1.1 H.lt.1.2,H.row]
 have l1:=nE ri s.regions;have t1:(jN ri s.regions).take s.regions.length=jN ri s.regions:=aZ (by omega);simp[cx,e1,l1,t1,e]
def uv.vE{p:Prog}{d:Int}{s:State}(H:uv p d s){i j:Nat}(hi:i<s.regions.length){c:Canon}(hc:C3 c)(hb:lK c=true):uv p d (vE s i ((s.regions[i]).set j c)):=by
 obtain⟨⟨p1,p2,p3,p4⟩,h2,h3⟩:=H;unfold Go.Proofs.YtdngefmliibcgaaGreat.vE;refine⟨⟨by simpa using p1,fun k g g'=> ?_,p3,p4⟩,fun l hl=> ?_,h3⟩
 ·have gk:k<s.regions.length:=by simpa using g
  by_cases e:i=k
  ·subst e;simp only[abY,aaN];refine⟨(p2 i gk g').1,?_⟩;unfold jc;rw[aaP];intro x hx;rcases aaX hx with hx|rfl
   ·exact List.all_eq_true.1 (p2 i gk g').2 x hx
   ·exact hb
  ·simp only[abQ e];exact p2 k gk g'
 ·rcases aaX hl with hl|rfl
  ·exact h2 l hl
  ·intro x hx;rcases aaX hx with hx|rfl
   ·exact h2 _ (aaL hi) x hx
   ·exact hc
def uv.At{p:Prog}{d:Int}{s:State}(H:uv p d s){i:Nat}{x:View}(hx:DE x)(hv:hX x.bz/\(0<=x.code/\x.code<=65535)/\x.count<=d):uv p d (At s i x):=by
 obtain⟨⟨p1,p2,p3,p4⟩,h2,h3⟩:=H;unfold Go.Proofs.YtdngefmliibcgaaGreat.At;refine⟨⟨p1,p2,by simpa using p3,fun k g=> ?_⟩,h2,fun v Kt=> ?_⟩
 ·have gk:k<s.threads.length:=by simpa using g
  by_cases e:i=k
  ·subst e;simp only[abY];exact hx
  ·simp only[abQ e];exact p4 k gk
 ·rcases aaX Kt with h|rfl
  ·exact h3 v h
  ·exact hv
def Lp(v:View)(j:Nat)(c:Canon):View:=⟨v.state,v.pc,v.count,v.cn,v.saved,v.dn,v.code,v.bz.set j c⟩
def OC(v:View)(st:Int):View:=⟨st,v.pc,v.count,v.cn,v.saved,v.dn,v.code,v.bz⟩
def al5(h:DE v)(hv:hX v.bz/\(0<=v.code/\v.code<=65535)/\v.count<=d)(j:Nat){c:Canon}(hc:C3 c)(hb:lK c=true):DE (Lp v j c)/\(hX (Lp v j c).bz/\(0<=(Lp v j c).code/\(Lp v j c).code<=65535)/\(Lp v j c).count<=d):=by
 refine⟨⟨h.state,h.pc,h.count,h.cn,h.saved,h.dn,by simp[Lp,h.bz],?_⟩,fun x hx=> ?_,hv.2⟩
 ·unfold jc;rw[aaP];intro x hx;rcases aaX hx with hx|rfl
  ·exact List.all_eq_true.1 h.azk x hx
  ·exact hb
 ·rcases aaX hx with hx|rfl
  ·exact hv.1 x hx
  ·exact hc
def al6(h:DE v)(hv:hX v.bz/\(0<=v.code/\v.code<=65535)/\v.count<=d)(hs:0<=st/\st<=4):DE (OC v st)/\(hX (OC v st).bz/\(0<=(OC v st).code/\(OC v st).code<=65535)/\(OC v st).count<=d):=
 ⟨⟨hs,h.pc,h.count,h.cn,h.saved,h.dn,h.bz,h.azk⟩,hv⟩
def TW: ∀(l:List Int) (i:Int) (r:Nat),(∀x∈l,x<=32)->r+l.length<=4->0<=(py l i r).1.region/\(py l i r).1.region<4/\0<=(py l i r).1.offset/\(py l i r).1.offset<32
 | [],i,r,_,_=>by simp[py]
 |n::l,i,r,h,hr=>by
  have hn:=h n (by simp);simp only[abJ]at hr;unfold py;split
  ·simp only;omega
  ·exact TW l (i-n) (r+1) (fun x hx=>h x (by simp[hx])) (by omega)
def OD(l:List Int)(k:Int)(hz:oO an):C3 (wi l an k)/\lK (wi l an k)=true:=by
 unfold wi;split
 ·obtain⟨a1,a2,a3,a4⟩:=TW an (eZ l (dI l k) (total an)) 0 (fun x hx=>by
   obtain⟨i,hi,rfl⟩:=abE hx;exact(hz.elem i hi).2) (by have:=hz.le;omega)
  refine⟨⟨by simp,by simp⟩,?_⟩;have n1: ¬(py an (eZ l (dI l k) (total an)) 0).1.region= -1:=by omega
  simp[lK,n1];omega
 split
 ·have:=eX l (dI l k) (n:=10) (by omega);exact⟨⟨this.1,by simp only;omega⟩,by simp[lK]⟩
 ·exact⟨wh _ _,by simp[lK]⟩
def OE(dl:List Int)(v:V)(h:bh)(k:Nat):Prop:=
 ∃(kt:Int) (p:Prog) (d:Int) (T:Nat) (m:aO),v= .dM [KKk p,.agg [.sl false (m.layout.aD.map (V.int .i64)),.int .u16 m.layout.key,.sl false (m.memory.cells.map Cell.e),.sl false (m.memory.lines.map cy.e),.cu T 0 4]]/\
  h 0=some ⟨2,[KKa dl kt],true⟩/\h T=some ⟨8,m.threads.map Thread.e,false⟩/\T≠0/\eh dl kt/\db p d m/\d<=2000
def Hx.fits(s:State)(R T:Nat):(V.agg [.cu R 0 s.regions.length,.cu T 0 s.threads.length]).fits 2=true:=rfl
def al7(p:Prog)(m:aO)(o:cS)(l:bX)(js:List Int)(rc:List Entry):List V:=[.sl false (p.code.map Instr.e),.sl false (p.an.map (V.int .i64)),.sl false (p.data.map aV),.sl false (m.layout.aD.map (V.int .i64)),.int .u16 m.layout.key,.sl false (m.memory.cells.map Cell.e),.sl false (m.memory.lines.map cy.e),.cu 7 0 4,
   .sl false (o.clock.map (V.int .u16)),.sl false (o.random.map (V.int .u16)),.sl false (o.dp.map aV),.sl false (o.files.data.map bw),.sl false (o.files.opens.map fO.e),.sl false (o.dG.map Output.e),.sl false (l.owner.map (V.int .i64)),.sl false (l.queue.map dc),.sl false (rc.map Entry.e),.sl false (js.map (V.int .i64))]
structure MI (dl:List Int) (p:Prog) (m:aO) (d:Int) (o:cS) (l:bX) (js:List Int) (rc:List Entry) (R T:Nat) (ri vi:Nat->Nat) (kt:Int) (s:State) (S:St):Prop where
 f:S.f 0= .ptr 0 0 0/\S.f 2= .ptr 1 0 0/\S.f 3= .ptr 2 0 0/\S.f 4= .ptr 5 0 0/\S.f 5= .ptr 10 0 0/\S.f 6= .ptr 19 0 0
 h0:S.h 0=some ⟨2,[.agg [.sl false (dl.map (V.int .i64)),.int .i64 kt]],true⟩
 h:S.h 1=some ⟨3,[.agg [.sl true [],.sl true [],.sl true []]],true⟩/\S.h 2=some ⟨5,[.agg [.sl true [],.int .u16 0,.sl true [],.sl true [],.sl true []]],true⟩/\S.h 5=some ⟨18,[.agg (al7 p m o l js rc)],true⟩/\S.h 7=some ⟨8,m.threads.map Thread.e,false⟩/\S.h 10=some ⟨5,[.agg [.sl false (m.layout.aD.map (V.int .i64)),.int .u16 m.layout.key,.sl false (m.memory.cells.map Cell.e),.sl false (m.memory.lines.map cy.e),.cu 7 0 4]],true⟩/\S.h 19=some ⟨2,[.agg [.cu R 0 s.regions.length,.cu T 0 4]],true⟩
 st:Hx S.h 36 S.n s R T ri vi
 g:uv p d s
 dk:eh dl kt
 n:36<=S.n
def MI.put         {R:Nat}     (H:MI dl p m d o l js rc R T ri vi kt s S)   
  (hf:S'.f 0=S.f 0/\S'.f 2=S.f 2/\S'.f 3=S.f 3/\S'.f 4=S.f 4/\S'.f 5=S.f 5/\S'.f 6=S.f 6) (h0:S'.h 0=some ⟨2,[KKa dl Sn],true⟩) (hl: ∀j,1<=j->j<36->S'.h j=S.h j)
  (st:Hx S'.h 36 S'.n s' R T ri vi) (hr:s'.regions.length=s.regions.length) (g:uv p d s') (dk:eh dl Sn) (hn:S.n<=S'.n):MI dl p m d o l js rc R T ri vi Sn s' S':=by
 obtain⟨⟨f0,f2,f3,f4,f5,f6⟩,_,⟨g1,g2,g5,g7,IH,Pa⟩,_,_,_,n⟩:=H;obtain⟨a0,a2,a3,a4,a5,a6⟩:=hf;refine⟨⟨a0.trans f0,a2.trans f2,a3.trans f3,a4.trans f4,a5.trans f5,a6.trans f6⟩,h0,⟨?_,?_,?_,?_,?_,?_⟩,st,g,dk,by omega⟩
 ·rw[hl 1 (by omega) (by omega),g1]
 ·rw[hl 2 (by omega) (by omega),g2]
 ·rw[hl 5 (by omega) (by omega),g5]
 ·rw[hl 7 (by omega) (by omega),g7]
 ·rw[hl 10 (by omega) (by omega),IH]
 ·rw[hl 19 (by omega) (by omega),Pa,hr]
def MI.len{R:Nat}(H:MI dl p m d o l js rc R T ri vi kt s S):s.regions.length=p.an.length/\s.threads.length=4:=⟨H.g.p.regions,H.g.p.threads⟩
def MI.same         {R:Nat}     (H:MI dl p m d o l js rc R T ri vi kt s S)  
  (hf:S'.f 0=S.f 0/\S'.f 2=S.f 2/\S'.f 3=S.f 3/\S'.f 4=S.f 4/\S'.f 5=S.f 5/\S'.f 6=S.f 6) (h0:S'.h 0=some ⟨2,[KKa dl Sn],true⟩) (hl: ∀j,1<=j->S'.h j=S.h j)
  (dk:eh dl Sn) (hn:S.n<=S'.n):MI dl p m d o l js rc R T ri vi Sn s S':=
 H.put hf h0 (fun j a _=>hl j a) (H.st.mono hn fun j a _=>hl j (by omega)) rfl H.g dk hn
def MI.GJ         {R:Nat}     (H:MI dl p m d o l js rc R T ri vi kt s S)    (hi:i<s.regions.length) {c:Canon} 
  (hf:S'.f 0=S.f 0/\S'.f 2=S.f 2/\S'.f 3=S.f 3/\S'.f 4=S.f 4/\S'.f 5=S.f 5/\S'.f 6=S.f 6) (h0:S'.h 0=some ⟨2,[KKa dl Sn],true⟩)
  (hw:S'.h (ri i)=some ⟨4,((s.regions[i]).set j c).map Canon.e,false⟩) (hl: ∀j,1<=j-> ¬j=ri i->S'.h j=S.h j) (hc:C3 c/\lK c=true)
  (dk:eh dl Sn) (hn:S.n<=S'.n):MI dl p m d o l js rc R T ri vi Sn (vE s i ((s.regions[i]).set j c)) S':=by
 have q:=H.st.lr i hi;refine H.put hf h0 (fun j a b=>hl j a (by omega)) (H.st.vE hn hi (by simp) hw fun j a b e=>hl j (by omega) e) (by simp[vE]) (H.g.vE hi hc.1 hc.2) dk hn
def MI.vw         {R:Nat}     (H:MI dl p m d o l js rc R T ri vi kt s S)    (hi:i<s.threads.length) 
  (hf:S'.f 0=S.f 0/\S'.f 2=S.f 2/\S'.f 3=S.f 3/\S'.f 4=S.f 4/\S'.f 5=S.f 5/\S'.f 6=S.f 6) (h0:S'.h 0=some ⟨2,[KKa dl Sn],true⟩)
  (hT:S'.h T=some ⟨8,(jS vi s.threads).set i (rB vi i x),true⟩) (hw:S'.h (vi i)=some ⟨4,x.bz.map Canon.e,false⟩) (hl: ∀j,1<=j-> ¬j=T-> ¬j=vi i->S'.h j=S.h j) (hx:DE x/\(hX x.bz/\(0<=x.code/\x.code<=65535)/\x.count<=d))
  (dk:eh dl Sn) (hn:S.n<=S'.n):MI dl p m d o l js rc R T ri vi Sn (At s i x) S':=by
 have q:=H.st.lv i hi;have q2:=H.st.lt;refine H.put hf h0 (fun j a b=>hl j a (by omega) (by omega)) (H.st.At hn hi hT hw fun j a b e e'=>hl j (by omega) e e') (by simp[At]) (H.g.At hx.1 hx.2) dk hn
def Far(c:Nat)(h hx:bh):Prop:= ∀i,c<=i->hx i=h i
def OF(c:Nat)(h:bh):Far c h h:=fun _ _=>rfl
def TX(j:Nat)(x:Option Ob)(hj:j<c)(H:Far c h hx):Far c h (aR hx j x):=fun i hi=>by
 rw[aR,if_neg (by omega)];exact H i hi
def Hx.ze{n:Nat}{R:Nat}(H:Hx h c n s R T ri vi)(hf:Far c h hx):cF (List.take s.regions.length (List.map (cx hx 11) (jN ri s.regions)))=some (s.regions.map bw):=by
 have t1:List.take s.regions.length (List.map (cx hx 11) (jN ri s.regions))=List.map (cx hx 11) (jN ri s.regions):=aZ (by simp[nE]);rw[t1];unfold jN;refine nA _ _ fun i hi=> ?_;have q:=H.lr i hi;have e1:hx (ri i)=some ⟨4,(s.regions[i]).map Canon.e,false⟩:=by rw[hf _ q.1,H.rat i hi]
 simp[cx,e1,bw]
def Hx.W0{n:Nat}{R:Nat}(H:Hx h c n s R T ri vi)(hl:s.threads.length=4)(hf:Far c h hx):cF (List.take 4 (List.map (cx hx 11) (jS vi s.threads)))=some (s.threads.map View.e):=by
 have t1:List.take 4 (List.map (cx hx 11) (jS vi s.threads))=List.map (cx hx 11) (jS vi s.threads):=aZ (by simp[ur,hl]);rw[t1];unfold jS;refine nA _ _ fun i hi=> ?_;have q:=H.lv i hi;have e1:hx (vi i)=some ⟨4,(s.threads[i]).bz.map Canon.e,false⟩:=by rw[hf _ q.1,H.vat i hi]
 simp[cx,rB,cF,e1,View.e]
def pmV(p:Prog)(m:aO):List V:=[(KKk p:V),(KKK m:V)]
@[simp]def W1(bN:List Int)(aW:Int)(hd:eh bN aW): ∃v h k,cL X 40 [.ptr 0 0 0] (ma X 40 2 ((KKa bN aW:V))) 1=some (v,h,k)/\OE bN v h k:=by
 obtain⟨kt,⟨pc,ps,pd⟩,d,⟨⟨mb,mk⟩,⟨mc,ml⟩,mt⟩,⟨oc,orr,oi,⟨od,oo⟩,ou⟩,⟨lo,lq⟩,js,rc,hR,vr,HG,XD,_⟩:=a2o hd;simp only at hR;have rE:mt.length=4:=HG.len;have tM: ∀(f:Thread->V),List.take 4 (mt.map f)=mt.map f:=fun f=>aZ (by simp;omega);have RQ: ∀(f:Thread->Option V),List.take 4 (mt.map f)=mt.map f:=fun f=>aZ (by simp;omega);have hNx:=lJ bN kt 3 vr (by omega);have a2p:=eJ vr;refine aaB ?_;by_cases h3:eZ bN kt 3=0
 case neg=>
  simp(maxSteps:=10000000)(maxDischargeDepth:=30)[hR,hNx,rE,tM,RQ,k9,uW,h3];exact⟨dI bN kt,⟨pc,ps,pd⟩,d,7,⟨⟨mb,mk⟩,⟨mc,ml⟩,mt⟩,rfl,by simp[aR],by simp[aR],by omega,a2p,HG,XD⟩
 have h3':=eq_true h3;obtain⟨v,h1,k1,eS,HS⟩:=ak7 pc ps pd mb mk mc ml mt 21 d HG;have SG:=WI HG (by omega);obtain⟨s,hs⟩: ∃s,sU (Prog.mk pc ps pd) (aO.mk (Layout.mk mb mk) (aF.mk mc ml) mt)=s:=⟨_,rfl⟩;rw[hs]at HS SG;have hz:oO ps:=HG.prog.an;have hsr:s.regions.length=ps.length:=SG.p.regions;have kD:s.threads.length=4:=SG.p.threads;have z1:0<ps.length:=hz.pos;obtain⟨R,T,ri,vi,rfl,HR⟩:=HS.R (by omega) (by omega);rw[kD]at eS;simp only[Nat.reduceAdd]at HR;have Eo:36<=k1:=by have:=HR.lt;omega
 obtain⟨L,hL⟩: ∃L,(ps[0]).toNat=L:=⟨_,rfl⟩;have L1:=(hz.elem 0 z1);have a2q: ∀s',uv (Prog.mk pc ps pd) d s'-> ∀g:0<s'.regions.length,(s'.regions[0]).length=L:=fun s' G g=>by
  have:=(G.p.region 0 g z1).1;simp only at this;omega
 have gz:0<s.regions.length:=by omega
 have gL:=a2q s SG gz;have HP:=HR.pure;have b1:=HP.row;have b2: ∀h',(jN ri s.regions)[0]= .cu (ri 0) 0 L:=fun h'=>by rw[Ha gz h',gL]
 have b3:=nE ri s.regions;have c1: ¬R<21:=by have:=HR.lt;omega
 have c2: ¬R=19:=by have:=HR.lt;omega
 have hLi:0<=L/\L<=32:=by have:=L1.2;omega
 have epu: ∀n m,(V.agg [.cu R 0 n,.cu T 0 m]).pu=true:=fun _ _=>rfl;simp(maxSteps:=10000000)(maxDischargeDepth:=30)[hR,hNx,rE,tM,RQ,k9,uW,h3',eS,b1,b2,b3,c1,c2,gz,epu];refine lS (fun i S=> ∃kt s,MI bN ⟨pc,ps,pd⟩ ⟨⟨mb,mk⟩,⟨mc,ml⟩,mt⟩ d ⟨oc,orr,oi,⟨od,oo⟩,ou⟩ ⟨lo,lq⟩ js rc R T ri vi kt s S/\S.f 27=(L:Int)/\S.f 28=(i:Int)) L ?_ 0 (by simp) ?_
 ·rintro i S hi ⟨zk,s2,HM,f27,f28⟩;obtain⟨f0,f2,f3,f4,f5,f6⟩:=HM.f;obtain⟨g1,g2,g5,g7,IH,Pa⟩:=HM.h;have g0:=HM.h0;unfold al7 at g5;simp only at g5 IH;obtain⟨OU,ht2⟩:=HM.len;simp only at OU;have J7:=HM.st;have gz2:0<s2.regions.length:=by omega
  have e1:=J7.row;have e5:=a2q s2 HM.g gz2;have e2: ∀h',(jN ri s2.regions)[0]= .cu (ri 0) 0 L:=fun h'=>by rw[Ha gz2 h',e5]
  have e3:=nE ri s2.regions;have e4:=J7.rat 0 gz2;have n36:=HM.n;have q0: ¬R=0:=by have:=J7.lt;omega
  have q1: ¬ri 0=0:=by have:=J7.lr 0 gz2;omega
  have q2: ¬0=ri 0:=fun e=>q1 e.symm;have hN:=lJ bN zk 3 HM.dk (by omega);have hC:=uR bN (dI bN zk) ps (eJ HM.dk) hz;by_cases gY:i<L
  ·have bL:(i:Int)<L:=by omega
   have ie:=nd i (by omega);by_cases O7:eZ bN zk 3=0
   ·have ae7:=eq_true O7;obtain⟨row,fV⟩: ∃r,s2.regions[0]=r:=⟨_,rfl⟩;rw[fV]at e4 e5;have lb: ∀(x c:Canon),(row.map Canon.e).set i (x.e.put 0 ((KKr c:V)))=(row.set i c).map Canon.e:=fun x c=>by rw[abL];rfl
    simp(maxSteps:=10000000)(maxDischargeDepth:=30)[f0,f2,f3,f4,f5,f6,f27,f28,g0,g1,g2,g5,IH,Pa,gz2,e1,e2,e3,e4,e5,q0,q1,hN,hC,ae7,gY,bL,ie];refine⟨BM bN (dI bN zk),_,HM.GJ gz2 (c:=wi bN ps (dI bN zk)) (j:=i) (by simp[aR]) (by simp[aR,q2]) ?_ (fun j a b=> ?_) (OD bN (dI bN zk) hz) (Nq (eJ HM.dk)) (by simp only;omega)⟩
    ·simp only[aR,if_true,lb,fV]
    ·have w1: ¬j=0:=by omega
     simp[aR,w1,b]
   ·simp(maxSteps:=10000000)(maxDischargeDepth:=30)[f0,f2,f3,f4,f5,f6,f27,f28,g0,g1,g2,g5,IH,Pa,gz2,e1,e2,e3,e4,e5,q0,q1,hN,hC,O7,gY,bL,ie];refine⟨dI bN zk,s2,HM.same (by simp[aR]) (by simp[aR]) (fun j a=> ?_) (eJ HM.dk) (by simp only;omega)⟩;have w1: ¬j=0:=by omega
    simp[aR,w1]
  ·have bL: ¬(i:Int)<L:=by omega
   have hie:L=i:=by omega
   have e6:=J7.vow;have e7:=ur vi s2.threads;simp(maxSteps:=10000000)(maxDischargeDepth:=30)[f0,f2,f3,f4,f5,f6,f27,f28,g0,g1,g2,g5,IH,Pa,gz2,e1,e2,e3,e4,e5,q0,q1,gY,bL];refine lS (fun i S=> ∃kt s,MI bN ⟨pc,ps,pd⟩ ⟨⟨mb,mk⟩,⟨mc,ml⟩,mt⟩ d ⟨oc,orr,oi,⟨od,oo⟩,ou⟩ ⟨lo,lq⟩ js rc R T ri vi kt s S/\S.f 48= .int .i64 4/\S.f 49=(i:Int)) 4 ?_ 0 (by simp) ?_
   ·clear e1 e2 e3 e4 e5 e6 e7 q0 q1 q2 hN hC J7 HM f0 f2 f3 f4 f5 f6 f27 f28 g0 g1 g2 g5 g7 IH Pa OU ht2 n36 gz2;rintro k S hi ⟨zk,s2,HM,f48,f49⟩;obtain⟨f0,f2,f3,f4,f5,f6⟩:=HM.f;obtain⟨g1,g2,g5,g7,IH,Pa⟩:=HM.h;have g0:=HM.h0;unfold al7 at g5;simp only at g5 IH;obtain⟨OU,ht2⟩:=HM.len;simp only at OU;have J7:=HM.st;have e6:=J7.vow;have e7:=ur vi s2.threads;rw[ht2]at e7;have n36:=HM.n;have q0: ¬T=0:=by have:=J7.lt;omega
    by_cases gY:k<4
    ·have bL:(k:Int)<4:=by omega
     have xz:=bL;have kl:k<s2.threads.length:=by omega
     have ie:=nd k (by omega);have e8: ∀h',(jS vi s2.threads)[k]=_:=fun h'=>DY kl h';have e9:(s2.threads[k]).bz.length=8:=(HM.g.p.view k kl).bz;rw[e9]at e8;simp(maxSteps:=10000000)(maxDischargeDepth:=30)[f0,f2,f3,f4,f5,f6,f48,f49,g0,g1,g2,g5,IH,Pa,e6,e7,e8,q0,gY,bL];refine lS (fun j S=> ∃kt s,MI bN ⟨pc,ps,pd⟩ ⟨⟨mb,mk⟩,⟨mc,ml⟩,mt⟩ d ⟨oc,orr,oi,⟨od,oo⟩,ou⟩ ⟨lo,lq⟩ js rc R T ri vi kt s S/\S.f 8=(k:Int)/\S.f 48= .int .i64 4/\S.f 49=(k:Int)/\S.f 58= .int .i64 8/\S.f 59=(j:Int)) 8 ?_ 0 (by simp) ?_
     ·clear e6 e7 e8 e9 q0 J7 HM f0 f2 f3 f4 f5 f6 f48 f49 g0 g1 g2 g5 g7 IH Pa OU ht2 n36 kl;rintro j S hj ⟨zk,s2,HM,f8,f48,f49,f58,f59⟩;obtain⟨f0,f2,f3,f4,f5,f6⟩:=HM.f;obtain⟨g1,g2,g5,g7,IH,Pa⟩:=HM.h;have g0:=HM.h0;unfold al7 at g5;simp only at g5 IH;obtain⟨OU,ht2⟩:=HM.len;simp only at OU;have J7:=HM.st;have e6:=J7.vow;have e7:=ur vi s2.threads;rw[ht2]at e7;have kl:k<s2.threads.length:=by omega
      have e8: ∀h',(jS vi s2.threads)[k]=_:=fun h'=>DY kl h';have e9:(s2.threads[k]).bz.length=8:=(HM.g.p.view k kl).bz;have e10:=J7.vat k kl;rw[e9]at e8;have n36:=HM.n;have q0: ¬T=0:=by have:=J7.lt;omega
      have q1: ¬vi k=0:=by have:=J7.lv k kl;omega
      have q3: ¬T=vi k:=by have:=J7.lv k kl;omega
      have q2: ¬0=vi k:=fun e=>q1 e.symm;have q4: ¬0=T:=fun e=>q0 e.symm;have q5: ¬vi k=T:=fun e=>q3 e.symm;have hN:=lJ bN zk 3 HM.dk (by omega);have hC:=uR bN (dI bN zk) ps (eJ HM.dk) hz;have hN4:=lJ bN zk 4 HM.dk (by omega);have hN5:=lJ bN (dI bN zk) 5 (eJ HM.dk) (by omega);have hvv:=HM.g.tv _ (aaL kl);have hvp:=HM.g.p.view k kl;obtain⟨x,hx⟩: ∃x,s2.threads[k]=x:=⟨_,rfl⟩;rw[hx]at e8 e9 e10 hvv hvp;have hxs:jS vi s2.threads=(jS vi s2.threads).set k (rB vi k x):=by rw[<-hx];exact Sm kl
      by_cases LB:j<8
      ·have Oh:(j:Int)<8:=by omega
       have ie:=nd j (by omega);by_cases O7:eZ bN zk 3=0
       ·have ae7:=eq_true O7;have lb: ∀(y c:Canon),(x.bz.map Canon.e).set j (y.e.put 0 ((KKr c:V)))=(x.bz.set j c).map Canon.e:=fun y c=>by rw[abL];rfl
        simp(maxSteps:=10000000)(maxDischargeDepth:=30)[f0,f2,f3,f4,f5,f6,f8,f48,f49,f58,f59,g0,g1,g2,g5,IH,Pa,e6,e7,e8,e9,e10,q0,q1,hN,hC,ae7,gY,xz,LB,Oh,ie];have hco:=OD bN (dI bN zk) hz;refine⟨BM bN (dI bN zk),_,HM.vw kl (x:=Lp x j (wi bN ps (dI bN zk))) (by simp[aR]) (by simp[aR,q2]) ?_ ?_ (fun i a b c=> ?_) (al5 hvp hvv j hco.1 hco.2) (Nq (eJ HM.dk)) (by simp only;omega)⟩
        ·have w1:rB vi k (Lp x j (wi bN ps (dI bN zk)))=rB vi k x:=by simp[rB,Lp]
         rw[w1,<-hxs];simp[aR,q0,q3,e6]
        ·simp only[aR,if_true,lb];rfl
        ·have w1: ¬i=0:=by omega
         simp[aR,w1,c]
       ·simp(maxSteps:=10000000)(maxDischargeDepth:=30)[f0,f2,f3,f4,f5,f6,f8,f48,f49,f58,f59,g0,g1,g2,g5,IH,Pa,e6,e7,e8,e9,e10,q0,q1,hN,hC,O7,gY,xz,LB,Oh,ie];refine⟨dI bN zk,s2,HM.same (by simp[aR]) (by simp[aR]) (fun j a=> ?_) (eJ HM.dk) (by simp only;omega)⟩;have w1: ¬j=0:=by omega
        simp[aR,w1]
      ·have Oh: ¬(j:Int)<8:=by omega
       by_cases O7:eZ bN zk 4=0
       ·have ae7:=eq_true O7;simp(maxSteps:=10000000)(maxDischargeDepth:=30)[f0,f2,f3,f4,f5,f6,f8,f48,f49,f58,f59,g0,g1,g2,g5,IH,Pa,e6,e7,e8,e9,e10,q0,q1,hN4,hN5,ae7,gY,xz,LB,Oh,ie];have bsa:=eX bN (dI bN zk) (n:=5) (by omega);refine⟨dI bN (dI bN zk),_,HM.vw kl (x:=OC x (eZ bN (dI bN zk) 5)) (by simp[aR]) (by simp[aR,q4]) ?_ ?_ (fun i a b c=> ?_) (al6 hvp hvv (by omega)) (eJ (eJ HM.dk)) (by simp only;omega)⟩
        ·simp[aR,rB,OC,e9]
        ·simp[aR,q1,q5,e10,OC]
        ·have w1: ¬i=0:=by omega
         simp[aR,w1,b]
       ·simp(maxSteps:=10000000)(maxDischargeDepth:=30)[f0,f2,f3,f4,f5,f6,f8,f48,f49,f58,f59,g0,g1,g2,g5,IH,Pa,e6,e7,e8,e9,e10,q0,q1,hN4,hN5,O7,gY,xz,LB,Oh,ie];refine⟨dI bN zk,s2,HM.same (by simp[aR]) (by simp[aR]) (fun j a=> ?_) (eJ HM.dk) (by simp only;omega)⟩;have w1: ¬j=0:=by omega
        simp[aR,w1]
     ·simp(maxSteps:=10000000)(maxDischargeDepth:=30)[f48,f49];refine⟨zk,s2,HM.same (by simp[aR]) (by simp[aR,g0]) (fun j a=>by simp[aR]) HM.dk (by simp only;omega)⟩
    ·have bL: ¬(k:Int)<4:=by omega
     have e1:=J7.row;have e3:=nE ri s2.regions;have r36:36<=R/\36<=T/\ ¬R=T:=by have:=J7.lt;omega
     obtain⟨r0,r1,r2,r5,r10,r19,r7⟩: ¬R=0/\ ¬R=1/\ ¬R=2/\ ¬R=5/\ ¬R=10/\ ¬R=19/\ ¬R=7:=by omega
     obtain⟨r0',r1',r2',r5',a2r,a2s,r7'⟩: ¬0=R/\ ¬1=R/\ ¬2=R/\ ¬5=R/\ ¬10=R/\ ¬19=R/\ ¬7=R:=by omega
     obtain⟨t0,t1,t2,t5,t10,t19,t7⟩: ¬T=0/\ ¬T=1/\ ¬T=2/\ ¬T=5/\ ¬T=10/\ ¬T=19/\ ¬T=7:=by omega
     obtain⟨po,BW,t2',t5',a2t,a2u,t7'⟩: ¬0=T/\ ¬1=T/\ ¬2=T/\ ¬5=T/\ ¬10=T/\ ¬19=T/\ ¬7=T:=by omega
     have Fu: ∀hx,Far 36 S.h hx->_:=fun hx hf=>J7.ze (hx:=hx) hf;have hva: ∀hx,Far 36 S.h hx->_:=fun hx hf=>J7.W0 (hx:=hx) ht2 hf;have hI:=ad5 pc ps pd mb mk s2.regions s2.threads HG.prog HG.lay HM.g.p;have hMI:=ale HG.prog HG.lay HG.key HM.g;by_cases hB:atk ⟨pc,ps,pd⟩ ⟨s2.regions,s2.threads⟩=true
     ·have eI:Ej ⟨pc,ps,pd⟩ ⟨mb,mk⟩ ⟨s2.regions,s2.threads⟩=(Iv ⟨pc,ps,pd⟩ ⟨mb,mk⟩ ⟨s2.regions,s2.threads⟩,true):=if_pos hB;rw[eI]at hI;simp only at hI;obtain⟨x,hx⟩: ∃x,Iv ⟨pc,ps,pd⟩ ⟨mb,mk⟩ ⟨s2.regions,s2.threads⟩=x:=⟨_,rfl⟩;have a2v:db ⟨pc,ps,pd⟩ d x:=by rw[<-hx];exact hMI
      rw[hx]at hI;have xU:x.threads.length=4:=a2v.len;obtain⟨⟨xb,xk⟩,⟨xc,xl⟩,xt⟩:=x;simp only at hI xU;have xkf: ∀(f:Thread->V),List.take 4 (xt.map f)=xt.map f:=fun f=>aZ (by simp;omega);have xko: ∀(f:Thread->Option V),List.take 4 (xt.map f)=xt.map f:=fun f=>aZ (by simp;omega);simp(maxSteps:=10000000)(maxDischargeDepth:=30)[f0,f2,f3,f4,f5,f6,f48,f49,g0,g1,g2,g5,g7,IH,Pa,e1,e3,e6,e7,q0,gY,bL,r0,r1,r2,r5,r10,r19,r7,r0',r1',r2',r5',a2r,a2s,r7',t0,t1,t2,t5,t10,t19,t7,po,BW,t2',t5',a2t,a2u,t7',rE,tM,RQ,uW,k9,Fu,hva,TX,OF,hI,xU,xkf,xko];exact⟨zk,⟨pc,ps,pd⟩,d,1113,⟨⟨xb,xk⟩,⟨xc,xl⟩,xt⟩,rfl,by simp[aR],by simp[aR],by omega,HM.dk,a2v,XD⟩
     ·have eI:Ej ⟨pc,ps,pd⟩ ⟨mb,mk⟩ ⟨s2.regions,s2.threads⟩=(iT,false):=if_neg hB;rw[eI]at hI;simp(maxSteps:=10000000)(maxDischargeDepth:=30)[f0,f2,f3,f4,f5,f6,f48,f49,g0,g1,g2,g5,g7,IH,Pa,e1,e3,e6,e7,q0,gY,bL,r0,r1,r2,r5,r10,r19,r7,r0',r1',r2',r5',a2r,a2s,r7',t0,t1,t2,t5,t10,t19,t7,po,BW,t2',t5',a2t,a2u,t7',rE,tM,RQ,uW,k9,Fu,hva,TX,OF,hI];exact⟨zk,⟨pc,ps,pd⟩,d,1000,⟨⟨mb,mk⟩,⟨mc,ml⟩,mt⟩,rfl,by simp[aR],by simp[aR],by omega,HM.dk,HG,XD⟩
   ·simp(maxSteps:=10000000)(maxDischargeDepth:=30)[];refine⟨zk,s2,HM.same (by simp[aR]) (by simp[aR,g0]) (fun j a=>by simp[aR]) HM.dk (by simp only;omega)⟩
 ·simp(maxSteps:=10000000)(maxDischargeDepth:=30)[];refine⟨dI bN kt,s,⟨by simp[aR],by simp[aR],⟨by simp[aR],by simp[aR],by simp[aR];rfl,by simp[aR],by simp[aR],by simp[aR]⟩,?_,SG,a2p,by simp only;omega⟩⟩;refine HP.mono (by simp only;omega) fun j a b=> ?_;have w1: ¬j<21:=by omega
  have w2: ¬j=19:=by omega
  simp[aR,w1,w2]
def OE.io{v:V}(H:OE dl v h k): ∃(kt:Int) (p:Prog) (d:Int) (m:aO),
  x8 X [(2,4,112)] v h=some (2,(KKa dl kt:V),pmV p m)/\vj v= .dM []/\eh dl kt/\db p d m/\d<=2000:=by
 obtain⟨kt,p,d,T,m,rfl,h0,hT,T0,vr,HG,hd⟩:=H;refine⟨kt,p,d,m,?_,rfl,vr,HG,hd⟩;have rE:m.threads.length=4:=HG.len;have tM: ∀(f:Thread->V),List.take 4 (m.threads.map f)=m.threads.map f:=fun f=>aZ (by simp;omega);have RQ: ∀(f:Thread->Option V),List.take 4 (m.threads.map f)=m.threads.map f:=fun f=>aZ (by simp;omega);unfold pmV;simp(maxSteps:=10000000)[h0,hT,rE,T0,tM,k9]
def db.one(h:db p d m)(hd:d<=1099511627776)(ht:t<4)(hn:1<=n/\n<=64):ads p m t n=((dN p m t n).1,(dN p m t n).2,0):=by
 unfold ads;rw[if_pos ⟨(h.mono hd).ok,by omega,hn.1,hn.2⟩,aaH]
def tc(p:Prog)(m:aO):Nat->aO
 |0=>m
 |k+1=>(lu p (tc p m k) 0).1
def zN(p:Prog)(m:aO)(k:Nat):tc p m (k+1)=(lu p (tc p m k) 0).1:=rfl
def Lq(p:Prog)(m:aO):tc p m 0=m:=rfl
structure Hd (p:Prog) (d:Int) (m:aO) (n:Int) (k:Nat):Prop where
 g:db p d (tc p m k)
 st:(cg (tc p m k) 0).state=1
 lt:(cg (tc p m k) 0).count<(cg m 0).count+n
 le:(k:Int)<=n*65
 tt:(k:Int)+tight ((cg m 0).count+n) (cg (tc p m k) 0)<=n*65
 go:jZ p 0 ((cg m 0).count+n) (20000-k) (tc p m k)=dN p m 0 n
def Hd.zero(h:db p d m)(hs:(cg m 0).state=1)(hn:1<=n):Hd p (d+n) m n 0:=by
 refine⟨h.mono (by omega),hs,by rw[Lq];omega,by omega,?_,?_⟩
 ·rw[Lq];have:=(h.cg (t:=0) (by omega)).pc;unfold tight;omega
 ·rw[Lq,Wq hs]
def Hd.step(I:Hd p d m n k)(hm:db p (d-n) m)(hn:n<=6)(ho:(lu p (tc p m k) 0).2= -1):
  db p d (tc p m (k+1))/\(k:Int)+1<=n*65/\
  ((cg (tc p m (k+1)) 0).count=(cg m 0).count+n->dN p m 0 n=(tc p m (k+1),0))/\
  (¬(cg (tc p m (k+1)) 0).count=(cg m 0).count+n->Hd p d m n (k+1)):=by
 have IY:=(hm.cg (t:=0) (by omega)).count;have hG:=EC I.g (t:=0) (by omega) (by have:=I.lt;omega);have ht:=RI I.g (t:=0) (by omega) ho ((cg m 0).count+n);have hl:=zJ I.g (t:=0) (by omega) ho ((cg m 0).count+n);have h1:=I.lt;have h2:=I.tt;have h3:=(I.g.cg (t:=0) (by omega)).pc;have h4:=I.go;have hk:(k:Int)+1<=n*65:=by
  have:=ht.1;unfold tight at h2;omega
 have OV:20000-k=(20000-(k+1))+1:=by omega
 rw[OV]at h4;rw[zN];refine⟨hG,hk,fun hc=> ?_,fun hc=> ?_⟩
 ·rw[<-h4,yU ho hc]
 ·refine⟨by rw[zN];exact hG,by rw[zN,hl.2.1];exact I.st,by rw[zN];have:=hl.2.2.2;omega,by simpa using hk,by rw[zN];have:=ht.2;omega,?_⟩;rw[zN,<-h4,xj ho hc]
def Hd.stop(I:Hd p d m n k)(hn:n<=6)(ho: ¬(lu p (tc p m k) 0).2= -1):dN p m 0 n=lu p (tc p m k) 0:=by
 have OV:20000-k=(20000-(k+1))+1:=by have:=I.le;omega
 have h4:=I.go;rw[OV,xi ho]at h4;exact h4.symm
def zV.a2j{B:Nat->Prop}{m:aF}(h:zV B m):zV (fun _=>False) m:=fun r hr t ht o ho hb=>h r hr t ht o ho (hb.imp id False.elim)
end Go.Proofs.YtdngefmliibcgaaGreat
