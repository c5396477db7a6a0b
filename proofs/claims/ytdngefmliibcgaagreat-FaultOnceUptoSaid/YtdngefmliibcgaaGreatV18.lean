/- part -/
import Derived.Test.YtdngefmliibcgaaGreatV17
set_option linter.all false
set_option maxRecDepth 20000
set_option maxHeartbeats 20000000
namespace Go.Proofs.YtdngefmliibcgaaGreat
open Go Go.Abs Go.Abs.kI Qf
variable  {p:Prog}{m:aO}{t c T i j k:Nat}{n d st kt SV:Int}{h h' hx:bh}{s s':State}{ri vi:Nat->Nat}{l:bY}{x v:View}{an dl js:List Int}{o:cU}{rc:List Entry}{S S':St}
def WT(hs:(bV m t).state=1):dQ p m t n=j9 p t ((bV m t).count+n) 20000 m:=by
 have e0:m.threads.getD t cn=bV m t:=rfl;unfold dQ;rw[e0,if_pos hs]
def tight(u:Int)(x:Thread):Int:=(u-x.count-1)*65+(65-x.pc)
def Sl{c:Int}(H:cT p c m)(ht:t<4)(hg:(lz p m t).2= -1)(u:Int):(bV m t).pc<=64/\tight u (bV (lz p m t).1 t)+1<=tight u (bV m t):=by
 have h1:=H.bV ht;have h2:=yW H h1;have e:(lz p m t).2=(nn p m (bV m t)).2.2:=rfl;have h3:=h2.ale (e▸hg);have Cn:(bV m t).pc<p.code.length:=by
  refine acO fun hn=> ?_;rw[e]at hg;unfold nn at hg;rw[if_neg hn]at hg;simp at hg
 have h64:=H.prog.rp;rw[yX H ht];have h4:=h2.pe.pc;unfold tight;refine⟨by omega,?_⟩;rcases h3.2 with q|⟨q,q'⟩
 ·rw[q];omega
 ·rw[q,q'];omega
structure Ie (h:bh) (c n:Nat) (s:State) (R T:Nat) (ri vi:Nat->Nat):Prop where
 row:h R=some ⟨1,jO ri s.regions,true⟩
 vow:h T=some ⟨8,jS vi s.threads,true⟩
 rat: ∀i (g:i<s.regions.length),h (ri i)=some ⟨4,(s.regions[i]).map Canon.e,false⟩
 vat: ∀i (g:i<s.threads.length),h (vi i)=some ⟨4,(s.threads[i]).bp.map Canon.e,false⟩
 lt:(c<=R/\R<n)/\(c<=T/\T<n)/\R≠T
 lr: ∀i,i<s.regions.length->c<=ri i/\ri i<n/\ri i≠R/\ri i≠T
 lv: ∀i,i<s.threads.length->c<=vi i/\vi i<n/\vi i≠R/\vi i≠T
 rr: ∀i j,i<s.regions.length->j<s.regions.length->i≠j->ri i≠ri j
 vv: ∀i j,i<s.threads.length->j<s.threads.length->i≠j->vi i≠vi j
 rv: ∀i j,i<s.regions.length->j<s.threads.length->ri i≠vi j
def auj.R{k n:Nat}{s:State}{v:V}{h:bh}(H:auj k n s v h)(h1:0<s.regions.length)(h2:0<s.threads.length): ∃R T ri vi,v= .agg [.cx R 0 s.regions.length,.cx T 0 s.threads.length]/\Ie h k n s R T ri vi:=by
 obtain⟨vR,vT,n1,rfl,HR,HV,k1,k2⟩:=H;rcases HR with⟨e,_⟩|⟨_,R,ri,rfl,r1,r2,r3,r4⟩
 ·rw[e]at h1;simp at h1
 rcases HV with⟨e,_⟩|⟨_,T,vi,rfl,t1,t2,t3,t4⟩
 ·rw[e]at h2;simp at h2
 refine⟨R,T,ri,vi,rfl,r1,t1,fun i g=>(r3 i g).1,fun i g=>(t3 i g).1,⟨⟨r2.1,by omega⟩,⟨by omega,by omega⟩,by omega⟩,fun i g=> ?_,fun i g=> ?_,r4,t4,fun i j gi gj=> ?_⟩
 ·obtain⟨_,a1,a2,a3⟩:=r3 i g;exact⟨a1,by omega,a3,by omega⟩
 ·obtain⟨_,a1,a2,a3⟩:=t3 i g;exact⟨by omega,a2,by omega,a3⟩
 ·obtain⟨_,a1,a2,a3⟩:=r3 i gi;obtain⟨_,b1,b2,b3⟩:=t3 j gj;omega
def Ie.mono{n n':Nat}{R:Nat}(H:Ie h c n s R T ri vi)(hn:n<=n')(hh: ∀i,c<=i->i<n->h' i=h i):Ie h' c n' s R T ri vi:=by
 obtain⟨a1,a2,a3,a4,a5,a6,a7,a8,a9,WE⟩:=H;refine⟨by rw[hh _ a5.1.1 a5.1.2,a1],by rw[hh _ a5.2.1.1 a5.2.1.2,a2],fun i g=>by rw[hh _ (a6 i g).1 (a6 i g).2.1,a3],fun i g=>by rw[hh _ (a7 i g).1 (a7 i g).2.1,a4],by omega,fun i g=> ?_,fun i g=> ?_,a8,a9,WE⟩
 ·obtain⟨b1,b2,b3,b4⟩:=a6 i g;exact⟨b1,by omega,b3,b4⟩
 ·obtain⟨b1,b2,b3,b4⟩:=a7 i g;exact⟨b1,by omega,b3,b4⟩
def XA{l:List (List Canon)}{x:List Canon}(h:i<l.length)(hx:x.length=(l[i]).length):jO ri (l.set i x)=jO ri l:=by
 apply abF;intro j;simp only[jO,ack,abN];by_cases e:i=j
 ·subst e;simp[h,hx]
 ·simp[e]
def Hr{l:List View}(h:i<l.length):(jS vi l).set i (rB vi i x)=jS vi (l.set i x):=by
 apply abF;intro j;simp only[jS,ack,abN,adN];by_cases e:i=j
 ·subst e;simp[h]
 ·simp[e]
def SU{l:List View}(h:i<l.length):jS vi l=(jS vi l).set i (rB vi i l[i]):=by
 rw[Hr h,abS]
def Ef{l:List View}(h:i<l.length)(h':i<(jS vi l).length):(jS vi l)[i]= .agg [.int .i64 (l[i]).state,.int .i64 (l[i]).pc,.int .i64 (l[i]).count,.int .i64 (l[i]).cp,.int .i64 (l[i]).saved,.int .i64 (l[i]).dr,.int .u16 (l[i]).code,.cx (vi i) 0 (l[i]).bp.length]:=by simp[jS,rB]
def Hs{l:List (List Canon)}(h:i<l.length)(h':i<(jO ri l).length):(jO ri l)[i]= .cx (ri i) 0 (l[i]).length:=by simp[jO]
def vH(s:State)(i:Nat)(x:List Canon):State:=⟨s.regions.set i x,s.threads⟩
def Ay(s:State)(i:Nat)(x:View):State:=⟨s.regions,s.threads.set i x⟩
def Ie.vH{h h':bh}{c n n':Nat}{s:State}{R T:Nat}{ri vi:Nat->Nat}(H:Ie h c n s R T ri vi)(hn:n<=n'){i:Nat}(hi:i<s.regions.length){x:List Canon}(hx:x.length=(s.regions[i]).length)(hw:h' (ri i)=some ⟨4,x.map Canon.e,false⟩)(hh: ∀j,c<=j->j<n->j≠ri i->h' j=h j):Ie h' c n' (vH s i x) R T ri vi:=by
 obtain⟨a1,a2,a3,a4,a5,a6,a7,a8,a9,WE⟩:=H;unfold Go.Proofs.YtdngefmliibcgaaGreat.vH;have q:=a6 i hi;refine⟨by rw[hh _ a5.1.1 a5.1.2 (fun e=>q.2.2.1 e.symm),a1,XA hi hx],by rw[hh _ a5.2.1.1 a5.2.1.2 (fun e=>q.2.2.2 e.symm),a2],fun j g=> ?_,fun j g=> ?_,by omega,fun j g=> ?_,fun j g=> ?_,fun j l g1 g2=>a8 j l (by simpa using g1) (by simpa using g2),a9,fun j l g1=>WE j l (by simpa using g1)⟩
 ·have gj:j<s.regions.length:=by simpa using g
  by_cases e:i=j
  ·subst e;simp only[aco];exact hw
  ·rw[hh _ (a6 j gj).1 (a6 j gj).2.1 (a8 j i gj hi (fun x=>e x.symm)),a3 j gj];simp only[abU e]
 ·rw[hh _ (a7 j g).1 (a7 j g).2.1 (fun e=>WE i j hi g e.symm),a4 j g]
 ·obtain⟨b1,b2,b3,b4⟩:=a6 j (by simpa using g);exact⟨b1,by omega,b3,b4⟩
 ·obtain⟨b1,b2,b3,b4⟩:=a7 j g;exact⟨b1,by omega,b3,b4⟩
def Ie.Ay{h h':bh}{c n n':Nat}{s:State}{R T:Nat}{ri vi:Nat->Nat}(H:Ie h c n s R T ri vi)(hn:n<=n'){i:Nat}(hi:i<s.threads.length){x:View}(hT:h' T=some ⟨8,(jS vi s.threads).set i (rB vi i x),true⟩)(hw:h' (vi i)=some ⟨4,x.bp.map Canon.e,false⟩)(hh: ∀j,c<=j->j<n->j≠T->j≠vi i->h' j=h j):Ie h' c n' (Ay s i x) R T ri vi:=by
 obtain⟨a1,a2,a3,a4,a5,a6,a7,a8,a9,WE⟩:=H;unfold Go.Proofs.YtdngefmliibcgaaGreat.Ay;have q:=a7 i hi;refine⟨by rw[hh _ a5.1.1 a5.1.2 a5.2.2 (fun e=>q.2.2.1 e.symm),a1],by rw[hT,Hr hi],fun j g=> ?_,fun j g=> ?_,by omega,fun j g=> ?_,fun j g=> ?_,a8,fun j l g1 g2=>a9 j l (by simpa using g1) (by simpa using g2),fun j l g1 g2=>WE j l g1 (by simpa using g2)⟩
 ·rw[hh _ (a6 j g).1 (a6 j g).2.1 (a6 j g).2.2.2 (WE j i g hi),a3 j g]
 ·have gj:j<s.threads.length:=by simpa using g
  by_cases e:i=j
  ·subst e;simp only[aco];exact hw
  ·rw[hh _ (a7 j gj).1 (a7 j gj).2.1 (a7 j gj).2.2.2 (a9 j i gj hi (fun x=>e x.symm)),a4 j gj];simp only[abU e]
 ·obtain⟨b1,b2,b3,b4⟩:=a6 j g;exact⟨b1,by omega,b3,b4⟩
 ·obtain⟨b1,b2,b3,b4⟩:=a7 j (by simpa using g);exact⟨b1,by omega,b3,b4⟩
def Ie.pure{n:Nat}{R:Nat}(H:Ie h c n s R T ri vi):Ie (fun i=>kO (h i)) c n s R T ri vi:=by
 obtain⟨a1,a2,a3,a4,a5,a6,a7,a8,a9,WE⟩:=H;have e1:(jO ri s.regions).all V.Mh=true:=by
  rw[aaP];intro x hx;simp only[jO,List.mem_mapIdx]at hx;obtain⟨i,g,rfl⟩:=hx;rfl
 have e2:(jS vi s.threads).all V.Mh=true:=by
  rw[aaP];intro x hx;simp only[jS,List.mem_mapIdx]at hx;obtain⟨i,g,rfl⟩:=hx;rfl
 have e3: ∀l:List Canon,(l.map Canon.e).all V.Mh=true:=fun l=>by
  rw[aaP];intro x hx;obtain⟨y,_,rfl⟩:=List.mem_map.1 hx;rfl
 exact⟨by rw[a1];unfold kO;simp only[e1,if_true],by rw[a2];unfold kO;simp only[e2,if_true],fun i g=>by rw[a3 i g];unfold kO;simp only[e3,if_true],fun i g=>by rw[a4 i g];unfold kO;simp only[e3,if_true],a5,a6,a7,a8,a9,WE⟩
def Ie.pX{n:Nat}{R:Nat}(H:Ie h c n s R T ri vi)(hh: ∀i,c<=i->i<n->hx i=h i)(d:Nat):cy hx (d+3) (.cx R 0 s.regions.length)=some (.sl false (s.regions.map bz)):=by
 have e:cF ((jO ri s.regions).map (cy hx (d+2)))=some (s.regions.map bz):=by
  unfold jO;refine nq _ _ fun i hi=> ?_;have q:=H.lr i hi;have e1:hx (ri i)=some ⟨4,(s.regions[i]).map Canon.e,false⟩:=by rw[hh _ q.1 q.2.1,H.rat i hi]
  simp[cy,e1,bz]
 have e1:hx R=some ⟨1,jO ri s.regions,true⟩:=by rw[hh _ H.lt.1.1 H.lt.1.2,H.row]
 have l1:=nr ri s.regions;have t1:(jO ri s.regions).take s.regions.length=jO ri s.regions:=aZ (by omega);simp[cy,e1,l1,t1,e]
def ur.vH{p:Prog}{d:Int}{s:State}(H:ur p d s){i j:Nat}(hi:i<s.regions.length){c:Canon}(hc:Dc c)(hb:lN c=true):ur p d (vH s i ((s.regions[i]).set j c)):=by
 obtain⟨⟨p1,p2,p3,p4⟩,h2,h3⟩:=H;unfold Go.Proofs.YtdngefmliibcgaaGreat.vH;refine⟨⟨by simpa using p1,fun k g g'=> ?_,p3,p4⟩,fun l hl=> ?_,h3⟩
 ·have gk:k<s.regions.length:=by simpa using g
  by_cases e:i=k
  ·subst e;simp only[aco,aaN];refine⟨(p2 i gk g').1,?_⟩;unfold jd;rw[aaP];intro x hx;rcases aaX hx with hx|rfl
   ·exact List.all_eq_true.1 (p2 i gk g').2 x hx
   ·exact hb
  ·simp only[abU e];exact p2 k gk g'
 ·rcases aaX hl with hl|rfl
  ·exact h2 l hl
  ·intro x hx;rcases aaX hx with hx|rfl
   ·exact h2 _ (aaL hi) x hx
   ·exact hc
def ur.Ay{p:Prog}{d:Int}{s:State}(H:ur p d s){i:Nat}{x:View}(hx:DT x)(hv:hY x.bp/\(0<=x.code/\x.code<=65535)/\x.count<=d):ur p d (Ay s i x):=by
 obtain⟨⟨p1,p2,p3,p4⟩,h2,h3⟩:=H;unfold Go.Proofs.YtdngefmliibcgaaGreat.Ay;refine⟨⟨p1,p2,by simpa using p3,fun k g=> ?_⟩,h2,fun v KO=> ?_⟩
 ·have gk:k<s.threads.length:=by simpa using g
  by_cases e:i=k
  ·subst e;simp only[aco];exact hx
  ·simp only[abU e];exact p4 k gk
 ·rcases aaX KO with h|rfl
  ·exact h3 v h
  ·exact hv
def LN(v:View)(j:Nat)(c:Canon):View:=⟨v.state,v.pc,v.count,v.cp,v.saved,v.dr,v.code,v.bp.set j c⟩
def O8(v:View)(st:Int):View:=⟨st,v.pc,v.count,v.cp,v.saved,v.dr,v.code,v.bp⟩
def am2(h:DT v)(hv:hY v.bp/\(0<=v.code/\v.code<=65535)/\v.count<=d)(j:Nat){c:Canon}(hc:Dc c)(hb:lN c=true):DT (LN v j c)/\(hY (LN v j c).bp/\(0<=(LN v j c).code/\(LN v j c).code<=65535)/\(LN v j c).count<=d):=by
 refine⟨⟨h.state,h.pc,h.count,h.cp,h.saved,h.dr,by simp[LN,h.bp],?_⟩,fun x hx=> ?_,hv.2⟩
 ·unfold jd;rw[aaP];intro x hx;rcases aaX hx with hx|rfl
  ·exact List.all_eq_true.1 h.a0z x hx
  ·exact hb
 ·rcases aaX hx with hx|rfl
  ·exact hv.1 x hx
  ·exact hc
def am3(h:DT v)(hv:hY v.bp/\(0<=v.code/\v.code<=65535)/\v.count<=d)(hs:0<=st/\st<=4):DT (O8 v st)/\(hY (O8 v st).bp/\(0<=(O8 v st).code/\(O8 v st).code<=65535)/\(O8 v st).count<=d):=
 ⟨⟨hs,h.pc,h.count,h.cp,h.saved,h.dr,h.bp,h.a0z⟩,hv⟩
def Uu: ∀(l:List Int) (i:Int) (r:Nat),(∀x∈l,x<=32)->r+l.length<=4->0<=(oJ l i r).1.region/\(oJ l i r).1.region<4/\0<=(oJ l i r).1.offset/\(oJ l i r).1.offset<32
 | [],i,r,_,_=>by simp[oJ]
 |n::l,i,r,h,hr=>by
  have hn:=h n (by simp);simp only[abP]at hr;unfold oJ;split
  ·simp only;omega
  ·exact Uu l (i-n) (r+1) (fun x hx=>h x (by simp[hx])) (by omega)
def O9(l:List Int)(k:Int)(hz:oI an):Dc (wv l an k)/\lN (wv l an k)=true:=by
 unfold wv;split
 ·obtain⟨a1,a2,a3,a4⟩:=Uu an (eX l (dK l k) (total an)) 0 (fun x hx=>by
   obtain⟨i,hi,rfl⟩:=abE hx;exact(hz.elem i hi).2) (by have:=hz.le;omega)
  refine⟨⟨by simp,by simp⟩,?_⟩;have n1: ¬(oJ an (eX l (dK l k) (total an)) 0).1.region= -1:=by omega
  simp[lN,n1];omega
 split
 ·have:=ez l (dK l k) (n:=10) (by omega);exact⟨⟨this.1,by simp only;omega⟩,by simp[lN]⟩
 ·exact⟨wq _ _,by simp[lN]⟩
def Pa(dl:List Int)(v:V)(h:bh)(k:Nat):Prop:=
 ∃(kt:Int) (p:Prog) (d:Int) (T:Nat) (m:aO),v= .dP [KKi p,.agg [.sl false (m.layout.aD.map (V.int .i64)),.int .u16 m.layout.key,.sl false (m.memory.cells.map Cell.e),.sl false (m.memory.lines.map cw.e),.cx T 0 4]]/\
  h 0=some ⟨2,[KKa dl kt],true⟩/\h T=some ⟨8,m.threads.map Thread.e,false⟩/\T≠0/\eH dl kt/\cT p d m/\d<=2000
def Ie.fits(s:State)(R T:Nat):(V.agg [.cx R 0 s.regions.length,.cx T 0 s.threads.length]).fits 2=true:=rfl
def am4(p:Prog)(m:aO)(o:cU)(l:bY)(js:List Int)(rc:List Entry):List V:=[.sl false (p.code.map Instr.e),.sl false (p.an.map (V.int .i64)),.sl false (p.data.map aV),.sl false (m.layout.aD.map (V.int .i64)),.int .u16 m.layout.key,.sl false (m.memory.cells.map Cell.e),.sl false (m.memory.lines.map cw.e),.cx 7 0 4,
   .sl false (o.clock.map (V.int .u16)),.sl false (o.random.map (V.int .u16)),.sl false (o.dw.map aV),.sl false (o.files.data.map bz),.sl false (o.files.opens.map fQ.e),.sl false (o.dH.map Output.e),.sl false (l.owner.map (V.int .i64)),.sl false (l.queue.map de),.sl false (rc.map Entry.e),.sl false (js.map (V.int .i64))]
structure MI (dl:List Int) (p:Prog) (m:aO) (d:Int) (o:cU) (l:bY) (js:List Int) (rc:List Entry) (R T:Nat) (ri vi:Nat->Nat) (kt:Int) (s:State) (S:St):Prop where
 f:S.f 0= .ptr 0 0 0/\S.f 2= .ptr 1 0 0/\S.f 3= .ptr 2 0 0/\S.f 4= .ptr 5 0 0/\S.f 5= .ptr 10 0 0/\S.f 6= .ptr 19 0 0
 h0:S.h 0=some ⟨2,[.agg [.sl false (dl.map (V.int .i64)),.int .i64 kt]],true⟩
 h:S.h 1=some ⟨3,[.agg [.sl true [],.sl true [],.sl true []]],true⟩/\S.h 2=some ⟨5,[.agg [.sl true [],.int .u16 0,.sl true [],.sl true [],.sl true []]],true⟩/\S.h 5=some ⟨18,[.agg (am4 p m o l js rc)],true⟩/\S.h 7=some ⟨8,m.threads.map Thread.e,false⟩/\S.h 10=some ⟨5,[.agg [.sl false (m.layout.aD.map (V.int .i64)),.int .u16 m.layout.key,.sl false (m.memory.cells.map Cell.e),.sl false (m.memory.lines.map cw.e),.cx 7 0 4]],true⟩/\S.h 19=some ⟨2,[.agg [.cx R 0 s.regions.length,.cx T 0 4]],true⟩
 st:Ie S.h 36 S.n s R T ri vi
 g:ur p d s
 dk:eH dl kt
 n:36<=S.n
def MI.put         {R:Nat}     (H:MI dl p m d o l js rc R T ri vi kt s S)   
  (hf:S'.f 0=S.f 0/\S'.f 2=S.f 2/\S'.f 3=S.f 3/\S'.f 4=S.f 4/\S'.f 5=S.f 5/\S'.f 6=S.f 6) (h0:S'.h 0=some ⟨2,[KKa dl SV],true⟩) (hl: ∀j,1<=j->j<36->S'.h j=S.h j)
  (st:Ie S'.h 36 S'.n s' R T ri vi) (hr:s'.regions.length=s.regions.length) (g:ur p d s') (dk:eH dl SV) (hn:S.n<=S'.n):MI dl p m d o l js rc R T ri vi SV s' S':=by
 obtain⟨⟨f0,f2,f3,f4,f5,f6⟩,_,⟨g1,g2,g5,g7,I5,PF⟩,_,_,_,n⟩:=H;obtain⟨a0,a2,a3,a4,a5,a6⟩:=hf;refine⟨⟨a0.trans f0,a2.trans f2,a3.trans f3,a4.trans f4,a5.trans f5,a6.trans f6⟩,h0,⟨?_,?_,?_,?_,?_,?_⟩,st,g,dk,by omega⟩
 ·rw[hl 1 (by omega) (by omega),g1]
 ·rw[hl 2 (by omega) (by omega),g2]
 ·rw[hl 5 (by omega) (by omega),g5]
 ·rw[hl 7 (by omega) (by omega),g7]
 ·rw[hl 10 (by omega) (by omega),I5]
 ·rw[hl 19 (by omega) (by omega),PF,hr]
def MI.len{R:Nat}(H:MI dl p m d o l js rc R T ri vi kt s S):s.regions.length=p.an.length/\s.threads.length=4:=⟨H.g.p.regions,H.g.p.threads⟩
def MI.same         {R:Nat}     (H:MI dl p m d o l js rc R T ri vi kt s S)  
  (hf:S'.f 0=S.f 0/\S'.f 2=S.f 2/\S'.f 3=S.f 3/\S'.f 4=S.f 4/\S'.f 5=S.f 5/\S'.f 6=S.f 6) (h0:S'.h 0=some ⟨2,[KKa dl SV],true⟩) (hl: ∀j,1<=j->S'.h j=S.h j)
  (dk:eH dl SV) (hn:S.n<=S'.n):MI dl p m d o l js rc R T ri vi SV s S':=
 H.put hf h0 (fun j a _=>hl j a) (H.st.mono hn fun j a _=>hl j (by omega)) rfl H.g dk hn
def MI.G0         {R:Nat}     (H:MI dl p m d o l js rc R T ri vi kt s S)    (hi:i<s.regions.length) {c:Canon} 
  (hf:S'.f 0=S.f 0/\S'.f 2=S.f 2/\S'.f 3=S.f 3/\S'.f 4=S.f 4/\S'.f 5=S.f 5/\S'.f 6=S.f 6) (h0:S'.h 0=some ⟨2,[KKa dl SV],true⟩)
  (hw:S'.h (ri i)=some ⟨4,((s.regions[i]).set j c).map Canon.e,false⟩) (hl: ∀j,1<=j-> ¬j=ri i->S'.h j=S.h j) (hc:Dc c/\lN c=true)
  (dk:eH dl SV) (hn:S.n<=S'.n):MI dl p m d o l js rc R T ri vi SV (vH s i ((s.regions[i]).set j c)) S':=by
 have q:=H.st.lr i hi;refine H.put hf h0 (fun j a b=>hl j a (by omega)) (H.st.vH hn hi (by simp) hw fun j a b e=>hl j (by omega) e) (by simp[vH]) (H.g.vH hi hc.1 hc.2) dk hn
def MI.vw         {R:Nat}     (H:MI dl p m d o l js rc R T ri vi kt s S)    (hi:i<s.threads.length) 
  (hf:S'.f 0=S.f 0/\S'.f 2=S.f 2/\S'.f 3=S.f 3/\S'.f 4=S.f 4/\S'.f 5=S.f 5/\S'.f 6=S.f 6) (h0:S'.h 0=some ⟨2,[KKa dl SV],true⟩)
  (hT:S'.h T=some ⟨8,(jS vi s.threads).set i (rB vi i x),true⟩) (hw:S'.h (vi i)=some ⟨4,x.bp.map Canon.e,false⟩) (hl: ∀j,1<=j-> ¬j=T-> ¬j=vi i->S'.h j=S.h j) (hx:DT x/\(hY x.bp/\(0<=x.code/\x.code<=65535)/\x.count<=d))
  (dk:eH dl SV) (hn:S.n<=S'.n):MI dl p m d o l js rc R T ri vi SV (Ay s i x) S':=by
 have q:=H.st.lv i hi;have q2:=H.st.lt;refine H.put hf h0 (fun j a b=>hl j a (by omega) (by omega)) (H.st.Ay hn hi hT hw fun j a b e e'=>hl j (by omega) e e') (by simp[Ay]) (H.g.Ay hx.1 hx.2) dk hn
def Far(c:Nat)(h hx:bh):Prop:= ∀i,c<=i->hx i=h i
def Pb(c:Nat)(h:bh):Far c h h:=fun _ _=>rfl
def Uv(j:Nat)(x:Option Ob)(hj:j<c)(H:Far c h hx):Far c h (aR hx j x):=fun i hi=>by
 rw[aR,if_neg (by omega)];exact H i hi
def Ie.zm{n:Nat}{R:Nat}(H:Ie h c n s R T ri vi)(hf:Far c h hx):cF (List.take s.regions.length (List.map (cy hx 11) (jO ri s.regions)))=some (s.regions.map bz):=by
 have t1:List.take s.regions.length (List.map (cy hx 11) (jO ri s.regions))=List.map (cy hx 11) (jO ri s.regions):=aZ (by simp[nr]);rw[t1];unfold jO;refine nq _ _ fun i hi=> ?_;have q:=H.lr i hi;have e1:hx (ri i)=some ⟨4,(s.regions[i]).map Canon.e,false⟩:=by rw[hf _ q.1,H.rat i hi]
 simp[cy,e1,bz]
def Ie.XB{n:Nat}{R:Nat}(H:Ie h c n s R T ri vi)(hl:s.threads.length=4)(hf:Far c h hx):cF (List.take 4 (List.map (cy hx 11) (jS vi s.threads)))=some (s.threads.map View.e):=by
 have t1:List.take 4 (List.map (cy hx 11) (jS vi s.threads))=List.map (cy hx 11) (jS vi s.threads):=aZ (by simp[uq,hl]);rw[t1];unfold jS;refine nq _ _ fun i hi=> ?_;have q:=H.lv i hi;have e1:hx (vi i)=some ⟨4,(s.threads[i]).bp.map Canon.e,false⟩:=by rw[hf _ q.1,H.vat i hi]
 simp[cy,rB,cF,e1,View.e]
def pmV(p:Prog)(m:aO):List V:=[(KKi p:V),(KKK m:V)]
@[simp]def XC(bN:List Int)(aW:Int)(hd:eH bN aW): ∃v h k,cL X 40 [.ptr 0 0 0] (l9 X 40 2 ((KKa bN aW:V))) 1=some (v,h,k)/\Pa bN v h k:=by
 obtain⟨kt,⟨pc,ps,pd⟩,d,⟨⟨mb,mk⟩,⟨mc,ml⟩,mt⟩,⟨oc,orr,oi,⟨od,oo⟩,ou⟩,⟨lo,lq⟩,js,rc,hR,vQ,HG,Yb,_⟩:=a4a hd;simp only at hR;have qP:mt.length=4:=HG.len;have tG: ∀(f:Thread->V),List.take 4 (mt.map f)=mt.map f:=fun f=>aZ (by simp;omega);have Ss: ∀(f:Thread->Option V),List.take 4 (mt.map f)=mt.map f:=fun f=>aZ (by simp;omega);have hNx:=lM bN kt 3 vQ (by omega);have a4b:=fy vQ;refine aaB ?_;by_cases h3:eX bN kt 3=0
 case neg=>
  simp(maxSteps:=10000000)(maxDischargeDepth:=30)[hR,hNx,qP,tG,Ss,lb,u6,h3];exact⟨dK bN kt,⟨pc,ps,pd⟩,d,7,⟨⟨mb,mk⟩,⟨mc,ml⟩,mt⟩,rfl,by simp[aR],by simp[aR],by omega,a4b,HG,Yb⟩
 have h3':=eq_true h3;obtain⟨v,h1,k1,eS,HS⟩:=al6 pc ps pd mb mk mc ml mt 21 d HG;have SG:=Xc HG (by omega);obtain⟨s,hs⟩: ∃s,sW (Prog.mk pc ps pd) (aO.mk (Layout.mk mb mk) (aF.mk mc ml) mt)=s:=⟨_,rfl⟩;rw[hs]at HS SG;have hz:oI ps:=HG.prog.an;have hsr:s.regions.length=ps.length:=SG.p.regions;have kH:s.threads.length=4:=SG.p.threads;have z1:0<ps.length:=hz.pos;obtain⟨R,T,ri,vi,rfl,HR⟩:=HS.R (by omega) (by omega);rw[kH]at eS;simp only[Nat.reduceAdd]at HR;have EG:36<=k1:=by have:=HR.lt;omega
 obtain⟨L,hL⟩: ∃L,(ps[0]).toNat=L:=⟨_,rfl⟩;have L1:=(hz.elem 0 z1);have a4c: ∀s',ur (Prog.mk pc ps pd) d s'-> ∀g:0<s'.regions.length,(s'.regions[0]).length=L:=fun s' G g=>by
  have:=(G.p.region 0 g z1).1;simp only at this;omega
 have gz:0<s.regions.length:=by omega
 have gL:=a4c s SG gz;have HP:=HR.pure;have b1:=HP.row;have b2: ∀h',(jO ri s.regions)[0]= .cx (ri 0) 0 L:=fun h'=>by rw[Hs gz h',gL]
 have b3:=nr ri s.regions;have c1: ¬R<21:=by have:=HR.lt;omega
 have c2: ¬R=19:=by have:=HR.lt;omega
 have hLi:0<=L/\L<=32:=by have:=L1.2;omega
 have epu: ∀n m,(V.agg [.cx R 0 n,.cx T 0 m]).pu=true:=fun _ _=>rfl;simp(maxSteps:=10000000)(maxDischargeDepth:=30)[hR,hNx,qP,tG,Ss,lb,u6,h3',eS,b1,b2,b3,c1,c2,gz,epu];refine lW (fun i S=> ∃kt s,MI bN ⟨pc,ps,pd⟩ ⟨⟨mb,mk⟩,⟨mc,ml⟩,mt⟩ d ⟨oc,orr,oi,⟨od,oo⟩,ou⟩ ⟨lo,lq⟩ js rc R T ri vi kt s S/\S.f 27=(L:Int)/\S.f 28=(i:Int)) L ?_ 0 (by simp) ?_
 ·rintro i S hi ⟨zu,s2,HM,f27,f28⟩;obtain⟨f0,f2,f3,f4,f5,f6⟩:=HM.f;obtain⟨g1,g2,g5,g7,I5,PF⟩:=HM.h;have g0:=HM.h0;unfold am4 at g5;simp only at g5 I5;obtain⟨Pq,ht2⟩:=HM.len;simp only at Pq;have Kr:=HM.st;have gz2:0<s2.regions.length:=by omega
  have e1:=Kr.row;have e5:=a4c s2 HM.g gz2;have e2: ∀h',(jO ri s2.regions)[0]= .cx (ri 0) 0 L:=fun h'=>by rw[Hs gz2 h',e5]
  have e3:=nr ri s2.regions;have e4:=Kr.rat 0 gz2;have n36:=HM.n;have q0: ¬R=0:=by have:=Kr.lt;omega
  have q1: ¬ri 0=0:=by have:=Kr.lr 0 gz2;omega
  have q2: ¬0=ri 0:=fun e=>q1 e.symm;have hN:=lM bN zu 3 HM.dk (by omega);have hC:=uT bN (dK bN zu) ps (fy HM.dk) hz;by_cases gZ:i<L
  ·have bL:(i:Int)<L:=by omega
   have gS:=mZ i (by omega);by_cases PC:eX bN zu 3=0
   ·have af7:=eq_true PC;obtain⟨row,fX⟩: ∃r,s2.regions[0]=r:=⟨_,rfl⟩;rw[fX]at e4 e5;have lh: ∀(x c:Canon),(row.map Canon.e).set i (x.e.put 0 ((KKs c:V)))=(row.set i c).map Canon.e:=fun x c=>by rw[abO];rfl
    simp(maxSteps:=10000000)(maxDischargeDepth:=30)[f0,f2,f3,f4,f5,f6,f27,f28,g0,g1,g2,g5,I5,PF,gz2,e1,e2,e3,e4,e5,q0,q1,hN,hC,af7,gZ,bL,gS];refine⟨BS bN (dK bN zu),_,HM.G0 gz2 (c:=wv bN ps (dK bN zu)) (j:=i) (by simp[aR]) (by simp[aR,q2]) ?_ (fun j a b=> ?_) (O9 bN (dK bN zu) hz) (NU (fy HM.dk)) (by simp only;omega)⟩
    ·simp only[aR,if_true,lh,fX]
    ·have w1: ¬j=0:=by omega
     simp[aR,w1,b]
   ·simp(maxSteps:=10000000)(maxDischargeDepth:=30)[f0,f2,f3,f4,f5,f6,f27,f28,g0,g1,g2,g5,I5,PF,gz2,e1,e2,e3,e4,e5,q0,q1,hN,hC,PC,gZ,bL,gS];refine⟨dK bN zu,s2,HM.same (by simp[aR]) (by simp[aR]) (fun j a=> ?_) (fy HM.dk) (by simp only;omega)⟩;have w1: ¬j=0:=by omega
    simp[aR,w1]
  ·have bL: ¬(i:Int)<L:=by omega
   have hie:L=i:=by omega
   have e6:=Kr.vow;have e7:=uq vi s2.threads;simp(maxSteps:=10000000)(maxDischargeDepth:=30)[f0,f2,f3,f4,f5,f6,f27,f28,g0,g1,g2,g5,I5,PF,gz2,e1,e2,e3,e4,e5,q0,q1,gZ,bL];refine lW (fun i S=> ∃kt s,MI bN ⟨pc,ps,pd⟩ ⟨⟨mb,mk⟩,⟨mc,ml⟩,mt⟩ d ⟨oc,orr,oi,⟨od,oo⟩,ou⟩ ⟨lo,lq⟩ js rc R T ri vi kt s S/\S.f 48= .int .i64 4/\S.f 49=(i:Int)) 4 ?_ 0 (by simp) ?_
   ·clear e1 e2 e3 e4 e5 e6 e7 q0 q1 q2 hN hC Kr HM f0 f2 f3 f4 f5 f6 f27 f28 g0 g1 g2 g5 g7 I5 PF Pq ht2 n36 gz2;rintro k S hi ⟨zu,s2,HM,f48,f49⟩;obtain⟨f0,f2,f3,f4,f5,f6⟩:=HM.f;obtain⟨g1,g2,g5,g7,I5,PF⟩:=HM.h;have g0:=HM.h0;unfold am4 at g5;simp only at g5 I5;obtain⟨Pq,ht2⟩:=HM.len;simp only at Pq;have Kr:=HM.st;have e6:=Kr.vow;have e7:=uq vi s2.threads;rw[ht2]at e7;have n36:=HM.n;have q0: ¬T=0:=by have:=Kr.lt;omega
    by_cases gZ:k<4
    ·have bL:(k:Int)<4:=by omega
     have v7:=bL;have kl:k<s2.threads.length:=by omega
     have gS:=mZ k (by omega);have e8: ∀h',(jS vi s2.threads)[k]=_:=fun h'=>Ef kl h';have e9:(s2.threads[k]).bp.length=8:=(HM.g.p.view k kl).bp;rw[e9]at e8;simp(maxSteps:=10000000)(maxDischargeDepth:=30)[f0,f2,f3,f4,f5,f6,f48,f49,g0,g1,g2,g5,I5,PF,e6,e7,e8,q0,gZ,bL];refine lW (fun j S=> ∃kt s,MI bN ⟨pc,ps,pd⟩ ⟨⟨mb,mk⟩,⟨mc,ml⟩,mt⟩ d ⟨oc,orr,oi,⟨od,oo⟩,ou⟩ ⟨lo,lq⟩ js rc R T ri vi kt s S/\S.f 8=(k:Int)/\S.f 48= .int .i64 4/\S.f 49=(k:Int)/\S.f 58= .int .i64 8/\S.f 59=(j:Int)) 8 ?_ 0 (by simp) ?_
     ·clear e6 e7 e8 e9 q0 Kr HM f0 f2 f3 f4 f5 f6 f48 f49 g0 g1 g2 g5 g7 I5 PF Pq ht2 n36 kl;rintro j S hj ⟨zu,s2,HM,f8,f48,f49,f58,f59⟩;obtain⟨f0,f2,f3,f4,f5,f6⟩:=HM.f;obtain⟨g1,g2,g5,g7,I5,PF⟩:=HM.h;have g0:=HM.h0;unfold am4 at g5;simp only at g5 I5;obtain⟨Pq,ht2⟩:=HM.len;simp only at Pq;have Kr:=HM.st;have e6:=Kr.vow;have e7:=uq vi s2.threads;rw[ht2]at e7;have kl:k<s2.threads.length:=by omega
      have e8: ∀h',(jS vi s2.threads)[k]=_:=fun h'=>Ef kl h';have e9:(s2.threads[k]).bp.length=8:=(HM.g.p.view k kl).bp;have e10:=Kr.vat k kl;rw[e9]at e8;have n36:=HM.n;have q0: ¬T=0:=by have:=Kr.lt;omega
      have q1: ¬vi k=0:=by have:=Kr.lv k kl;omega
      have q3: ¬T=vi k:=by have:=Kr.lv k kl;omega
      have q2: ¬0=vi k:=fun e=>q1 e.symm;have q4: ¬0=T:=fun e=>q0 e.symm;have q5: ¬vi k=T:=fun e=>q3 e.symm;have hN:=lM bN zu 3 HM.dk (by omega);have hC:=uT bN (dK bN zu) ps (fy HM.dk) hz;have hN4:=lM bN zu 4 HM.dk (by omega);have hN5:=lM bN (dK bN zu) 5 (fy HM.dk) (by omega);have hvv:=HM.g.tv _ (aaL kl);have hvp:=HM.g.p.view k kl;obtain⟨x,hx⟩: ∃x,s2.threads[k]=x:=⟨_,rfl⟩;rw[hx]at e8 e9 e10 hvv hvp;have hxs:jS vi s2.threads=(jS vi s2.threads).set k (rB vi k x):=by rw[<-hx];exact SU kl
      by_cases L6:j<8
      ·have OO:(j:Int)<8:=by omega
       have gS:=mZ j (by omega);by_cases PC:eX bN zu 3=0
       ·have af7:=eq_true PC;have lh: ∀(y c:Canon),(x.bp.map Canon.e).set j (y.e.put 0 ((KKs c:V)))=(x.bp.set j c).map Canon.e:=fun y c=>by rw[abO];rfl
        simp(maxSteps:=10000000)(maxDischargeDepth:=30)[f0,f2,f3,f4,f5,f6,f8,f48,f49,f58,f59,g0,g1,g2,g5,I5,PF,e6,e7,e8,e9,e10,q0,q1,hN,hC,af7,gZ,v7,L6,OO,gS];have hco:=O9 bN (dK bN zu) hz;refine⟨BS bN (dK bN zu),_,HM.vw kl (x:=LN x j (wv bN ps (dK bN zu))) (by simp[aR]) (by simp[aR,q2]) ?_ ?_ (fun i a b c=> ?_) (am2 hvp hvv j hco.1 hco.2) (NU (fy HM.dk)) (by simp only;omega)⟩
        ·have w1:rB vi k (LN x j (wv bN ps (dK bN zu)))=rB vi k x:=by simp[rB,LN]
         rw[w1,<-hxs];simp[aR,q0,q3,e6]
        ·simp only[aR,if_true,lh];rfl
        ·have w1: ¬i=0:=by omega
         simp[aR,w1,c]
       ·simp(maxSteps:=10000000)(maxDischargeDepth:=30)[f0,f2,f3,f4,f5,f6,f8,f48,f49,f58,f59,g0,g1,g2,g5,I5,PF,e6,e7,e8,e9,e10,q0,q1,hN,hC,PC,gZ,v7,L6,OO,gS];refine⟨dK bN zu,s2,HM.same (by simp[aR]) (by simp[aR]) (fun j a=> ?_) (fy HM.dk) (by simp only;omega)⟩;have w1: ¬j=0:=by omega
        simp[aR,w1]
      ·have OO: ¬(j:Int)<8:=by omega
       by_cases PC:eX bN zu 4=0
       ·have af7:=eq_true PC;simp(maxSteps:=10000000)(maxDischargeDepth:=30)[f0,f2,f3,f4,f5,f6,f8,f48,f49,f58,f59,g0,g1,g2,g5,I5,PF,e6,e7,e8,e9,e10,q0,q1,hN4,hN5,af7,gZ,v7,L6,OO,gS];have bty:=ez bN (dK bN zu) (n:=5) (by omega);refine⟨dK bN (dK bN zu),_,HM.vw kl (x:=O8 x (eX bN (dK bN zu) 5)) (by simp[aR]) (by simp[aR,q4]) ?_ ?_ (fun i a b c=> ?_) (am3 hvp hvv (by omega)) (fy (fy HM.dk)) (by simp only;omega)⟩
        ·simp[aR,rB,O8,e9]
        ·simp[aR,q1,q5,e10,O8]
        ·have w1: ¬i=0:=by omega
         simp[aR,w1,b]
       ·simp(maxSteps:=10000000)(maxDischargeDepth:=30)[f0,f2,f3,f4,f5,f6,f8,f48,f49,f58,f59,g0,g1,g2,g5,I5,PF,e6,e7,e8,e9,e10,q0,q1,hN4,hN5,PC,gZ,v7,L6,OO,gS];refine⟨dK bN zu,s2,HM.same (by simp[aR]) (by simp[aR]) (fun j a=> ?_) (fy HM.dk) (by simp only;omega)⟩;have w1: ¬j=0:=by omega
        simp[aR,w1]
     ·simp(maxSteps:=10000000)(maxDischargeDepth:=30)[f48,f49];refine⟨zu,s2,HM.same (by simp[aR]) (by simp[aR,g0]) (fun j a=>by simp[aR]) HM.dk (by simp only;omega)⟩
    ·have bL: ¬(k:Int)<4:=by omega
     have e1:=Kr.row;have e3:=nr ri s2.regions;have r36:36<=R/\36<=T/\ ¬R=T:=by have:=Kr.lt;omega
     obtain⟨r0,r1,r2,r5,r10,r19,r7⟩: ¬R=0/\ ¬R=1/\ ¬R=2/\ ¬R=5/\ ¬R=10/\ ¬R=19/\ ¬R=7:=by omega
     obtain⟨r0',r1',r2',r5',a4d,a4e,r7'⟩: ¬0=R/\ ¬1=R/\ ¬2=R/\ ¬5=R/\ ¬10=R/\ ¬19=R/\ ¬7=R:=by omega
     obtain⟨t0,t1,t2,t5,t10,t19,t7⟩: ¬T=0/\ ¬T=1/\ ¬T=2/\ ¬T=5/\ ¬T=10/\ ¬T=19/\ ¬T=7:=by omega
     obtain⟨pk,B1,t2',t5',a4f,a4g,t7'⟩: ¬0=T/\ ¬1=T/\ ¬2=T/\ ¬5=T/\ ¬10=T/\ ¬19=T/\ ¬7=T:=by omega
     have FL: ∀hx,Far 36 S.h hx->_:=fun hx hf=>Kr.zm (hx:=hx) hf;have hva: ∀hx,Far 36 S.h hx->_:=fun hx hf=>Kr.XB (hx:=hx) ht2 hf;have hI:=ae5 pc ps pd mb mk s2.regions s2.threads HG.prog HG.lay HM.g.p;have hMI:=amd HG.prog HG.lay HG.key HM.g;by_cases hB:aul ⟨pc,ps,pd⟩ ⟨s2.regions,s2.threads⟩=true
     ·have eI:EC ⟨pc,ps,pd⟩ ⟨mb,mk⟩ ⟨s2.regions,s2.threads⟩=(IP ⟨pc,ps,pd⟩ ⟨mb,mk⟩ ⟨s2.regions,s2.threads⟩,true):=if_pos hB;rw[eI]at hI;simp only at hI;obtain⟨x,hx⟩: ∃x,IP ⟨pc,ps,pd⟩ ⟨mb,mk⟩ ⟨s2.regions,s2.threads⟩=x:=⟨_,rfl⟩;have a4h:cT ⟨pc,ps,pd⟩ d x:=by rw[<-hx];exact hMI
      rw[hx]at hI;have wO:x.threads.length=4:=a4h.len;obtain⟨⟨xb,xk⟩,⟨xc,xl⟩,xt⟩:=x;simp only at hI wO;have xkf: ∀(f:Thread->V),List.take 4 (xt.map f)=xt.map f:=fun f=>aZ (by simp;omega);have xko: ∀(f:Thread->Option V),List.take 4 (xt.map f)=xt.map f:=fun f=>aZ (by simp;omega);simp(maxSteps:=10000000)(maxDischargeDepth:=30)[f0,f2,f3,f4,f5,f6,f48,f49,g0,g1,g2,g5,g7,I5,PF,e1,e3,e6,e7,q0,gZ,bL,r0,r1,r2,r5,r10,r19,r7,r0',r1',r2',r5',a4d,a4e,r7',t0,t1,t2,t5,t10,t19,t7,pk,B1,t2',t5',a4f,a4g,t7',qP,tG,Ss,u6,lb,FL,hva,Uv,Pb,hI,wO,xkf,xko];exact⟨zu,⟨pc,ps,pd⟩,d,1113,⟨⟨xb,xk⟩,⟨xc,xl⟩,xt⟩,rfl,by simp[aR],by simp[aR],by omega,HM.dk,a4h,Yb⟩
     ·have eI:EC ⟨pc,ps,pd⟩ ⟨mb,mk⟩ ⟨s2.regions,s2.threads⟩=(iT,false):=if_neg hB;rw[eI]at hI;simp(maxSteps:=10000000)(maxDischargeDepth:=30)[f0,f2,f3,f4,f5,f6,f48,f49,g0,g1,g2,g5,g7,I5,PF,e1,e3,e6,e7,q0,gZ,bL,r0,r1,r2,r5,r10,r19,r7,r0',r1',r2',r5',a4d,a4e,r7',t0,t1,t2,t5,t10,t19,t7,pk,B1,t2',t5',a4f,a4g,t7',qP,tG,Ss,u6,lb,FL,hva,Uv,Pb,hI];exact⟨zu,⟨pc,ps,pd⟩,d,1000,⟨⟨mb,mk⟩,⟨mc,ml⟩,mt⟩,rfl,by simp[aR],by simp[aR],by omega,HM.dk,HG,Yb⟩
   ·simp(maxSteps:=10000000)(maxDischargeDepth:=30)[];refine⟨zu,s2,HM.same (by simp[aR]) (by simp[aR,g0]) (fun j a=>by simp[aR]) HM.dk (by simp only;omega)⟩
 ·simp(maxSteps:=10000000)(maxDischargeDepth:=30)[];refine⟨dK bN kt,s,⟨by simp[aR],by simp[aR],⟨by simp[aR],by simp[aR],by simp[aR];rfl,by simp[aR],by simp[aR],by simp[aR]⟩,?_,SG,a4b,by simp only;omega⟩⟩;refine HP.mono (by simp only;omega) fun j a b=> ?_;have w1: ¬j<21:=by omega
  have w2: ¬j=19:=by omega
  simp[aR,w1,w2]
def Pa.io{v:V}(H:Pa dl v h k): ∃(kt:Int) (p:Prog) (d:Int) (m:aO),
  yg X [(2,4,112)] v h=some (2,(KKa dl kt:V),pmV p m)/\vq v= .dP []/\eH dl kt/\cT p d m/\d<=2000:=by
 obtain⟨kt,p,d,T,m,rfl,h0,hT,T0,vQ,HG,hd⟩:=H;refine⟨kt,p,d,m,?_,rfl,vQ,HG,hd⟩;have qP:m.threads.length=4:=HG.len;have tG: ∀(f:Thread->V),List.take 4 (m.threads.map f)=m.threads.map f:=fun f=>aZ (by simp;omega);have Ss: ∀(f:Thread->Option V),List.take 4 (m.threads.map f)=m.threads.map f:=fun f=>aZ (by simp;omega);unfold pmV;simp(maxSteps:=10000000)[h0,hT,qP,T0,tG,lb]
def cT.one(h:cT p d m)(hd:d<=1099511627776)(ht:t<4)(hn:1<=n/\n<=64):aeu p m t n=((dQ p m t n).1,(dQ p m t n).2,0):=by
 unfold aeu;rw[if_pos ⟨(h.mono hd).ok,by omega,hn.1,hn.2⟩,aaH]
def tp(p:Prog)(m:aO):Nat->aO
 |0=>m
 |k+1=>(lz p (tp p m k) 0).1
def zV(p:Prog)(m:aO)(k:Nat):tp p m (k+1)=(lz p (tp p m k) 0).1:=rfl
def LO(p:Prog)(m:aO):tp p m 0=m:=rfl
structure Ht (p:Prog) (d:Int) (m:aO) (n:Int) (k:Nat):Prop where
 g:cT p d (tp p m k)
 st:(bV (tp p m k) 0).state=1
 lt:(bV (tp p m k) 0).count<(bV m 0).count+n
 le:(k:Int)<=n*65
 tt:(k:Int)+tight ((bV m 0).count+n) (bV (tp p m k) 0)<=n*65
 go:j9 p 0 ((bV m 0).count+n) (20000-k) (tp p m k)=dQ p m 0 n
def Ht.zero(h:cT p d m)(hs:(bV m 0).state=1)(hn:1<=n):Ht p (d+n) m n 0:=by
 refine⟨h.mono (by omega),hs,by rw[LO];omega,by omega,?_,?_⟩
 ·rw[LO];have:=(h.bV (t:=0) (by omega)).pc;unfold tight;omega
 ·rw[LO,WT hs]
def Ht.step(I:Ht p d m n k)(hm:cT p (d-n) m)(hn:n<=6)(ho:(lz p (tp p m k) 0).2= -1):
  cT p d (tp p m (k+1))/\(k:Int)+1<=n*65/\
  ((bV (tp p m (k+1)) 0).count=(bV m 0).count+n->dQ p m 0 n=(tp p m (k+1),0))/\
  (¬(bV (tp p m (k+1)) 0).count=(bV m 0).count+n->Ht p d m n (k+1)):=by
 have Jl:=(hm.bV (t:=0) (by omega)).count;have hG:=EV I.g (t:=0) (by omega) (by have:=I.lt;omega);have ht:=Sl I.g (t:=0) (by omega) ho ((bV m 0).count+n);have hl:=zR I.g (t:=0) (by omega) ho ((bV m 0).count+n);have h1:=I.lt;have h2:=I.tt;have h3:=(I.g.bV (t:=0) (by omega)).pc;have h4:=I.go;have hk:(k:Int)+1<=n*65:=by
  have:=ht.1;unfold tight at h2;omega
 have Pr:20000-k=(20000-(k+1))+1:=by omega
 rw[Pr]at h4;rw[zV];refine⟨hG,hk,fun hc=> ?_,fun hc=> ?_⟩
 ·rw[<-h4,ze ho hc]
 ·refine⟨by rw[zV];exact hG,by rw[zV,hl.2.1];exact I.st,by rw[zV];have:=hl.2.2.2;omega,by simpa using hk,by rw[zV];have:=ht.2;omega,?_⟩;rw[zV,<-h4,xw ho hc]
def Ht.stop(I:Ht p d m n k)(hn:n<=6)(ho: ¬(lz p (tp p m k) 0).2= -1):dQ p m 0 n=lz p (tp p m k) 0:=by
 have Pr:20000-k=(20000-(k+1))+1:=by have:=I.le;omega
 have h4:=I.go;rw[Pr,xu ho]at h4;exact h4.symm
def Ab.a35{B:Nat->Prop}{m:aF}(h:Ab B m):Ab (fun _=>False) m:=fun r hr t ht o ho hb=>h r hr t ht o ho (hb.imp id False.elim)
end Go.Proofs.YtdngefmliibcgaaGreat
