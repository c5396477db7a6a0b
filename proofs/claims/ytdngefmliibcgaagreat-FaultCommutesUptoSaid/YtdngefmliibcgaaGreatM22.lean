/- Part of a proof: F30. -/
import Derived.Test.YtdngefmliibcgaaGreatM21
set_option linter.all false
set_option maxRecDepth 20000
set_option maxHeartbeats 20000000
namespace Go.Proofs.YtdngefmliibcgaaGreat
open Go Go.Abs Go.Abs.kX Qf
variable  {r:Option (V×bh×Nat)}{p:Prog}{h h1 h':bh}{k b C L T t k1 j n k' cB:Nat}{vB:V}{ids bu iv:Nat->Nat}{m:aO}{x x':Thread}{i:Instr}{f:Thread->Thread}{ts:List Thread}{g:FuncId}{args E R E0:List V}{s:Int}
def kA(p:Prog)(b T t:Nat):V:= .agg [.sl false (p.code.map Instr.e),.sl false (p.an.map (V.int .i64)),.sl false (p.data.map aV),.ptr b 0 0,.ptr T t 0]
structure xq (h:bh) (k cB b C L T:Nat) (ids bu:Nat->Nat) (p:Prog) (t:Nat):Prop where
 box:h cB=some ⟨5,[kA p b T t],true⟩
 lt:cB<k
 ne:cB≠b/\cB≠C/\cB≠L/\cB≠T
 ni: ∀j,j<4->cB≠ids j/\cB≠bu j
def lx(r:Option (V×bh×Nat))(p:Prog)(h:bh)(k b:Nat)(vB:V)(C L T:Nat)(ids bu:Nat->Nat)(m:aO)(t:Nat)(x:Thread)(i:Instr)(f:Thread->Thread):Prop:=
 ((iU p m x i).2.2= -1/\ ∃h' k' iI,r=some (.int .i64 0,h',k')/\dU h' k' b vB C L T iI bu (iZ m (iU p m x i).1 t (f (iU p m x i).2.1))/\k<=k'/\(∀j,j<4->iI j=ids j\/k<=iI j)/\
  ∀i,i<k->i≠C->i≠L->(∀j,j<4->i≠ids j)->i≠T->i≠bu t->h' i=h i)\/
 ∃w h' k',iU p m x i=(m.memory,iV x w,2)/\w≠0/\r=some (.int .i64 w,h',k')/\k<=k'/\ ∀i,i<k->h' i=h i
def ap0(h:bh)(k:Nat)(w:Int)(v:V)(h':bh)(k':Nat):Prop:=v= .int .i64 w/\k<=k'/\ ∀i,i<k->h' i=h i
def sN(h:bh)(k:Nat)(w:Int)(v:V)(h':bh)(k':Nat):ap0 h k w v h' k'=(v= .int .i64 w/\k<=k'/\Below k h h'):=rfl
def lx.go            (H:dU h k b vB C L T ids bu m) (ht:t<4) (x':Thread) (hs:iU p m x i=(m.memory,x', -1))
  (he: ∃v h' n',r=some (v,h',n')/\Wr h k T bu t m.threads (f x') 0 v h' n'):lx r p h k b vB C L T ids bu m t x i f:=by
 obtain⟨v,h',n',e,rfl,g2,g3,g4,g5⟩:=he;have np:t<m.threads.length:=by rw[H.len];exact ht
 rw[iJ np]at g2;refine .inl ⟨by rw[hs],h',n',ids,e,?_,g4,fun _ _=> .inl rfl,fun i hi _ _ _ Ws hit=>g5 i hi Ws hit⟩;rw[hs];exact H.put g4 ht g2 g3 g5
def lx.ap1            (H:dU h k b vB C L T ids bu m) (ht:t<4) {Wt:aF} (H1:dU h1 k1 b vB C L T iv bu ⟨m.layout,Wt,m.threads⟩) (hk:k<=k1) (fg: ∀j,j<4->iv j=ids j\/k<=iv j)
  (ot: ∀i,i<k->i≠C->i≠L->(∀j,j<4->i≠ids j)->h1 i=h i) (x':Thread) (hs:iU p m x i=(Wt,x', -1))
  (he: ∃v h' n',r=some (v,h',n')/\Wr h1 k1 T bu t m.threads (f x') 0 v h' n'):lx r p h k b vB C L T ids bu m t x i f:=by
 obtain⟨v,h',n',e,rfl,g2,g3,g4,g5⟩:=he;have np:t<m.threads.length:=by rw[H.len];exact ht
 rw[iJ np]at g2;refine .inl ⟨by rw[hs],h',n',iv,e,?_,by omega,fg,fun i hi hiC hiL mz Ws hit=>by rw[g5 i (by omega) Ws hit,ot i hi hiC hiL mz]⟩;rw[hs];exact H1.put g4 ht g2 g3 g5
def lx.dn            (w:Int) (hw:w≠0) (hs:iU p m x i=(m.memory,iV x w,2))
  (he: ∃v h' n',r=some (v,h',n')/\ap0 h k w v h' n'):lx r p h k b vB C L T ids bu m t x i f:=by
 obtain⟨v,h',n',e,rfl,g4,g5⟩:=he;exact .inr ⟨w,h',n',hs,hw,e,g4,g5⟩
def sO(pc:Int)(x:Thread):Thread:=⟨x.state,x.bz,pc,x.count,x.cn,x.saved,x.dn,x.code⟩
def oD(ids:Nat->Nat)(i:Nat)(x:Thread)(q pc:Int)(bz:List Cell):dJ ids i (sO q (vM x pc bz))= (KKd x.state (.cu (ids i) 0 bz.length) q x.count x.cn x.saved x.dn x.code:V):=rfl
def sj(x:Thread)(q pc:Int)(bz:List Cell):(sO q (vM x pc bz)).bz=bz:=rfl
@[simp]def ae8(c:V)(jo Eb Ec Ed qL:Int)(p:Prog)(h:bh)(k cB b:Nat)(vB:V)(C L T:Nat)(ids bu:Nat->Nat)(mm:aO)(tn:Nat)(d:Int)(x:Thread)(op:Int)(a b' c:Nat)(ed:Int)(H:dU h k b vB C L T ids bu mm)(HG:db p d mm)(HC:xq h k cB b C L T ids bu p tn)(hd:d<=1099511628776)(ht:tn<4)(LG:vB= .sl false (mm.layout.aD.map (V.int .i64)))(xU:cg mm tn=x)(hI:Gv p.code.length p.an.length ⟨op,a,b',c,ed⟩)(jJ:op=18\/op=19\/op=20\/op=21\/op=22\/op=24):lx (cL X 264 [.ptr cB 0 0,KKU op (a:Int) (b':Int) (c:Int) ed] h k) p h k b vB C L T ids bu mm tn x ⟨op,a,b',c,ed⟩ id:=by
 have hl:=H.len;have np:tn<mm.threads.length:=by omega
 have rz:(tn:Int)<4:=by omega
 have rI:=HG.pg tn np;have hR:=H.GJ tn np;have hg:=fW (ids:=bu) np;have hT:=H.pg;have jV:=fA bu mm.threads;rw[hl]at jV;have hb:=H.xJ;unfold jD at hb;rw[hl,LG]at hb;have hc:=HC.box;have pO:mm.threads[tn]=x:=by rw[<-xU];exact(iS np).symm
 rw[pO]at rI hR;simp only[pO]at hg;obtain⟨s1,s3,s4,s5,s6⟩:=H.qS tn ht;have Hv: ¬T=bu tn:=fun e=>s5 e.symm;have s1': ¬b=bu tn:=fun e=>s1 e.symm;obtain⟨u1,u2,u3,u4⟩:=H.xg;have u1': ¬b=T:=fun e=>u1 e.symm;have kG:=HC.lt;obtain⟨e1,e2,e3,e4⟩:=HC.ne;have e5:=(HC.ni tn ht).2;have e6: ¬T=cB:=fun e=>e4 e.symm;have gY:=H.mem.lt.1;have q1: ∀j,¬b=k+j/\ ¬T=k+j/\ ¬bu tn=k+j/\ ¬k+j=b/\ ¬k+j=T/\ ¬k+j=bu tn/\ ¬cB=k+j/\ ¬k+j=cB:=fun j=>by omega
 have pM: ¬b=k/\ ¬T=k/\ ¬bu tn=k/\ ¬cB=k/\ ¬k=b/\ ¬k=T/\ ¬k=bu tn/\ ¬k=cB:=by omega
 have D1:=rI.pc;obtain⟨n,hn⟩: ∃n:Nat,x.pc=n:=⟨x.pc.toNat,by omega⟩;have h8:=rI.bz;have XK:p.code.length<=64:=HG.prog.rp;have K6:=rI.count;have JN:IntKind.i64.wrap (x.count+1)=x.count+1:=wrap_i64 (by omega);have qM:=nd n (by omega);have nW:cG bu mm.threads=(cG bu mm.threads).set tn ((KKd x.state (.cu (bu tn) 0 8) (n:Int) x.count x.cn x.saved x.dn x.code:V)):=by
  have aul:tn<(cG bu mm.threads).length:=by omega
  have:=hg aul;rw[h8,hn]at this;rw[<-this,abO]
 obtain⟨o1,ia,ib,ic,im,ij,il,is⟩:=hI;simp only at o1 ia ib ic im ij il is;have a8:(a:Int)<8/\(b':Int)<8/\(c:Int)<8/\a<8/\b'<8/\c<8:=by omega
 have al:a<x.bz.length:=by omega
 have bl:b'<x.bz.length:=by omega
 have cl:c<x.bz.length:=by omega
 have ie:IntKind.u16.wrap ed=ed:=wrap_u16 im;have hL:=HG.lay;have hlen:=hL.len;obtain⟨xa,tK⟩: ∃v,x.bz[a]=v:=⟨_,rfl⟩;obtain⟨xb,xM⟩: ∃v,x.bz[b']=v:=⟨_,rfl⟩;obtain⟨xc,xce⟩: ∃v,x.bz[c]=v:=⟨_,rfl⟩;have ra:kr x a=xa:=by rw[mJ al,tK]
 have rb:kr x b'=xb:=by rw[mJ bl,xM]
 have rc:kr x c=xc:=by rw[mJ cl,xce]
 have ca:jd xa:=by rw[<-ra];exact j6 rI _
 have cb:jd xb:=by rw[<-rb];exact j6 rI _
 have cc:jd xc:=by rw[<-rc];exact j6 rI _
 have gY:=H.mem.lt;obtain⟨pc,ps,pd⟩:=p;simp only at ij il is hc XK hL hlen;rcases jJ with rfl|rfl|rfl|rfl|rfl|rfl
 ·refine lx.go H ht (mV x ed x.bz x.saved) (by simp[iU,mV]) (aaB ?_);simp[aaE,fM,kA,hc,hT,hR,hg,jV,ht,hn,jr,hY,h8,a8,qM,JN,s5,pM,e4];all_goals ((repeat' apply And.intro)<;>first|omega|rfl|exact nW)
 ·by_cases t0:xa.tag=0
  ·by_cases v0:xa.val=0
   ·refine lx.go H ht (mV x ed x.bz x.saved) (by simp[iU,ra,t0,v0]) (aaB ?_);simp[aaE,fM,kA,hc,hT,hR,hg,jV,ht,hn,jr,hY,h8,a8,tK,qM,JN,s5,pM,e4,t0,v0];all_goals ((repeat' apply And.intro)<;>first|omega|rfl|exact nW)
   ·refine lx.go H ht (mV x (n+1) x.bz x.saved) (by simp[iU,hn,ra,t0,v0]) (aaB ?_);simp[aaE,fM,kA,hc,hT,hR,hg,jV,ht,hn,jr,hY,h8,a8,tK,qM,JN,s5,pM,e4,t0,v0];all_goals ((repeat' apply And.intro)<;>first|omega|rfl|exact nW)
  ·refine lx.dn (3) (by decide) (by simp[iU,ra,t0]) (aaB ?_);simp[aaE,sN,kA,hc,hT,hR,hg,jV,ht,hn,h8,a8,tK,qM,pM,t0];all_goals ((repeat' apply And.intro)<;>first|omega|rfl|exact nW)
 ·by_cases t0:xa.tag=0
  ·by_cases v0:xa.val=0
   ·refine lx.go H ht (mV x (n+1) x.bz x.saved) (by simp[iU,hn,ra,t0,v0]) (aaB ?_);simp[aaE,fM,kA,hc,hT,hR,hg,jV,ht,hn,jr,hY,h8,a8,tK,qM,JN,s5,pM,e4,t0,v0];all_goals ((repeat' apply And.intro)<;>first|omega|rfl|exact nW)
   ·refine lx.go H ht (mV x ed x.bz x.saved) (by simp[iU,ra,t0,v0]) (aaB ?_);simp[aaE,fM,kA,hc,hT,hR,hg,jV,ht,hn,jr,hY,h8,a8,tK,qM,JN,s5,pM,e4,t0,v0];all_goals ((repeat' apply And.intro)<;>first|omega|rfl|exact nW)
  ·refine lx.dn (3) (by decide) (by simp[iU,ra,t0]) (aaB ?_);simp[aaE,sN,kA,hc,hT,hR,hg,jV,ht,hn,h8,a8,tK,qM,pM,t0];all_goals ((repeat' apply And.intro)<;>first|omega|rfl|exact nW)
 ·have atd:IntKind.u16.wrap ((n:Int)+1)=(n:Int)+1:=wrap_u16 (by omega);refine lx.go H ht (mV x ed (x.bz.set a ⟨0,n+1⟩) x.saved) (by simp[iU,hn,oJ]) (aaB ?_);simp[aaE,fM,kA,hc,hT,hR,hg,jV,ht,hn,jr,hY,h8,a8,tK,qM,JN,s5,Hv,pM,e4,e5,Cell.bS,atd];all_goals ((repeat' apply And.intro)<;>first|omega|rfl|exact nW)
 ·by_cases t0:xa.tag=0
  ·by_cases v0:255<xa.val
   ·refine lx.dn (2) (by decide) (by simp[iU,ra,t0,v0]) (aaB ?_);simp[aaE,sN,kA,hc,hT,hR,hg,jV,ht,hn,h8,a8,tK,qM,pM,t0,v0];all_goals ((repeat' apply And.intro)<;>first|omega|rfl|exact nW)
   ·have hwv:IntKind.i64.wrap xa.val=xa.val:=wrap_i64 (by have:=ca.2;omega);refine lx.go H ht (mV x xa.val x.bz x.saved) (by simp[iU,ra,t0,v0]) (aaB ?_);simp[aaE,fM,kA,hc,hT,hR,hg,jV,ht,hn,jr,hY,h8,a8,tK,qM,JN,s5,pM,e4,t0,v0,hwv];all_goals ((repeat' apply And.intro)<;>first|omega|rfl|exact nW)
  ·refine lx.dn (3) (by decide) (by simp[iU,ra,t0]) (aaB ?_);simp[aaE,sN,kA,hc,hT,hR,hg,jV,ht,hn,h8,a8,tK,qM,pM,t0];all_goals ((repeat' apply And.intro)<;>first|omega|rfl|exact nW)
 ·by_cases hsv:x.saved= -1
  ·refine lx.dn (1) (by decide) (by simp[iU,hsv]) (aaB ?_);simp[aaE,sN,kA,hc,hT,hR,hg,jV,ht,hn,h8,a8,qM,pM,hsv];all_goals ((repeat' apply And.intro)<;>first|omega|rfl|exact nW)
  ·refine lx.go H ht (mV x x.saved x.bz (-1)) (by simp[iU,hsv]) (aaB ?_);simp[aaE,fM,kA,hc,hT,hR,hg,jV,ht,hn,jr,hY,h8,a8,qM,JN,s5,pM,e4,hsv];all_goals ((repeat' apply And.intro)<;>first|omega|rfl|exact nW)
def W2(hB:Below k h h1)(hs:bu t≠T)(hT:cH g args h1 (k+j) T=some ⟨8,E,true⟩)(hE:E=(cG bu ts).set t (dJ bu t x'))(hR:R=x'.bz.map Cell.e):
  DK h k T bu t ts g args x' s (.int .i64 s) (aR (cH g args h1 (k+j)) (bu t) (some ⟨2,R,false⟩)) (cK g args h1 (k+j)+n):=
 ⟨h1,j,hB,rfl,by rw[aR,if_neg (fun e=>hs e.symm),hT,hE],by rw[hR];simp[aR],by omega,fun i _ h1 h2=>by simp[aR,h2]⟩
def W3(hB:Below k h h1)(hT:cH g args h1 (k+j) T=some ⟨8,E,true⟩)(hE:E=(cG bu ts).set t (dJ bu t x'))(hR:cH g args h1 (k+j) (bu t)=some ⟨2,x'.bz.map Cell.e,false⟩):
  DK h k T bu t ts g args x' s (.int .i64 s) (cH g args h1 (k+j)) (cK g args h1 (k+j)+n):=
 ⟨h1,j,hB,rfl,by rw[hT,hE],hR,by omega,fun i _ _ _=>rfl⟩
@[simp]def al9(c:V)(jo Eb Ec Ed qL:Int)(p:Prog)(h:bh)(k cB b:Nat)(vB:V)(C L T:Nat)(ids bu:Nat->Nat)(mm:aO)(tn:Nat)(d:Int)(x:Thread)(op:Int)(a b' c:Nat)(ed:Int)(H:dU h k b vB C L T ids bu mm)(HG:db p d mm)(HC:xq h k cB b C L T ids bu p tn)(hd:d<=1099511628776)(ht:tn<4)(LG:vB= .sl false (mm.layout.aD.map (V.int .i64)))(xU:cg mm tn=x)(hI:Gv p.code.length p.an.length ⟨op,a,b',c,ed⟩)(jJ:0<=op/\op<=17):lx (cL X 265 [.ptr cB 0 0,KKU op (a:Int) (b':Int) (c:Int) ed] h k) p h k b vB C L T ids bu mm tn x ⟨op,a,b',c,ed⟩ (sO x.pc):=by
 have hl:=H.len;have np:tn<mm.threads.length:=by omega
 have rz:(tn:Int)<4:=by omega
 have rI:=HG.pg tn np;have hR:=H.GJ tn np;have hg:=fW (ids:=bu) np;have hT:=H.pg;have jV:=fA bu mm.threads;rw[hl]at jV;have hb:=H.xJ;unfold jD at hb;rw[hl,LG]at hb;have hc:=HC.box;have pO:mm.threads[tn]=x:=by rw[<-xU];exact(iS np).symm
 rw[pO]at rI hR;simp only[pO]at hg;obtain⟨s1,s3,s4,s5,s6⟩:=H.qS tn ht;have Hv: ¬T=bu tn:=fun e=>s5 e.symm;have s1': ¬b=bu tn:=fun e=>s1 e.symm;obtain⟨u1,u2,u3,u4⟩:=H.xg;have u1': ¬b=T:=fun e=>u1 e.symm;have kG:=HC.lt;obtain⟨e1,e2,e3,e4⟩:=HC.ne;have e5:=(HC.ni tn ht).2;have e6: ¬T=cB:=fun e=>e4 e.symm;have gY:=H.mem.lt.1;have q1: ∀j,¬b=k+j/\ ¬T=k+j/\ ¬bu tn=k+j/\ ¬k+j=b/\ ¬k+j=T/\ ¬k+j=bu tn/\ ¬cB=k+j/\ ¬k+j=cB:=fun j=>by omega
 have pM: ¬b=k/\ ¬T=k/\ ¬bu tn=k/\ ¬cB=k/\ ¬k=b/\ ¬k=T/\ ¬k=bu tn/\ ¬k=cB:=by omega
 have D1:=rI.pc;obtain⟨n,hn⟩: ∃n:Nat,x.pc=n:=⟨x.pc.toNat,by omega⟩;have h8:=rI.bz;have XK:p.code.length<=64:=HG.prog.rp;have K6:=rI.count;have JN:IntKind.i64.wrap (x.count+1)=x.count+1:=wrap_i64 (by omega);have nW:cG bu mm.threads=(cG bu mm.threads).set tn ((KKd x.state (.cu (bu tn) 0 8) (n:Int) x.count x.cn x.saved x.dn x.code:V)):=by
  have aul:tn<(cG bu mm.threads).length:=by omega
  have:=hg aul;rw[h8,hn]at this;rw[<-this,abO]
 obtain⟨o1,ia,ib,ic,im,ij,il,is⟩:=hI;simp only at o1 ia ib ic im ij il is;have a8:(a:Int)<8/\(b':Int)<8/\(c:Int)<8/\a<8/\b'<8/\c<8:=by omega
 have al:a<x.bz.length:=by omega
 have bl:b'<x.bz.length:=by omega
 have cl:c<x.bz.length:=by omega
 have ie:IntKind.u16.wrap ed=ed:=wrap_u16 im;have hL:=HG.lay;have hlen:=hL.len;obtain⟨xa,tK⟩: ∃v,x.bz[a]=v:=⟨_,rfl⟩;obtain⟨xb,xM⟩: ∃v,x.bz[b']=v:=⟨_,rfl⟩;obtain⟨xc,xce⟩: ∃v,x.bz[c]=v:=⟨_,rfl⟩;have ra:kr x a=xa:=by rw[mJ al,tK]
 have rb:kr x b'=xb:=by rw[mJ bl,xM]
 have rc:kr x c=xc:=by rw[mJ cl,xce]
 have ca:jd xa:=by rw[<-ra];exact j6 rI _
 have cb:jd xb:=by rw[<-rb];exact j6 rI _
 have cc:jd xc:=by rw[<-rc];exact j6 rI _
 have gY:=H.mem.lt;obtain⟨pc,ps,pd⟩:=p;simp only at ij il is hc XK hL hlen;have oc:op=0\/op=1\/op=2\/(3<=op/\op<=14)\/op=15\/op=16\/op=17:=by omega
 rcases oc with rfl|rfl|rfl|ho|rfl|rfl|rfl
 ·refine lx.go H ht (vM x (n+1) x.bz) (by simp[iU,hn,vM]) (aaB ?_);simp[aaE,fM,kA,hb,hc,hT,hR,hg,jV,ht,hn,oD,sj,h8,q1,pM];all_goals ((repeat' apply And.intro)<;>first|omega|rfl|exact nW)
 ·refine lx.go H ht (vM x (n+1) (x.bz.set a ⟨0,ed⟩)) (by simp[iU,hn,oJ,vM]) (aaB ?_);simp[aaE,fM,kA,hb,hc,hT,hR,hg,jV,ht,hn,oD,sj,h8,a8,tK,ie,Hv,q1,pM,Cell.bS];all_goals ((repeat' apply And.intro)<;>first|omega|rfl|exact nW)
 ·refine lx.go H ht (vM x (n+1) (x.bz.set a xb)) (by simp[iU,hn,oJ,rb,vM]) (aaB ?_);simp[aaE,fM,kA,hb,hc,hT,hR,hg,jV,ht,hn,oD,sj,h8,a8,tK,xM,Hv,q1,pM];all_goals ((repeat' apply And.intro)<;>first|omega|rfl|exact nW)
 ·obtain⟨⟨dt,dv⟩,w,hdo⟩: ∃r w,qU mm.layout.aD ps op xb xc=(r,w):=⟨_,_,rfl⟩;obtain⟨xbt,xbv⟩:=xb;obtain⟨xct,xcv⟩:=xc;have cb2:=cb.2;have cc2:=cc.2;simp only at cb2 cc2;have m0: ¬op=0/\ ¬op=1/\ ¬op=2/\ ¬op=15/\ ¬op=16/\ ¬op=17/\ ¬op=18/\ ¬op=19/\ ¬op=20/\ ¬op=21/\ ¬op=22/\ ¬op=23/\ ¬op=24:=by omega
  by_cases xh:w=0
  ·refine lx.go H ht (vM x (n+1) (x.bz.set a ⟨dt,dv⟩)) (by simp[iU,hn,oJ,rb,rc,hdo,xh,m0]) (aaB ?_);simp[aaE,fM,kA,hb,hc,hT,hR,hg,jV,ht,hn,oD,sj,h8,a8,tK,xM,xce,Hv,q1,pM,m0,hL,cb2,cc2,hdo,xh,Cell.bS];all_goals ((repeat' apply And.intro)<;>first|omega|rfl|exact nW)
  ·refine lx.dn (w) (by exact xh) (by simp[iU,rb,rc,hdo,xh,m0]) (aaB ?_);simp[aaE,sN,kA,hb,hc,hT,hR,hg,jV,ht,hn,h8,a8,xM,xce,q1,pM,m0,hL,cb2,cc2,hdo,xh];all_goals ((repeat' apply And.intro)<;>first|omega|rfl|exact nW)
 ·obtain⟨Iq,rfl⟩:=aaG im.1;have i1:=il rfl;have i2:Iq<ps.length:=by omega
  have i3:Iq<mm.layout.aD.length:=by rw[hlen];exact i2
  have i3i:(Iq:Int)<mm.layout.aD.length:=by omega
  have bb:=hL.base Iq i3 i2;have zz:=hL.sz.elem Iq i2;have FV:IntKind.u16.wrap mm.layout.aD[Iq]=mm.layout.aD[Iq]:=wrap_u16 (by omega);have Cr:nth mm.layout.aD Iq=mm.layout.aD[Iq]:=dC i3;refine lx.go H ht (vM x (n+1) (x.bz.set a ⟨1,mm.layout.aD[Iq]⟩)) (by simp[iU,hn,oJ,Cr]) (aaB ?_);simp[aaE,fM,kA,hb,hc,hT,hR,hg,jV,ht,hn,oD,sj,h8,a8,tK,Hv,q1,pM,Cell.bS,i3,i3i,FV];all_goals ((repeat' apply And.intro)<;>first|omega|rfl|exact nW)
 ·obtain⟨r,w,GN⟩: ∃r w,jL mm.layout.aD ps xb ed false=(r,w):=⟨_,_,rfl⟩;have c2:=cb.2;have RL:=sJ (aD:=mm.layout.aD) (an:=ps) hL (p:=xb) (n:=ed) (back:=false);rw[GN]at RL;simp only at RL;by_cases xh:w=0
  case neg=>
   obtain⟨xt,xv⟩:=xb;simp only at c2;refine lx.dn w xh (by simp[iU,rb,GN,xh]) (aaB ?_);simp[aaE,sN,kA,hb,hc,hT,hR,hg,jV,ht,hn,h8,a8,xM,ie,q1,pM,hL,im,c2,GN,xh];all_goals ((repeat' apply And.intro)<;>first|omega|rfl|exact nW)
  obtain⟨av,hr,Ir⟩:=RL xh;subst xh;subst hr;have JO:IntKind.i64.wrap (av:Int)=av:=wrap_i64 (by omega);have HM: ∀(h1:bh) (j:Nat),Below k h h1->kz h1 (k+j) b C L ids vB (.int .u16 mm.layout.key) (.cu T 0 4) mm.memory:=fun h1 j ju=>by have:=(H.mono (k':=k+j) (by omega) ju).mem;rwa[hl]at this
  have lf: ∀(h1:bh) (j:Nat),Below k h h1->cL X 292 [.ptr b 0 2,(av:Int)] h1 (k+j)=some ((.dM [KKf (nf mm.memory av),.bool true]),cH 292 [.ptr b 0 2,(av:Int)] h1 (k+j),cK 292 [.ptr b 0 2,(av:Int)] h1 (k+j))/\ ∃iv,dU (cH 292 [.ptr b 0 2,(av:Int)] h1 (k+j)) (cK 292 [.ptr b 0 2,(av:Int)] h1 (k+j)) b vB C L T iv bu ⟨mm.layout,dr mm.memory av,mm.threads⟩/\k+j<=cK 292 [.ptr b 0 2,(av:Int)] h1 (k+j)/\(∀j,j<4->iv j=ids j\/k<=iv j)/\ ∀i,i<k+j->i≠C->i≠L->(∀j,j<4->i≠ids j)->cH 292 [.ptr b 0 2,(av:Int)] h1 (k+j) i=h1 i:=fun h1 j ju=>by
   obtain⟨h',k',iI,e,G,g1,g2,g3⟩:=as5 .bad 0 h1 (k+j) b C L ids vB (.int .u16 mm.layout.key) (.cu T 0 4) mm.memory av (HM h1 j ju) Ir;have e:cL X 292 [.ptr b 0 2,(av:Int)] h1 (k+j)=some ((.dM [KKf (nf mm.memory av),.bool true]),h',k'):=e;obtain⟨e1,e2⟩:=xK e;rw[e1,e2];have HH:dU h1 (k+j) b vB C L T ids bu mm:=H.mono (by omega) ju;exact⟨e,iI,HH.memory g1 (by rw[hl];exact G) g2 g3,g1,fun j hj=>by rcases g2 j hj with e|e;exact .inl e;exact .inr (by omega),g3⟩
  have cl:=fun h1 j ju=>(lf h1 j ju).1;have lT: ∀(h1:bh) (j:Nat),Below k h h1->cH 292 [.ptr b 0 2,(av:Int)] h1 (k+j) T=some ⟨8,cG bu mm.threads,true⟩:=fun h1 j ju=>by obtain⟨_,_,G,_⟩:=lf h1 j ju;exact G.pg
  have lR: ∀(h1:bh) (j:Nat),Below k h h1->cH 292 [.ptr b 0 2,(av:Int)] h1 (k+j) (bu tn)=some ⟨2,x.bz.map Cell.e,false⟩:=fun h1 j ju=>by obtain⟨_,_,G,_⟩:=lf h1 j ju;rw[G.GJ tn np];simp only[pO]
  have lF: ∀(h1:bh) (j i:Nat),Below k h h1->i<j->cH 292 [.ptr b 0 2,(av:Int)] h1 (k+j) (k+i)=h1 (k+i):=fun h1 j i ju mz=>by
   obtain⟨_,_,_,_,_,g⟩:=lf h1 j ju;exact g (k+i) (by omega) (by omega) (by omega) fun j hj=>by have:=gY.2.2.2 j hj;omega
  have lF0: ∀(h1:bh) (j:Nat),Below k h h1->0<j->cH 292 [.ptr b 0 2,(av:Int)] h1 (k+j) k=h1 k:=fun h1 j ju mz=>lF h1 j 0 ju mz;have lT0:(cG bu mm.threads)=(cG bu mm.threads).set tn (dJ bu tn (sO x.pc (vM x (n+1) (x.bz.set a (nf mm.memory av))))):=by
   have e0:dJ bu tn (sO x.pc (vM x (n+1) (x.bz.set a (nf mm.memory av))))= (KKd x.state (.cu (bu tn) 0 8) (n:Int) x.count x.cn x.saved x.dn x.code:V):=by
    rw[oD,hn];simp only[aaN,h8]
   rw[e0];exact nW
  rw[hn]at lT0;obtain⟨v,h',n',e,h1,j,ju,hE⟩:=bC (X:=X) (g:=265) (args:=[.ptr cB 0 0,(KKU 16 (a:Int) (b':Int) (c:Int) ed:V)]) (h:=h) (k:=k) (K:=DK h k T bu tn mm.threads 292 [.ptr b 0 2,(av:Int)] (sO x.pc (vM x (n+1) (x.bz.set a (nf mm.memory av)))) 0) Tryz.func265 rfl rfl (by
    simp[aaE,kA,hb,hc,hT,hR,hg,jV,ht,hn,h8,a8,tK,xM,ie,q1,pM,hL,im,c2,GN,JO,cl,lR,lF0];exact W2 (by simp only[cE,cM,cP]) s5 (lT _ _ (by simp only[cE,cM,cP])) lT0 (by simp[sj,Cell.bS]))
  obtain⟨_,iv,G,g1,gi,g2⟩:=lf h1 j ju;exact lx.ap1 H ht G (by omega) gi (fun i hi hC Io uk=>by rw[g2 i (by omega) hC Io uk,ju i hi]) (vM x (n+1) (x.bz.set a (nf mm.memory av))) (by simp[iU,hn,oJ,rb,GN]) ⟨v,h',n',e,hE⟩
 ·obtain⟨r,w,GN⟩: ∃r w,jL mm.layout.aD ps xa ed false=(r,w):=⟨_,_,rfl⟩;have c2:=ca.2;have RL:=sJ (aD:=mm.layout.aD) (an:=ps) hL (p:=xa) (n:=ed) (back:=false);rw[GN]at RL;simp only at RL;by_cases xh:w=0
  case neg=>
   obtain⟨xt,xv⟩:=xa;simp only at c2;refine lx.dn w xh (by simp[iU,ra,GN,xh]) (aaB ?_);simp[aaE,sN,kA,hb,hc,hT,hR,hg,jV,ht,hn,h8,a8,tK,xM,ie,q1,pM,hL,im,c2,GN,xh];all_goals ((repeat' apply And.intro)<;>first|omega|rfl|exact nW)
  obtain⟨av,hr,Ir⟩:=RL xh;subst xh;subst hr;have JO:IntKind.i64.wrap (av:Int)=av:=wrap_i64 (by omega);have HM: ∀(h1:bh) (j:Nat),Below k h h1->kz h1 (k+j) b C L ids vB (.int .u16 mm.layout.key) (.cu T 0 4) mm.memory:=fun h1 j ju=>by have:=(H.mono (k':=k+j) (by omega) ju).mem;rwa[hl]at this
  have lf: ∀(h1:bh) (j:Nat),Below k h h1->cL X 237 [.ptr b 0 2,(av:Int),KKf xb] h1 (k+j)=some ((.bool true),cH 237 [.ptr b 0 2,(av:Int),KKf xb] h1 (k+j),cK 237 [.ptr b 0 2,(av:Int),KKf xb] h1 (k+j))/\ ∃iv,dU (cH 237 [.ptr b 0 2,(av:Int),KKf xb] h1 (k+j)) (cK 237 [.ptr b 0 2,(av:Int),KKf xb] h1 (k+j)) b vB C L T iv bu ⟨mm.layout,mE mm.memory av xb,mm.threads⟩/\k+j<=cK 237 [.ptr b 0 2,(av:Int),KKf xb] h1 (k+j)/\(∀j,j<4->iv j=ids j\/k<=iv j)/\ ∀i,i<k+j->i≠C->i≠L->(∀j,j<4->i≠ids j)->cH 237 [.ptr b 0 2,(av:Int),KKf xb] h1 (k+j) i=h1 i:=fun h1 j ju=>by
   obtain⟨h',k',iI,e,G,g1,g2,g3⟩:=ake .bad 0 xb.tag xb.val h1 (k+j) b C L ids vB (.int .u16 mm.layout.key) (.cu T 0 4) mm.memory av xb (HM h1 j ju) Ir cb.oG;have e:cL X 237 [.ptr b 0 2,(av:Int),KKf xb] h1 (k+j)=some ((.bool true),h',k'):=e;obtain⟨e1,e2⟩:=xK e;rw[e1,e2];have HH:dU h1 (k+j) b vB C L T ids bu mm:=H.mono (by omega) ju;exact⟨e,iI,HH.memory g1 (by rw[hl];exact G) g2 g3,g1,fun j hj=>by rcases g2 j hj with e|e;exact .inl e;exact .inr (by omega),g3⟩
  have cl:=fun h1 j ju=>(lf h1 j ju).1;have lT: ∀(h1:bh) (j:Nat),Below k h h1->cH 237 [.ptr b 0 2,(av:Int),KKf xb] h1 (k+j) T=some ⟨8,cG bu mm.threads,true⟩:=fun h1 j ju=>by obtain⟨_,_,G,_⟩:=lf h1 j ju;exact G.pg
  have lR: ∀(h1:bh) (j:Nat),Below k h h1->cH 237 [.ptr b 0 2,(av:Int),KKf xb] h1 (k+j) (bu tn)=some ⟨2,x.bz.map Cell.e,false⟩:=fun h1 j ju=>by obtain⟨_,_,G,_⟩:=lf h1 j ju;rw[G.GJ tn np];simp only[pO]
  have lF: ∀(h1:bh) (j i:Nat),Below k h h1->i<j->cH 237 [.ptr b 0 2,(av:Int),KKf xb] h1 (k+j) (k+i)=h1 (k+i):=fun h1 j i ju mz=>by
   obtain⟨_,_,_,_,_,g⟩:=lf h1 j ju;exact g (k+i) (by omega) (by omega) (by omega) fun j hj=>by have:=gY.2.2.2 j hj;omega
  have lF0: ∀(h1:bh) (j:Nat),Below k h h1->0<j->cH 237 [.ptr b 0 2,(av:Int),KKf xb] h1 (k+j) k=h1 k:=fun h1 j ju mz=>lF h1 j 0 ju mz;have lT0:(cG bu mm.threads)=(cG bu mm.threads).set tn (dJ bu tn (sO x.pc (vM x (n+1) x.bz))):=by
   have e0:dJ bu tn (sO x.pc (vM x (n+1) x.bz))= (KKd x.state (.cu (bu tn) 0 8) (n:Int) x.count x.cn x.saved x.dn x.code:V):=by
    rw[oD,hn];simp only[h8]
   rw[e0];exact nW
  rw[hn]at lT0;obtain⟨v,h',n',e,h1,j,ju,hE⟩:=bC (X:=X) (g:=265) (args:=[.ptr cB 0 0,(KKU 17 (a:Int) (b':Int) (c:Int) ed:V)]) (h:=h) (k:=k) (K:=DK h k T bu tn mm.threads 237 [.ptr b 0 2,(av:Int),KKf xb] (sO x.pc (vM x (n+1) x.bz)) 0) Tryz.func265 rfl rfl (by
    simp[aaE,kA,hb,hc,hT,hR,hg,jV,ht,hn,h8,a8,tK,xM,ie,q1,pM,hL,im,c2,GN,JO,cl];exact W3 (by simp only[cE,cM,cP]) (lT _ _ (by simp only[cE,cM,cP])) lT0 (lR _ _ (by simp only[cE,cM,cP])))
  obtain⟨_,iv,G,g1,gi,g2⟩:=lf h1 j ju;exact lx.ap1 H ht G (by omega) gi (fun i hi hC Io uk=>by rw[g2 i (by omega) hC Io uk,ju i hi]) (vM x (n+1) x.bz) (by simp[iU,hn,ra,rb,GN]) ⟨v,h',n',e,hE⟩
def BrG(h:bh)(k:Nat)(g:FuncId)(args:List V)(s:Int)(v:V)(h':bh)(k':Nat):Prop:= ∃h1 j,Below k h h1/\v= .int .i64 s/\h'=cH g args h1 (k+j)/\cK g args h1 (k+j)<=k'
def aum(hB:Below k h h1):BrG h k g args s (.int .i64 s) (cH g args h1 (k+j)) (cK g args h1 (k+j)+n):=⟨h1,j,hB,rfl,rfl,by omega⟩
def TrG(h:bh)(k T:Nat)(g:FuncId)(args:List V)(s:Int)(E0:List V)(v:V)(h':bh)(k':Nat):Prop:= ∃h1 j,Below k h h1/\v= .int .i64 s/\h'=aR (cH g args h1 (k+j)) T (some ⟨8,E0,true⟩)/\cK g args h1 (k+j)<=k'
def So(hB:Below k h h1)(hE:E=E0):TrG h k T g args s E0 (.int .i64 s) (aR (cH g args h1 (k+j)) T (some ⟨8,E,true⟩)) (cK g args h1 (k+j)+n):=⟨h1,j,hB,rfl,by rw[hE],by omega⟩
def xq.mono(H:xq h k cB b C L T ids bu p t)(hk:k<=k')(hh: ∀i,i<k->h' i=h i):xq h' k' cB b C L T ids bu p t:=
 ⟨by rw[hh _ H.lt,H.box],by have:=H.lt;omega,H.ne,H.ni⟩
def ama(h:0<=i.op/\i.op<=17)(hg:(iU p m x i).2.2= -1):(iU p m x i).2.1.pc=x.pc+1:=by
 have n18: ¬i.op=18:=by omega
 have n19: ¬i.op=19:=by omega
 have n20: ¬i.op=20:=by omega
 have n21: ¬i.op=21:=by omega
 have n22: ¬i.op=22:=by omega
 have n23: ¬i.op=23:=by omega
 have n24: ¬i.op=24:=by omega
 revert hg;unfold iU;simp only[n18,n19,n20,n21,n22,n23,n24,if_false];repeat' split
 all_goals first|(intro _;rfl)|(intro h;cases h)
@[simp]def aun(c:V)(p:Prog)(h:bh)(k cB b:Nat)(vB:V)(C L T:Nat)(ids bu:Nat->Nat)(mm:aO)(tn:Nat)(d:Int)(H:dU h k b vB C L T ids bu mm)(HG:db p d mm)(HC:xq h k cB b C L T ids bu p tn)(hd:d<=1099511628776)(ht:tn<4)(LG:vB= .sl false (mm.layout.aD.map (V.int .i64))):gX (cL X 227 [.ptr cB 0 0] h k) p h k b vB C L T ids bu mm tn:=by
 have hl:=H.len;have np:tn<mm.threads.length:=by omega
 have rz:(tn:Int)<4:=by omega
 have rI:=HG.pg tn np;have hR:=H.GJ tn np;have hg:=fW (ids:=bu) np;have hT:=H.pg;have jV:=fA bu mm.threads;rw[hl]at jV;have hb:=H.xJ;unfold jD at hb;rw[hl,LG]at hb;have hc:=HC.box;have xU:cg mm tn=mm.threads[tn]:=iS np;obtain⟨x,pO⟩: ∃x,mm.threads[tn]=x:=⟨_,rfl⟩;rw[pO]at xU;rw[pO]at rI hR;simp only[pO]at hg;obtain⟨s1,s3,s4,s5,s6⟩:=H.qS tn ht;have Hv: ¬T=bu tn:=fun e=>s5 e.symm;have s1': ¬b=bu tn:=fun e=>s1 e.symm;obtain⟨u1,u2,u3,u4⟩:=H.xg;have u1': ¬b=T:=fun e=>u1 e.symm;have kG:=HC.lt;obtain⟨e1,e2,e3,e4⟩:=HC.ne;have e5:=(HC.ni tn ht).2;have e6: ¬T=cB:=fun e=>e4 e.symm;have gY:=H.mem.lt.1;have q1: ∀j,¬b=k+j/\ ¬T=k+j/\ ¬bu tn=k+j/\ ¬k+j=b/\ ¬k+j=T/\ ¬k+j=bu tn/\ ¬cB=k+j/\ ¬k+j=cB:=fun j=>by omega
 have pM: ¬b=k/\ ¬T=k/\ ¬bu tn=k/\ ¬cB=k/\ ¬k=b/\ ¬k=T/\ ¬k=bu tn/\ ¬k=cB:=by omega
 have D1:=rI.pc;obtain⟨n,hn⟩: ∃n:Nat,x.pc=n:=⟨x.pc.toNat,by omega⟩;have h8:=rI.bz;have XK:p.code.length<=64:=HG.prog.rp;have K6:=rI.count;have JN:IntKind.i64.wrap (x.count+1)=x.count+1:=wrap_i64 (by omega);have qM:=nd n (by omega);obtain⟨pc,ps,pd⟩:=p;simp only[kA]at hc;simp only at XK;by_cases sv:n<pc.length
 case neg=>
  have rA:(pc.length:Int)<=n:=by omega
  refine gX.of H ht (iV x 2) 2 (by rw[xU];exact JM (by simp only;omega)) (aaB ?_);simp[aaE,fM,hc,hT,hR,hg,jV,ht,hn,nc,jF,h8,s5,sv];all_goals ((repeat' apply And.intro)<;>first|omega|rfl|exact nW)
 have rA: ¬(pc.length:Int)<=n:=by omega
 have hI:=HG.prog.AW (p:=⟨pc,ps,pd⟩) sv;obtain⟨⟨op,ai,bi,ci,ed⟩,hi⟩: ∃i,pc[n]=i:=⟨_,rfl⟩;simp only at hI;rw[hi]at hI;have Ah:=hI;obtain⟨o1,ia,ib,ic,im,ij,il,is⟩:=Ah;simp only at o1 ia ib ic im ij il is;obtain⟨a,rfl⟩:=aaG ia.1;obtain⟨b',rfl⟩:=aaG ib.1;obtain⟨c,rfl⟩:=aaG ic.1;have hs: ∀r,iU ⟨pc,ps,pd⟩ mm x ⟨op,a,b',c,ed⟩=r->ny ⟨pc,ps,pd⟩ mm (cg mm tn)=r:=fun r g=>by rw[xU,GM (p:=⟨pc,ps,pd⟩) hn sv hi,g]
 have oc:op=23\/(op=18\/op=19\/op=20\/op=21\/op=22\/op=24)\/(0<=op/\op<=17):=by omega
 rcases oc with rfl|jJ|jJ
 ·refine gX.of H ht (uT x) 1 (hs _ (by simp[iU])) (aaB ?_);simp[aaE,fM,hc,hT,hR,hg,jV,ht,hn,GL,B0,h8,qM,s5,q1,e4,sv,hi];all_goals ((repeat' apply And.intro)<;>first|omega|rfl|exact nW)
 ·have S7: ¬op=23:=by omega
  have E7:fQ op=true:=by rcases jJ with rfl|rfl|rfl|rfl|rfl|rfl<;>decide
  have CE: ∀(h1:bh) (j:Nat),Below k h h1->lx (cL X 264 [.ptr cB 0 0,KKU op (a:Int) (b':Int) (c:Int) ed] h1 (k+j)) ⟨pc,ps,pd⟩ h1 (k+j) b vB C L T ids bu mm tn x ⟨op,a,b',c,ed⟩ id:=fun h1 j ju=>
   ae8 .bad op a b' c ed ⟨pc,ps,pd⟩ h1 (k+j) cB b vB C L T ids bu mm tn d x op a b' c ed (H.mono (by omega) ju) HG (HC.mono (by omega) ju) hd ht LG xU hI (jJ)
  by_cases Oj:(iU ⟨pc,ps,pd⟩ mm x ⟨op,a,b',c,ed⟩).2.2= -1
  case neg=>
   obtain⟨w,hw,xh⟩: ∃w,iU ⟨pc,ps,pd⟩ mm x ⟨op,a,b',c,ed⟩=(mm.memory,iV x w,2)/\w≠0:=by
    rcases CE h 0 (fun _ _=>rfl) with g|⟨w,_,_,g1,g2,_⟩
    ·exact absurd g.1 Oj
    ·exact⟨w,g1,g2⟩
   have lf: ∀(h1:bh) (j:Nat),Below k h h1->cL X 264 [.ptr cB 0 0,KKU op (a:Int) (b':Int) (c:Int) ed] h1 (k+j)=some (.int .i64 w,cH 264 [.ptr cB 0 0,KKU op (a:Int) (b':Int) (c:Int) ed] h1 (k+j),cK 264 [.ptr cB 0 0,KKU op (a:Int) (b':Int) (c:Int) ed] h1 (k+j))/\k+j<=cK 264 [.ptr cB 0 0,KKU op (a:Int) (b':Int) (c:Int) ed] h1 (k+j)/\ ∀i,i<k+j->cH 264 [.ptr cB 0 0,KKU op (a:Int) (b':Int) (c:Int) ed] h1 (k+j) i=h1 i:=fun h1 j ju=>by
    rcases CE h1 j ju with g|⟨w',h',k',g1,g2,e,g3,g4⟩
    ·exact absurd g.1 Oj
    ·have ew:w'=w:=by rw[hw]at g1;simp only[bM,iV,Thread.mk.injEq]at g1;exact g1.2.1.2.2.2.2.2.2.1.symm
     subst ew;obtain⟨e1,e2⟩:=xK e;rw[e1,e2];exact⟨e,g3,g4⟩
   have cl:=fun h1 j ju=>(lf h1 j ju).1;have lc: ∀(h1:bh) (j:Nat),Below k h h1->cH 264 [.ptr cB 0 0,KKU op (a:Int) (b':Int) (c:Int) ed] h1 (k+j) cB=some ⟨5,[kA ⟨pc,ps,pd⟩ b T tn],true⟩:=fun h1 j ju=>by rw[(lf h1 j ju).2.2 _ (by omega),ju _ kG];exact hc
   have lT: ∀(h1:bh) (j:Nat),Below k h h1->cH 264 [.ptr cB 0 0,KKU op (a:Int) (b':Int) (c:Int) ed] h1 (k+j) T=some ⟨8,cG bu mm.threads,true⟩:=fun h1 j ju=>by rw[(lf h1 j ju).2.2 _ (by omega),ju _ (by omega),hT]
   unfold kA at lc;refine gX.of H ht (iV x w) 2 (hs _ hw) ?_;obtain⟨v,h',n',e,h1,j,ju,rfl,hE,hK⟩:=bC (X:=X) (g:=227) (args:=[.ptr cB 0 0]) (h:=h) (k:=k) (K:=TrG h k T 264 [.ptr cB 0 0,KKU op (a:Int) (b':Int) (c:Int) ed] 2 ((cG bu mm.threads).set tn (dJ bu tn (iV x w)))) Tryz.func227 rfl rfl (by
    simp[aaE,hc,hT,hg,jV,ht,hn,jF,h8,sv,hi,S7,E7,xh,cl,lc,lT,sy,acI];refine So ?_ ?_
    ·simp only[cE,cM]
    ·first|rfl|simp only[acI])
   obtain⟨_,g1,g2⟩:=lf h1 j ju;refine⟨_,h',n',e,rfl,by rw[hE];simp[aR],?_,by omega,fun i hi h1 h2=> ?_⟩
   ·rw[hE,aR,if_neg s5,g2 _ (by omega),ju _ (by omega),hR];rfl
   ·rw[hE,aR,if_neg h1,g2 _ (by omega),ju _ hi]
  obtain⟨M1,X1,W4⟩: ∃M1 X1,iU ⟨pc,ps,pd⟩ mm x ⟨op,a,b',c,ed⟩=(M1,X1, -1):=⟨_,_,by rw[<-Oj]⟩;have lf: ∀(h1:bh) (j:Nat),Below k h h1->cL X 264 [.ptr cB 0 0,KKU op (a:Int) (b':Int) (c:Int) ed] h1 (k+j)=some (.int .i64 0,cH 264 [.ptr cB 0 0,KKU op (a:Int) (b':Int) (c:Int) ed] h1 (k+j),cK 264 [.ptr cB 0 0,KKU op (a:Int) (b':Int) (c:Int) ed] h1 (k+j))/\ ∃iv,dU (cH 264 [.ptr cB 0 0,KKU op (a:Int) (b':Int) (c:Int) ed] h1 (k+j)) (cK 264 [.ptr cB 0 0,KKU op (a:Int) (b':Int) (c:Int) ed] h1 (k+j)) b vB C L T iv bu (iZ mm M1 tn (id X1))/\k+j<=cK 264 [.ptr cB 0 0,KKU op (a:Int) (b':Int) (c:Int) ed] h1 (k+j)/\(∀j,j<4->iv j=ids j\/k<=iv j)/\
    ∀i,i<k+j->i≠C->i≠L->(∀j,j<4->i≠ids j)->i≠T->i≠bu tn->cH 264 [.ptr cB 0 0,KKU op (a:Int) (b':Int) (c:Int) ed] h1 (k+j) i=h1 i:=fun h1 j ju=>by
   rcases CE h1 j ju with⟨_,h',k',iv,e,G,g1,g2,g3⟩|⟨w',h',k',g1,g2,e,g3,g4⟩
   ·rw[W4]at G;obtain⟨e1,e2⟩:=xK e;rw[e1,e2];exact⟨e,iv,G,g1,fun j hj=>by rcases g2 j hj with e|e;exact .inl e;exact .inr (by omega),g3⟩
   ·rw[g1]at Oj;cases Oj
  have cl:=fun h1 j ju=>(lf h1 j ju).1;have lc: ∀(h1:bh) (j:Nat),Below k h h1->cH 264 [.ptr cB 0 0,KKU op (a:Int) (b':Int) (c:Int) ed] h1 (k+j) cB=some ⟨5,[kA ⟨pc,ps,pd⟩ b T tn],true⟩:=fun h1 j ju=>by
   obtain⟨_,_,_,_,_,g⟩:=lf h1 j ju;rw[g _ (by omega) e2 e3 (fun j hj=>(HC.ni j hj).1) e4 e5,ju _ kG];exact hc
  unfold kA at lc;obtain⟨v,h',n',e,h1,j,ju,rfl,hE,hK⟩:=bC (X:=X) (g:=227) (args:=[.ptr cB 0 0]) (h:=h) (k:=k) (K:=BrG h k 264 [.ptr cB 0 0,KKU op (a:Int) (b':Int) (c:Int) ed] (-1)) Tryz.func227 rfl rfl (by
   simp[aaE,hc,hT,hg,jV,ht,hn,h8,sv,hi,S7,E7,cl];refine aum ?_;simp only[cE,cM])
  obtain⟨_,iv,G,g1,gi,g2⟩:=lf h1 j ju;have e1:lu ⟨pc,ps,pd⟩ mm tn=(iZ mm M1 tn X1, -1):=by rw[w7,hs _ W4]
  unfold gX;subst hE;rw[e1];exact⟨_,n',iv,e,G.mono hK (fun _ _=>rfl),by omega,gi,fun i hi hC Io uk hT1 hR1=>by rw[g2 i (by omega) hC Io uk hT1 hR1,ju i hi]⟩
 ·have S7: ¬op=23:=by omega
  have E7:fQ op=false:=by simp[fQ,jumps];omega
  have CE: ∀(h1:bh) (j:Nat),Below k h h1->lx (cL X 265 [.ptr cB 0 0,KKU op (a:Int) (b':Int) (c:Int) ed] h1 (k+j)) ⟨pc,ps,pd⟩ h1 (k+j) b vB C L T ids bu mm tn x ⟨op,a,b',c,ed⟩ (sO x.pc):=fun h1 j ju=>
   al9 .bad op a b' c ed ⟨pc,ps,pd⟩ h1 (k+j) cB b vB C L T ids bu mm tn d x op a b' c ed (H.mono (by omega) ju) HG (HC.mono (by omega) ju) hd ht LG xU hI (jJ)
  by_cases Oj:(iU ⟨pc,ps,pd⟩ mm x ⟨op,a,b',c,ed⟩).2.2= -1
  case neg=>
   obtain⟨w,hw,xh⟩: ∃w,iU ⟨pc,ps,pd⟩ mm x ⟨op,a,b',c,ed⟩=(mm.memory,iV x w,2)/\w≠0:=by
    rcases CE h 0 (fun _ _=>rfl) with g|⟨w,_,_,g1,g2,_⟩
    ·exact absurd g.1 Oj
    ·exact⟨w,g1,g2⟩
   have lf: ∀(h1:bh) (j:Nat),Below k h h1->cL X 265 [.ptr cB 0 0,KKU op (a:Int) (b':Int) (c:Int) ed] h1 (k+j)=some (.int .i64 w,cH 265 [.ptr cB 0 0,KKU op (a:Int) (b':Int) (c:Int) ed] h1 (k+j),cK 265 [.ptr cB 0 0,KKU op (a:Int) (b':Int) (c:Int) ed] h1 (k+j))/\k+j<=cK 265 [.ptr cB 0 0,KKU op (a:Int) (b':Int) (c:Int) ed] h1 (k+j)/\ ∀i,i<k+j->cH 265 [.ptr cB 0 0,KKU op (a:Int) (b':Int) (c:Int) ed] h1 (k+j) i=h1 i:=fun h1 j ju=>by
    rcases CE h1 j ju with g|⟨w',h',k',g1,g2,e,g3,g4⟩
    ·exact absurd g.1 Oj
    ·have ew:w'=w:=by rw[hw]at g1;simp only[bM,iV,Thread.mk.injEq]at g1;exact g1.2.1.2.2.2.2.2.2.1.symm
     subst ew;obtain⟨e1,e2⟩:=xK e;rw[e1,e2];exact⟨e,g3,g4⟩
   have cl:=fun h1 j ju=>(lf h1 j ju).1;have lc: ∀(h1:bh) (j:Nat),Below k h h1->cH 265 [.ptr cB 0 0,KKU op (a:Int) (b':Int) (c:Int) ed] h1 (k+j) cB=some ⟨5,[kA ⟨pc,ps,pd⟩ b T tn],true⟩:=fun h1 j ju=>by rw[(lf h1 j ju).2.2 _ (by omega),ju _ kG];exact hc
   have lT: ∀(h1:bh) (j:Nat),Below k h h1->cH 265 [.ptr cB 0 0,KKU op (a:Int) (b':Int) (c:Int) ed] h1 (k+j) T=some ⟨8,cG bu mm.threads,true⟩:=fun h1 j ju=>by rw[(lf h1 j ju).2.2 _ (by omega),ju _ (by omega),hT]
   unfold kA at lc;refine gX.of H ht (iV x w) 2 (hs _ hw) ?_;obtain⟨v,h',n',e,h1,j,ju,rfl,hE,hK⟩:=bC (X:=X) (g:=227) (args:=[.ptr cB 0 0]) (h:=h) (k:=k) (K:=TrG h k T 265 [.ptr cB 0 0,KKU op (a:Int) (b':Int) (c:Int) ed] 2 ((cG bu mm.threads).set tn (dJ bu tn (iV x w)))) Tryz.func227 rfl rfl (by
    simp[aaE,hc,hT,hg,jV,ht,hn,jF,h8,sv,hi,S7,E7,xh,cl,lc,lT,sy,acI];refine So ?_ ?_
    ·simp only[cE,cM]
    ·first|rfl|simp only[acI])
   obtain⟨_,g1,g2⟩:=lf h1 j ju;refine⟨_,h',n',e,rfl,by rw[hE];simp[aR],?_,by omega,fun i hi h1 h2=> ?_⟩
   ·rw[hE,aR,if_neg s5,g2 _ (by omega),ju _ (by omega),hR];rfl
   ·rw[hE,aR,if_neg h1,g2 _ (by omega),ju _ hi]
  obtain⟨M1,X1,W4⟩: ∃M1 X1,iU ⟨pc,ps,pd⟩ mm x ⟨op,a,b',c,ed⟩=(M1,X1, -1):=⟨_,_,by rw[<-Oj]⟩;have lf: ∀(h1:bh) (j:Nat),Below k h h1->cL X 265 [.ptr cB 0 0,KKU op (a:Int) (b':Int) (c:Int) ed] h1 (k+j)=some (.int .i64 0,cH 265 [.ptr cB 0 0,KKU op (a:Int) (b':Int) (c:Int) ed] h1 (k+j),cK 265 [.ptr cB 0 0,KKU op (a:Int) (b':Int) (c:Int) ed] h1 (k+j))/\ ∃iv,dU (cH 265 [.ptr cB 0 0,KKU op (a:Int) (b':Int) (c:Int) ed] h1 (k+j)) (cK 265 [.ptr cB 0 0,KKU op (a:Int) (b':Int) (c:Int) ed] h1 (k+j)) b vB C L T iv bu (iZ mm M1 tn ((sO x.pc) X1))/\k+j<=cK 265 [.ptr cB 0 0,KKU op (a:Int) (b':Int) (c:Int) ed] h1 (k+j)/\(∀j,j<4->iv j=ids j\/k<=iv j)/\
    ∀i,i<k+j->i≠C->i≠L->(∀j,j<4->i≠ids j)->i≠T->i≠bu tn->cH 265 [.ptr cB 0 0,KKU op (a:Int) (b':Int) (c:Int) ed] h1 (k+j) i=h1 i:=fun h1 j ju=>by
   rcases CE h1 j ju with⟨_,h',k',iv,e,G,g1,g2,g3⟩|⟨w',h',k',g1,g2,e,g3,g4⟩
   ·rw[W4]at G;obtain⟨e1,e2⟩:=xK e;rw[e1,e2];exact⟨e,iv,G,g1,fun j hj=>by rcases g2 j hj with e|e;exact .inl e;exact .inr (by omega),g3⟩
   ·rw[g1]at Oj;cases Oj
  have cl:=fun h1 j ju=>(lf h1 j ju).1;have lc: ∀(h1:bh) (j:Nat),Below k h h1->cH 265 [.ptr cB 0 0,KKU op (a:Int) (b':Int) (c:Int) ed] h1 (k+j) cB=some ⟨5,[kA ⟨pc,ps,pd⟩ b T tn],true⟩:=fun h1 j ju=>by
   obtain⟨_,_,_,_,_,g⟩:=lf h1 j ju;rw[g _ (by omega) e2 e3 (fun j hj=>(HC.ni j hj).1) e4 e5,ju _ kG];exact hc
  unfold kA at lc;have a2x:X1.pc=x.pc+1:=by
   have:=ama (p:=⟨pc,ps,pd⟩) (m:=mm) (x:=x) (i:=⟨op,a,b',c,ed⟩) (jJ) Oj;rw[W4]at this;exact this
  obtain⟨y1,yr,y3,y4,y5,y6,y7,y8⟩:=X1;simp only at a2x;subst a2x;have lT: ∀(h1:bh) (j:Nat),Below k h h1->cH 265 [.ptr cB 0 0,KKU op (a:Int) (b':Int) (c:Int) ed] h1 (k+j) T=some ⟨8,(cG bu mm.threads).set tn ((KKd y1 (.cu (bu tn) 0 yr.length) x.pc y4 y5 y6 y7 y8:V)),true⟩:=fun h1 j ju=>by
   obtain⟨_,G,_⟩:=(lf h1 j ju).2;have:=G.pg;rw[this];unfold iZ;rw[<-iJ np];rfl
  have rK: ∀y:V,((cG bu mm.threads).set tn y).length=4:=fun y=>by rw[aaN,jV]
  obtain⟨v,h',n',e,h1,j,ju,rfl,hE,hK⟩:=bC (X:=X) (g:=227) (args:=[.ptr cB 0 0]) (h:=h) (k:=k) (K:=TrG h k T 265 [.ptr cB 0 0,KKU op (a:Int) (b':Int) (c:Int) ed] (-1) ((cG bu mm.threads).set tn ((KKd y1 (.cu (bu tn) 0 yr.length) (x.pc+1) y4 y5 y6 y7 y8:V)))) Tryz.func227 rfl rfl (by
   simp[aaE,hc,hT,hg,jV,ht,hn,h8,qM,sv,hi,S7,E7,cl,lc,lT,rK,sy,acI];refine So ?_ ?_
   ·simp only[cE,cM]
   ·first|rfl|simp only[acI,hn])
  obtain⟨_,iv,G,g1,gi,g2⟩:=lf h1 j ju;have e1:lu ⟨pc,ps,pd⟩ mm tn=(iZ mm M1 tn ⟨y1,yr,x.pc+1,y4,y5,y6,y7,y8⟩, -1):=by rw[w7,hs _ W4]
  unfold gX;rw[e1];refine⟨h',n',iv,e,?_,by omega,gi,fun i hi hC Io uk hT1 hR1=>by rw[hE,aR,if_neg hT1,g2 i (by omega) hC Io uk hT1 hR1,ju i hi]⟩;have OV:tn<(iZ mm M1 tn (sO x.pc ⟨y1,yr,x.pc+1,y4,y5,y6,y7,y8⟩)).threads.length:=by unfold iZ;simpa using np
  have fV:=G.GJ tn OV;have hgt:(iZ mm M1 tn (sO x.pc ⟨y1,yr,x.pc+1,y4,y5,y6,y7,y8⟩)).threads[tn]=sO x.pc ⟨y1,yr,x.pc+1,y4,y5,y6,y7,y8⟩:=by simp[iZ]
  rw[hgt]at fV;have Q:=G.put (h':=h') (k':=n') (t:=tn) (x:=⟨y1,yr,x.pc+1,y4,y5,y6,y7,y8⟩) hK ht (by
   rw[hE,aR,if_pos rfl];unfold iZ;rw[acI,<-iJ np];rfl) (by rw[hE,aR,if_neg s5,fV];rfl) (fun i hi h1 h2=>by rw[hE,aR,if_neg h1])
  have es:(aO.mk (iZ mm M1 tn (sO x.pc ⟨y1,yr,x.pc+1,y4,y5,y6,y7,y8⟩)).layout (iZ mm M1 tn (sO x.pc ⟨y1,yr,x.pc+1,y4,y5,y6,y7,y8⟩)).memory ((iZ mm M1 tn (sO x.pc ⟨y1,yr,x.pc+1,y4,y5,y6,y7,y8⟩)).threads.set tn ⟨y1,yr,x.pc+1,y4,y5,y6,y7,y8⟩))=iZ mm M1 tn ⟨y1,yr,x.pc+1,y4,y5,y6,y7,y8⟩:=by
   unfold iZ;rw[acI]
  rw[<-es];exact Q
structure ap2 (p:Prog) (m:aO) (tn:Nat) (h:bh) (k:Nat) (h':bh) (k' cB b C L T:Nat) (ids bu:Nat->Nat):Prop where
 NN:dU h' k' b (.sl false (m.layout.aD.map (V.int .i64))) C L T ids bu m
 core:xq h' k' cB b C L T ids bu p tn
 le:k<=k'
 fr: ∀i,i<k->h' i=h i
 N2:oT k (.sl false (m.layout.aD.map (V.int .i64))) C L T ids bu/\k<=cB/\k<=b
@[simp]def amb(ax:List Instr)(ae:List Int)(ay:List (List Int))(aa:List Int)(aq:Int)(ak:List Cell)(ah:List cy)(au:List Thread)(t:Int)(h:bh)(k tn:Nat)(hr:An (aO.mk (Layout.mk aa aq) (aF.mk ak ah) au))(hv:jU (Prog.mk ax ae ay) (aO.mk (Layout.mk aa aq) (aF.mk ak ah) au)=true)(n4:tn<4): ∃h' k' cB b C L T ids bu,cL X 226 [KKQ ax ae ay,.agg (mr (aO.mk (Layout.mk aa aq) (aF.mk ak ah) au)),(tn:Int)] h k=some (.dM [.ptr cB 0 0,.int .i64 0],h',k')/\ap2 (Prog.mk ax ae ay) (aO.mk (Layout.mk aa aq) (aF.mk ak ah) au) tn h k h' k' cB b C L T ids bu:=by
 have MG:=yN hr hv;have hp:=MG.prog.lens;have hm:=MG.lens;have hl:au.length=4:=MG.len;obtain⟨v1,h1,k1,eC,ek,ev,HA,HB⟩:=Tz aa aq ak ah au (k+20) (Prog.mk ax ae ay) _ MG;subst ek;subst ev;simp only[aaE,Nat.reduceAdd]at eC HA HB;have t0: ¬(tn:Int)<0:=by omega
 have t4:(tn:Int)<4:=by omega
 have pX: ¬(4:Int)<=tn:=by omega
 have hT:=HA.pg;obtain⟨HB1,HB2,HB3⟩:=HB;unfold mr;have key: ∃v h' k',cL X 226 [KKQ ax ae ay,KKY aa aq ak ah au,(tn:Int)] h k=some (v,h',k')/\ ∃cB b C L T ids bu,v= .dM [.ptr cB 0 0,.int .i64 0]/\ap2 (Prog.mk ax ae ay) (aO.mk (Layout.mk aa aq) (aF.mk ak ah) au) tn h k h' k' cB b C L T ids bu:=by
  refine aaB ?_;simp[hp,hm,hv,t0,t4,pX,hl,eC,ji,jH,hT,aaE];have lo: ∀x,k<=x->k+20<=x\/x<k+20:=fun x hx=>by omega
  have HA2: ∀H:bh,(∀i,k+20<=i->i<k+214->H i=h1 i)->H (k+18)=some ⟨5,[jD (.sl false (aa.map (V.int .i64))) (k+42) (k+43) (k+206) (aO.mk (Layout.mk aa aq) (aF.mk ak ah) au)],true⟩->dU H (k+223) (k+18) (.sl false (aa.map (V.int .i64))) (k+42) (k+43) (k+206) (qW (k+64) (k+83) (k+102) (k+121)) (qW (k+141) (k+161) (k+181) (k+201)) (aO.mk (Layout.mk aa aq) (aF.mk ak ah) au):=fun H hH hb=>
   adr (a:=k+20) (k:=k+214) (h1:=H) hb (by omega) (by omega) (by omega) (HA.mono ⟨HB1,HB2,HB3⟩ (aaI _) hH) ⟨HB1,HB2,HB3⟩ fun _ _=>rfl
  refine⟨k+18,k+42,k+43,k+206,qW (k+64) (k+83) (k+102) (k+121),qW (k+141) (k+161) (k+181) (k+201),⟨HA2 _ (fun i a b=> ?_) ?_,⟨?_,by omega,⟨by omega,by omega,by omega,by omega⟩,fun j hj=> ?_⟩,by omega,fun i hi=> ?_,⟨⟨by omega,by omega,by omega⟩,fun j hj=> ?_,fun B s n e=>by cases e⟩,by omega,by omega⟩⟩
  ·have n1: ¬i=k+220:=by omega
   have n2: ¬i=k+18:=by omega
   have n3: ¬i<k+20:=by omega
   simp[aR,n1,n2,n3]
  ·simp[aR,jD,hl]
  ·simp[aR,kA]
  ·have q:=HB2 j hj;have q2:=HA.lt.2.2 j hj;have q3:=(HA.qS j hj).2.2.2;omega
  ·have n1: ∀j,¬i=k+j:=fun j=>by omega
   have n2: ¬i=k:=by omega
   have n3:i<k+20:=by omega
   simp[aR,n1,n2,n3]
  ·have q:=HB2 j hj;omega
 obtain⟨v,h',k',e,cB,b,C,L,T,ids,bu,rfl,HB⟩:=key;exact⟨h',k',cB,b,C,L,T,ids,bu,e,HB⟩
def SlI(p:Prog)(lay:Layout)(cB b C L T:Nat)(bu:Nat->Nat)(tn:Nat)(upto:Int)(tg:aO×Int)(i:Nat)(S:St):Prop:= ∃mi iI,(S.f 8= .ptr 2 0 0/\S.f 11= .ptr cB 0 0/\S.f 13= .int .i64 upto)/\S.h 2=some ⟨5,[KKD (.sl true []) 0 (.sl true []) (.sl true []) (.sl true [])],true⟩/\
   mi.layout=lay/\dU S.h S.n b (.sl false (lay.aD.map (V.int .i64))) C L T iI bu mi/\oT 14 (.sl false (lay.aD.map (V.int .i64))) C L T iI bu/\xq S.h S.n cB b C L T iI bu p tn/\14<=S.n/\
   db p (1099511627776+64) mi/\(((cg mi tn).count<upto/\i+yQ upto (cg mi tn)<=19456/\jZ p tn upto (20000-i) mi=tg)\/((cg mi tn).count=upto/\tg=(mi,0)))
@[simp]def ae9(ax:List Instr)(ae:List Int)(ay:List (List Int))(aa:List Int)(aq:Int)(ak:List Cell)(ah:List cy)(au:List Thread)(t n:Int)(tn:Nat)(hr:An (aO.mk (Layout.mk aa aq) (aF.mk ak ah) au))(hv:jU (Prog.mk ax ae ay) (aO.mk (Layout.mk aa aq) (aF.mk ak ah) au)=true)(n4:tn<4)(hn:1<=n/\n<=64): ∃v h k,cL X 153 [KKQ ax ae ay,KKY aa aq ak ah au,(tn:Int),.int .i64 n] pP 0=some (v,h,k)/\B1 (dN (Prog.mk ax ae ay) (aO.mk (Layout.mk aa aq) (aF.mk ak ah) au) tn n).1 (dN (Prog.mk ax ae ay) (aO.mk (Layout.mk aa aq) (aF.mk ak ah) au) tn n).2 0 v h k:=by
 obtain⟨H0,hH0⟩: ∃H:bh,aR (aR (aR pP 0 (some ⟨3,[KKQ ax ae ay],true⟩)) 1 (some ⟨5,[KKY aa aq ak ah au],true⟩)) 2 (some ⟨5,[KKD (.sl true []) 0 (.sl true []) (.sl true []) (.sl true [])],true⟩)=H:=⟨_,rfl⟩;have z0:H0 0=some ⟨3,[KKQ ax ae ay],true⟩:=by rw[<-hH0];simp[aR]
 have z1:H0 1=some ⟨5,[KKY aa aq ak ah au],true⟩:=by rw[<-hH0];simp[aR]
 have z2:H0 2=some ⟨5,[KKD (.sl true []) 0 (.sl true []) (.sl true []) (.sl true [])],true⟩:=by rw[<-hH0];simp[aR]
 obtain⟨n1,n64⟩:=hn;have h0:(0:Int)<=tn:=by omega
 have h4:(tn:Int)<4:=by omega
 have MG:=yN hr hv;have hl:au.length=4:=MG.len;have nl:tn<au.length:=by omega
 have hx:cg (aO.mk (Layout.mk aa aq) (aF.mk ak ah) au) tn=au[tn]:=iS nl;obtain⟨h1,k1,cB,b,C,L,T,ids,bu,e,HB⟩:=amb ax ae ay aa aq ak ah au 0 H0 14 tn hr hv n4;unfold mr at e;simp only at e;have f2:=HB.fr 2 (by omega);rw[z2]at f2;have hcb:=HB.core.box;have hT:=HB.NN.pg;unfold kA at hcb;simp only at hcb hT;have gg:=fW (ids:=bu) nl;have Ck:=fA bu au;rw[hl]at Ck;have XQ: ¬n<1:=by omega
 have RN: ¬64<n:=by omega
 obtain⟨HA1,hA2,hA3⟩:=HB.N2;have bx0:=HB.NN.xJ;unfold jD at bx0;simp only[hl]at bx0;have fin: ∀(H:bh) (K k':Nat) (x:Option Ob) (iI:Nat->Nat) (r:aO) (s:Int),r.layout=⟨aa,aq⟩->dU H K b (.sl false (aa.map (V.int .i64))) C L T iI bu r->oT 14 (.sl false (aa.map (V.int .i64))) C L T iI bu->
   B1 r s 0 (.dM [.agg [aa,.int .u16 aq,.cu C 0 512,.cu L 0 4,.cu T 0 4],.int .i64 s,.int .i64 0]) (aR H 2 x) k':=fun H K k' x iI r s qn G GA=>by
  refine⟨_,C,L,T,iI,bu,_,?_,G.at.mono GA (aaI _) fun i hi _=>by rw[aR,if_neg (by omega)]⟩;unfold jD;rw[G.len,qn]
 by_cases hs:(au[tn]).state=1
 case neg=>
  have e0:dN (Prog.mk ax ae ay) (aO.mk (Layout.mk aa aq) (aF.mk ak ah) au) tn n=((aO.mk (Layout.mk aa aq) (aF.mk ak ah) au),3):=by unfold dN;rw[show(aO.threads (aO.mk (Layout.mk aa aq) (aF.mk ak ah) au)).getD tn cw=au[tn] from hx];exact if_neg hs
  rw[e0];refine aaB ?_;simp[hH0,z0,z1,e,f2,XQ,RN,hcb,hT,gg,Ck,n4,hs,bx0];exact fin h1 k1 _ _ ids _ _ rfl HB.NN HA1
 have oM:=eq_true hs;obtain⟨upto,ln⟩: ∃u,(au[tn]).count+n=u:=⟨_,rfl⟩;have hcx:=(MG.pg tn nl).count;simp only at hcx;have hwu:IntKind.i64.wrap ((au[tn]).count+n)=upto:=by rw[ln];exact wrap_i64 (by omega)
 have e0:dN (Prog.mk ax ae ay) (aO.mk (Layout.mk aa aq) (aF.mk ak ah) au) tn n=jZ (Prog.mk ax ae ay) tn upto 20000 (aO.mk (Layout.mk aa aq) (aF.mk ak ah) au):=by
  unfold dN;rw[show(aO.threads (aO.mk (Layout.mk aa aq) (aF.mk ak ah) au)).getD tn cw=au[tn] from hx,if_pos hs,ln]
 rw[e0];obtain⟨tg,htg⟩: ∃r,jZ (Prog.mk ax ae ay) tn upto 20000 (aO.mk (Layout.mk aa aq) (aF.mk ak ah) au)=r:=⟨_,rfl⟩;rw[htg];refine aaB ?_;simp[hH0,z0,z1,e,XQ,RN,hcb,hT,gg,Ck,n4,oM,hwu];refine lS (fun i S=>SlI (Prog.mk ax ae ay) ⟨aa,aq⟩ cB b C L T bu tn upto tg i S) 19456 ?_ 0 (by simp) ?_
 ·rintro i S hi ⟨mi,iI,⟨f8,f11,f13⟩,hh2,qn,HI,GA,HC,hK,XR,Yh⟩;have hl4:=HI.len;have nl2:tn<mi.threads.length:=by omega
  have gT:=HI.pg;have gg:=fW (ids:=bu) nl2;have Ck:=fA bu mi.threads;rw[hl4]at Ck;have gx:cg mi tn=mi.threads[tn]:=iS nl2;have gc:=HC.box;unfold kA at gc;simp only at gc;rcases Yh with⟨hc,hle,heq⟩|⟨Wx,heq⟩
  case inr=>
   rw[gx]at Wx;have bx:=HI.xJ;unfold jD at bx;rw[hl4,qn]at bx;simp only at bx;rw[heq];have gY: ¬upto<upto:=by omega
   simp[f8,f11,f13,hh2,gc,gT,gg,Ck,n4,Wx,bx];exact fin _ _ _ _ _ _ _ qn HI GA
  have a0c:1<=yQ upto (cg mi tn):=by
   have:=(XR.cg n4).pc;unfold yQ;omega
  have En:i<19456:=by omega
  have OV:20000-i=(20000-(i+1))+1:=by omega
  obtain⟨h',k',Wv,eo,G,g1,g2,g3⟩:=aun .bad (Prog.mk ax ae ay) S.h (S.n+12) cB b _ C L T iI bu mi tn _ (HI.mono (by omega) fun _ _=>rfl) XR (HC.mono (by omega) fun _ _=>rfl) (by omega) n4 (by rw[qn]);have GA2:oT 14 (.sl false (aa.map (V.int .i64))) C L T Wv bu:=by
   obtain⟨q1,q2,q3⟩:=GA;refine⟨q1,fun j hj=>⟨?_,(q2 j hj).2⟩,q3⟩;rcases g2 j hj with e|e
   ·rw[e];exact(q2 j hj).1
   ·omega
  obtain⟨e1,e2,e3,e4⟩:=HC.ne;have pW:=HC.lt;have fc:=g3 cB (by omega) e2 e3 (fun j hj=>(HC.ni j hj).1) e4 (HC.ni tn n4).2;obtain⟨⟨y1,y2,y3⟩,y4,y5⟩:=GA;have f22:=g3 2 (by omega) (by omega) (by omega) (fun j hj=>by have:=y4 j hj;omega) (by omega) (by have:=y4 tn n4;omega);rw[hh2]at f22;have HC2:xq h' k' cB b C L T Wv bu (Prog.mk ax ae ay) tn:=⟨by rw[fc];exact HC.box,by omega,⟨e1,e2,e3,e4⟩,fun j hj=>⟨by
   rcases g2 j hj with e|e
   ·rw[e];exact(HC.ni j hj).1
   ·omega,(HC.ni j hj).2⟩⟩
  rw[gc]at fc;have bx:=G.xJ;have gl:=G.len;unfold jD at bx;rw[gl,uX,qn]at bx;simp only at bx;have Ww:(lu (Prog.mk ax ae ay) mi tn).1.layout=⟨aa,aq⟩:=by rw[uX];exact qn
  have Bx:=hc;rw[gx]at Bx;by_cases ho:(lu (Prog.mk ax ae ay) mi tn).2= -1
  case neg=>
   rw[<-heq,OV,xi ho];simp[f8,f11,f13,gc,gT,gg,Ck,n4,Bx,eo,fc,f22,bx,ho,aaE];exact fin _ _ _ _ _ _ _ Ww G GA2
  have zp:=eq_true ho;have hlf:=zJ XR n4 ho upto;have bf3:=(yO XR (XR.cg n4)).akh (by rw[w7]at ho;exact ho);have Ol:=yP XR n4;simp[f11,f13,gc,gT,gg,Ck,n4,Bx,eo,zp,En,aaE];refine⟨(lu (Prog.mk ax ae ay) mi tn).1,Wv,⟨by simp[aR,f8],by simp[aR,f11],by simp[aR,f13]⟩,f22,Ww,G.mono (by first|omega|(simp only;omega)) (fun _ _=>rfl),GA2,HC2.mono (by first|omega|(simp only;omega)) (fun _ _=>rfl),by first|omega|(simp only;omega),EC XR n4 (by omega),?_⟩;by_cases Wx:(cg (lu (Prog.mk ax ae ay) mi tn).1 tn).count=upto
  ·exact .inr ⟨Wx,by rw[<-heq,OV,yU ho Wx]⟩
  ·refine .inl ⟨by rw[Ol]at Wx⊢;omega,by omega,?_⟩;rw[<-heq,OV,xj ho Wx]
 ·simp;refine⟨(aO.mk (Layout.mk aa aq) (aF.mk ak ah) au),ids,⟨by simp[aR],by simp[aR],by simp[aR]⟩,f2,rfl,HB.NN.mono (by first|omega|(simp only;omega)) (fun _ _=>rfl),HA1,HB.core.mono (by first|omega|(simp only;omega)) (fun _ _=>rfl),by have:=HB.le;first|omega|(simp only;omega),MG.mono (by omega),.inl ⟨by rw[hx];omega,?_,htg⟩⟩;have:=(MG.pg tn nl).pc;simp only at this;rw[hx];unfold yQ;omega
@[simp]def afa(ax:List Instr)(ae:List Int)(ay:List (List Int))(aa:List Int)(aq:Int)(ak:List Cell)(ah:List cy)(au:List Thread)(t n:Int)(hr:An (aO.mk (Layout.mk aa aq) (aF.mk ak ah) au))(hv:jU (Prog.mk ax ae ay) (aO.mk (Layout.mk aa aq) (aF.mk ak ah) au)=true)(ht:0<=t/\t<4)(hn:1<=n/\n<=64):nr X [(0,4,112)] 153 [KKQ ax ae ay,KKY aa aq ak ah au,.int .i64 t,.int .i64 n]=some (.dM [KKK ((dN (Prog.mk ax ae ay) (aO.mk (Layout.mk aa aq) (aF.mk ak ah) au) t.toNat n).1),.int .i64 ((dN (Prog.mk ax ae ay) (aO.mk (Layout.mk aa aq) (aF.mk ak ah) au) t.toNat n).2),.int .i64 0]):=by
 obtain⟨k,rfl⟩:=aaG ht.1;exact B1.nr (ae9 ax ae ay aa aq ak ah au k n k hr hv (by omega) hn)
end Go.Proofs.YtdngefmliibcgaaGreat
