/- part -/
import Derived.Test.YtdngefmliibcgaaGreatV10
set_option linter.all false
set_option maxRecDepth 20000
set_option maxHeartbeats 20000000
namespace Go.Proofs.YtdngefmliibcgaaGreat
open Go Go.Abs Go.Abs.kI Qf
variable  {r:Option (V×bh×Nat)}{p:Prog}{h h1 h':bh}{k b C L T t k1 j n k' cB:Nat}{vB:V}{ids bw iv:Nat->Nat}{m:aO}{x x':Thread}{i:Instr}{f:Thread->Thread}{ts:List Thread}{g:FuncId}{args E R E0:List V}{s:Int}
def kF(p:Prog)(b T t:Nat):V:= .agg [.sl false (p.code.map Instr.e),.sl false (p.an.map (V.int .i64)),.sl false (p.data.map aV),.ptr b 0 0,.ptr T t 0]
structure xA (h:bh) (k cB b C L T:Nat) (ids bw:Nat->Nat) (p:Prog) (t:Nat):Prop where
 box:h cB=some ⟨5,[kF p b T t],true⟩
 lt:cB<k
 ne:cB≠b/\cB≠C/\cB≠L/\cB≠T
 ni: ∀j,j<4->cB≠ids j/\cB≠bw j
def lA(r:Option (V×bh×Nat))(p:Prog)(h:bh)(k b:Nat)(vB:V)(C L T:Nat)(ids bw:Nat->Nat)(m:aO)(t:Nat)(x:Thread)(i:Instr)(f:Thread->Thread):Prop:=
 ((iU p m x i).2.2= -1/\ ∃h' k' iJ,r=some (.int .i64 0,h',k')/\dV h' k' b vB C L T iJ bw (iZ m (iU p m x i).1 t (f (iU p m x i).2.1))/\k<=k'/\(∀j,j<4->iJ j=ids j\/k<=iJ j)/\
  ∀i,i<k->i≠C->i≠L->(∀j,j<4->i≠ids j)->i≠T->i≠bw t->h' i=h i)\/
 ∃w h' k',iU p m x i=(m.memory,iV x w,2)/\w≠0/\r=some (.int .i64 w,h',k')/\k<=k'/\ ∀i,i<k->h' i=h i
def aq1(h:bh)(k:Nat)(w:Int)(v:V)(h':bh)(k':Nat):Prop:=v= .int .i64 w/\k<=k'/\ ∀i,i<k->h' i=h i
def sN(h:bh)(k:Nat)(w:Int)(v:V)(h':bh)(k':Nat):aq1 h k w v h' k'=(v= .int .i64 w/\k<=k'/\Below k h h'):=rfl
def lA.go            (H:dV h k b vB C L T ids bw m) (ht:t<4) (x':Thread) (hs:iU p m x i=(m.memory,x', -1))
  (he: ∃v h' n',r=some (v,h',n')/\WU h k T bw t m.threads (f x') 0 v h' n'):lA r p h k b vB C L T ids bw m t x i f:=by
 obtain⟨v,h',n',e,rfl,g2,g3,g4,g5⟩:=he;have nd:t<m.threads.length:=by rw[H.len];exact ht
 rw[iK nd]at g2;refine .inl ⟨by rw[hs],h',n',ids,e,?_,g4,fun _ _=> .inl rfl,fun i hi _ _ _ WV hit=>g5 i hi WV hit⟩;rw[hs];exact H.put g4 ht g2 g3 g5
def lA.aq2            (H:dV h k b vB C L T ids bw m) (ht:t<4) {WW:aF} (H1:dV h1 k1 b vB C L T iv bw ⟨m.layout,WW,m.threads⟩) (hk:k<=k1) (fa: ∀j,j<4->iv j=ids j\/k<=iv j)
  (nU: ∀i,i<k->i≠C->i≠L->(∀j,j<4->i≠ids j)->h1 i=h i) (x':Thread) (hs:iU p m x i=(WW,x', -1))
  (he: ∃v h' n',r=some (v,h',n')/\WU h1 k1 T bw t m.threads (f x') 0 v h' n'):lA r p h k b vB C L T ids bw m t x i f:=by
 obtain⟨v,h',n',e,rfl,g2,g3,g4,g5⟩:=he;have nd:t<m.threads.length:=by rw[H.len];exact ht
 rw[iK nd]at g2;refine .inl ⟨by rw[hs],h',n',iv,e,?_,by omega,fa,fun i hi hiC hiL mj WV hit=>by rw[g5 i (by omega) WV hit,nU i hi hiC hiL mj]⟩;rw[hs];exact H1.put g4 ht g2 g3 g5
def lA.dr            (w:Int) (hw:w≠0) (hs:iU p m x i=(m.memory,iV x w,2))
  (he: ∃v h' n',r=some (v,h',n')/\aq1 h k w v h' n'):lA r p h k b vB C L T ids bw m t x i f:=by
 obtain⟨v,h',n',e,rfl,g4,g5⟩:=he;exact .inr ⟨w,h',n',hs,hw,e,g4,g5⟩
def sO(pc:Int)(x:Thread):Thread:=⟨x.state,x.bp,pc,x.count,x.cp,x.saved,x.dr,x.code⟩
def ox(ids:Nat->Nat)(i:Nat)(x:Thread)(q pc:Int)(bp:List Cell):dM ids i (sO q (vS x pc bp))= (KKd x.state (.cx (ids i) 0 bp.length) q x.count x.cp x.saved x.dr x.code:V):=rfl
def sk(x:Thread)(q pc:Int)(bp:List Cell):(sO q (vS x pc bp)).bp=bp:=rfl
@[simp]def af8(c:V)(jo Es Et Eu qJ:Int)(p:Prog)(h:bh)(k cB b:Nat)(vB:V)(C L T:Nat)(ids bw:Nat->Nat)(mm:aO)(tn:Nat)(d:Int)(x:Thread)(op:Int)(a b' c:Nat)(eu:Int)(H:dV h k b vB C L T ids bw mm)(HG:cT p d mm)(HC:xA h k cB b C L T ids bw p tn)(hd:d<=1099511628776)(ht:tn<4)(Ma:vB= .sl false (mm.layout.aD.map (V.int .i64)))(wO:bV mm tn=x)(hI:GP p.code.length p.an.length ⟨op,a,b',c,eu⟩)(jK:op=18\/op=19\/op=20\/op=21\/op=22\/op=24):lA (cL X 264 [.ptr cB 0 0,KKU op (a:Int) (b':Int) (c:Int) eu] h k) p h k b vB C L T ids bw mm tn x ⟨op,a,b',c,eu⟩ id:=by
 have hl:=H.len;have nd:tn<mm.threads.length:=by omega
 have rz:(tn:Int)<4:=by omega
 have rI:=HG.pe tn nd;have hR:=H.G0 tn nd;have hg:=fY (ids:=bw) nd;have hT:=H.pe;have jX:=fA bw mm.threads;rw[hl]at jX;have hb:=H.xQ;unfold jE at hb;rw[hl,Ma]at hb;have hc:=HC.box;have pH:mm.threads[tn]=x:=by rw[<-wO];exact(iq nd).symm
 rw[pH]at rI hR;simp only[pH]at hg;obtain⟨s1,s3,s4,s5,s6⟩:=H.qR tn ht;have Ia: ¬T=bw tn:=fun e=>s5 e.symm;have s1': ¬b=bw tn:=fun e=>s1 e.symm;obtain⟨u1,u2,u3,u4⟩:=H.xr;have u1': ¬b=T:=fun e=>u1 e.symm;have kK:=HC.lt;obtain⟨e1,e2,e3,e4⟩:=HC.ne;have e5:=(HC.ni tn ht).2;have e6: ¬T=cB:=fun e=>e4 e.symm;have gZ:=H.mem.lt.1;have q1: ∀j,¬b=k+j/\ ¬T=k+j/\ ¬bw tn=k+j/\ ¬k+j=b/\ ¬k+j=T/\ ¬k+j=bw tn/\ ¬cB=k+j/\ ¬k+j=cB:=fun j=>by omega
 have pG: ¬b=k/\ ¬T=k/\ ¬bw tn=k/\ ¬cB=k/\ ¬k=b/\ ¬k=T/\ ¬k=bw tn/\ ¬k=cB:=by omega
 have Cn:=rI.pc;obtain⟨n,hn⟩: ∃n:Nat,x.pc=n:=⟨x.pc.toNat,by omega⟩;have h8:=rI.bp;have Yi:p.code.length<=64:=HG.prog.rp;have Lt:=rI.count;have Kc:IntKind.i64.wrap (x.count+1)=x.count+1:=wrap_i64 (by omega);have qK:=mZ n (by omega);have nK:cG bw mm.threads=(cG bw mm.threads).set tn ((KKd x.state (.cx (bw tn) 0 8) (n:Int) x.count x.cp x.saved x.dr x.code:V)):=by
  have avo:tn<(cG bw mm.threads).length:=by omega
  have:=hg avo;rw[h8,hn]at this;rw[<-this,abS]
 obtain⟨o1,ia,ib,ic,im,ij,il,is⟩:=hI;simp only at o1 ia ib ic im ij il is;have a8:(a:Int)<8/\(b':Int)<8/\(c:Int)<8/\a<8/\b'<8/\c<8:=by omega
 have al:a<x.bp.length:=by omega
 have bl:b'<x.bp.length:=by omega
 have cl:c<x.bp.length:=by omega
 have gS:IntKind.u16.wrap eu=eu:=wrap_u16 im;have hL:=HG.lay;have hlen:=hL.len;obtain⟨xa,tL⟩: ∃v,x.bp[a]=v:=⟨_,rfl⟩;obtain⟨xb,xT⟩: ∃v,x.bp[b']=v:=⟨_,rfl⟩;obtain⟨xc,xce⟩: ∃v,x.bp[c]=v:=⟨_,rfl⟩;have ra:ky x a=xa:=by rw[mE al,tL]
 have rb:ky x b'=xb:=by rw[mE bl,xT]
 have rc:ky x c=xc:=by rw[mE cl,xce]
 have ca:iz xa:=by rw[<-ra];exact ke rI _
 have cb:iz xb:=by rw[<-rb];exact ke rI _
 have cc:iz xc:=by rw[<-rc];exact ke rI _
 have gZ:=H.mem.lt;obtain⟨pc,ps,pd⟩:=p;simp only at ij il is hc Yi hL hlen;rcases jK with rfl|rfl|rfl|rfl|rfl|rfl
 ·refine lA.go H ht (mP x eu x.bp x.saved) (by simp[iU,mP]) (aaB ?_);simp[aaE,fP,kF,hc,hT,hR,hg,jX,ht,hn,jt,hZ,h8,a8,qK,Kc,s5,pG,e4];all_goals ((repeat' apply And.intro)<;>first|omega|rfl|exact nK)
 ·by_cases t0:xa.tag=0
  ·by_cases v0:xa.val=0
   ·refine lA.go H ht (mP x eu x.bp x.saved) (by simp[iU,ra,t0,v0]) (aaB ?_);simp[aaE,fP,kF,hc,hT,hR,hg,jX,ht,hn,jt,hZ,h8,a8,tL,qK,Kc,s5,pG,e4,t0,v0];all_goals ((repeat' apply And.intro)<;>first|omega|rfl|exact nK)
   ·refine lA.go H ht (mP x (n+1) x.bp x.saved) (by simp[iU,hn,ra,t0,v0]) (aaB ?_);simp[aaE,fP,kF,hc,hT,hR,hg,jX,ht,hn,jt,hZ,h8,a8,tL,qK,Kc,s5,pG,e4,t0,v0];all_goals ((repeat' apply And.intro)<;>first|omega|rfl|exact nK)
  ·refine lA.dr (3) (by decide) (by simp[iU,ra,t0]) (aaB ?_);simp[aaE,sN,kF,hc,hT,hR,hg,jX,ht,hn,h8,a8,tL,qK,pG,t0];all_goals ((repeat' apply And.intro)<;>first|omega|rfl|exact nK)
 ·by_cases t0:xa.tag=0
  ·by_cases v0:xa.val=0
   ·refine lA.go H ht (mP x (n+1) x.bp x.saved) (by simp[iU,hn,ra,t0,v0]) (aaB ?_);simp[aaE,fP,kF,hc,hT,hR,hg,jX,ht,hn,jt,hZ,h8,a8,tL,qK,Kc,s5,pG,e4,t0,v0];all_goals ((repeat' apply And.intro)<;>first|omega|rfl|exact nK)
   ·refine lA.go H ht (mP x eu x.bp x.saved) (by simp[iU,ra,t0,v0]) (aaB ?_);simp[aaE,fP,kF,hc,hT,hR,hg,jX,ht,hn,jt,hZ,h8,a8,tL,qK,Kc,s5,pG,e4,t0,v0];all_goals ((repeat' apply And.intro)<;>first|omega|rfl|exact nK)
  ·refine lA.dr (3) (by decide) (by simp[iU,ra,t0]) (aaB ?_);simp[aaE,sN,kF,hc,hT,hR,hg,jX,ht,hn,h8,a8,tL,qK,pG,t0];all_goals ((repeat' apply And.intro)<;>first|omega|rfl|exact nK)
 ·have WY:IntKind.u16.wrap ((n:Int)+1)=(n:Int)+1:=wrap_u16 (by omega);refine lA.go H ht (mP x eu (x.bp.set a ⟨0,n+1⟩) x.saved) (by simp[iU,hn,oD]) (aaB ?_);simp[aaE,fP,kF,hc,hT,hR,hg,jX,ht,hn,jt,hZ,h8,a8,tL,qK,Kc,s5,Ia,pG,e4,e5,Cell.bS,WY];all_goals ((repeat' apply And.intro)<;>first|omega|rfl|exact nK)
 ·by_cases t0:xa.tag=0
  ·by_cases v0:255<xa.val
   ·refine lA.dr (2) (by decide) (by simp[iU,ra,t0,v0]) (aaB ?_);simp[aaE,sN,kF,hc,hT,hR,hg,jX,ht,hn,h8,a8,tL,qK,pG,t0,v0];all_goals ((repeat' apply And.intro)<;>first|omega|rfl|exact nK)
   ·have hwv:IntKind.i64.wrap xa.val=xa.val:=wrap_i64 (by have:=ca.2;omega);refine lA.go H ht (mP x xa.val x.bp x.saved) (by simp[iU,ra,t0,v0]) (aaB ?_);simp[aaE,fP,kF,hc,hT,hR,hg,jX,ht,hn,jt,hZ,h8,a8,tL,qK,Kc,s5,pG,e4,t0,v0,hwv];all_goals ((repeat' apply And.intro)<;>first|omega|rfl|exact nK)
  ·refine lA.dr (3) (by decide) (by simp[iU,ra,t0]) (aaB ?_);simp[aaE,sN,kF,hc,hT,hR,hg,jX,ht,hn,h8,a8,tL,qK,pG,t0];all_goals ((repeat' apply And.intro)<;>first|omega|rfl|exact nK)
 ·by_cases hsv:x.saved= -1
  ·refine lA.dr (1) (by decide) (by simp[iU,hsv]) (aaB ?_);simp[aaE,sN,kF,hc,hT,hR,hg,jX,ht,hn,h8,a8,qK,pG,hsv];all_goals ((repeat' apply And.intro)<;>first|omega|rfl|exact nK)
  ·refine lA.go H ht (mP x x.saved x.bp (-1)) (by simp[iU,hsv]) (aaB ?_);simp[aaE,fP,kF,hc,hT,hR,hg,jX,ht,hn,jt,hZ,h8,a8,qK,Kc,s5,pG,e4,hsv];all_goals ((repeat' apply And.intro)<;>first|omega|rfl|exact nK)
def XD(hB:Below k h h1)(hs:bw t≠T)(hT:cH g args h1 (k+j) T=some ⟨8,E,true⟩)(hE:E=(cG bw ts).set t (dM bw t x'))(hR:R=x'.bp.map Cell.e):
  DZ h k T bw t ts g args x' s (.int .i64 s) (aR (cH g args h1 (k+j)) (bw t) (some ⟨2,R,false⟩)) (cK g args h1 (k+j)+n):=
 ⟨h1,j,hB,rfl,by rw[aR,if_neg (fun e=>hs e.symm),hT,hE],by rw[hR];simp[aR],by omega,fun i _ h1 h2=>by simp[aR,h2]⟩
def XE(hB:Below k h h1)(hT:cH g args h1 (k+j) T=some ⟨8,E,true⟩)(hE:E=(cG bw ts).set t (dM bw t x'))(hR:cH g args h1 (k+j) (bw t)=some ⟨2,x'.bp.map Cell.e,false⟩):
  DZ h k T bw t ts g args x' s (.int .i64 s) (cH g args h1 (k+j)) (cK g args h1 (k+j)+n):=
 ⟨h1,j,hB,rfl,by rw[hT,hE],hR,by omega,fun i _ _ _=>rfl⟩
@[simp]def am6(c:V)(jo Es Et Eu qJ:Int)(p:Prog)(h:bh)(k cB b:Nat)(vB:V)(C L T:Nat)(ids bw:Nat->Nat)(mm:aO)(tn:Nat)(d:Int)(x:Thread)(op:Int)(a b' c:Nat)(eu:Int)(H:dV h k b vB C L T ids bw mm)(HG:cT p d mm)(HC:xA h k cB b C L T ids bw p tn)(hd:d<=1099511628776)(ht:tn<4)(Ma:vB= .sl false (mm.layout.aD.map (V.int .i64)))(wO:bV mm tn=x)(hI:GP p.code.length p.an.length ⟨op,a,b',c,eu⟩)(jK:0<=op/\op<=17):lA (cL X 265 [.ptr cB 0 0,KKU op (a:Int) (b':Int) (c:Int) eu] h k) p h k b vB C L T ids bw mm tn x ⟨op,a,b',c,eu⟩ (sO x.pc):=by
 have hl:=H.len;have nd:tn<mm.threads.length:=by omega
 have rz:(tn:Int)<4:=by omega
 have rI:=HG.pe tn nd;have hR:=H.G0 tn nd;have hg:=fY (ids:=bw) nd;have hT:=H.pe;have jX:=fA bw mm.threads;rw[hl]at jX;have hb:=H.xQ;unfold jE at hb;rw[hl,Ma]at hb;have hc:=HC.box;have pH:mm.threads[tn]=x:=by rw[<-wO];exact(iq nd).symm
 rw[pH]at rI hR;simp only[pH]at hg;obtain⟨s1,s3,s4,s5,s6⟩:=H.qR tn ht;have Ia: ¬T=bw tn:=fun e=>s5 e.symm;have s1': ¬b=bw tn:=fun e=>s1 e.symm;obtain⟨u1,u2,u3,u4⟩:=H.xr;have u1': ¬b=T:=fun e=>u1 e.symm;have kK:=HC.lt;obtain⟨e1,e2,e3,e4⟩:=HC.ne;have e5:=(HC.ni tn ht).2;have e6: ¬T=cB:=fun e=>e4 e.symm;have gZ:=H.mem.lt.1;have q1: ∀j,¬b=k+j/\ ¬T=k+j/\ ¬bw tn=k+j/\ ¬k+j=b/\ ¬k+j=T/\ ¬k+j=bw tn/\ ¬cB=k+j/\ ¬k+j=cB:=fun j=>by omega
 have pG: ¬b=k/\ ¬T=k/\ ¬bw tn=k/\ ¬cB=k/\ ¬k=b/\ ¬k=T/\ ¬k=bw tn/\ ¬k=cB:=by omega
 have Cn:=rI.pc;obtain⟨n,hn⟩: ∃n:Nat,x.pc=n:=⟨x.pc.toNat,by omega⟩;have h8:=rI.bp;have Yi:p.code.length<=64:=HG.prog.rp;have Lt:=rI.count;have Kc:IntKind.i64.wrap (x.count+1)=x.count+1:=wrap_i64 (by omega);have nK:cG bw mm.threads=(cG bw mm.threads).set tn ((KKd x.state (.cx (bw tn) 0 8) (n:Int) x.count x.cp x.saved x.dr x.code:V)):=by
  have avo:tn<(cG bw mm.threads).length:=by omega
  have:=hg avo;rw[h8,hn]at this;rw[<-this,abS]
 obtain⟨o1,ia,ib,ic,im,ij,il,is⟩:=hI;simp only at o1 ia ib ic im ij il is;have a8:(a:Int)<8/\(b':Int)<8/\(c:Int)<8/\a<8/\b'<8/\c<8:=by omega
 have al:a<x.bp.length:=by omega
 have bl:b'<x.bp.length:=by omega
 have cl:c<x.bp.length:=by omega
 have gS:IntKind.u16.wrap eu=eu:=wrap_u16 im;have hL:=HG.lay;have hlen:=hL.len;obtain⟨xa,tL⟩: ∃v,x.bp[a]=v:=⟨_,rfl⟩;obtain⟨xb,xT⟩: ∃v,x.bp[b']=v:=⟨_,rfl⟩;obtain⟨xc,xce⟩: ∃v,x.bp[c]=v:=⟨_,rfl⟩;have ra:ky x a=xa:=by rw[mE al,tL]
 have rb:ky x b'=xb:=by rw[mE bl,xT]
 have rc:ky x c=xc:=by rw[mE cl,xce]
 have ca:iz xa:=by rw[<-ra];exact ke rI _
 have cb:iz xb:=by rw[<-rb];exact ke rI _
 have cc:iz xc:=by rw[<-rc];exact ke rI _
 have gZ:=H.mem.lt;obtain⟨pc,ps,pd⟩:=p;simp only at ij il is hc Yi hL hlen;have oc:op=0\/op=1\/op=2\/(3<=op/\op<=14)\/op=15\/op=16\/op=17:=by omega
 rcases oc with rfl|rfl|rfl|ho|rfl|rfl|rfl
 ·refine lA.go H ht (vS x (n+1) x.bp) (by simp[iU,hn,vS]) (aaB ?_);simp[aaE,fP,kF,hb,hc,hT,hR,hg,jX,ht,hn,ox,sk,h8,q1,pG];all_goals ((repeat' apply And.intro)<;>first|omega|rfl|exact nK)
 ·refine lA.go H ht (vS x (n+1) (x.bp.set a ⟨0,eu⟩)) (by simp[iU,hn,oD,vS]) (aaB ?_);simp[aaE,fP,kF,hb,hc,hT,hR,hg,jX,ht,hn,ox,sk,h8,a8,tL,gS,Ia,q1,pG,Cell.bS];all_goals ((repeat' apply And.intro)<;>first|omega|rfl|exact nK)
 ·refine lA.go H ht (vS x (n+1) (x.bp.set a xb)) (by simp[iU,hn,oD,rb,vS]) (aaB ?_);simp[aaE,fP,kF,hb,hc,hT,hR,hg,jX,ht,hn,ox,sk,h8,a8,tL,xT,Ia,q1,pG];all_goals ((repeat' apply And.intro)<;>first|omega|rfl|exact nK)
 ·obtain⟨⟨dt,dv⟩,w,hdo⟩: ∃r w,qU mm.layout.aD ps op xb xc=(r,w):=⟨_,_,rfl⟩;obtain⟨xbt,xbv⟩:=xb;obtain⟨xct,xcv⟩:=xc;have cb2:=cb.2;have cc2:=cc.2;simp only at cb2 cc2;have m0: ¬op=0/\ ¬op=1/\ ¬op=2/\ ¬op=15/\ ¬op=16/\ ¬op=17/\ ¬op=18/\ ¬op=19/\ ¬op=20/\ ¬op=21/\ ¬op=22/\ ¬op=23/\ ¬op=24:=by omega
  by_cases uH:w=0
  ·refine lA.go H ht (vS x (n+1) (x.bp.set a ⟨dt,dv⟩)) (by simp[iU,hn,oD,rb,rc,hdo,uH,m0]) (aaB ?_);simp[aaE,fP,kF,hb,hc,hT,hR,hg,jX,ht,hn,ox,sk,h8,a8,tL,xT,xce,Ia,q1,pG,m0,hL,cb2,cc2,hdo,uH,Cell.bS];all_goals ((repeat' apply And.intro)<;>first|omega|rfl|exact nK)
  ·refine lA.dr (w) (by exact uH) (by simp[iU,rb,rc,hdo,uH,m0]) (aaB ?_);simp[aaE,sN,kF,hb,hc,hT,hR,hg,jX,ht,hn,h8,a8,xT,xce,q1,pG,m0,hL,cb2,cc2,hdo,uH];all_goals ((repeat' apply And.intro)<;>first|omega|rfl|exact nK)
 ·obtain⟨IK,rfl⟩:=aaG im.1;have i1:=il rfl;have i2:IK<ps.length:=by omega
  have i3:IK<mm.layout.aD.length:=by rw[hlen];exact i2
  have i3i:(IK:Int)<mm.layout.aD.length:=by omega
  have bb:=hL.base IK i3 i2;have zz:=hL.sz.elem IK i2;have Ge:IntKind.u16.wrap mm.layout.aD[IK]=mm.layout.aD[IK]:=wrap_u16 (by omega);have Cz:nth mm.layout.aD IK=mm.layout.aD[IK]:=dE i3;refine lA.go H ht (vS x (n+1) (x.bp.set a ⟨1,mm.layout.aD[IK]⟩)) (by simp[iU,hn,oD,Cz]) (aaB ?_);simp[aaE,fP,kF,hb,hc,hT,hR,hg,jX,ht,hn,ox,sk,h8,a8,tL,Ia,q1,pG,Cell.bS,i3,i3i,Ge];all_goals ((repeat' apply And.intro)<;>first|omega|rfl|exact nK)
 ·obtain⟨r,w,G4⟩: ∃r w,jM mm.layout.aD ps xb eu false=(r,w):=⟨_,_,rfl⟩;have c2:=cb.2;have Sn:=sJ (aD:=mm.layout.aD) (an:=ps) hL (p:=xb) (n:=eu) (back:=false);rw[G4]at Sn;simp only at Sn;by_cases uH:w=0
  case neg=>
   obtain⟨xt,xv⟩:=xb;simp only at c2;refine lA.dr w uH (by simp[iU,rb,G4,uH]) (aaB ?_);simp[aaE,sN,kF,hb,hc,hT,hR,hg,jX,ht,hn,h8,a8,xT,gS,q1,pG,hL,im,c2,G4,uH];all_goals ((repeat' apply And.intro)<;>first|omega|rfl|exact nK)
  obtain⟨av,hr,IL⟩:=Sn uH;subst uH;subst hr;have Kd:IntKind.i64.wrap (av:Int)=av:=wrap_i64 (by omega);have HM: ∀(h1:bh) (j:Nat),Below k h h1->kD h1 (k+j) b C L ids vB (.int .u16 mm.layout.key) (.cx T 0 4) mm.memory:=fun h1 j jv=>by have:=(H.mono (k':=k+j) (by omega) jv).mem;rwa[hl]at this
  have lf: ∀(h1:bh) (j:Nat),Below k h h1->cL X 292 [.ptr b 0 2,(av:Int)] h1 (k+j)=some ((.dP [KKf (m7 mm.memory av),.bool true]),cH 292 [.ptr b 0 2,(av:Int)] h1 (k+j),cK 292 [.ptr b 0 2,(av:Int)] h1 (k+j))/\ ∃iv,dV (cH 292 [.ptr b 0 2,(av:Int)] h1 (k+j)) (cK 292 [.ptr b 0 2,(av:Int)] h1 (k+j)) b vB C L T iv bw ⟨mm.layout,dx mm.memory av,mm.threads⟩/\k+j<=cK 292 [.ptr b 0 2,(av:Int)] h1 (k+j)/\(∀j,j<4->iv j=ids j\/k<=iv j)/\ ∀i,i<k+j->i≠C->i≠L->(∀j,j<4->i≠ids j)->cH 292 [.ptr b 0 2,(av:Int)] h1 (k+j) i=h1 i:=fun h1 j jv=>by
   obtain⟨h',k',iJ,e,G,g1,g2,g3⟩:=at6 .bad 0 h1 (k+j) b C L ids vB (.int .u16 mm.layout.key) (.cx T 0 4) mm.memory av (HM h1 j jv) IL;have e:cL X 292 [.ptr b 0 2,(av:Int)] h1 (k+j)=some ((.dP [KKf (m7 mm.memory av),.bool true]),h',k'):=e;obtain⟨e1,e2⟩:=xS e;rw[e1,e2];have HH:dV h1 (k+j) b vB C L T ids bw mm:=H.mono (by omega) jv;exact⟨e,iJ,HH.memory g1 (by rw[hl];exact G) g2 g3,g1,fun j hj=>by rcases g2 j hj with e|e;exact .inl e;exact .inr (by omega),g3⟩
  have cl:=fun h1 j jv=>(lf h1 j jv).1;have lT: ∀(h1:bh) (j:Nat),Below k h h1->cH 292 [.ptr b 0 2,(av:Int)] h1 (k+j) T=some ⟨8,cG bw mm.threads,true⟩:=fun h1 j jv=>by obtain⟨_,_,G,_⟩:=lf h1 j jv;exact G.pe
  have lR: ∀(h1:bh) (j:Nat),Below k h h1->cH 292 [.ptr b 0 2,(av:Int)] h1 (k+j) (bw tn)=some ⟨2,x.bp.map Cell.e,false⟩:=fun h1 j jv=>by obtain⟨_,_,G,_⟩:=lf h1 j jv;rw[G.G0 tn nd];simp only[pH]
  have lF: ∀(h1:bh) (j i:Nat),Below k h h1->i<j->cH 292 [.ptr b 0 2,(av:Int)] h1 (k+j) (k+i)=h1 (k+i):=fun h1 j i jv mj=>by
   obtain⟨_,_,_,_,_,g⟩:=lf h1 j jv;exact g (k+i) (by omega) (by omega) (by omega) fun j hj=>by have:=gZ.2.2.2 j hj;omega
  have lF0: ∀(h1:bh) (j:Nat),Below k h h1->0<j->cH 292 [.ptr b 0 2,(av:Int)] h1 (k+j) k=h1 k:=fun h1 j jv mj=>lF h1 j 0 jv mj;have lT0:(cG bw mm.threads)=(cG bw mm.threads).set tn (dM bw tn (sO x.pc (vS x (n+1) (x.bp.set a (m7 mm.memory av))))):=by
   have e0:dM bw tn (sO x.pc (vS x (n+1) (x.bp.set a (m7 mm.memory av))))= (KKd x.state (.cx (bw tn) 0 8) (n:Int) x.count x.cp x.saved x.dr x.code:V):=by
    rw[ox,hn];simp only[aaN,h8]
   rw[e0];exact nK
  rw[hn]at lT0;obtain⟨v,h',n',e,h1,j,jv,hE⟩:=bC (X:=X) (g:=265) (args:=[.ptr cB 0 0,(KKU 16 (a:Int) (b':Int) (c:Int) eu:V)]) (h:=h) (k:=k) (K:=DZ h k T bw tn mm.threads 292 [.ptr b 0 2,(av:Int)] (sO x.pc (vS x (n+1) (x.bp.set a (m7 mm.memory av)))) 0) Tryz.func265 rfl rfl (by
    simp[aaE,kF,hb,hc,hT,hR,hg,jX,ht,hn,h8,a8,tL,xT,gS,q1,pG,hL,im,c2,G4,Kd,cl,lR,lF0];exact XD (by simp only[cE,cM,cP]) s5 (lT _ _ (by simp only[cE,cM,cP])) lT0 (by simp[sk,Cell.bS]))
  obtain⟨_,iv,G,g1,gi,g2⟩:=lf h1 j jv;exact lA.aq2 H ht G (by omega) gi (fun i hi hC II uj=>by rw[g2 i (by omega) hC II uj,jv i hi]) (vS x (n+1) (x.bp.set a (m7 mm.memory av))) (by simp[iU,hn,oD,rb,G4]) ⟨v,h',n',e,hE⟩
 ·obtain⟨r,w,G4⟩: ∃r w,jM mm.layout.aD ps xa eu false=(r,w):=⟨_,_,rfl⟩;have c2:=ca.2;have Sn:=sJ (aD:=mm.layout.aD) (an:=ps) hL (p:=xa) (n:=eu) (back:=false);rw[G4]at Sn;simp only at Sn;by_cases uH:w=0
  case neg=>
   obtain⟨xt,xv⟩:=xa;simp only at c2;refine lA.dr w uH (by simp[iU,ra,G4,uH]) (aaB ?_);simp[aaE,sN,kF,hb,hc,hT,hR,hg,jX,ht,hn,h8,a8,tL,xT,gS,q1,pG,hL,im,c2,G4,uH];all_goals ((repeat' apply And.intro)<;>first|omega|rfl|exact nK)
  obtain⟨av,hr,IL⟩:=Sn uH;subst uH;subst hr;have Kd:IntKind.i64.wrap (av:Int)=av:=wrap_i64 (by omega);have HM: ∀(h1:bh) (j:Nat),Below k h h1->kD h1 (k+j) b C L ids vB (.int .u16 mm.layout.key) (.cx T 0 4) mm.memory:=fun h1 j jv=>by have:=(H.mono (k':=k+j) (by omega) jv).mem;rwa[hl]at this
  have lf: ∀(h1:bh) (j:Nat),Below k h h1->cL X 237 [.ptr b 0 2,(av:Int),KKf xb] h1 (k+j)=some ((.bool true),cH 237 [.ptr b 0 2,(av:Int),KKf xb] h1 (k+j),cK 237 [.ptr b 0 2,(av:Int),KKf xb] h1 (k+j))/\ ∃iv,dV (cH 237 [.ptr b 0 2,(av:Int),KKf xb] h1 (k+j)) (cK 237 [.ptr b 0 2,(av:Int),KKf xb] h1 (k+j)) b vB C L T iv bw ⟨mm.layout,mA mm.memory av xb,mm.threads⟩/\k+j<=cK 237 [.ptr b 0 2,(av:Int),KKf xb] h1 (k+j)/\(∀j,j<4->iv j=ids j\/k<=iv j)/\ ∀i,i<k+j->i≠C->i≠L->(∀j,j<4->i≠ids j)->cH 237 [.ptr b 0 2,(av:Int),KKf xb] h1 (k+j) i=h1 i:=fun h1 j jv=>by
   obtain⟨h',k',iJ,e,G,g1,g2,g3⟩:=alb .bad 0 xb.tag xb.val h1 (k+j) b C L ids vB (.int .u16 mm.layout.key) (.cx T 0 4) mm.memory av xb (HM h1 j jv) IL cb.oA;have e:cL X 237 [.ptr b 0 2,(av:Int),KKf xb] h1 (k+j)=some ((.bool true),h',k'):=e;obtain⟨e1,e2⟩:=xS e;rw[e1,e2];have HH:dV h1 (k+j) b vB C L T ids bw mm:=H.mono (by omega) jv;exact⟨e,iJ,HH.memory g1 (by rw[hl];exact G) g2 g3,g1,fun j hj=>by rcases g2 j hj with e|e;exact .inl e;exact .inr (by omega),g3⟩
  have cl:=fun h1 j jv=>(lf h1 j jv).1;have lT: ∀(h1:bh) (j:Nat),Below k h h1->cH 237 [.ptr b 0 2,(av:Int),KKf xb] h1 (k+j) T=some ⟨8,cG bw mm.threads,true⟩:=fun h1 j jv=>by obtain⟨_,_,G,_⟩:=lf h1 j jv;exact G.pe
  have lR: ∀(h1:bh) (j:Nat),Below k h h1->cH 237 [.ptr b 0 2,(av:Int),KKf xb] h1 (k+j) (bw tn)=some ⟨2,x.bp.map Cell.e,false⟩:=fun h1 j jv=>by obtain⟨_,_,G,_⟩:=lf h1 j jv;rw[G.G0 tn nd];simp only[pH]
  have lF: ∀(h1:bh) (j i:Nat),Below k h h1->i<j->cH 237 [.ptr b 0 2,(av:Int),KKf xb] h1 (k+j) (k+i)=h1 (k+i):=fun h1 j i jv mj=>by
   obtain⟨_,_,_,_,_,g⟩:=lf h1 j jv;exact g (k+i) (by omega) (by omega) (by omega) fun j hj=>by have:=gZ.2.2.2 j hj;omega
  have lF0: ∀(h1:bh) (j:Nat),Below k h h1->0<j->cH 237 [.ptr b 0 2,(av:Int),KKf xb] h1 (k+j) k=h1 k:=fun h1 j jv mj=>lF h1 j 0 jv mj;have lT0:(cG bw mm.threads)=(cG bw mm.threads).set tn (dM bw tn (sO x.pc (vS x (n+1) x.bp))):=by
   have e0:dM bw tn (sO x.pc (vS x (n+1) x.bp))= (KKd x.state (.cx (bw tn) 0 8) (n:Int) x.count x.cp x.saved x.dr x.code:V):=by
    rw[ox,hn];simp only[h8]
   rw[e0];exact nK
  rw[hn]at lT0;obtain⟨v,h',n',e,h1,j,jv,hE⟩:=bC (X:=X) (g:=265) (args:=[.ptr cB 0 0,(KKU 17 (a:Int) (b':Int) (c:Int) eu:V)]) (h:=h) (k:=k) (K:=DZ h k T bw tn mm.threads 237 [.ptr b 0 2,(av:Int),KKf xb] (sO x.pc (vS x (n+1) x.bp)) 0) Tryz.func265 rfl rfl (by
    simp[aaE,kF,hb,hc,hT,hR,hg,jX,ht,hn,h8,a8,tL,xT,gS,q1,pG,hL,im,c2,G4,Kd,cl];exact XE (by simp only[cE,cM,cP]) (lT _ _ (by simp only[cE,cM,cP])) lT0 (lR _ _ (by simp only[cE,cM,cP])))
  obtain⟨_,iv,G,g1,gi,g2⟩:=lf h1 j jv;exact lA.aq2 H ht G (by omega) gi (fun i hi hC II uj=>by rw[g2 i (by omega) hC II uj,jv i hi]) (vS x (n+1) x.bp) (by simp[iU,hn,ra,rb,G4]) ⟨v,h',n',e,hE⟩
def BrG(h:bh)(k:Nat)(g:FuncId)(args:List V)(s:Int)(v:V)(h':bh)(k':Nat):Prop:= ∃h1 j,Below k h h1/\v= .int .i64 s/\h'=cH g args h1 (k+j)/\cK g args h1 (k+j)<=k'
def avp(hB:Below k h h1):BrG h k g args s (.int .i64 s) (cH g args h1 (k+j)) (cK g args h1 (k+j)+n):=⟨h1,j,hB,rfl,rfl,by omega⟩
def TrG(h:bh)(k T:Nat)(g:FuncId)(args:List V)(s:Int)(E0:List V)(v:V)(h':bh)(k':Nat):Prop:= ∃h1 j,Below k h h1/\v= .int .i64 s/\h'=aR (cH g args h1 (k+j)) T (some ⟨8,E0,true⟩)/\cK g args h1 (k+j)<=k'
def SW(hB:Below k h h1)(hE:E=E0):TrG h k T g args s E0 (.int .i64 s) (aR (cH g args h1 (k+j)) T (some ⟨8,E,true⟩)) (cK g args h1 (k+j)+n):=⟨h1,j,hB,rfl,by rw[hE],by omega⟩
def xA.mono(H:xA h k cB b C L T ids bw p t)(hk:k<=k')(hh: ∀i,i<k->h' i=h i):xA h' k' cB b C L T ids bw p t:=
 ⟨by rw[hh _ H.lt,H.box],by have:=H.lt;omega,H.ne,H.ni⟩
def am7(h:0<=i.op/\i.op<=17)(hg:(iU p m x i).2.2= -1):(iU p m x i).2.1.pc=x.pc+1:=by
 have n18: ¬i.op=18:=by omega
 have n19: ¬i.op=19:=by omega
 have n20: ¬i.op=20:=by omega
 have n21: ¬i.op=21:=by omega
 have n22: ¬i.op=22:=by omega
 have n23: ¬i.op=23:=by omega
 have n24: ¬i.op=24:=by omega
 revert hg;unfold iU;simp only[n18,n19,n20,n21,n22,n23,n24,if_false];repeat' split
 all_goals first|(intro _;rfl)|(intro h;cases h)
@[simp]def avq(c:V)(p:Prog)(h:bh)(k cB b:Nat)(vB:V)(C L T:Nat)(ids bw:Nat->Nat)(mm:aO)(tn:Nat)(d:Int)(H:dV h k b vB C L T ids bw mm)(HG:cT p d mm)(HC:xA h k cB b C L T ids bw p tn)(hd:d<=1099511628776)(ht:tn<4)(Ma:vB= .sl false (mm.layout.aD.map (V.int .i64))):gY (cL X 227 [.ptr cB 0 0] h k) p h k b vB C L T ids bw mm tn:=by
 have hl:=H.len;have nd:tn<mm.threads.length:=by omega
 have rz:(tn:Int)<4:=by omega
 have rI:=HG.pe tn nd;have hR:=H.G0 tn nd;have hg:=fY (ids:=bw) nd;have hT:=H.pe;have jX:=fA bw mm.threads;rw[hl]at jX;have hb:=H.xQ;unfold jE at hb;rw[hl,Ma]at hb;have hc:=HC.box;have wO:bV mm tn=mm.threads[tn]:=iq nd;obtain⟨x,pH⟩: ∃x,mm.threads[tn]=x:=⟨_,rfl⟩;rw[pH]at wO;rw[pH]at rI hR;simp only[pH]at hg;obtain⟨s1,s3,s4,s5,s6⟩:=H.qR tn ht;have Ia: ¬T=bw tn:=fun e=>s5 e.symm;have s1': ¬b=bw tn:=fun e=>s1 e.symm;obtain⟨u1,u2,u3,u4⟩:=H.xr;have u1': ¬b=T:=fun e=>u1 e.symm;have kK:=HC.lt;obtain⟨e1,e2,e3,e4⟩:=HC.ne;have e5:=(HC.ni tn ht).2;have e6: ¬T=cB:=fun e=>e4 e.symm;have gZ:=H.mem.lt.1;have q1: ∀j,¬b=k+j/\ ¬T=k+j/\ ¬bw tn=k+j/\ ¬k+j=b/\ ¬k+j=T/\ ¬k+j=bw tn/\ ¬cB=k+j/\ ¬k+j=cB:=fun j=>by omega
 have pG: ¬b=k/\ ¬T=k/\ ¬bw tn=k/\ ¬cB=k/\ ¬k=b/\ ¬k=T/\ ¬k=bw tn/\ ¬k=cB:=by omega
 have Cn:=rI.pc;obtain⟨n,hn⟩: ∃n:Nat,x.pc=n:=⟨x.pc.toNat,by omega⟩;have h8:=rI.bp;have Yi:p.code.length<=64:=HG.prog.rp;have Lt:=rI.count;have Kc:IntKind.i64.wrap (x.count+1)=x.count+1:=wrap_i64 (by omega);have qK:=mZ n (by omega);obtain⟨pc,ps,pd⟩:=p;simp only[kF]at hc;simp only at Yi;by_cases sw:n<pc.length
 case neg=>
  have rA:(pc.length:Int)<=n:=by omega
  refine gY.of H ht (iV x 2) 2 (by rw[wO];exact Kb (by simp only;omega)) (aaB ?_);simp[aaE,fP,hc,hT,hR,hg,jX,ht,hn,mX,jG,h8,s5,sw];all_goals ((repeat' apply And.intro)<;>first|omega|rfl|exact nK)
 have rA: ¬(pc.length:Int)<=n:=by omega
 have hI:=HG.prog.A3 (p:=⟨pc,ps,pd⟩) sw;obtain⟨⟨op,ai,bi,ci,eu⟩,hi⟩: ∃i,pc[n]=i:=⟨_,rfl⟩;simp only at hI;rw[hi]at hI;have Am:=hI;obtain⟨o1,ia,ib,ic,im,ij,il,is⟩:=Am;simp only at o1 ia ib ic im ij il is;obtain⟨a,rfl⟩:=aaG ia.1;obtain⟨b',rfl⟩:=aaG ib.1;obtain⟨c,rfl⟩:=aaG ic.1;have hs: ∀r,iU ⟨pc,ps,pd⟩ mm x ⟨op,a,b',c,eu⟩=r->nn ⟨pc,ps,pd⟩ mm (bV mm tn)=r:=fun r g=>by rw[wO,G3 (p:=⟨pc,ps,pd⟩) hn sw hi,g]
 have oc:op=23\/(op=18\/op=19\/op=20\/op=21\/op=22\/op=24)\/(0<=op/\op<=17):=by omega
 rcases oc with rfl|jK|jK
 ·refine gY.of H ht (uV x) 1 (hs _ (by simp[iU])) (aaB ?_);simp[aaE,fP,hc,hT,hR,hg,jX,ht,hn,G2,B4,h8,qK,s5,q1,e4,sw,hi];all_goals ((repeat' apply And.intro)<;>first|omega|rfl|exact nK)
 ·have TC: ¬op=23:=by omega
  have Fq:fU op=true:=by rcases jK with rfl|rfl|rfl|rfl|rfl|rfl<;>decide
  have CE: ∀(h1:bh) (j:Nat),Below k h h1->lA (cL X 264 [.ptr cB 0 0,KKU op (a:Int) (b':Int) (c:Int) eu] h1 (k+j)) ⟨pc,ps,pd⟩ h1 (k+j) b vB C L T ids bw mm tn x ⟨op,a,b',c,eu⟩ id:=fun h1 j jv=>
   af8 .bad op a b' c eu ⟨pc,ps,pd⟩ h1 (k+j) cB b vB C L T ids bw mm tn d x op a b' c eu (H.mono (by omega) jv) HG (HC.mono (by omega) jv) hd ht Ma wO hI (jK)
  by_cases OQ:(iU ⟨pc,ps,pd⟩ mm x ⟨op,a,b',c,eu⟩).2.2= -1
  case neg=>
   obtain⟨w,hw,uH⟩: ∃w,iU ⟨pc,ps,pd⟩ mm x ⟨op,a,b',c,eu⟩=(mm.memory,iV x w,2)/\w≠0:=by
    rcases CE h 0 (fun _ _=>rfl) with g|⟨w,_,_,g1,g2,_⟩
    ·exact absurd g.1 OQ
    ·exact⟨w,g1,g2⟩
   have lf: ∀(h1:bh) (j:Nat),Below k h h1->cL X 264 [.ptr cB 0 0,KKU op (a:Int) (b':Int) (c:Int) eu] h1 (k+j)=some (.int .i64 w,cH 264 [.ptr cB 0 0,KKU op (a:Int) (b':Int) (c:Int) eu] h1 (k+j),cK 264 [.ptr cB 0 0,KKU op (a:Int) (b':Int) (c:Int) eu] h1 (k+j))/\k+j<=cK 264 [.ptr cB 0 0,KKU op (a:Int) (b':Int) (c:Int) eu] h1 (k+j)/\ ∀i,i<k+j->cH 264 [.ptr cB 0 0,KKU op (a:Int) (b':Int) (c:Int) eu] h1 (k+j) i=h1 i:=fun h1 j jv=>by
    rcases CE h1 j jv with g|⟨w',h',k',g1,g2,e,g3,g4⟩
    ·exact absurd g.1 OQ
    ·have ew:w'=w:=by rw[hw]at g1;simp only[bM,iV,Thread.mk.injEq]at g1;exact g1.2.1.2.2.2.2.2.2.1.symm
     subst ew;obtain⟨e1,e2⟩:=xS e;rw[e1,e2];exact⟨e,g3,g4⟩
   have cl:=fun h1 j jv=>(lf h1 j jv).1;have lc: ∀(h1:bh) (j:Nat),Below k h h1->cH 264 [.ptr cB 0 0,KKU op (a:Int) (b':Int) (c:Int) eu] h1 (k+j) cB=some ⟨5,[kF ⟨pc,ps,pd⟩ b T tn],true⟩:=fun h1 j jv=>by rw[(lf h1 j jv).2.2 _ (by omega),jv _ kK];exact hc
   have lT: ∀(h1:bh) (j:Nat),Below k h h1->cH 264 [.ptr cB 0 0,KKU op (a:Int) (b':Int) (c:Int) eu] h1 (k+j) T=some ⟨8,cG bw mm.threads,true⟩:=fun h1 j jv=>by rw[(lf h1 j jv).2.2 _ (by omega),jv _ (by omega),hT]
   unfold kF at lc;refine gY.of H ht (iV x w) 2 (hs _ hw) ?_;obtain⟨v,h',n',e,h1,j,jv,rfl,hE,hK⟩:=bC (X:=X) (g:=227) (args:=[.ptr cB 0 0]) (h:=h) (k:=k) (K:=TrG h k T 264 [.ptr cB 0 0,KKU op (a:Int) (b':Int) (c:Int) eu] 2 ((cG bw mm.threads).set tn (dM bw tn (iV x w)))) Tryz.func227 rfl rfl (by
    simp[aaE,hc,hT,hg,jX,ht,hn,jG,h8,sw,hi,TC,Fq,uH,cl,lc,lT,sy,acR];refine SW ?_ ?_
    ·simp only[cE,cM]
    ·first|rfl|simp only[acR])
   obtain⟨_,g1,g2⟩:=lf h1 j jv;refine⟨_,h',n',e,rfl,by rw[hE];simp[aR],?_,by omega,fun i hi h1 h2=> ?_⟩
   ·rw[hE,aR,if_neg s5,g2 _ (by omega),jv _ (by omega),hR];rfl
   ·rw[hE,aR,if_neg h1,g2 _ (by omega),jv _ hi]
  obtain⟨M1,X1,XF⟩: ∃M1 X1,iU ⟨pc,ps,pd⟩ mm x ⟨op,a,b',c,eu⟩=(M1,X1, -1):=⟨_,_,by rw[<-OQ]⟩;have lf: ∀(h1:bh) (j:Nat),Below k h h1->cL X 264 [.ptr cB 0 0,KKU op (a:Int) (b':Int) (c:Int) eu] h1 (k+j)=some (.int .i64 0,cH 264 [.ptr cB 0 0,KKU op (a:Int) (b':Int) (c:Int) eu] h1 (k+j),cK 264 [.ptr cB 0 0,KKU op (a:Int) (b':Int) (c:Int) eu] h1 (k+j))/\ ∃iv,dV (cH 264 [.ptr cB 0 0,KKU op (a:Int) (b':Int) (c:Int) eu] h1 (k+j)) (cK 264 [.ptr cB 0 0,KKU op (a:Int) (b':Int) (c:Int) eu] h1 (k+j)) b vB C L T iv bw (iZ mm M1 tn (id X1))/\k+j<=cK 264 [.ptr cB 0 0,KKU op (a:Int) (b':Int) (c:Int) eu] h1 (k+j)/\(∀j,j<4->iv j=ids j\/k<=iv j)/\
    ∀i,i<k+j->i≠C->i≠L->(∀j,j<4->i≠ids j)->i≠T->i≠bw tn->cH 264 [.ptr cB 0 0,KKU op (a:Int) (b':Int) (c:Int) eu] h1 (k+j) i=h1 i:=fun h1 j jv=>by
   rcases CE h1 j jv with⟨_,h',k',iv,e,G,g1,g2,g3⟩|⟨w',h',k',g1,g2,e,g3,g4⟩
   ·rw[XF]at G;obtain⟨e1,e2⟩:=xS e;rw[e1,e2];exact⟨e,iv,G,g1,fun j hj=>by rcases g2 j hj with e|e;exact .inl e;exact .inr (by omega),g3⟩
   ·rw[g1]at OQ;cases OQ
  have cl:=fun h1 j jv=>(lf h1 j jv).1;have lc: ∀(h1:bh) (j:Nat),Below k h h1->cH 264 [.ptr cB 0 0,KKU op (a:Int) (b':Int) (c:Int) eu] h1 (k+j) cB=some ⟨5,[kF ⟨pc,ps,pd⟩ b T tn],true⟩:=fun h1 j jv=>by
   obtain⟨_,_,_,_,_,g⟩:=lf h1 j jv;rw[g _ (by omega) e2 e3 (fun j hj=>(HC.ni j hj).1) e4 e5,jv _ kK];exact hc
  unfold kF at lc;obtain⟨v,h',n',e,h1,j,jv,rfl,hE,hK⟩:=bC (X:=X) (g:=227) (args:=[.ptr cB 0 0]) (h:=h) (k:=k) (K:=BrG h k 264 [.ptr cB 0 0,KKU op (a:Int) (b':Int) (c:Int) eu] (-1)) Tryz.func227 rfl rfl (by
   simp[aaE,hc,hT,hg,jX,ht,hn,h8,sw,hi,TC,Fq,cl];refine avp ?_;simp only[cE,cM])
  obtain⟨_,iv,G,g1,gi,g2⟩:=lf h1 j jv;have e1:lz ⟨pc,ps,pd⟩ mm tn=(iZ mm M1 tn X1, -1):=by rw[xj,hs _ XF]
  unfold gY;subst hE;rw[e1];exact⟨_,n',iv,e,G.mono hK (fun _ _=>rfl),by omega,gi,fun i hi hC II uj hT1 hR1=>by rw[g2 i (by omega) hC II uj hT1 hR1,jv i hi]⟩
 ·have TC: ¬op=23:=by omega
  have Fq:fU op=false:=by simp[fU,jumps];omega
  have CE: ∀(h1:bh) (j:Nat),Below k h h1->lA (cL X 265 [.ptr cB 0 0,KKU op (a:Int) (b':Int) (c:Int) eu] h1 (k+j)) ⟨pc,ps,pd⟩ h1 (k+j) b vB C L T ids bw mm tn x ⟨op,a,b',c,eu⟩ (sO x.pc):=fun h1 j jv=>
   am6 .bad op a b' c eu ⟨pc,ps,pd⟩ h1 (k+j) cB b vB C L T ids bw mm tn d x op a b' c eu (H.mono (by omega) jv) HG (HC.mono (by omega) jv) hd ht Ma wO hI (jK)
  by_cases OQ:(iU ⟨pc,ps,pd⟩ mm x ⟨op,a,b',c,eu⟩).2.2= -1
  case neg=>
   obtain⟨w,hw,uH⟩: ∃w,iU ⟨pc,ps,pd⟩ mm x ⟨op,a,b',c,eu⟩=(mm.memory,iV x w,2)/\w≠0:=by
    rcases CE h 0 (fun _ _=>rfl) with g|⟨w,_,_,g1,g2,_⟩
    ·exact absurd g.1 OQ
    ·exact⟨w,g1,g2⟩
   have lf: ∀(h1:bh) (j:Nat),Below k h h1->cL X 265 [.ptr cB 0 0,KKU op (a:Int) (b':Int) (c:Int) eu] h1 (k+j)=some (.int .i64 w,cH 265 [.ptr cB 0 0,KKU op (a:Int) (b':Int) (c:Int) eu] h1 (k+j),cK 265 [.ptr cB 0 0,KKU op (a:Int) (b':Int) (c:Int) eu] h1 (k+j))/\k+j<=cK 265 [.ptr cB 0 0,KKU op (a:Int) (b':Int) (c:Int) eu] h1 (k+j)/\ ∀i,i<k+j->cH 265 [.ptr cB 0 0,KKU op (a:Int) (b':Int) (c:Int) eu] h1 (k+j) i=h1 i:=fun h1 j jv=>by
    rcases CE h1 j jv with g|⟨w',h',k',g1,g2,e,g3,g4⟩
    ·exact absurd g.1 OQ
    ·have ew:w'=w:=by rw[hw]at g1;simp only[bM,iV,Thread.mk.injEq]at g1;exact g1.2.1.2.2.2.2.2.2.1.symm
     subst ew;obtain⟨e1,e2⟩:=xS e;rw[e1,e2];exact⟨e,g3,g4⟩
   have cl:=fun h1 j jv=>(lf h1 j jv).1;have lc: ∀(h1:bh) (j:Nat),Below k h h1->cH 265 [.ptr cB 0 0,KKU op (a:Int) (b':Int) (c:Int) eu] h1 (k+j) cB=some ⟨5,[kF ⟨pc,ps,pd⟩ b T tn],true⟩:=fun h1 j jv=>by rw[(lf h1 j jv).2.2 _ (by omega),jv _ kK];exact hc
   have lT: ∀(h1:bh) (j:Nat),Below k h h1->cH 265 [.ptr cB 0 0,KKU op (a:Int) (b':Int) (c:Int) eu] h1 (k+j) T=some ⟨8,cG bw mm.threads,true⟩:=fun h1 j jv=>by rw[(lf h1 j jv).2.2 _ (by omega),jv _ (by omega),hT]
   unfold kF at lc;refine gY.of H ht (iV x w) 2 (hs _ hw) ?_;obtain⟨v,h',n',e,h1,j,jv,rfl,hE,hK⟩:=bC (X:=X) (g:=227) (args:=[.ptr cB 0 0]) (h:=h) (k:=k) (K:=TrG h k T 265 [.ptr cB 0 0,KKU op (a:Int) (b':Int) (c:Int) eu] 2 ((cG bw mm.threads).set tn (dM bw tn (iV x w)))) Tryz.func227 rfl rfl (by
    simp[aaE,hc,hT,hg,jX,ht,hn,jG,h8,sw,hi,TC,Fq,uH,cl,lc,lT,sy,acR];refine SW ?_ ?_
    ·simp only[cE,cM]
    ·first|rfl|simp only[acR])
   obtain⟨_,g1,g2⟩:=lf h1 j jv;refine⟨_,h',n',e,rfl,by rw[hE];simp[aR],?_,by omega,fun i hi h1 h2=> ?_⟩
   ·rw[hE,aR,if_neg s5,g2 _ (by omega),jv _ (by omega),hR];rfl
   ·rw[hE,aR,if_neg h1,g2 _ (by omega),jv _ hi]
  obtain⟨M1,X1,XF⟩: ∃M1 X1,iU ⟨pc,ps,pd⟩ mm x ⟨op,a,b',c,eu⟩=(M1,X1, -1):=⟨_,_,by rw[<-OQ]⟩;have lf: ∀(h1:bh) (j:Nat),Below k h h1->cL X 265 [.ptr cB 0 0,KKU op (a:Int) (b':Int) (c:Int) eu] h1 (k+j)=some (.int .i64 0,cH 265 [.ptr cB 0 0,KKU op (a:Int) (b':Int) (c:Int) eu] h1 (k+j),cK 265 [.ptr cB 0 0,KKU op (a:Int) (b':Int) (c:Int) eu] h1 (k+j))/\ ∃iv,dV (cH 265 [.ptr cB 0 0,KKU op (a:Int) (b':Int) (c:Int) eu] h1 (k+j)) (cK 265 [.ptr cB 0 0,KKU op (a:Int) (b':Int) (c:Int) eu] h1 (k+j)) b vB C L T iv bw (iZ mm M1 tn ((sO x.pc) X1))/\k+j<=cK 265 [.ptr cB 0 0,KKU op (a:Int) (b':Int) (c:Int) eu] h1 (k+j)/\(∀j,j<4->iv j=ids j\/k<=iv j)/\
    ∀i,i<k+j->i≠C->i≠L->(∀j,j<4->i≠ids j)->i≠T->i≠bw tn->cH 265 [.ptr cB 0 0,KKU op (a:Int) (b':Int) (c:Int) eu] h1 (k+j) i=h1 i:=fun h1 j jv=>by
   rcases CE h1 j jv with⟨_,h',k',iv,e,G,g1,g2,g3⟩|⟨w',h',k',g1,g2,e,g3,g4⟩
   ·rw[XF]at G;obtain⟨e1,e2⟩:=xS e;rw[e1,e2];exact⟨e,iv,G,g1,fun j hj=>by rcases g2 j hj with e|e;exact .inl e;exact .inr (by omega),g3⟩
   ·rw[g1]at OQ;cases OQ
  have cl:=fun h1 j jv=>(lf h1 j jv).1;have lc: ∀(h1:bh) (j:Nat),Below k h h1->cH 265 [.ptr cB 0 0,KKU op (a:Int) (b':Int) (c:Int) eu] h1 (k+j) cB=some ⟨5,[kF ⟨pc,ps,pd⟩ b T tn],true⟩:=fun h1 j jv=>by
   obtain⟨_,_,_,_,_,g⟩:=lf h1 j jv;rw[g _ (by omega) e2 e3 (fun j hj=>(HC.ni j hj).1) e4 e5,jv _ kK];exact hc
  unfold kF at lc;have a4j:X1.pc=x.pc+1:=by
   have:=am7 (p:=⟨pc,ps,pd⟩) (m:=mm) (x:=x) (i:=⟨op,a,b',c,eu⟩) (jK) OQ;rw[XF]at this;exact this
  obtain⟨y1,yr,y3,y4,y5,y6,y7,y8⟩:=X1;simp only at a4j;subst a4j;have lT: ∀(h1:bh) (j:Nat),Below k h h1->cH 265 [.ptr cB 0 0,KKU op (a:Int) (b':Int) (c:Int) eu] h1 (k+j) T=some ⟨8,(cG bw mm.threads).set tn ((KKd y1 (.cx (bw tn) 0 yr.length) x.pc y4 y5 y6 y7 y8:V)),true⟩:=fun h1 j jv=>by
   obtain⟨_,G,_⟩:=(lf h1 j jv).2;have:=G.pe;rw[this];unfold iZ;rw[<-iK nd];rfl
  have rK: ∀y:V,((cG bw mm.threads).set tn y).length=4:=fun y=>by rw[aaN,jX]
  obtain⟨v,h',n',e,h1,j,jv,rfl,hE,hK⟩:=bC (X:=X) (g:=227) (args:=[.ptr cB 0 0]) (h:=h) (k:=k) (K:=TrG h k T 265 [.ptr cB 0 0,KKU op (a:Int) (b':Int) (c:Int) eu] (-1) ((cG bw mm.threads).set tn ((KKd y1 (.cx (bw tn) 0 yr.length) (x.pc+1) y4 y5 y6 y7 y8:V)))) Tryz.func227 rfl rfl (by
   simp[aaE,hc,hT,hg,jX,ht,hn,h8,qK,sw,hi,TC,Fq,cl,lc,lT,rK,sy,acR];refine SW ?_ ?_
   ·simp only[cE,cM]
   ·first|rfl|simp only[acR,hn])
  obtain⟨_,iv,G,g1,gi,g2⟩:=lf h1 j jv;have e1:lz ⟨pc,ps,pd⟩ mm tn=(iZ mm M1 tn ⟨y1,yr,x.pc+1,y4,y5,y6,y7,y8⟩, -1):=by rw[xj,hs _ XF]
  unfold gY;rw[e1];refine⟨h',n',iv,e,?_,by omega,gi,fun i hi hC II uj hT1 hR1=>by rw[hE,aR,if_neg hT1,g2 i (by omega) hC II uj hT1 hR1,jv i hi]⟩;have Pr:tn<(iZ mm M1 tn (sO x.pc ⟨y1,yr,x.pc+1,y4,y5,y6,y7,y8⟩)).threads.length:=by unfold iZ;simpa using nd
  have fX:=G.G0 tn Pr;have hgt:(iZ mm M1 tn (sO x.pc ⟨y1,yr,x.pc+1,y4,y5,y6,y7,y8⟩)).threads[tn]=sO x.pc ⟨y1,yr,x.pc+1,y4,y5,y6,y7,y8⟩:=by simp[iZ]
  rw[hgt]at fX;have Q:=G.put (h':=h') (k':=n') (t:=tn) (x:=⟨y1,yr,x.pc+1,y4,y5,y6,y7,y8⟩) hK ht (by
   rw[hE,aR,if_pos rfl];unfold iZ;rw[acR,<-iK nd];rfl) (by rw[hE,aR,if_neg s5,fX];rfl) (fun i hi h1 h2=>by rw[hE,aR,if_neg h1])
  have es:(aO.mk (iZ mm M1 tn (sO x.pc ⟨y1,yr,x.pc+1,y4,y5,y6,y7,y8⟩)).layout (iZ mm M1 tn (sO x.pc ⟨y1,yr,x.pc+1,y4,y5,y6,y7,y8⟩)).memory ((iZ mm M1 tn (sO x.pc ⟨y1,yr,x.pc+1,y4,y5,y6,y7,y8⟩)).threads.set tn ⟨y1,yr,x.pc+1,y4,y5,y6,y7,y8⟩))=iZ mm M1 tn ⟨y1,yr,x.pc+1,y4,y5,y6,y7,y8⟩:=by
   unfold iZ;rw[acR]
  rw[<-es];exact Q
structure aq3 (p:Prog) (m:aO) (tn:Nat) (h:bh) (k:Nat) (h':bh) (k' cB b C L T:Nat) (ids bw:Nat->Nat):Prop where
 Oi:dV h' k' b (.sl false (m.layout.aD.map (V.int .i64))) C L T ids bw m
 core:xA h' k' cB b C L T ids bw p tn
 le:k<=k'
 fr: ∀i,i<k->h' i=h i
 OA:oP k (.sl false (m.layout.aD.map (V.int .i64))) C L T ids bw/\k<=cB/\k<=b
@[simp]def am8(ax:List Instr)(ae:List Int)(ay:List (List Int))(aa:List Int)(aq:Int)(ak:List Cell)(ah:List cw)(au:List Thread)(t:Int)(h:bh)(k tn:Nat)(hr:As (aO.mk (Layout.mk aa aq) (aF.mk ak ah) au))(hv:jU (Prog.mk ax ae ay) (aO.mk (Layout.mk aa aq) (aF.mk ak ah) au)=true)(n4:tn<4): ∃h' k' cB b C L T ids bw,cL X 226 [KKQ ax ae ay,.agg (mo (aO.mk (Layout.mk aa aq) (aF.mk ak ah) au)),(tn:Int)] h k=some (.dP [.ptr cB 0 0,.int .i64 0],h',k')/\aq3 (Prog.mk ax ae ay) (aO.mk (Layout.mk aa aq) (aF.mk ak ah) au) tn h k h' k' cB b C L T ids bw:=by
 have MG:=yV hr hv;have hp:=MG.prog.lens;have hm:=MG.lens;have hl:au.length=4:=MG.len;obtain⟨v1,h1,k1,eC,ek,ev,HA,HB⟩:=Ua aa aq ak ah au (k+20) (Prog.mk ax ae ay) _ MG;subst ek;subst ev;simp only[aaE,Nat.reduceAdd]at eC HA HB;have t0: ¬(tn:Int)<0:=by omega
 have t4:(tn:Int)<4:=by omega
 have pU: ¬(4:Int)<=tn:=by omega
 have hT:=HA.pe;obtain⟨HB1,HB2,HB3⟩:=HB;unfold mo;have key: ∃v h' k',cL X 226 [KKQ ax ae ay,KKY aa aq ak ah au,(tn:Int)] h k=some (v,h',k')/\ ∃cB b C L T ids bw,v= .dP [.ptr cB 0 0,.int .i64 0]/\aq3 (Prog.mk ax ae ay) (aO.mk (Layout.mk aa aq) (aF.mk ak ah) au) tn h k h' k' cB b C L T ids bw:=by
  refine aaB ?_;simp[hp,hm,hv,t0,t4,pU,hl,eC,ji,jI,hT,aaE];have lo: ∀x,k<=x->k+20<=x\/x<k+20:=fun x hx=>by omega
  have HA2: ∀H:bh,(∀i,k+20<=i->i<k+214->H i=h1 i)->H (k+18)=some ⟨5,[jE (.sl false (aa.map (V.int .i64))) (k+42) (k+43) (k+206) (aO.mk (Layout.mk aa aq) (aF.mk ak ah) au)],true⟩->dV H (k+223) (k+18) (.sl false (aa.map (V.int .i64))) (k+42) (k+43) (k+206) (qW (k+64) (k+83) (k+102) (k+121)) (qW (k+141) (k+161) (k+181) (k+201)) (aO.mk (Layout.mk aa aq) (aF.mk ak ah) au):=fun H hH hb=>
   aet (a:=k+20) (k:=k+214) (h1:=H) hb (by omega) (by omega) (by omega) (HA.mono ⟨HB1,HB2,HB3⟩ (aaI _) hH) ⟨HB1,HB2,HB3⟩ fun _ _=>rfl
  refine⟨k+18,k+42,k+43,k+206,qW (k+64) (k+83) (k+102) (k+121),qW (k+141) (k+161) (k+181) (k+201),⟨HA2 _ (fun i a b=> ?_) ?_,⟨?_,by omega,⟨by omega,by omega,by omega,by omega⟩,fun j hj=> ?_⟩,by omega,fun i hi=> ?_,⟨⟨by omega,by omega,by omega⟩,fun j hj=> ?_,fun B s n e=>by cases e⟩,by omega,by omega⟩⟩
  ·have n1: ¬i=k+220:=by omega
   have n2: ¬i=k+18:=by omega
   have n3: ¬i<k+20:=by omega
   simp[aR,n1,n2,n3]
  ·simp[aR,jE,hl]
  ·simp[aR,kF]
  ·have q:=HB2 j hj;have q2:=HA.lt.2.2 j hj;have q3:=(HA.qR j hj).2.2.2;omega
  ·have n1: ∀j,¬i=k+j:=fun j=>by omega
   have n2: ¬i=k:=by omega
   have n3:i<k+20:=by omega
   simp[aR,n1,n2,n3]
  ·have q:=HB2 j hj;omega
 obtain⟨v,h',k',e,cB,b,C,L,T,ids,bw,rfl,HB⟩:=key;exact⟨h',k',cB,b,C,L,T,ids,bw,e,HB⟩
def SlI(p:Prog)(lay:Layout)(cB b C L T:Nat)(bw:Nat->Nat)(tn:Nat)(upto:Int)(tg:aO×Int)(i:Nat)(S:St):Prop:= ∃mi iJ,(S.f 8= .ptr 2 0 0/\S.f 11= .ptr cB 0 0/\S.f 13= .int .i64 upto)/\S.h 2=some ⟨5,[KKE (.sl true []) 0 (.sl true []) (.sl true []) (.sl true [])],true⟩/\
   mi.layout=lay/\dV S.h S.n b (.sl false (lay.aD.map (V.int .i64))) C L T iJ bw mi/\oP 14 (.sl false (lay.aD.map (V.int .i64))) C L T iJ bw/\xA S.h S.n cB b C L T iJ bw p tn/\14<=S.n/\
   cT p (1099511627776+64) mi/\(((bV mi tn).count<upto/\i+yY upto (bV mi tn)<=19456/\j9 p tn upto (20000-i) mi=tg)\/((bV mi tn).count=upto/\tg=(mi,0)))
@[simp]def af9(ax:List Instr)(ae:List Int)(ay:List (List Int))(aa:List Int)(aq:Int)(ak:List Cell)(ah:List cw)(au:List Thread)(t n:Int)(tn:Nat)(hr:As (aO.mk (Layout.mk aa aq) (aF.mk ak ah) au))(hv:jU (Prog.mk ax ae ay) (aO.mk (Layout.mk aa aq) (aF.mk ak ah) au)=true)(n4:tn<4)(hn:1<=n/\n<=64): ∃v h k,cL X 153 [KKQ ax ae ay,KKY aa aq ak ah au,(tn:Int),.int .i64 n] pK 0=some (v,h,k)/\B5 (dQ (Prog.mk ax ae ay) (aO.mk (Layout.mk aa aq) (aF.mk ak ah) au) tn n).1 (dQ (Prog.mk ax ae ay) (aO.mk (Layout.mk aa aq) (aF.mk ak ah) au) tn n).2 0 v h k:=by
 obtain⟨H0,hH0⟩: ∃H:bh,aR (aR (aR pK 0 (some ⟨3,[KKQ ax ae ay],true⟩)) 1 (some ⟨5,[KKY aa aq ak ah au],true⟩)) 2 (some ⟨5,[KKE (.sl true []) 0 (.sl true []) (.sl true []) (.sl true [])],true⟩)=H:=⟨_,rfl⟩;have z0:H0 0=some ⟨3,[KKQ ax ae ay],true⟩:=by rw[<-hH0];simp[aR]
 have z1:H0 1=some ⟨5,[KKY aa aq ak ah au],true⟩:=by rw[<-hH0];simp[aR]
 have z2:H0 2=some ⟨5,[KKE (.sl true []) 0 (.sl true []) (.sl true []) (.sl true [])],true⟩:=by rw[<-hH0];simp[aR]
 obtain⟨n1,n64⟩:=hn;have h0:(0:Int)<=tn:=by omega
 have h4:(tn:Int)<4:=by omega
 have MG:=yV hr hv;have hl:au.length=4:=MG.len;have nl:tn<au.length:=by omega
 have hx:bV (aO.mk (Layout.mk aa aq) (aF.mk ak ah) au) tn=au[tn]:=iq nl;obtain⟨h1,k1,cB,b,C,L,T,ids,bw,e,HB⟩:=am8 ax ae ay aa aq ak ah au 0 H0 14 tn hr hv n4;unfold mo at e;simp only at e;have f2:=HB.fr 2 (by omega);rw[z2]at f2;have hcb:=HB.core.box;have hT:=HB.Oi.pe;unfold kF at hcb;simp only at hcb hT;have gg:=fY (ids:=bw) nl;have Cr:=fA bw au;rw[hl]at Cr;have Yo: ¬n<1:=by omega
 have Sp: ¬64<n:=by omega
 obtain⟨HA1,hA2,hA3⟩:=HB.OA;have bx0:=HB.Oi.xQ;unfold jE at bx0;simp only[hl]at bx0;have fin: ∀(H:bh) (K k':Nat) (x:Option Ob) (iJ:Nat->Nat) (r:aO) (s:Int),r.layout=⟨aa,aq⟩->dV H K b (.sl false (aa.map (V.int .i64))) C L T iJ bw r->oP 14 (.sl false (aa.map (V.int .i64))) C L T iJ bw->
   B5 r s 0 (.dP [.agg [aa,.int .u16 aq,.cx C 0 512,.cx L 0 4,.cx T 0 4],.int .i64 s,.int .i64 0]) (aR H 2 x) k':=fun H K k' x iJ r s qk G GA=>by
  refine⟨_,C,L,T,iJ,bw,_,?_,G.at.mono GA (aaI _) fun i hi _=>by rw[aR,if_neg (by omega)]⟩;unfold jE;rw[G.len,qk]
 by_cases hs:(au[tn]).state=1
 case neg=>
  have e0:dQ (Prog.mk ax ae ay) (aO.mk (Layout.mk aa aq) (aF.mk ak ah) au) tn n=((aO.mk (Layout.mk aa aq) (aF.mk ak ah) au),3):=by unfold dQ;rw[show(aO.threads (aO.mk (Layout.mk aa aq) (aF.mk ak ah) au)).getD tn cn=au[tn] from hx];exact if_neg hs
  rw[e0];refine aaB ?_;simp[hH0,z0,z1,e,f2,Yo,Sp,hcb,hT,gg,Cr,n4,hs,bx0];exact fin h1 k1 _ _ ids _ _ rfl HB.Oi HA1
 have oG:=eq_true hs;obtain⟨upto,lu⟩: ∃u,(au[tn]).count+n=u:=⟨_,rfl⟩;have hcx:=(MG.pe tn nl).count;simp only at hcx;have hwu:IntKind.i64.wrap ((au[tn]).count+n)=upto:=by rw[lu];exact wrap_i64 (by omega)
 have e0:dQ (Prog.mk ax ae ay) (aO.mk (Layout.mk aa aq) (aF.mk ak ah) au) tn n=j9 (Prog.mk ax ae ay) tn upto 20000 (aO.mk (Layout.mk aa aq) (aF.mk ak ah) au):=by
  unfold dQ;rw[show(aO.threads (aO.mk (Layout.mk aa aq) (aF.mk ak ah) au)).getD tn cn=au[tn] from hx,if_pos hs,lu]
 rw[e0];obtain⟨tg,htg⟩: ∃r,j9 (Prog.mk ax ae ay) tn upto 20000 (aO.mk (Layout.mk aa aq) (aF.mk ak ah) au)=r:=⟨_,rfl⟩;rw[htg];refine aaB ?_;simp[hH0,z0,z1,e,Yo,Sp,hcb,hT,gg,Cr,n4,oG,hwu];refine lW (fun i S=>SlI (Prog.mk ax ae ay) ⟨aa,aq⟩ cB b C L T bw tn upto tg i S) 19456 ?_ 0 (by simp) ?_
 ·rintro i S hi ⟨mi,iJ,⟨f8,f11,f13⟩,hh2,qk,HI,GA,HC,hK,Yp,YP⟩;have hl4:=HI.len;have nl2:tn<mi.threads.length:=by omega
  have gT:=HI.pe;have gg:=fY (ids:=bw) nl2;have Cr:=fA bw mi.threads;rw[hl4]at Cr;have gx:bV mi tn=mi.threads[tn]:=iq nl2;have gc:=HC.box;unfold kF at gc;simp only at gc;rcases YP with⟨hc,hle,heq⟩|⟨W1,heq⟩
  case inr=>
   rw[gx]at W1;have bx:=HI.xQ;unfold jE at bx;rw[hl4,qk]at bx;simp only at bx;rw[heq];have gZ: ¬upto<upto:=by omega
   simp[f8,f11,f13,hh2,gc,gT,gg,Cr,n4,W1,bx];exact fin _ _ _ _ _ _ _ qk HI GA
  have a1u:1<=yY upto (bV mi tn):=by
   have:=(Yp.bV n4).pc;unfold yY;omega
  have LZ:i<19456:=by omega
  have Pr:20000-i=(20000-(i+1))+1:=by omega
  obtain⟨h',k',WZ,eo,G,g1,g2,g3⟩:=avq .bad (Prog.mk ax ae ay) S.h (S.n+12) cB b _ C L T iJ bw mi tn _ (HI.mono (by omega) fun _ _=>rfl) Yp (HC.mono (by omega) fun _ _=>rfl) (by omega) n4 (by rw[qk]);have GA2:oP 14 (.sl false (aa.map (V.int .i64))) C L T WZ bw:=by
   obtain⟨q1,q2,q3⟩:=GA;refine⟨q1,fun j hj=>⟨?_,(q2 j hj).2⟩,q3⟩;rcases g2 j hj with e|e
   ·rw[e];exact(q2 j hj).1
   ·omega
  obtain⟨e1,e2,e3,e4⟩:=HC.ne;have pS:=HC.lt;have fc:=g3 cB (by omega) e2 e3 (fun j hj=>(HC.ni j hj).1) e4 (HC.ni tn n4).2;obtain⟨⟨y1,y2,y3⟩,y4,y5⟩:=GA;have f22:=g3 2 (by omega) (by omega) (by omega) (fun j hj=>by have:=y4 j hj;omega) (by omega) (by have:=y4 tn n4;omega);rw[hh2]at f22;have HC2:xA h' k' cB b C L T WZ bw (Prog.mk ax ae ay) tn:=⟨by rw[fc];exact HC.box,by omega,⟨e1,e2,e3,e4⟩,fun j hj=>⟨by
   rcases g2 j hj with e|e
   ·rw[e];exact(HC.ni j hj).1
   ·omega,(HC.ni j hj).2⟩⟩
  rw[gc]at fc;have bx:=G.xQ;have gl:=G.len;unfold jE at bx;rw[gl,u7,qk]at bx;simp only at bx;have W0:(lz (Prog.mk ax ae ay) mi tn).1.layout=⟨aa,aq⟩:=by rw[u7];exact qk
  have BD:=hc;rw[gx]at BD;by_cases ho:(lz (Prog.mk ax ae ay) mi tn).2= -1
  case neg=>
   rw[<-heq,Pr,xu ho];simp[f8,f11,f13,gc,gT,gg,Cr,n4,BD,eo,fc,f22,bx,ho,aaE];exact fin _ _ _ _ _ _ _ W0 G GA2
  have zy:=eq_true ho;have hlf:=zR Yp n4 ho upto;have bhq:=(yW Yp (Yp.bV n4)).ale (by rw[xj]at ho;exact ho);have OS:=yX Yp n4;simp[f11,f13,gc,gT,gg,Cr,n4,BD,eo,zy,LZ,aaE];refine⟨(lz (Prog.mk ax ae ay) mi tn).1,WZ,⟨by simp[aR,f8],by simp[aR,f11],by simp[aR,f13]⟩,f22,W0,G.mono (by first|omega|(simp only;omega)) (fun _ _=>rfl),GA2,HC2.mono (by first|omega|(simp only;omega)) (fun _ _=>rfl),by first|omega|(simp only;omega),EV Yp n4 (by omega),?_⟩;by_cases W1:(bV (lz (Prog.mk ax ae ay) mi tn).1 tn).count=upto
  ·exact .inr ⟨W1,by rw[<-heq,Pr,ze ho W1]⟩
  ·refine .inl ⟨by rw[OS]at W1⊢;omega,by omega,?_⟩;rw[<-heq,Pr,xw ho W1]
 ·simp;refine⟨(aO.mk (Layout.mk aa aq) (aF.mk ak ah) au),ids,⟨by simp[aR],by simp[aR],by simp[aR]⟩,f2,rfl,HB.Oi.mono (by first|omega|(simp only;omega)) (fun _ _=>rfl),HA1,HB.core.mono (by first|omega|(simp only;omega)) (fun _ _=>rfl),by have:=HB.le;first|omega|(simp only;omega),MG.mono (by omega),.inl ⟨by rw[hx];omega,?_,htg⟩⟩;have:=(MG.pe tn nl).pc;simp only at this;rw[hx];unfold yY;omega
@[simp]def aga(ax:List Instr)(ae:List Int)(ay:List (List Int))(aa:List Int)(aq:Int)(ak:List Cell)(ah:List cw)(au:List Thread)(t n:Int)(hr:As (aO.mk (Layout.mk aa aq) (aF.mk ak ah) au))(hv:jU (Prog.mk ax ae ay) (aO.mk (Layout.mk aa aq) (aF.mk ak ah) au)=true)(ht:0<=t/\t<4)(hn:1<=n/\n<=64):ng X [(0,4,112)] 153 [KKQ ax ae ay,KKY aa aq ak ah au,.int .i64 t,.int .i64 n]=some (.dP [KKK ((dQ (Prog.mk ax ae ay) (aO.mk (Layout.mk aa aq) (aF.mk ak ah) au) t.toNat n).1),.int .i64 ((dQ (Prog.mk ax ae ay) (aO.mk (Layout.mk aa aq) (aF.mk ak ah) au) t.toNat n).2),.int .i64 0]):=by
 obtain⟨k,rfl⟩:=aaG ht.1;exact B5.ng (af9 ax ae ay aa aq ak ah au k n k hr hv (by omega) hn)
end Go.Proofs.YtdngefmliibcgaaGreat
