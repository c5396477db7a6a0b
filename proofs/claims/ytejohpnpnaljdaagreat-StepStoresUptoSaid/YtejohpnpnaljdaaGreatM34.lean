/- Part of a proof: F30. -/
import Derived.Test.YtejohpnpnaljdaaGreatM32
set_option linter.all false
set_option maxRecDepth 20000
set_option maxHeartbeats 20000000
namespace Go.Proofs.YtejohpnpnaljdaaGreat
open Go Go.Abs Go.Abs.lu
def iS(p:Prog)(b T t:Nat):V:= .agg [.sl false (p.code.map Instr.e),.sl false (p.ae.map (V.int .i64)),.sl false (p.data.map aS),.ptr b 0 0,.ptr T t 0]
structure tK (h:aY) (k cB b C L T:Nat) (ids aZ:Nat->Nat) (p:Prog) (t:Nat):Prop where
 box:h cB=some ⟨5,[iS p b T t],true⟩
 lt:cB<k
 ne:cB≠b/\cB≠C/\cB≠L/\cB≠T
 ni: ∀j,j<4->cB≠ids j/\cB≠aZ j
def jF(r:Option (V×aY×Nat))(p:Prog)(h:aY)(k b:Nat)(vB:V)(C L T:Nat)(ids aZ:Nat->Nat)(m:bf)(t:Nat)(x:Thread)(i:Instr)(f:Thread->Thread):Prop:=
 ((fR p m x i).2.2= -1/\ ∃h' k' ft,r=some (.int .i64 0,h',k')/\dc h' k' b vB C L T ft aZ (kq m (fR p m x i).1 t (f (fR p m x i).2.1))/\k<=k'/\(∀j,j<4->ft j=ids j\/k<=ft j)/\
  ∀i,i<k->i≠C->i≠L->(∀j,j<4->i≠ids j)->i≠T->i≠aZ t->h' i=h i)\/
 ∃w h' k',fR p m x i=(m.memory,gd x w,2)/\w≠0/\r=some (.int .i64 w,h',k')/\k<=k'/\ ∀i,i<k->h' i=h i
def adb(h:aY)(k:Nat)(w:Int)(v:V)(h':aY)(k':Nat):Prop:=v= .int .i64 w/\k<=k'/\ ∀i,i<k->h' i=h i
theorem pU(h:aY)(k:Nat)(w:Int)(v:V)(h':aY)(k':Nat):adb h k w v h' k'=(v= .int .i64 w/\k<=k'/\ ∀i,i<k->h' i=h i):=rfl
theorem jF.go {r:Option (V×aY×Nat)} {p:Prog} {h:aY} {k b C L T:Nat} {vB:V} {ids aZ:Nat->Nat} {m:bf} {t:Nat} {x:Thread} {i:Instr} {f:Thread->Thread} (H:dc h k b vB C L T ids aZ m) (ht:t<4) (x':Thread) (hs:fR p m x i=(m.memory,x', -1))
  (he: ∃v h' n',r=some (v,h',n')/\PB h k T aZ t m.threads (f x') 0 v h' n'):jF r p h k b vB C L T ids aZ m t x i f:=by
 obtain⟨v,h',n',e,rfl,g2,g3,g4,g5⟩:=he;have lp:t<m.threads.length:=by rw[H.len];exact ht
 rw[gq lp]at g2;refine .inl ⟨by rw[hs],h',n',ids,e,?_,g4,fun _ _=> .inl rfl,fun i hi _ _ _ PC hit=>g5 i hi PC hit⟩;rw[hs];exact H.put g4 ht g2 g3 g5
theorem jF.ade {r:Option (V×aY×Nat)} {p:Prog} {h h1:aY} {k k1 b C L T:Nat} {vB:V} {ids fg aZ:Nat->Nat} {m:bf} {t:Nat} {x:Thread} {i:Instr} {f:Thread->Thread} (H:dc h k b vB C L T ids aZ m) (ht:t<4) {PD:aK} (H1:dc h1 k1 b vB C L T fg aZ ⟨m.layout,PD,m.threads⟩) (hk:k<=k1) (dg: ∀j,j<4->fg j=ids j\/k<=fg j)
  (lK: ∀i,i<k->i≠C->i≠L->(∀j,j<4->i≠ids j)->h1 i=h i) (x':Thread) (hs:fR p m x i=(PD,x', -1))
  (he: ∃v h' n',r=some (v,h',n')/\PB h1 k1 T aZ t m.threads (f x') 0 v h' n'):jF r p h k b vB C L T ids aZ m t x i f:=by
 obtain⟨v,h',n',e,rfl,g2,g3,g4,g5⟩:=he;have lp:t<m.threads.length:=by rw[H.len];exact ht
 rw[gq lp]at g2;refine .inl ⟨by rw[hs],h',n',fg,e,?_,by omega,dg,fun i hi hiC hiL jk PC hit=>by rw[g5 i (by omega) PC hit,lK i hi hiC hiL jk]⟩;rw[hs];exact H1.put g4 ht g2 g3 g5
theorem jF.dd {r:Option (V×aY×Nat)} {p:Prog} {h:aY} {k b C L T:Nat} {vB:V} {ids aZ:Nat->Nat} {m:bf} {t:Nat} {x:Thread} {i:Instr} {f:Thread->Thread} (w:Int) (hw:w≠0) (hs:fR p m x i=(m.memory,gd x w,2))
  (he: ∃v h' n',r=some (v,h',n')/\adb h k w v h' n'):jF r p h k b vB C L T ids aZ m t x i f:=by
 obtain⟨v,h',n',e,rfl,g4,g5⟩:=he;exact .inr ⟨w,h',n',hs,hw,e,g4,g5⟩
def pV(pc:Int)(x:Thread):Thread:=⟨x.state,x.bm,pc,x.count,x.bV,x.saved,x.dd,x.code⟩
theorem lS(ids:Nat->Nat)(i:Nat)(x:Thread)(q pc:Int)(bm:List Cell):db ids i (pV q (si x pc bm))= .agg [.int .i64 x.state,.bU (ids i) 0 bm.length,.int .i64 q,.int .i64 x.count,.int .i64 x.bV,.int .i64 x.saved,.int .i64 x.dd,.int .u16 x.code]:=rfl
theorem pz(x:Thread)(q pc:Int)(bm:List Cell):(pV q (si x pc bm)).bm=bm:=rfl
@[simp] theorem Wc(c:V)(gp AU AV AW nM:Int)(p:Prog)(h:aY)(k cB b:Nat)(vB:V)(C L T:Nat)(ids aZ:Nat->Nat)(mm:bf)(tn:Nat)(d:Int)(x:Thread)(op:Int)(a b' c:Nat)(dy:Int)(H:dc h k b vB C L T ids aZ mm)(HG:cR p d mm)(HC:tK h k cB b C L T ids aZ p tn)(hd:d<=1099511628776)(ht:tn<4)(Gx:vB= .sl false (mm.layout.aD.map (V.int .i64)))(ug:cg mm tn=x)(hI:Cm p.code.length p.ae.length ⟨op,a,b',c,dy⟩)(iA:op=18\/op=19\/op=20\/op=21\/op=22\/op=24):jF (cy X 111 [.ptr cB 0 0,.agg [op,(a:Int),(b':Int),(c:Int),dy]] h k) p h k b vB C L T ids aZ mm tn x ⟨op,a,b',c,dy⟩ id:=by
 have hl:=H.len;have lp:tn<mm.threads.length:=by omega
 have oE:(tn:Int)<4:=by omega
 have qz:=HG.nv tn lp;have hR:=H.Ez tn lp;have hg:=eF (ids:=aZ) lp;have hT:=H.nv;have iU:=ed aZ mm.threads;rw[hl]at iU;have hb:=H.sE;unfold jo at hb;rw[hl,Gx]at hb;have hc:=HC.box;have nq:mm.threads[tn]=x:=by rw[<-ug];exact(ie lp).symm
 rw[nq]at qz hR;simp only[nq]at hg;obtain⟨s1,s3,s4,s5,s6⟩:=H.qB tn ht;have Da: ¬T=aZ tn:=fun e=>s5 e.symm;have s1': ¬b=aZ tn:=fun e=>s1 e.symm;obtain⟨u1,u2,u3,u4⟩:=H.ym;have u1': ¬b=T:=fun e=>u1 e.symm;have jW:=HC.lt;obtain⟨e1,e2,e3,e4⟩:=HC.ne;have e5:=(HC.ni tn ht).2;have e6: ¬T=cB:=fun e=>e4 e.symm;have eX:=H.mem.lt.1;have q1: ∀j,¬b=k+j:=fun j=>by omega
 have q2: ∀j,¬T=k+j:=fun j=>by omega
 have q3: ∀j,¬aZ tn=k+j:=fun j=>by omega
 have q4: ∀j,¬k+j=b:=fun j=>by omega
 have q5: ∀j,¬k+j=T:=fun j=>by omega
 have q6: ∀j,¬k+j=aZ tn:=fun j=>by omega
 have q7: ∀j,¬cB=k+j:=fun j=>by omega
 have q8: ∀j,¬k+j=cB:=fun j=>by omega
 have pq: ¬b=k:=by omega
 have mO: ¬T=k:=by omega
 have oQ: ¬aZ tn=k:=by omega
 have A1: ¬cB=k:=by omega
 have q4z: ¬k=b:=by omega
 have q5z: ¬k=T:=by omega
 have q6z: ¬k=aZ tn:=by omega
 have q8z: ¬k=cB:=by omega
 have Gq:=qz.pc;obtain⟨n,hn⟩: ∃n:Nat,x.pc=n:=⟨x.pc.toNat,by omega⟩;have h8:=qz.bm;have QX:p.code.length<=64:=HG.prog.pk;have FR:=qz.count;have EB:IntKind.i64.wrap (x.count+1)=x.count+1:=wrap_i64 (by omega);have nO:=cS n (by omega);have lH:bZ aZ mm.threads=(bZ aZ mm.threads).set tn (.agg [.int .i64 x.state,.bU (aZ tn) 0 8,(n:Int),.int .i64 x.count,.int .i64 x.bV,.int .i64 x.saved,.int .i64 x.dd,.int .u16 x.code]):=by
  have ahh:tn<(bZ aZ mm.threads).length:=by omega
  have:=hg ahh;rw[h8,hn]at this;rw[<-this,List.set_getElem_self]
 obtain⟨o1,ia,ib,ic,im,ij,il,is⟩:=hI;simp only at o1 ia ib ic im ij il is;have qX:(a:Int)<8:=ia.2;have vS:(b':Int)<8:=ib.2;have c8i:(c:Int)<8:=ic.2;have a8:a<8:=by omega
 have b8:b'<8:=by omega
 have c8:c<8:=by omega
 have al:a<x.bm.length:=by omega
 have bl:b'<x.bm.length:=by omega
 have cl:c<x.bm.length:=by omega
 have eY:IntKind.u16.wrap dy=dy:=wrap_u16 im;have hL:=HG.lay;have hlen:=hL.len;obtain⟨xa,qF⟩: ∃v,x.bm[a]=v:=⟨_,rfl⟩;obtain⟨xb,tU⟩: ∃v,x.bm[b']=v:=⟨_,rfl⟩;obtain⟨xc,U9⟩: ∃v,x.bm[c]=v:=⟨_,rfl⟩;have ra:iR x a=xa:=by rw[kC al,qF]
 have rb:iR x b'=xb:=by rw[kC bl,tU]
 have rc:iR x c=xc:=by rw[kC cl,U9]
 have ca:hY xa:=by rw[<-ra];exact iH qz _
 have cb:hY xb:=by rw[<-rb];exact iH qz _
 have cc:hY xc:=by rw[<-rc];exact iH qz _
 have eX:=H.mem.lt;obtain⟨pc,ps,pd⟩:=p;simp only at ij il is hc QX hL hlen;rcases iA with rfl|rfl|rfl|rfl|rfl|rfl
 ·refine jF.go H ht (kK x dy x.bm x.saved) (by simp[fR,kK]) (bu (X:=X) Tryz.func111 rfl rfl ?_);simp-implicitDefEqProofs[Nat.add_assoc,dS,iS,hc,hT,hR,hg,iU,ht,hn,gE,eO,h8,qX,nO,EB,s5,mO,oQ,A1,e4];all_goals ((repeat' apply And.intro)<;>first|omega|rfl|exact lH|(intro i hi e1 e2;have e3:(∀j,¬i=k+j):=(fun j=>(by omega));have e4: ¬i=k:=(by omega);simp[e1,e4])|(intro i hi;have e3:(∀j,¬i=k+j):=(fun j=>(by omega));have e4: ¬i=k:=(by omega);simp[e3,e4]))
 ·by_cases t0:xa.tag=0
  ·by_cases v0:xa.val=0
   ·refine jF.go H ht (kK x dy x.bm x.saved) (by simp[fR,ra,t0,v0]) (bu (X:=X) Tryz.func111 rfl rfl ?_);simp-implicitDefEqProofs[Nat.add_assoc,dS,iS,hc,hT,hR,hg,iU,ht,hn,gE,eO,h8,a8,qX,qF,nO,EB,s5,mO,oQ,A1,e4,t0,v0];all_goals ((repeat' apply And.intro)<;>first|omega|rfl|exact lH|(intro i hi e1 e2;have e3:(∀j,¬i=k+j):=(fun j=>(by omega));have e4: ¬i=k:=(by omega);simp[e1,e4])|(intro i hi;have e3:(∀j,¬i=k+j):=(fun j=>(by omega));have e4: ¬i=k:=(by omega);simp[e3,e4]))
   ·refine jF.go H ht (kK x (n+1) x.bm x.saved) (by simp[fR,hn,ra,t0,v0]) (bu (X:=X) Tryz.func111 rfl rfl ?_);simp-implicitDefEqProofs[Nat.add_assoc,dS,iS,hc,hT,hR,hg,iU,ht,hn,gE,eO,h8,a8,qX,qF,nO,EB,s5,mO,oQ,A1,e4,t0,v0];all_goals ((repeat' apply And.intro)<;>first|omega|rfl|exact lH|(intro i hi e1 e2;have e3:(∀j,¬i=k+j):=(fun j=>(by omega));have e4: ¬i=k:=(by omega);simp[e1,e4])|(intro i hi;have e3:(∀j,¬i=k+j):=(fun j=>(by omega));have e4: ¬i=k:=(by omega);simp[e3,e4]))
  ·refine jF.dd (3) (by decide) (by simp[fR,ra,t0]) (bu (X:=X) Tryz.func111 rfl rfl ?_);simp-implicitDefEqProofs[Nat.add_assoc,pU,iS,hc,hT,hR,hg,iU,ht,hn,h8,a8,qX,qF,nO,mO,oQ,A1,t0];all_goals ((repeat' apply And.intro)<;>first|omega|rfl|exact lH|(intro i hi e1 e2;have e3:(∀j,¬i=k+j):=(fun j=>(by omega));have e4: ¬i=k:=(by omega);simp[e1,e2,e3,e4])|(intro i hi;have e3:(∀j,¬i=k+j):=(fun j=>(by omega));have e4: ¬i=k:=(by omega);simp[e3,e4]))
 ·by_cases t0:xa.tag=0
  ·by_cases v0:xa.val=0
   ·refine jF.go H ht (kK x (n+1) x.bm x.saved) (by simp[fR,hn,ra,t0,v0]) (bu (X:=X) Tryz.func111 rfl rfl ?_);simp-implicitDefEqProofs[Nat.add_assoc,dS,iS,hc,hT,hR,hg,iU,ht,hn,gE,eO,h8,a8,qX,qF,nO,EB,s5,mO,oQ,A1,e4,t0,v0];all_goals ((repeat' apply And.intro)<;>first|omega|rfl|exact lH|(intro i hi e1 e2;have e3:(∀j,¬i=k+j):=(fun j=>(by omega));have e4: ¬i=k:=(by omega);simp[e1,e4])|(intro i hi;have e3:(∀j,¬i=k+j):=(fun j=>(by omega));have e4: ¬i=k:=(by omega);simp[e3,e4]))
   ·refine jF.go H ht (kK x dy x.bm x.saved) (by simp[fR,ra,t0,v0]) (bu (X:=X) Tryz.func111 rfl rfl ?_);simp-implicitDefEqProofs[Nat.add_assoc,dS,iS,hc,hT,hR,hg,iU,ht,hn,gE,eO,h8,a8,qX,qF,nO,EB,s5,mO,oQ,A1,e4,t0,v0];all_goals ((repeat' apply And.intro)<;>first|omega|rfl|exact lH|(intro i hi e1 e2;have e3:(∀j,¬i=k+j):=(fun j=>(by omega));have e4: ¬i=k:=(by omega);simp[e1,e4])|(intro i hi;have e3:(∀j,¬i=k+j):=(fun j=>(by omega));have e4: ¬i=k:=(by omega);simp[e3,e4]))
  ·refine jF.dd (3) (by decide) (by simp[fR,ra,t0]) (bu (X:=X) Tryz.func111 rfl rfl ?_);simp-implicitDefEqProofs[Nat.add_assoc,pU,iS,hc,hT,hR,hg,iU,ht,hn,h8,a8,qX,qF,nO,mO,oQ,A1,t0];all_goals ((repeat' apply And.intro)<;>first|omega|rfl|exact lH|(intro i hi e1 e2;have e3:(∀j,¬i=k+j):=(fun j=>(by omega));have e4: ¬i=k:=(by omega);simp[e1,e2,e3,e4])|(intro i hi;have e3:(∀j,¬i=k+j):=(fun j=>(by omega));have e4: ¬i=k:=(by omega);simp[e3,e4]))
 ·have af4:IntKind.u16.wrap ((n:Int)+1)=(n:Int)+1:=wrap_u16 (by omega);refine jF.go H ht (kK x dy (x.bm.set a ⟨0,n+1⟩) x.saved) (by simp[fR,hn,l5]) (bu (X:=X) Tryz.func111 rfl rfl ?_);simp-implicitDefEqProofs[Nat.add_assoc,dS,iS,hc,hT,hR,hg,iU,ht,hn,gE,eO,h8,a8,qX,qF,nO,EB,s5,Da,mO,oQ,A1,q6z,e4,e5,Cell.bP,af4];all_goals ((repeat' apply And.intro)<;>first|omega|rfl|exact lH|(intro i hi e1 e2;have e3:(∀j,¬i=k+j):=(fun j=>(by omega));have e4: ¬i=k:=(by omega);simp[e1,e2,e4])|(intro i hi;have e3:(∀j,¬i=k+j):=(fun j=>(by omega));have e4: ¬i=k:=(by omega);simp[e3,e4]))
 ·by_cases t0:xa.tag=0
  ·by_cases v0:255<xa.val
   ·refine jF.dd (2) (by decide) (by simp[fR,ra,t0,v0]) (bu (X:=X) Tryz.func111 rfl rfl ?_);simp-implicitDefEqProofs[Nat.add_assoc,pU,iS,hc,hT,hR,hg,iU,ht,hn,h8,a8,qX,qF,nO,mO,oQ,A1,t0,v0];all_goals ((repeat' apply And.intro)<;>first|omega|rfl|exact lH|(intro i hi e1 e2;have e3:(∀j,¬i=k+j):=(fun j=>(by omega));have e4: ¬i=k:=(by omega);simp[e1,e2,e3,e4])|(intro i hi;have e3:(∀j,¬i=k+j):=(fun j=>(by omega));have e4: ¬i=k:=(by omega);simp[e3,e4]))
   ·have hwv:IntKind.i64.wrap xa.val=xa.val:=wrap_i64 (by have:=ca.2;omega);refine jF.go H ht (kK x xa.val x.bm x.saved) (by simp[fR,ra,t0,v0]) (bu (X:=X) Tryz.func111 rfl rfl ?_);simp-implicitDefEqProofs[Nat.add_assoc,dS,iS,hc,hT,hR,hg,iU,ht,hn,gE,eO,h8,a8,qX,qF,nO,EB,s5,mO,oQ,A1,e4,t0,v0,hwv];all_goals ((repeat' apply And.intro)<;>first|omega|rfl|exact lH|(intro i hi e1 e2;have e3:(∀j,¬i=k+j):=(fun j=>(by omega));have e4: ¬i=k:=(by omega);simp[e1,e4])|(intro i hi;have e3:(∀j,¬i=k+j):=(fun j=>(by omega));have e4: ¬i=k:=(by omega);simp[e3,e4]))
  ·refine jF.dd (3) (by decide) (by simp[fR,ra,t0]) (bu (X:=X) Tryz.func111 rfl rfl ?_);simp-implicitDefEqProofs[Nat.add_assoc,pU,iS,hc,hT,hR,hg,iU,ht,hn,h8,a8,qX,qF,nO,mO,oQ,A1,t0];all_goals ((repeat' apply And.intro)<;>first|omega|rfl|exact lH|(intro i hi e1 e2;have e3:(∀j,¬i=k+j):=(fun j=>(by omega));have e4: ¬i=k:=(by omega);simp[e1,e2,e3,e4])|(intro i hi;have e3:(∀j,¬i=k+j):=(fun j=>(by omega));have e4: ¬i=k:=(by omega);simp[e3,e4]))
 ·by_cases YO:x.saved= -1
  ·refine jF.dd (1) (by decide) (by simp[fR,YO]) (bu (X:=X) Tryz.func111 rfl rfl ?_);simp-implicitDefEqProofs[Nat.add_assoc,pU,iS,hc,hT,hR,hg,iU,ht,hn,h8,qX,nO,mO,oQ,A1,YO];all_goals ((repeat' apply And.intro)<;>first|omega|rfl|exact lH|(intro i hi e1 e2;have e3:(∀j,¬i=k+j):=(fun j=>(by omega));have e4: ¬i=k:=(by omega);simp[e1,e2,e3,e4])|(intro i hi;have e3:(∀j,¬i=k+j):=(fun j=>(by omega));have e4: ¬i=k:=(by omega);simp[e3,e4]))
  ·refine jF.go H ht (kK x x.saved x.bm (-1)) (by simp[fR,YO]) (bu (X:=X) Tryz.func111 rfl rfl ?_);simp-implicitDefEqProofs[Nat.add_assoc,dS,iS,hc,hT,hR,hg,iU,ht,hn,gE,eO,h8,qX,nO,EB,s5,mO,oQ,A1,e4,YO];all_goals ((repeat' apply And.intro)<;>first|omega|rfl|exact lH|(intro i hi e1 e2;have e3:(∀j,¬i=k+j):=(fun j=>(by omega));have e4: ¬i=k:=(by omega);simp[e1,e4])|(intro i hi;have e3:(∀j,¬i=k+j):=(fun j=>(by omega));have e4: ¬i=k:=(by omega);simp[e3,e4]))
end Go.Proofs.YtejohpnpnaljdaaGreat
