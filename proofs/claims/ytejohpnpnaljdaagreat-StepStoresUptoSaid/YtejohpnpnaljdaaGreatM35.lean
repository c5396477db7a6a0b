/- Part of a proof: F31. -/
import Derived.Test.YtejohpnpnaljdaaGreatM34
set_option linter.all false
set_option maxRecDepth 20000
set_option maxHeartbeats 20000000
namespace Go.Proofs.YtejohpnpnaljdaaGreat
open Go Go.Abs Go.Abs.lu
theorem Qx{h h1:aY}{k T:Nat}{aZ:Nat->Nat}{t:Nat}{ts:List Thread}{g:FuncId}{args:List V}{x':Thread}{s:Int}{j n:Nat}{E R:List V}(hB:Below k h h1)(hs:aZ t≠T)(hT:cH g args h1 (k+j) T=some ⟨8,E,true⟩)(hE:E=(bZ aZ ts).set t (db aZ t x'))(hR:R=x'.bm.map Cell.e):
  Al h k T aZ t ts g args x' s (.int .i64 s) (aO (cH g args h1 (k+j)) (aZ t) (some ⟨2,R,false⟩)) (cK g args h1 (k+j)+n):=
 ⟨h1,j,hB,rfl,by rw[aO,if_neg (fun e=>hs e.symm),hT,hE],by rw[hR];simp[aO],by omega,fun i _ h1 h2=>by simp[aO,h2]⟩
theorem Qy{h h1:aY}{k T:Nat}{aZ:Nat->Nat}{t:Nat}{ts:List Thread}{g:FuncId}{args:List V}{x':Thread}{s:Int}{j n:Nat}{E:List V}(hB:Below k h h1)(hT:cH g args h1 (k+j) T=some ⟨8,E,true⟩)(hE:E=(bZ aZ ts).set t (db aZ t x'))(hR:cH g args h1 (k+j) (aZ t)=some ⟨2,x'.bm.map Cell.e,false⟩):
  Al h k T aZ t ts g args x' s (.int .i64 s) (cH g args h1 (k+j)) (cK g args h1 (k+j)+n):=
 ⟨h1,j,hB,rfl,by rw[hT,hE],hR,by omega,fun i _ _ _=>rfl⟩
@[simp] theorem Z3(c:V)(gp AU AV AW nM:Int)(p:Prog)(h:aY)(k cB b:Nat)(vB:V)(C L T:Nat)(ids aZ:Nat->Nat)(mm:bf)(tn:Nat)(d:Int)(x:Thread)(op:Int)(a b' c:Nat)(dy:Int)(H:dc h k b vB C L T ids aZ mm)(HG:cR p d mm)(HC:tK h k cB b C L T ids aZ p tn)(hd:d<=1099511628776)(ht:tn<4)(Gx:vB= .sl false (mm.layout.aD.map (V.int .i64)))(ug:cg mm tn=x)(hI:Cm p.code.length p.ae.length ⟨op,a,b',c,dy⟩)(iA:0<=op/\op<=17):jF (cy X 112 [.ptr cB 0 0,.agg [op,(a:Int),(b':Int),(c:Int),dy]] h k) p h k b vB C L T ids aZ mm tn x ⟨op,a,b',c,dy⟩ (pV x.pc):=by
 have hl:=H.len;have lp:tn<mm.threads.length:=by omega
 have oE:(tn:Int)<4:=by omega
 have qz:=HG.nv tn lp;have hR:=H.Ez tn lp;have hg:=eF (ids:=aZ) lp;have hT:=H.nv;have iU:=ed aZ mm.threads;rw[hl]at iU;have hb:=H.sE;unfold jo at hb;rw[hl,Gx]at hb;have hc:=HC.box;have nq:mm.threads[tn]=x:=by rw[<-ug];exact(ie lp).symm
 rw[nq]at qz hR;simp only[nq]at hg;obtain⟨s1,s3,s4,s5,s6⟩:=H.qB tn ht;have Da: ¬T=aZ tn:=fun e=>s5 e.symm;have s1': ¬b=aZ tn:=fun e=>s1 e.symm;obtain⟨u1,u2,u3,u4⟩:=H.ym;have u1': ¬b=T:=fun e=>u1 e.symm;have jW:=HC.lt;obtain⟨e1,e2,e3,e4⟩:=HC.ne;have e5:=(HC.ni tn ht).2;have e6: ¬T=cB:=fun e=>e4 e.symm;have eX:=H.mem.lt.1;have q1: ∀j,¬b=k+j:=fun j=>by omega
 have q2: ∀j,¬T=k+j:=fun j=>by omega
 have q3: ∀j,¬aZ tn=k+j:=fun j=>by omega
 have q4: ∀j,¬k+j=b:=fun j=>by omega
 have q5: ∀j,¬k+j=T:=fun j=>by omega
 have q6: ∀j,¬k+j=aZ tn:=fun j=>by omega
 have q7: ∀j,¬cB=k+j:=fun j=>by omega
 have q8: ∀j,¬k+j=cB:=fun j=>by omega
 have pq: ¬b=k:=by omega
 have mO: ¬T=k:=by omega
 have oQ: ¬aZ tn=k:=by omega
 have A1: ¬cB=k:=by omega
 have q4z: ¬k=b:=by omega
 have q5z: ¬k=T:=by omega
 have q6z: ¬k=aZ tn:=by omega
 have q8z: ¬k=cB:=by omega
 have Gq:=qz.pc;obtain⟨n,hn⟩: ∃n:Nat,x.pc=n:=⟨x.pc.toNat,by omega⟩;have h8:=qz.bm;have QX:p.code.length<=64:=HG.prog.pk;have FR:=qz.count;have EB:IntKind.i64.wrap (x.count+1)=x.count+1:=wrap_i64 (by omega);have lH:bZ aZ mm.threads=(bZ aZ mm.threads).set tn (.agg [.int .i64 x.state,.bU (aZ tn) 0 8,(n:Int),.int .i64 x.count,.int .i64 x.bV,.int .i64 x.saved,.int .i64 x.dd,.int .u16 x.code]):=by
  have ahh:tn<(bZ aZ mm.threads).length:=by omega
  have:=hg ahh;rw[h8,hn]at this;rw[<-this,List.set_getElem_self]
 obtain⟨o1,ia,ib,ic,im,ij,il,is⟩:=hI;simp only at o1 ia ib ic im ij il is;have qX:(a:Int)<8:=ia.2;have vS:(b':Int)<8:=ib.2;have c8i:(c:Int)<8:=ic.2;have a8:a<8:=by omega
 have b8:b'<8:=by omega
 have c8:c<8:=by omega
 have al:a<x.bm.length:=by omega
 have bl:b'<x.bm.length:=by omega
 have cl:c<x.bm.length:=by omega
 have eY:IntKind.u16.wrap dy=dy:=wrap_u16 im;have hL:=HG.lay;have hlen:=hL.len;obtain⟨xa,qF⟩: ∃v,x.bm[a]=v:=⟨_,rfl⟩;obtain⟨xb,tU⟩: ∃v,x.bm[b']=v:=⟨_,rfl⟩;obtain⟨xc,U9⟩: ∃v,x.bm[c]=v:=⟨_,rfl⟩;have ra:iR x a=xa:=by rw[kC al,qF]
 have rb:iR x b'=xb:=by rw[kC bl,tU]
 have rc:iR x c=xc:=by rw[kC cl,U9]
 have ca:hY xa:=by rw[<-ra];exact iH qz _
 have cb:hY xb:=by rw[<-rb];exact iH qz _
 have cc:hY xc:=by rw[<-rc];exact iH qz _
 have eX:=H.mem.lt;obtain⟨pc,ps,pd⟩:=p;simp only at ij il is hc QX hL hlen;have oc:op=0\/op=1\/op=2\/(3<=op/\op<=14)\/op=15\/op=16\/op=17:=by omega
 rcases oc with rfl|rfl|rfl|ho|rfl|rfl|rfl
 ·refine jF.go H ht (si x (n+1) x.bm) (by simp[fR,hn,si]) (bu (X:=X) Tryz.func112 rfl rfl ?_);simp-implicitDefEqProofs[Nat.add_assoc,dS,iS,hb,hc,hT,hR,hg,iU,ht,hn,lS,pz,h8,q2,q3,q7,pq,mO,oQ,A1];all_goals ((repeat' apply And.intro)<;>first|omega|rfl|exact lH|(intro i hi e1 e2;have e3:(∀j,¬i=k+j):=(fun j=>(by omega));have e4: ¬i=k:=(by omega);simp[e3,e4])|(intro i hi;have e3:(∀j,¬i=k+j):=(fun j=>(by omega));have e4: ¬i=k:=(by omega);simp[e3,e4]))
 ·refine jF.go H ht (si x (n+1) (x.bm.set a ⟨0,dy⟩)) (by simp[fR,hn,l5,si]) (bu (X:=X) Tryz.func112 rfl rfl ?_);simp-implicitDefEqProofs[Nat.add_assoc,dS,iS,hb,hc,hT,hR,hg,iU,ht,hn,lS,pz,h8,a8,qX,qF,eY,Da,q2,q3,q7,pq,mO,oQ,A1,Cell.bP];all_goals ((repeat' apply And.intro)<;>first|omega|rfl|exact lH|(intro i hi e1 e2;have e3:(∀j,¬i=k+j):=(fun j=>(by omega));have e4: ¬i=k:=(by omega);simp[e2,e3,e4])|(intro i hi;have e3:(∀j,¬i=k+j):=(fun j=>(by omega));have e4: ¬i=k:=(by omega);simp[e3,e4]))
 ·refine jF.go H ht (si x (n+1) (x.bm.set a xb)) (by simp[fR,hn,l5,rb,si]) (bu (X:=X) Tryz.func112 rfl rfl ?_);simp-implicitDefEqProofs[Nat.add_assoc,dS,iS,hb,hc,hT,hR,hg,iU,ht,hn,lS,pz,h8,a8,b8,qX,vS,qF,tU,Da,q2,q3,q7,pq,mO,oQ,A1];all_goals ((repeat' apply And.intro)<;>first|omega|rfl|exact lH|(intro i hi e1 e2;have e3:(∀j,¬i=k+j):=(fun j=>(by omega));have e4: ¬i=k:=(by omega);simp[e2,e3,e4])|(intro i hi;have e3:(∀j,¬i=k+j):=(fun j=>(by omega));have e4: ¬i=k:=(by omega);simp[e3,e4]))
 ·obtain⟨⟨dt,dv⟩,w,YK⟩: ∃r w,n7 mm.layout.aD ps op xb xc=(r,w):=⟨_,_,rfl⟩;obtain⟨xbt,xbv⟩:=xb;obtain⟨xct,xcv⟩:=xc;have cb2:=cb.2;have cc2:=cc.2;simp only at cb2 cc2;have m0: ¬op=0:=by omega
  have m1: ¬op=1:=by omega
  have m2: ¬op=2:=by omega
  have YL: ¬op=15:=by omega
  have YM: ¬op=16:=by omega
  have YN: ¬op=17:=by omega
  have m18: ¬op=18:=by omega
  have m19: ¬op=19:=by omega
  have m20: ¬op=20:=by omega
  have m21: ¬op=21:=by omega
  have m22: ¬op=22:=by omega
  have m23: ¬op=23:=by omega
  have m24: ¬op=24:=by omega
  by_cases um:w=0
  ·refine jF.go H ht (si x (n+1) (x.bm.set a ⟨dt,dv⟩)) (by simp[fR,hn,l5,rb,rc,YK,um,m0,m1,m2,YL,YM,YN,m18,m19,m20,m21,m22,m23,m24]) (bu (X:=X) Tryz.func112 rfl rfl ?_);simp-implicitDefEqProofs[Nat.add_assoc,dS,iS,hb,hc,hT,hR,hg,iU,ht,hn,lS,pz,h8,a8,b8,c8,qX,vS,c8i,qF,tU,U9,Da,q2,q3,q7,pq,mO,oQ,A1,m0,m1,m2,YL,YM,YN,hL,cb2,cc2,YK,um,Cell.bP];all_goals ((repeat' apply And.intro)<;>first|omega|rfl|exact lH|(intro i hi e1 e2;have e3:(∀j,¬i=k+j):=(fun j=>(by omega));have e4: ¬i=k:=(by omega);simp[e2,e3,e4])|(intro i hi;have e3:(∀j,¬i=k+j):=(fun j=>(by omega));have e4: ¬i=k:=(by omega);simp[e3,e4]))
  ·refine jF.dd (w) (by exact um) (by simp[fR,rb,rc,YK,um,m0,m1,m2,YL,YM,YN,m18,m19,m20,m21,m22,m23,m24]) (bu (X:=X) Tryz.func112 rfl rfl ?_);simp-implicitDefEqProofs[Nat.add_assoc,pU,iS,hb,hc,hT,hR,hg,iU,ht,hn,h8,b8,c8,vS,c8i,tU,U9,q3,q7,pq,mO,oQ,A1,m0,m1,m2,YL,YM,YN,hL,cb2,cc2,YK,um];all_goals ((repeat' apply And.intro)<;>first|omega|rfl|exact lH|(intro i hi e1 e2;have e3:(∀j,¬i=k+j):=(fun j=>(by omega));have e4: ¬i=k:=(by omega);simp[e1,e2,e3,e4])|(intro i hi;have e3:(∀j,¬i=k+j):=(fun j=>(by omega));have e4: ¬i=k:=(by omega);simp[e3,e4]))
 ·obtain⟨DF,rfl⟩:=Int.eq_ofNat_of_zero_le im.1;have i1:=il rfl;have i2:DF<ps.length:=by omega
  have i3:DF<mm.layout.aD.length:=by rw[hlen];exact i2
  have i3i:(DF:Int)<mm.layout.aD.length:=by omega
  have bb:=hL.base DF i3 i2;have zz:=hL.sz.elem DF i2;have Cf:IntKind.u16.wrap mm.layout.aD[DF]=mm.layout.aD[DF]:=wrap_u16 (by omega);have BH:nth mm.layout.aD DF=mm.layout.aD[DF]:=cZ i3;refine jF.go H ht (si x (n+1) (x.bm.set a ⟨1,mm.layout.aD[DF]⟩)) (by simp[fR,hn,l5,BH]) (bu (X:=X) Tryz.func112 rfl rfl ?_);simp-implicitDefEqProofs[Nat.add_assoc,dS,iS,hb,hc,hT,hR,hg,iU,ht,hn,lS,pz,h8,a8,qX,qF,Da,q2,q3,q7,pq,mO,oQ,A1,Cell.bP,i3,i3i,Cf];all_goals ((repeat' apply And.intro)<;>first|omega|rfl|exact lH|(intro i hi e1 e2;have e3:(∀j,¬i=k+j):=(fun j=>(by omega));have e4: ¬i=k:=(by omega);simp[e2,e3,e4])|(intro i hi;have e3:(∀j,¬i=k+j):=(fun j=>(by omega));have e4: ¬i=k:=(by omega);simp[e3,e4]))
 ·obtain⟨r,w,Cs⟩: ∃r w,jb mm.layout.aD ps xb dy false=(r,w):=⟨_,_,rfl⟩;have c2:=cb.2;have LF:=qV (aD:=mm.layout.aD) (ae:=ps) hL (p:=xb) (n:=dy) (back:=false);rw[Cs]at LF;simp only at LF;by_cases um:w=0
  case neg=>
   obtain⟨xt,xv⟩:=xb;simp only at c2;refine jF.dd w um (by simp[fR,rb,Cs,um]) (bu (X:=X) Tryz.func112 rfl rfl ?_);simp-implicitDefEqProofs[Nat.add_assoc,pU,iS,hb,hc,hT,hR,hg,iU,ht,hn,h8,b8,vS,tU,eY,q3,q7,pq,mO,oQ,A1,hL,im,c2,Cs,um];all_goals ((repeat' apply And.intro)<;>first|omega|rfl|exact lH|(intro i hi e1 e2;have e3:(∀j,¬i=k+j):=(fun j=>(by omega));have e4: ¬i=k:=(by omega);simp[e1,e2,e3,e4])|(intro i hi;have e3:(∀j,¬i=k+j):=(fun j=>(by omega));have e4: ¬i=k:=(by omega);simp[e3,e4]))
  obtain⟨av,hr,DG⟩:=LF um;subst um;subst hr;have IH:IntKind.i64.wrap (av:Int)=av:=wrap_i64 (by omega);have HM: ∀(h1:aY) (j:Nat),Below k h h1->ja h1 (k+j) b C L ids vB (.int .u16 mm.layout.key) (.bU T 0 4) mm.memory:=fun h1 j gG=>by have:=(H.mono (k':=k+j) (by omega) gG).mem;rwa[hl]at this
  have lf: ∀(h1:aY) (j:Nat),Below k h h1->cy X 156 [.ptr b 0 2,.int .i64 (av:Int)] h1 (k+j)=some ((.de [.agg [.int .u8 (kX mm.memory av).tag,.int .u16 (kX mm.memory av).val],.bool true]),cH 156 [.ptr b 0 2,.int .i64 (av:Int)] h1 (k+j),cK 156 [.ptr b 0 2,.int .i64 (av:Int)] h1 (k+j))/\ ∃fg,dc (cH 156 [.ptr b 0 2,.int .i64 (av:Int)] h1 (k+j)) (cK 156 [.ptr b 0 2,.int .i64 (av:Int)] h1 (k+j)) b vB C L T fg aZ ⟨mm.layout,cU mm.memory av,mm.threads⟩/\k+j<=cK 156 [.ptr b 0 2,.int .i64 (av:Int)] h1 (k+j)/\(∀j,j<4->fg j=ids j\/k<=fg j)/\ ∀i,i<k+j->i≠C->i≠L->(∀j,j<4->i≠ids j)->cH 156 [.ptr b 0 2,.int .i64 (av:Int)] h1 (k+j) i=h1 i:=fun h1 j gG=>by
   obtain⟨h',k',ft,e,G,g1,g2,g3⟩:=afi .bad 0 h1 (k+j) b C L ids vB (.int .u16 mm.layout.key) (.bU T 0 4) mm.memory av (HM h1 j gG) DG;have e:cy X 156 [.ptr b 0 2,.int .i64 (av:Int)] h1 (k+j)=some ((.de [.agg [.int .u8 (kX mm.memory av).tag,.int .u16 (kX mm.memory av).val],.bool true]),h',k'):=e;obtain⟨e1,e2⟩:=tS e;rw[e1,e2];have HH:dc h1 (k+j) b vB C L T ids aZ mm:=H.mono (by omega) gG;exact⟨e,ft,HH.memory g1 (by rw[hl];exact G) g2 g3,g1,fun j hj=>by rcases g2 j hj with e|e;exact .inl e;exact .inr (by omega),g3⟩
  have cl:=fun h1 j gG=>(lf h1 j gG).1;have lT: ∀(h1:aY) (j:Nat),Below k h h1->cH 156 [.ptr b 0 2,.int .i64 (av:Int)] h1 (k+j) T=some ⟨8,bZ aZ mm.threads,true⟩:=fun h1 j gG=>by obtain⟨_,_,G,_⟩:=lf h1 j gG;exact G.nv
  have lR: ∀(h1:aY) (j:Nat),Below k h h1->cH 156 [.ptr b 0 2,.int .i64 (av:Int)] h1 (k+j) (aZ tn)=some ⟨2,x.bm.map Cell.e,false⟩:=fun h1 j gG=>by obtain⟨_,_,G,_⟩:=lf h1 j gG;rw[G.Ez tn lp];simp only[nq]
  have lF: ∀(h1:aY) (j i:Nat),Below k h h1->i<j->cH 156 [.ptr b 0 2,.int .i64 (av:Int)] h1 (k+j) (k+i)=h1 (k+i):=fun h1 j i gG jk=>by
   obtain⟨_,_,_,_,_,g⟩:=lf h1 j gG;exact g (k+i) (by omega) (by omega) (by omega) fun j hj=>by have:=eX.2.2.2 j hj;omega
  have lF0: ∀(h1:aY) (j:Nat),Below k h h1->0<j->cH 156 [.ptr b 0 2,.int .i64 (av:Int)] h1 (k+j) k=h1 k:=fun h1 j gG jk=>lF h1 j 0 gG jk;have lT0:(bZ aZ mm.threads)=(bZ aZ mm.threads).set tn (db aZ tn (pV x.pc (si x (n+1) (x.bm.set a (kX mm.memory av))))):=by
   have e0:db aZ tn (pV x.pc (si x (n+1) (x.bm.set a (kX mm.memory av))))= .agg [.int .i64 x.state,.bU (aZ tn) 0 8,(n:Int),.int .i64 x.count,.int .i64 x.bV,.int .i64 x.saved,.int .i64 x.dd,.int .u16 x.code]:=by
    rw[lS,hn];simp only[List.length_set,h8]
   rw[e0];exact lH
  rw[hn]at lT0;obtain⟨v,h',n',e,h1,j,gG,hE⟩:=bu (X:=X) (g:=112) (args:=[.ptr cB 0 0,.agg [.int .i64 16,(a:Int),(b':Int),(c:Int),.int .i64 dy]]) (h:=h) (k:=k) (K:=Al h k T aZ tn mm.threads 156 [.ptr b 0 2,.int .i64 (av:Int)] (pV x.pc (si x (n+1) (x.bm.set a (kX mm.memory av)))) 0) Tryz.func112 rfl rfl (by
    simp-implicitDefEqProofs[Nat.add_assoc,iS,hb,hc,hT,hR,hg,iU,ht,hn,h8,a8,b8,qX,vS,qF,tU,eY,q3,q7,pq,mO,oQ,A1,hL,im,c2,Cs,IH,cl,lR,lF0,bN,bS,cp];exact Qx (by simp only[bN,bS,cp]) s5 (lT _ _ (by simp only[bN,bS,cp])) lT0 (by simp[pz,Cell.bP]))
  obtain⟨_,fg,G,g1,gi,g2⟩:=lf h1 j gG;exact jF.ade H ht G (by omega) gi (fun i hi hC DE qT=>by rw[g2 i (by omega) hC DE qT,gG i hi]) (si x (n+1) (x.bm.set a (kX mm.memory av))) (by simp[fR,hn,l5,rb,Cs]) ⟨v,h',n',e,hE⟩
 ·obtain⟨r,w,Cs⟩: ∃r w,jb mm.layout.aD ps xa dy false=(r,w):=⟨_,_,rfl⟩;have c2:=ca.2;have LF:=qV (aD:=mm.layout.aD) (ae:=ps) hL (p:=xa) (n:=dy) (back:=false);rw[Cs]at LF;simp only at LF;by_cases um:w=0
  case neg=>
   obtain⟨xt,xv⟩:=xa;simp only at c2;refine jF.dd w um (by simp[fR,ra,Cs,um]) (bu (X:=X) Tryz.func112 rfl rfl ?_);simp-implicitDefEqProofs[Nat.add_assoc,pU,iS,hb,hc,hT,hR,hg,iU,ht,hn,h8,a8,b8,qX,vS,qF,tU,eY,q3,q7,pq,mO,oQ,A1,hL,im,c2,Cs,um];all_goals ((repeat' apply And.intro)<;>first|omega|rfl|exact lH|(intro i hi e1 e2;have e3:(∀j,¬i=k+j):=(fun j=>(by omega));have e4: ¬i=k:=(by omega);simp[e1,e2,e3,e4])|(intro i hi;have e3:(∀j,¬i=k+j):=(fun j=>(by omega));have e4: ¬i=k:=(by omega);simp[e3,e4]))
  obtain⟨av,hr,DG⟩:=LF um;subst um;subst hr;have IH:IntKind.i64.wrap (av:Int)=av:=wrap_i64 (by omega);have HM: ∀(h1:aY) (j:Nat),Below k h h1->ja h1 (k+j) b C L ids vB (.int .u16 mm.layout.key) (.bU T 0 4) mm.memory:=fun h1 j gG=>by have:=(H.mono (k':=k+j) (by omega) gG).mem;rwa[hl]at this
  have lf: ∀(h1:aY) (j:Nat),Below k h h1->cy X 155 [.ptr b 0 2,.int .i64 (av:Int),.agg [.int .u8 xb.tag,.int .u16 xb.val]] h1 (k+j)=some ((.bool true),cH 155 [.ptr b 0 2,.int .i64 (av:Int),.agg [.int .u8 xb.tag,.int .u16 xb.val]] h1 (k+j),cK 155 [.ptr b 0 2,.int .i64 (av:Int),.agg [.int .u8 xb.tag,.int .u16 xb.val]] h1 (k+j))/\ ∃fg,dc (cH 155 [.ptr b 0 2,.int .i64 (av:Int),.agg [.int .u8 xb.tag,.int .u16 xb.val]] h1 (k+j)) (cK 155 [.ptr b 0 2,.int .i64 (av:Int),.agg [.int .u8 xb.tag,.int .u16 xb.val]] h1 (k+j)) b vB C L T fg aZ ⟨mm.layout,mz mm.memory av xb,mm.threads⟩/\k+j<=cK 155 [.ptr b 0 2,.int .i64 (av:Int),.agg [.int .u8 xb.tag,.int .u16 xb.val]] h1 (k+j)/\(∀j,j<4->fg j=ids j\/k<=fg j)/\ ∀i,i<k+j->i≠C->i≠L->(∀j,j<4->i≠ids j)->cH 155 [.ptr b 0 2,.int .i64 (av:Int),.agg [.int .u8 xb.tag,.int .u16 xb.val]] h1 (k+j) i=h1 i:=fun h1 j gG=>by
   obtain⟨h',k',ft,e,G,g1,g2,g3⟩:=Yt .bad 0 xb.tag xb.val h1 (k+j) b C L ids vB (.int .u16 mm.layout.key) (.bU T 0 4) mm.memory av xb (HM h1 j gG) DG cb.l4;have e:cy X 155 [.ptr b 0 2,.int .i64 (av:Int),.agg [.int .u8 xb.tag,.int .u16 xb.val]] h1 (k+j)=some ((.bool true),h',k'):=e;obtain⟨e1,e2⟩:=tS e;rw[e1,e2];have HH:dc h1 (k+j) b vB C L T ids aZ mm:=H.mono (by omega) gG;exact⟨e,ft,HH.memory g1 (by rw[hl];exact G) g2 g3,g1,fun j hj=>by rcases g2 j hj with e|e;exact .inl e;exact .inr (by omega),g3⟩
  have cl:=fun h1 j gG=>(lf h1 j gG).1;have lT: ∀(h1:aY) (j:Nat),Below k h h1->cH 155 [.ptr b 0 2,.int .i64 (av:Int),.agg [.int .u8 xb.tag,.int .u16 xb.val]] h1 (k+j) T=some ⟨8,bZ aZ mm.threads,true⟩:=fun h1 j gG=>by obtain⟨_,_,G,_⟩:=lf h1 j gG;exact G.nv
  have lR: ∀(h1:aY) (j:Nat),Below k h h1->cH 155 [.ptr b 0 2,.int .i64 (av:Int),.agg [.int .u8 xb.tag,.int .u16 xb.val]] h1 (k+j) (aZ tn)=some ⟨2,x.bm.map Cell.e,false⟩:=fun h1 j gG=>by obtain⟨_,_,G,_⟩:=lf h1 j gG;rw[G.Ez tn lp];simp only[nq]
  have lF: ∀(h1:aY) (j i:Nat),Below k h h1->i<j->cH 155 [.ptr b 0 2,.int .i64 (av:Int),.agg [.int .u8 xb.tag,.int .u16 xb.val]] h1 (k+j) (k+i)=h1 (k+i):=fun h1 j i gG jk=>by
   obtain⟨_,_,_,_,_,g⟩:=lf h1 j gG;exact g (k+i) (by omega) (by omega) (by omega) fun j hj=>by have:=eX.2.2.2 j hj;omega
  have lF0: ∀(h1:aY) (j:Nat),Below k h h1->0<j->cH 155 [.ptr b 0 2,.int .i64 (av:Int),.agg [.int .u8 xb.tag,.int .u16 xb.val]] h1 (k+j) k=h1 k:=fun h1 j gG jk=>lF h1 j 0 gG jk;have lT0:(bZ aZ mm.threads)=(bZ aZ mm.threads).set tn (db aZ tn (pV x.pc (si x (n+1) x.bm))):=by
   have e0:db aZ tn (pV x.pc (si x (n+1) x.bm))= .agg [.int .i64 x.state,.bU (aZ tn) 0 8,(n:Int),.int .i64 x.count,.int .i64 x.bV,.int .i64 x.saved,.int .i64 x.dd,.int .u16 x.code]:=by
    rw[lS,hn];simp only[h8]
   rw[e0];exact lH
  rw[hn]at lT0;obtain⟨v,h',n',e,h1,j,gG,hE⟩:=bu (X:=X) (g:=112) (args:=[.ptr cB 0 0,.agg [.int .i64 17,(a:Int),(b':Int),(c:Int),.int .i64 dy]]) (h:=h) (k:=k) (K:=Al h k T aZ tn mm.threads 155 [.ptr b 0 2,.int .i64 (av:Int),.agg [.int .u8 xb.tag,.int .u16 xb.val]] (pV x.pc (si x (n+1) x.bm)) 0) Tryz.func112 rfl rfl (by
    simp-implicitDefEqProofs[Nat.add_assoc,iS,hb,hc,hT,hR,hg,iU,ht,hn,h8,a8,b8,qX,vS,qF,tU,eY,q3,q7,pq,mO,oQ,A1,hL,im,c2,Cs,IH,cl,bN,bS,cp];exact Qy (by simp only[bN,bS,cp]) (lT _ _ (by simp only[bN,bS,cp])) lT0 (lR _ _ (by simp only[bN,bS,cp])))
  obtain⟨_,fg,G,g1,gi,g2⟩:=lf h1 j gG;exact jF.ade H ht G (by omega) gi (fun i hi hC DE qT=>by rw[g2 i (by omega) hC DE qT,gG i hi]) (si x (n+1) x.bm) (by simp[fR,hn,ra,rb,Cs]) ⟨v,h',n',e,hE⟩
end Go.Proofs.YtejohpnpnaljdaaGreat
