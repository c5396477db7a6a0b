/- Part of a proof: F9B. -/
import Derived.Test.YtejohpnpnaljdaaGreatM32
set_option linter.all false
set_option maxRecDepth 20000
set_option maxHeartbeats 20000000
namespace Go.Proofs.YtejohpnpnaljdaaGreat
open Go Go.Abs Go.Abs.lu
@[simp] theorem amp(ay:List Instr)(ah:List Int)(az:List (List Int))(m:V)(t:Int)(h:aY)(k b:Nat)(vB:V)(C L T:Nat)(ids aZ:Nat->Nat)(mm:bf)(tn:Nat)(d:Int)(H:dc h k b vB C L T ids aZ mm)(HG:cR (Prog.mk ay ah az) d mm)(hd:d<=1099511628776)(ht:tn<4)(hBB: ∃B,vB= .bU B 0 mm.layout.aD.length):eM (cy X 65 [(ay,ah,az),.ptr b 0 0,(tn:Int)] h k) (Prog.mk ay ah az) h k b vB C L T ids aZ mm tn:=by
 have hl:=H.len;have lp:tn<mm.threads.length:=by omega
 have oE:(tn:Int)<4:=by omega
 have qz:=HG.nv tn lp;have hR:=H.Ez tn lp;have hg:=eF (ids:=aZ) lp;have hT:=H.nv;have iU:=ed aZ mm.threads;rw[hl]at iU;have hb:=H.sE;unfold jo at hb;rw[hl]at hb;have ct: ∀(h2:aY) (k2:Nat) (w:Int),h2 T=some ⟨8,bZ aZ mm.threads,true⟩->cy X 113 [.ptr T tn 0,.int .i64 w] h2 k2=some (.int .i64 2,aO h2 T (some ⟨8,(bZ aZ mm.threads).set tn (db aZ tn (gd mm.threads[tn] w)),true⟩),k2+15):=fun h2 k2 w g=>by
  rw[gq lp];exact UO .bad 0 h2 k2 T tn w aZ mm.threads g lp
 have ug:cg mm tn=mm.threads[tn]:=ie lp;obtain⟨x,nq⟩: ∃x,mm.threads[tn]=x:=⟨_,rfl⟩;rw[nq]at qz hR ug;simp only[nq]at hg ct;obtain⟨s1,s3,s4,s5,s6⟩:=H.qB tn ht;have Da: ¬T=aZ tn:=fun e=>s5 e.symm;have s1': ¬b=aZ tn:=fun e=>s1 e.symm;obtain⟨u1,u2,u3,u4⟩:=H.ym;have u1': ¬b=T:=fun e=>u1 e.symm;have eX:=H.mem.lt.1;have q1: ∀j,¬b=k+j:=fun j=>by omega
 have q2: ∀j,¬T=k+j:=fun j=>by omega
 have q3: ∀j,¬aZ tn=k+j:=fun j=>by omega
 have q4: ∀j,¬k+j=b:=fun j=>by omega
 have q5: ∀j,¬k+j=T:=fun j=>by omega
 have q6: ∀j,¬k+j=aZ tn:=fun j=>by omega
 have pq: ¬b=k:=by omega
 have mO: ¬T=k:=by omega
 have oQ: ¬aZ tn=k:=by omega
 have Gq:=qz.pc;obtain⟨n,hn⟩: ∃n:Nat,x.pc=n:=⟨x.pc.toNat,by omega⟩;have h8:=qz.bm;have QX:ay.length<=64:=HG.prog.pk;have FR:=qz.count;have EB:IntKind.i64.wrap (x.count+1)=x.count+1:=wrap_i64 (by omega);have nO:=cS n (by omega);have frame: ∀(h2:aY),(∀i,i<k->i≠T->i≠aZ tn->h2 i=h i)-> ∀i,i<k->i≠T->i≠aZ tn->h2 i=h i:=fun _ g=>g;by_cases oV:n<ay.length
 case neg=>
  have oF:(ay.length:Int)<=n:=by omega
  refine eM.of H ht (gd x 2) 2 (by rw[ug];exact EA (by simp only;omega)) (bu (X:=X) Tryz.func65 rfl rfl ?_);simp-implicitDefEqProofs[Nat.add_assoc,dS,hb,hT,hR,hg,iU,ht,oE,hn,oF,ct,kV,gU,s5,pq,mO,oQ];all_goals ((repeat' apply And.intro)<;>first|omega|rfl|(intro i hi e1 e2;have e3:(∀j,¬i=k+j):=(fun j=>(by omega));have e4: ¬i=k:=(by omega);simp[e1,e4]))
 have oF: ¬(ay.length:Int)<=n:=by omega
 have hI:=HG.prog.zy (p:=(Prog.mk ay ah az)) oV;simp only at hI;obtain⟨⟨op,ai,bi,ci,dy⟩,hi⟩: ∃i,ay[n]=i:=⟨_,rfl⟩;rw[hi]at hI;obtain⟨o1,ia,ib,ic,im,ij,il,is⟩:=hI;simp only at o1 ia ib ic im ij il is;obtain⟨a,rfl⟩:=Int.eq_ofNat_of_zero_le ia.1;obtain⟨b',rfl⟩:=Int.eq_ofNat_of_zero_le ib.1;obtain⟨c,rfl⟩:=Int.eq_ofNat_of_zero_le ic.1;have qX:(a:Int)<8:=ia.2;have vS:(b':Int)<8:=ib.2;have c8i:(c:Int)<8:=ic.2;have a8:a<8:=by omega
 have b8:b'<8:=by omega
 have c8:c<8:=by omega
 have al:a<x.bm.length:=by omega
 have bl:b'<x.bm.length:=by omega
 have cl:c<x.bm.length:=by omega
 have eY:IntKind.u16.wrap dy=dy:=wrap_u16 im;have hL:=HG.lay;have hlen:=hL.len;simp only at hL hlen;obtain⟨B,Gx,Bi,⟨nB,nB2,amo,nB3,nBk⟩,nBi,nBr⟩: ∃B,vB= .bU B 0 mm.layout.aD.length/\h B=some ⟨1,mm.layout.aD.map (V.int .i64),false⟩/\(B≠b/\B≠C/\B≠L/\B≠T/\B<k)/\(∀j,j<4->ids j≠B)/\ ∀i,i<4->aZ i≠B:=by
  rcases H.aD with e|e
  ·obtain⟨_,e2⟩:=hBB;rw[e]at e2;cases e2
  ·exact e
 have nB4: ∀j,¬B=k+j:=fun j=>by omega
 have IG: ¬B=k:=by omega
 have vL: ∀y:Cell,(⟨y.tag,y.val⟩:Cell)=y:=fun _=>rfl;have pL:(aN.mk mm.layout.aD mm.layout.key)=mm.layout:=rfl;have hs: ∀r,fR (Prog.mk ay ah az) mm x ⟨op,a,b',c,dy⟩=r->mB (Prog.mk ay ah az) mm (cg mm tn)=r:=fun r g=>by rw[ug,Cr (p:=(Prog.mk ay ah az)) hn oV hi,g]
 obtain⟨xa,qF⟩: ∃v,x.bm[a]=v:=⟨_,rfl⟩;obtain⟨xb,tU⟩: ∃v,x.bm[b']=v:=⟨_,rfl⟩;obtain⟨xc,U9⟩: ∃v,x.bm[c]=v:=⟨_,rfl⟩;have ra:iR x a=xa:=by rw[kC al,qF]
 have rb:iR x b'=xb:=by rw[kC bl,tU]
 have rc:iR x c=xc:=by rw[kC cl,U9]
 have ca:hY xa:=by rw[<-ra];exact iH qz _
 have cb:hY xb:=by rw[<-rb];exact iH qz _
 have cc:hY xc:=by rw[<-rc];exact iH qz _
 have eX:=H.mem.lt;have HM: ∀(h1:aY) (j:Nat),Below k h h1->ja h1 (k+j) b C L ids vB (.int .u16 mm.layout.key) (.bU T 0 4) mm.memory:=fun h1 j gG=>by have:=(H.mono (k':=k+j) (by omega) gG).mem;rwa[hl]at this
 have br:dW 18=true/\dW 19=true/\dW 20=true/\dW 21=true/\dW 22=true/\dW 24=true/\ ∀o:Int,0<=o->o<=17->dW o=false:=⟨by decide,by decide,by decide,by decide,by decide,by decide,fun o h1 h2=>by simp[dW,jumps];omega⟩;obtain⟨br1,br2,br3,br4,br5,br6,br7⟩:=br;have oc:op=0\/op=1\/op=2\/(3<=op/\op<=14)\/op=15\/op=16\/op=17\/op=18\/op=19\/op=20\/op=21\/op=22\/op=23\/op=24:=by omega
 rcases oc with rfl|rfl|rfl|ho|rfl|rfl|rfl|rfl|rfl|rfl|rfl|rfl|rfl|rfl
 ·refine eM.of H ht (si x (n+1) x.bm) (-1) (hs _ (by simp[fR,hn,si])) (bu (X:=X) Tryz.func65 rfl rfl ?_);simp-implicitDefEqProofs[Nat.add_assoc,dS,hb,hT,hR,hg,iU,ht,oE,hn,oV,oF,hi,sH,ny,h8,a8,b8,qX,vS,qF,tU,nO,s5,q2,q3,q5,pq,mO,oQ,br7];all_goals ((repeat' apply And.intro)<;>first|omega|rfl|(intro i hi e1 e2;have e3:(∀j,¬i=k+j):=(fun j=>(by omega));have e4: ¬i=k:=(by omega);simp[e1,e3,e4]))
 ·refine eM.of H ht (si x (n+1) (x.bm.set a ⟨0,dy⟩)) (-1) (hs _ (by simp[fR,hn,l5,si])) (bu (X:=X) Tryz.func65 rfl rfl ?_);simp-implicitDefEqProofs[Nat.add_assoc,dS,hb,hT,hR,hg,iU,ht,oE,hn,oV,oF,hi,sH,ny,h8,a8,b8,qX,vS,qF,tU,nO,eY,s5,Da,q2,q3,q5,q6,pq,mO,oQ,br7,Cell.bP];all_goals ((repeat' apply And.intro)<;>first|omega|rfl|(intro i hi e1 e2;have e3:(∀j,¬i=k+j):=(fun j=>(by omega));have e4: ¬i=k:=(by omega);simp[e1,e2,e3,e4]))
 ·refine eM.of H ht (si x (n+1) (x.bm.set a xb)) (-1) (hs _ (by simp[fR,hn,l5,rb,si])) (bu (X:=X) Tryz.func65 rfl rfl ?_);simp-implicitDefEqProofs[Nat.add_assoc,dS,hb,hT,hR,hg,iU,ht,oE,hn,oV,oF,hi,sH,ny,h8,a8,b8,qX,vS,qF,tU,nO,s5,Da,q2,q3,q5,q6,pq,mO,oQ,br7];all_goals ((repeat' apply And.intro)<;>first|omega|rfl|(intro i hi e1 e2;have e3:(∀j,¬i=k+j):=(fun j=>(by omega));have e4: ¬i=k:=(by omega);simp[e1,e2,e3,e4]))
 ·exact PE ay ah az m t h k b vB C L T ids aZ mm tn d H HG hd ht hBB ⟨by rw[ug,hn];omega,by rw[ug,hn,Int.toNat_natCast,show ay.getD n nU=ay[n] by simp[List.getD,oV],hi];exact ho⟩
 ·obtain⟨DF,rfl⟩:=Int.eq_ofNat_of_zero_le im.1;have i1:=il rfl;have i2:DF<ah.length:=by omega
  have i3:DF<mm.layout.aD.length:=by rw[hlen];exact i2
  have i3i:(DF:Int)<mm.layout.aD.length:=by omega
  have bb:=hL.base DF i3 i2;have zz:=hL.sz.elem DF i2;have Cf:IntKind.u16.wrap mm.layout.aD[DF]=mm.layout.aD[DF]:=wrap_u16 (by omega);have BH:nth mm.layout.aD DF=mm.layout.aD[DF]:=cZ i3;refine eM.of H ht (si x (n+1) (x.bm.set a ⟨1,mm.layout.aD[DF]⟩)) (-1) (hs _ (by simp[fR,hn,l5,BH])) (bu (X:=X) Tryz.func65 rfl rfl ?_);simp-implicitDefEqProofs[Nat.add_assoc,dS,hb,hT,hR,hg,iU,ht,oE,hn,oV,oF,hi,sH,ny,h8,a8,b8,qX,vS,qF,tU,nO,s5,Da,q1,q2,q3,q5,q6,pq,mO,oQ,br7,Cell.bP,Gx,Bi,nB4,IG,i3,i3i,Cf];all_goals ((repeat' apply And.intro)<;>first|omega|rfl|(intro i hi e1 e2;have e3:(∀j,¬i=k+j):=(fun j=>(by omega));have e4: ¬i=k:=(by omega);simp[e1,e2,e3,e4]))
 ·obtain⟨r,w,Cs⟩: ∃r w,jb mm.layout.aD ah xb dy false=(r,w):=⟨_,_,rfl⟩;have c2:=cb.2;have LF:=qV (aD:=mm.layout.aD) (ae:=ah) hL (p:=xb) (n:=dy) (back:=false);rw[Cs]at LF;simp only at LF;by_cases um:w=0
  case neg=>
   obtain⟨xt,xv⟩:=xb;simp only at c2;refine eM.of H ht (gd x w) 2 (hs _ (by simp[fR,rb,Cs,um])) (bu (X:=X) Tryz.func65 rfl rfl ?_);simp-implicitDefEqProofs[Nat.add_assoc,dS,hb,hT,hR,hg,iU,ht,oE,hn,oV,oF,hi,ct,kV,gU,h8,a8,b8,qX,vS,qF,tU,nO,eY,s5,q1,q2,q3,pq,mO,oQ,hL,Gx,Bi,nB4,IG,im,c2,Cs,um];all_goals ((repeat' apply And.intro)<;>first|omega|rfl|(intro i hi e1 e2;have e3:(∀j,¬i=k+j):=(fun j=>(by omega));have e4: ¬i=k:=(by omega);simp[e1,e3,e4]))
  obtain⟨av,hr,DG⟩:=LF um;subst um;subst hr;have IH:IntKind.i64.wrap (av:Int)=av:=wrap_i64 (by omega);have lf: ∀(h1:aY) (j:Nat),Below k h h1->cy X 115 [.ptr b 0 2,.int .i64 (av:Int)] h1 (k+j)=some ((.agg [.int .u8 (kX mm.memory av).tag,.int .u16 (kX mm.memory av).val]),cH 115 [.ptr b 0 2,.int .i64 (av:Int)] h1 (k+j),cK 115 [.ptr b 0 2,.int .i64 (av:Int)] h1 (k+j))/\ ∃fg,dc (cH 115 [.ptr b 0 2,.int .i64 (av:Int)] h1 (k+j)) (cK 115 [.ptr b 0 2,.int .i64 (av:Int)] h1 (k+j)) b vB C L T fg aZ ⟨mm.layout,cU mm.memory av,mm.threads⟩/\k+j<=cK 115 [.ptr b 0 2,.int .i64 (av:Int)] h1 (k+j)/\(∀j,j<4->fg j=ids j\/k<=fg j)/\ ∀i,i<k+j->i≠C->i≠L->(∀j,j<4->i≠ids j)->cH 115 [.ptr b 0 2,.int .i64 (av:Int)] h1 (k+j) i=h1 i:=fun h1 j gG=>by
   obtain⟨h',k',ft,e,G,g1,g2,g3⟩:=afe .bad 0 h1 (k+j) b C L ids vB (.int .u16 mm.layout.key) (.bU T 0 4) mm.memory av (HM h1 j gG) DG;have e:cy X 115 [.ptr b 0 2,.int .i64 (av:Int)] h1 (k+j)=some ((.agg [.int .u8 (kX mm.memory av).tag,.int .u16 (kX mm.memory av).val]),h',k'):=e;obtain⟨e1,e2⟩:=tS e;rw[e1,e2];have HH:dc h1 (k+j) b vB C L T ids aZ mm:=H.mono (by omega) gG;exact⟨e,ft,HH.memory g1 (by rw[hl];exact G) g2 g3,g1,fun j hj=>by rcases g2 j hj with e|e;exact .inl e;exact .inr (by omega),g3⟩
  have cl:=fun h1 j gG=>(lf h1 j gG).1;have lT: ∀(h1:aY) (j:Nat),Below k h h1->cH 115 [.ptr b 0 2,.int .i64 (av:Int)] h1 (k+j) T=some ⟨8,bZ aZ mm.threads,true⟩:=fun h1 j gG=>by obtain⟨_,_,G,_⟩:=lf h1 j gG;exact G.nv
  have lR: ∀(h1:aY) (j:Nat),Below k h h1->cH 115 [.ptr b 0 2,.int .i64 (av:Int)] h1 (k+j) (aZ tn)=some ⟨2,x.bm.map Cell.e,false⟩:=fun h1 j gG=>by obtain⟨_,_,G,_⟩:=lf h1 j gG;rw[G.Ez tn lp];simp only[nq]
  have lF: ∀(h1:aY) (j i:Nat),Below k h h1->i<j->cH 115 [.ptr b 0 2,.int .i64 (av:Int)] h1 (k+j) (k+i)=h1 (k+i):=fun h1 j i gG jk=>by
   obtain⟨_,_,_,_,_,g⟩:=lf h1 j gG;exact g (k+i) (by omega) (by omega) (by omega) fun j hj=>by have:=eX.2.2.2 j hj;omega
  have lF0: ∀(h1:aY) (j:Nat),Below k h h1->0<j->cH 115 [.ptr b 0 2,.int .i64 (av:Int)] h1 (k+j) k=h1 k:=fun h1 j gG jk=>lF h1 j 0 gG jk;have key:eM (cy X 65 [.agg [ay,ah,az],.ptr b 0 0,.int .i64 (tn:Int)] h k) (Prog.mk ay ah az) h k b vB C L T ids aZ mm tn:=by
   have he:=bu (X:=X) (g:=65) (args:=[.agg [ay,ah,az],.ptr b 0 0,.int .i64 (tn:Int)]) (h:=h) (k:=k) (K:=Al h k T aZ tn mm.threads 115 [.ptr b 0 2,.int .i64 (av:Int)] (si x (n+1) (x.bm.set a (kX mm.memory av))) (-1)) Tryz.func65 rfl rfl (by
    simp-implicitDefEqProofs[Nat.add_assoc,hb,hT,hR,hg,iU,ht,oE,hn,oV,oF,hi,h8,a8,b8,qX,vS,qF,tU,nO,eY,Da,q1,q2,q3,q5,q6,pq,mO,oQ,br7,hL,Gx,Bi,nB4,IG,im,c2,Cs,IH,cl,lT,lR,lF,bN,bS,cp];exact U7 (by simp only[bN,bS,cp]) s5 (by simp only[ny,List.length_set,h8]) (by simp[sH,Cell.bP]))
   obtain⟨v,h',n',e,h1,j,gG,hE⟩:=he;obtain⟨_,fg,G,g1,gi,g2⟩:=lf h1 j gG;refine eM.ace H ht G (by omega) gi (fun i hi hC DE qT=>by rw[g2 i (by omega) hC DE qT,gG i hi]) (si x (n+1) (x.bm.set a (kX mm.memory av))) (-1) (hs _ (by simp[fR,hn,l5,rb,Cs])) ⟨v,h',n',e,hE⟩
  exact key
 ·obtain⟨r,w,Cs⟩: ∃r w,jb mm.layout.aD ah xa dy false=(r,w):=⟨_,_,rfl⟩;have c2:=ca.2;have LF:=qV (aD:=mm.layout.aD) (ae:=ah) hL (p:=xa) (n:=dy) (back:=false);rw[Cs]at LF;simp only at LF;by_cases um:w=0
  case neg=>
   obtain⟨xt,xv⟩:=xa;simp only at c2;refine eM.of H ht (gd x w) 2 (hs _ (by simp[fR,ra,Cs,um])) (bu (X:=X) Tryz.func65 rfl rfl ?_);simp-implicitDefEqProofs[Nat.add_assoc,dS,hb,hT,hR,hg,iU,ht,oE,hn,oV,oF,hi,ct,kV,gU,h8,a8,b8,qX,vS,qF,tU,nO,eY,s5,q1,q2,q3,pq,mO,oQ,hL,Gx,Bi,nB4,IG,im,c2,Cs,um];all_goals ((repeat' apply And.intro)<;>first|omega|rfl|(intro i hi e1 e2;have e3:(∀j,¬i=k+j):=(fun j=>(by omega));have e4: ¬i=k:=(by omega);simp[e1,e3,e4]))
  obtain⟨av,hr,DG⟩:=LF um;subst um;subst hr;have IH:IntKind.i64.wrap (av:Int)=av:=wrap_i64 (by omega);have lf: ∀(h1:aY) (j:Nat),Below k h h1->cy X 116 [.ptr b 0 2,.int .i64 (av:Int),.agg [.int .u8 xb.tag,.int .u16 xb.val]] h1 (k+j)=some ((.de []),cH 116 [.ptr b 0 2,.int .i64 (av:Int),.agg [.int .u8 xb.tag,.int .u16 xb.val]] h1 (k+j),cK 116 [.ptr b 0 2,.int .i64 (av:Int),.agg [.int .u8 xb.tag,.int .u16 xb.val]] h1 (k+j))/\ ∃fg,dc (cH 116 [.ptr b 0 2,.int .i64 (av:Int),.agg [.int .u8 xb.tag,.int .u16 xb.val]] h1 (k+j)) (cK 116 [.ptr b 0 2,.int .i64 (av:Int),.agg [.int .u8 xb.tag,.int .u16 xb.val]] h1 (k+j)) b vB C L T fg aZ ⟨mm.layout,mz mm.memory av xb,mm.threads⟩/\k+j<=cK 116 [.ptr b 0 2,.int .i64 (av:Int),.agg [.int .u8 xb.tag,.int .u16 xb.val]] h1 (k+j)/\(∀j,j<4->fg j=ids j\/k<=fg j)/\ ∀i,i<k+j->i≠C->i≠L->(∀j,j<4->i≠ids j)->cH 116 [.ptr b 0 2,.int .i64 (av:Int),.agg [.int .u8 xb.tag,.int .u16 xb.val]] h1 (k+j) i=h1 i:=fun h1 j gG=>by
   obtain⟨h',k',ft,e,G,g1,g2,g3⟩:=M4 .bad 0 xb.tag xb.val h1 (k+j) b C L ids vB (.int .u16 mm.layout.key) (.bU T 0 4) mm.memory av xb (HM h1 j gG) DG cb.l4;have e:cy X 116 [.ptr b 0 2,.int .i64 (av:Int),.agg [.int .u8 xb.tag,.int .u16 xb.val]] h1 (k+j)=some ((.de []),h',k'):=e;obtain⟨e1,e2⟩:=tS e;rw[e1,e2];have HH:dc h1 (k+j) b vB C L T ids aZ mm:=H.mono (by omega) gG;exact⟨e,ft,HH.memory g1 (by rw[hl];exact G) g2 g3,g1,fun j hj=>by rcases g2 j hj with e|e;exact .inl e;exact .inr (by omega),g3⟩
  have cl:=fun h1 j gG=>(lf h1 j gG).1;have lT: ∀(h1:aY) (j:Nat),Below k h h1->cH 116 [.ptr b 0 2,.int .i64 (av:Int),.agg [.int .u8 xb.tag,.int .u16 xb.val]] h1 (k+j) T=some ⟨8,bZ aZ mm.threads,true⟩:=fun h1 j gG=>by obtain⟨_,_,G,_⟩:=lf h1 j gG;exact G.nv
  have lR: ∀(h1:aY) (j:Nat),Below k h h1->cH 116 [.ptr b 0 2,.int .i64 (av:Int),.agg [.int .u8 xb.tag,.int .u16 xb.val]] h1 (k+j) (aZ tn)=some ⟨2,x.bm.map Cell.e,false⟩:=fun h1 j gG=>by obtain⟨_,_,G,_⟩:=lf h1 j gG;rw[G.Ez tn lp];simp only[nq]
  have lF: ∀(h1:aY) (j i:Nat),Below k h h1->i<j->cH 116 [.ptr b 0 2,.int .i64 (av:Int),.agg [.int .u8 xb.tag,.int .u16 xb.val]] h1 (k+j) (k+i)=h1 (k+i):=fun h1 j i gG jk=>by
   obtain⟨_,_,_,_,_,g⟩:=lf h1 j gG;exact g (k+i) (by omega) (by omega) (by omega) fun j hj=>by have:=eX.2.2.2 j hj;omega
  have lF0: ∀(h1:aY) (j:Nat),Below k h h1->0<j->cH 116 [.ptr b 0 2,.int .i64 (av:Int),.agg [.int .u8 xb.tag,.int .u16 xb.val]] h1 (k+j) k=h1 k:=fun h1 j gG jk=>lF h1 j 0 gG jk;have key:eM (cy X 65 [.agg [ay,ah,az],.ptr b 0 0,.int .i64 (tn:Int)] h k) (Prog.mk ay ah az) h k b vB C L T ids aZ mm tn:=by
   have he:=bu (X:=X) (g:=65) (args:=[.agg [ay,ah,az],.ptr b 0 0,.int .i64 (tn:Int)]) (h:=h) (k:=k) (K:=Al h k T aZ tn mm.threads 116 [.ptr b 0 2,.int .i64 (av:Int),.agg [.int .u8 xb.tag,.int .u16 xb.val]] (si x (n+1) x.bm) (-1)) Tryz.func65 rfl rfl (by
    simp-implicitDefEqProofs[Nat.add_assoc,hb,hT,hR,hg,iU,ht,oE,hn,oV,oF,hi,h8,a8,b8,qX,vS,qF,tU,nO,eY,q1,q2,q3,q5,pq,mO,oQ,br7,hL,Gx,Bi,nB4,IG,im,c2,Cs,IH,cl,lT,lF,bN,bS,cp];exact U8 (by simp only[bN,bS,cp]) s5 (by simp only[ny,h8]) (lR _ _ (by simp only[bN,bS,cp])))
   obtain⟨v,h',n',e,h1,j,gG,hE⟩:=he;obtain⟨_,fg,G,g1,gi,g2⟩:=lf h1 j gG;refine eM.ace H ht G (by omega) gi (fun i hi hC DE qT=>by rw[g2 i (by omega) hC DE qT,gG i hi]) (si x (n+1) x.bm) (-1) (hs _ (by simp[fR,hn,ra,rb,Cs])) ⟨v,h',n',e,hE⟩
  exact key
 ·refine eM.of H ht (kK x dy x.bm x.saved) (-1) (hs _ (by simp[fR,kK])) (bu (X:=X) Tryz.func65 rfl rfl ?_);simp-implicitDefEqProofs[Nat.add_assoc,dS,hb,hT,hR,hg,iU,ht,oE,hn,oV,oF,hi,gE,eO,h8,a8,b8,qX,vS,qF,tU,nO,EB,s5,q2,q3,q5,pq,mO,oQ,br1];all_goals ((repeat' apply And.intro)<;>first|omega|rfl|(intro i hi e1 e2;have e3:(∀j,¬i=k+j):=(fun j=>(by omega));have e4: ¬i=k:=(by omega);simp[e1,e3,e4]))
 ·by_cases t0:xa.tag=0
  ·by_cases v0:xa.val=0
   ·refine eM.of H ht (kK x dy x.bm x.saved) (-1) (hs _ (by simp[fR,ra,t0,v0])) (bu (X:=X) Tryz.func65 rfl rfl ?_);simp-implicitDefEqProofs[Nat.add_assoc,dS,hb,hT,hR,hg,iU,ht,oE,hn,oV,oF,hi,gE,eO,h8,a8,b8,qX,vS,qF,tU,nO,EB,s5,q2,q3,q5,pq,mO,oQ,br2,t0,v0];all_goals ((repeat' apply And.intro)<;>first|omega|rfl|(intro i hi e1 e2;have e3:(∀j,¬i=k+j):=(fun j=>(by omega));have e4: ¬i=k:=(by omega);simp[e1,e3,e4]))
   ·refine eM.of H ht (kK x (n+1) x.bm x.saved) (-1) (hs _ (by simp[fR,hn,ra,t0,v0])) (bu (X:=X) Tryz.func65 rfl rfl ?_);simp-implicitDefEqProofs[Nat.add_assoc,dS,hb,hT,hR,hg,iU,ht,oE,hn,oV,oF,hi,gE,eO,h8,a8,b8,qX,vS,qF,tU,nO,EB,s5,q2,q3,q5,pq,mO,oQ,br2,t0,v0];all_goals ((repeat' apply And.intro)<;>first|omega|rfl|(intro i hi e1 e2;have e3:(∀j,¬i=k+j):=(fun j=>(by omega));have e4: ¬i=k:=(by omega);simp[e1,e3,e4]))
  ·refine eM.of H ht (gd x 3) (2) (hs _ (by simp[fR,ra,t0])) (bu (X:=X) Tryz.func65 rfl rfl ?_);simp-implicitDefEqProofs[Nat.add_assoc,dS,hb,hT,hR,hg,iU,ht,oE,hn,oV,oF,hi,ct,kV,gU,h8,a8,b8,qX,vS,qF,tU,nO,s5,q2,q3,pq,mO,oQ,t0];all_goals ((repeat' apply And.intro)<;>first|omega|rfl|(intro i hi e1 e2;have e3:(∀j,¬i=k+j):=(fun j=>(by omega));have e4: ¬i=k:=(by omega);simp[e1,e3,e4]))
 ·by_cases t0:xa.tag=0
  ·by_cases v0:xa.val=0
   ·refine eM.of H ht (kK x (n+1) x.bm x.saved) (-1) (hs _ (by simp[fR,hn,ra,t0,v0])) (bu (X:=X) Tryz.func65 rfl rfl ?_);simp-implicitDefEqProofs[Nat.add_assoc,dS,hb,hT,hR,hg,iU,ht,oE,hn,oV,oF,hi,gE,eO,h8,a8,b8,qX,vS,qF,tU,nO,EB,s5,q2,q3,q5,pq,mO,oQ,br3,t0,v0];all_goals ((repeat' apply And.intro)<;>first|omega|rfl|(intro i hi e1 e2;have e3:(∀j,¬i=k+j):=(fun j=>(by omega));have e4: ¬i=k:=(by omega);simp[e1,e3,e4]))
   ·refine eM.of H ht (kK x dy x.bm x.saved) (-1) (hs _ (by simp[fR,ra,t0,v0])) (bu (X:=X) Tryz.func65 rfl rfl ?_);simp-implicitDefEqProofs[Nat.add_assoc,dS,hb,hT,hR,hg,iU,ht,oE,hn,oV,oF,hi,gE,eO,h8,a8,b8,qX,vS,qF,tU,nO,EB,s5,q2,q3,q5,pq,mO,oQ,br3,t0,v0];all_goals ((repeat' apply And.intro)<;>first|omega|rfl|(intro i hi e1 e2;have e3:(∀j,¬i=k+j):=(fun j=>(by omega));have e4: ¬i=k:=(by omega);simp[e1,e3,e4]))
  ·refine eM.of H ht (gd x 3) (2) (hs _ (by simp[fR,ra,t0])) (bu (X:=X) Tryz.func65 rfl rfl ?_);simp-implicitDefEqProofs[Nat.add_assoc,dS,hb,hT,hR,hg,iU,ht,oE,hn,oV,oF,hi,ct,kV,gU,h8,a8,b8,qX,vS,qF,tU,nO,s5,q2,q3,pq,mO,oQ,t0];all_goals ((repeat' apply And.intro)<;>first|omega|rfl|(intro i hi e1 e2;have e3:(∀j,¬i=k+j):=(fun j=>(by omega));have e4: ¬i=k:=(by omega);simp[e1,e3,e4]))
 ·have af4:IntKind.u16.wrap ((n:Int)+1)=(n:Int)+1:=wrap_u16 (by omega);refine eM.of H ht (kK x dy (x.bm.set a ⟨0,n+1⟩) x.saved) (-1) (hs _ (by simp[fR,hn,l5])) (bu (X:=X) Tryz.func65 rfl rfl ?_);simp-implicitDefEqProofs[Nat.add_assoc,dS,hb,hT,hR,hg,iU,ht,oE,hn,oV,oF,hi,gE,eO,h8,a8,b8,qX,vS,qF,tU,nO,EB,s5,Da,q2,q3,q5,q6,pq,mO,oQ,br4,Cell.bP,af4];all_goals ((repeat' apply And.intro)<;>first|omega|rfl|(intro i hi e1 e2;have e3:(∀j,¬i=k+j):=(fun j=>(by omega));have e4: ¬i=k:=(by omega);simp[e1,e2,e3,e4]))
 ·by_cases t0:xa.tag=0
  ·by_cases v0:255<xa.val
   ·refine eM.of H ht (gd x 2) (2) (hs _ (by simp[fR,ra,t0,v0])) (bu (X:=X) Tryz.func65 rfl rfl ?_);simp-implicitDefEqProofs[Nat.add_assoc,dS,hb,hT,hR,hg,iU,ht,oE,hn,oV,oF,hi,ct,kV,gU,h8,a8,b8,qX,vS,qF,tU,nO,s5,q2,q3,pq,mO,oQ,t0,v0];all_goals ((repeat' apply And.intro)<;>first|omega|rfl|(intro i hi e1 e2;have e3:(∀j,¬i=k+j):=(fun j=>(by omega));have e4: ¬i=k:=(by omega);simp[e1,e3,e4]))
   ·have hwv:IntKind.i64.wrap xa.val=xa.val:=wrap_i64 (by have:=ca.2;omega);refine eM.of H ht (kK x xa.val x.bm x.saved) (-1) (hs _ (by simp[fR,ra,t0,v0])) (bu (X:=X) Tryz.func65 rfl rfl ?_);simp-implicitDefEqProofs[Nat.add_assoc,dS,hb,hT,hR,hg,iU,ht,oE,hn,oV,oF,hi,gE,eO,h8,a8,b8,qX,vS,qF,tU,nO,EB,s5,q2,q3,q5,pq,mO,oQ,br5,t0,v0,hwv];all_goals ((repeat' apply And.intro)<;>first|omega|rfl|(intro i hi e1 e2;have e3:(∀j,¬i=k+j):=(fun j=>(by omega));have e4: ¬i=k:=(by omega);simp[e1,e3,e4]))
  ·refine eM.of H ht (gd x 3) (2) (hs _ (by simp[fR,ra,t0])) (bu (X:=X) Tryz.func65 rfl rfl ?_);simp-implicitDefEqProofs[Nat.add_assoc,dS,hb,hT,hR,hg,iU,ht,oE,hn,oV,oF,hi,ct,kV,gU,h8,a8,b8,qX,vS,qF,tU,nO,s5,q2,q3,pq,mO,oQ,t0];all_goals ((repeat' apply And.intro)<;>first|omega|rfl|(intro i hi e1 e2;have e3:(∀j,¬i=k+j):=(fun j=>(by omega));have e4: ¬i=k:=(by omega);simp[e1,e3,e4]))
 ·refine eM.of H ht (rL x) (1) (hs _ (by simp[fR])) (bu (X:=X) Tryz.func65 rfl rfl ?_);simp-implicitDefEqProofs[Nat.add_assoc,dS,hb,hT,hR,hg,iU,ht,oE,hn,oV,oF,hi,Cq,yt,h8,a8,b8,qX,vS,qF,tU,nO,s5,q2,q3,pq,mO,oQ];all_goals ((repeat' apply And.intro)<;>first|omega|rfl|(intro i hi e1 e2;have e3:(∀j,¬i=k+j):=(fun j=>(by omega));have e4: ¬i=k:=(by omega);simp[e1,e3,e4]))
 ·by_cases YO:x.saved= -1
  ·refine eM.of H ht (gd x 1) (2) (hs _ (by simp[fR,YO])) (bu (X:=X) Tryz.func65 rfl rfl ?_);simp-implicitDefEqProofs[Nat.add_assoc,dS,hb,hT,hR,hg,iU,ht,oE,hn,oV,oF,hi,ct,kV,gU,h8,a8,b8,qX,vS,qF,tU,nO,s5,q2,q3,pq,mO,oQ,YO];all_goals ((repeat' apply And.intro)<;>first|omega|rfl|(intro i hi e1 e2;have e3:(∀j,¬i=k+j):=(fun j=>(by omega));have e4: ¬i=k:=(by omega);simp[e1,e3,e4]))
  ·refine eM.of H ht (kK x x.saved x.bm (-1)) (-1) (hs _ (by simp[fR,YO])) (bu (X:=X) Tryz.func65 rfl rfl ?_);simp-implicitDefEqProofs[Nat.add_assoc,dS,hb,hT,hR,hg,iU,ht,oE,hn,oV,oF,hi,gE,eO,h8,a8,b8,qX,vS,qF,tU,nO,EB,s5,q2,q3,q5,pq,mO,oQ,br6,YO];all_goals ((repeat' apply And.intro)<;>first|omega|rfl|(intro i hi e1 e2;have e3:(∀j,¬i=k+j):=(fun j=>(by omega));have e4: ¬i=k:=(by omega);simp[e1,e3,e4]))
end Go.Proofs.YtejohpnpnaljdaaGreat
