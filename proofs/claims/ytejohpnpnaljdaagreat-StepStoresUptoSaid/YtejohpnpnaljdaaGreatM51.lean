/- Part of a proof: F32. -/
import Derived.Test.YtejohpnpnaljdaaGreatM30
import Derived.Test.YtejohpnpnaljdaaGreatM35
import Derived.Test.YtejohpnpnaljdaaGreatM36
import Derived.Test.YtejohpnpnaljdaaGreatM50
set_option linter.all false
set_option maxRecDepth 20000
set_option maxHeartbeats 20000000
namespace Go.Proofs.YtejohpnpnaljdaaGreat
open Go Go.Abs Go.Abs.lu
def BrG(h:aY)(k:Nat)(g:FuncId)(args:List V)(s:Int)(v:V)(h':aY)(k':Nat):Prop:= ∃h1 j,Below k h h1/\v= .int .i64 s/\h'=cH g args h1 (k+j)/\cK g args h1 (k+j)<=k'
theorem ahi{h h1:aY}{k j n:Nat}{g:FuncId}{args:List V}{s:Int}(hB:Below k h h1):BrG h k g args s (.int .i64 s) (cH g args h1 (k+j)) (cK g args h1 (k+j)+n):=⟨h1,j,hB,rfl,rfl,by omega⟩
def TrG(h:aY)(k T:Nat)(g:FuncId)(args:List V)(s:Int)(E0:List V)(v:V)(h':aY)(k':Nat):Prop:= ∃h1 j,Below k h h1/\v= .int .i64 s/\h'=aO (cH g args h1 (k+j)) T (some ⟨8,E0,true⟩)/\cK g args h1 (k+j)<=k'
theorem Mi{h h1:aY}{k T j n:Nat}{g:FuncId}{args:List V}{s:Int}{E E0:List V}(hB:Below k h h1)(hE:E=E0):TrG h k T g args s E0 (.int .i64 s) (aO (cH g args h1 (k+j)) T (some ⟨8,E,true⟩)) (cK g args h1 (k+j)+n):=⟨h1,j,hB,rfl,by rw[hE],by omega⟩
theorem tK.mono{h h':aY}{k k' cB b C L T:Nat}{ids aZ:Nat->Nat}{p:Prog}{t:Nat}(H:tK h k cB b C L T ids aZ p t)(hk:k<=k')(hh: ∀i,i<k->h' i=h i):tK h' k' cB b C L T ids aZ p t:=
 ⟨by rw[hh _ H.lt,H.box],by have:=H.lt;omega,H.ne,H.ni⟩
theorem Z4{p:Prog}{m:bf}{x:Thread}{i:Instr}(h:0<=i.op/\i.op<=17)(hg:(fR p m x i).2.2= -1):(fR p m x i).2.1.pc=x.pc+1:=by
 have n18: ¬i.op=18:=by omega
 have n19: ¬i.op=19:=by omega
 have n20: ¬i.op=20:=by omega
 have n21: ¬i.op=21:=by omega
 have n22: ¬i.op=22:=by omega
 have n23: ¬i.op=23:=by omega
 have n24: ¬i.op=24:=by omega
 revert hg;unfold fR;simp only[n18,n19,n20,n21,n22,n23,n24,if_false];repeat' split
 all_goals first|(intro _;rfl)|(intro h;cases h)
@[simp] theorem Wd(c:V)(p:Prog)(h:aY)(k cB b:Nat)(vB:V)(C L T:Nat)(ids aZ:Nat->Nat)(mm:bf)(tn:Nat)(d:Int)(H:dc h k b vB C L T ids aZ mm)(HG:cR p d mm)(HC:tK h k cB b C L T ids aZ p tn)(hd:d<=1099511628776)(ht:tn<4)(Gx:vB= .sl false (mm.layout.aD.map (V.int .i64))):eM (cy X 64 [.ptr cB 0 0] h k) p h k b vB C L T ids aZ mm tn:=by
 have hl:=H.len;have lp:tn<mm.threads.length:=by omega
 have oE:(tn:Int)<4:=by omega
 have qz:=HG.nv tn lp;have hR:=H.Ez tn lp;have hg:=eF (ids:=aZ) lp;have hT:=H.nv;have iU:=ed aZ mm.threads;rw[hl]at iU;have hb:=H.sE;unfold jo at hb;rw[hl,Gx]at hb;have hc:=HC.box;have ug:cg mm tn=mm.threads[tn]:=ie lp;obtain⟨x,nq⟩: ∃x,mm.threads[tn]=x:=⟨_,rfl⟩;rw[nq]at ug;rw[nq]at qz hR;simp only[nq]at hg;obtain⟨s1,s3,s4,s5,s6⟩:=H.qB tn ht;have Da: ¬T=aZ tn:=fun e=>s5 e.symm;have s1': ¬b=aZ tn:=fun e=>s1 e.symm;obtain⟨u1,u2,u3,u4⟩:=H.ym;have u1': ¬b=T:=fun e=>u1 e.symm;have jW:=HC.lt;obtain⟨e1,e2,e3,e4⟩:=HC.ne;have e5:=(HC.ni tn ht).2;have e6: ¬T=cB:=fun e=>e4 e.symm;have eX:=H.mem.lt.1;have q1: ∀j,¬b=k+j:=fun j=>by omega
 have q2: ∀j,¬T=k+j:=fun j=>by omega
 have q3: ∀j,¬aZ tn=k+j:=fun j=>by omega
 have q4: ∀j,¬k+j=b:=fun j=>by omega
 have q5: ∀j,¬k+j=T:=fun j=>by omega
 have q6: ∀j,¬k+j=aZ tn:=fun j=>by omega
 have q7: ∀j,¬cB=k+j:=fun j=>by omega
 have q8: ∀j,¬k+j=cB:=fun j=>by omega
 have pq: ¬b=k:=by omega
 have mO: ¬T=k:=by omega
 have oQ: ¬aZ tn=k:=by omega
 have A1: ¬cB=k:=by omega
 have q4z: ¬k=b:=by omega
 have q5z: ¬k=T:=by omega
 have q6z: ¬k=aZ tn:=by omega
 have q8z: ¬k=cB:=by omega
 have Gq:=qz.pc;obtain⟨n,hn⟩: ∃n:Nat,x.pc=n:=⟨x.pc.toNat,by omega⟩;have h8:=qz.bm;have QX:p.code.length<=64:=HG.prog.pk;have FR:=qz.count;have EB:IntKind.i64.wrap (x.count+1)=x.count+1:=wrap_i64 (by omega);have nO:=cS n (by omega);obtain⟨pc,ps,pd⟩:=p;simp only[iS]at hc;simp only at QX;by_cases oV:n<pc.length
 case neg=>
  have oF:(pc.length:Int)<=n:=by omega
  refine eM.of H ht (gd x 2) 2 (by rw[ug];exact EA (by simp only;omega)) (bu (X:=X) Tryz.func64 rfl rfl ?_);simp-implicitDefEqProofs[Nat.add_assoc,dS,hc,hT,hR,hg,iU,ht,hn,kV,gU,h8,s5,oV];all_goals ((repeat' apply And.intro)<;>first|omega|rfl|exact lH|(intro i hi e1 e2;have e3:(∀j,¬i=k+j):=(fun j=>(by omega));have e4: ¬i=k:=(by omega);simp[e1])|(intro i hi;have e3:(∀j,¬i=k+j):=(fun j=>(by omega));have e4: ¬i=k:=(by omega);simp[e3,e4]))
 have oF: ¬(pc.length:Int)<=n:=by omega
 have hI:=HG.prog.zy (p:=⟨pc,ps,pd⟩) oV;obtain⟨⟨op,ai,bi,ci,dy⟩,hi⟩: ∃i,pc[n]=i:=⟨_,rfl⟩;simp only at hI;rw[hi]at hI;have zw:=hI;obtain⟨o1,ia,ib,ic,im,ij,il,is⟩:=zw;simp only at o1 ia ib ic im ij il is;obtain⟨a,rfl⟩:=Int.eq_ofNat_of_zero_le ia.1;obtain⟨b',rfl⟩:=Int.eq_ofNat_of_zero_le ib.1;obtain⟨c,rfl⟩:=Int.eq_ofNat_of_zero_le ic.1;have hs: ∀r,fR ⟨pc,ps,pd⟩ mm x ⟨op,a,b',c,dy⟩=r->mB ⟨pc,ps,pd⟩ mm (cg mm tn)=r:=fun r g=>by rw[ug,Cr (p:=⟨pc,ps,pd⟩) hn oV hi,g]
 have oc:op=23\/(op=18\/op=19\/op=20\/op=21\/op=22\/op=24)\/(0<=op/\op<=17):=by omega
 rcases oc with rfl|iA|iA
 ·refine eM.of H ht (rL x) 1 (hs _ (by simp[fR])) (bu (X:=X) Tryz.func64 rfl rfl ?_);simp-implicitDefEqProofs[Nat.add_assoc,dS,hc,hT,hR,hg,iU,ht,hn,Cq,yt,h8,nO,s5,q2,q3,q7,e4,oV,hi];all_goals ((repeat' apply And.intro)<;>first|omega|rfl|exact lH|(intro i hi e1 e2;have e3:(∀j,¬i=k+j):=(fun j=>(by omega));have e4: ¬i=k:=(by omega);simp[e1,e3])|(intro i hi;have e3:(∀j,¬i=k+j):=(fun j=>(by omega));have e4: ¬i=k:=(by omega);simp[e3,e4]))
 ·have QY: ¬op=23:=by omega
  have Bz:dW op=true:=by rcases iA with rfl|rfl|rfl|rfl|rfl|rfl<;>decide
  have CE: ∀(h1:aY) (j:Nat),Below k h h1->jF (cy X 111 [.ptr cB 0 0,.agg [.int .i64 op,(a:Int),(b':Int),(c:Int),.int .i64 dy]] h1 (k+j)) ⟨pc,ps,pd⟩ h1 (k+j) b vB C L T ids aZ mm tn x ⟨op,a,b',c,dy⟩ id:=fun h1 j gG=>
   Wc .bad op a b' c dy ⟨pc,ps,pd⟩ h1 (k+j) cB b vB C L T ids aZ mm tn d x op a b' c dy (H.mono (by omega) gG) HG (HC.mono (by omega) gG) hd ht Gx ug hI (iA)
  by_cases Q6:(fR ⟨pc,ps,pd⟩ mm x ⟨op,a,b',c,dy⟩).2.2= -1
  case neg=>
   obtain⟨w,hw,um⟩: ∃w,fR ⟨pc,ps,pd⟩ mm x ⟨op,a,b',c,dy⟩=(mm.memory,gd x w,2)/\w≠0:=by
    rcases CE h 0 (fun _ _=>rfl) with g|⟨w,_,_,g1,g2,_⟩
    ·exact absurd g.1 Q6
    ·exact⟨w,g1,g2⟩
   have lf: ∀(h1:aY) (j:Nat),Below k h h1->cy X 111 [.ptr cB 0 0,.agg [.int .i64 op,(a:Int),(b':Int),(c:Int),.int .i64 dy]] h1 (k+j)=some (.int .i64 w,cH 111 [.ptr cB 0 0,.agg [.int .i64 op,(a:Int),(b':Int),(c:Int),.int .i64 dy]] h1 (k+j),cK 111 [.ptr cB 0 0,.agg [.int .i64 op,(a:Int),(b':Int),(c:Int),.int .i64 dy]] h1 (k+j))/\k+j<=cK 111 [.ptr cB 0 0,.agg [.int .i64 op,(a:Int),(b':Int),(c:Int),.int .i64 dy]] h1 (k+j)/\ ∀i,i<k+j->cH 111 [.ptr cB 0 0,.agg [.int .i64 op,(a:Int),(b':Int),(c:Int),.int .i64 dy]] h1 (k+j) i=h1 i:=fun h1 j gG=>by
    rcases CE h1 j gG with g|⟨w',h',k',g1,g2,e,g3,g4⟩
    ·exact absurd g.1 Q6
    ·have ew:w'=w:=by rw[hw]at g1;simp only[aF,gd,Thread.mk.injEq]at g1;exact g1.2.1.2.2.2.2.2.2.1.symm
     subst ew;obtain⟨e1,e2⟩:=tS e;rw[e1,e2];exact⟨e,g3,g4⟩
   have cl:=fun h1 j gG=>(lf h1 j gG).1;have lc: ∀(h1:aY) (j:Nat),Below k h h1->cH 111 [.ptr cB 0 0,.agg [.int .i64 op,(a:Int),(b':Int),(c:Int),.int .i64 dy]] h1 (k+j) cB=some ⟨5,[iS ⟨pc,ps,pd⟩ b T tn],true⟩:=fun h1 j gG=>by rw[(lf h1 j gG).2.2 _ (by omega),gG _ jW];exact hc
   have lT: ∀(h1:aY) (j:Nat),Below k h h1->cH 111 [.ptr cB 0 0,.agg [.int .i64 op,(a:Int),(b':Int),(c:Int),.int .i64 dy]] h1 (k+j) T=some ⟨8,bZ aZ mm.threads,true⟩:=fun h1 j gG=>by rw[(lf h1 j gG).2.2 _ (by omega),gG _ (by omega),hT]
   unfold iS at lc;refine eM.of H ht (gd x w) 2 (hs _ hw) ?_;obtain⟨v,h',n',e,h1,j,gG,rfl,hE,hK⟩:=bu (X:=X) (g:=64) (args:=[.ptr cB 0 0]) (h:=h) (k:=k) (K:=TrG h k T 111 [.ptr cB 0 0,.agg [.int .i64 op,(a:Int),(b':Int),(c:Int),.int .i64 dy]] 2 ((bZ aZ mm.threads).set tn (db aZ tn (gd x w)))) Tryz.func64 rfl rfl (by
    simp-implicitDefEqProofs[Nat.add_assoc,hc,hT,hg,iU,ht,hn,gU,h8,oV,hi,QY,Bz,um,cl,lc,lT,pF,List.set_set,bN,bS];refine Mi ?_ ?_
    ·simp only[bN,bS]
    ·first|rfl|simp only[List.set_set])
   obtain⟨_,g1,g2⟩:=lf h1 j gG;refine⟨_,h',n',e,rfl,by rw[hE];simp[aO],?_,by omega,fun i hi h1 h2=> ?_⟩
   ·rw[hE,aO,if_neg s5,g2 _ (by omega),gG _ (by omega),hR];rfl
   ·rw[hE,aO,if_neg h1,g2 _ (by omega),gG _ hi]
  obtain⟨M1,X1,Qz⟩: ∃M1 X1,fR ⟨pc,ps,pd⟩ mm x ⟨op,a,b',c,dy⟩=(M1,X1, -1):=⟨_,_,by rw[<-Q6]⟩;have lf: ∀(h1:aY) (j:Nat),Below k h h1->cy X 111 [.ptr cB 0 0,.agg [.int .i64 op,(a:Int),(b':Int),(c:Int),.int .i64 dy]] h1 (k+j)=some (.int .i64 0,cH 111 [.ptr cB 0 0,.agg [.int .i64 op,(a:Int),(b':Int),(c:Int),.int .i64 dy]] h1 (k+j),cK 111 [.ptr cB 0 0,.agg [.int .i64 op,(a:Int),(b':Int),(c:Int),.int .i64 dy]] h1 (k+j))/\ ∃fg,dc (cH 111 [.ptr cB 0 0,.agg [.int .i64 op,(a:Int),(b':Int),(c:Int),.int .i64 dy]] h1 (k+j)) (cK 111 [.ptr cB 0 0,.agg [.int .i64 op,(a:Int),(b':Int),(c:Int),.int .i64 dy]] h1 (k+j)) b vB C L T fg aZ (kq mm M1 tn (id X1))/\k+j<=cK 111 [.ptr cB 0 0,.agg [.int .i64 op,(a:Int),(b':Int),(c:Int),.int .i64 dy]] h1 (k+j)/\(∀j,j<4->fg j=ids j\/k<=fg j)/\
    ∀i,i<k+j->i≠C->i≠L->(∀j,j<4->i≠ids j)->i≠T->i≠aZ tn->cH 111 [.ptr cB 0 0,.agg [.int .i64 op,(a:Int),(b':Int),(c:Int),.int .i64 dy]] h1 (k+j) i=h1 i:=fun h1 j gG=>by
   rcases CE h1 j gG with⟨_,h',k',fg,e,G,g1,g2,g3⟩|⟨w',h',k',g1,g2,e,g3,g4⟩
   ·rw[Qz]at G;obtain⟨e1,e2⟩:=tS e;rw[e1,e2];exact⟨e,fg,G,g1,fun j hj=>by rcases g2 j hj with e|e;exact .inl e;exact .inr (by omega),g3⟩
   ·rw[g1]at Q6;cases Q6
  have cl:=fun h1 j gG=>(lf h1 j gG).1;have lc: ∀(h1:aY) (j:Nat),Below k h h1->cH 111 [.ptr cB 0 0,.agg [.int .i64 op,(a:Int),(b':Int),(c:Int),.int .i64 dy]] h1 (k+j) cB=some ⟨5,[iS ⟨pc,ps,pd⟩ b T tn],true⟩:=fun h1 j gG=>by
   obtain⟨_,_,_,_,_,g⟩:=lf h1 j gG;rw[g _ (by omega) e2 e3 (fun j hj=>(HC.ni j hj).1) e4 e5,gG _ jW];exact hc
  unfold iS at lc;obtain⟨v,h',n',e,h1,j,gG,rfl,hE,hK⟩:=bu (X:=X) (g:=64) (args:=[.ptr cB 0 0]) (h:=h) (k:=k) (K:=BrG h k 111 [.ptr cB 0 0,.agg [.int .i64 op,(a:Int),(b':Int),(c:Int),.int .i64 dy]] (-1)) Tryz.func64 rfl rfl (by
   simp-implicitDefEqProofs[Nat.add_assoc,hc,hT,hg,iU,ht,hn,h8,oV,hi,QY,Bz,cl,bN,bS];refine ahi ?_;simp only[bN,bS])
  obtain⟨_,fg,G,g1,gi,g2⟩:=lf h1 j gG;have e1:hZ ⟨pc,ps,pd⟩ mm tn=(kq mm M1 tn X1, -1):=by rw[tD,hs _ Qz]
  unfold eM;subst hE;rw[e1];exact⟨_,n',fg,e,G.mono hK (fun _ _=>rfl),by omega,gi,fun i hi hC DE qT hT1 hR1=>by rw[g2 i (by omega) hC DE qT hT1 hR1,gG i hi]⟩
 ·have QY: ¬op=23:=by omega
  have Bz:dW op=false:=by simp[dW,jumps];omega
  have CE: ∀(h1:aY) (j:Nat),Below k h h1->jF (cy X 112 [.ptr cB 0 0,.agg [.int .i64 op,(a:Int),(b':Int),(c:Int),.int .i64 dy]] h1 (k+j)) ⟨pc,ps,pd⟩ h1 (k+j) b vB C L T ids aZ mm tn x ⟨op,a,b',c,dy⟩ (pV x.pc):=fun h1 j gG=>
   Z3 .bad op a b' c dy ⟨pc,ps,pd⟩ h1 (k+j) cB b vB C L T ids aZ mm tn d x op a b' c dy (H.mono (by omega) gG) HG (HC.mono (by omega) gG) hd ht Gx ug hI (iA)
  by_cases Q6:(fR ⟨pc,ps,pd⟩ mm x ⟨op,a,b',c,dy⟩).2.2= -1
  case neg=>
   obtain⟨w,hw,um⟩: ∃w,fR ⟨pc,ps,pd⟩ mm x ⟨op,a,b',c,dy⟩=(mm.memory,gd x w,2)/\w≠0:=by
    rcases CE h 0 (fun _ _=>rfl) with g|⟨w,_,_,g1,g2,_⟩
    ·exact absurd g.1 Q6
    ·exact⟨w,g1,g2⟩
   have lf: ∀(h1:aY) (j:Nat),Below k h h1->cy X 112 [.ptr cB 0 0,.agg [.int .i64 op,(a:Int),(b':Int),(c:Int),.int .i64 dy]] h1 (k+j)=some (.int .i64 w,cH 112 [.ptr cB 0 0,.agg [.int .i64 op,(a:Int),(b':Int),(c:Int),.int .i64 dy]] h1 (k+j),cK 112 [.ptr cB 0 0,.agg [.int .i64 op,(a:Int),(b':Int),(c:Int),.int .i64 dy]] h1 (k+j))/\k+j<=cK 112 [.ptr cB 0 0,.agg [.int .i64 op,(a:Int),(b':Int),(c:Int),.int .i64 dy]] h1 (k+j)/\ ∀i,i<k+j->cH 112 [.ptr cB 0 0,.agg [.int .i64 op,(a:Int),(b':Int),(c:Int),.int .i64 dy]] h1 (k+j) i=h1 i:=fun h1 j gG=>by
    rcases CE h1 j gG with g|⟨w',h',k',g1,g2,e,g3,g4⟩
    ·exact absurd g.1 Q6
    ·have ew:w'=w:=by rw[hw]at g1;simp only[aF,gd,Thread.mk.injEq]at g1;exact g1.2.1.2.2.2.2.2.2.1.symm
     subst ew;obtain⟨e1,e2⟩:=tS e;rw[e1,e2];exact⟨e,g3,g4⟩
   have cl:=fun h1 j gG=>(lf h1 j gG).1;have lc: ∀(h1:aY) (j:Nat),Below k h h1->cH 112 [.ptr cB 0 0,.agg [.int .i64 op,(a:Int),(b':Int),(c:Int),.int .i64 dy]] h1 (k+j) cB=some ⟨5,[iS ⟨pc,ps,pd⟩ b T tn],true⟩:=fun h1 j gG=>by rw[(lf h1 j gG).2.2 _ (by omega),gG _ jW];exact hc
   have lT: ∀(h1:aY) (j:Nat),Below k h h1->cH 112 [.ptr cB 0 0,.agg [.int .i64 op,(a:Int),(b':Int),(c:Int),.int .i64 dy]] h1 (k+j) T=some ⟨8,bZ aZ mm.threads,true⟩:=fun h1 j gG=>by rw[(lf h1 j gG).2.2 _ (by omega),gG _ (by omega),hT]
   unfold iS at lc;refine eM.of H ht (gd x w) 2 (hs _ hw) ?_;obtain⟨v,h',n',e,h1,j,gG,rfl,hE,hK⟩:=bu (X:=X) (g:=64) (args:=[.ptr cB 0 0]) (h:=h) (k:=k) (K:=TrG h k T 112 [.ptr cB 0 0,.agg [.int .i64 op,(a:Int),(b':Int),(c:Int),.int .i64 dy]] 2 ((bZ aZ mm.threads).set tn (db aZ tn (gd x w)))) Tryz.func64 rfl rfl (by
    simp-implicitDefEqProofs[Nat.add_assoc,hc,hT,hg,iU,ht,hn,gU,h8,oV,hi,QY,Bz,um,cl,lc,lT,pF,List.set_set,bN,bS];refine Mi ?_ ?_
    ·simp only[bN,bS]
    ·first|rfl|simp only[List.set_set])
   obtain⟨_,g1,g2⟩:=lf h1 j gG;refine⟨_,h',n',e,rfl,by rw[hE];simp[aO],?_,by omega,fun i hi h1 h2=> ?_⟩
   ·rw[hE,aO,if_neg s5,g2 _ (by omega),gG _ (by omega),hR];rfl
   ·rw[hE,aO,if_neg h1,g2 _ (by omega),gG _ hi]
  obtain⟨M1,X1,Qz⟩: ∃M1 X1,fR ⟨pc,ps,pd⟩ mm x ⟨op,a,b',c,dy⟩=(M1,X1, -1):=⟨_,_,by rw[<-Q6]⟩;have lf: ∀(h1:aY) (j:Nat),Below k h h1->cy X 112 [.ptr cB 0 0,.agg [.int .i64 op,(a:Int),(b':Int),(c:Int),.int .i64 dy]] h1 (k+j)=some (.int .i64 0,cH 112 [.ptr cB 0 0,.agg [.int .i64 op,(a:Int),(b':Int),(c:Int),.int .i64 dy]] h1 (k+j),cK 112 [.ptr cB 0 0,.agg [.int .i64 op,(a:Int),(b':Int),(c:Int),.int .i64 dy]] h1 (k+j))/\ ∃fg,dc (cH 112 [.ptr cB 0 0,.agg [.int .i64 op,(a:Int),(b':Int),(c:Int),.int .i64 dy]] h1 (k+j)) (cK 112 [.ptr cB 0 0,.agg [.int .i64 op,(a:Int),(b':Int),(c:Int),.int .i64 dy]] h1 (k+j)) b vB C L T fg aZ (kq mm M1 tn ((pV x.pc) X1))/\k+j<=cK 112 [.ptr cB 0 0,.agg [.int .i64 op,(a:Int),(b':Int),(c:Int),.int .i64 dy]] h1 (k+j)/\(∀j,j<4->fg j=ids j\/k<=fg j)/\
    ∀i,i<k+j->i≠C->i≠L->(∀j,j<4->i≠ids j)->i≠T->i≠aZ tn->cH 112 [.ptr cB 0 0,.agg [.int .i64 op,(a:Int),(b':Int),(c:Int),.int .i64 dy]] h1 (k+j) i=h1 i:=fun h1 j gG=>by
   rcases CE h1 j gG with⟨_,h',k',fg,e,G,g1,g2,g3⟩|⟨w',h',k',g1,g2,e,g3,g4⟩
   ·rw[Qz]at G;obtain⟨e1,e2⟩:=tS e;rw[e1,e2];exact⟨e,fg,G,g1,fun j hj=>by rcases g2 j hj with e|e;exact .inl e;exact .inr (by omega),g3⟩
   ·rw[g1]at Q6;cases Q6
  have cl:=fun h1 j gG=>(lf h1 j gG).1;have lc: ∀(h1:aY) (j:Nat),Below k h h1->cH 112 [.ptr cB 0 0,.agg [.int .i64 op,(a:Int),(b':Int),(c:Int),.int .i64 dy]] h1 (k+j) cB=some ⟨5,[iS ⟨pc,ps,pd⟩ b T tn],true⟩:=fun h1 j gG=>by
   obtain⟨_,_,_,_,_,g⟩:=lf h1 j gG;rw[g _ (by omega) e2 e3 (fun j hj=>(HC.ni j hj).1) e4 e5,gG _ jW];exact hc
  unfold iS at lc;have ao4:X1.pc=x.pc+1:=by
   have:=Z4 (p:=⟨pc,ps,pd⟩) (m:=mm) (x:=x) (i:=⟨op,a,b',c,dy⟩) (iA) Q6;rw[Qz]at this;exact this
  obtain⟨y1,yr,y3,y4,y5,y6,y7,y8⟩:=X1;simp only at ao4;subst ao4;have lT: ∀(h1:aY) (j:Nat),Below k h h1->cH 112 [.ptr cB 0 0,.agg [.int .i64 op,(a:Int),(b':Int),(c:Int),.int .i64 dy]] h1 (k+j) T=some ⟨8,(bZ aZ mm.threads).set tn (.agg [.int .i64 y1,.bU (aZ tn) 0 yr.length,.int .i64 x.pc,.int .i64 y4,.int .i64 y5,.int .i64 y6,.int .i64 y7,.int .u16 y8]),true⟩:=fun h1 j gG=>by
   obtain⟨_,G,_⟩:=(lf h1 j gG).2;have:=G.nv;rw[this];unfold kq;rw[<-gq lp];rfl
  have pW: ∀y:V,((bZ aZ mm.threads).set tn y).length=4:=fun y=>by rw[List.length_set,iU]
  obtain⟨v,h',n',e,h1,j,gG,rfl,hE,hK⟩:=bu (X:=X) (g:=64) (args:=[.ptr cB 0 0]) (h:=h) (k:=k) (K:=TrG h k T 112 [.ptr cB 0 0,.agg [.int .i64 op,(a:Int),(b':Int),(c:Int),.int .i64 dy]] (-1) ((bZ aZ mm.threads).set tn (.agg [.int .i64 y1,.bU (aZ tn) 0 yr.length,.int .i64 (x.pc+1),.int .i64 y4,.int .i64 y5,.int .i64 y6,.int .i64 y7,.int .u16 y8]))) Tryz.func64 rfl rfl (by
   simp-implicitDefEqProofs[Nat.add_assoc,hc,hT,hg,iU,ht,hn,h8,nO,oV,hi,QY,Bz,cl,lc,lT,pW,pF,List.set_set,bN,bS];refine Mi ?_ ?_
   ·simp only[bN,bS]
   ·first|rfl|simp only[List.set_set,hn])
  obtain⟨_,fg,G,g1,gi,g2⟩:=lf h1 j gG;have e1:hZ ⟨pc,ps,pd⟩ mm tn=(kq mm M1 tn ⟨y1,yr,x.pc+1,y4,y5,y6,y7,y8⟩, -1):=by rw[tD,hs _ Qz]
  unfold eM;rw[e1];refine⟨h',n',fg,e,?_,by omega,gi,fun i hi hC DE qT hT1 hR1=>by rw[hE,aO,if_neg hT1,g2 i (by omega) hC DE qT hT1 hR1,gG i hi]⟩;have QF:tn<(kq mm M1 tn (pV x.pc ⟨y1,yr,x.pc+1,y4,y5,y6,y7,y8⟩)).threads.length:=by unfold kq;simpa using lp
  have dV:=G.Ez tn QF;have hgt:(kq mm M1 tn (pV x.pc ⟨y1,yr,x.pc+1,y4,y5,y6,y7,y8⟩)).threads[tn]=pV x.pc ⟨y1,yr,x.pc+1,y4,y5,y6,y7,y8⟩:=by simp[kq]
  rw[hgt]at dV;have Q:=G.put (h':=h') (k':=n') (t:=tn) (x:=⟨y1,yr,x.pc+1,y4,y5,y6,y7,y8⟩) hK ht (by
   rw[hE,aO,if_pos rfl];unfold kq;rw[List.set_set,<-gq lp];rfl) (by rw[hE,aO,if_neg s5,dV];rfl) (fun i hi h1 h2=>by rw[hE,aO,if_neg h1])
  have es:(bf.mk (kq mm M1 tn (pV x.pc ⟨y1,yr,x.pc+1,y4,y5,y6,y7,y8⟩)).layout (kq mm M1 tn (pV x.pc ⟨y1,yr,x.pc+1,y4,y5,y6,y7,y8⟩)).memory ((kq mm M1 tn (pV x.pc ⟨y1,yr,x.pc+1,y4,y5,y6,y7,y8⟩)).threads.set tn ⟨y1,yr,x.pc+1,y4,y5,y6,y7,y8⟩))=kq mm M1 tn ⟨y1,yr,x.pc+1,y4,y5,y6,y7,y8⟩:=by
   unfold kq;rw[List.set_set]
  rw[<-es];exact Q
structure We (p:Prog) (m:bf) (tn:Nat) (h:aY) (k:Nat) (h':aY) (k' cB b C L T:Nat) (ids aZ:Nat->Nat):Prop where
 yq:dc h' k' b (.sl false (m.layout.aD.map (V.int .i64))) C L T ids aZ m
 core:tK h' k' cB b C L T ids aZ p tn
 le:k<=k'
 fr: ∀i,i<k->h' i=h i
 IX:na k (.sl false (m.layout.aD.map (V.int .i64))) C L T ids aZ/\k<=cB/\k<=b
@[simp] theorem Ny(ay:List Instr)(ah:List Int)(az:List (List Int))(aa:List Int)(aw:Int)(aq:List Cell)(an:List cx)(ax:List Thread)(t:Int)(h:aY)(k tn:Nat)(hr:yl (bf.mk (aN.mk aa aw) (aK.mk aq an) ax))(hv:jc (Prog.mk ay ah az) (bf.mk (aN.mk aa aw) (aK.mk aq an) ax)=true)(n4:tn<4): ∃h' k' cB b C L T ids aZ,cy X 63 [(ay,ah,az),.agg (kv (bf.mk (aN.mk aa aw) (aK.mk aq an) ax)),(tn:Int)] h k=some (.de [.ptr cB 0 0,.int .i64 0],h',k')/\We (Prog.mk ay ah az) (bf.mk (aN.mk aa aw) (aK.mk aq an) ax) tn h k h' k' cB b C L T ids aZ:=by
 have MG:=uT hr hv;have hp:=MG.prog.lens;have hm:=MG.lens;have hl:ax.length=4:=MG.len;obtain⟨v1,h1,k1,eC,ek,ev,HA,HB⟩:=YR aa aw aq an ax (k+20) (Prog.mk ay ah az) _ MG;subst ek;subst ev;simp only[Nat.add_assoc,Nat.reduceAdd]at eC HA HB;have t0: ¬(tn:Int)<0:=by omega
 have t4:(tn:Int)<4:=by omega
 have WT: ¬(4:Int)<=tn:=by omega
 have hT:=HA.nv;obtain⟨HB1,HB2,HB3⟩:=HB;unfold kv;have key: ∃v h' k',cy X 63 [.agg [ay,ah,az],.agg [aa,.int .u16 aw,aq,an,ax],.int .i64 (tn:Int)] h k=some (v,h',k')/\ ∃cB b C L T ids aZ,v= .de [.ptr cB 0 0,.int .i64 0]/\We (Prog.mk ay ah az) (bf.mk (aN.mk aa aw) (aK.mk aq an) ax) tn h k h' k' cB b C L T ids aZ:=by
  refine bu (X:=X) (K:=fun v h' k'=> ∃cB b C L T ids aZ,v= .de [.ptr cB 0 0,.int .i64 0]/\We (Prog.mk ay ah az) (bf.mk (aN.mk aa aw) (aK.mk aq an) ax) tn h k h' k' cB b C L T ids aZ) Tryz.func63 rfl rfl ?_;simp-implicitDefEqProofs[hp,hm,hv,t0,t4,WT,hl,eC,mC,nw,hT,Nat.add_assoc];have lo: ∀x,k<=x->k+20<=x\/x<k+20:=fun x hx=>by omega
  have HA2: ∀H:aY,(∀i,k+20<=i->i<k+214->H i=h1 i)->H (k+18)=some ⟨5,[jo (.sl false (aa.map (V.int .i64))) (k+42) (k+43) (k+206) (bf.mk (aN.mk aa aw) (aK.mk aq an) ax)],true⟩->dc H (k+223) (k+18) (.sl false (aa.map (V.int .i64))) (k+42) (k+43) (k+206) (pG (k+64) (k+83) (k+102) (k+121)) (pG (k+141) (k+161) (k+181) (k+201)) (bf.mk (aN.mk aa aw) (aK.mk aq an) ax):=fun H hH hb=>
   Vc (a:=k+20) (k:=k+214) (h1:=H) hb (by omega) (by omega) (by omega) (HA.mono ⟨HB1,HB2,HB3⟩ (Nat.le_refl _) hH) ⟨HB1,HB2,HB3⟩ fun _ _=>rfl
  refine⟨k+18,k+42,k+43,k+206,pG (k+64) (k+83) (k+102) (k+121),pG (k+141) (k+161) (k+181) (k+201),⟨HA2 _ (fun i a b=> ?_) ?_,⟨?_,by omega,⟨by omega,by omega,by omega,by omega⟩,fun j hj=> ?_⟩,by omega,fun i hi=> ?_,⟨⟨by omega,by omega,by omega⟩,fun j hj=> ?_,fun B s n e=>by cases e⟩,by omega,by omega⟩⟩
  ·have n1: ¬i=k+220:=by omega
   have n2: ¬i=k+18:=by omega
   have n3: ¬i<k+20:=by omega
   simp[aO,n1,n2,n3]
  ·simp[aO,jo,hl]
  ·simp[aO,iS]
  ·have q:=HB2 j hj;have q2:=HA.lt.2.2 j hj;have q3:=(HA.qB j hj).2.2.2;omega
  ·have n1: ∀j,¬i=k+j:=fun j=>by omega
   have n2: ¬i=k:=by omega
   have n3:i<k+20:=by omega
   simp[aO,n1,n2,n3]
  ·have q:=HB2 j hj;omega
 obtain⟨v,h',k',e,cB,b,C,L,T,ids,aZ,rfl,HB⟩:=key;exact⟨h',k',cB,b,C,L,T,ids,aZ,e,HB⟩
@[simp] theorem C1(ay:List Instr)(ah:List Int)(az:List (List Int))(aa:List Int)(aw:Int)(aq:List Cell)(an:List cx)(ax:List Thread)(t:Int)(h:aY)(k:Nat)(hp:rK (Prog.mk ay ah az))(hm:qA (bf.mk (aN.mk aa aw) (aK.mk aq an) ax))(hc: ¬(jc (Prog.mk ay ah az) (bf.mk (aN.mk aa aw) (aK.mk aq an) ax)=true/\0<=t/\t<4)): ∃h' k',cy X 63 [(ay,ah,az),(aa,aw,aq,an,ax),t] h k=some (.de [.qs,.int .i64 1],h',k')/\k<=k'/\ ∀i,i<k->h' i=h i:=by
 have key: ∃v h' k',cy X 63 [.agg [ay,ah,az],.agg [aa,.int .u16 aw,aq,an,ax],.int .i64 t] h k=some (v,h',k')/\v= .de [.qs,.int .i64 1]/\k<=k'/\ ∀i,i<k->h' i=h i:=by
  refine bu (X:=X) (K:=fun v h' k'=>v= .de [.qs,.int .i64 1]/\k<=k'/\ ∀i,i<k->h' i=h i) Tryz.func63 rfl rfl ?_;have fr: ∀i,i<k-> ¬i=k/\ ∀j,¬i=k+j:=fun i hi=>⟨by omega,fun j=>by omega⟩;by_cases hv:jc (Prog.mk ay ah az) (bf.mk (aN.mk aa aw) (aK.mk aq an) ax)=true
  case neg=>
   simp-implicitDefEqProofs[hp,hm,hv,Nat.add_assoc];exact fun i hi=>by simp[fr i hi]
  by_cases h0:t<0
  ·simp-implicitDefEqProofs[hp,hm,hv,h0,Nat.add_assoc];exact fun i hi=>by simp[fr i hi]
  have h4:(4:Int)<=t:=by
   refine Classical.byContradiction fun e=>hc ⟨hv,by omega,by omega⟩
  simp-implicitDefEqProofs[hp,hm,hv,h0,h4,Nat.add_assoc];exact fun i hi=>by simp[fr i hi]
 obtain⟨v,h',k',e,rfl,g⟩:=key;exact⟨h',k',e,g⟩
def SlI(p:Prog)(lay:aN)(cB b C L T:Nat)(aZ:Nat->Nat)(tn:Nat)(upto:Int)(tg:bf×Int)(i:Nat)(S:St):Prop:= ∃mi ft,(S.f 8= .ptr 2 0 0/\S.f 11= .ptr cB 0 0/\S.f 13= .int .i64 upto)/\S.h 2=some ⟨5,[.agg [.sl true [],.int .u16 0,.sl true [],.sl true [],.sl true []]],true⟩/\
   mi.layout=lay/\dc S.h S.n b (.sl false (lay.aD.map (V.int .i64))) C L T ft aZ mi/\na 14 (.sl false (lay.aD.map (V.int .i64))) C L T ft aZ/\tK S.h S.n cB b C L T ft aZ p tn/\14<=S.n/\
   cR p (1099511627776+64) mi/\(((cg mi tn).count<upto/\i+oD upto (cg mi tn)<=19456/\dI p tn upto (20000-i) mi=tg)\/((cg mi tn).count=upto/\tg=(mi,0)))
@[simp] theorem sU(ay:List Instr)(ah:List Int)(az:List (List Int))(aa:List Int)(aw:Int)(aq:List Cell)(an:List cx)(ax:List Thread)(t n:Int)(hp:rK (Prog.mk ay ah az))(hm:qA (bf.mk (aN.mk aa aw) (aK.mk aq an) ax))(hr:yl (bf.mk (aN.mk aa aw) (aK.mk aq an) ax)):cz X 23 [(ay,ah,az),(aa,aw,aq,an,ax),t,n]=some (.de [.agg [.sl false (((pr (Prog.mk ay ah az) (bf.mk (aN.mk aa aw) (aK.mk aq an) ax) t n).1).layout.aD.map (V.int .i64)),.int .u16 ((pr (Prog.mk ay ah az) (bf.mk (aN.mk aa aw) (aK.mk aq an) ax) t n).1).layout.key,.sl false (((pr (Prog.mk ay ah az) (bf.mk (aN.mk aa aw) (aK.mk aq an) ax) t n).1).memory.cells.map Cell.e),.sl false (((pr (Prog.mk ay ah az) (bf.mk (aN.mk aa aw) (aK.mk aq an) ax) t n).1).memory.lines.map cx.e),.sl false (((pr (Prog.mk ay ah az) (bf.mk (aN.mk aa aw) (aK.mk aq an) ax) t n).1).threads.map Thread.e)],.int .i64 ((pr (Prog.mk ay ah az) (bf.mk (aN.mk aa aw) (aK.mk aq an) ax) t n).2.1),.int .i64 ((pr (Prog.mk ay ah az) (bf.mk (aN.mk aa aw) (aK.mk aq an) ax) t n).2.2)]):=by
 obtain⟨H0,Gi⟩: ∃H:aY,aO (aO (aO m8 0 (some ⟨3,[.agg [ay,ah,az]],true⟩)) 1 (some ⟨5,[.agg [aa,.int .u16 aw,aq,an,ax]],true⟩)) 2 (some ⟨5,[.agg [.sl true [],.int .u16 0,.sl true [],.sl true [],.sl true []]],true⟩)=H:=⟨_,rfl⟩;have z0:H0 0=some ⟨3,[.agg [ay,ah,az]],true⟩:=by rw[<-Gi];simp[aO]
 have z1:H0 1=some ⟨5,[.agg [aa,.int .u16 aw,aq,an,ax]],true⟩:=by rw[<-Gi];simp[aO]
 have z2:H0 2=some ⟨5,[.agg [.sl true [],.int .u16 0,.sl true [],.sl true [],.sl true []]],true⟩:=by rw[<-Gi];simp[aO]
 by_cases hc:jc (Prog.mk ay ah az) (bf.mk (aN.mk aa aw) (aK.mk aq an) ax)=true/\0<=t/\t<4
 case neg=>
  rw[zB (fun g=>hc ⟨g.1,g.2.1.1,g.2.1.2⟩)];unfold fG;obtain⟨h',k',e,hk,hf⟩:=C1 ay ah az aa aw aq an ax t H0 14 hp hm hc;have f2:=hf 2 (by omega);rw[z2]at f2;refine bd Tryz.func23 rfl rfl ?_;simp-implicitDefEqProofs[Gi,z0,z1,e,f2]
 obtain⟨hv,h0,h4⟩:=hc;obtain⟨tn,rfl⟩:=Int.eq_ofNat_of_zero_le h0;have n4:tn<4:=by omega
 have MG:=uT hr hv;have hl:ax.length=4:=MG.len;have nl:tn<ax.length:=by omega
 have hx:cg (bf.mk (aN.mk aa aw) (aK.mk aq an) ax) tn=ax[tn]:=ie nl;obtain⟨h1,k1,cB,b,C,L,T,ids,aZ,e,HB⟩:=Ny ay ah az aa aw aq an ax 0 H0 14 tn hr hv n4;unfold kv at e;simp only at e;have f2:=HB.fr 2 (by omega);rw[z2]at f2;have Pp:=HB.core.box;have hT:=HB.yq.nv;unfold iS at Pp;simp only at Pp hT;have gg:=eF (ids:=aZ) nl;have Ct:=ed aZ ax;rw[hl]at Ct;by_cases n1:1<=n
 case neg=>
  have Nb:n<1:=by omega
  rw[zB (fun g=>n1 g.2.2.1)];unfold fG;refine bd Tryz.func23 rfl rfl ?_;simp-implicitDefEqProofs[Gi,z0,z1,e,f2,Nb]
 have Nb: ¬n<1:=by omega
 by_cases n64:n<=64
 case neg=>
  have FU:64<n:=by omega
  rw[zB (fun g=>n64 g.2.2.2)];unfold fG;refine bd Tryz.func23 rfl rfl ?_;simp-implicitDefEqProofs[Gi,z0,z1,e,f2,Nb,FU]
 have FU: ¬64<n:=by omega
 have er:pr (Prog.mk ay ah az) (bf.mk (aN.mk aa aw) (aK.mk aq an) ax) tn n=((dm (Prog.mk ay ah az) (bf.mk (aN.mk aa aw) (aK.mk aq an) ax) tn n).1,(dm (Prog.mk ay ah az) (bf.mk (aN.mk aa aw) (aK.mk aq an) ax) tn n).2,0):=by unfold pr;rw[if_pos ⟨hv,⟨h0,h4⟩,n1,n64⟩,Int.toNat_natCast]
 rw[er];refine yu.cz ?_;obtain⟨HA1,hA2,hA3⟩:=HB.IX;have bx0:=HB.yq.sE;unfold jo at bx0;simp only[hl]at bx0;have fin: ∀(H:aY) (K k':Nat) (x:Option Ob) (ft:Nat->Nat) (r:bf) (s:Int),r.layout=⟨aa,aw⟩->dc H K b (.sl false (aa.map (V.int .i64))) C L T ft aZ r->na 14 (.sl false (aa.map (V.int .i64))) C L T ft aZ->
   yu r s 0 (.de [.agg [aa,.int .u16 aw,.bU C 0 512,.bU L 0 4,.bU T 0 4],.int .i64 s,.int .i64 0]) (aO H 2 x) k':=fun H K k' x ft r s nb G GA=>by
  refine⟨_,C,L,T,ft,aZ,_,?_,G.at.mono GA (Nat.le_refl _) fun i hi _=>by rw[aO,if_neg (by omega)]⟩;unfold jo;rw[G.len,nb]
 by_cases hs:(ax[tn]).state=1
 case neg=>
  have e0:dm (Prog.mk ay ah az) (bf.mk (aN.mk aa aw) (aK.mk aq an) ax) tn n=((bf.mk (aN.mk aa aw) (aK.mk aq an) ax),3):=by unfold dm;rw[show(bf.threads (bf.mk (aN.mk aa aw) (aK.mk aq an) ax)).getD tn da=ax[tn] from hx];exact if_neg hs
  rw[e0];refine bu (X:=X) Tryz.func23 rfl rfl ?_;simp-implicitDefEqProofs[Gi,z0,z1,e,f2,Nb,FU,Pp,hT,gg,Ct,n4,hs,bx0];exact fin h1 k1 _ _ ids _ _ rfl HB.yq HA1
 have ln:=eq_true hs;obtain⟨upto,jX⟩: ∃u,(ax[tn]).count+n=u:=⟨_,rfl⟩;have hcx:=(MG.nv tn nl).count;simp only at hcx;have hwu:IntKind.i64.wrap ((ax[tn]).count+n)=upto:=by rw[jX];exact wrap_i64 (by omega)
 have e0:dm (Prog.mk ay ah az) (bf.mk (aN.mk aa aw) (aK.mk aq an) ax) tn n=dI (Prog.mk ay ah az) tn upto 20000 (bf.mk (aN.mk aa aw) (aK.mk aq an) ax):=by
  unfold dm;rw[show(bf.threads (bf.mk (aN.mk aa aw) (aK.mk aq an) ax)).getD tn da=ax[tn] from hx,if_pos hs,jX]
 rw[e0];obtain⟨tg,htg⟩: ∃r,dI (Prog.mk ay ah az) tn upto 20000 (bf.mk (aN.mk aa aw) (aK.mk aq an) ax)=r:=⟨_,rfl⟩;rw[htg];refine bu (X:=X) Tryz.func23 rfl rfl ?_;simp-implicitDefEqProofs[Gi,z0,z1,e,Nb,FU,Pp,hT,gg,Ct,n4,ln,hwu];refine cP (fun i S=>SlI (Prog.mk ay ah az) ⟨aa,aw⟩ cB b C L T aZ tn upto tg i S) 19456 ?_ 0 (by simp) ?_
 ·rintro i S hi ⟨mi,ft,⟨f8,f11,f13⟩,hh2,nb,HI,GA,HC,hK,Q0,Rn⟩;have hl4:=HI.len;have nl2:tn<mi.threads.length:=by omega
  have gT:=HI.nv;have gg:=eF (ids:=aZ) nl2;have Ct:=ed aZ mi.threads;rw[hl4]at Ct;have gx:cg mi tn=mi.threads[tn]:=ie nl2;have gc:=HC.box;unfold iS at gc;simp only at gc;rcases Rn with⟨hc,hle,heq⟩|⟨PG,heq⟩
  case inr=>
   rw[gx]at PG;have bx:=HI.sE;unfold jo at bx;rw[hl4,nb]at bx;simp only at bx;rw[heq];have eX: ¬upto<upto:=by omega
   simp-implicitDefEqProofs[f8,f11,f13,hh2,gc,gT,gg,Ct,n4,PG,bx];exact fin _ _ _ _ _ _ _ nb HI GA
  have amv:1<=oD upto (cg mi tn):=by
   have:=(Q0.cg n4).pc;unfold oD;omega
  have GW:i<19456:=by omega
  have QF:20000-i=(20000-(i+1))+1:=by omega
  obtain⟨h',k',FV,eo,G,g1,g2,g3⟩:=Wd .bad (Prog.mk ay ah az) S.h (S.n+12) cB b _ C L T ft aZ mi tn _ (HI.mono (by omega) fun _ _=>rfl) Q0 (HC.mono (by omega) fun _ _=>rfl) (by omega) n4 (by rw[nb]);have GA2:na 14 (.sl false (aa.map (V.int .i64))) C L T FV aZ:=by
   obtain⟨q1,q2,q3⟩:=GA;refine⟨q1,fun j hj=>⟨?_,(q2 j hj).2⟩,q3⟩;rcases g2 j hj with e|e
   ·rw[e];exact(q2 j hj).1
   ·omega
  obtain⟨e1,e2,e3,e4⟩:=HC.ne;have mM:=HC.lt;have fc:=g3 cB (by omega) e2 e3 (fun j hj=>(HC.ni j hj).1) e4 (HC.ni tn n4).2;obtain⟨⟨y1,y2,y3⟩,y4,y5⟩:=GA;have f22:=g3 2 (by omega) (by omega) (by omega) (fun j hj=>by have:=y4 j hj;omega) (by omega) (by have:=y4 tn n4;omega);rw[hh2]at f22;have HC2:tK h' k' cB b C L T FV aZ (Prog.mk ay ah az) tn:=⟨by rw[fc];exact HC.box,by omega,⟨e1,e2,e3,e4⟩,fun j hj=>⟨by
   rcases g2 j hj with e|e
   ·rw[e];exact(HC.ni j hj).1
   ·omega,(HC.ni j hj).2⟩⟩
  rw[gc]at fc;have bx:=G.sE;have gl:=G.len;unfold jo at bx;rw[gl,rM,nb]at bx;simp only at bx;have PF:(hZ (Prog.mk ay ah az) mi tn).1.layout=⟨aa,aw⟩:=by rw[rM];exact nb
  have wO:=hc;rw[gx]at wO;by_cases ho:(hZ (Prog.mk ay ah az) mi tn).2= -1
  case neg=>
   rw[<-heq,QF,yw ho];simp-implicitDefEqProofs[f8,f11,f13,gc,gT,gg,Ct,n4,wO,eo,fc,f22,bx,ho,Nat.add_assoc];exact fin _ _ _ _ _ _ _ PF G GA2
  have ud:=eq_true ho;have hlf:=sF Q0 n4 ho upto;have a0x:=(uU Q0 (Q0.cg n4)).YG (by rw[tD]at ho;exact ho);have axe:=yo Q0 n4;simp-implicitDefEqProofs[f11,f13,gc,gT,gg,Ct,n4,wO,eo,ud,GW,Nat.add_assoc];refine⟨(hZ (Prog.mk ay ah az) mi tn).1,FV,⟨by simp[aO,f8],by simp[aO,f11],by simp[aO,f13]⟩,f22,PF,G.mono (by first|omega|(simp only;omega)) (fun _ _=>rfl),GA2,HC2.mono (by first|omega|(simp only;omega)) (fun _ _=>rfl),by first|omega|(simp only;omega),yp Q0 n4 (by omega),?_⟩;by_cases PG:(cg (hZ (Prog.mk ay ah az) mi tn).1 tn).count=upto
  ·exact .inr ⟨PG,by rw[<-heq,QF,Am ho PG]⟩
  ·refine .inl ⟨by rw[axe]at PG⊢;omega,by omega,?_⟩;rw[<-heq,QF,yx ho PG]
 ·simp-implicitDefEqProofs;refine⟨(bf.mk (aN.mk aa aw) (aK.mk aq an) ax),ids,⟨by simp[aO],by simp[aO],by simp[aO]⟩,f2,rfl,HB.yq.mono (by first|omega|(simp only;omega)) (fun _ _=>rfl),HA1,HB.core.mono (by first|omega|(simp only;omega)) (fun _ _=>rfl),by have:=HB.le;first|omega|(simp only;omega),MG.mono (by omega),.inl ⟨by rw[hx];omega,?_,htg⟩⟩;have:=(MG.nv tn nl).pc;simp only at this;rw[hx];unfold oD;omega
def awP:Prog:=⟨[⟨1,0,0,0,1⟩,⟨18,0,0,0,0⟩],[1],[[]]⟩
def awM:bf:=ez awP ⟨[3],0⟩
theorem Mj:pO awP:=ID (by decide+kernel)
theorem Wf:nr [3] [1]:=lL.1 (by decide+kernel)
theorem Mk:cR awP 0 awM:=ET Mj (fun d hd x hx=>by simp[awP]at hd;subst hd;cases hx) Wf (by simp)
theorem ahj:(dm awP awM 0 3).2=0/\((dm awP awM 0 3).1.threads[0]?).map (fun t=>(t.count,t.pc,(t.bm[0]?).map (·.val)))=some (3,0,some 1):=by decide+kernel
theorem cR.one{p:Prog}{d:Int}{m:bf}(h:cR p d m)(hd:d<=1099511627776){t:Nat}(ht:t<4){n:Int}(hn:1<=n/\n<=64):pr p m t n=((dm p m t n).1,(dm p m t n).2,0):=by
 unfold pr;rw[if_pos ⟨(h.mono hd).ok,by omega,hn.1,hn.2⟩,Int.toNat_natCast]
@[simp] theorem QA:cz X 18 []=some (.bool true):=by
 have iZ:=wz [⟨1,0,0,0,1⟩,⟨18,0,0,0,0⟩] [1] [[]] [3] 0 Mj Wf;have e0:ez ⟨[⟨1,0,0,0,1⟩,⟨18,0,0,0,0⟩],[1],[[]]⟩ ⟨[3],0⟩=awM:=rfl;rw[e0]at iZ;have pW:=Mk.one (by omega) (t:=0) (by omega) (n:=3) (by omega);obtain⟨r1,r2⟩:=ahj;have S:=sG Mk (t:=0) (by omega) (n:=3) (by omega) rfl;have hg:=Mk;obtain⟨⟨⟨mb,mk⟩,⟨mc,ml⟩,mt⟩,hm⟩: ∃m,awM=m:=⟨_,rfl⟩;rw[hm]at iZ pW r1 r2 S hg;have hS:=sU [⟨1,0,0,0,1⟩,⟨18,0,0,0,0⟩] [1] [[]] mb mk mc ml mt 0 3 Mj.lens hg.lens hg.R;rw[show((0:Nat):Int)=0 from rfl]at pW;rw[show(Prog.mk [⟨1,0,0,0,1⟩,⟨18,0,0,0,0⟩] [1] [[]])=awP from rfl,pW,r1]at hS;have hl:=S.yq.len;obtain⟨⟨⟨xb,xk⟩,⟨xc,xl⟩,xt⟩,hx⟩: ∃x,(dm awP ⟨⟨mb,mk⟩,⟨mc,ml⟩,mt⟩ 0 3).1=x:=⟨_,rfl⟩;rw[hx]at hS r2 hl;simp only at hl r2;have C6:0<xt.length:=by omega
 have LI:(xt[0]).bm.length=8:=by
  have:=(S.yq.nv 0 (by rw[hx];exact C6)).bm;simp only[hx]at this;exact this
 have axf:0<(xt[0]).bm.length:=by omega
 rw[List.getElem?_eq_getElem C6]at r2;simp only[Option.map_some,au,aF,List.getElem?_eq_getElem axf]at r2;obtain⟨c1,c2,c3⟩:=r2;simp only[List.map_cons,List.map_nil,Instr.bP,w7]at iZ hS;refine bd Tryz.func18 rfl rfl ?_;simp-implicitDefEqProofs[-wz, -sU,iZ,hS,hl,LI,c1,c2,c3]
def Gn(x:Thread)(pc:Int):Thread:=⟨1,x.bm,pc,x.count,x.bV,x.saved,x.dd,x.code⟩
theorem Nz{p:Prog}{d:Int}{m:bf}(h:cR p d m){pc:Int}(hp:0<=pc/\pc<=255):cR p d ⟨m.layout,m.memory,m.threads.set 0 (Gn (cg m 0) pc)⟩/\(cg ⟨m.layout,m.memory,m.threads.set 0 (Gn (cg m 0) pc)⟩ 0).state=1:=by
 have g:=h.cg (t:=0) (by omega);have hl:0<m.threads.length:=by rw[h.len];omega
 refine⟨vO h (Int.le_refl _) h.mem h.coh ⟨by simp[Gn],g.bm,g.cells,hp,g.count,g.bV,g.saved,g.dd,g.code⟩,?_⟩;rw[ie (by simpa using hl)];simp[Gn]
@[simp] theorem Z5(bK:List Int)(aV:Int)(hd:dr bK aV): ∃(kt:Int) (p:Prog) (d:Int) (m:bf),lZ X [] 20 2 (aV,bK) []=some (2,.agg [.sl false (bK.map (V.int .i64)),.int .i64 kt],Z1 p m,.de [])/\dr bK kt/\cR p d m/\d<=2000/\(cg m 0).state=1:=by
 obtain⟨kt,⟨pc,ps,pd⟩,d,⟨⟨mb,mk⟩,⟨mc,ml⟩,mt⟩,hM,sj,HG,JD⟩:=Qw hd;simp only[Z1]at hM;have oP:mt.length=4:=HG.len;have Z6:0<mt.length:=by omega
 have uX: ∀(f:Thread->V),List.take 4 (mt.map f)=mt.map f:=fun f=>bn (by simp;omega);have PL: ∀(f:Thread->Option V),List.take 4 (mt.map f)=mt.map f:=fun f=>bn (by simp;omega);have hNx:=gy bK kt 3 sj (by omega);have Qv:=dE sj;have QX:pc.length<=64:=HG.prog.pk;have hwl:IntKind.i64.wrap ((pc.length:Int)+1)=(pc.length:Int)+1:=wrap_i64 (by omega);have hNy:=gy bK (cY bK kt) ((pc.length:Int)+1) Qv (by omega);have ZX:=dE Qv;have Wk:=dC bK (cY bK kt) (n:=(pc.length:Int)+1) (by omega);have hNz:=gy bK kt ((pc.length:Int)+1) sj (by omega);have hpz:=dC bK kt (n:=(pc.length:Int)+1) (by omega);obtain⟨⟨st,rg,tp,co,ha,sa,tr,cd⟩,nq⟩: ∃x,mt[0]=x:=⟨_,rfl⟩;have qz:cg ⟨⟨mb,mk⟩,⟨mc,ml⟩,mt⟩ 0=mt[0]:=ie Z6;have Ve: ∀q:Int,(mt.map Thread.e).set 0 (.agg [.int .i64 1,rg,.int .i64 q,.int .i64 co,.int .i64 ha,.int .i64 sa,.int .i64 tr,.int .u16 cd])=(mt.set 0 (Gn ⟨st,rg,tp,co,ha,sa,tr,cd⟩ q)).map Thread.e:=fun _=>by rw[List.map_set];rfl
 have bbk: ∀x,(mt.set 0 x).length=4:=fun x=>by simp[oP]
 have skf: ∀x (f:Thread->V),List.take 4 ((mt.set 0 x).map f)=(mt.set 0 x).map f:=fun x f=>bn (by simp[oP]);by_cases hs:st=1
 ·subst hs;by_cases h3:dL bK kt 3=0
  ·have h3':=eq_true h3;obtain⟨q,hq⟩: ∃q,dL bK (cY bK kt) ((pc.length:Int)+1)=q:=⟨_,rfl⟩;rw[hq]at hNy Wk;have hr:=Nz HG (pc:=q) (by omega);rw[qz,nq]at hr;simp only at hr;refine⟨cY bK (cY bK kt),⟨pc,ps,pd⟩,d,⟨⟨mb,mk⟩,⟨mc,ml⟩,mt.set 0 (Gn ⟨1,rg,tp,co,ha,sa,tr,cd⟩ q)⟩,?_,by assumption,hr.1,JD,hr.2⟩;unfold Z1;obtain⟨M,hM'⟩: ∃M,mt.set 0 (Gn ⟨1,rg,tp,co,ha,sa,tr,cd⟩ q)=M:=⟨_,rfl⟩;rw[hM'];refine dN Tryz.func20 rfl rfl ?_;simp-implicitDefEqProofs[hM,oP,hNx,hNy,hwl,h3',nq,Thread.bP];rw[Ve,skf,nV,hM']
  ·refine⟨cY bK kt,⟨pc,ps,pd⟩,d,⟨⟨mb,mk⟩,⟨mc,ml⟩,mt⟩,?_,Qv,HG,JD,by rw[qz,nq]⟩;unfold Z1;refine dN Tryz.func20 rfl rfl ?_;simp-implicitDefEqProofs[hM,oP,uX,hNx,h3,nq,Thread.bP]
 ·have bbl:=dE sj;obtain⟨q,hq⟩: ∃q,dL bK kt ((pc.length:Int)+1)=q:=⟨_,rfl⟩;rw[hq]at hNz hpz;have hr:=Nz HG (pc:=q) (by omega);rw[qz,nq]at hr;simp only at hr;refine⟨cY bK kt,⟨pc,ps,pd⟩,d,⟨⟨mb,mk⟩,⟨mc,ml⟩,mt.set 0 (Gn ⟨st,rg,tp,co,ha,sa,tr,cd⟩ q)⟩,?_,by assumption,hr.1,JD,hr.2⟩;unfold Z1;obtain⟨M,hM'⟩: ∃M,mt.set 0 (Gn ⟨st,rg,tp,co,ha,sa,tr,cd⟩ q)=M:=⟨_,rfl⟩;rw[hM'];refine dN Tryz.func20 rfl rfl ?_;simp-implicitDefEqProofs[hM,oP,hNz,hwl,hs,nq,Thread.bP];rw[Ve,skf,nV,hM']
end Go.Proofs.YtejohpnpnaljdaaGreat
