/- Part of a proof: F32. -/
import Derived.Test.YtdngefmliibcgaaGreatM06
import Derived.Test.YtdngefmliibcgaaGreatM07
import Derived.Test.YtdngefmliibcgaaGreatM12
import Derived.Test.YtdngefmliibcgaaGreatM13
import Derived.Test.YtdngefmliibcgaaGreatM16
import Derived.Test.YtdngefmliibcgaaGreatM20
set_option linter.all false
set_option maxRecDepth 20000
set_option maxHeartbeats 20000000
namespace Go.Proofs.YtdngefmliibcgaaGreat
open Go Go.Abs Go.Abs.fJ
def BrG(h:aG)(k:Nat)(g:FuncId)(args:List V)(s:Int)(v:V)(h':aG)(k':Nat):Prop:= ∃h1 j,Below k h h1∧v= .int .i64 s∧h'=cH g args h1 (k+j)∧cK g args h1 (k+j)≤k'
theorem Wj{h h1:aG}{k j n:Nat}{g:FuncId}{args:List V}{s:Int}(hB:Below k h h1):BrG h k g args s (.int .i64 s) (cH g args h1 (k+j)) (cK g args h1 (k+j)+n):=⟨h1,j,hB,rfl,rfl,by omega⟩
def TrG(h:aG)(k T:Nat)(g:FuncId)(args:List V)(s:Int)(E0:List V)(v:V)(h':aG)(k':Nat):Prop:= ∃h1 j,Below k h h1∧v= .int .i64 s∧h'=aS (cH g args h1 (k+j)) T (some ⟨8,E0,true⟩)∧cK g args h1 (k+j)≤k'
theorem Gl{h h1:aG}{k T j n:Nat}{g:FuncId}{args:List V}{s:Int}{E E0:List V}(hB:Below k h h1)(hE:E=E0):TrG h k T g args s E0 (.int .i64 s) (aS (cH g args h1 (k+j)) T (some ⟨8,E,true⟩)) (cK g args h1 (k+j)+n):=⟨h1,j,hB,rfl,by rw[hE],by omega⟩
theorem qt.mono{h h':aG}{k k' cB b C L T:Nat}{ids aM:Nat→Nat}{p:Prog}{t:Nat}(H:qt h k cB b C L T ids aM p t)(hk:k≤k')(hh: ∀i,i<k→h' i=h i):qt h' k' cB b C L T ids aM p t:=
 ⟨by rw[hh _ H.lt,H.box],by have:=H.lt;omega,H.ne,H.ni⟩
theorem RL{p:Prog}{m:aJ}{x:Thread}{i:Instr}(h:0≤i.op∧i.op≤17)(hg:(gb p m x i).2.2= -1):(gb p m x i).2.1.pc=x.pc+1:=by
 have n18: ¬i.op=18:=by omega
 have n19: ¬i.op=19:=by omega
 have n20: ¬i.op=20:=by omega
 have n21: ¬i.op=21:=by omega
 have n22: ¬i.op=22:=by omega
 have n23: ¬i.op=23:=by omega
 have n24: ¬i.op=24:=by omega
 revert hg;unfold gb;simp only[n18,n19,n20,n21,n22,n23,n24,if_false];repeat' split
 all_goals first|(intro _;rfl)|(intro h;cases h)
@[simp] theorem Wk(c:V)(p:Prog)(h:aG)(k cB b:Nat)(vB:V)(C L T:Nat)(ids aM:Nat→Nat)(mm:aJ)(tn:Nat)(d:Int)(H:de h k b vB C L T ids aM mm)(HG:cp p d mm)(HC:qt h k cB b C L T ids aM p tn)(hd:d≤1099511628776)(ht:tn<4)(Wf:vB= .sl false (mm.layout.aE.map (V.int .i64))):o0 (bt X 227 [.ptr cB 0 0] h k) p h k b vB C L T ids aM mm tn:=by
 have hl:=H.len;have nr:tn<mm.threads.length:=by omega
 have kM:(tn:Int)<4:=by omega
 have v7:=HG.ph tn nr;have hR:=H.KV tn nr;have hg:=iD (ids:=aM) nr;have hT:=H.ph;have lM:=ey aM mm.threads;rw[hl]at lM;have hb:=H.AR;unfold gD at hb;rw[hl,Wf]at hb;have hc:=HC.box;have RJ:bn mm tn=mm.threads[tn]:=lA nr;obtain⟨x,wB⟩: ∃x,mm.threads[tn]=x:=⟨_,rfl⟩;rw[wB]at RJ;rw[wB]at v7 hR;simp only[wB]at hg;obtain⟨s1,s3,s4,s5,s6⟩:=H.sn tn ht;have tq: ¬T=aM tn:=fun e=>s5 e.symm;have tu: ¬b=aM tn:=fun e=>s1 e.symm;obtain⟨u1,u2,u3,u4⟩:=H.sm;have tw: ¬b=T:=fun e=>u1 e.symm;have nm:=HC.lt;obtain⟨e1,e2,e3,e4⟩:=HC.ne;have e5:=(HC.ni tn ht).2;have e6: ¬T=cB:=fun e=>e4 e.symm;have jw:=H.mem.lt.1;have q1: ∀j,¬b=k+j:=fun j=>by omega
 have q2: ∀j,¬T=k+j:=fun j=>by omega
 have q3: ∀j,¬aM tn=k+j:=fun j=>by omega
 have q4: ∀j,¬k+j=b:=fun j=>by omega
 have q5: ∀j,¬k+j=T:=fun j=>by omega
 have q6: ∀j,¬k+j=aM tn:=fun j=>by omega
 have q7: ∀j,¬cB=k+j:=fun j=>by omega
 have q8: ∀j,¬k+j=cB:=fun j=>by omega
 have tz: ¬b=k:=by omega
 have tA: ¬T=k:=by omega
 have tC: ¬aM tn=k:=by omega
 have tD: ¬cB=k:=by omega
 have tE: ¬k=b:=by omega
 have tF: ¬k=T:=by omega
 have tG: ¬k=aM tn:=by omega
 have tH: ¬k=cB:=by omega
 have xh:=v7.pc;obtain⟨n,hn⟩: ∃n:Nat,x.pc=n:=⟨x.pc.toNat,by omega⟩;have h8:=v7.aO;have Wg:p.code.length≤64:=HG.prog.qk;have OX:=v7.count;have tI:IntKind.i64.wrap (x.count+1)=x.count+1:=wrap_i64 (by omega);have qJ:=dY n (by omega);obtain⟨pc,ps,pd⟩:=p;simp only[dR]at hc;simp only at Wg;by_cases KH:n<pc.length
 case neg=>
  have Gm:(pc.length:Int)≤n:=by omega
  refine o0.of H ht (fU x 2) 2 (by rw[RJ];exact J4 (by simp only;omega)) (bh (X:=X) Tryz.func227 rfl rfl ?_);simp(maxSteps:=10000000) (maxDischargeDepth:=30) (implicitDefEqProofs:=false)[Nat.add_assoc,dx,dR,hb,hc,hT,hR,hg,lM,ht,kM,hn,l6,l9,j9,kc,h8,qJ,tI,s1,s5,tq,tu,u1,tw,q1,q2,q3,q4,q5,q6,q7,q8,tz,tA,tC,tD,tE,tF,tG,tH,e1,e2,e3,e4,e5,e6,KH,Gm];all_goals ((repeat' apply And.intro)<;>first|omega|rfl|exact iW|(intro i hi e1 e2;have e3:(∀j,¬i=k+j):=(fun j=>(by omega));have e4: ¬i=k:=(by omega);simp[e1,e2,e3,e4])|(intro i hi;have e3:(∀j,¬i=k+j):=(fun j=>(by omega));have e4: ¬i=k:=(by omega);simp[e3,e4]))
 have Gm: ¬(pc.length:Int)≤n:=by omega
 have hI:=HG.prog.BL (p:=⟨pc,ps,pd⟩) KH;obtain⟨⟨op,ai,bi,ci,cT⟩,hi⟩: ∃i,pc[n]=i:=⟨_,rfl⟩;simp only at hI;rw[hi]at hI;have hI2:=hI;obtain⟨o1,ia,ib,ic,im,ij,il,is⟩:=hI2;simp only at o1 ia ib ic im ij il is;obtain⟨a,rfl⟩:=Int.eq_ofNat_of_zero_le ia.1;obtain⟨b',rfl⟩:=Int.eq_ofNat_of_zero_le ib.1;obtain⟨c,rfl⟩:=Int.eq_ofNat_of_zero_le ic.1;have hs: ∀r,gb ⟨pc,ps,pd⟩ mm x ⟨op,a,b',c,cT⟩=r→jE ⟨pc,ps,pd⟩ mm (bn mm tn)=r:=fun r g=>by rw[RJ,OG (p:=⟨pc,ps,pd⟩) hn KH hi,g]
 have oc:op=23∨(op=18∨op=19∨op=20∨op=21∨op=22∨op=24)∨(0≤op∧op≤17):=by omega
 rcases oc with rfl|gF|gF
 ·refine o0.of H ht (pO x) 1 (hs _ (by simp[gb,hn])) (bh (X:=X) Tryz.func227 rfl rfl ?_);simp(maxSteps:=10000000) (maxDischargeDepth:=30) (implicitDefEqProofs:=false)[Nat.add_assoc,dx,dR,hb,hc,hT,hR,hg,lM,ht,kM,hn,l6,l9,j9,kc,h8,qJ,tI,s1,s5,tq,tu,u1,tw,q1,q2,q3,q4,q5,q6,q7,q8,tz,tA,tC,tD,tE,tF,tG,tH,e1,e2,e3,e4,e5,e6,KH,Gm,hi];all_goals ((repeat' apply And.intro)<;>first|omega|rfl|exact iW|(intro i hi e1 e2;have e3:(∀j,¬i=k+j):=(fun j=>(by omega));have e4: ¬i=k:=(by omega);simp[e1,e2,e3,e4])|(intro i hi;have e3:(∀j,¬i=k+j):=(fun j=>(by omega));have e4: ¬i=k:=(by omega);simp[e3,e4]))
 ·have GW: ¬op=23:=by omega
  have wy:jN op=true:=by rcases gF with rfl|rfl|rfl|rfl|rfl|rfl<;>decide
  have CE: ∀(h1:aG) (j:Nat),Below k h h1→gd (bt X 264 [.ptr cB 0 0,.agg [.int .i64 op,.int .i64 (a:Int),.int .i64 (b':Int),.int .i64 (c:Int),.int .i64 cT]] h1 (k+j)) ⟨pc,ps,pd⟩ h1 (k+j) b vB C L T ids aM mm tn x ⟨op,a,b',c,cT⟩ id:=fun h1 j gY=>
   OW .bad op a b' c cT ⟨pc,ps,pd⟩ h1 (k+j) cB b vB C L T ids aM mm tn d x op a b' c cT (H.mono (by omega) gY) HG (HC.mono (by omega) gY) hd ht Wf RJ hI (gF)
  by_cases BD:(gb ⟨pc,ps,pd⟩ mm x ⟨op,a,b',c,cT⟩).2.2= -1
  case neg=>
   obtain⟨w,hw,vt⟩: ∃w,gb ⟨pc,ps,pd⟩ mm x ⟨op,a,b',c,cT⟩=(mm.memory,fU x w,2)∧w≠0:=by
    rcases CE h 0 (fun _ _=>rfl) with g|⟨w,_,_,g1,g2,_⟩
    ·exact absurd g.1 BD
    ·exact⟨w,g1,g2⟩
   have lf: ∀(h1:aG) (j:Nat),Below k h h1→bt X 264 [.ptr cB 0 0,.agg [.int .i64 op,.int .i64 (a:Int),.int .i64 (b':Int),.int .i64 (c:Int),.int .i64 cT]] h1 (k+j)=some (.int .i64 w,cH 264 [.ptr cB 0 0,.agg [.int .i64 op,.int .i64 (a:Int),.int .i64 (b':Int),.int .i64 (c:Int),.int .i64 cT]] h1 (k+j),cK 264 [.ptr cB 0 0,.agg [.int .i64 op,.int .i64 (a:Int),.int .i64 (b':Int),.int .i64 (c:Int),.int .i64 cT]] h1 (k+j))∧k+j≤cK 264 [.ptr cB 0 0,.agg [.int .i64 op,.int .i64 (a:Int),.int .i64 (b':Int),.int .i64 (c:Int),.int .i64 cT]] h1 (k+j)∧ ∀i,i<k+j→cH 264 [.ptr cB 0 0,.agg [.int .i64 op,.int .i64 (a:Int),.int .i64 (b':Int),.int .i64 (c:Int),.int .i64 cT]] h1 (k+j) i=h1 i:=fun h1 j gY=>by
    rcases CE h1 j gY with g|⟨w',h',k',g1,g2,e,g3,g4⟩
    ·exact absurd g.1 BD
    ·have ew:w'=w:=by rw[hw]at g1;simp only[ax,fU,Thread.mk.injEq]at g1;exact g1.2.1.2.2.2.2.2.2.1.symm
     subst ew;obtain⟨e1,e2⟩:=yQ e;rw[e1,e2];exact⟨e,g3,g4⟩
   have cl:=fun h1 j gY=>(lf h1 j gY).1;have lc: ∀(h1:aG) (j:Nat),Below k h h1→cH 264 [.ptr cB 0 0,.agg [.int .i64 op,.int .i64 (a:Int),.int .i64 (b':Int),.int .i64 (c:Int),.int .i64 cT]] h1 (k+j) cB=some ⟨5,[dR ⟨pc,ps,pd⟩ b T tn],true⟩:=fun h1 j gY=>by rw[(lf h1 j gY).2.2 _ (by omega),gY _ nm];exact hc
   have lT: ∀(h1:aG) (j:Nat),Below k h h1→cH 264 [.ptr cB 0 0,.agg [.int .i64 op,.int .i64 (a:Int),.int .i64 (b':Int),.int .i64 (c:Int),.int .i64 cT]] h1 (k+j) T=some ⟨8,bo aM mm.threads,true⟩:=fun h1 j gY=>by rw[(lf h1 j gY).2.2 _ (by omega),gY _ (by omega),hT]
   unfold dR at lc;refine o0.of H ht (fU x w) 2 (hs _ hw) ?_;obtain⟨v,h',n',e,h1,j,gY,rfl,hE,hK⟩:=bh (X:=X) (g:=227) (args:=[.ptr cB 0 0]) (h:=h) (k:=k) (K:=TrG h k T 264 [.ptr cB 0 0,.agg [.int .i64 op,.int .i64 (a:Int),.int .i64 (b':Int),.int .i64 (c:Int),.int .i64 cT]] 2 ((bo aM mm.threads).set tn (dw aM tn (fU x w)))) Tryz.func227 rfl rfl (by
    simp(maxSteps:=10000000) (maxDischargeDepth:=30) (implicitDefEqProofs:=false)[Nat.add_assoc,dx,dR,hb,hc,hT,hR,hg,lM,ht,kM,hn,l6,l9,j9,kc,h8,qJ,tI,s1,s5,tq,tu,u1,tw,q1,q2,q3,q4,q5,q6,q7,q8,tz,tA,tC,tD,tE,tF,tG,tH,e1,e2,e3,e4,e5,e6,KH,Gm,hi,GW,wy,vt,cl,lc,lT,sb,List.set_set,dU,eI,dV];refine Gl ?_ ?_
    ·simp only[dU,eI,dV]
    ·first|rfl|simp only[List.set_set])
   obtain⟨_,g1,g2⟩:=lf h1 j gY;refine⟨_,h',n',e,rfl,by rw[hE];simp[aS],?_,by omega,fun i hi h1 h2=> ?_⟩
   ·rw[hE,aS,if_neg s5,g2 _ (by omega),gY _ (by omega),hR];rfl
   ·rw[hE,aS,if_neg h1,g2 _ (by omega),gY _ hi]
  obtain⟨M1,X1,Kk⟩: ∃M1 X1,gb ⟨pc,ps,pd⟩ mm x ⟨op,a,b',c,cT⟩=(M1,X1, -1):=⟨_,_,by rw[←BD]⟩;have lf: ∀(h1:aG) (j:Nat),Below k h h1→bt X 264 [.ptr cB 0 0,.agg [.int .i64 op,.int .i64 (a:Int),.int .i64 (b':Int),.int .i64 (c:Int),.int .i64 cT]] h1 (k+j)=some (.int .i64 0,cH 264 [.ptr cB 0 0,.agg [.int .i64 op,.int .i64 (a:Int),.int .i64 (b':Int),.int .i64 (c:Int),.int .i64 cT]] h1 (k+j),cK 264 [.ptr cB 0 0,.agg [.int .i64 op,.int .i64 (a:Int),.int .i64 (b':Int),.int .i64 (c:Int),.int .i64 cT]] h1 (k+j))∧ ∃ir,de (cH 264 [.ptr cB 0 0,.agg [.int .i64 op,.int .i64 (a:Int),.int .i64 (b':Int),.int .i64 (c:Int),.int .i64 cT]] h1 (k+j)) (cK 264 [.ptr cB 0 0,.agg [.int .i64 op,.int .i64 (a:Int),.int .i64 (b':Int),.int .i64 (c:Int),.int .i64 cT]] h1 (k+j)) b vB C L T ir aM (eO mm M1 tn (id X1))∧k+j≤cK 264 [.ptr cB 0 0,.agg [.int .i64 op,.int .i64 (a:Int),.int .i64 (b':Int),.int .i64 (c:Int),.int .i64 cT]] h1 (k+j)∧(∀j,j<4→ir j=ids j∨k≤ir j)∧
    ∀i,i<k+j→i≠C→i≠L→(∀j,j<4→i≠ids j)→i≠T→i≠aM tn→cH 264 [.ptr cB 0 0,.agg [.int .i64 op,.int .i64 (a:Int),.int .i64 (b':Int),.int .i64 (c:Int),.int .i64 cT]] h1 (k+j) i=h1 i:=fun h1 j gY=>by
   rcases CE h1 j gY with⟨_,h',k',ir,e,G,g1,g2,g3⟩|⟨w',h',k',g1,g2,e,g3,g4⟩
   ·rw[Kk]at G;obtain⟨e1,e2⟩:=yQ e;rw[e1,e2];exact⟨e,ir,G,g1,fun j hj=>by rcases g2 j hj with e|e;exact .inl e;exact .inr (by omega),g3⟩
   ·rw[g1]at BD;cases BD
  have cl:=fun h1 j gY=>(lf h1 j gY).1;have lc: ∀(h1:aG) (j:Nat),Below k h h1→cH 264 [.ptr cB 0 0,.agg [.int .i64 op,.int .i64 (a:Int),.int .i64 (b':Int),.int .i64 (c:Int),.int .i64 cT]] h1 (k+j) cB=some ⟨5,[dR ⟨pc,ps,pd⟩ b T tn],true⟩:=fun h1 j gY=>by
   obtain⟨_,_,_,_,_,g⟩:=lf h1 j gY;rw[g _ (by omega) e2 e3 (fun j hj=>(HC.ni j hj).1) e4 e5,gY _ nm];exact hc
  unfold dR at lc;obtain⟨v,h',n',e,h1,j,gY,rfl,hE,hK⟩:=bh (X:=X) (g:=227) (args:=[.ptr cB 0 0]) (h:=h) (k:=k) (K:=BrG h k 264 [.ptr cB 0 0,.agg [.int .i64 op,.int .i64 (a:Int),.int .i64 (b':Int),.int .i64 (c:Int),.int .i64 cT]] (-1)) Tryz.func227 rfl rfl (by
   simp(maxSteps:=10000000) (maxDischargeDepth:=30) (implicitDefEqProofs:=false)[Nat.add_assoc,dx,dR,hb,hc,hT,hR,hg,lM,ht,kM,hn,l6,l9,j9,kc,h8,qJ,tI,s1,s5,tq,tu,u1,tw,q1,q2,q3,q4,q5,q6,q7,q8,tz,tA,tC,tD,tE,tF,tG,tH,e1,e2,e3,e4,e5,e6,KH,Gm,hi,GW,wy,cl,lc,dU,eI,dV];refine Wj ?_;simp only[dU,eI,dV])
  obtain⟨_,ir,G,g1,gi,g2⟩:=lf h1 j gY;have e1:iM ⟨pc,ps,pd⟩ mm tn=(eO mm M1 tn X1, -1):=by rw[sd,hs _ Kk]
  unfold o0;subst hE;rw[e1];exact⟨_,n',ir,e,G.mono hK (fun _ _=>rfl),by omega,gi,fun i hi hC KU wH hT1 hR1=>by rw[g2 i (by omega) hC KU wH hT1 hR1,gY i hi]⟩
 ·have GW: ¬op=23:=by omega
  have wy:jN op=false:=by simp[jN,jumps];omega
  have CE: ∀(h1:aG) (j:Nat),Below k h h1→gd (bt X 265 [.ptr cB 0 0,.agg [.int .i64 op,.int .i64 (a:Int),.int .i64 (b':Int),.int .i64 (c:Int),.int .i64 cT]] h1 (k+j)) ⟨pc,ps,pd⟩ h1 (k+j) b vB C L T ids aM mm tn x ⟨op,a,b',c,cT⟩ (mH x.pc):=fun h1 j gY=>
   RK .bad op a b' c cT ⟨pc,ps,pd⟩ h1 (k+j) cB b vB C L T ids aM mm tn d x op a b' c cT (H.mono (by omega) gY) HG (HC.mono (by omega) gY) hd ht Wf RJ hI (gF)
  by_cases BD:(gb ⟨pc,ps,pd⟩ mm x ⟨op,a,b',c,cT⟩).2.2= -1
  case neg=>
   obtain⟨w,hw,vt⟩: ∃w,gb ⟨pc,ps,pd⟩ mm x ⟨op,a,b',c,cT⟩=(mm.memory,fU x w,2)∧w≠0:=by
    rcases CE h 0 (fun _ _=>rfl) with g|⟨w,_,_,g1,g2,_⟩
    ·exact absurd g.1 BD
    ·exact⟨w,g1,g2⟩
   have lf: ∀(h1:aG) (j:Nat),Below k h h1→bt X 265 [.ptr cB 0 0,.agg [.int .i64 op,.int .i64 (a:Int),.int .i64 (b':Int),.int .i64 (c:Int),.int .i64 cT]] h1 (k+j)=some (.int .i64 w,cH 265 [.ptr cB 0 0,.agg [.int .i64 op,.int .i64 (a:Int),.int .i64 (b':Int),.int .i64 (c:Int),.int .i64 cT]] h1 (k+j),cK 265 [.ptr cB 0 0,.agg [.int .i64 op,.int .i64 (a:Int),.int .i64 (b':Int),.int .i64 (c:Int),.int .i64 cT]] h1 (k+j))∧k+j≤cK 265 [.ptr cB 0 0,.agg [.int .i64 op,.int .i64 (a:Int),.int .i64 (b':Int),.int .i64 (c:Int),.int .i64 cT]] h1 (k+j)∧ ∀i,i<k+j→cH 265 [.ptr cB 0 0,.agg [.int .i64 op,.int .i64 (a:Int),.int .i64 (b':Int),.int .i64 (c:Int),.int .i64 cT]] h1 (k+j) i=h1 i:=fun h1 j gY=>by
    rcases CE h1 j gY with g|⟨w',h',k',g1,g2,e,g3,g4⟩
    ·exact absurd g.1 BD
    ·have ew:w'=w:=by rw[hw]at g1;simp only[ax,fU,Thread.mk.injEq]at g1;exact g1.2.1.2.2.2.2.2.2.1.symm
     subst ew;obtain⟨e1,e2⟩:=yQ e;rw[e1,e2];exact⟨e,g3,g4⟩
   have cl:=fun h1 j gY=>(lf h1 j gY).1;have lc: ∀(h1:aG) (j:Nat),Below k h h1→cH 265 [.ptr cB 0 0,.agg [.int .i64 op,.int .i64 (a:Int),.int .i64 (b':Int),.int .i64 (c:Int),.int .i64 cT]] h1 (k+j) cB=some ⟨5,[dR ⟨pc,ps,pd⟩ b T tn],true⟩:=fun h1 j gY=>by rw[(lf h1 j gY).2.2 _ (by omega),gY _ nm];exact hc
   have lT: ∀(h1:aG) (j:Nat),Below k h h1→cH 265 [.ptr cB 0 0,.agg [.int .i64 op,.int .i64 (a:Int),.int .i64 (b':Int),.int .i64 (c:Int),.int .i64 cT]] h1 (k+j) T=some ⟨8,bo aM mm.threads,true⟩:=fun h1 j gY=>by rw[(lf h1 j gY).2.2 _ (by omega),gY _ (by omega),hT]
   unfold dR at lc;refine o0.of H ht (fU x w) 2 (hs _ hw) ?_;obtain⟨v,h',n',e,h1,j,gY,rfl,hE,hK⟩:=bh (X:=X) (g:=227) (args:=[.ptr cB 0 0]) (h:=h) (k:=k) (K:=TrG h k T 265 [.ptr cB 0 0,.agg [.int .i64 op,.int .i64 (a:Int),.int .i64 (b':Int),.int .i64 (c:Int),.int .i64 cT]] 2 ((bo aM mm.threads).set tn (dw aM tn (fU x w)))) Tryz.func227 rfl rfl (by
    simp(maxSteps:=10000000) (maxDischargeDepth:=30) (implicitDefEqProofs:=false)[Nat.add_assoc,dx,dR,hb,hc,hT,hR,hg,lM,ht,kM,hn,l6,l9,j9,kc,h8,qJ,tI,s1,s5,tq,tu,u1,tw,q1,q2,q3,q4,q5,q6,q7,q8,tz,tA,tC,tD,tE,tF,tG,tH,e1,e2,e3,e4,e5,e6,KH,Gm,hi,GW,wy,vt,cl,lc,lT,sb,List.set_set,dU,eI,dV];refine Gl ?_ ?_
    ·simp only[dU,eI,dV]
    ·first|rfl|simp only[List.set_set])
   obtain⟨_,g1,g2⟩:=lf h1 j gY;refine⟨_,h',n',e,rfl,by rw[hE];simp[aS],?_,by omega,fun i hi h1 h2=> ?_⟩
   ·rw[hE,aS,if_neg s5,g2 _ (by omega),gY _ (by omega),hR];rfl
   ·rw[hE,aS,if_neg h1,g2 _ (by omega),gY _ hi]
  obtain⟨M1,X1,Kk⟩: ∃M1 X1,gb ⟨pc,ps,pd⟩ mm x ⟨op,a,b',c,cT⟩=(M1,X1, -1):=⟨_,_,by rw[←BD]⟩;have lf: ∀(h1:aG) (j:Nat),Below k h h1→bt X 265 [.ptr cB 0 0,.agg [.int .i64 op,.int .i64 (a:Int),.int .i64 (b':Int),.int .i64 (c:Int),.int .i64 cT]] h1 (k+j)=some (.int .i64 0,cH 265 [.ptr cB 0 0,.agg [.int .i64 op,.int .i64 (a:Int),.int .i64 (b':Int),.int .i64 (c:Int),.int .i64 cT]] h1 (k+j),cK 265 [.ptr cB 0 0,.agg [.int .i64 op,.int .i64 (a:Int),.int .i64 (b':Int),.int .i64 (c:Int),.int .i64 cT]] h1 (k+j))∧ ∃ir,de (cH 265 [.ptr cB 0 0,.agg [.int .i64 op,.int .i64 (a:Int),.int .i64 (b':Int),.int .i64 (c:Int),.int .i64 cT]] h1 (k+j)) (cK 265 [.ptr cB 0 0,.agg [.int .i64 op,.int .i64 (a:Int),.int .i64 (b':Int),.int .i64 (c:Int),.int .i64 cT]] h1 (k+j)) b vB C L T ir aM (eO mm M1 tn ((mH x.pc) X1))∧k+j≤cK 265 [.ptr cB 0 0,.agg [.int .i64 op,.int .i64 (a:Int),.int .i64 (b':Int),.int .i64 (c:Int),.int .i64 cT]] h1 (k+j)∧(∀j,j<4→ir j=ids j∨k≤ir j)∧
    ∀i,i<k+j→i≠C→i≠L→(∀j,j<4→i≠ids j)→i≠T→i≠aM tn→cH 265 [.ptr cB 0 0,.agg [.int .i64 op,.int .i64 (a:Int),.int .i64 (b':Int),.int .i64 (c:Int),.int .i64 cT]] h1 (k+j) i=h1 i:=fun h1 j gY=>by
   rcases CE h1 j gY with⟨_,h',k',ir,e,G,g1,g2,g3⟩|⟨w',h',k',g1,g2,e,g3,g4⟩
   ·rw[Kk]at G;obtain⟨e1,e2⟩:=yQ e;rw[e1,e2];exact⟨e,ir,G,g1,fun j hj=>by rcases g2 j hj with e|e;exact .inl e;exact .inr (by omega),g3⟩
   ·rw[g1]at BD;cases BD
  have cl:=fun h1 j gY=>(lf h1 j gY).1;have lc: ∀(h1:aG) (j:Nat),Below k h h1→cH 265 [.ptr cB 0 0,.agg [.int .i64 op,.int .i64 (a:Int),.int .i64 (b':Int),.int .i64 (c:Int),.int .i64 cT]] h1 (k+j) cB=some ⟨5,[dR ⟨pc,ps,pd⟩ b T tn],true⟩:=fun h1 j gY=>by
   obtain⟨_,_,_,_,_,g⟩:=lf h1 j gY;rw[g _ (by omega) e2 e3 (fun j hj=>(HC.ni j hj).1) e4 e5,gY _ nm];exact hc
  unfold dR at lc;have Z3:X1.pc=x.pc+1:=by
   have:=RL (p:=⟨pc,ps,pd⟩) (m:=mm) (x:=x) (i:=⟨op,a,b',c,cT⟩) (gF) BD;rw[Kk]at this;exact this
  obtain⟨y1,yr,y3,y4,y5,y6,y7,y8⟩:=X1;simp only at Z3;subst Z3;have lT: ∀(h1:aG) (j:Nat),Below k h h1→cH 265 [.ptr cB 0 0,.agg [.int .i64 op,.int .i64 (a:Int),.int .i64 (b':Int),.int .i64 (c:Int),.int .i64 cT]] h1 (k+j) T=some ⟨8,(bo aM mm.threads).set tn (.agg [.int .i64 y1,.bJ (aM tn) 0 yr.length,.int .i64 x.pc,.int .i64 y4,.int .i64 y5,.int .i64 y6,.int .i64 y7,.int .u16 y8]),true⟩:=fun h1 j gY=>by
   obtain⟨_,G,_⟩:=(lf h1 j gY).2;have:=G.ph;rw[this];unfold eO;rw[←iu nr];rfl
  have nH: ∀y:V,((bo aM mm.threads).set tn y).length=4:=fun y=>by rw[List.length_set,lM]
  obtain⟨v,h',n',e,h1,j,gY,rfl,hE,hK⟩:=bh (X:=X) (g:=227) (args:=[.ptr cB 0 0]) (h:=h) (k:=k) (K:=TrG h k T 265 [.ptr cB 0 0,.agg [.int .i64 op,.int .i64 (a:Int),.int .i64 (b':Int),.int .i64 (c:Int),.int .i64 cT]] (-1) ((bo aM mm.threads).set tn (.agg [.int .i64 y1,.bJ (aM tn) 0 yr.length,.int .i64 (x.pc+1),.int .i64 y4,.int .i64 y5,.int .i64 y6,.int .i64 y7,.int .u16 y8]))) Tryz.func227 rfl rfl (by
   simp(maxSteps:=10000000) (maxDischargeDepth:=30) (implicitDefEqProofs:=false)[Nat.add_assoc,dx,dR,hb,hc,hT,hR,hg,lM,ht,kM,hn,l6,l9,j9,kc,h8,qJ,tI,s1,s5,tq,tu,u1,tw,q1,q2,q3,q4,q5,q6,q7,q8,tz,tA,tC,tD,tE,tF,tG,tH,e1,e2,e3,e4,e5,e6,KH,Gm,hi,GW,wy,cl,lc,lT,nH,sb,List.set_set,dU,eI,dV];refine Gl ?_ ?_
   ·simp only[dU,eI,dV]
   ·first|rfl|simp only[List.set_set,hn])
  obtain⟨_,ir,G,g1,gi,g2⟩:=lf h1 j gY;have e1:iM ⟨pc,ps,pd⟩ mm tn=(eO mm M1 tn ⟨y1,yr,x.pc+1,y4,y5,y6,y7,y8⟩, -1):=by rw[sd,hs _ Kk]
  unfold o0;rw[e1];refine⟨h',n',ir,e,?_,by omega,gi,fun i hi hC KU wH hT1 hR1=>by rw[hE,aS,if_neg hT1,g2 i (by omega) hC KU wH hT1 hR1,gY i hi]⟩;have Ld:tn<(eO mm M1 tn (mH x.pc ⟨y1,yr,x.pc+1,y4,y5,y6,y7,y8⟩)).threads.length:=by unfold eO;simpa using nr
  have di:=G.KV tn Ld;have hgt:(eO mm M1 tn (mH x.pc ⟨y1,yr,x.pc+1,y4,y5,y6,y7,y8⟩)).threads[tn]=mH x.pc ⟨y1,yr,x.pc+1,y4,y5,y6,y7,y8⟩:=by simp[eO]
  rw[hgt]at di;have Q:=G.put (h':=h') (k':=n') (t:=tn) (x:=⟨y1,yr,x.pc+1,y4,y5,y6,y7,y8⟩) hK ht (by
   rw[hE,aS,if_pos rfl];unfold eO;rw[List.set_set,←iu nr];rfl) (by rw[hE,aS,if_neg s5,di];rfl) (fun i hi h1 h2=>by rw[hE,aS,if_neg h1])
  have es:(aJ.mk (eO mm M1 tn (mH x.pc ⟨y1,yr,x.pc+1,y4,y5,y6,y7,y8⟩)).layout (eO mm M1 tn (mH x.pc ⟨y1,yr,x.pc+1,y4,y5,y6,y7,y8⟩)).memory ((eO mm M1 tn (mH x.pc ⟨y1,yr,x.pc+1,y4,y5,y6,y7,y8⟩)).threads.set tn ⟨y1,yr,x.pc+1,y4,y5,y6,y7,y8⟩))=eO mm M1 tn ⟨y1,yr,x.pc+1,y4,y5,y6,y7,y8⟩:=by
   unfold eO;rw[List.set_set]
  rw[←es];exact Q
structure OZ (p:Prog) (m:aJ) (tn:Nat) (h:aG) (k:Nat) (h':aG) (k' cB b C L T:Nat) (ids aM:Nat→Nat):Prop where
 Gb:de h' k' b (.sl false (m.layout.aE.map (V.int .i64))) C L T ids aM m
 core:qt h' k' cB b C L T ids aM p tn
 le:k≤k'
 fr: ∀i,i<k→h' i=h i
 OL:mF k (.sl false (m.layout.aE.map (V.int .i64))) C L T ids aM∧k≤cB∧k≤b
@[simp] theorem RM(ay:List Instr)(aw:List Int)(aA:List (List Int))(ae:List Int)(an:Int)(ak:List Cell)(ah:List bT)(au:List Thread)(t:Int)(h:aG)(k tn:Nat)(hr:AO (aJ.mk (Layout.mk ae an) (aF.mk ak ah) au))(hv:jP (Prog.mk ay aw aA) (aJ.mk (Layout.mk ae an) (aF.mk ak ah) au)=true)(n4:tn<4): ∃h' k' cB b C L T ids aM,bt X 226 [.agg [.sl false (ay.map Instr.enc),.sl false (aw.map (V.int .i64)),.sl false (aA.map bE)],.agg (mG (aJ.mk (Layout.mk ae an) (aF.mk ak ah) au)),.int .i64 (tn:Int)] h k=some (.cg [.ptr cB 0 0,.int .i64 0],h',k')∧OZ (Prog.mk ay aw aA) (aJ.mk (Layout.mk ae an) (aF.mk ak ah) au) tn h k h' k' cB b C L T ids aM:=by
 have MG:=yD hr hv;have hp:=MG.prog.lens;have hm:=MG.lens;have hl:au.length=4:=MG.len;obtain⟨v1,h1,k1,eC,ek,ev,HA,HB⟩:=Hm ae an ak ah au (k+20) (Prog.mk ay aw aA) _ MG;subst ek;subst ev;simp only[Nat.add_assoc,Nat.reduceAdd]at eC HA HB;have t0: ¬(tn:Int)<0:=by omega
 have t4:(tn:Int)<4:=by omega
 have lO: ¬(4:Int)≤tn:=by omega
 have hT:=HA.ph;obtain⟨HB1,HB2,HB3⟩:=HB;unfold mG;have key: ∃v h' k',bt X 226 [.agg [.sl false (ay.map Instr.enc),.sl false (aw.map (V.int .i64)),.sl false (aA.map bE)],.agg [.sl false (ae.map (V.int .i64)),.int .u16 an,.sl false (ak.map Cell.enc),.sl false (ah.map bT.enc),.sl false (au.map Thread.enc)],.int .i64 (tn:Int)] h k=some (v,h',k')∧ ∃cB b C L T ids aM,v= .cg [.ptr cB 0 0,.int .i64 0]∧OZ (Prog.mk ay aw aA) (aJ.mk (Layout.mk ae an) (aF.mk ak ah) au) tn h k h' k' cB b C L T ids aM:=by
  refine bh (X:=X) (K:=fun v h' k'=> ∃cB b C L T ids aM,v= .cg [.ptr cB 0 0,.int .i64 0]∧OZ (Prog.mk ay aw aA) (aJ.mk (Layout.mk ae an) (aF.mk ak ah) au) tn h k h' k' cB b C L T ids aM) Tryz.func226 rfl rfl ?_;simp(maxSteps:=10000000) (maxDischargeDepth:=30) (implicitDefEqProofs:=false)[hp,hm,hv,t0,t4,lO,n4,hl,eC,iv,jm,hT,Nat.add_assoc];have lo: ∀x,k≤x→k+20≤x∨x<k+20:=fun x hx=>by omega
  have HA2: ∀H:aG,(∀i,k+20≤i→i<k+214→H i=h1 i)→H (k+18)=some ⟨5,[gD (.sl false (ae.map (V.int .i64))) (k+42) (k+43) (k+206) (aJ.mk (Layout.mk ae an) (aF.mk ak ah) au)],true⟩→de H (k+223) (k+18) (.sl false (ae.map (V.int .i64))) (k+42) (k+43) (k+206) (uB (k+64) (k+83) (k+102) (k+121)) (uB (k+141) (k+161) (k+181) (k+201)) (aJ.mk (Layout.mk ae an) (aF.mk ak ah) au):=fun H hH hb=>
   ZK (a:=k+20) (k:=k+214) (h1:=H) hb (by omega) (by omega) (by omega) (HA.mono ⟨HB1,HB2,HB3⟩ (Nat.le_refl _) hH) ⟨HB1,HB2,HB3⟩ fun _ _=>rfl
  refine⟨k+18,k+42,k+43,k+206,uB (k+64) (k+83) (k+102) (k+121),uB (k+141) (k+161) (k+181) (k+201),⟨HA2 _ (fun i a b=> ?_) ?_,⟨?_,by omega,⟨by omega,by omega,by omega,by omega⟩,fun j hj=> ?_⟩,by omega,fun i hi=> ?_,⟨⟨by omega,by omega,by omega⟩,fun j hj=> ?_,fun B s n e=>by cases e⟩,by omega,by omega⟩⟩
  ·have n1: ¬i=k+220:=by omega
   have n2: ¬i=k+18:=by omega
   have n3: ¬i<k+20:=by omega
   simp[aS,n1,n2,n3]
  ·simp[aS,gD,hl]
  ·simp[aS,dR]
  ·have q:=HB2 j hj;have q2:=HA.lt.2.2 j hj;have q3:=(HA.sn j hj).2.2.2;omega
  ·have n1: ∀j,¬i=k+j:=fun j=>by omega
   have n2: ¬i=k:=by omega
   have n3:i<k+20:=by omega
   simp[aS,n1,n2,n3]
  ·have q:=HB2 j hj;omega
 obtain⟨v,h',k',e,cB,b,C,L,T,ids,aM,rfl,HB⟩:=key;exact⟨h',k',cB,b,C,L,T,ids,aM,e,HB⟩
def SlI(p:Prog)(lay:Layout)(cB b C L T:Nat)(aM:Nat→Nat)(tn:Nat)(upto:Int)(tg:aJ×Int)(i:Nat)(S:St):Prop:= ∃mi iC,(S.f 8= .ptr 2 0 0∧S.f 11= .ptr cB 0 0∧S.f 13= .int .i64 upto)∧S.h 2=some ⟨5,[.agg [.sl true [],.int .u16 0,.sl true [],.sl true [],.sl true []]],true⟩∧
   mi.layout=lay∧de S.h S.n b (.sl false (lay.aE.map (V.int .i64))) C L T iC aM mi∧mF 14 (.sl false (lay.aE.map (V.int .i64))) C L T iC aM∧qt S.h S.n cB b C L T iC aM p tn∧14≤S.n∧
   cp p (1099511627776+64) mi∧(((bn mi tn).count<upto∧i+yH upto (bn mi tn)≤19456∧fV p tn upto (20000-i) mi=tg)∨((bn mi tn).count=upto∧tg=(mi,0)))
@[simp] theorem O0(ay:List Instr)(aw:List Int)(aA:List (List Int))(ae:List Int)(an:Int)(ak:List Cell)(ah:List bT)(au:List Thread)(t n:Int)(tn:Nat)(hr:AO (aJ.mk (Layout.mk ae an) (aF.mk ak ah) au))(hv:jP (Prog.mk ay aw aA) (aJ.mk (Layout.mk ae an) (aF.mk ak ah) au)=true)(n4:tn<4)(hn:1≤n∧n≤64): ∃v h k,bt X 153 [.agg [.sl false (ay.map Instr.enc),.sl false (aw.map (V.int .i64)),.sl false (aA.map bE)],.agg [.sl false (ae.map (V.int .i64)),.int .u16 an,.sl false (ak.map Cell.enc),.sl false (ah.map bT.enc),.sl false (au.map Thread.enc)],.int .i64 (tn:Int),.int .i64 n] qE 0=some (v,h,k)∧yR (cY (Prog.mk ay aw aA) (aJ.mk (Layout.mk ae an) (aF.mk ak ah) au) tn n).1 (cY (Prog.mk ay aw aA) (aJ.mk (Layout.mk ae an) (aF.mk ak ah) au) tn n).2 0 v h k:=by
 obtain⟨H0,Z4⟩: ∃H:aG,aS (aS (aS qE 0 (some ⟨3,[.agg [.sl false (ay.map Instr.enc),.sl false (aw.map (V.int .i64)),.sl false (aA.map bE)]],true⟩)) 1 (some ⟨5,[.agg [.sl false (ae.map (V.int .i64)),.int .u16 an,.sl false (ak.map Cell.enc),.sl false (ah.map bT.enc),.sl false (au.map Thread.enc)]],true⟩)) 2 (some ⟨5,[.agg [.sl true [],.int .u16 0,.sl true [],.sl true [],.sl true []]],true⟩)=H:=⟨_,rfl⟩;have z0:H0 0=some ⟨3,[.agg [.sl false (ay.map Instr.enc),.sl false (aw.map (V.int .i64)),.sl false (aA.map bE)]],true⟩:=by rw[←Z4];simp[aS]
 have z1:H0 1=some ⟨5,[.agg [.sl false (ae.map (V.int .i64)),.int .u16 an,.sl false (ak.map Cell.enc),.sl false (ah.map bT.enc),.sl false (au.map Thread.enc)]],true⟩:=by rw[←Z4];simp[aS]
 have z2:H0 2=some ⟨5,[.agg [.sl true [],.int .u16 0,.sl true [],.sl true [],.sl true []]],true⟩:=by rw[←Z4];simp[aS]
 obtain⟨n1,n64⟩:=hn;have h0:(0:Int)≤tn:=by omega
 have h4:(tn:Int)<4:=by omega
 have MG:=yD hr hv;have hl:au.length=4:=MG.len;have nl:tn<au.length:=by omega
 have hx:bn (aJ.mk (Layout.mk ae an) (aF.mk ak ah) au) tn=au[tn]:=lA nl;obtain⟨h1,k1,cB,b,C,L,T,ids,aM,e,HB⟩:=RM ay aw aA ae an ak ah au 0 H0 14 tn hr hv n4;unfold mG at e;simp only at e;have f2:=HB.fr 2 (by omega);rw[z2]at f2;have hcb:=HB.core.box;have hT:=HB.Gb.ph;unfold dR at hcb;simp only at hcb hT;have gg:=iD (ids:=aM) nl;have DX:=ey aM au;rw[hl]at DX;have Ty: ¬n<1:=by omega
 have Z5: ¬64<n:=by omega
 obtain⟨HA1,hA2,hA3⟩:=HB.OL;have bx0:=HB.Gb.AR;unfold gD at bx0;simp only[hl]at bx0;have fin: ∀(H:aG) (K k':Nat) (x:Option Ob) (iC:Nat→Nat) (r:aJ) (s:Int),r.layout=⟨ae,an⟩→de H K b (.sl false (ae.map (V.int .i64))) C L T iC aM r→mF 14 (.sl false (ae.map (V.int .i64))) C L T iC aM→
   yR r s 0 (.cg [.agg [.sl false (ae.map (V.int .i64)),.int .u16 an,.bJ C 0 512,.bJ L 0 4,.bJ T 0 4],.int .i64 s,.int .i64 0]) (aS H 2 x) k':=fun H K k' x iC r s zQ G GA=>by
  refine⟨_,C,L,T,iC,aM,_,?_,G.at.mono GA (Nat.le_refl _) fun i hi _=>by rw[aS,if_neg (by omega)]⟩;unfold gD;rw[G.len,zQ]
 by_cases hs:(au[tn]).state=1
 case neg=>
  have e0:cY (Prog.mk ay aw aA) (aJ.mk (Layout.mk ae an) (aF.mk ak ah) au) tn n=((aJ.mk (Layout.mk ae an) (aF.mk ak ah) au),3):=by unfold cY;rw[show(aJ.threads (aJ.mk (Layout.mk ae an) (aF.mk ak ah) au)).getD tn cE=au[tn] from hx];exact if_neg hs
  rw[e0];refine bh (X:=X) Tryz.func153 rfl rfl ?_;simp(maxSteps:=10000000) (maxDischargeDepth:=30) (implicitDefEqProofs:=false)[Z4,z0,z1,e,f2,Ty,Z5,hcb,hT,gg,DX,n4,hs,bx0];exact fin h1 k1 _ _ ids _ _ rfl HB.Gb HA1
 have jV:=eq_true hs;obtain⟨upto,wG⟩: ∃u,(au[tn]).count+n=u:=⟨_,rfl⟩;have hcx:=(MG.ph tn nl).count;simp only at hcx;have hwu:IntKind.i64.wrap ((au[tn]).count+n)=upto:=by rw[wG];exact wrap_i64 (by omega)
 have e0:cY (Prog.mk ay aw aA) (aJ.mk (Layout.mk ae an) (aF.mk ak ah) au) tn n=fV (Prog.mk ay aw aA) tn upto 20000 (aJ.mk (Layout.mk ae an) (aF.mk ak ah) au):=by
  unfold cY;rw[show(aJ.threads (aJ.mk (Layout.mk ae an) (aF.mk ak ah) au)).getD tn cE=au[tn] from hx,if_pos hs,wG]
 rw[e0];obtain⟨tg,htg⟩: ∃r,fV (Prog.mk ay aw aA) tn upto 20000 (aJ.mk (Layout.mk ae an) (aF.mk ak ah) au)=r:=⟨_,rfl⟩;rw[htg];refine bh (X:=X) Tryz.func153 rfl rfl ?_;simp(maxSteps:=10000000) (maxDischargeDepth:=30) (implicitDefEqProofs:=false)[Z4,z0,z1,e,f2,Ty,Z5,hcb,hT,gg,DX,n4,jV,hwu];refine fh (fun i S=>SlI (Prog.mk ay aw aA) ⟨ae,an⟩ cB b C L T aM tn upto tg i S) 19456 ?_ 0 (by simp) ?_
 ·rintro i S hi ⟨mi,iC,⟨f8,f11,f13⟩,hh2,zQ,HI,GA,HC,hK,Wl,Lh⟩;have hl4:=HI.len;have nl2:tn<mi.threads.length:=by omega
  have gT:=HI.ph;have gg:=iD (ids:=aM) nl2;have DX:=ey aM mi.threads;rw[hl4]at DX;have gx:bn mi tn=mi.threads[tn]:=lA nl2;have gc:=HC.box;unfold dR at gc;simp only at gc;rcases Lh with⟨hc,hle,heq⟩|⟨Wm,heq⟩
  case inr=>
   rw[gx]at Wm;have bx:=HI.AR;unfold gD at bx;rw[hl4,zQ]at bx;simp only at bx;rw[heq];have jw: ¬upto<upto:=by omega
   simp(maxSteps:=10000000) (maxDischargeDepth:=30) (implicitDefEqProofs:=false)[f8,f11,f13,hh2,gc,gT,gg,DX,n4,Wm,bx];exact fin _ _ _ _ _ _ _ zQ HI GA
  have ajk:1≤yH upto (bn mi tn):=by
   have:=(Wl.bn n4).pc;unfold yH;omega
  have Kz:i<19456:=by omega
  have Ld:20000-i=(20000-(i+1))+1:=by omega
  obtain⟨h',k',Wn,eo,G,g1,g2,g3⟩:=Wk .bad (Prog.mk ay aw aA) S.h (S.n+12) cB b _ C L T iC aM mi tn _ (HI.mono (by omega) fun _ _=>rfl) Wl (HC.mono (by omega) fun _ _=>rfl) (by omega) n4 (by rw[zQ]);have GA2:mF 14 (.sl false (ae.map (V.int .i64))) C L T Wn aM:=by
   obtain⟨q1,q2,q3⟩:=GA;refine⟨q1,fun j hj=>⟨?_,(q2 j hj).2⟩,q3⟩;rcases g2 j hj with e|e
   ·rw[e];exact(q2 j hj).1
   ·omega
  obtain⟨e1,e2,e3,e4⟩:=HC.ne;have kf:=HC.lt;have fc:=g3 cB (by omega) e2 e3 (fun j hj=>(HC.ni j hj).1) e4 (HC.ni tn n4).2;obtain⟨⟨y1,y2,y3⟩,y4,y5⟩:=GA;have f22:=g3 2 (by omega) (by omega) (by omega) (fun j hj=>by have:=y4 j hj;omega) (by omega) (by have:=y4 tn n4;omega);rw[hh2]at f22;have HC2:qt h' k' cB b C L T Wn aM (Prog.mk ay aw aA) tn:=⟨by rw[fc];exact HC.box,by omega,⟨e1,e2,e3,e4⟩,fun j hj=>⟨by
   rcases g2 j hj with e|e
   ·rw[e];exact(HC.ni j hj).1
   ·omega,(HC.ni j hj).2⟩⟩
  rw[gc]at fc;have bx:=G.AR;have gl:=G.len;unfold gD at bx;rw[gl,v9,zQ]at bx;simp only at bx;have Z6:(iM (Prog.mk ay aw aA) mi tn).1.layout=⟨ae,an⟩:=by rw[v9];exact zQ
  have uV:=hc;rw[gx]at uV;by_cases ho:(iM (Prog.mk ay aw aA) mi tn).2= -1
  case neg=>
   rw[←heq,Ld,uC ho];simp(maxSteps:=10000000) (maxDischargeDepth:=30) (implicitDefEqProofs:=false)[f8,f11,f13,hh2,gc,gT,gg,DX,n4,uV,eo,fc,f22,bx,ho,Nat.add_assoc];exact fin _ _ _ _ _ _ _ Z6 G GA2
  have sF:=eq_true ho;have hlf:=vp Wl n4 ho upto;have ajm:=(rH Wl (Wl.bn n4)).Ri (by rw[sd]at ho;exact ho);have ag5:=rI Wl n4;simp(maxSteps:=10000000) (maxDischargeDepth:=30) (implicitDefEqProofs:=false)[f8,f11,f13,hh2,gc,gT,gg,DX,n4,uV,eo,fc,f22,bx,sF,Kz,Nat.add_assoc];refine⟨(iM (Prog.mk ay aw aA) mi tn).1,Wn,⟨by simp[aS,f8],by simp[aS,f11],by simp[aS,f13]⟩,f22,Z6,G.mono (by first|omega|(simp only;omega)) (fun _ _=>rfl),GA2,HC2.mono (by first|omega|(simp only;omega)) (fun _ _=>rfl),by first|omega|(simp only;omega),BM Wl n4 (by omega),?_⟩;by_cases Wm:(bn (iM (Prog.mk ay aw aA) mi tn).1 tn).count=upto
  ·exact .inr ⟨Wm,by rw[←heq,Ld,v8 ho Wm]⟩
  ·refine .inl ⟨by rw[ag5]at Wm⊢;omega,by omega,?_⟩;rw[←heq,Ld,uD ho Wm]
 ·simp(maxSteps:=10000000) (maxDischargeDepth:=30) (implicitDefEqProofs:=false)[hl];refine⟨(aJ.mk (Layout.mk ae an) (aF.mk ak ah) au),ids,⟨by simp[aS],by simp[aS],by simp[aS]⟩,f2,rfl,HB.Gb.mono (by first|omega|(simp only;omega)) (fun _ _=>rfl),HA1,HB.core.mono (by first|omega|(simp only;omega)) (fun _ _=>rfl),by have:=HB.le;first|omega|(simp only;omega),MG.mono (by omega),.inl ⟨by rw[hx];omega,?_,htg⟩⟩;have:=(MG.ph tn nl).pc;simp only at this;rw[hx];unfold yH;omega
@[simp] theorem O1(ay:List Instr)(aw:List Int)(aA:List (List Int))(ae:List Int)(an:Int)(ak:List Cell)(ah:List bT)(au:List Thread)(t n:Int)(hr:AO (aJ.mk (Layout.mk ae an) (aF.mk ak ah) au))(hv:jP (Prog.mk ay aw aA) (aJ.mk (Layout.mk ae an) (aF.mk ak ah) au)=true)(ht:0≤t∧t<4)(hn:1≤n∧n≤64):ye X [(0,4,112)] 153 [.agg [.sl false (ay.map Instr.enc),.sl false (aw.map (V.int .i64)),.sl false (aA.map bE)],.agg [.sl false (ae.map (V.int .i64)),.int .u16 an,.sl false (ak.map Cell.enc),.sl false (ah.map bT.enc),.sl false (au.map Thread.enc)],.int .i64 t,.int .i64 n]=some (.cg [.agg [.sl false (((cY (Prog.mk ay aw aA) (aJ.mk (Layout.mk ae an) (aF.mk ak ah) au) t.toNat n).1).layout.aE.map (V.int .i64)),.int .u16 ((cY (Prog.mk ay aw aA) (aJ.mk (Layout.mk ae an) (aF.mk ak ah) au) t.toNat n).1).layout.key,.sl false (((cY (Prog.mk ay aw aA) (aJ.mk (Layout.mk ae an) (aF.mk ak ah) au) t.toNat n).1).memory.cells.map Cell.enc),.sl false (((cY (Prog.mk ay aw aA) (aJ.mk (Layout.mk ae an) (aF.mk ak ah) au) t.toNat n).1).memory.lines.map bT.enc),.sl false (((cY (Prog.mk ay aw aA) (aJ.mk (Layout.mk ae an) (aF.mk ak ah) au) t.toNat n).1).threads.map Thread.enc)],.int .i64 ((cY (Prog.mk ay aw aA) (aJ.mk (Layout.mk ae an) (aF.mk ak ah) au) t.toNat n).2),.int .i64 0]):=by
 obtain⟨k,rfl⟩:=Int.eq_ofNat_of_zero_le ht.1;exact yR.ye (O0 ay aw aA ae an ak ah au k n k hr hv (by omega) hn)
def Two(k:Nat)(A D:List Canon)(v:V)(h:aG)(n:Nat):Prop:= ∃vA vD,v= .cg [vA,vD]∧yU Canon.enc 4 k A vA h n∧yU Canon.enc 4 k D vD h n
theorem yU.lower{α:Type}{f:α→V}{c k k' n:Nat}{l:List α}{v:V}{h:aG}(H:yU f c k l v h n)(hk:k'≤k):yU f c k' l v h n:=by
 rcases H with H|⟨h0,id,k1,k2,e,g⟩
 ·exact .inl H
 ·exact .inr ⟨h0,id,by omega,k2,e,g⟩
@[simp] theorem RN(ay:List Instr)(aw:List Int)(aA:List (List Int))(ae:List Int)(an:Int)(ak:List Cell)(ah:List bT)(au:List Thread)(fP:Int)(bI:List Cell)(jf dz cD dA iJ iK call:Int)(k:Nat)(hL:pE ae aw)(hM:lZ ⟨ak,ah⟩)(hr:bI.length=8)(hrc:cL bI)(hc:0≤call∧call≤15)(hb:pH call=1→0≤(bI.getD 1 ⟨0,0⟩).val∧0≤(bI.getD 2 ⟨0,0⟩).val∧(bI.getD 2 ⟨0,0⟩).val≤16∧(bI.getD 1 ⟨0,0⟩).val+(bI.getD 2 ⟨0,0⟩).val≤512): ∃v h' k',bt X 157 [.agg [.sl false (ay.map Instr.enc),.sl false (aw.map (V.int .i64)),.sl false (aA.map bE)],.agg [.sl false (ae.map (V.int .i64)),.int .u16 an,.sl false (ak.map Cell.enc),.sl false (ah.map bT.enc),.sl false (au.map Thread.enc)],.agg [.int .i64 fP,.sl false (bI.map Cell.enc),.int .i64 jf,.int .i64 dz,.int .i64 cD,.int .i64 dA,.int .i64 iJ,.int .u16 iK],.int .i64 call] qE k=some (v,h',k')∧Two k (jy ae an aw bI (b9 call).length) (if pH call=1 then ot ae an aw ⟨ak,ah⟩ (bI.getD 1 ⟨0,0⟩).val.toNat (bI.getD 2 ⟨0,0⟩).val.toNat else []) v h' k':=by
 have l1:1<bI.length:=by omega
 have l2:2<bI.length:=by omega
 obtain⟨⟨XC,RG⟩,e1⟩: ∃x,bI[1]'l1=x:=⟨_,rfl⟩;obtain⟨⟨r2t,r2v⟩,e3⟩: ∃x,bI[2]'l2=x:=⟨_,rfl⟩;have g1:bI.getD 1 ⟨0,0⟩=⟨XC,RG⟩:=by simp[List.getD,hr,e1]
 have g2:bI.getD 2 ⟨0,0⟩=⟨r2t,r2v⟩:=by simp[List.getD,hr,e3]
 have q1:bI[1]?.getD ⟨0,0⟩=⟨XC,RG⟩:=g1;have q2:bI[2]?.getD ⟨0,0⟩=⟨r2t,r2v⟩:=g2;rw[g1,g2]at hb⊢;simp only at hb⊢;have k3:=kK hc;have hA:Aw call=((b9 call).length:Int):=AT hc;have z:=DQ ae an aw bI;have kk: ∀j,¬k=k+1+j:=fun j=>by omega
 refine bh (X:=X) (K:=fun v h n=>Two k (jy ae an aw bI (b9 call).length) (if pH call=1 then ot ae an aw ⟨ak,ah⟩ RG.toNat r2v.toNat else []) v h n) Tryz.func157 rfl rfl ?_;simp(maxSteps:=10000000) (maxDischargeDepth:=30) (implicitDefEqProofs:=false)[Nat.add_assoc,hA];refine fh (fun i S=>(S.f 3= .int .i64 call∧S.f 4= .ptr k 0 0∧S.f 5= .ptr (k+1) 0 0∧S.f 6= .ptr (k+2) 0 0∧S.f 11= .sl true []∧S.f 18= .int .i64 ((b9 call).length:Int)∧S.f 19= .int .i64 (i:Int))∧
  (S.h k=some ⟨3,[.agg [.sl false (ay.map Instr.enc),.sl false (aw.map (V.int .i64)),.sl false (aA.map bE)]],true⟩∧S.h (k+1)=some ⟨5,[.agg [.sl false (ae.map (V.int .i64)),.int .u16 an,.sl false (ak.map Cell.enc),.sl false (ah.map bT.enc),.sl false (au.map Thread.enc)]],true⟩∧S.h (k+2)=some ⟨8,[.agg [.int .i64 fP,.sl false (bI.map Cell.enc),.int .i64 jf,.int .i64 dz,.int .i64 cD,.int .i64 dA,.int .i64 iJ,.int .u16 iK]],true⟩)∧
  yU Canon.enc 4 (k+3) (jy ae an aw bI i) (S.f 10) S.h S.n∧k+3≤S.n) (b9 call).length ?_ 0 (by simp) ?_
 ·rintro i S hi ⟨⟨f3,f4,f5,f6,f11,f18,f19⟩,⟨h0,h1,h2⟩,HO,hn⟩;have n0: ∀j,¬k=S.n+j:=fun j=>by omega
  have n1: ∀j,¬k+1=S.n+j:=fun j=>by omega
  have n2: ∀j,¬k+2=S.n+j:=fun j=>by omega
  have len:=yS (aE:=ae) (key:=an) (aq:=aw) (aO:=bI) (i:=i) (by omega);by_cases jw:i<(b9 call).length
  ·have i8:i<8:=by omega
   have i8i:(i:Int)<8:=by omega
   have il:i<bI.length:=by omega
   have dh:=dY i (by omega);have up:=J5 (aE:=ae) (key:=an) (aq:=aw) il;obtain⟨⟨ct,cv⟩,rX⟩: ∃x,bI[i]=x:=⟨_,rfl⟩;have sM:=rX▸hrc.at il;have Rp:=sM.2;have Z7:ct=0∨ct=1∨ct=2:=by have:=sM.1;simp only at this;omega
   simp only at Rp;rw[rX]at up;have gi:bI[i]?.getD ⟨0,0⟩=⟨ct,cv⟩:=by rw[List.getElem?_eq_getElem il,rX];rfl
   obtain⟨xs,XO⟩: ∃q,jy ae an aw bI i=q:=⟨_,rfl⟩;rw[XO]at HO up len;rcases HO with⟨e0,j10⟩|⟨e0,id,b1,b2,j10,bV⟩
   ·simp(maxSteps:=10000000) (maxDischargeDepth:=30) (implicitDefEqProofs:=false)[Nat.add_assoc,f3,f4,f5,f6,f11,f18,f19,h0,h1,h2,n0,n1,n2,jw,hr,hL,i8,i8i,gi,rX,Rp,Z7,dh,j10,Cell.aU];refine⟨?_,by omega⟩;rw[up,e0];exact .inr ⟨by simp,S.n+13,by omega,by omega,rfl,by simp[aS,Canon.aU]⟩
   ·have ni: ∀j,¬id=S.n+j:=fun j=>by omega
    simp(maxSteps:=10000000) (maxDischargeDepth:=30) (implicitDefEqProofs:=false)[Nat.add_assoc,f3,f4,f5,f6,f11,f18,f19,h0,h1,h2,n0,n1,n2,jw,hr,hL,i8,i8i,gi,rX,Rp,Z7,dh,j10,bV,ni,Cell.aU];refine⟨⟨by omega,by omega⟩,fun _ _=>⟨⟨by omega,by omega,by omega⟩,?_,by omega⟩⟩;rw[up];exact .inr ⟨by simp,S.n+13,by omega,by omega,by simp,by simp[aS,Canon.aU]⟩
  ·have mP:i=(b9 call).length:=by omega
   subst mP;by_cases hbc:pH call=1
   case neg=>
    have qH:=eq_false hbc;simp(maxSteps:=10000000) (maxDischargeDepth:=30) (implicitDefEqProofs:=false)[Nat.add_assoc,f3,f4,f5,f6,f11,f18,f19,h0,h1,h2,n0,n1,n2,qH,hc];exact⟨_,_,rfl,(HO.mono (by omega) fun i a b=>by simp[aS]).lower (by omega),.inl ⟨rfl,rfl⟩⟩
   have qH:=eq_true hbc;obtain⟨w1,w2,w3,w4⟩:=hb hbc;obtain⟨a1,rfl⟩:=Int.eq_ofNat_of_zero_le w1;obtain⟨Wo,rfl⟩:=Int.eq_ofNat_of_zero_le w2;have n16:Wo≤16:=by omega
   have xH:IntKind.i64.wrap (a1:Int)=a1:=wrap_i64 (by omega);have JF:IntKind.i64.wrap (Wo:Int)=Wo:=wrap_i64 (by omega);have hMP:qh ⟨ak,ah⟩:=hM.mem;simp(maxSteps:=10000000) (maxDischargeDepth:=30) (implicitDefEqProofs:=false)[Nat.add_assoc,f3,f4,f5,f6,f11,f18,f19,h0,h1,h2,n0,n1,n2,qH,hc,hr,q1,q2,l1,l2,e1,e3,xH,JF,Cell.aU];obtain⟨m0,WM⟩: ∃q,S.n=q:=⟨_,rfl⟩;rw[WM]at HO hn;refine fh (fun j S'=>(S'.f 4= .ptr k 0 0∧S'.f 5= .ptr (k+1) 0 0∧S'.f 13= .int .i64 (a1:Int)∧S'.f 44= .int .i64 (Wo:Int)∧S'.f 45= .int .i64 (j:Int))∧
    (S'.h k=some ⟨3,[.agg [.sl false (ay.map Instr.enc),.sl false (aw.map (V.int .i64)),.sl false (aA.map bE)]],true⟩∧S'.h (k+1)=some ⟨5,[.agg [.sl false (ae.map (V.int .i64)),.int .u16 an,.sl false (ak.map Cell.enc),.sl false (ah.map bT.enc),.sl false (au.map Thread.enc)]],true⟩)∧
    yU Canon.enc 4 (k+3) (jy ae an aw bI (b9 call).length) (S'.f 10) S'.h m0∧yU Canon.enc 4 m0 (ot ae an aw ⟨ak,ah⟩ a1 j) (S'.f 11) S'.h S'.n∧m0≤S'.n) Wo ?_ 0 (by simp) ?_
   ·rintro j S' hj ⟨⟨j4,j5,j13,j44,j45⟩,⟨g0,Sj⟩,HA,HD,D4⟩;have n0': ∀i,¬k=S'.n+i:=fun i=>by omega
    have Ty: ∀i,¬k+1=S'.n+i:=fun i=>by omega
    have ahd:=AS ae an aw ⟨ak,ah⟩ a1 j;by_cases hlj:j<Wo
    ·have up:=OK ae an aw ⟨ak,ah⟩ a1 j;obtain⟨qa,hqa⟩: ∃q:Nat,a1+j=q:=⟨_,rfl⟩;rw[hqa]at up;have haq:0≤(qa:Int)∧(qa:Int)<512:=by omega
     have yl:=dY j (by omega);have XD:IntKind.i64.wrap ((a1:Int)+j)=(qa:Int):=by rw[wrap_i64 (by omega)];omega
     have hlk:=cL.look hM qa;have O2:=Ds ak ah (qa:Int) hMP haq;rw[Int.toNat_natCast]at O2;obtain⟨⟨ct,cv⟩,rX⟩: ∃x,look ⟨ak,ah⟩ qa=x:=⟨_,rfl⟩;rw[rX]at up hlk O2;have Rp:=hlk.2;have Z7:ct=0∨ct=1∨ct=2:=by have:=hlk.1;simp only at this;omega
     try simp only at Rp
     try simp only at O2
     obtain⟨xs,XO⟩: ∃q,ot ae an aw ⟨ak,ah⟩ a1 j=q:=⟨_,rfl⟩;rw[XO]at HD up ahd;rcases HD with⟨e0,j11⟩|⟨e0,id,b1,b2,j11,bV⟩
     ·simp(maxSteps:=10000000) (maxDischargeDepth:=30) (implicitDefEqProofs:=false)[Nat.add_assoc,j4,j5,j13,j44,j45,g0,Sj,n0',Ty,hlj,hL,XD,yl,O2,Rp,Z7,j11,Cell.aU];refine⟨?_,?_,by omega⟩
      ·exact HA.mono (Nat.le_refl _) fun i a b=>by
        have n4: ∀j,¬i=S'.n+j:=fun j=>by omega
        simp[aS,n4]
      ·rw[up,e0];exact .inr ⟨by simp,S'.n+23,by omega,by omega,rfl,by simp[aS,Canon.aU]⟩
     ·have ni: ∀j,¬id=S'.n+j:=fun j=>by omega
      simp(maxSteps:=10000000) (maxDischargeDepth:=30) (implicitDefEqProofs:=false)[Nat.add_assoc,j4,j5,j13,j44,j45,g0,Sj,n0',Ty,hlj,hL,XD,yl,O2,Rp,Z7,j11,bV,ni,Cell.aU];refine⟨⟨by omega,by omega⟩,fun _ _=>⟨⟨by omega,by omega⟩,?_,?_,by omega⟩⟩
      ·exact HA.mono (Nat.le_refl _) fun i a b=>by
        have n4: ∀j,¬i=S'.n+j:=fun j=>by omega
        have n5: ¬i=id:=by omega
        simp[aS,n4,n5]
      ·rw[up];exact .inr ⟨by simp,S'.n+23,by omega,by omega,by simp,by simp[aS,Canon.aU]⟩
    ·have Ky:j=Wo:=by omega
     subst Ky;simp(maxSteps:=10000000) (maxDischargeDepth:=30) (implicitDefEqProofs:=false)[Nat.add_assoc,j4,j5,j13,j44,j45,g0,Sj,n0',Ty];exact⟨_,_,rfl,(HA.mono (by omega) fun i a b=>by simp[aS]).lower (by omega),(HD.mono (by omega) fun i a b=>by simp[aS]).lower (by omega)⟩
   ·simp(maxSteps:=10000000) (maxDischargeDepth:=30) (implicitDefEqProofs:=false)[Nat.add_assoc];exact⟨⟨f4,f5⟩,⟨h0,h1⟩,HO,.inl ⟨Gf ..,f11⟩,by omega⟩
 ·simp(maxSteps:=10000000) (maxDischargeDepth:=30) (implicitDefEqProofs:=false)[Nat.add_assoc];exact .inl ⟨z,rfl⟩
theorem qu(l:List Canon):iy (some ⟨4,l.map Canon.enc,false⟩)=some ⟨4,l.map Canon.enc,false⟩:=by
 show(if(l.map Canon.enc).all V.B5=true then some (Ob.mk 4 (l.map Canon.enc) false) else none)=_;rw[if_pos];rw[List.all_eq_true];intro x hx;obtain⟨c, -,rfl⟩:=List.mem_map.1 hx;rfl
@[simp] theorem Hs(ay:List Instr)(aw:List Int)(aA:List (List Int))(ae:List Int)(an:Int)(ak:List Cell)(ah:List bT)(au:List Thread)(t n:Int)(hr:AO (aJ.mk (Layout.mk ae an) (aF.mk ak ah) au))(hv:jP (Prog.mk ay aw aA) (aJ.mk (Layout.mk ae an) (aF.mk ak ah) au)=true)(ht:0≤t∧t<4)(hn:1≤n∧n≤64):ba X 74 [.agg [.sl false (ay.map Instr.enc),.sl false (aw.map (V.int .i64)),.sl false (aA.map bE)],.agg [.sl false (ae.map (V.int .i64)),.int .u16 an,.sl false (ak.map Cell.enc),.sl false (ah.map bT.enc),.sl false (au.map Thread.enc)],.int .i64 t,.int .i64 n]=some (.cg [.agg [.sl false (((ez (Prog.mk ay aw aA) (aJ.mk (Layout.mk ae an) (aF.mk ak ah) au) t n).1).layout.aE.map (V.int .i64)),.int .u16 ((ez (Prog.mk ay aw aA) (aJ.mk (Layout.mk ae an) (aF.mk ak ah) au) t n).1).layout.key,.sl false (((ez (Prog.mk ay aw aA) (aJ.mk (Layout.mk ae an) (aF.mk ak ah) au) t n).1).memory.cells.map Cell.enc),.sl false (((ez (Prog.mk ay aw aA) (aJ.mk (Layout.mk ae an) (aF.mk ak ah) au) t n).1).memory.lines.map bT.enc),.sl false (((ez (Prog.mk ay aw aA) (aJ.mk (Layout.mk ae an) (aF.mk ak ah) au) t n).1).threads.map Thread.enc)],.agg [.int .i64 ((ez (Prog.mk ay aw aA) (aJ.mk (Layout.mk ae an) (aF.mk ak ah) au) t n).2.1).bD,.int .i64 ((ez (Prog.mk ay aw aA) (aJ.mk (Layout.mk ae an) (aF.mk ak ah) au) t n).2.1).stop,.int .i64 ((ez (Prog.mk ay aw aA) (aJ.mk (Layout.mk ae an) (aF.mk ak ah) au) t n).2.1).cz,.int .i64 ((ez (Prog.mk ay aw aA) (aJ.mk (Layout.mk ae an) (aF.mk ak ah) au) t n).2.1).count,.int .i64 ((ez (Prog.mk ay aw aA) (aJ.mk (Layout.mk ae an) (aF.mk ak ah) au) t n).2.1).pc,.int .i64 ((ez (Prog.mk ay aw aA) (aJ.mk (Layout.mk ae an) (aF.mk ak ah) au) t n).2.1).call,.sl false (((ez (Prog.mk ay aw aA) (aJ.mk (Layout.mk ae an) (aF.mk ak ah) au) t n).2.1).args.map Canon.enc),.sl false (((ez (Prog.mk ay aw aA) (aJ.mk (Layout.mk ae an) (aF.mk ak ah) au) t n).2.1).data.map Canon.enc)],.int .i64 0]):=by
 refine aN Tryz.func74 rfl rfl ?_;have e:ez (Prog.mk ay aw aA) (aJ.mk (Layout.mk ae an) (aF.mk ak ah) au) t n=((kh (Prog.mk ay aw aA) (cY (Prog.mk ay aw aA) (aJ.mk (Layout.mk ae an) (aF.mk ak ah) au) t.toNat n).1 t.toNat (cY (Prog.mk ay aw aA) (aJ.mk (Layout.mk ae an) (aF.mk ak ah) au) t.toNat n).2).1,(kh (Prog.mk ay aw aA) (cY (Prog.mk ay aw aA) (aJ.mk (Layout.mk ae an) (aF.mk ak ah) au) t.toNat n).1 t.toNat (cY (Prog.mk ay aw aA) (aJ.mk (Layout.mk ae an) (aF.mk ak ah) au) t.toNat n).2).2,0):=if_pos ⟨hv,ht,hn⟩;rw[e];have nH:=O1 ay aw aA ae an ak ah au t n hr hv ht hn;obtain⟨k,rfl⟩:=Int.eq_ofNat_of_zero_le ht.1;have k4:k<4:=by omega
 have TN:(k:Int)<4:=by omega
 have MG:=yD hr hv;simp only[Int.toNat_natCast]at nH⊢;have SG:(cY (Prog.mk ay aw aA) (aJ.mk (Layout.mk ae an) (aF.mk ak ah) au) k n).2=3∧cp (Prog.mk ay aw aA) (1099511627776+n) (cY (Prog.mk ay aw aA) (aJ.mk (Layout.mk ae an) (aF.mk ak ah) au) k n).1∨yI (Prog.mk ay aw aA) (1099511627776+n) k (cY (Prog.mk ay aw aA) (aJ.mk (Layout.mk ae an) (aF.mk ak ah) au) k n):=by
  by_cases hs:(bn (aJ.mk (Layout.mk ae an) (aF.mk ak ah) au) k).state=1
  ·exact .inr (AP MG k4 hn.1 hs)
  ·have e1:cY (Prog.mk ay aw aA) (aJ.mk (Layout.mk ae an) (aF.mk ak ah) au) k n=((aJ.mk (Layout.mk ae an) (aF.mk ak ah) au),3):=by unfold cY;exact if_neg hs
   rw[e1];exact .inl ⟨rfl,MG.mono (by omega)⟩
 obtain⟨⟨⟨bs,key⟩,⟨cs,ls⟩,ts⟩,s,Sz⟩: ∃mm s,cY (Prog.mk ay aw aA) (aJ.mk (Layout.mk ae an) (aF.mk ak ah) au) k n=(mm,s):=⟨_,_,rfl⟩;rw[Sz]at nH SG⊢;simp only at nH SG⊢;have HG:cp (Prog.mk ay aw aA) (1099511627776+n) ⟨⟨bs,key⟩,⟨cs,ls⟩,ts⟩:=by
  rcases SG with h|h
  ·exact h.2
  ·exact h.Gb
 have hl:ts.length=4:=HG.len;have kl:k<ts.length:=by omega
 have hx:bn ⟨⟨bs,key⟩,⟨cs,ls⟩,ts⟩ k=ts[k]:=lA kl;have mw:=HG.ph k kl;simp only at mw;obtain⟨⟨st,rg,pc,co,ha,sa,tr,cd⟩,wB⟩: ∃x,ts[k]=x:=⟨_,rfl⟩;rw[wB]at hx mw;have h8:rg.length=8:=mw.aO;have Wq: ∀(f:Thread→V),List.take 4 (ts.map f)=ts.map f:=fun f=>aQ (by simp;omega);have Wr: ∀(f:Thread→Option V),List.take 4 (ts.map f)=ts.map f:=fun f=>aQ (by simp;omega);by_cases s1:s=1
 case neg=>
  have e2:kh (Prog.mk ay aw aA) ⟨⟨bs,key⟩,⟨cs,ls⟩,ts⟩ k s=(⟨⟨bs,key⟩,⟨cs,ls⟩,ts⟩,⟨k,s,if s=2 then tr else 0,co,pc,0,[],[]⟩):=by
   unfold kh;rw[if_neg s1,hx]
  rw[e2];by_cases s2:s=2
  ·subst s2;simp(maxSteps:=10000000) (maxDischargeDepth:=30) (implicitDefEqProofs:=false)[nH,Wq,Wr,qq,ec,hl,k4,TN,wB,h8]
  ·simp(maxSteps:=10000000) (maxDischargeDepth:=30) (implicitDefEqProofs:=false)[nH,Wq,Wr,qq,ec,hl,k4,TN,wB,h8,s1,s2]
 subst s1;have SG1:yI (Prog.mk ay aw aA) (1099511627776+n) k (⟨⟨bs,key⟩,⟨cs,ls⟩,ts⟩,1):=by
  rcases SG with h|h
  ·exact absurd h.1 (by decide)
  ·exact h
 obtain⟨c1,c2,c3,c4⟩:=SG1.calls rfl;simp only[hx]at c1 c2 c3 c4;have hL:=HG.lay;have Wg:ay.length≤64:=HG.prog.qk;have Pt:=mw.cells.dm;simp only at hL Pt;have Ws:ts.getD (k:Int).toNat cE=⟨st,rg,pc,co,ha,sa,tr,cd⟩:=by rw[Int.toNat_natCast];simp[List.getD,kl,wB]
 obtain⟨j,hj⟩: ∃j:Nat,pc-1=j:=⟨(pc-1).toNat,by omega⟩;have vE:j<ay.length:=by omega
 have ary:(j:Int)<ay.length:=by omega
 have uL:ji ay pc=ay[j]:=by unfold ji;rw[hj];simp[List.getD,vE]
 have hwp:IntKind.i64.wrap (pc-1)=j:=by rw[hj];exact wrap_i64 (by omega)
 have hI:=HG.prog.BL (p:=(Prog.mk ay aw aA)) vE;simp only at hI;rw[uL]at c4;have Rz:0≤(ay[j]).cT∧(ay[j]).cT≤15:=⟨hI.cT.1,hI.sys c4⟩;have RO:=wL ay aw aA bs key cs ls ts k hl ⟨by omega,TN⟩ hL (by omega) (by rw[Ws];exact h8) (by rw[Ws];exact Pt) (by rw[Ws];exact⟨c2,c3⟩) (by rw[Ws];simp only;rw[uL];exact c4) (by rw[Ws];simp only;rw[uL];exact Rz) (by rw[Ws];have:=mw.pc;simp only at this⊢;omega);rw[Ws]at RO;simp only[uL]at RO;obtain⟨c,sM⟩: ∃c,(ay[j]).cT=c:=⟨_,rfl⟩;rw[sM]at RO Rz;have hco:lB (Prog.mk ay aw aA) ⟨st,rg,pc,co,ha,sa,tr,cd⟩=c:=by unfold lB;simp only;rw[uL,sM]
 obtain⟨w,hw⟩: ∃w,rF bs aw ay.length c rg=w:=⟨_,rfl⟩;rw[hw]at RO;have hwy:BQ (Prog.mk ay aw aA) ⟨⟨bs,key⟩,⟨cs,ls⟩,ts⟩ ⟨st,rg,pc,co,ha,sa,tr,cd⟩=w:=by unfold BQ;rw[hco];exact hw
 by_cases w0:w=0
 case neg=>
  have e2:kh (Prog.mk ay aw aA) ⟨⟨bs,key⟩,⟨cs,ls⟩,ts⟩ k 1=(⟨⟨bs,key⟩,⟨cs,ls⟩,ts.set k (fU ⟨st,rg,pc,co,ha,sa,tr,cd⟩ w)⟩,⟨k,2,w,co,pc,0,[],[]⟩):=by
   unfold kh;rw[if_pos rfl,hx,hwy,if_neg w0];rfl
  rw[e2];obtain⟨PM,RP⟩: ∃PM,ts.set k (fU ⟨st,rg,pc,co,ha,sa,tr,cd⟩ w)=PM:=⟨_,rfl⟩;have KD:PM.length=4:=by rw[←RP];simp[hl]
  have ahg: ∀(f:Thread→V),List.take 4 (PM.map f)=PM.map f:=fun f=>aQ (by simp;omega);have ahh: ∀(f:Thread→Option V),List.take 4 (PM.map f)=PM.map f:=fun f=>aQ (by simp;omega);have p7:(ts.map Thread.enc).set k (V.agg [.int .i64 4,.sl false (rg.map Cell.enc),.int .i64 pc,.int .i64 co,.int .i64 ha,.int .i64 sa,.int .i64 w,.int .u16 0])=PM.map Thread.enc:=by rw[←RP,List.map_set];rfl
  have ahi:(Thread.enc ⟨st,rg,pc,co,ha,sa,tr,cd⟩).put 0 (V.agg [.int .i64 4,.sl false (rg.map Cell.enc),.int .i64 pc,.int .i64 co,.int .i64 ha,.int .i64 sa,.int .i64 w,.int .u16 0])=V.agg [.int .i64 4,.sl false (rg.map Cell.enc),.int .i64 pc,.int .i64 co,.int .i64 ha,.int .i64 sa,.int .i64 w,.int .u16 0]:=rfl;have k2l:k<PM.length:=by omega
  have Z8:PM[k]=⟨4,rg,pc,co,ha,sa,w,0⟩:=by simp only[←RP];rw[List.getElem_set_self];rfl
  rw[RP];simp(maxSteps:=10000000) (maxDischargeDepth:=30) (implicitDefEqProofs:=false)[nH,Wq,Wr,ahg,ahh,qq,ec,hl,KD,k4,TN,wB,h8,RO,w0,p7,ahi,Z8]
 subst w0;obtain⟨hf,CH⟩:=wa hw;have k3:=kK Rz;have e2:kh (Prog.mk ay aw aA) ⟨⟨bs,key⟩,⟨cs,ls⟩,ts⟩ k 1=(⟨⟨bs,key⟩,⟨cs,ls⟩,ts⟩,⟨k,1,0,co,pc,c,jy bs key aw rg (b9 c).length,if pH c=1 then ot bs key aw ⟨cs,ls⟩ (rg.getD 1 ⟨0,0⟩).val.toNat (rg.getD 2 ⟨0,0⟩).val.toNat else []⟩):=by
  unfold kh;rw[if_pos rfl,hx,hwy,if_pos rfl];unfold DR;simp only[hco]
 rw[e2];have xh:=mw.pc;simp only at xh;have XB:vW ay pc=c:=by rw[DE ⟨c2,c3⟩ (by rw[uL];exact c4),uL,sM]
 have kf:=yp ay aw aA st rg pc co ha sa tr cd (by omega) xh;rw[XB]at kf;obtain⟨va,ha,ka,eak,vA,vD,rfl,HA,HD⟩:=RN ay aw aA bs key cs ls ts st rg pc co ha sa tr cd c 70 hL HG.mem h8 mw.cells Rz (fun hb=>by
  have IE:=CH (by omega);obtain⟨_,w2,w3,w4⟩:=J7 hL IE.1;exact⟨w3,w2,IE.2,w4⟩)
 obtain⟨A,hA⟩: ∃A,jy bs key aw rg (b9 c).length=A:=⟨_,rfl⟩;obtain⟨D,hD⟩: ∃D,(if pH c=1 then ot bs key aw ⟨cs,ls⟩ (rg.getD 1 ⟨0,0⟩).val.toNat (rg.getD 2 ⟨0,0⟩).val.toNat else [])=D:=⟨_,rfl⟩;rw[hA]at HA⊢;rw[hD]at HD⊢;have u0:(V.cg [V.sl true [],V.sl true []]).pu=true:=rfl;have u1: ∀a b,(V.cg [V.sl true [],V.bJ a 0 b]).pu=true:=fun _ _=>rfl;have u2: ∀a b,(V.cg [V.bJ a 0 b,V.sl true []]).pu=true:=fun _ _=>rfl;have u3: ∀a b c d,(V.cg [V.bJ a 0 b,V.bJ c 0 d]).pu=true:=fun _ _ _ _=>rfl;rcases HA with⟨rfl,rfl⟩|⟨a0,ia,a1,a2,rfl,a4⟩
 ·rcases HD with⟨rfl,rfl⟩|⟨d0,id,d1,d2,rfl,d4⟩
  ·simp(maxSteps:=10000000) (maxDischargeDepth:=30) (implicitDefEqProofs:=false)[nH,Wq,Wr,qq,ec,hl,k4,TN,wB,h8,RO,kf,eak,u0,u1,u2,u3,qu]
  ·have dl: ¬id<70:=by omega
   have dj: ∀j,j<70→(id=j)=False:=fun j _=>by simp;omega
   simp(maxSteps:=10000000) (maxDischargeDepth:=30) (implicitDefEqProofs:=false)[nH,Wq,Wr,qq,ec,hl,k4,TN,wB,h8,RO,kf,eak,u0,u1,u2,u3,qu,d4,dl,dj]
 ·have al: ¬ia<70:=by omega
  have aj: ∀j,j<70→(ia=j)=False:=fun j _=>by simp;omega
  rcases HD with⟨rfl,rfl⟩|⟨d0,id,d1,d2,rfl,d4⟩
  ·simp(maxSteps:=10000000) (maxDischargeDepth:=30) (implicitDefEqProofs:=false)[nH,Wq,Wr,qq,ec,hl,k4,TN,wB,h8,RO,kf,eak,u0,u1,u2,u3,qu,a4,al,aj]
  ·have dl: ¬id<70:=by omega
   have dj: ∀j,j<70→(id=j)=False:=fun j _=>by simp;omega
   simp(maxSteps:=10000000) (maxDischargeDepth:=30) (implicitDefEqProofs:=false)[nH,Wq,Wr,qq,ec,hl,k4,TN,wB,h8,RO,kf,eak,u0,u1,u2,u3,qu,a4,al,aj,d4,dl,dj]
theorem Wt{a b:List Int}(ha:cN a)(hb:cN b):(a.map (fun n=>UInt8.ofNat n.toNat)=b.map fun n=>UInt8.ofNat n.toNat)↔a=b:=by
 constructor
 ·intro h;apply List.ext_getElem?;intro i;have h1:=congrArg (fun l=>l[i]?) h;simp only[List.getElem?_map]at h1;cases e1:a[i]? with
  |none=>cases e2:b[i]? with
   |none=>rfl
   |some y=>rw[e1,e2]at h1;simp at h1
  |some x=>cases e2:b[i]? with
   |none=>rw[e1,e2]at h1;simp at h1
   |some y=>
    rw[e1,e2]at h1;simp only[Option.map_some,aa]at h1;have hx:=ha x (List.mem_of_getElem? e1);have hy:=hb y (List.mem_of_getElem? e2);have h2:=congrArg UInt8.toNat h1;simp only[UInt8.toNat_ofNat']at h2;congr 1;omega
 ·rintro rfl;rfl
@[simp] theorem PN(a b:List Int)(ha:cN a)(hb:cN b):ba X 186 [.sl false (a.map (V.int .u8)),.sl false (b.map (V.int .u8))]=some (.bool (decide (a=b))):=by
 refine aN Tryz.func186 rfl rfl ?_;have e1:=tp a;have e2:=tp b;have e3:=Wt ha hb;by_cases h:a=b
 ·subst h;simp(maxSteps:=10000000) (maxDischargeDepth:=30) (implicitDefEqProofs:=false)[e1]
 ·have h2: ¬(a.map (fun n=>UInt8.ofNat n.toNat)=b.map fun n=>UInt8.ofNat n.toNat):=fun g=>h (e3.1 g);simp(maxSteps:=10000000) (maxDischargeDepth:=30) (implicitDefEqProofs:=false)[e1,e2,h,h2]
def mU(b:List Int)(fs:List bR)(i:Nat):List Int:=(fs.take i).foldl nW b
theorem O3(b:List Int)(fs:List bR):mU b fs 0=b:=rfl
theorem yY(b:List Int){fs:List bR}{i:Nat}(h:i<fs.length):mU b fs (i+1)=nW (mU b fs i) fs[i]:=by unfold mU;rw[gG h,List.foldl_append];rfl
theorem Gn(b:List Int)(fs:List bR)(i:Nat):(mU b fs i).length=b.length:=by
 induction i with
 |zero=>rfl
 |succ i ih=>
  by_cases h:i<fs.length
  ·rw[yY b h,DI,ih]
  ·unfold mU at ih⊢;rw[aQ (by omega)];rwa[aQ (by omega)]at ih
theorem O4{b:List Int}(hb:cN b)(fs:List bR)(i:Nat):cN (mU b fs i):=by
 induction i with
 |zero=>exact hb
 |succ i ih=>
  by_cases h:i<fs.length
  ·rw[yY b h];exact Oj ih _
  ·unfold mU at ih⊢;rw[aQ (by omega)];rwa[aQ (by omega)]at ih
def O5(q:Request)(fs:List bR):Bool:=decide ((fX q).2=0)&&decide (mU (fX q).1 fs fs.length=(fX q).1)
theorem O6(q:Request):cN (fX q).1:=by
 unfold fX;split
 ·rename_i h;exact DW h
 ·exact cN.nil
@[simp] theorem hY(kA o6 o7 ml zR o8:Int)(lC lD:List Canon)(bG:List bR)(sH:bG.length≤1000000)(h1:lC.length≤1000)(h2:lD.length≤1000)(Ln: ∀i (h:i<lC.length),0≤(lC[i]).val∧(lC[i]).val≤65535)(Uy: ∀i (h:i<lD.length),0≤(lD[i]).val∧(lD[i]).val≤65535):ba X 113 [.agg [.int .i64 kA,.int .i64 o6,.int .i64 o7,.int .i64 ml,.int .i64 zR,.int .i64 o8,.sl false (lC.map Canon.enc),.sl false (lD.map Canon.enc)],.sl false (bG.map bR.enc)]=some (.bool (O5 (Request.mk kA o6 o7 ml zR o8 lC lD) bG)):=by
 refine aN Tryz.func113 rfl rfl ?_;have hB:=oL kA o6 o7 ml zR o8 lC lD h1 h2 Ln Uy;have hp:=O6 (Request.mk kA o6 o7 ml zR o8 lC lD);have hl:(fX (Request.mk kA o6 o7 ml zR o8 lC lD)).1.length≤9000:=by
  unfold fX;split
  ·simp only[yX];omega
  ·simp
 have hA:O5 (Request.mk kA o6 o7 ml zR o8 lC lD) bG=(decide ((fX (Request.mk kA o6 o7 ml zR o8 lC lD)).2=0)&&decide (mU (fX (Request.mk kA o6 o7 ml zR o8 lC lD)).1 bG bG.length=(fX (Request.mk kA o6 o7 ml zR o8 lC lD)).1)):=rfl;obtain⟨⟨b,e⟩,hbe⟩: ∃x,fX (Request.mk kA o6 o7 ml zR o8 lC lD)=x:=⟨_,rfl⟩;rw[hbe]at hB hp hl hA;simp only at hB hp hl hA;rw[hA];simp(maxSteps:=10000000) (maxDischargeDepth:=30) (implicitDefEqProofs:=false)[-oL,hB];refine fh (fun i S=>(S.f 5= .sl false ((b).map (V.int .u8))∧S.f 6= .int .i64 (e)∧S.f 7= .sl false ((mU b bG i).map (V.int .u8))∧S.f 16= .sl false (bG.map bR.enc)∧S.f 17= .int .i64 ((bG).length:Int)∧S.f 18= .int .i64 (i:Int)∧S.n=1100)∧True) (bG.length) ?_ 0 (by simp) ?_
 ·rintro i S dQ ⟨eg,jn⟩;have dh:=dY i (by omega);by_cases bk:i<bG.length
  ·have us:=yY b bk;have ul:=Gn b bG i;obtain⟨⟨f1,f2,f3,f4,f5,f6⟩,hf⟩: ∃x,bG[i]=x:=⟨_,rfl⟩;rw[hf]at us;obtain⟨B,hB'⟩: ∃x,mU b bG i=x:=⟨_,rfl⟩;rw[hB']at us ul;have hlb:B.length≤1000000000:=by omega
   simp(maxSteps:=10000000) (maxDischargeDepth:=30) (implicitDefEqProofs:=false)[eg,dQ,dh,bk,hf,hB',us,hlb]
  ·have mP:bG.length=i:=by omega
   subst mP;have hq:=O4 hp bG bG.length;by_cases he:e=0
   ·simp(maxSteps:=10000000) (maxDischargeDepth:=30) (implicitDefEqProofs:=false)[eg,dQ,dh,bk,he,hp,hq]
   ·simp(maxSteps:=10000000) (maxDischargeDepth:=30) (implicitDefEqProofs:=false)[eg,dQ,dh,bk,he]
 ·simp(maxSteps:=10000000) (maxDischargeDepth:=30) (implicitDefEqProofs:=false)[O3]
def BV(x:uo):Bool:=decide (x.value=⟨0,0,0,0⟩)&& (decide (x.data.length=0)&& (decide (x.spawn=0)&& !x.wait))
@[simp] theorem Kl(iX iY fD fF:Int)(ma:List Canon)(mn:Int)(rL:Bool):ba X 142 [.agg [.int .u8 iX,.int .u16 iY,.int .i64 fD,.int .i64 fF,.sl false (ma.map Canon.enc),.int .i64 mn,.bool rL]]=some (.bool (BV (uo.mk (Canon.mk iX iY fD fF) ma mn rL))):=by
 refine aN Tryz.func142 rfl rfl ?_;by_cases h1:(⟨iX,iY,fD,fF⟩:Canon)=⟨0,0,0,0⟩
 case neg=>
  have e:BV (uo.mk (Canon.mk iX iY fD fF) ma mn rL)=false:=by unfold BV;rw[decide_eq_false h1];rfl
  rw[e];have rQ:=h1;simp only[Canon.mk.injEq]at rQ;simp(maxSteps:=10000000) (maxDischargeDepth:=30) (implicitDefEqProofs:=false)[rQ];try omega
 simp only[Canon.mk.injEq]at h1;obtain⟨rfl,rfl,rfl,rfl⟩:=h1;by_cases h2:ma.length=0
 case neg=>simp(maxSteps:=10000000) (maxDischargeDepth:=30) (implicitDefEqProofs:=false)[h2,BV]
 by_cases h3:mn=0
 case neg=>simp(maxSteps:=10000000) (maxDischargeDepth:=30) (implicitDefEqProofs:=false)[h2,h3,BV]
 cases rL<;>simp(maxSteps:=10000000) (maxDischargeDepth:=30) (implicitDefEqProofs:=false)[h2,h3,BV]
@[simp] theorem O7(iX iY fD fF:Int)(ma:List Canon)(mn:Int)(rL:Bool)(hm:ma.length≤1000000000):ba X 143 [.agg [.int .u8 iX,.int .u16 iY,.int .i64 fD,.int .i64 fF,.sl false (ma.map Canon.enc),.int .i64 mn,.bool rL]]=some (.bool (ui (uo.mk (Canon.mk iX iY fD fF) ma mn rL))):=by
 refine aN Tryz.func143 rfl rfl ?_;cases h1:fN (uo.mk (Canon.mk iX iY fD fF) ma mn rL).value
 case false=>simp(maxSteps:=10000000) (maxDischargeDepth:=30) (implicitDefEqProofs:=false)[h1,hm,ui]
 cases h2:fR ma
 case false=>simp(maxSteps:=10000000) (maxDischargeDepth:=30) (implicitDefEqProofs:=false)[h1,h2,hm,ui]
 by_cases h3:(ma.length:Int)≤16
 case neg=>
  have Z9: ¬ma.length≤16:=by omega
  simp(maxSteps:=10000000) (maxDischargeDepth:=30) (implicitDefEqProofs:=false)[h1,h2,h3,Z9,hm,ui]
 have Z9:ma.length≤16:=by omega
 by_cases h4: -1≤mn
 case neg=>simp(maxSteps:=10000000) (maxDischargeDepth:=30) (implicitDefEqProofs:=false)[h1,h2,h3,Z9,h4,hm,ui]
 by_cases h5:mn<4
 case neg=>simp(maxSteps:=10000000) (maxDischargeDepth:=30) (implicitDefEqProofs:=false)[h1,h2,h3,Z9,h4,h5,hm,ui]
 simp(maxSteps:=10000000) (maxDischargeDepth:=30) (implicitDefEqProofs:=false)[h1,h2,h3,Z9,h4,h5,hm,ui]
def O8(e:Entry):Bool:=gJ e.request&&decide (e.request.bD=e.bD)
def Wu(e:Entry):Bool:=decide (e.request=uE)
def Gp(e:Entry):Bool:=
 if e.kind=1 then decide (1≤e.n)&& (decide (e.n≤64)&& (O8 e&& (decide (¬e.request.stop=3)&&BV e.result)))
 else if e.kind=2 then decide (e.n=0)&& (O8 e&& (decide (e.request.stop=1)&&ui e.result))
 else if e.kind=3 then decide (e.n=0)&& (Wu e&&BV e.result)
 else if e.kind=4 then decide (e.n=0)&& (Wu e&& (ui e.result&& (decide (e.result.spawn= -1)&& (!e.result.wait&&decide (e.result.data.length=0)))))
 else false
def o9(e:Entry):Bool:=decide (0≤e.bD)&& (decide (e.bD<4)&&Gp e)
theorem RQ{e:Entry}(h:0≤e.bD∧e.bD<4):o9 e=Gp e:=by unfold o9;simp[h.1,h.2]
@[simp] theorem Ht(fG aZ pe aK bu bN bF cq bO:Int)(bB bC:List Canon)(bq br bc bf:Int)(bM:List Canon)(bP:Int)(bW:Bool)(h1:bB.length≤1000000000)(h2:bC.length≤1000000000)(h3:bM.length≤1000000000)(hk:fG=1)(hv:o9 (Entry.mk fG aZ pe (Request.mk aK bu bN bF cq bO bB bC) (uo.mk (Canon.mk bq br bc bf) bM bP bW))=true):ba X 71 [.agg [.int .i64 fG,.int .i64 aZ,.int .i64 pe,.int .i64 aK,.int .i64 bu,.int .i64 bN,.int .i64 bF,.int .i64 cq,.int .i64 bO,.sl false (bB.map Canon.enc),.sl false (bC.map Canon.enc),.int .u8 bq,.int .u16 br,.int .i64 bc,.int .i64 bf,.sl false (bM.map Canon.enc),.int .i64 bP,.bool bW]]=some (.bool true):=by
 refine aN Tryz.func71 rfl rfl ?_;have hS:=aH aK bu bN bF cq bO bB bC 0 0 0 0 0 0 [] [] h1 h2;simp only[List.map_nil]at hS;subst hk;unfold o9 at hv;simp only[Bool.and_eq_true,decide_eq_true_eq]at hv;obtain⟨t0,t4,hv⟩:=hv;unfold Gp at hv;rw[if_pos rfl]at hv;simp only[Bool.and_eq_true,decide_eq_true_eq,O8]at hv;obtain⟨n1,n2,⟨mo,q⟩,q3,lI⟩:=hv;subst q;have lO: ¬4≤aK:=by omega
 have lP: ¬aK<0:=by omega
 simp(maxSteps:=10000000) (maxDischargeDepth:=30) (implicitDefEqProofs:=false)[-aH,hS,h1,h2,h3,lP,lO,mo,lI,n1,n2,q3]
@[simp] theorem rM(fG aZ pe aK bu bN bF cq bO:Int)(bB bC:List Canon)(bq br bc bf:Int)(bM:List Canon)(bP:Int)(bW:Bool)(h1:bB.length≤1000000000)(h2:bC.length≤1000000000)(h3:bM.length≤1000000000):ba X 71 [.agg [.int .i64 fG,.int .i64 aZ,.int .i64 pe,.int .i64 aK,.int .i64 bu,.int .i64 bN,.int .i64 bF,.int .i64 cq,.int .i64 bO,.sl false (bB.map Canon.enc),.sl false (bC.map Canon.enc),.int .u8 bq,.int .u16 br,.int .i64 bc,.int .i64 bf,.sl false (bM.map Canon.enc),.int .i64 bP,.bool bW]]=some (.bool (o9 (Entry.mk fG aZ pe (Request.mk aK bu bN bF cq bO bB bC) (uo.mk (Canon.mk bq br bc bf) bM bP bW)))):=by
 refine aN Tryz.func71 rfl rfl ?_;have hS:=aH aK bu bN bF cq bO bB bC 0 0 0 0 0 0 [] [] h1 h2;simp only[List.map_nil]at hS;rw[show Request.mk 0 0 0 0 0 0 [] []=uE from rfl]at hS;by_cases t0:0≤aZ
 case neg=>
  have e:o9 (Entry.mk fG aZ pe (Request.mk aK bu bN bF cq bO bB bC) (uo.mk (Canon.mk bq br bc bf) bM bP bW))=false:=by unfold o9;rw[decide_eq_false t0];rfl
  rw[e];have lP:aZ<0:=by omega
  simp(maxSteps:=10000000) (maxDischargeDepth:=30) (implicitDefEqProofs:=false)[lP]
 by_cases t4:aZ<4
 case neg=>
  have e:o9 (Entry.mk fG aZ pe (Request.mk aK bu bN bF cq bO bB bC) (uo.mk (Canon.mk bq br bc bf) bM bP bW))=false:=by unfold o9;rw[decide_eq_false t4];simp
  rw[e];have lP: ¬aZ<0:=by omega
  have lO:4≤aZ:=by omega
  simp(maxSteps:=10000000) (maxDischargeDepth:=30) (implicitDefEqProofs:=false)[lP,lO]
 rw[RQ (e:=(Entry.mk fG aZ pe (Request.mk aK bu bN bF cq bO bB bC) (uo.mk (Canon.mk bq br bc bf) bM bP bW))) ⟨t0,t4⟩];obtain⟨sil,aab⟩: ∃x,decide ((⟨aK,bu,bN,bF,cq,bO,bB,bC⟩:Request)=uE)=x:=⟨_,rfl⟩;rw[aab]at hS;have es:Wu (Entry.mk fG aZ pe (Request.mk aK bu bN bF cq bO bB bC) (uo.mk (Canon.mk bq br bc bf) bM bP bW))=sil:=aab;obtain⟨rb,mo⟩: ∃x,gJ (⟨aK,bu,bN,bF,cq,bO,bB,bC⟩:Request)=x:=⟨_,rfl⟩;have ea:O8 (Entry.mk fG aZ pe (Request.mk aK bu bN bF cq bO bB bC) (uo.mk (Canon.mk bq br bc bf) bM bP bW))=(rb&&decide (aK=aZ)):=by unfold O8;rw[←mo]
 obtain⟨nb,lI⟩: ∃x,BV (⟨⟨bq,br,bc,bf⟩,bM,bP,bW⟩:uo)=x:=⟨_,rfl⟩;obtain⟨rs,mK⟩: ∃x,ui (⟨⟨bq,br,bc,bf⟩,bM,bP,bW⟩:uo)=x:=⟨_,rfl⟩;have eK:Gp (Entry.mk fG aZ pe (Request.mk aK bu bN bF cq bO bB bC) (uo.mk (Canon.mk bq br bc bf) bM bP bW))=if fG=1 then decide (1≤pe)&& (decide (pe≤64)&& ((rb&&decide (aK=aZ))&& (decide (¬bu=3)&&nb)))
   else if fG=2 then decide (pe=0)&& ((rb&&decide (aK=aZ))&& (decide (bu=1)&&rs))
   else if fG=3 then decide (pe=0)&& (sil&&nb)
   else if fG=4 then decide (pe=0)&& (sil&& (rs&& (decide (bP= -1)&& (!bW&&decide (bM.length=0)))))
   else false:=by unfold Gp;rw[ea,es];simp only[lI,mK]
 rw[eK];have lO: ¬4≤aZ:=by omega
 have lP: ¬aZ<0:=by omega
 obtain⟨ab,lK⟩: ∃x,(rb&&decide (aK=aZ))=x:=⟨_,rfl⟩;rw[lK];by_cases k1:fG=1
 ·subst k1;by_cases n1:1≤pe
  case neg=>
   cases rb with
   |false=>
    have e9:ab=false:=by rw[←lK];rfl
    subst e9;simp(maxSteps:=10000000) (maxDischargeDepth:=30) (implicitDefEqProofs:=false)[-aH,hS,h1,h2,h3,t0,t4,lP,lO,lI,mK,mo,n1]
   |true=>
    by_cases q:aK=aZ
    ·subst q;have e9:ab=true:=by rw[←lK];simp
     subst e9;simp(maxSteps:=10000000) (maxDischargeDepth:=30) (implicitDefEqProofs:=false)[-aH,hS,h1,h2,h3,t0,t4,lP,lO,lI,mK,mo,n1]
    ·have e9:ab=false:=by rw[←lK];simp[q]
     subst e9;simp(maxSteps:=10000000) (maxDischargeDepth:=30) (implicitDefEqProofs:=false)[-aH,hS,h1,h2,h3,t0,t4,lP,lO,lI,mK,mo,q,n1]
  by_cases n2:pe≤64
  case neg=>
   cases rb with
   |false=>
    have e9:ab=false:=by rw[←lK];rfl
    subst e9;simp(maxSteps:=10000000) (maxDischargeDepth:=30) (implicitDefEqProofs:=false)[-aH,hS,h1,h2,h3,t0,t4,lP,lO,lI,mK,mo,n1,n2]
   |true=>
    by_cases q:aK=aZ
    ·subst q;have e9:ab=true:=by rw[←lK];simp
     subst e9;simp(maxSteps:=10000000) (maxDischargeDepth:=30) (implicitDefEqProofs:=false)[-aH,hS,h1,h2,h3,t0,t4,lP,lO,lI,mK,mo,n1,n2]
    ·have e9:ab=false:=by rw[←lK];simp[q]
     subst e9;simp(maxSteps:=10000000) (maxDischargeDepth:=30) (implicitDefEqProofs:=false)[-aH,hS,h1,h2,h3,t0,t4,lP,lO,lI,mK,mo,q,n1,n2]
  by_cases q3:bu=3
  ·subst q3;cases rb with
   |false=>
    have e9:ab=false:=by rw[←lK];rfl
    subst e9;simp(maxSteps:=10000000) (maxDischargeDepth:=30) (implicitDefEqProofs:=false)[-aH,hS,h1,h2,h3,t0,t4,lP,lO,lI,mK,mo,n1,n2]
   |true=>
    by_cases q:aK=aZ
    ·subst q;have e9:ab=true:=by rw[←lK];simp
     subst e9;simp(maxSteps:=10000000) (maxDischargeDepth:=30) (implicitDefEqProofs:=false)[-aH,hS,h1,h2,h3,t0,t4,lP,lO,lI,mK,mo,n1,n2]
    ·have e9:ab=false:=by rw[←lK];simp[q]
     subst e9;simp(maxSteps:=10000000) (maxDischargeDepth:=30) (implicitDefEqProofs:=false)[-aH,hS,h1,h2,h3,t0,t4,lP,lO,lI,mK,mo,q,n1,n2]
  ·skip
   cases rb with
   |false=>
    have e9:ab=false:=by rw[←lK];rfl
    subst e9;simp(maxSteps:=10000000) (maxDischargeDepth:=30) (implicitDefEqProofs:=false)[-aH,hS,h1,h2,h3,t0,t4,lP,lO,lI,mK,mo,n1,n2,q3]
   |true=>
    by_cases q:aK=aZ
    ·subst q;have e9:ab=true:=by rw[←lK];simp
     subst e9;simp(maxSteps:=10000000) (maxDischargeDepth:=30) (implicitDefEqProofs:=false)[-aH,hS,h1,h2,h3,t0,t4,lP,lO,lI,mK,mo,n1,n2,q3]
    ·have e9:ab=false:=by rw[←lK];simp[q]
     subst e9;simp(maxSteps:=10000000) (maxDischargeDepth:=30) (implicitDefEqProofs:=false)[-aH,hS,h1,h2,h3,t0,t4,lP,lO,lI,mK,mo,q,n1,n2,q3]
 by_cases k2:fG=2
 ·subst k2;by_cases n1:pe=0
  case neg=>
   cases rb with
   |false=>
    have e9:ab=false:=by rw[←lK];rfl
    subst e9;simp(maxSteps:=10000000) (maxDischargeDepth:=30) (implicitDefEqProofs:=false)[-aH,hS,h1,h2,h3,t0,t4,lP,lO,lI,mK,mo,n1]
   |true=>
    by_cases q:aK=aZ
    ·subst q;have e9:ab=true:=by rw[←lK];simp
     subst e9;simp(maxSteps:=10000000) (maxDischargeDepth:=30) (implicitDefEqProofs:=false)[-aH,hS,h1,h2,h3,t0,t4,lP,lO,lI,mK,mo,n1]
    ·have e9:ab=false:=by rw[←lK];simp[q]
     subst e9;simp(maxSteps:=10000000) (maxDischargeDepth:=30) (implicitDefEqProofs:=false)[-aH,hS,h1,h2,h3,t0,t4,lP,lO,lI,mK,mo,q,n1]
  subst n1;by_cases q3:bu=1
  ·subst q3;cases rb with
   |false=>
    have e9:ab=false:=by rw[←lK];rfl
    subst e9;simp(maxSteps:=10000000) (maxDischargeDepth:=30) (implicitDefEqProofs:=false)[-aH,hS,h1,h2,h3,t0,t4,lP,lO,lI,mK,mo]
   |true=>
    by_cases q:aK=aZ
    ·subst q;have e9:ab=true:=by rw[←lK];simp
     subst e9;simp(maxSteps:=10000000) (maxDischargeDepth:=30) (implicitDefEqProofs:=false)[-aH,hS,h1,h2,h3,t0,t4,lP,lO,lI,mK,mo]
    ·have e9:ab=false:=by rw[←lK];simp[q]
     subst e9;simp(maxSteps:=10000000) (maxDischargeDepth:=30) (implicitDefEqProofs:=false)[-aH,hS,h1,h2,h3,t0,t4,lP,lO,lI,mK,mo,q]
  ·skip
   cases rb with
   |false=>
    have e9:ab=false:=by rw[←lK];rfl
    subst e9;simp(maxSteps:=10000000) (maxDischargeDepth:=30) (implicitDefEqProofs:=false)[-aH,hS,h1,h2,h3,t0,t4,lP,lO,lI,mK,mo,q3]
   |true=>
    by_cases q:aK=aZ
    ·subst q;have e9:ab=true:=by rw[←lK];simp
     subst e9;simp(maxSteps:=10000000) (maxDischargeDepth:=30) (implicitDefEqProofs:=false)[-aH,hS,h1,h2,h3,t0,t4,lP,lO,lI,mK,mo,q3]
    ·have e9:ab=false:=by rw[←lK];simp[q]
     subst e9;simp(maxSteps:=10000000) (maxDischargeDepth:=30) (implicitDefEqProofs:=false)[-aH,hS,h1,h2,h3,t0,t4,lP,lO,lI,mK,mo,q,q3]
 by_cases k3:fG=3
 ·subst k3;by_cases n1:pe=0
  case neg=>
   cases rb with
   |false=>
    have e9:ab=false:=by rw[←lK];rfl
    subst e9;simp(maxSteps:=10000000) (maxDischargeDepth:=30) (implicitDefEqProofs:=false)[-aH,hS,h1,h2,h3,t0,t4,lP,lO,lI,mK,mo,n1]
   |true=>
    by_cases q:aK=aZ
    ·subst q;have e9:ab=true:=by rw[←lK];simp
     subst e9;simp(maxSteps:=10000000) (maxDischargeDepth:=30) (implicitDefEqProofs:=false)[-aH,hS,h1,h2,h3,t0,t4,lP,lO,lI,mK,mo,n1]
    ·have e9:ab=false:=by rw[←lK];simp[q]
     subst e9;simp(maxSteps:=10000000) (maxDischargeDepth:=30) (implicitDefEqProofs:=false)[-aH,hS,h1,h2,h3,t0,t4,lP,lO,lI,mK,mo,q,n1]
  subst n1;cases sil
  ·skip
   cases rb with
   |false=>
    have e9:ab=false:=by rw[←lK];rfl
    subst e9;simp(maxSteps:=10000000) (maxDischargeDepth:=30) (implicitDefEqProofs:=false)[-aH,hS,h1,h2,h3,t0,t4,lP,lO,lI,mK,mo]
   |true=>
    by_cases q:aK=aZ
    ·subst q;have e9:ab=true:=by rw[←lK];simp
     subst e9;simp(maxSteps:=10000000) (maxDischargeDepth:=30) (implicitDefEqProofs:=false)[-aH,hS,h1,h2,h3,t0,t4,lP,lO,lI,mK,mo]
    ·have e9:ab=false:=by rw[←lK];simp[q]
     subst e9;simp(maxSteps:=10000000) (maxDischargeDepth:=30) (implicitDefEqProofs:=false)[-aH,hS,h1,h2,h3,t0,t4,lP,lO,lI,mK,mo,q]
  ·skip
   cases rb with
   |false=>
    have e9:ab=false:=by rw[←lK];rfl
    subst e9;simp(maxSteps:=10000000) (maxDischargeDepth:=30) (implicitDefEqProofs:=false)[-aH,hS,h1,h2,h3,t0,t4,lP,lO,lI,mK,mo]
   |true=>
    by_cases q:aK=aZ
    ·subst q;have e9:ab=true:=by rw[←lK];simp
     subst e9;simp(maxSteps:=10000000) (maxDischargeDepth:=30) (implicitDefEqProofs:=false)[-aH,hS,h1,h2,h3,t0,t4,lP,lO,lI,mK,mo]
    ·have e9:ab=false:=by rw[←lK];simp[q]
     subst e9;simp(maxSteps:=10000000) (maxDischargeDepth:=30) (implicitDefEqProofs:=false)[-aH,hS,h1,h2,h3,t0,t4,lP,lO,lI,mK,mo,q]
 by_cases k4:fG=4
 ·subst k4;by_cases n1:pe=0
  case neg=>
   cases rb with
   |false=>
    have e9:ab=false:=by rw[←lK];rfl
    subst e9;simp(maxSteps:=10000000) (maxDischargeDepth:=30) (implicitDefEqProofs:=false)[-aH,hS,h1,h2,h3,t0,t4,lP,lO,lI,mK,mo,n1]
   |true=>
    by_cases q:aK=aZ
    ·subst q;have e9:ab=true:=by rw[←lK];simp
     subst e9;simp(maxSteps:=10000000) (maxDischargeDepth:=30) (implicitDefEqProofs:=false)[-aH,hS,h1,h2,h3,t0,t4,lP,lO,lI,mK,mo,n1]
    ·have e9:ab=false:=by rw[←lK];simp[q]
     subst e9;simp(maxSteps:=10000000) (maxDischargeDepth:=30) (implicitDefEqProofs:=false)[-aH,hS,h1,h2,h3,t0,t4,lP,lO,lI,mK,mo,q,n1]
  subst n1;cases sil
  ·skip
   cases rb with
   |false=>
    have e9:ab=false:=by rw[←lK];rfl
    subst e9;simp(maxSteps:=10000000) (maxDischargeDepth:=30) (implicitDefEqProofs:=false)[-aH,hS,h1,h2,h3,t0,t4,lP,lO,lI,mK,mo]
   |true=>
    by_cases q:aK=aZ
    ·subst q;have e9:ab=true:=by rw[←lK];simp
     subst e9;simp(maxSteps:=10000000) (maxDischargeDepth:=30) (implicitDefEqProofs:=false)[-aH,hS,h1,h2,h3,t0,t4,lP,lO,lI,mK,mo]
    ·have e9:ab=false:=by rw[←lK];simp[q]
     subst e9;simp(maxSteps:=10000000) (maxDischargeDepth:=30) (implicitDefEqProofs:=false)[-aH,hS,h1,h2,h3,t0,t4,lP,lO,lI,mK,mo,q]
  cases rs
  ·skip
   cases rb with
   |false=>
    have e9:ab=false:=by rw[←lK];rfl
    subst e9;simp(maxSteps:=10000000) (maxDischargeDepth:=30) (implicitDefEqProofs:=false)[-aH,hS,h1,h2,h3,t0,t4,lP,lO,lI,mK,mo]
   |true=>
    by_cases q:aK=aZ
    ·subst q;have e9:ab=true:=by rw[←lK];simp
     subst e9;simp(maxSteps:=10000000) (maxDischargeDepth:=30) (implicitDefEqProofs:=false)[-aH,hS,h1,h2,h3,t0,t4,lP,lO,lI,mK,mo]
    ·have e9:ab=false:=by rw[←lK];simp[q]
     subst e9;simp(maxSteps:=10000000) (maxDischargeDepth:=30) (implicitDefEqProofs:=false)[-aH,hS,h1,h2,h3,t0,t4,lP,lO,lI,mK,mo,q]
  by_cases q4:bP= -1
  case neg=>
   cases rb with
   |false=>
    have e9:ab=false:=by rw[←lK];rfl
    subst e9;simp(maxSteps:=10000000) (maxDischargeDepth:=30) (implicitDefEqProofs:=false)[-aH,hS,h1,h2,h3,t0,t4,lP,lO,lI,mK,mo,q4]
   |true=>
    by_cases q:aK=aZ
    ·subst q;have e9:ab=true:=by rw[←lK];simp
     subst e9;simp(maxSteps:=10000000) (maxDischargeDepth:=30) (implicitDefEqProofs:=false)[-aH,hS,h1,h2,h3,t0,t4,lP,lO,lI,mK,mo,q4]
    ·have e9:ab=false:=by rw[←lK];simp[q]
     subst e9;simp(maxSteps:=10000000) (maxDischargeDepth:=30) (implicitDefEqProofs:=false)[-aH,hS,h1,h2,h3,t0,t4,lP,lO,lI,mK,mo,q,q4]
  subst q4;cases bW
  ·skip
   cases rb with
   |false=>
    have e9:ab=false:=by rw[←lK];rfl
    subst e9;simp(maxSteps:=10000000) (maxDischargeDepth:=30) (implicitDefEqProofs:=false)[-aH,hS,h1,h2,h3,t0,t4,lP,lO,lI,mK,mo]
   |true=>
    by_cases q:aK=aZ
    ·subst q;have e9:ab=true:=by rw[←lK];simp
     subst e9;simp(maxSteps:=10000000) (maxDischargeDepth:=30) (implicitDefEqProofs:=false)[-aH,hS,h1,h2,h3,t0,t4,lP,lO,lI,mK,mo]
    ·have e9:ab=false:=by rw[←lK];simp[q]
     subst e9;simp(maxSteps:=10000000) (maxDischargeDepth:=30) (implicitDefEqProofs:=false)[-aH,hS,h1,h2,h3,t0,t4,lP,lO,lI,mK,mo,q]
  ·skip
   cases rb with
   |false=>
    have e9:ab=false:=by rw[←lK];rfl
    subst e9;simp(maxSteps:=10000000) (maxDischargeDepth:=30) (implicitDefEqProofs:=false)[-aH,hS,h1,h2,h3,t0,t4,lP,lO,lI,mK,mo]
   |true=>
    by_cases q:aK=aZ
    ·subst q;have e9:ab=true:=by rw[←lK];simp
     subst e9;simp(maxSteps:=10000000) (maxDischargeDepth:=30) (implicitDefEqProofs:=false)[-aH,hS,h1,h2,h3,t0,t4,lP,lO,lI,mK,mo]
    ·have e9:ab=false:=by rw[←lK];simp[q]
     subst e9;simp(maxSteps:=10000000) (maxDischargeDepth:=30) (implicitDefEqProofs:=false)[-aH,hS,h1,h2,h3,t0,t4,lP,lO,lI,mK,mo,q]
 cases rb with
 |false=>
  have e9:ab=false:=by rw[←lK];rfl
  subst e9;simp(maxSteps:=10000000) (maxDischargeDepth:=30) (implicitDefEqProofs:=false)[-aH,hS,h1,h2,h3,t0,t4,lP,lO,lI,mK,mo,k1,k2,k3,k4]
 |true=>
  by_cases q:aK=aZ
  ·subst q;have e9:ab=true:=by rw[←lK];simp
   subst e9;simp(maxSteps:=10000000) (maxDischargeDepth:=30) (implicitDefEqProofs:=false)[-aH,hS,h1,h2,h3,t0,t4,lP,lO,lI,mK,mo,k1,k2,k3,k4]
  ·have e9:ab=false:=by rw[←lK];simp[q]
   subst e9;simp(maxSteps:=10000000) (maxDischargeDepth:=30) (implicitDefEqProofs:=false)[-aH,hS,h1,h2,h3,t0,t4,lP,lO,lI,mK,mo,q,k1,k2,k3,k4]
end Go.Proofs.YtdngefmliibcgaaGreat
