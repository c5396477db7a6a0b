/- Part of a proof: F25. -/
import Derived.Test.YtejohpnpnaljdaaGreatM48
import Derived.Test.YtejohpnpnaljdaaGreatM49
set_option linter.all false
set_option maxRecDepth 20000
set_option maxHeartbeats 20000000
namespace Go.Proofs.YtejohpnpnaljdaaGreat
open Go Go.Abs Go.Abs.lu
@[simp] theorem ZV(ay:List Instr)(ah:List Int)(az:List (List Int))(aj:List Int)(bH:Int)(hp:pO (Prog.mk ay ah az))(hL:nr aj ah):lY X [(0,4,52)] 61 [(ay,ah,az),(aj,bH)]=some (.de [.agg [.sl false ((ez (Prog.mk ay ah az) (aN.mk aj bH)).layout.aD.map (V.int .i64)),.int .u16 (ez (Prog.mk ay ah az) (aN.mk aj bH)).layout.key,.sl false ((ez (Prog.mk ay ah az) (aN.mk aj bH)).memory.cells.map Cell.e),.sl false ((ez (Prog.mk ay ah az) (aN.mk aj bH)).memory.lines.map cx.e),.sl false ((ez (Prog.mk ay ah az) (aN.mk aj bH)).threads.map Thread.e)],.int .i64 0]):=by
 refine kJ Tryz.func61 rfl rfl ?_;have hz:=hp.ae;simp only at hz;have z4:=hz.le;have hlen:az.length=ah.length:=hp.len;have hb:aj.length=ah.length:=hL.len;have ju:=lL.2 hL;have qp:gA (Prog.mk ay ah az)=0:=vM hp;have QX:ay.length<=64:=hp.pk;have b1:aj.length<=1000000000/\ah.length<=1000000000:=by omega
 have b2:az.length<=1000000000:=by omega
 have b3:ay.length<=1000000000:=by omega
 have b4:aj.length<=4:=by omega
 simp-implicitDefEqProofs[di,hp,hL,ju,qp,b1,b2,b3,ez];all_goals ((repeat' (first|apply And.intro|intro _))<;>first|omega|rfl)
def fI:bR:=⟨[-1, -1, -1, -1],[[],[],[],[]]⟩
theorem Jq:gY fI:=by
 refine⟨rfl,rfl,fun i hi=> ?_,fun i hi=> ?_⟩
 ·have:i=0\/i=1\/i=2\/i=3:=by simp[fI]at hi;omega
  rcases this with rfl|rfl|rfl|rfl<;>simp[fI]
 ·have:i=0\/i=1\/i=2\/i=3:=by simp[fI]at hi;omega
  rcases this with rfl|rfl|rfl|rfl<;>(refine⟨?_,?_⟩<;>simp[fI])
@[simp] theorem ZW(ay:List Instr)(ah:List Int)(az:List (List Int))(aj:List Int)(bH:Int)(cw bQ:List Int)(bL:List (List Int))(bc:List (List Canon))(aW:List dT)(bD:List Output)(hp:pO (Prog.mk ay ah az))(hL:nr aj ah)(ho:sJ (cN.mk cw bQ bL (bE.mk bc aW) bD))(Ff:kL ah bc=true):lY X [(0,7,52)] 133 [(ay,ah,az),(aj,bH),.agg [.sl false (cw.map (V.int .u16)),.sl false (bQ.map (V.int .u16)),bL,bc,aW,bD]]=some (.de [.agg [.sl false ((rH.mk (Prog.mk ay ah az) (ez (Prog.mk ay ah az) (aN.mk aj bH)) (cN.mk cw bQ bL (bE.mk bc aW) bD) fI [] [-1, -1, -1, -1]).program.code.map Instr.e),.sl false ((rH.mk (Prog.mk ay ah az) (ez (Prog.mk ay ah az) (aN.mk aj bH)) (cN.mk cw bQ bL (bE.mk bc aW) bD) fI [] [-1, -1, -1, -1]).program.ae.map (V.int .i64)),.sl false ((rH.mk (Prog.mk ay ah az) (ez (Prog.mk ay ah az) (aN.mk aj bH)) (cN.mk cw bQ bL (bE.mk bc aW) bD) fI [] [-1, -1, -1, -1]).program.data.map aS),.sl false ((rH.mk (Prog.mk ay ah az) (ez (Prog.mk ay ah az) (aN.mk aj bH)) (cN.mk cw bQ bL (bE.mk bc aW) bD) fI [] [-1, -1, -1, -1]).machine.layout.aD.map (V.int .i64)),.int .u16 (rH.mk (Prog.mk ay ah az) (ez (Prog.mk ay ah az) (aN.mk aj bH)) (cN.mk cw bQ bL (bE.mk bc aW) bD) fI [] [-1, -1, -1, -1]).machine.layout.key,.sl false ((rH.mk (Prog.mk ay ah az) (ez (Prog.mk ay ah az) (aN.mk aj bH)) (cN.mk cw bQ bL (bE.mk bc aW) bD) fI [] [-1, -1, -1, -1]).machine.memory.cells.map Cell.e),.sl false ((rH.mk (Prog.mk ay ah az) (ez (Prog.mk ay ah az) (aN.mk aj bH)) (cN.mk cw bQ bL (bE.mk bc aW) bD) fI [] [-1, -1, -1, -1]).machine.memory.lines.map cx.e),.sl false ((rH.mk (Prog.mk ay ah az) (ez (Prog.mk ay ah az) (aN.mk aj bH)) (cN.mk cw bQ bL (bE.mk bc aW) bD) fI [] [-1, -1, -1, -1]).machine.threads.map Thread.e),.sl false ((rH.mk (Prog.mk ay ah az) (ez (Prog.mk ay ah az) (aN.mk aj bH)) (cN.mk cw bQ bL (bE.mk bc aW) bD) fI [] [-1, -1, -1, -1]).outside.clock.map (V.int .u16)),.sl false ((rH.mk (Prog.mk ay ah az) (ez (Prog.mk ay ah az) (aN.mk aj bH)) (cN.mk cw bQ bL (bE.mk bc aW) bD) fI [] [-1, -1, -1, -1]).outside.random.map (V.int .u16)),.sl false ((rH.mk (Prog.mk ay ah az) (ez (Prog.mk ay ah az) (aN.mk aj bH)) (cN.mk cw bQ bL (bE.mk bc aW) bD) fI [] [-1, -1, -1, -1]).outside.cO.map aS),.sl false ((rH.mk (Prog.mk ay ah az) (ez (Prog.mk ay ah az) (aN.mk aj bH)) (cN.mk cw bQ bL (bE.mk bc aW) bD) fI [] [-1, -1, -1, -1]).outside.files.data.map ba),.sl false ((rH.mk (Prog.mk ay ah az) (ez (Prog.mk ay ah az) (aN.mk aj bH)) (cN.mk cw bQ bL (bE.mk bc aW) bD) fI [] [-1, -1, -1, -1]).outside.files.opens.map dT.e),.sl false ((rH.mk (Prog.mk ay ah az) (ez (Prog.mk ay ah az) (aN.mk aj bH)) (cN.mk cw bQ bL (bE.mk bc aW) bD) fI [] [-1, -1, -1, -1]).outside.cT.map Output.e),.sl false ((rH.mk (Prog.mk ay ah az) (ez (Prog.mk ay ah az) (aN.mk aj bH)) (cN.mk cw bQ bL (bE.mk bc aW) bD) fI [] [-1, -1, -1, -1]).sB.owner.map (V.int .i64)),.sl false ((rH.mk (Prog.mk ay ah az) (ez (Prog.mk ay ah az) (aN.mk aj bH)) (cN.mk cw bQ bL (bE.mk bc aW) bD) fI [] [-1, -1, -1, -1]).sB.queue.map cI),.sl false ((rH.mk (Prog.mk ay ah az) (ez (Prog.mk ay ah az) (aN.mk aj bH)) (cN.mk cw bQ bL (bE.mk bc aW) bD) fI [] [-1, -1, -1, -1]).record.map Entry.e),.sl false ((rH.mk (Prog.mk ay ah az) (ez (Prog.mk ay ah az) (aN.mk aj bH)) (cN.mk cw bQ bL (bE.mk bc aW) bD) fI [] [-1, -1, -1, -1]).qP.map (V.int .i64))],.int .i64 0]):=by
 refine kJ Tryz.func133 rfl rfl ?_;have iZ:=ZV ay ah az aj bH hp hL;obtain⟨⟨⟨mb,mk⟩,⟨mc,ml⟩,mt⟩,hm⟩: ∃m,ez (Prog.mk ay ah az) (aN.mk aj bH)=m:=⟨_,rfl⟩;have oP:mt.length=4:=by have:=congrArg (fun m=>m.threads.length) hm;simpa[ez] using this.symm
 have uX: ∀(f:Thread->V),List.take 4 (mt.map f)=mt.map f:=fun f=>bn (by simp;omega);have PL: ∀(f:Thread->Option V),List.take 4 (mt.map f)=mt.map f:=fun f=>bn (by simp;omega);rw[hm]at iZ⊢;simp only at iZ⊢;have hv:=wA cw bQ bL bc aW bD ho;have hf:=ho.files;simp only at hf;have hf1:bc.length<=1000000000:=by have:=hf.data;simp only at this;omega
 have hf2: ∀i (h:i<bc.length),(bc[i]).length<=1000000000:=fun i h=>by have:=(hf.each i h).2;simp only at this;omega
 simp-implicitDefEqProofs[di,iZ,ho,hf1,hf2,Ff,oP,uX,jy,fI];rfl
theorem Wa{l:List Int}{k:Int}(h:dr l k):dr l (EP l k):=dE (agm (zJ (dE (xu (EL h) _)) _))
def Jr(p:Prog)(m:bf)(T:Nat)(o:cN)(l:bR)(vR vJ:V):V:= .agg [.sl false (p.code.map Instr.e),.sl false (p.ae.map (V.int .i64)),.sl false (p.data.map aS),.sl false (m.layout.aD.map (V.int .i64)),.int .u16 m.layout.key,.sl false (m.memory.cells.map Cell.e),.sl false (m.memory.lines.map cx.e),.bU T 0 4,.sl false (o.clock.map (V.int .u16)),.sl false (o.random.map (V.int .u16)),.sl false (o.cO.map aS),.sl false (o.files.data.map ba),.sl false (o.files.opens.map dT.e),.sl false (o.cT.map Output.e),.sl false (l.owner.map (V.int .i64)),.sl false (l.queue.map cI),vR,vJ]
structure Gl (p:Prog) (d:Int) (c:Nat) (h:aY) (k T:Nat) (vR vJ:V) (m:bf) (o:cN) (l:bR) (js:List Int) (rc:List Entry):Prop where
 row:h T=some ⟨8,m.threads.map Thread.e,false⟩
 rcd:ac5 h k rc vR
 jns:ac6 h k js vJ
 lt:c<=T/\T<k
 loR: ∀i n,vR= .bU i 0 n->c<=i
 loJ: ∀i n,vJ= .bU i 0 n->c<=i
 sep:(∀n,vR≠ .bU T 0 n)/\(∀n,vJ≠ .bU T 0 n)/\ ∀i n m,vR= .bU i 0 n->vJ≠ .bU i 0 m
 Jo:cR p d m
 outs:pQ o
 sB:gY l
 Qk:js.length=4
 bax:rc.length<=300
theorem Gl.mono{p:Prog}{d:Int}{c:Nat}{h h':aY}{k k' T:Nat}{vR vJ:V}{m:bf}{o:cN}{l:bR}{js:List Int}{rc:List Entry}(H:Gl p d c h k T vR vJ m o l js rc)(hk:k<=k')(hh: ∀i,c<=i->i<k->h' i=h i):Gl p d c h' k' T vR vJ m o l js rc:=by
 obtain⟨h1,h2,h3,h4,h5,h6,h7,h8,h9,vE,B5,Ei⟩:=H;refine⟨by rw[hh _ h4.1 h4.2,h1],?_,?_,⟨h4.1,by omega⟩,h5,h6,h7,h8,h9,vE,B5,Ei⟩
 ·rcases h2 with e|⟨R,es,q1,q2,q3,q4⟩
  ·exact .inl e
  ·exact .inr ⟨R,es,by omega,q2,by rw[hh _ (h5 _ _ q2) q1,q3],q4⟩
 ·rcases h3 with e|⟨R,q1,q2,q3⟩
  ·exact .inl e
  ·exact .inr ⟨R,by omega,q2,by rw[hh _ (h6 _ _ q2) q1,q3]⟩
theorem Gl.aws{p:Prog}{d d':Int}{c c':Nat}{h:aY}{k T:Nat}{vR vJ:V}{m:bf}{o:cN}{l:bR}{js:List Int}{rc:List Entry}(H:Gl p d c h k T vR vJ m o l js rc)(hc:c'<=c)(hd:d<=d'):Gl p d' c' h k T vR vJ m o l js rc:=by
 obtain⟨h1,h2,h3,h4,h5,h6,h7,h8,h9,vE,B5,Ei⟩:=H;exact⟨h1,h2,h3,⟨by omega,h4.2⟩,fun i n e=>by have:=h5 i n e;omega,fun i n e=>by have:=h6 i n e;omega,h7,h8.mono hd,h9,vE,B5,Ei⟩
def CY(dl:List Int)(v:V)(h:aY)(k:Nat):Prop:=
 ∃(kt:Int) (p:Prog) (d:Int) (T:Nat) (vR vJ:V) (m:bf) (o:cN) (l:bR) (js:List Int) (rc:List Entry),v=Jr p m T o l vR vJ/\h 0=some ⟨2,[.agg [.sl false (dl.map (V.int .i64)),.int .i64 kt]],true⟩/\Gl p d 1 h k T vR vJ m o l js rc/\dr dl kt/\d<=2000
def awt(dl:List Int)(p:Prog)(lay:aN)(N i:Nat)(S:St):Prop:= ∃(kt:Int) (T:Nat) (vR vJ:V) (m:bf) (o:cN) (l:bR) (js:List Int) (rc:List Entry),
 (S.f 0= .ptr 0 0 0/\S.f 2= .ptr 1 0 0/\S.f 4= .ptr 17 0 0/\S.f 6= .int .i64 ((N:Int)-i))/\
 (S.h 0=some ⟨2,[.agg [.sl false (dl.map (V.int .i64)),.int .i64 kt]],true⟩/\S.h 1=some ⟨18,[DR],true⟩/\S.h 17=some ⟨18,[Jr p m T o l vR vJ],true⟩)/\
 Gl p (64*(i:Int)) 18 S.h S.n T vR vJ m o l js rc/\m.layout=lay/\dr dl kt/\18<=S.n
@[simp] theorem aot(bK:List Int)(aV:Int)(hd:dr bK aV): ∃v h k,cy X 88 [.ptr 0 0 0] (kg X 88 2 (.agg [.sl false (bK.map (V.int .i64)),.int .i64 aV])) 1=some (v,h,k)/\CY bK v h k:=by
 have hP:=wc bK aV hd;obtain⟨Wk,bU⟩:=VO bK aV;have hd1:=Wa hd;obtain⟨⟨pc,ps,pd⟩,hp⟩: ∃p,pS bK aV=p:=⟨_,rfl⟩;rw[hp]at hP Wk bU;obtain⟨k1,A5⟩: ∃k,EP bK aV=k:=⟨_,rfl⟩;rw[A5]at hP hd1;have hz:=Wk.ae;simp only at hz hP;have hL:=xp bK k1 ps hd1 hz;have hLP:=F9 (cD:=dL bK k1 1048576) hz (dC bK k1 (by omega)).1;have hkr:=Jg (40503*dL bK k1 1048576);have JD:=dE hd1;obtain⟨mb,hmb⟩: ∃b,dP ps (dL bK k1 1048576)=b:=⟨_,rfl⟩;obtain⟨mk,xK⟩: ∃b,IntKind.u16.wrap (40503*dL bK k1 1048576)=b:=⟨_,rfl⟩;obtain⟨k2,wy⟩: ∃k,cY bK k1=k:=⟨_,rfl⟩;rw[hmb,xK,wy]at hL;rw[hmb]at hLP;rw[xK]at hkr;rw[wy]at JD;have hO:=we bK k2 JD;have hOG:=Zv bK k2;have hOp:=Gb bK k2 ps;have hd3:=VM JD;obtain⟨⟨oc,orr,oi,⟨od,oo⟩,ou⟩,ho⟩: ∃o,rQ bK k2=o:=⟨_,rfl⟩;obtain⟨k3,hk3⟩: ∃k,Jc bK k2=k:=⟨_,rfl⟩;rw[ho,hk3]at hO;rw[ho]at hOG hOp;rw[hk3]at hd3;simp only at hO hL hOp;have hB:=ZW pc ps pd mb mk oc orr oi od oo ou Wk hLP hOG.p hOp;have Vb:cR ⟨pc,ps,pd⟩ 0 (ez ⟨pc,ps,pd⟩ ⟨mb,mk⟩):=ET Wk bU hLP hkr;obtain⟨⟨⟨mb',mk'⟩,⟨mc,ml⟩,mt⟩,hm⟩: ∃m,ez ⟨pc,ps,pd⟩ ⟨mb,mk⟩=m:=⟨_,rfl⟩;rw[hm]at hB Vb;have oP:mt.length=4:=Vb.len;have hb0:=dC bK k3 (n:=16) (by omega);obtain⟨N,hN⟩: ∃N:Nat,3+dL bK k3 16=N:=⟨(3+dL bK k3 16).toNat,by omega⟩;have hwN:IntKind.i64.wrap (3+dL bK k3 16)=N:=by rw[hN];exact wrap_i64 (by omega)
 have hNx:=gy bK k3 16 hd3 (by omega);have hd4:=dE hd3;simp only[fI]at hB;simp only at hNx;refine bu (X:=X) (K:=fun v h k=>CY bK v h k) Tryz.func88 rfl rfl ?_;simp-implicitDefEqProofs[hP,hL,hO,hB,hNx,hwN,oP];have fin: ∀(H:aY) (x:Option Ob) (K K':Nat) (kt d:Int) (T:Nat) (vR vJ:V) (m:bf) (o:cN) (l:bR) (js:List Int) (rc:List Entry),H 0=some ⟨2,[.agg [bK,.int .i64 kt]],true⟩->Gl ⟨pc,ps,pd⟩ d 18 H K T vR vJ m o l js rc->dr bK kt->d<=2000->K<=K'->18<=K->CY bK (Jr ⟨pc,ps,pd⟩ m T o l vR vJ) (aO H 1 x) K':=fun H x K K' kt d T vR vJ m o l js rc h0 HR sj JD hK hK2=>
  ⟨kt,_,d,T,vR,vJ,m,o,l,js,rc,rfl,by simpa[aO] using h0,(HR.mono hK fun i h1 _=>by rw[aO,if_neg (by omega)]).aws (by omega) (by omega),sj,JD⟩
 refine cP (fun i S=>awt bK ⟨pc,ps,pd⟩ ⟨mb,mk⟩ N i S) N ?_ 0 (by omega) ?_
 ·rintro i S hi ⟨kt,T,vR,vJ,m,o,l,js,rc,⟨f0,f2,f4,f6⟩,⟨h0,h1,h17⟩,HR,nb,sj,sZ⟩;unfold Jr at h17;by_cases eX:i<N
  case neg=>
   have bI: ¬(0:Int)<(N:Int)-i:=by omega
   unfold DR at h1;simp-implicitDefEqProofs[f2,f4,f6,h1,h17,eX];exact fin S.h _ S.n _ _ _ _ _ _ _ _ _ _ _ h0 HR sj (by omega) (by omega) sZ
  have bI:(0:Int)<(N:Int)-i:=by omega
  have hch:=xq bK kt sj;have ZX:=dE (dE (dE sj));obtain⟨vn,aou⟩: ∃k,cY bK (cY bK (cY bK kt))=k:=⟨_,rfl⟩;obtain⟨⟨c1,c2,c3⟩,tf⟩: ∃c,VI bK kt=c:=⟨_,rfl⟩;rw[aou,tf]at hch;rw[aou]at ZX;simp only at hch;obtain⟨⟨Ns,Nt⟩,⟨Qp,JH⟩,vk⟩:=m;obtain⟨oc1,or1,oi1,⟨od1,oo1⟩,ou1⟩:=o;obtain⟨lo1,lq1⟩:=l;simp only at h17;have hw:IntKind.i64.wrap ((N:Int)-i-1)=(N:Int)-(i+1:Nat):=by rw[wrap_i64 (by omega)];omega
  have NX: ∀(hE:aY) (kE:Nat),S.n<=kE->(∀j,18<=j->j<S.n->hE j=S.h j)-> ∃v h' k',cy X 136 [Jr ⟨pc,ps,pd⟩ ⟨⟨Ns,Nt⟩,⟨Qp,JH⟩,vk⟩ T ⟨oc1,or1,oi1,⟨od1,oo1⟩,ou1⟩ ⟨lo1,lq1⟩ vR vJ,.agg [.int .i64 c1,.int .i64 c2,.bool c3]] hE kE=some (v,h',k')/\V7 ⟨pc,ps,pd⟩ (64*(i:Int)) ⟨Ns,Nt⟩ hE kE (fun j=>j<18) v h' k':=fun hE kE hk hh=>by
   obtain⟨g1,g2,g3,g4,g5,g6,g7,g8,g9,DU,g11,g12⟩:=HR.mono hk hh;exact ag9 pc ps pd Ns Nt Qp JH vk oc1 or1 oi1 od1 oo1 ou1 lo1 lq1 rc js c1 c2 c3 hE kE T vR vJ _ (64*(i:Int)) ⟨g4.2,g1⟩ g2 g3 g8 (by omega) g9 DU g11 (fun j hj=>⟨by omega,fun n e=>by have:=g5 _ _ e;omega,fun n e=>by have:=g6 _ _ e;omega⟩) g7 (by omega)
  unfold Jr at NX;simp only at NX;obtain⟨v,h',k',eN,tP,lK,aov⟩:=NX (aO (aO S.h 0 none) 0 (some ⟨2,[.agg [bK,.int .i64 vn]],true⟩)) (S.n+12) (by omega) (fun j a b=>by rw[aO,if_neg (by omega),aO,if_neg (by omega)]);have g0:=lK 0 (by omega) (by omega);have g1:=lK 1 (by omega) (by omega);have g17:=lK 17 (by omega) (by omega);have u0:(aO (aO S.h 0 none) 0 (some ⟨2,[.agg [bK,.int .i64 vn]],true⟩)) 0=some ⟨2,[.agg [bK,.int .i64 vn]],true⟩:=by simp[aO]
  have u1:(aO (aO S.h 0 none) 0 (some ⟨2,[.agg [bK,.int .i64 vn]],true⟩)) 1=some ⟨18,[DR],true⟩:=by simp[aO,h1]
  have u17:(aO (aO S.h 0 none) 0 (some ⟨2,[.agg [bK,.int .i64 vn]],true⟩)) 17=S.h 17:=by simp[aO]
  rw[u0]at g0;rw[u1]at g1;rw[u17,h17]at g17;have w1: ¬S.n=8:=by omega
  have w2: ¬17=S.n+9:=by omega
  rcases aov with⟨e,he,rfl,kn⟩|⟨m2,o2,l2,wG,DP,T2,R2,J2,es2,rfl,⟨q1,q2,q3⟩,⟨p1,p2,p3,p4,p5,p6,p7,p8,p9⟩,MG2,wL,Iz,ZU,C8,Mw,aw7⟩
  ·have e0: ¬e=0:=by omega
   unfold DR at eN g1;simp-implicitDefEqProofs[f0,f2,f4,f6,h0,h17,eX,hch,eN,g1,g17,e0,Nat.add_assoc,w2];refine fin _ _ (k'+1) _ _ _ _ _ _ ⟨⟨Ns,Nt⟩,⟨Qp,JH⟩,vk⟩ ⟨oc1,or1,oi1,⟨od1,oo1⟩,ou1⟩ ⟨lo1,lq1⟩ _ _ (by simp[aO,g0]) (HR.mono (by omega) fun j a b=> ?_) ZX (by omega) (by omega) (by omega);rw[aO,if_neg (by omega),aO,if_neg (by omega),kn j (by omega),aO,if_neg (by omega),aO,if_neg (by omega)]
  ·subst aw7;unfold wg at eN;unfold DR at g1;simp-implicitDefEqProofs[f0,f4,f6,h0,h17,eX,hch,eN,g17,Nat.add_assoc,w2,hw];refine⟨vn,T2,.bU R2 0 DP.length,.bU J2 0 4,m2,o2,l2,wG,DP,⟨by simp[aO,f0],by simp[aO,f2],by simp[aO,f4],by simp[aO]⟩,⟨by simp[aO,g0],?_,?_⟩,?_,wL.trans nb,ZX,by simp only;omega⟩
   ·simp[aO,g1];rfl
   ·simp[aO];rfl
   ·have y1: ∀j,S.n+12<=j-> ¬j=S.n+9:=fun j hj=>by omega
    have y2: ∀j,S.n+12<=j-> ¬j=17:=fun j hj=>by omega
    refine⟨?_,.inr ⟨R2,_,?_,rfl,?_,rfl⟩,.inr ⟨J2,?_,by rw[C8],?_⟩,⟨by omega,?_⟩,fun i n e=> ?_,fun i n e=> ?_,⟨fun n e=> ?_,fun n e=> ?_,fun i n m e1 e2=> ?_⟩,MG2.mono (by omega),Iz,ZU,C8,Mw⟩
    ·simp[aO,y1 T2 p1,y2 T2 p1,q1]
    ·simp only;omega
    ·simp[aO,y1 R2 p3,y2 R2 p3,q2]
    ·simp only;omega
    ·simp[aO,y1 J2 p5,y2 J2 p5,q3]
    ·simp only;omega
    ·cases e;omega
    ·cases e;omega
    ·cases e;omega
    ·cases e;omega
    ·cases e1;cases e2;omega
 ·simp-implicitDefEqProofs;refine⟨cY bK k3,20,.sl false [],.sl false [.int .i64 (-1),.int .i64 (-1),.int .i64 (-1),.int .i64 (-1)],⟨⟨mb',mk'⟩,⟨mc,ml⟩,mt⟩,⟨oc,orr,oi,⟨od,oo⟩,ou⟩,⟨[-1, -1, -1, -1],[[],[],[],[]]⟩,[-1, -1, -1, -1],[],⟨by simp[aO],by simp[aO],by simp[aO],by simp[aO]⟩,⟨by simp[aO],by simp[aO,DR],?_⟩,⟨?_,.inl rfl,.inl rfl,⟨by omega,by simp only;omega⟩,fun i n e=> ?_,fun i n e=> ?_,⟨fun n e=> ?_,fun n e=> ?_,fun i n m e1 e2=> ?_⟩,Vb.mono (by omega),.inl hOG,Jq,rfl,by simp⟩,?_,hd4,by simp only;omega⟩
  ·simp[aO,Jr]
  ·simp[aO]
  ·cases e
  ·cases e
  ·cases e
  ·cases e
  ·cases e1
  ·have:=congrArg bf.layout hm;exact this.symm
theorem CY.io{dl:List Int}{v:V}{h:aY}{k:Nat}(H:CY dl v h k): ∃(kt:Int) (p:Prog) (d:Int) (m:bf) (o:cN) (l:bR) (js:List Int) (rc:List Entry),
  xJ X [(1,7,52)] v h=some (2,.agg [.sl false (dl.map (V.int .i64)),.int .i64 kt],[.agg [.sl false (p.code.map Instr.e),.sl false (p.ae.map (V.int .i64)),.sl false (p.data.map aS),.sl false (m.layout.aD.map (V.int .i64)),.int .u16 m.layout.key,.sl false (m.memory.cells.map Cell.e),.sl false (m.memory.lines.map cx.e),.sl false (m.threads.map Thread.e),
   .sl false (o.clock.map (V.int .u16)),.sl false (o.random.map (V.int .u16)),.sl false (o.cO.map aS),.sl false (o.files.data.map ba),.sl false (o.files.opens.map dT.e),.sl false (o.cT.map Output.e),.sl false (l.owner.map (V.int .i64)),.sl false (l.queue.map cI),.sl false (rc.map Entry.e),.sl false (js.map (V.int .i64))]])/\dr dl kt/\cR p d m/\d<=2000:=by
 obtain⟨kt,p,d,T,vR,vJ,m,o,l,js,rc,rfl,h0,HR,sj,hd⟩:=H;refine⟨kt,p,d,m,o,l,js,rc,?_,sj,HR.Jo,hd⟩;have hT:=HR.row;have oP:m.threads.length=4:=HR.Jo.len;obtain⟨t1,t2⟩:=HR.lt;have T0: ¬T=0:=by omega
 have sx:=HR.Qk;have uX: ∀(f:Thread->V),List.take 4 (m.threads.map f)=m.threads.map f:=fun f=>bn (by simp;omega);have PL: ∀(f:Thread->Option V),List.take 4 (m.threads.map f)=m.threads.map f:=fun f=>bn (by simp;omega);have jkf: ∀(f:Int->V),List.take 4 (js.map f)=js.map f:=fun f=>bn (by simp;omega);unfold Jr;rcases HR.rcd with rfl|⟨R,es,r1,rfl,r2,rfl⟩
 ·rcases HR.jns with rfl|⟨J,j1,rfl,j2⟩
  ·simp(maxSteps:=10000000) -implicitDefEqProofs[h0,hT,oP,T0,uX,jy]
  ·have J0: ¬J=0:=by have:=HR.loJ _ _ rfl;omega
   have JT: ¬J=T:=fun e=>HR.sep.2.1 js.length (by rw[e]);simp(maxSteps:=10000000) -implicitDefEqProofs[h0,hT,oP,T0,uX,jy,sx,J0,JT,j2,jkf]
 ·have R0: ¬R=0:=by have:=HR.loR _ _ rfl;omega
  have RT: ¬R=T:=fun e=>HR.sep.1 rc.length (by rw[e]);rcases HR.jns with rfl|⟨J,j1,rfl,j2⟩
  ·simp(maxSteps:=10000000) -implicitDefEqProofs[h0,hT,oP,T0,uX,jy,R0,RT,r2]
  ·have J0: ¬J=0:=by have:=HR.loJ _ _ rfl;omega
   have JT: ¬J=T:=fun e=>HR.sep.2.1 js.length (by rw[e]);simp(maxSteps:=10000000) -implicitDefEqProofs[h0,hT,oP,T0,uX,jy,R0,RT,r2,sx,J0,JT,j2,jkf]
theorem aow{dl:List Int}{t:Int}(hd:dr dl t): ∃(kt:Int) (p:Prog) (d:Int) (m:bf) (o:cN) (l:bR) (js:List Int) (rc:List Entry),
  lZ X [(1,7,52)] 88 2 (t,dl) []=some (2,.agg [.sl false (dl.map (V.int .i64)),.int .i64 kt],[.agg [.sl false (p.code.map Instr.e),.sl false (p.ae.map (V.int .i64)),.sl false (p.data.map aS),.sl false (m.layout.aD.map (V.int .i64)),.int .u16 m.layout.key,.sl false (m.memory.cells.map Cell.e),.sl false (m.memory.lines.map cx.e),.sl false (m.threads.map Thread.e),
   .sl false (o.clock.map (V.int .u16)),.sl false (o.random.map (V.int .u16)),.sl false (o.cO.map aS),.sl false (o.files.data.map ba),.sl false (o.files.opens.map dT.e),.sl false (o.cT.map Output.e),.sl false (l.owner.map (V.int .i64)),.sl false (l.queue.map cI),.sl false (rc.map Entry.e),.sl false (js.map (V.int .i64))]],.bad)/\dr dl kt/\cR p d m/\d<=2000:=by
 obtain⟨v,h,k,e,HE⟩:=aot dl t hd;have hv:rZ v= .bad:=by
  obtain⟨_,_,_,_,_,_,_,_,_,_,_,rfl,_⟩:=HE;rfl
 obtain⟨kt,p,d,m,o,l,js,rc,rC,h1,h2,h3⟩:=HE.io;refine⟨kt,p,d,m,o,l,js,rc,?_,h1,h2,h3⟩;unfold lZ;rw[show 1+(X.dM 88).length=1 from rfl,e];simp only[rC,hv]
structure Dc (h:aY) (c n:Nat) (s:State) (R T:Nat) (ri vi:Nat->Nat):Prop where
 row:h R=some ⟨1,ig ri s.regions,true⟩
 vow:h T=some ⟨8,iv vi s.threads,true⟩
 rat: ∀i (g:i<s.regions.length),h (ri i)=some ⟨4,(s.regions[i]).map Canon.e,false⟩
 vat: ∀i (g:i<s.threads.length),h (vi i)=some ⟨4,(s.threads[i]).bm.map Canon.e,false⟩
 lt:(c<=R/\R<n)/\(c<=T/\T<n)/\R≠T
 lr: ∀i,i<s.regions.length->c<=ri i/\ri i<n/\ri i≠R/\ri i≠T
 lv: ∀i,i<s.threads.length->c<=vi i/\vi i<n/\vi i≠R/\vi i≠T
 rr: ∀i j,i<s.regions.length->j<s.regions.length->i≠j->ri i≠ri j
 vv: ∀i j,i<s.threads.length->j<s.threads.length->i≠j->vi i≠vi j
 rv: ∀i j,i<s.regions.length->j<s.threads.length->ri i≠vi j
theorem Zh.R{k n:Nat}{s:State}{v:V}{h:aY}(H:Zh k n s v h)(h1:0<s.regions.length)(h2:0<s.threads.length): ∃R T ri vi,v= .agg [.bU R 0 s.regions.length,.bU T 0 s.threads.length]/\Dc h k n s R T ri vi:=by
 obtain⟨vR,vT,n1,rfl,HR,HV,k1,k2⟩:=H;rcases HR with⟨e,_⟩|⟨_,R,ri,rfl,r1,r2,r3,r4⟩
 ·rw[e]at h1;simp at h1
 rcases HV with⟨e,_⟩|⟨_,T,vi,rfl,t1,t2,t3,t4⟩
 ·rw[e]at h2;simp at h2
 refine⟨R,T,ri,vi,rfl,r1,t1,fun i g=>(r3 i g).1,fun i g=>(t3 i g).1,⟨⟨r2.1,by omega⟩,⟨by omega,by omega⟩,by omega⟩,fun i g=> ?_,fun i g=> ?_,r4,t4,fun i j gi gj=> ?_⟩
 ·obtain⟨_,a1,a2,a3⟩:=r3 i g;exact⟨a1,by omega,a3,by omega⟩
 ·obtain⟨_,a1,a2,a3⟩:=t3 i g;exact⟨by omega,a2,by omega,a3⟩
 ·obtain⟨_,a1,a2,a3⟩:=r3 i gi;obtain⟨_,b1,b2,b3⟩:=t3 j gj;omega
theorem Dc.mono{h h':aY}{c n n':Nat}{s:State}{R T:Nat}{ri vi:Nat->Nat}(H:Dc h c n s R T ri vi)(hn:n<=n')(hh: ∀i,c<=i->i<n->h' i=h i):Dc h' c n' s R T ri vi:=by
 obtain⟨a1,a2,a3,a4,a5,a6,a7,a8,a9,Px⟩:=H;refine⟨by rw[hh _ a5.1.1 a5.1.2,a1],by rw[hh _ a5.2.1.1 a5.2.1.2,a2],fun i g=>by rw[hh _ (a6 i g).1 (a6 i g).2.1,a3],fun i g=>by rw[hh _ (a7 i g).1 (a7 i g).2.1,a4],by omega,fun i g=> ?_,fun i g=> ?_,a8,a9,Px⟩
 ·obtain⟨b1,b2,b3,b4⟩:=a6 i g;exact⟨b1,by omega,b3,b4⟩
 ·obtain⟨b1,b2,b3,b4⟩:=a7 i g;exact⟨b1,by omega,b3,b4⟩
theorem Qs{ri:Nat->Nat}{l:List (List Canon)}{i:Nat}{x:List Canon}(h:i<l.length)(hx:x.length=(l[i]).length):ig ri (l.set i x)=ig ri l:=by
 apply List.ext_getElem?;intro j;simp only[ig,List.getElem?_mapIdx,List.getElem?_set];by_cases e:i=j
 ·subst e;simp[h,hx]
 ·simp[e]
theorem CZ{vi:Nat->Nat}{l:List View}{i:Nat}{x:View}(h:i<l.length):(iv vi l).set i (oL vi i x)=iv vi (l.set i x):=by
 apply List.ext_getElem?;intro j;simp only[iv,List.getElem?_mapIdx,List.getElem?_set,List.length_mapIdx];by_cases e:i=j
 ·subst e;simp[h]
 ·simp[e]
theorem Mg{vi:Nat->Nat}{l:List View}{i:Nat}(h:i<l.length):iv vi l=(iv vi l).set i (oL vi i l[i]):=by
 rw[CZ h,List.set_getElem_self]
theorem AG{vi:Nat->Nat}{l:List View}{i:Nat}(h:i<l.length)(h':i<(iv vi l).length):(iv vi l)[i]= .agg [.int .i64 (l[i]).state,.int .i64 (l[i]).pc,.int .i64 (l[i]).count,.int .i64 (l[i]).bV,.int .i64 (l[i]).saved,.int .i64 (l[i]).dd,.int .u16 (l[i]).code,.bU (vi i) 0 (l[i]).bm.length]:=by simp[iv,oL]
theorem C0{ri:Nat->Nat}{l:List (List Canon)}{i:Nat}(h:i<l.length)(h':i<(ig ri l).length):(ig ri l)[i]= .bU (ri i) 0 (l[i]).length:=by simp[ig]
def sg(s:State)(i:Nat)(x:List Canon):State:=⟨s.regions.set i x,s.threads⟩
def wH(s:State)(i:Nat)(x:View):State:=⟨s.regions,s.threads.set i x⟩
theorem Dc.sg{h h':aY}{c n n':Nat}{s:State}{R T:Nat}{ri vi:Nat->Nat}(H:Dc h c n s R T ri vi)(hn:n<=n'){i:Nat}(hi:i<s.regions.length){x:List Canon}(hx:x.length=(s.regions[i]).length)(hw:h' (ri i)=some ⟨4,x.map Canon.e,false⟩)(hh: ∀j,c<=j->j<n->j≠ri i->h' j=h j):Dc h' c n' (sg s i x) R T ri vi:=by
 obtain⟨a1,a2,a3,a4,a5,a6,a7,a8,a9,Px⟩:=H;unfold Go.Proofs.YtejohpnpnaljdaaGreat.sg;have q:=a6 i hi;refine⟨by rw[hh _ a5.1.1 a5.1.2 (fun e=>q.2.2.1 e.symm),a1,Qs hi hx],by rw[hh _ a5.2.1.1 a5.2.1.2 (fun e=>q.2.2.2 e.symm),a2],fun j g=> ?_,fun j g=> ?_,by omega,fun j g=> ?_,fun j g=> ?_,fun j l g1 g2=>a8 j l (by simpa using g1) (by simpa using g2),a9,fun j l g1=>Px j l (by simpa using g1)⟩
 ·have gj:j<s.regions.length:=by simpa using g
  by_cases e:i=j
  ·subst e;simp only[List.getElem_set_self];exact hw
  ·rw[hh _ (a6 j gj).1 (a6 j gj).2.1 (a8 j i gj hi (fun x=>e x.symm)),a3 j gj];simp only[List.getElem_set_ne e]
 ·rw[hh _ (a7 j g).1 (a7 j g).2.1 (fun e=>Px i j hi g e.symm),a4 j g]
 ·obtain⟨b1,b2,b3,b4⟩:=a6 j (by simpa using g);exact⟨b1,by omega,b3,b4⟩
 ·obtain⟨b1,b2,b3,b4⟩:=a7 j g;exact⟨b1,by omega,b3,b4⟩
theorem Dc.wH{h h':aY}{c n n':Nat}{s:State}{R T:Nat}{ri vi:Nat->Nat}(H:Dc h c n s R T ri vi)(hn:n<=n'){i:Nat}(hi:i<s.threads.length){x:View}(hT:h' T=some ⟨8,(iv vi s.threads).set i (oL vi i x),true⟩)(hw:h' (vi i)=some ⟨4,x.bm.map Canon.e,false⟩)(hh: ∀j,c<=j->j<n->j≠T->j≠vi i->h' j=h j):Dc h' c n' (wH s i x) R T ri vi:=by
 obtain⟨a1,a2,a3,a4,a5,a6,a7,a8,a9,Px⟩:=H;unfold Go.Proofs.YtejohpnpnaljdaaGreat.wH;have q:=a7 i hi;refine⟨by rw[hh _ a5.1.1 a5.1.2 a5.2.2 (fun e=>q.2.2.1 e.symm),a1],by rw[hT,CZ hi],fun j g=> ?_,fun j g=> ?_,by omega,fun j g=> ?_,fun j g=> ?_,a8,fun j l g1 g2=>a9 j l (by simpa using g1) (by simpa using g2),fun j l g1 g2=>Px j l g1 (by simpa using g2)⟩
 ·rw[hh _ (a6 j g).1 (a6 j g).2.1 (a6 j g).2.2.2 (Px j i g hi),a3 j g]
 ·have gj:j<s.threads.length:=by simpa using g
  by_cases e:i=j
  ·subst e;simp only[List.getElem_set_self];exact hw
  ·rw[hh _ (a7 j gj).1 (a7 j gj).2.1 (a7 j gj).2.2.2 (a9 j i gj hi (fun x=>e x.symm)),a4 j gj];simp only[List.getElem_set_ne e]
 ·obtain⟨b1,b2,b3,b4⟩:=a6 j g;exact⟨b1,by omega,b3,b4⟩
 ·obtain⟨b1,b2,b3,b4⟩:=a7 j (by simpa using g);exact⟨b1,by omega,b3,b4⟩
theorem Dc.pure{h:aY}{c n:Nat}{s:State}{R T:Nat}{ri vi:Nat->Nat}(H:Dc h c n s R T ri vi):Dc (fun i=>jz (h i)) c n s R T ri vi:=by
 obtain⟨a1,a2,a3,a4,a5,a6,a7,a8,a9,Px⟩:=H;have e1:(ig ri s.regions).all V.Jw=true:=by
  rw[List.all_eq_true];intro x hx;simp only[ig,List.mem_mapIdx]at hx;obtain⟨i,g,rfl⟩:=hx;rfl
 have e2:(iv vi s.threads).all V.Jw=true:=by
  rw[List.all_eq_true];intro x hx;simp only[iv,List.mem_mapIdx]at hx;obtain⟨i,g,rfl⟩:=hx;rfl
 have e3: ∀l:List Canon,(l.map Canon.e).all V.Jw=true:=fun l=>by
  rw[List.all_eq_true];intro x hx;obtain⟨y,_,rfl⟩:=List.mem_map.1 hx;rfl
 exact⟨by rw[a1];unfold jz;simp only[e1,if_true],by rw[a2];unfold jz;simp only[e2,if_true],fun i g=>by rw[a3 i g];unfold jz;simp only[e3,if_true],fun i g=>by rw[a4 i g];unfold jz;simp only[e3,if_true],a5,a6,a7,a8,a9,Px⟩
theorem Dc.m9{h hx:aY}{c n:Nat}{s:State}{R T:Nat}{ri vi:Nat->Nat}(H:Dc h c n s R T ri vi)(hh: ∀i,c<=i->i<n->hx i=h i)(d:Nat):bT hx (d+3) (.bU R 0 s.regions.length)=some (.sl false (s.regions.map ba)):=by
 have e:cn ((ig ri s.regions).map (bT hx (d+2)))=some (s.regions.map ba):=by
  unfold ig;refine lj _ _ fun i hi=> ?_;have q:=H.lr i hi;have e1:hx (ri i)=some ⟨4,(s.regions[i]).map Canon.e,false⟩:=by rw[hh _ q.1 q.2.1,H.rat i hi]
  simp[bT,e1,ba]
 have e1:hx R=some ⟨1,ig ri s.regions,true⟩:=by rw[hh _ H.lt.1.1 H.lt.1.2,H.row]
 have l1:=lk ri s.regions;have t1:(ig ri s.regions).take s.regions.length=ig ri s.regions:=bn (by omega);simp[bT,e1,l1,t1,e]
theorem rk.sg{p:Prog}{d:Int}{s:State}(H:rk p d s){i j:Nat}(hi:i<s.regions.length){c:Canon}(hc:zF c)(hb:nY c=true):rk p d (sg s i ((s.regions[i]).set j c)):=by
 obtain⟨⟨p1,p2,p3,p4⟩,h2,h3⟩:=H;unfold Go.Proofs.YtejohpnpnaljdaaGreat.sg;refine⟨⟨by simpa using p1,fun k g g'=> ?_,p3,p4⟩,fun l hl=> ?_,h3⟩
 ·have gk:k<s.regions.length:=by simpa using g
  by_cases e:i=k
  ·subst e;simp only[List.getElem_set_self,List.length_set];refine⟨(p2 i gk g').1,?_⟩;unfold iQ;rw[List.all_eq_true];intro x hx;rcases List.mem_or_eq_of_mem_set hx with hx|rfl
   ·exact List.all_eq_true.1 (p2 i gk g').2 x hx
   ·exact hb
  ·simp only[List.getElem_set_ne e];exact p2 k gk g'
 ·rcases List.mem_or_eq_of_mem_set hl with hl|rfl
  ·exact h2 l hl
  ·intro x hx;rcases List.mem_or_eq_of_mem_set hx with hx|rfl
   ·exact h2 _ (List.getElem_mem hi) x hx
   ·exact hc
theorem rk.wH{p:Prog}{d:Int}{s:State}(H:rk p d s){i:Nat}{x:View}(hx:Ar x)(hv:fe x.bm/\(0<=x.code/\x.code<=65535)/\x.count<=d):rk p d (wH s i x):=by
 obtain⟨⟨p1,p2,p3,p4⟩,h2,h3⟩:=H;unfold Go.Proofs.YtejohpnpnaljdaaGreat.wH;refine⟨⟨p1,p2,by simpa using p3,fun k g=> ?_⟩,h2,fun v C9=> ?_⟩
 ·have gk:k<s.threads.length:=by simpa using g
  by_cases e:i=k
  ·subst e;simp only[List.getElem_set_self];exact hx
  ·simp only[List.getElem_set_ne e];exact p4 k gk
 ·rcases List.mem_or_eq_of_mem_set C9 with h|rfl
  ·exact h3 v h
  ·exact hv
def Gm(v:View)(j:Nat)(c:Canon):View:=⟨v.state,v.pc,v.count,v.bV,v.saved,v.dd,v.code,v.bm.set j c⟩
def Js(v:View)(st:Int):View:=⟨st,v.pc,v.count,v.bV,v.saved,v.dd,v.code,v.bm⟩
theorem ZY{d:Int}{v:View}(h:Ar v)(hv:fe v.bm/\(0<=v.code/\v.code<=65535)/\v.count<=d)(j:Nat){c:Canon}(hc:zF c)(hb:nY c=true):Ar (Gm v j c)/\(fe (Gm v j c).bm/\(0<=(Gm v j c).code/\(Gm v j c).code<=65535)/\(Gm v j c).count<=d):=by
 refine⟨⟨h.state,h.pc,h.count,h.bV,h.saved,h.dd,by simp[Gm,h.bm],?_⟩,fun x hx=> ?_,hv.2⟩
 ·unfold iQ;rw[List.all_eq_true];intro x hx;rcases List.mem_or_eq_of_mem_set hx with hx|rfl
  ·exact List.all_eq_true.1 h.ana x hx
  ·exact hb
 ·rcases List.mem_or_eq_of_mem_set hx with hx|rfl
  ·exact hv.1 x hx
  ·exact hc
theorem ZZ{d:Int}{v:View}(h:Ar v)(hv:fe v.bm/\(0<=v.code/\v.code<=65535)/\v.count<=d){st:Int}(hs:0<=st/\st<=4):Ar (Js v st)/\(fe (Js v st).bm/\(0<=(Js v st).code/\(Js v st).code<=65535)/\(Js v st).count<=d):=
 ⟨⟨hs,h.pc,h.count,h.bV,h.saved,h.dd,h.bm,h.ana⟩,hv⟩
theorem Nv: ∀(l:List Int) (i:Int) (r:Nat),(∀x∈l,x<=32)->r+l.length<=4->0<=(uf l i r).1.region/\(uf l i r).1.region<4/\0<=(uf l i r).1.offset/\(uf l i r).1.offset<32
 | [],i,r,_,_=>by simp[uf]
 |n::l,i,r,h,hr=>by
  have hn:=h n (by simp);simp only[List.length_cons]at hr;unfold uf;split
  ·simp only;omega
  ·exact Nv l (i-n) (r+1) (fun x hx=>h x (by simp[hx])) (by omega)
theorem Jt(l:List Int){ae:List Int}(k:Int)(hz:mw ae):zF (sN l ae k)/\nY (sN l ae k)=true:=by
 unfold sN;split
 ·obtain⟨a1,a2,a3,a4⟩:=Nv ae (dL l (cY l k) (total ae)) 0 (fun x hx=>by
   obtain⟨i,hi,rfl⟩:=List.getElem_of_mem hx;exact(hz.elem i hi).2) (by have:=hz.le;omega)
  refine⟨⟨by simp,by simp⟩,?_⟩;have n1: ¬(uf ae (dL l (cY l k) (total ae)) 0).1.region= -1:=by omega
  simp[nY,n1];omega
 split
 ·have:=dC l (cY l k) (n:=10) (by omega);exact⟨⟨this.1,by simp only;omega⟩,by simp[nY]⟩
 ·exact⟨sM _ _,by simp[nY]⟩
def Nw(dl:List Int)(v:V)(h:aY)(k:Nat):Prop:=
 ∃(kt:Int) (p:Prog) (d:Int) (T:Nat) (m:bf),v= .de [.agg [.sl false (p.code.map Instr.e),.sl false (p.ae.map (V.int .i64)),.sl false (p.data.map aS)],.agg [.sl false (m.layout.aD.map (V.int .i64)),.int .u16 m.layout.key,.sl false (m.memory.cells.map Cell.e),.sl false (m.memory.lines.map cx.e),.bU T 0 4]]/\
  h 0=some ⟨2,[.agg [.sl false (dl.map (V.int .i64)),.int .i64 kt]],true⟩/\h T=some ⟨8,m.threads.map Thread.e,false⟩/\T≠0/\dr dl kt/\cR p d m/\d<=2000
theorem Dc.fits(s:State)(R T:Nat):(V.agg [.bU R 0 s.regions.length,.bU T 0 s.threads.length]).fits 2=true:=rfl
def Z0(p:Prog)(m:bf)(o:cN)(l:bR)(js:List Int)(rc:List Entry):List V:=[.sl false (p.code.map Instr.e),.sl false (p.ae.map (V.int .i64)),.sl false (p.data.map aS),.sl false (m.layout.aD.map (V.int .i64)),.int .u16 m.layout.key,.sl false (m.memory.cells.map Cell.e),.sl false (m.memory.lines.map cx.e),.bU 7 0 4,
   .sl false (o.clock.map (V.int .u16)),.sl false (o.random.map (V.int .u16)),.sl false (o.cO.map aS),.sl false (o.files.data.map ba),.sl false (o.files.opens.map dT.e),.sl false (o.cT.map Output.e),.sl false (l.owner.map (V.int .i64)),.sl false (l.queue.map cI),.sl false (rc.map Entry.e),.sl false (js.map (V.int .i64))]
structure MI (dl:List Int) (p:Prog) (m:bf) (d:Int) (o:cN) (l:bR) (js:List Int) (rc:List Entry) (R T:Nat) (ri vi:Nat->Nat) (kt:Int) (s:State) (S:St):Prop where
 f:S.f 0= .ptr 0 0 0/\S.f 2= .ptr 1 0 0/\S.f 3= .ptr 2 0 0/\S.f 4= .ptr 5 0 0/\S.f 5= .ptr 10 0 0/\S.f 6= .ptr 19 0 0
 h0:S.h 0=some ⟨2,[.agg [.sl false (dl.map (V.int .i64)),.int .i64 kt]],true⟩
 h:S.h 1=some ⟨3,[.agg [.sl true [],.sl true [],.sl true []]],true⟩/\S.h 2=some ⟨5,[.agg [.sl true [],.int .u16 0,.sl true [],.sl true [],.sl true []]],true⟩/\S.h 5=some ⟨18,[.agg (Z0 p m o l js rc)],true⟩/\S.h 7=some ⟨8,m.threads.map Thread.e,false⟩/\S.h 10=some ⟨5,[.agg [.sl false (m.layout.aD.map (V.int .i64)),.int .u16 m.layout.key,.sl false (m.memory.cells.map Cell.e),.sl false (m.memory.lines.map cx.e),.bU 7 0 4]],true⟩/\S.h 19=some ⟨2,[.agg [.bU R 0 s.regions.length,.bU T 0 4]],true⟩
 st:Dc S.h 36 S.n s R T ri vi
 g:rk p d s
 dk:dr dl kt
 n:36<=S.n
theorem MI.put {dl:List Int} {p:Prog} {m:bf} {d:Int} {o:cN} {l:bR} {js:List Int} {rc:List Entry} {R T:Nat} {ri vi:Nat->Nat} {kt:Int} {s:State} {S:St} (H:MI dl p m d o l js rc R T ri vi kt s S) {S':St} {Mh:Int} {s':State}
  (hf:S'.f 0=S.f 0/\S'.f 2=S.f 2/\S'.f 3=S.f 3/\S'.f 4=S.f 4/\S'.f 5=S.f 5/\S'.f 6=S.f 6) (h0:S'.h 0=some ⟨2,[.agg [.sl false (dl.map (V.int .i64)),.int .i64 Mh]],true⟩) (hl: ∀j,1<=j->j<36->S'.h j=S.h j)
  (st:Dc S'.h 36 S'.n s' R T ri vi) (hr:s'.regions.length=s.regions.length) (g:rk p d s') (dk:dr dl Mh) (hn:S.n<=S'.n):MI dl p m d o l js rc R T ri vi Mh s' S':=by
 obtain⟨⟨f0,f2,f3,f4,f5,f6⟩,_,⟨g1,g2,g5,g7,DU,JI⟩,_,_,_,n⟩:=H;obtain⟨a0,a2,a3,a4,a5,a6⟩:=hf;refine⟨⟨a0.trans f0,a2.trans f2,a3.trans f3,a4.trans f4,a5.trans f5,a6.trans f6⟩,h0,⟨?_,?_,?_,?_,?_,?_⟩,st,g,dk,by omega⟩
 ·rw[hl 1 (by omega) (by omega),g1]
 ·rw[hl 2 (by omega) (by omega),g2]
 ·rw[hl 5 (by omega) (by omega),g5]
 ·rw[hl 7 (by omega) (by omega),g7]
 ·rw[hl 10 (by omega) (by omega),DU]
 ·rw[hl 19 (by omega) (by omega),JI,hr]
theorem MI.len{dl:List Int}{p:Prog}{m:bf}{d:Int}{o:cN}{l:bR}{js:List Int}{rc:List Entry}{R T:Nat}{ri vi:Nat->Nat}{kt:Int}{s:State}{S:St}(H:MI dl p m d o l js rc R T ri vi kt s S):s.regions.length=p.ae.length/\s.threads.length=4:=⟨H.g.p.regions,H.g.p.threads⟩
theorem MI.same {dl:List Int} {p:Prog} {m:bf} {d:Int} {o:cN} {l:bR} {js:List Int} {rc:List Entry} {R T:Nat} {ri vi:Nat->Nat} {kt:Int} {s:State} {S:St} (H:MI dl p m d o l js rc R T ri vi kt s S) {S':St} {Mh:Int}
  (hf:S'.f 0=S.f 0/\S'.f 2=S.f 2/\S'.f 3=S.f 3/\S'.f 4=S.f 4/\S'.f 5=S.f 5/\S'.f 6=S.f 6) (h0:S'.h 0=some ⟨2,[.agg [.sl false (dl.map (V.int .i64)),.int .i64 Mh]],true⟩) (hl: ∀j,1<=j->S'.h j=S.h j)
  (dk:dr dl Mh) (hn:S.n<=S'.n):MI dl p m d o l js rc R T ri vi Mh s S':=
 H.put hf h0 (fun j a _=>hl j a) (H.st.mono hn fun j a _=>hl j (by omega)) rfl H.g dk hn
theorem MI.Ez {dl:List Int} {p:Prog} {m:bf} {d:Int} {o:cN} {l:bR} {js:List Int} {rc:List Entry} {R T:Nat} {ri vi:Nat->Nat} {kt:Int} {s:State} {S:St} (H:MI dl p m d o l js rc R T ri vi kt s S) {S':St} {Mh:Int} {i:Nat} (hi:i<s.regions.length) {c:Canon} {j:Nat}
  (hf:S'.f 0=S.f 0/\S'.f 2=S.f 2/\S'.f 3=S.f 3/\S'.f 4=S.f 4/\S'.f 5=S.f 5/\S'.f 6=S.f 6) (h0:S'.h 0=some ⟨2,[.agg [.sl false (dl.map (V.int .i64)),.int .i64 Mh]],true⟩)
  (hw:S'.h (ri i)=some ⟨4,((s.regions[i]).set j c).map Canon.e,false⟩) (hl: ∀j,1<=j-> ¬j=ri i->S'.h j=S.h j) (hc:zF c/\nY c=true)
  (dk:dr dl Mh) (hn:S.n<=S'.n):MI dl p m d o l js rc R T ri vi Mh (sg s i ((s.regions[i]).set j c)) S':=by
 have q:=H.st.lr i hi;refine H.put hf h0 (fun j a b=>hl j a (by omega)) (H.st.sg hn hi (by simp) hw fun j a b e=>hl j (by omega) e) (by simp[sg]) (H.g.sg hi hc.1 hc.2) dk hn
theorem MI.vw {dl:List Int} {p:Prog} {m:bf} {d:Int} {o:cN} {l:bR} {js:List Int} {rc:List Entry} {R T:Nat} {ri vi:Nat->Nat} {kt:Int} {s:State} {S:St} (H:MI dl p m d o l js rc R T ri vi kt s S) {S':St} {Mh:Int} {i:Nat} (hi:i<s.threads.length) {x:View}
  (hf:S'.f 0=S.f 0/\S'.f 2=S.f 2/\S'.f 3=S.f 3/\S'.f 4=S.f 4/\S'.f 5=S.f 5/\S'.f 6=S.f 6) (h0:S'.h 0=some ⟨2,[.agg [.sl false (dl.map (V.int .i64)),.int .i64 Mh]],true⟩)
  (hT:S'.h T=some ⟨8,(iv vi s.threads).set i (oL vi i x),true⟩) (hw:S'.h (vi i)=some ⟨4,x.bm.map Canon.e,false⟩) (hl: ∀j,1<=j-> ¬j=T-> ¬j=vi i->S'.h j=S.h j) (hx:Ar x/\(fe x.bm/\(0<=x.code/\x.code<=65535)/\x.count<=d))
  (dk:dr dl Mh) (hn:S.n<=S'.n):MI dl p m d o l js rc R T ri vi Mh (wH s i x) S':=by
 have q:=H.st.lv i hi;have q2:=H.st.lt;refine H.put hf h0 (fun j a b=>hl j a (by omega) (by omega)) (H.st.wH hn hi hT hw fun j a b e e'=>hl j (by omega) e e') (by simp[wH]) (H.g.wH hx.1 hx.2) dk hn
def Far(c:Nat)(h hx:aY):Prop:= ∀i,c<=i->hx i=h i
theorem Ju(c:Nat)(h:aY):Far c h h:=fun _ _=>rfl
theorem Nx{c:Nat}{h hx:aY}(j:Nat)(x:Option Ob)(hj:j<c)(H:Far c h hx):Far c h (aO hx j x):=fun i hi=>by
 rw[aO,if_neg (by omega)];exact H i hi
theorem Dc.vf{h hx:aY}{c n:Nat}{s:State}{R T:Nat}{ri vi:Nat->Nat}(H:Dc h c n s R T ri vi)(hf:Far c h hx):cn (List.take s.regions.length (List.map (bT hx 11) (ig ri s.regions)))=some (s.regions.map ba):=by
 have t1:List.take s.regions.length (List.map (bT hx 11) (ig ri s.regions))=List.map (bT hx 11) (ig ri s.regions):=bn (by simp[lk]);rw[t1];unfold ig;refine lj _ _ fun i hi=> ?_;have q:=H.lr i hi;have e1:hx (ri i)=some ⟨4,(s.regions[i]).map Canon.e,false⟩:=by rw[hf _ q.1,H.rat i hi]
 simp[bT,e1,ba]
theorem Dc.Qt{h hx:aY}{c n:Nat}{s:State}{R T:Nat}{ri vi:Nat->Nat}(H:Dc h c n s R T ri vi)(hl:s.threads.length=4)(hf:Far c h hx):cn (List.take 4 (List.map (bT hx 11) (iv vi s.threads)))=some (s.threads.map View.e):=by
 have t1:List.take 4 (List.map (bT hx 11) (iv vi s.threads))=List.map (bT hx 11) (iv vi s.threads):=bn (by simp[rf,hl]);rw[t1];unfold iv;refine lj _ _ fun i hi=> ?_;have q:=H.lv i hi;have e1:hx (vi i)=some ⟨4,(s.threads[i]).bm.map Canon.e,false⟩:=by rw[hf _ q.1,H.vat i hi]
 simp[bT,oL,cn,e1,View.e]
def Z1(p:Prog)(m:bf):List V:=[.agg [.sl false (p.code.map Instr.e),.sl false (p.ae.map (V.int .i64)),.sl false (p.data.map aS)],.agg [.sl false (m.layout.aD.map (V.int .i64)),.int .u16 m.layout.key,.sl false (m.memory.cells.map Cell.e),.sl false (m.memory.lines.map cx.e),.sl false (m.threads.map Thread.e)]]
@[simp] theorem Qu(bK:List Int)(aV:Int)(hd:dr bK aV): ∃v h k,cy X 44 [.ptr 0 0 0] (kg X 44 2 (.agg [.sl false (bK.map (V.int .i64)),.int .i64 aV])) 1=some (v,h,k)/\Nw bK v h k:=by
 obtain⟨kt,⟨pc,ps,pd⟩,d,⟨⟨mb,mk⟩,⟨mc,ml⟩,mt⟩,⟨oc,orr,oi,⟨od,oo⟩,ou⟩,⟨lo,lq⟩,js,rc,hR,sj,HG,JD⟩:=aow hd;simp only at hR;have oP:mt.length=4:=HG.len;have uX: ∀(f:Thread->V),List.take 4 (mt.map f)=mt.map f:=fun f=>bn (by simp;omega);have PL: ∀(f:Thread->Option V),List.take 4 (mt.map f)=mt.map f:=fun f=>bn (by simp;omega);have hNx:=gy bK kt 3 sj (by omega);have Qv:=dE sj;refine bu (X:=X) (K:=fun v h k=>Nw bK v h k) Tryz.func44 rfl rfl ?_;by_cases h3:dL bK kt 3=0
 case neg=>
  simp(maxSteps:=10000000) (maxDischargeDepth:=30) -implicitDefEqProofs[hR,hNx,oP,uX,PL,jy,nV,h3];exact⟨cY bK kt,⟨pc,ps,pd⟩,d,7,⟨⟨mb,mk⟩,⟨mc,ml⟩,mt⟩,rfl,by simp[aO],by simp[aO],by omega,Qv,HG,JD⟩
 have h3':=eq_true h3;obtain⟨v,h1,k1,eS,HS⟩:=Zi pc ps pd mb mk mc ml mt 21 d HG;have SG:=P9 HG (by omega);obtain⟨s,hs⟩: ∃s,px (Prog.mk pc ps pd) (bf.mk (aN.mk mb mk) (aK.mk mc ml) mt)=s:=⟨_,rfl⟩;rw[hs]at HS SG;have hz:mw ps:=HG.prog.ae;have hsr:s.regions.length=ps.length:=SG.p.regions;have iZ:s.threads.length=4:=SG.p.threads;have z1:0<ps.length:=hz.pos;obtain⟨R,T,ri,vi,rfl,HR⟩:=HS.R (by omega) (by omega);rw[iZ]at eS;simp only[Nat.reduceAdd]at HR;have A5:36<=k1:=by have:=HR.lt;omega
 obtain⟨L,hL⟩: ∃L,(ps[0]).toNat=L:=⟨_,rfl⟩;have L1:=(hz.elem 0 z1);have aox: ∀s',rk (Prog.mk pc ps pd) d s'-> ∀g:0<s'.regions.length,(s'.regions[0]).length=L:=fun s' G g=>by
  have:=(G.p.region 0 g z1).1;simp only at this;omega
 have gz:0<s.regions.length:=by omega
 have gL:=aox s SG gz;have HP:=HR.pure;have b1:=HP.row;have b2: ∀h',(ig ri s.regions)[0]= .bU (ri 0) 0 L:=fun h'=>by rw[C0 gz h',gL]
 have b3:=lk ri s.regions;have c1: ¬R<21:=by have:=HR.lt;omega
 have c2: ¬R=19:=by have:=HR.lt;omega
 have hLi:0<=L/\L<=32:=by have:=L1.2;omega
 have epu: ∀n m,(V.agg [.bU R 0 n,.bU T 0 m]).pu=true:=fun _ _=>rfl;simp(maxSteps:=10000000) (maxDischargeDepth:=30) -implicitDefEqProofs[hR,hNx,oP,uX,PL,jy,nV,h3',eS,b1,b2,b3,c1,c2,gz,epu];refine cP (fun i S=> ∃kt s,MI bK ⟨pc,ps,pd⟩ ⟨⟨mb,mk⟩,⟨mc,ml⟩,mt⟩ d ⟨oc,orr,oi,⟨od,oo⟩,ou⟩ ⟨lo,lq⟩ js rc R T ri vi kt s S/\S.f 27= .int .i64 (L:Int)/\S.f 28= .int .i64 (i:Int)) L ?_ 0 (by simp) ?_
 ·rintro i S hi ⟨vn,s2,HM,f27,f28⟩;obtain⟨f0,f2,f3,f4,f5,f6⟩:=HM.f;obtain⟨g1,g2,g5,g7,DU,JI⟩:=HM.h;have g0:=HM.h0;unfold Z0 at g5;simp only at g5 DU;obtain⟨Mw,ht2⟩:=HM.len;simp only at Mw;have EZ:=HM.st;have Z2:0<s2.regions.length:=by omega
  have e1:=EZ.row;have e5:=aox s2 HM.g Z2;have e2: ∀h',(ig ri s2.regions)[0]= .bU (ri 0) 0 L:=fun h'=>by rw[C0 Z2 h',e5]
  have e3:=lk ri s2.regions;have e4:=EZ.rat 0 Z2;have n36:=HM.n;have q0: ¬R=0:=by have:=EZ.lt;omega
  have q1: ¬ri 0=0:=by have:=EZ.lr 0 Z2;omega
  have q2: ¬0=ri 0:=fun e=>q1 e.symm;have hN:=gy bK vn 3 HM.dk (by omega);have hC:=rP bK (cY bK vn) ps (dE HM.dk) hz;by_cases eX:i<L
  ·have bI:(i:Int)<L:=by omega
   have eY:=cS i (by omega);by_cases JE:dL bK vn 3=0
   ·have Wb:=eq_true JE;obtain⟨row,dV⟩: ∃r,s2.regions[0]=r:=⟨_,rfl⟩;rw[dV]at e4 e5;have jI: ∀(x c:Canon),(row.map Canon.e).set i (x.e.put 0 (.agg [.int .u8 c.tag,.int .u16 c.val,.int .i64 c.region,.int .i64 c.offset]))=(row.set i c).map Canon.e:=fun x c=>by rw[List.map_set];rfl
    simp(maxSteps:=10000000) (maxDischargeDepth:=30) -implicitDefEqProofs[f0,f2,f3,f4,f5,f6,f27,f28,g0,g1,g2,g5,DU,JI,Z2,e1,e2,e3,e4,e5,q0,q1,hN,hC,Wb,eX,bI,eY];refine⟨yJ bK (cY bK vn),_,HM.Ez Z2 (c:=sN bK ps (cY bK vn)) (j:=i) (by simp[aO]) (by simp[aO,q2]) ?_ (fun j a b=> ?_) (Jt bK (cY bK vn) hz) (I6 (dE HM.dk)) (by simp only;omega)⟩
    ·simp only[aO,if_true,jI,dV]
    ·have w1: ¬j=0:=by omega
     simp[aO,w1,b]
   ·simp(maxSteps:=10000000) (maxDischargeDepth:=30) -implicitDefEqProofs[f0,f2,f3,f4,f5,f6,f27,f28,g0,g1,g2,g5,DU,JI,Z2,e1,e2,e3,e4,e5,q0,q1,hN,hC,JE,eX,bI,eY];refine⟨cY bK vn,s2,HM.same (by simp[aO]) (by simp[aO]) (fun j a=> ?_) (dE HM.dk) (by simp only;omega)⟩;have w1: ¬j=0:=by omega
    simp[aO,w1]
  ·have bI: ¬(i:Int)<L:=by omega
   have hie:L=i:=by omega
   have e6:=EZ.vow;have e7:=rf vi s2.threads;simp(maxSteps:=10000000) (maxDischargeDepth:=30) -implicitDefEqProofs[f0,f2,f3,f4,f5,f6,f27,f28,g0,g1,g2,g5,DU,JI,Z2,e1,e2,e3,e4,e5,q0,q1,eX,bI];refine cP (fun i S=> ∃kt s,MI bK ⟨pc,ps,pd⟩ ⟨⟨mb,mk⟩,⟨mc,ml⟩,mt⟩ d ⟨oc,orr,oi,⟨od,oo⟩,ou⟩ ⟨lo,lq⟩ js rc R T ri vi kt s S/\S.f 48= .int .i64 4/\S.f 49= .int .i64 (i:Int)) 4 ?_ 0 (by simp) ?_
   ·clear e1 e2 e3 e4 e5 e6 e7 q0 q1 q2 hN hC EZ HM f0 f2 f3 f4 f5 f6 f27 f28 g0 g1 g2 g5 g7 DU JI Mw ht2 n36 Z2;rintro k S hi ⟨vn,s2,HM,f48,f49⟩;obtain⟨f0,f2,f3,f4,f5,f6⟩:=HM.f;obtain⟨g1,g2,g5,g7,DU,JI⟩:=HM.h;have g0:=HM.h0;unfold Z0 at g5;simp only at g5 DU;obtain⟨Mw,ht2⟩:=HM.len;simp only at Mw;have EZ:=HM.st;have e6:=EZ.vow;have e7:=rf vi s2.threads;rw[ht2]at e7;have n36:=HM.n;have q0: ¬T=0:=by have:=EZ.lt;omega
    by_cases eX:k<4
    ·have bI:(k:Int)<4:=by omega
     have vr:=bI;have kl:k<s2.threads.length:=by omega
     have eY:=cS k (by omega);have e8: ∀h',(iv vi s2.threads)[k]=_:=fun h'=>AG kl h';have e9:(s2.threads[k]).bm.length=8:=(HM.g.p.view k kl).bm;rw[e9]at e8;simp(maxSteps:=10000000) (maxDischargeDepth:=30) -implicitDefEqProofs[f0,f2,f3,f4,f5,f6,f48,f49,g0,g1,g2,g5,DU,JI,e6,e7,e8,q0,eX,bI];refine cP (fun j S=> ∃kt s,MI bK ⟨pc,ps,pd⟩ ⟨⟨mb,mk⟩,⟨mc,ml⟩,mt⟩ d ⟨oc,orr,oi,⟨od,oo⟩,ou⟩ ⟨lo,lq⟩ js rc R T ri vi kt s S/\S.f 8= .int .i64 (k:Int)/\S.f 48= .int .i64 4/\S.f 49= .int .i64 (k:Int)/\S.f 58= .int .i64 8/\S.f 59= .int .i64 (j:Int)) 8 ?_ 0 (by simp) ?_
     ·clear e6 e7 e8 e9 q0 EZ HM f0 f2 f3 f4 f5 f6 f48 f49 g0 g1 g2 g5 g7 DU JI Mw ht2 n36 kl;rintro j S hj ⟨vn,s2,HM,f8,f48,f49,f58,f59⟩;obtain⟨f0,f2,f3,f4,f5,f6⟩:=HM.f;obtain⟨g1,g2,g5,g7,DU,JI⟩:=HM.h;have g0:=HM.h0;unfold Z0 at g5;simp only at g5 DU;obtain⟨Mw,ht2⟩:=HM.len;simp only at Mw;have EZ:=HM.st;have e6:=EZ.vow;have e7:=rf vi s2.threads;rw[ht2]at e7;have kl:k<s2.threads.length:=by omega
      have e8: ∀h',(iv vi s2.threads)[k]=_:=fun h'=>AG kl h';have e9:(s2.threads[k]).bm.length=8:=(HM.g.p.view k kl).bm;have e10:=EZ.vat k kl;rw[e9]at e8;have n36:=HM.n;have q0: ¬T=0:=by have:=EZ.lt;omega
      have q1: ¬vi k=0:=by have:=EZ.lv k kl;omega
      have q3: ¬T=vi k:=by have:=EZ.lv k kl;omega
      have q2: ¬0=vi k:=fun e=>q1 e.symm;have q4: ¬0=T:=fun e=>q0 e.symm;have q5: ¬vi k=T:=fun e=>q3 e.symm;have hN:=gy bK vn 3 HM.dk (by omega);have hC:=rP bK (cY bK vn) ps (dE HM.dk) hz;have hN4:=gy bK vn 4 HM.dk (by omega);have hN5:=gy bK (cY bK vn) 5 (dE HM.dk) (by omega);have hvv:=HM.g.tv _ (List.getElem_mem kl);have hvp:=HM.g.p.view k kl;obtain⟨x,hx⟩: ∃x,s2.threads[k]=x:=⟨_,rfl⟩;rw[hx]at e8 e9 e10 hvv hvp;have hxs:iv vi s2.threads=(iv vi s2.threads).set k (oL vi k x):=by rw[<-hx];exact Mg kl
      by_cases JB:j<8
      ·have Jl:(j:Int)<8:=by omega
       have eY:=cS j (by omega);by_cases JE:dL bK vn 3=0
       ·have Wb:=eq_true JE;have jI: ∀(y c:Canon),(x.bm.map Canon.e).set j (y.e.put 0 (.agg [.int .u8 c.tag,.int .u16 c.val,.int .i64 c.region,.int .i64 c.offset]))=(x.bm.set j c).map Canon.e:=fun y c=>by rw[List.map_set];rfl
        simp(maxSteps:=10000000) (maxDischargeDepth:=30) -implicitDefEqProofs[f0,f2,f3,f4,f5,f6,f8,f48,f49,f58,f59,g0,g1,g2,g5,DU,JI,e6,e7,e8,e9,e10,q0,q1,hN,hC,Wb,eX,vr,JB,Jl,eY];have hco:=Jt bK (cY bK vn) hz;refine⟨yJ bK (cY bK vn),_,HM.vw kl (x:=Gm x j (sN bK ps (cY bK vn))) (by simp[aO]) (by simp[aO,q2]) ?_ ?_ (fun i a b c=> ?_) (ZY hvp hvv j hco.1 hco.2) (I6 (dE HM.dk)) (by simp only;omega)⟩
        ·have w1:oL vi k (Gm x j (sN bK ps (cY bK vn)))=oL vi k x:=by simp[oL,Gm]
         rw[w1,<-hxs];simp[aO,q0,q3,e6]
        ·simp only[aO,if_true,jI];rfl
        ·have w1: ¬i=0:=by omega
         simp[aO,w1,c]
       ·simp(maxSteps:=10000000) (maxDischargeDepth:=30) -implicitDefEqProofs[f0,f2,f3,f4,f5,f6,f8,f48,f49,f58,f59,g0,g1,g2,g5,DU,JI,e6,e7,e8,e9,e10,q0,q1,hN,hC,JE,eX,vr,JB,Jl,eY];refine⟨cY bK vn,s2,HM.same (by simp[aO]) (by simp[aO]) (fun j a=> ?_) (dE HM.dk) (by simp only;omega)⟩;have w1: ¬j=0:=by omega
        simp[aO,w1]
      ·have Jl: ¬(j:Int)<8:=by omega
       by_cases JE:dL bK vn 4=0
       ·have Wb:=eq_true JE;simp(maxSteps:=10000000) (maxDischargeDepth:=30) -implicitDefEqProofs[f0,f2,f3,f4,f5,f6,f8,f48,f49,f58,f59,g0,g1,g2,g5,DU,JI,e6,e7,e8,e9,e10,q0,q1,hN4,hN5,Wb,eX,vr,JB,Jl,eY];have ba4:=dC bK (cY bK vn) (n:=5) (by omega);refine⟨cY bK (cY bK vn),_,HM.vw kl (x:=Js x (dL bK (cY bK vn) 5)) (by simp[aO]) (by simp[aO,q4]) ?_ ?_ (fun i a b c=> ?_) (ZZ hvp hvv (by omega)) (dE (dE HM.dk)) (by simp only;omega)⟩
        ·simp[aO,oL,Js,e9]
        ·simp[aO,q1,q5,e10,Js]
        ·have w1: ¬i=0:=by omega
         simp[aO,w1,b]
       ·simp(maxSteps:=10000000) (maxDischargeDepth:=30) -implicitDefEqProofs[f0,f2,f3,f4,f5,f6,f8,f48,f49,f58,f59,g0,g1,g2,g5,DU,JI,e6,e7,e8,e9,e10,q0,q1,hN4,hN5,JE,eX,vr,JB,Jl,eY];refine⟨cY bK vn,s2,HM.same (by simp[aO]) (by simp[aO]) (fun j a=> ?_) (dE HM.dk) (by simp only;omega)⟩;have w1: ¬j=0:=by omega
        simp[aO,w1]
     ·simp(maxSteps:=10000000) (maxDischargeDepth:=30) -implicitDefEqProofs[f48,f49];refine⟨vn,s2,HM.same (by simp[aO]) (by simp[aO,g0]) (fun j a=>by simp[aO]) HM.dk (by simp only;omega)⟩
    ·have bI: ¬(k:Int)<4:=by omega
     have e1:=EZ.row;have e3:=lk ri s2.regions;have r36:36<=R/\36<=T/\ ¬R=T:=by have:=EZ.lt;omega
     obtain⟨r0,r1,r2,r5,r10,r19,r7⟩: ¬R=0/\ ¬R=1/\ ¬R=2/\ ¬R=5/\ ¬R=10/\ ¬R=19/\ ¬R=7:=by omega
     obtain⟨r0',r1',r2',r5',aoy,aoz,r7'⟩: ¬0=R/\ ¬1=R/\ ¬2=R/\ ¬5=R/\ ¬10=R/\ ¬19=R/\ ¬7=R:=by omega
     obtain⟨t0,t1,t2,t5,t10,t19,t7⟩: ¬T=0/\ ¬T=1/\ ¬T=2/\ ¬T=5/\ ¬T=10/\ ¬T=19/\ ¬T=7:=by omega
     obtain⟨QZ,yh,t2',t5',ao0,ao1,t7'⟩: ¬0=T/\ ¬1=T/\ ¬2=T/\ ¬5=T/\ ¬10=T/\ ¬19=T/\ ¬7=T:=by omega
     have Fk: ∀hx,Far 36 S.h hx->_:=fun hx hf=>EZ.vf (hx:=hx) hf;have hva: ∀hx,Far 36 S.h hx->_:=fun hx hf=>EZ.Qt (hx:=hx) ht2 hf;have hI:=VE pc ps pd mb mk s2.regions s2.threads HG.prog HG.lay HM.g.p;have hMI:=Zw HG.prog HG.lay HG.key HM.g;by_cases hB:agi ⟨pc,ps,pd⟩ ⟨s2.regions,s2.threads⟩=true
     ·have eI:AZ ⟨pc,ps,pd⟩ ⟨mb,mk⟩ ⟨s2.regions,s2.threads⟩=(DL ⟨pc,ps,pd⟩ ⟨mb,mk⟩ ⟨s2.regions,s2.threads⟩,true):=if_pos hB;rw[eI]at hI;simp only at hI;obtain⟨x,hx⟩: ∃x,DL ⟨pc,ps,pd⟩ ⟨mb,mk⟩ ⟨s2.regions,s2.threads⟩=x:=⟨_,rfl⟩;have ao2:cR ⟨pc,ps,pd⟩ d x:=by rw[<-hx];exact hMI
      rw[hx]at hI;have ug:x.threads.length=4:=ao2.len;obtain⟨⟨xb,xk⟩,⟨xc,xl⟩,xt⟩:=x;simp only at hI ug;have xkf: ∀(f:Thread->V),List.take 4 (xt.map f)=xt.map f:=fun f=>bn (by simp;omega);have xko: ∀(f:Thread->Option V),List.take 4 (xt.map f)=xt.map f:=fun f=>bn (by simp;omega);simp(maxSteps:=10000000) (maxDischargeDepth:=30) -implicitDefEqProofs[f0,f2,f3,f4,f5,f6,f48,f49,g0,g1,g2,g5,g7,DU,JI,e1,e3,e6,e7,q0,eX,bI,r0,r1,r2,r5,r10,r19,r7,r0',r1',r2',r5',aoy,aoz,r7',t0,t1,t2,t5,t10,t19,t7,QZ,yh,t2',t5',ao0,ao1,t7',oP,uX,PL,nV,jy,Fk,hva,Nx,Ju,hI,ug,xkf,xko];exact⟨vn,⟨pc,ps,pd⟩,d,1113,⟨⟨xb,xk⟩,⟨xc,xl⟩,xt⟩,rfl,by simp[aO],by simp[aO],by omega,HM.dk,ao2,JD⟩
     ·have eI:AZ ⟨pc,ps,pd⟩ ⟨mb,mk⟩ ⟨s2.regions,s2.threads⟩=(fG,false):=if_neg hB;rw[eI]at hI;simp(maxSteps:=10000000) (maxDischargeDepth:=30) -implicitDefEqProofs[f0,f2,f3,f4,f5,f6,f48,f49,g0,g1,g2,g5,g7,DU,JI,e1,e3,e6,e7,q0,eX,bI,r0,r1,r2,r5,r10,r19,r7,r0',r1',r2',r5',aoy,aoz,r7',t0,t1,t2,t5,t10,t19,t7,QZ,yh,t2',t5',ao0,ao1,t7',oP,uX,PL,nV,jy,Fk,hva,Nx,Ju,hI];exact⟨vn,⟨pc,ps,pd⟩,d,1000,⟨⟨mb,mk⟩,⟨mc,ml⟩,mt⟩,rfl,by simp[aO],by simp[aO],by omega,HM.dk,HG,JD⟩
   ·simp(maxSteps:=10000000) (maxDischargeDepth:=30) -implicitDefEqProofs;refine⟨vn,s2,HM.same (by simp[aO]) (by simp[aO,g0]) (fun j a=>by simp[aO]) HM.dk (by simp only;omega)⟩
 ·simp(maxSteps:=10000000) (maxDischargeDepth:=30) -implicitDefEqProofs;refine⟨cY bK kt,s,⟨by simp[aO],by simp[aO],⟨by simp[aO],by simp[aO],by simp[aO];rfl,by simp[aO],by simp[aO],by simp[aO]⟩,?_,SG,Qv,by simp only;omega⟩⟩;refine HP.mono (by simp only;omega) fun j a b=> ?_;have w1: ¬j<21:=by omega
  have w2: ¬j=19:=by omega
  simp[aO,w1,w2]
theorem Nw.io{dl:List Int}{v:V}{h:aY}{k:Nat}(H:Nw dl v h k): ∃(kt:Int) (p:Prog) (d:Int) (m:bf),
  xJ X [(2,4,52)] v h=some (2,.agg [.sl false (dl.map (V.int .i64)),.int .i64 kt],Z1 p m)/\rZ v= .de []/\dr dl kt/\cR p d m/\d<=2000:=by
 obtain⟨kt,p,d,T,m,rfl,h0,hT,T0,sj,HG,hd⟩:=H;refine⟨kt,p,d,m,?_,rfl,sj,HG,hd⟩;have oP:m.threads.length=4:=HG.len;have uX: ∀(f:Thread->V),List.take 4 (m.threads.map f)=m.threads.map f:=fun f=>bn (by simp;omega);have PL: ∀(f:Thread->Option V),List.take 4 (m.threads.map f)=m.threads.map f:=fun f=>bn (by simp;omega);unfold Z1;simp(maxSteps:=10000000) -implicitDefEqProofs[h0,hT,oP,T0,uX,jy]
theorem Qw{dl:List Int}{t:Int}(hd:dr dl t): ∃(kt:Int) (p:Prog) (d:Int) (m:bf),
  lZ X [(2,4,52)] 44 2 (t,dl) []=some (2,.agg [.sl false (dl.map (V.int .i64)),.int .i64 kt],Z1 p m,.de [])/\dr dl kt/\cR p d m/\d<=2000:=by
 obtain⟨v,h,k,e,HE⟩:=Qu dl t hd;obtain⟨kt,p,d,m,rC,hv,h1,h2,h3⟩:=HE.io;refine⟨kt,p,d,m,?_,h1,h2,h3⟩;unfold lZ;rw[show 1+(X.dM 44).length=1 from rfl,e];simp only[rC,hv]
end Go.Proofs.YtejohpnpnaljdaaGreat
