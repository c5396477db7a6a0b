/- Part of a proof: F16. -/
import Derived.Test.YtejohpnpnaljdaaGreatM40
set_option linter.all false
set_option maxRecDepth 20000
set_option maxHeartbeats 20000000
namespace Go.Proofs.YtejohpnpnaljdaaGreat
open Go Go.Abs Go.Abs.lu
def iO(p:Prog)(d:Int)(lay:aN)(h:aY)(k b:Nat)(vB:V)(C L T:Nat)(ids aZ:Nat->Nat)(v:V)(h':aY)(k':Nat):Prop:=
 ∃(bb:Bool) (ft jq:Nat->Nat) (m':bf),v= .bool bb/\dc h' k' b vB C L T ft jq m'/\cR p d m'/\m'.layout=lay/\k<=k'/\(∀j,j<4->(ft j=ids j\/k<=ft j)/\(jq j=aZ j\/k<=jq j))/\
  ∀i,i<k->i≠C->i≠L->i≠T->(∀j,j<4->i≠ids j/\i≠aZ j)->h' i=h i
theorem iO.same{p:Prog}{d:Int}{h h':aY}{k b C L T n:Nat}{vB:V}{ids aZ:Nat->Nat}{m:bf}{bb:Bool}(H:dc h k b vB C L T ids aZ m)(HG:cR p d m)(hB:Below k h h'):iO p d m.layout h k b vB C L T ids aZ (.bool bb) h' (k+n):=
 ⟨bb,ids,aZ,m,rfl,H.mono (by omega) hB,HG,rfl,by omega,fun _ _=>⟨.inl rfl,.inl rfl⟩,fun i hi _ _ _ _=>hB i hi⟩
theorem iO.put {p:Prog} {d:Int} {h h1:aY} {k b C L T n t:Nat} {vB:V} {ids aZ:Nat->Nat} {m:bf} {bb:Bool} {x:Thread} {E R:List V} (H:dc h k b vB C L T ids aZ m) (HG:cR p d m) (hB:Below k h h1) (ht:t<4) (hx:dF d x)
  (hE:E=(bZ aZ m.threads).set t (db aZ t x)) (hR:R=x.bm.map Cell.e):iO p d m.layout h k b vB C L T ids aZ (.bool bb) (aO (aO h1 (aZ t) (some ⟨2,R,false⟩)) T (some ⟨8,E,true⟩)) (k+n):=by
 have lp:t<m.threads.length:=by rw[H.len];exact ht
 have hs:=(H.qB t ht).2.2.2.1;refine⟨bb,ids,aZ,kq m m.memory t x,rfl,H.put (by omega) ht (by rw[hE,gq lp];simp[aO]) (by rw[hR];simp[aO,hs]) (fun i hi h1 h2=>by simp[aO,h1,h2];exact hB i hi),vO HG (Int.le_refl _) HG.mem HG.coh hx,rfl,by omega,fun _ _=>⟨.inl rfl,.inl rfl⟩,fun i hi _ _ hT hj=> ?_⟩;simp[aO,hT,(hj t ht).2];exact hB i hi
theorem iO.avt {p:Prog} {d:Int} {h h1:aY} {k b C L T n t:Nat} {vB:V} {ids aZ:Nat->Nat} {m:bf} {bb:Bool} {x:Thread} {E R:List V} {o:Option Ob} (H:dc h k b vB C L T ids aZ m) (HG:cR p d m) (hB:Below k h h1) (ht:t<4) (hx:dF d x)
  (hE:E=(bZ aZ m.threads).set t (db aZ t x)) (hR:R=x.bm.map Cell.e):iO p d m.layout h k b vB C L T ids aZ (.bool bb) (aO (aO (aO h1 T o) (aZ t) (some ⟨2,R,false⟩)) T (some ⟨8,E,true⟩)) (k+n):=by
 have hs:=(H.qB t ht).2.2.2.1;have e:aO (aO (aO h1 T o) (aZ t) (some ⟨2,R,false⟩)) T (some ⟨8,E,true⟩)=aO (aO h1 (aZ t) (some ⟨2,R,false⟩)) T (some ⟨8,E,true⟩):=by
  funext i;simp only[aO];by_cases h1:i=T
  ·simp[h1]
  ·by_cases h2:i=aZ t<;>simp[h1,h2]
 rw[e];exact iO.put H HG hB ht hx hE hR
theorem Ge{aZ jq:Nat->Nat}{ts:List Thread}{s n:Nat}{xs xn:Thread}(hs:s<ts.length)(hn:n<ts.length)(sZ: ¬s=n)(h: ∀j,¬j=s->jq j=aZ j):bZ jq ((ts.set s xs).set n xn)=((bZ aZ ts).set s (db jq s xs)).set n (db aZ n xn):=by
 apply List.ext_getElem?;intro j;simp only[bZ,List.getElem?_mapIdx,List.getElem?_set,List.length_mapIdx,List.length_set];by_cases JV:n=j
 ·subst JV;simp[hn,db,h n (fun e=>sZ e.symm)]
 ·by_cases Fq:s=j
  ·subst Fq;simp[hs,JV]
  ·simp only[JV,Fq,if_false];cases ts[j]? with
   |none=>rfl
   |some x=>simp[db,h j (fun e=>Fq e.symm)]
def CV(pc:Int)(c:Cell):Thread:=⟨1,c::List.replicate 7 ⟨0,0⟩,pc,0, -1, -1,0,0⟩
theorem ZJ{d:Int}(hd:0<=d){pc:Int}(hp:0<=pc/\pc<=255){c:Cell}(hc:hY c):dF d (CV pc c):=by
 refine⟨by simp[CV],by simp[CV],fun x hx=> ?_,hp,by simpa[CV] using hd,by simp[CV],by simp[CV],by simp[CV],by simp[CV]⟩;rcases List.mem_cons.1 hx with rfl|hx
 ·exact hc
 ·rw[(List.mem_replicate.1 hx).2];exact j6
theorem iO.No {p:Prog} {d:Int} {lay:aN} {h h1 h2:aY} {k k1 b C L T n:Nat} {vB:V} {ids aZ rB:Nat->Nat} {mi:bf} {bb:Bool} (HI:dc h1 k1 b vB C L T rB aZ mi) (GI:cR p d mi) (nb:mi.layout=lay) (hk:k<=k1) (gi: ∀j,j<4->rB j=ids j\/k<=rB j)
  (gf: ∀x,x<k->x≠C->x≠L->x≠T->(∀j,j<4->x≠ids j/\x≠aZ j)->h1 x=h x) (hB:Below k1 h1 h2):iO p d lay h k b vB C L T ids aZ (.bool bb) h2 (k1+n):=
 ⟨bb,rB,aZ,mi,rfl,HI.mono (by omega) hB,GI,nb,by omega,fun j hj=>⟨gi j hj,.inl rfl⟩,fun i hi a1 a2 a3 a4=>by rw[hB i (by omega),gf i hi a1 a2 a3 a4]⟩
theorem iO.avu {p:Prog} {d:Int} {lay:aN} {h h1 h2:aY} {k k1 b C L T n t:Nat} {vB:V} {ids aZ rB:Nat->Nat} {mi:bf} {bb:Bool} {x:Thread} {E R:List V} (HI:dc h1 k1 b vB C L T rB aZ mi) (GI:cR p d mi) (nb:mi.layout=lay) (hk:k<=k1) (gi: ∀j,j<4->rB j=ids j\/k<=rB j)
  (gf: ∀x,x<k->x≠C->x≠L->x≠T->(∀j,j<4->x≠ids j/\x≠aZ j)->h1 x=h x) (hB:Below k1 h1 h2) (ht:t<4) (hx:dF d x) (hE:E=(bZ aZ mi.threads).set t (db aZ t x)) (hR:R=x.bm.map Cell.e):
  iO p d lay h k b vB C L T ids aZ (.bool bb) (aO (aO h2 (aZ t) (some ⟨2,R,false⟩)) T (some ⟨8,E,true⟩)) (k1+n):=by
 have lp:t<mi.threads.length:=by rw[HI.len];exact ht
 have hs:=(HI.qB t ht).2.2.2.1;refine⟨bb,rB,aZ,kq mi mi.memory t x,rfl,HI.put (by omega) ht (by rw[hE,gq lp];simp[aO]) (by rw[hR];simp[aO,hs]) (fun i hi h1 h2=>by simp[aO,h1,h2];exact hB i hi),vO GI (Int.le_refl _) GI.mem GI.coh hx,nb,by omega,fun j hj=>⟨gi j hj,.inl rfl⟩,fun i hi a1 a2 a3 a4=> ?_⟩;simp[aO,a3,(a4 t ht).2];rw[hB i (by omega),gf i hi a1 a2 a3 a4]
def V0(p:Prog)(d:Int)(lay:aN)(h:aY)(k b:Nat)(vB:V)(C L T:Nat)(ids aZ:Nat->Nat)(n:Nat)(ts:List Thread)(vP vR vX:V)(ct cv:Int)(data:List Canon)(rj:Nat)(o:Int)(i:Nat)(S:St):Prop:=
 ∃mi rB,(S.f 1= .ptr b 0 0/\S.f 4= .ptr k 0 0/\S.f 6= .ptr (k+1) 0 0/\S.f 7= .ptr (k+2) 0 0/\S.f 9= .ptr T n 0/\S.f 10= .ptr (k+24) 0 0/\S.f 12= .ptr (k+50) 0 0/\S.f 80= .sl false (data.map Canon.e)/\S.f 81= .int .i64 data.length/\S.f 82= .int .i64 (i:Int))/\
  (S.h k=some ⟨3,[vP],true⟩/\S.h (k+1)=some ⟨8,[vR],true⟩/\S.h (k+2)=some ⟨7,[vX],true⟩/\S.h (k+24)=some ⟨2,[.agg [.int .u8 ct,.int .u16 cv]],true⟩/\S.h (k+50)=some ⟨2,[.agg [.int .i64 (rj:Int),.int .i64 (o+i)]],true⟩)/\
  dc S.h S.n b vB C L T rB aZ mi/\cR p d mi/\mi.layout=lay/\mi.threads=ts/\k+72<=S.n/\(∀j,j<4->rB j=ids j\/k+72<=rB j)/\ ∀x,x<k->x≠C->x≠L->x≠T->(∀j,j<4->x≠ids j/\x≠aZ j)->S.h x=h x
def AD(x:Thread)(c:Cell)(a:Int):Thread:=⟨1,x.bm.set 0 c,x.pc,x.count,a,x.saved,x.dd,x.code⟩
theorem V1{d:Int}{x:Thread}(h:dF d x){c:Cell}(hc:hY c){a:Int}(ha: -1<=a/\a<=255):dF d (AD x c a):=
 ⟨by simp[AD],by simp[AD,h.bm],h.cells.set hc 0,h.pc,h.count,ha,h.saved,h.dd,h.code⟩
theorem Gf(ids:Nat->Nat)(i:Nat)(x:Thread)(c:Cell)(a:Int)(h:x.bm.length=8):db ids i (AD x c a)= .agg [.int .i64 1,.bU (ids i) 0 8,.int .i64 x.pc,.int .i64 x.count,.int .i64 a,.int .i64 x.saved,.int .i64 x.dd,.int .u16 x.code]:=by
 simp[db,AD,h]
@[simp] theorem ZK(pc Bl arg_val:Int)(k:Nat): ∃h',cy X 224 [pc,.agg [.int .u8 Bl,.int .u16 arg_val]] m8 k=some (.agg [.int .i64 1,.bU (k+5) 0 8,.int .i64 pc,.int .i64 0,.int .i64 (-1),.int .i64 (-1),.int .i64 0,.int .u16 0],h',k+18)/\h' (k+5)=some ⟨2,((⟨Bl,arg_val⟩:Cell)::List.replicate 7 ⟨0,0⟩).map Cell.e,false⟩:=by
 obtain⟨v,h',n',e,e1,e2,e3⟩:=bu (X:=X) (g:=224) (args:=[.int .i64 pc,.agg [.int .u8 Bl,.int .u16 arg_val]]) (h:=m8) (k:=k) (K:=fun v h n=>v= .agg [.int .i64 1,.bU (k+5) 0 8,.int .i64 pc,.int .i64 0,.int .i64 (-1),.int .i64 (-1),.int .i64 0,.int .u16 0]/\n=k+18/\h (k+5)=some ⟨2,((⟨Bl,arg_val⟩:Cell)::List.replicate 7 ⟨0,0⟩).map Cell.e,false⟩) Tryz.func224 rfl rfl (by
  simp-implicitDefEqProofs[Nat.add_assoc,Cell.bP])
 subst e1;subst e2;exact⟨h',e,e3⟩
@[simp] theorem an8(ay:List Instr)(ah:List Int)(az:List (List Int))(m:V)(fQ gh eL dD kZ cM:Int)(bA cE:List Canon)(cJ cL bW bX:Int)(dx:List Canon)(eg:Int)(ma:Bool)(h:aY)(k b:Nat)(vB:V)(C L T:Nat)(ids aZ:Nat->Nat)(mm:bf)(d:Int)(n:Nat)(H:dc h k b vB C L T ids aZ mm)(HG:cR (Prog.mk ay ah az) d mm)(hd:d<=1099511627776)(hBB: ∃B,vB= .bU B 0 mm.layout.aD.length)(hn:fQ=n/\n<4)(Xv:(cg mm n).state=2)(oW:0<=cM/\cM<=15)(fJ:bA.length=(dK cM).length)(DG:fe bA)(Rg:xZ (sX.mk (Canon.mk cJ cL bW bX) dx eg ma)=true)(hx:ui (sX.mk (Canon.mk cJ cL bW bX) dx eg ma)): ∃v h' k',cy X 212 [(ay,ah,az),.ptr b 0 0,.agg [fQ,gh,eL,dD,kZ,cM,bA,cE],.agg [.int .u8 cJ,.int .u16 cL,bW,bX,dx,eg,ma]] h k=some (v,h',k')/\iO (Prog.mk ay ah az) d mm.layout h k b vB C L T ids aZ v h' k':=by
 obtain⟨rfl,n4⟩:=hn;have hl:=H.len;have lp:n<mm.threads.length:=by omega
 have EW:(n:Int)<4:=by omega
 have qz:=HG.nv n lp;have hR:=H.Ez n lp;have hg:=eF (ids:=aZ) lp;have hT:=H.nv;have iU:=ed aZ mm.threads;rw[hl]at iU;have hb:=H.sE;unfold jo at hb;rw[hl]at hb;have ug:cg mm n=mm.threads[n]:=ie lp;obtain⟨x0,nq⟩: ∃x,mm.threads[n]=x:=⟨_,rfl⟩;rw[ug,nq]at Xv;rw[nq]at qz hR;simp only[nq]at hg;have h8:=qz.bm;obtain⟨s1,s3,s4,s5,s6⟩:=H.qB n n4;have Da: ¬T=aZ n:=fun e=>s5 e.symm;have s1': ¬b=aZ n:=fun e=>s1 e.symm;obtain⟨u1,u2,u3,u4⟩:=H.ym;have u1': ¬b=T:=fun e=>u1 e.symm;have eX:=H.mem.lt;have q1: ∀j,¬b=k+j:=fun j=>by omega
 have q2: ∀j,¬T=k+j:=fun j=>by omega
 have q3: ∀j,¬aZ n=k+j:=fun j=>by omega
 have q4: ∀j,¬k+j=b:=fun j=>by omega
 have q5: ∀j,¬k+j=T:=fun j=>by omega
 have q6: ∀j,¬k+j=aZ n:=fun j=>by omega
 have l1: ∀j,T<k+j:=fun j=>by omega
 have l2: ∀j,aZ n<k+j:=fun j=>by omega
 have l3: ∀j,b<k+j:=fun j=>by omega
 have pq: ¬b=k:=by omega
 have mO: ¬T=k:=by omega
 have oQ: ¬aZ n=k:=by omega
 have hL:=HG.lay;have hlen:=hL.len;simp only at hL hlen;obtain⟨B,Gx,Bi,⟨nB1,nB2,amo,nB3,nBk⟩,nBi,nBr⟩: ∃B,vB= .bU B 0 mm.layout.aD.length/\h B=some ⟨1,mm.layout.aD.map (V.int .i64),false⟩/\(B≠b/\B≠C/\B≠L/\B≠T/\B<k)/\(∀j,j<4->ids j≠B)/\ ∀i,i<4->aZ i≠B:=by
  rcases H.aD with e|e
  ·obtain⟨_,e2⟩:=hBB;rw[e]at e2;cases e2
  ·exact e
 subst Gx;have nB: ∀j,¬B=k+j:=fun j=>by omega
 have L9: ¬B=k:=by omega
 have zV:dx.length<=1000000000:=by have:=hx.len;simp only at this;omega
 have hc:=sL (aD:=mm.layout.aD) (key:=mm.layout.key) (ae:=ah) hx.value;obtain⟨⟨ct,cv⟩,w,sQ⟩: ∃c w,raw mm.layout.aD mm.layout.key ah ⟨cJ,cL,bW,bX⟩=(c,w):=⟨_,_,rfl⟩;simp only[sQ]at hc;by_cases hw:w=0
 case neg=>
  refine bu (X:=X) Tryz.func212 rfl rfl ?_;simp-implicitDefEqProofs[Nat.add_assoc,hb,hT,EW,hL,Bi,nB,L9,q1,q2,pq,mO,sQ,hw];exact iO.same H HG (by simp only[bN,bS,cp])
 subst hw;have b16:ph cM=2->cM=2\/cM=14:=fun h=>by
  rcases pj oW with rfl|rfl|rfl|rfl|rfl|rfl|rfl|rfl|rfl|rfl|rfl|rfl|rfl|rfl|rfl|rfl<;>revert h<;>decide
 by_cases ZL:ph cM=2/\0<(dx.length:Int)
 case pos=>
  have avv:=b16 ZL.1;have avw: ¬cM=12:=by omega
  have avx: ¬cM=10:=by omega
  have zG:=ZL.1;have a9j:=ZL.2;have ag0:0<dx.length:=by omega
  obtain⟨a0,⟨a1t,a1v,a1r,Ma⟩,a2,rfl⟩:=Pl (show bA.length=3 by rcases avv with rfl|rfl<;>exact fJ);by_cases Dt:proper ah ⟨a1t,a1v,a1r,Ma⟩=true
  case neg=>
   refine bu (X:=X) Tryz.func212 rfl rfl ?_;simp-implicitDefEqProofs[Nat.add_assoc,hb,hT,EW,hL,Bi,nB,L9,q1,q2,pq,mO,sQ,zG,ag0,Dt,Canon.bP];exact iO.same H HG (by simp only[bN,bS,cp])
  by_cases A9:a1t=1
  case neg=>
   refine bu (X:=X) Tryz.func212 rfl rfl ?_;simp-implicitDefEqProofs[Nat.add_assoc,hb,hT,EW,hL,Bi,nB,L9,q1,q2,pq,mO,sQ,zG,ag0,Dt,A9,Canon.bP];exact iO.same H HG (by simp only[bN,bS,cp])
  have avz:=eq_true A9;have av0:inside ah a1r Ma=true:=by
   have:=Dt;unfold proper at this;simp[A9]at this;exact this.2
  obtain⟨rj,hrj,rfl,o1,o2⟩:=kQ.1 av0;have qE:=hL.sz.elem rj hrj;have Ze:rj<mm.layout.aD.length:=by omega
  have Z9:=hL.base rj Ze hrj;have an9:=eq_true hlen;have hxd:=hx.len;simp only at hxd;have JC: ∀i (h:i<mm.layout.aD.length), -1000<=mm.layout.aD[i]/\mm.layout.aD[i]<=1000:=fun i hi=>by have:=hL.base i hi (by omega);have:=hL.sz.elem i (by omega);omega
  have hzz: ∀i (h:i<ah.length),ah[i]<=1000:=fun i hi=>by have:=hL.sz.elem i hi;omega
  refine bu (X:=X) Tryz.func212 rfl rfl ?_;simp-implicitDefEqProofs[Nat.add_assoc,hb,hT,EW,hL,Bi,nB,L9,q1,q2,pq,mO,sQ,zG,ag0,Dt,avz,Canon.bP];refine cP (V0 (Prog.mk ay ah az) d mm.layout h k b (.bU B 0 mm.layout.aD.length) C L T ids aZ n mm.threads (.agg [ay,ah,az]) (.agg [(n:Int),.int .i64 gh,.int .i64 eL,.int .i64 dD,.int .i64 kZ,.int .i64 cM,.sl false ([a0,(⟨a1t,a1v,rj,Ma⟩:Canon),a2].map Canon.e),cE]) (.agg [.int .u8 cJ,.int .u16 cL,.int .i64 bW,.int .i64 bX,dx,.int .i64 eg,.bool ma]) ct cv dx rj Ma) dx.length ?_ 0 (by simp) ?_
  ·rintro i S hi ⟨mi,rB,⟨f1,f4,f6,f7,f9,f10,f12,f80,f81,f82⟩,⟨z0,z1,z2,z3,z4⟩,HI,GI,lay,qO,hK,gi0,gf⟩;have gi: ∀j,j<4->rB j=ids j\/k<=rB j:=fun j hj=>by rcases gi0 j hj with e|e;exact .inl e;exact .inr (by omega)
   have bx:=HI.sE;unfold jo at bx;rw[lay,qO,hl]at bx;have tT:=HI.nv;rw[qO]at tT;have tR:=HI.Ez n (by rw[qO];exact lp);simp only[qO,nq]at tR;have tB:S.h B=some ⟨1,mm.layout.aD.map (V.int .i64),false⟩:=by
    rcases HI.aD with e|⟨B',e,g,_⟩
    ·cases e
    ·simp only[V.bU.injEq]at e;obtain⟨rfl,_,_⟩:=e;rw[g,lay]
   have Xu:=HI.mem.lt;have m1: ∀j,¬b=S.n+j:=fun j=>by omega
   have m2: ∀j,¬T=S.n+j:=fun j=>by omega
   have m3: ∀j,¬aZ n=S.n+j:=fun j=>by omega
   have m4: ∀j,¬B=S.n+j:=fun j=>by omega
   have m5: ∀a j,a<72-> ¬k+a=S.n+j:=fun a j ha=>by omega
   have m6: ∀j,¬k=S.n+j:=fun j=>by omega
   have m1z: ¬b=S.n:=by omega
   have m2z: ¬T=S.n:=by omega
   have m3z: ¬aZ n=S.n:=by omega
   have m4z: ¬B=S.n:=by omega
   have m5z: ∀a,a<72-> ¬k+a=S.n:=fun a ha=>by omega
   have m6z: ¬k=S.n:=by omega
   by_cases eX:i<dx.length
   case neg=>
    obtain rfl:i=dx.length:=by omega
    simp-implicitDefEqProofs[Nat.add_assoc,hg,iU,h8,n4,Da,f6,f9,f10,f81,f82,z1,z3,tT,tR,avw,avx];refine iO.avu (x:=o5 x0 ⟨ct,cv⟩) HI GI lay (by omega) gi gf ?_ n4 (CU qz hc) ?_ ?_
    ·simp only[bN]
    ·rw[qO,tJ aZ n x0 _ h8]
    ·simp[o5,Cell.bP]
   have bI:(i:Int)<dx.length:=by omega
   obtain⟨⟨d1,d2,d3,d4⟩,tf⟩: ∃c,dx[i]=c:=⟨_,rfl⟩;have WU:zF ⟨d1,d2,d3,d4⟩:=tf▸hx.data _ (List.getElem_mem eX);have Nf:=sL (aD:=mm.layout.aD) (key:=mm.layout.key) (ae:=ah) WU;obtain⟨⟨JF,JG⟩,w1,vh⟩: ∃c w,raw mm.layout.aD mm.layout.key ah ⟨d1,d2,d3,d4⟩=(c,w):=⟨_,_,rfl⟩;simp only[vh]at Nf;by_cases tQ:w1=0
   case neg=>
    simp-implicitDefEqProofs[Nat.add_assoc,hL,m1,m4,m6,f1,f4,f80,f81,f82,z0,bx,tB,eX,bI,tf,vh,tQ];exact iO.No HI GI lay (by omega) gi gf (by simp only[bN,bS])
   subst tQ;cases uv:inside ah (rj:Int) (Ma+i) with
   |false=>
    simp-implicitDefEqProofs[Nat.add_assoc,hL,m1,m4,m5,m6,f1,f4,f12,f80,f81,f82,z0,z4,bx,tB,eX,bI,tf,vh,uv];exact iO.No HI GI lay (by omega) gi gf (by simp only[bN,bS])
   |true=>
    obtain⟨rj',a9m,e1,o3,o4⟩:=kQ.1 uv;obtain rfl:rj=rj':=by omega
    have Zg:IntKind.i64.wrap (Ma+i+1)=Ma+i+1:=wrap_i64 (by omega);have eY:=cS i (by omega);obtain⟨av,aoa⟩: ∃av:Nat,nth mm.layout.aD rj+(Ma+i)=av:=⟨(nth mm.layout.aD rj+(Ma+i)).toNat,by rw[cZ Ze];omega⟩;have aob:av<512:=by rw[cZ Ze]at aoa;omega
    have lf: ∀(h1:aY) (j:Nat),Below S.n S.h h1->cy X 116 [.ptr b 0 2,.int .i64 (av:Int),.agg [.int .u8 JF,.int .u16 JG]] h1 (S.n+j)=some (.de [],cH 116 [.ptr b 0 2,.int .i64 (av:Int),.agg [.int .u8 JF,.int .u16 JG]] h1 (S.n+j),cK 116 [.ptr b 0 2,.int .i64 (av:Int),.agg [.int .u8 JF,.int .u16 JG]] h1 (S.n+j))/\
      ∃fg,dc (cH 116 [.ptr b 0 2,.int .i64 (av:Int),.agg [.int .u8 JF,.int .u16 JG]] h1 (S.n+j)) (cK 116 [.ptr b 0 2,.int .i64 (av:Int),.agg [.int .u8 JF,.int .u16 JG]] h1 (S.n+j)) b (.bU B 0 mm.layout.aD.length) C L T fg aZ ⟨mi.layout,mz mi.memory av ⟨JF,JG⟩,mi.threads⟩/\S.n+j<=cK 116 [.ptr b 0 2,.int .i64 (av:Int),.agg [.int .u8 JF,.int .u16 JG]] h1 (S.n+j)/\(∀j,j<4->fg j=rB j\/S.n<=fg j)/\
       ∀x,x<S.n+j->x≠C->x≠L->(∀j,j<4->x≠rB j)->cH 116 [.ptr b 0 2,.int .i64 (av:Int),.agg [.int .u8 JF,.int .u16 JG]] h1 (S.n+j) x=h1 x:=fun h1 j gG=>by
     have HH:dc h1 (S.n+j) b (.bU B 0 mm.layout.aD.length) C L T rB aZ mi:=HI.mono (by omega) gG;obtain⟨h',k',ft,e,G,g1,g2,g3⟩:=M4 .bad 0 JF JG h1 (S.n+j) b C L rB _ _ _ mi.memory av ⟨JF,JG⟩ HH.mem aob Nf.l4;have e:cy X 116 [.ptr b 0 2,.int .i64 (av:Int),.agg [.int .u8 JF,.int .u16 JG]] h1 (S.n+j)=some (.de [],h',k'):=e;obtain⟨e1,e2⟩:=tS e;rw[e1,e2];exact⟨e,ft,HH.memory g1 G g2 g3,g1,fun j hj=>by rcases g2 j hj with e|e;exact .inl e;exact .inr (by omega),g3⟩
    have cl:=fun h1 j gG=>(lf h1 j gG).1;have nI: ∀a,a<72-> ∀j,j<4-> ¬k+a=rB j:=fun a ha j hj=>by
     rcases gi0 j hj with e|e
     ·have:=H.mem.lt.2.2.2 j hj;omega
     ·omega
    have l50: ∀(h1:aY) (j:Nat),Below S.n S.h h1->cH 116 [.ptr b 0 2,.int .i64 (av:Int),.agg [.int .u8 JF,.int .u16 JG]] h1 (S.n+j) (k+50)=some ⟨2,[.agg [(rj:Int),.int .i64 (Ma+i)]],true⟩:=fun h1 j gG=>by
     obtain⟨_,_,_,_,_,g⟩:=lf h1 j gG;rw[g (k+50) (by omega) (by omega) (by omega) (nI 50 (by omega)),gG _ (by omega),z4]
    simp-implicitDefEqProofs[Nat.add_assoc,hL,an9,JC,hzz,m1,m4,m5,m6,bN,bS,f1,f4,f12,f80,f81,f82,z0,z4,bx,tB,eX,bI,tf,vh,uv,aoa,Zg,eY,cl,l50];have fin: ∀(F:Nat->V) (Hc:aY),Below S.n S.h Hc->(F 1= .ptr b 0 0/\F 4= .ptr k 0 0/\F 6= .ptr (k+1) 0 0/\F 7= .ptr (k+2) 0 0/\F 9= .ptr T n 0/\F 10= .ptr (k+24) 0 0/\F 12= .ptr (k+50) 0 0/\F 80= .sl false (dx.map Canon.e)/\F 81= .int .i64 dx.length/\F 82= .int .i64 ((i:Int)+1))->
      V0 (Prog.mk ay ah az) d mm.layout h k b (.bU B 0 mm.layout.aD.length) C L T ids aZ n mm.threads (.agg [ay,ah,az]) (.agg [(n:Int),.int .i64 gh,.int .i64 eL,.int .i64 dD,.int .i64 kZ,.int .i64 cM,.sl false ([a0,(⟨a1t,a1v,rj,Ma⟩:Canon),a2].map Canon.e),cE]) (.agg [.int .u8 cJ,.int .u16 cL,.int .i64 bW,.int .i64 bX,dx,.int .i64 eg,.bool ma]) ct cv dx rj Ma (i+1) ⟨F,aO (cH 116 [.ptr b 0 2,.int .i64 (av:Int),.agg [.int .u8 JF,.int .u16 JG]] Hc (S.n+47)) (k+50) (some ⟨2,[.agg [(rj:Int),.int .i64 (Ma+i+1)]],true⟩),cK 116 [.ptr b 0 2,.int .i64 (av:Int),.agg [.int .u8 JF,.int .u16 JG]] Hc (S.n+47)+7⟩:=fun F Hc hB fF=>by
     obtain⟨_,fg,G,g1,g2,g3⟩:=lf Hc 47 hB;have fr: ∀x,x<S.n->x≠C->x≠L->(∀j,j<4->x≠rB j)->cH 116 [.ptr b 0 2,.int .i64 (av:Int),.agg [.int .u8 JF,.int .u16 JG]] Hc (S.n+47) x=S.h x:=fun x U6 ZA hx3 hx4=>by rw[g3 x (by omega) ZA hx3 hx4,hB x U6]
     have nC:=H.mem.lt;have hi1: ∀j,j<4->fg j=ids j\/k+72<=fg j:=fun j hj=>by
      rcases g2 j hj with e|e
      ·rw[e];exact gi0 j hj
      ·right;omega
     refine⟨⟨mi.layout,mz mi.memory av ⟨JF,JG⟩,mi.threads⟩,fg,fF,⟨?_,?_,?_,?_,?_⟩,?_,⟨GI.prog,GI.lay,GI.key,GI.mem.store aob Nf,GI.len,GI.nv,fun g=>aad GI.mem.mem (GI.coh g) aob (by unfold aaw;rw[<-aoa,<-lay,cZ (by rw[lay];exact Ze)];rw[abt GI.lay (by rw[lay];exact Ze) a9m o3 o4];simp) _⟩,lay,qO,by simp only;omega,hi1,?_⟩
     ·have:=fr k (by omega) (by omega) (by omega) (fun j hj=>by have:=nI 0 (by omega) j hj;simpa using this);simp[aO,this,z0]
     ·have:=fr (k+1) (by omega) (by omega) (by omega) (nI 1 (by omega));simp[aO,this,z1]
     ·have:=fr (k+2) (by omega) (by omega) (by omega) (nI 2 (by omega));simp[aO,this,z2]
     ·have:=fr (k+24) (by omega) (by omega) (by omega) (nI 24 (by omega));simp[aO,this,z3]
     ·have e:Ma+(i:Int)+1=Ma+((i+1:Nat):Int):=by omega
      simp[aO,e]
     ·refine G.other (a:=k+50) (Nat.le_add_right _ _) ⟨by omega,by omega,by omega,by omega⟩ (fun j hj=>⟨?_,?_⟩) (fun B' s n e=> ?_) (fun x _ hx=>by simp[aO,hx])
      ·rcases hi1 j hj with e|e
       ·have:=nC.2.2.2 j hj;omega
       ·omega
      ·have:=(H.qB j hj).2.2.2.2;omega
      ·cases e;omega
     ·intro x U6 ZA hx3 hx4 hx5;have hx6: ¬x=k+50:=by omega
      simp only[aO,hx6,if_false];rw[fr x (by omega) ZA hx3 (fun j hj=> ?_),gf x U6 ZA hx3 hx4 hx5];rcases gi0 j hj with e|e
      ·rw[e];exact(hx5 j hj).1
      ·omega
    refine fin _ _ ?_ ?_
    ·simp only[bN,bS]
    ·simp[aO,f1,f4,f6,f7,f9,f10,f12,f80,f81]
  ·refine⟨mm,ids,?_,?_,?_,HG,rfl,rfl,?_,fun _ _=> .inl rfl,?_⟩
   ·simp[aO]
   ·simp[aO,Canon.bP]
   ·refine H.mono (by simp only;omega) ?_;show Below k h _;simp only[bN,bS,cp]
   ·simp only;omega
   ·intro x hx _ _ _ _;have e: ∀H:aY,Below k h H->H x=h x:=fun H hB=>hB x hx;refine e _ ?_;simp only[bN,bS,cp]
 have hT1: ∀(c:Cell) (a:Int),db aZ n (AD x0 c a)= .agg [.int .i64 1,.bU (aZ n) 0 8,.int .i64 x0.pc,.int .i64 x0.count,.int .i64 a,.int .i64 x0.saved,.int .i64 x0.dd,.int .u16 x0.code]:=fun c a=>Gf aZ n x0 c a h8;by_cases QW:cM=12
 ·subst QW;have ag1: ¬ph 12=2:=by decide
  obtain⟨⟨at_,av,ar,ao⟩,rfl⟩:=Pj (show bA.length=1 from fJ);have Gg:=DG _ (List.mem_cons_self);have IH:IntKind.i64.wrap av=av:=wrap_i64 (by have:=Gg.2;have:=Gg.1;simp only at*;omega);by_cases ha:255<av
  ·refine bu (X:=X) Tryz.func212 rfl rfl ?_;simp-implicitDefEqProofs[Nat.add_assoc,hb,hT,EW,hL,Bi,nB,L9,q1,q2,pq,mO,sQ,ag1,IH,ha];exact iO.same H HG (by simp only[bN,bS,cp])
  by_cases QJ:at_=0
  case neg=>
   refine bu (X:=X) Tryz.func212 rfl rfl ?_;simp-implicitDefEqProofs[Nat.add_assoc,hb,hT,EW,hL,Bi,nB,L9,q1,q2,pq,mO,sQ,ag1,IH,ha,QJ];exact iO.same H HG (by simp only[bN,bS,cp])
  have ag2:=eq_true QJ;refine bu (X:=X) Tryz.func212 rfl rfl ?_;simp-implicitDefEqProofs[Nat.add_assoc,hb,hT,hR,hg,iU,h8,n4,EW,hL,Bi,nB,L9,s5,Da,q1,q2,q3,q5,pq,mO,oQ,sQ,ag1,IH,ha,ag2];refine iO.avt (x:=AD x0 ⟨ct,cv⟩ av) H HG ?_ n4 (V1 qz hc (by have:=Gg.1;simp only at this;omega)) ?_ ?_
  ·simp only[bN,bS,cp]
  ·rw[hT1]
  ·simp[AD,Cell.bP]
 have hxw:=CU qz hc;have hT2: ∀(c:Cell),db aZ n (o5 x0 c)= .agg [.int .i64 1,.bU (aZ n) 0 8,.int .i64 x0.pc,.int .i64 x0.count,.int .i64 x0.bV,.int .i64 x0.saved,.int .i64 x0.dd,.int .u16 x0.code]:=fun c=>tJ aZ n x0 c h8;by_cases LA:cM=10
 case neg=>
  by_cases NQ:ph cM=2
  case neg=>
   refine bu (X:=X) Tryz.func212 rfl rfl ?_;simp-implicitDefEqProofs[Nat.add_assoc,hb,hT,hR,hg,iU,h8,n4,EW,hL,Bi,nB,L9,Da,q1,q2,q3,pq,mO,oQ,sQ,NQ,QW,LA];refine iO.put (x:=o5 x0 ⟨ct,cv⟩) H HG ?_ n4 hxw ?_ ?_
   ·simp only[bN,bS,cp]
   ·rw[hT2]
   ·simp[o5,Cell.bP]
  have C6: ¬0<dx.length:=fun h=>ZL ⟨NQ,by omega⟩;have a9p: ¬0<(dx.length:Int):=by omega
  refine bu (X:=X) Tryz.func212 rfl rfl ?_;simp-implicitDefEqProofs[Nat.add_assoc,hb,hT,hR,hg,iU,h8,n4,EW,hL,Bi,nB,L9,Da,q1,q2,q3,pq,mO,oQ,sQ,NQ,C6,QW,LA];refine iO.put (x:=o5 x0 ⟨ct,cv⟩) H HG ?_ n4 hxw ?_ ?_
  ·simp only[bN,bS,cp]
  ·rw[hT2]
  ·simp[o5,Cell.bP]
 subst LA;have Qi: ¬ph 10=2:=by decide
 by_cases ya:0<=eg
 case neg=>
  refine bu (X:=X) Tryz.func212 rfl rfl ?_;simp-implicitDefEqProofs[Nat.add_assoc,hb,hT,hR,hg,iU,h8,n4,EW,hL,Bi,nB,L9,Da,q1,q2,q3,pq,mO,oQ,sQ,Qi,ya];refine iO.put (x:=o5 x0 ⟨ct,cv⟩) H HG ?_ n4 hxw ?_ ?_
  ·simp only[bN,bS,cp]
  ·rw[hT2]
  ·simp[o5,Cell.bP]
 obtain⟨s,rfl⟩:=Int.eq_ofNat_of_zero_le ya;have sp4:s<4:=by
  unfold xZ at Rg;simp only[Bool.and_eq_true,decide_eq_true_eq]at Rg;omega
 have ZM:(s:Int)<4:=by omega
 have stl:s<mm.threads.length:=by omega
 have hgs:=eF (ids:=aZ) stl;obtain⟨⟨at_,av,ar,ao⟩,⟨bt,bv,br,bo⟩,rfl⟩:=Pk (show bA.length=2 from fJ);have Gg:=DG _ (List.mem_cons_self);have av3:=DG ⟨bt,bv,br,bo⟩ (by simp);have C7:=sL (aD:=mm.layout.aD) (key:=mm.layout.key) (ae:=ah) av3;obtain⟨⟨et,ev⟩,w1,vh⟩: ∃c w,raw mm.layout.aD mm.layout.key ah ⟨bt,bv,br,bo⟩=(c,w):=⟨_,_,rfl⟩;simp only[vh]at C7;have IH:IntKind.i64.wrap av=av:=wrap_i64 (by have:=Gg.2;have:=Gg.1;simp only at*;omega);by_cases tQ:w1=0
 case neg=>
  refine bu (X:=X) Tryz.func212 rfl rfl ?_;simp-implicitDefEqProofs[Nat.add_assoc,hb,hT,EW,hL,Bi,nB,L9,q1,q2,pq,mO,sQ,Qi,vh,tQ];exact iO.same H HG (by simp only[bN,bS,cp])
 subst tQ;by_cases Np:(mm.threads[s]).state=0
 case neg=>
  refine bu (X:=X) Tryz.func212 rfl rfl ?_;simp-implicitDefEqProofs[Nat.add_assoc,hb,hT,iU,EW,hL,Bi,nB,L9,q1,q2,pq,mO,sQ,Qi,vh,hgs,sp4,ZM,Np];exact iO.same H HG (by simp only[bN,bS,cp])
 have Mb:=eq_true Np;by_cases ha:255<av
 ·refine bu (X:=X) Tryz.func212 rfl rfl ?_;simp-implicitDefEqProofs[Nat.add_assoc,hb,hT,iU,EW,hL,Bi,nB,L9,q1,q2,pq,mO,sQ,Qi,vh,IH,hgs,sp4,ZM,Mb,ha];exact iO.same H HG (by simp only[bN,bS,cp])
 by_cases QJ:at_=0
 case neg=>
  refine bu (X:=X) Tryz.func212 rfl rfl ?_;simp-implicitDefEqProofs[Nat.add_assoc,hb,hT,iU,EW,hL,Bi,nB,L9,q1,q2,pq,mO,sQ,Qi,vh,IH,hgs,sp4,ZM,Mb,ha,QJ];exact iO.same H HG (by simp only[bN,bS,cp])
 have ag2:=eq_true QJ;have sZ: ¬s=n:=fun e=>by subst e;rw[nq]at Np;rw[Np]at Xv;cases Xv
 have aoc: ¬n=s:=fun e=>sZ e.symm;obtain⟨hN,eN,fN⟩:=ZK av et ev (k+114);simp only[Nat.add_assoc,Nat.reduceAdd]at eN fN;refine bu (X:=X) Tryz.func212 rfl rfl ?_;simp-implicitDefEqProofs[Nat.add_assoc,hb,hT,hR,hg,iU,h8,n4,EW,hL,Bi,nB,L9,s5,Da,q1,q2,q3,q5,pq,mO,oQ,l1,l2,l3,sQ,Qi,vh,IH,hgs,sp4,ZM,Mb,ha,ag2,sZ,eN];have JE:0<=d:=by have:=qz.count;omega
 have aod:0<=av/\av<=255:=by have:=Gg.1;simp only at this;omega
 refine⟨true,ids,fun i=>if i=s then k+119 else aZ i,⟨mm.layout,mm.memory,(mm.threads.set s (CV av ⟨et,ev⟩)).set n (o5 x0 ⟨ct,cv⟩)⟩,rfl,H.threads (by omega) (by simp[hl]) ?_ ?_ ?_ ?_ ?_,?_,rfl,by omega,fun j _=>⟨.inl rfl,?_⟩,?_⟩
 ·rw[Ge (aZ:=aZ) stl lp sZ (fun j hj=>if_neg hj),hT2];simp[aO,db,CV]
 ·intro i hi;simp only[List.length_set]at hi;simp only[List.getElem_set];by_cases uv:n=i
  ·subst uv;simp[aO,aoc,s5,o5,Cell.bP]
  ·by_cases Nq:s=i
   ·subst Nq;have c1: ¬k+119=T:=by omega
    have c2: ¬k+119=aZ n:=by omega
    simp[aO,aoc,c1,c2,fN,CV]
   ·have c1:=H.qB i (by omega);have c2:=H.M9 i n (by omega) n4 (fun e=>uv e.symm);have c3:aZ i<k+114:=by omega
    have c4: ¬aZ i=k+64:=by omega
    have c5: ¬aZ i=k+24:=by omega
    have c6: ¬aZ i=k+2:=by omega
    have c7: ¬aZ i=k+1:=by omega
    have c8: ¬aZ i=k:=by omega
    have c9: ¬i=s:=fun e=>Nq e.symm;simp[aO,uv,Nq,c9,c1.2.2.2.1,c2,c3,c4,c5,c6,c7,c8,H.Ez i hi]
 ·intro i hi;by_cases Nq:i=s
  ·right;simp[Nq]
  ·left;simp[Nq]
 ·intro i j hi hj jk;have a1:=(H.qB i hi).2.2.2.2;have a2:=(H.qB j hj).2.2.2.2;by_cases Nq:i=s
  ·have Fq: ¬j=s:=fun e=>jk (Nq.trans e.symm);simp only[Nq,Fq,if_true,if_false];omega
  ·by_cases Fq:j=s
   ·simp only[Nq,Fq,if_true,if_false];omega
   ·simp only[Nq,Fq,if_false];exact H.M9 i j hi hj jk
 ·intro i hi PC jk;have c3:i<k+114:=by omega
  have c4: ¬i=k+64:=by omega
  have c5: ¬i=k+24:=by omega
  have c6: ¬i=k+2:=by omega
  have c7: ¬i=k+1:=by omega
  have c8: ¬i=k:=by omega
  have c9:=jk n n4;simp[aO,PC,c3,c4,c5,c6,c7,c8,c9]
 ·refine⟨HG.prog,HG.lay,HG.key,HG.mem,by simp[hl],fun i hi=> ?_,HG.coh⟩;simp only[List.length_set]at hi;simp only[List.getElem_set];split
  ·exact hxw
  ·split
   ·exact ZJ JE aod C7
   ·exact HG.nv i hi
 ·by_cases Nq:j=s
  ·right;simp[Nq]
  ·left;simp[Nq]
 ·intro i hi hiC hiL PC jk;have c3:i<k+114:=by omega
  have c4: ¬i=k+64:=by omega
  have c5: ¬i=k+24:=by omega
  have c6: ¬i=k+2:=by omega
  have c7: ¬i=k+1:=by omega
  have c8: ¬i=k:=by omega
  have c9:=(jk n n4).2;simp[aO,PC,c3,c4,c5,c6,c7,c8,c9]
end Go.Proofs.YtejohpnpnaljdaaGreat
