/- Part of a proof: F18. -/
import Derived.Test.YtejohpnpnaljdaaGreatM36
import Derived.Test.YtejohpnpnaljdaaGreatM41
set_option linter.all false
set_option maxRecDepth 20000
set_option maxHeartbeats 20000000
namespace Go.Proofs.YtejohpnpnaljdaaGreat
open Go Go.Abs Go.Abs.lu
noncomputable def cB(g:FuncId)(args:List V)(h:aY)(k:Nat):Bool:=match cy X g args h k with|some (.bool b,_,_)=>b|_=>false
theorem aoe{g:FuncId}{args:List V}{h h':aY}{k k':Nat}{b:Bool}(e:cy X g args h k=some (.bool b,h',k')):cB g args h k=b:=by
 unfold cB;rw[e]
theorem gr.No{p:Prog}{d:Int}{h h':aY}{k k':Nat}{S:Nat->Prop}{T:Nat}{vB vC vL:V}{es:List V}{m:bf}{b:Bool}(HM:jM h k S T vB vC vL es m)(HG:cR p d m)(hB:Below k h h')(hk:k<=k'):
  gr p d m.layout h k S (.de [.agg [vB,.int .u16 m.layout.key,vC,vL,.bU T 0 4],.bool b]) h' k':=
 ⟨b,S,T,vB,vC,vL,es,m,rfl,HM.mono hk fun i hi=>hB i (HM.lt i hi),HG,rfl,hk,hB,fun i hi=> .inl hi⟩
theorem gr.av4{p:Prog}{d:Int}{lay:aN}{h h':aY}{k k':Nat}{S:Nat->Prop}{C L T:Nat}{vB:V}{ids aZ:Nat->Nat}{m:bf}{b:Bool}(H:gP h' k' vB C L T ids aZ m)(HA:na k vB C L T ids aZ)(HG:cR p d m)(hl:m.layout=lay)(hB:Below k h h')(hk:k<=k'):
  gr p d lay h k S (.de [.agg [vB,.int .u16 m.layout.key,.bU C 0 512,.bU L 0 4,.bU T 0 4],.bool b]) h' k':=
 ⟨b,_,T,vB,_,_,_,m,rfl,.deep H,HG,hl,hk,hB,fun i hi=> .inr (Vt.IX HA i hi)⟩
def Qj(x:Thread)(c:Int):Thread:=⟨4,x.bm,x.pc,x.count,x.bV,x.saved,0,c⟩
theorem ZN{d:Int}{x:Thread}(h:dF d x){c:Int}(hc:0<=c/\c<=65535):dF d (Qj x c):=
 ⟨by simp[Qj],h.bm,h.cells,h.pc,h.count,h.bV,h.saved,by simp[Qj],hc⟩
def Jn(x:Thread):Thread:=⟨3,x.bm,x.pc,x.count,x.bV,x.saved,x.dd,x.code⟩
theorem V2{d:Int}{x:Thread}(h:dF d x):dF d (Jn x):=
 ⟨by simp[Jn],h.bm,h.cells,h.pc,h.count,h.bV,h.saved,h.dd,h.code⟩
theorem Gh{aZ jq:Nat->Nat}{ts:List Thread}{n:Nat}{xn:Thread}(hn:n<ts.length)(h: ∀j,¬j=n->jq j=aZ j):bZ jq (ts.set n xn)=(bZ aZ ts).set n (db jq n xn):=by
 apply List.ext_getElem?;intro j;simp only[bZ,List.getElem?_mapIdx,List.getElem?_set,List.length_mapIdx];by_cases JV:n=j
 ·subst JV;simp[hn]
 ·simp only[JV,if_false];cases ts[j]? with
  |none=>rfl
  |some x=>simp[db,h j (fun e=>JV e.symm)]
@[simp] theorem aof(jf:Int)(dQ:List Cell)(ns fp dw fq kS kT dd code:Int)(k:Nat)(hm:dQ.length<=1000000000): ∃h',cy X 94 [.agg [jf,dQ,ns,fp,dw,fq,kS,.int .u16 kT],dd,.int .u16 code] m8 k=some (.agg [.int .i64 4,.bU (k+10) 0 dQ.length,.int .i64 ns,.int .i64 fp,.int .i64 dw,.int .i64 fq,.int .i64 dd,.int .u16 code],h',k+25)/\h' (k+10)=some ⟨2,dQ.map Cell.e,false⟩:=by
 obtain⟨h1,e1,e2⟩:=Io jf dQ ns fp dw fq kS kT (k+6) hm;simp only[Nat.add_assoc,Nat.reduceAdd]at e1 e2;obtain⟨v,h',n',e,f1,f2,f3⟩:=bu (X:=X) (g:=94) (args:=[.agg [.int .i64 jf,dQ,.int .i64 ns,.int .i64 fp,.int .i64 dw,.int .i64 fq,.int .i64 kS,.int .u16 kT],.int .i64 dd,.int .u16 code]) (h:=m8) (k:=k) (K:=fun v h n=>v= .agg [.int .i64 4,.bU (k+10) 0 dQ.length,.int .i64 ns,.int .i64 fp,.int .i64 dw,.int .i64 fq,.int .i64 dd,.int .u16 code]/\n=k+25/\h (k+10)=some ⟨2,dQ.map Cell.e,false⟩) Tryz.func94 rfl rfl (by
  simp-implicitDefEqProofs[Nat.add_assoc,e1,e2])
 subst f1;subst f2;exact⟨h',e,f3⟩
@[simp] theorem V3(ay:List Instr)(ah:List Int)(az:List (List Int))(aa:List Int)(aw:Int)(aq:List Cell)(an:List cx)(ax:List Thread)(fQ gh eL dD kZ cM:Int)(bA cE:List Canon)(cJ cL bW bX:Int)(dx:List Canon)(eg:Int)(ma:Bool)(h:aY)(k:Nat)(S:Nat->Prop)(T:Nat)(vB vC vL:V)(es:List V)(d:Int)(HM:jM h k S T vB vC vL es (bf.mk (aN.mk aa aw) (aK.mk aq an) ax))(HG:cR (Prog.mk ay ah az) d (bf.mk (aN.mk aa aw) (aK.mk aq an) ax))(hd:d<=1099511627776)(Fk:bA.length<=1000000000)(hrd:cE.length<=1000000000)(DG:fe bA)(hx:ui (sX.mk (Canon.mk cJ cL bW bX) dx eg ma)): ∃v h' k',cy X 202 [(ay,ah,az),.agg [vB,.int .u16 aw,vC,vL,.bU T 0 4],.agg [fQ,gh,eL,dD,kZ,cM,bA,cE],.agg [.int .u8 cJ,.int .u16 cL,bW,bX,dx,eg,ma]] h k=some (v,h',k')/\gr (Prog.mk ay ah az) d ⟨aa,aw⟩ h k S v h' k':=by
 have MG:=HG.mono hd;have hv:jc (Prog.mk ay ah az) (bf.mk (aN.mk aa aw) (aK.mk aq an) ax)=true:=MG.ok;have hp:=HG.prog.lens;have uj:=HG.lens;have hL:=HG.lay;have dV:=HM.row;have su:=HM.len;have hl:ax.length=4:=HM.af9;have hkT:=HM.lt T HM.Vs;have zV:dx.length<=1000000000:=by have:=hx.len;simp only at this;omega
 have iB: ∀H,Below k h H->bT H 11 vB=some (.sl false (aa.map (V.int .i64))):=fun H hB=>(HM.dy H (fun i hi _=>hB i (HM.lt i hi)) 8).1;have iC: ∀H,Below k h H->bT H 11 vC=some (.sl false (aq.map Cell.e)):=fun H hB=>(HM.dy H (fun i hi _=>hB i (HM.lt i hi)) 8).2.1;have iL: ∀H,Below k h H->bT H 11 vL=some (.sl false (an.map cx.e)):=fun H hB=>(HM.dy H (fun i hi _=>hB i (HM.lt i hi)) 8).2.2.1;have iE: ∀H,Below k h H->cn (es.map (bT H 10))=some (ax.map Thread.e):=fun H hB=>(HM.dy H (fun i hi _=>hB i (HM.lt i hi)) 7).2.2.2;have te:=VY su;have q: ∀j,¬T=k+j:=fun j=>by omega
 have q0: ¬T=k:=by omega
 cases ZO:rA (Request.mk fQ gh eL dD kZ cM bA cE) with
 |false=>
  refine bu (X:=X) Tryz.func202 rfl rfl ?_;simp-implicitDefEqProofs[Nat.add_assoc,hv,hp,uj,dV,su,Fk,hrd,iB,iC,iL,iE,te,q,q0,bN,bS,cp,ZO];exact gr.same HM HG (by simp only[bN,bS,cp])
 |true=>
 have ag3:=ZO;unfold rA at ag3;simp only[Bool.and_eq_true,decide_eq_true_eq]at ag3;obtain⟨th0,th4,_,_,_,_,_,_,_,_,ca0,av5,_,_,_,_⟩:=ag3;by_cases iZ:gh=1
 case neg=>
  refine bu (X:=X) Tryz.func202 rfl rfl ?_;simp-implicitDefEqProofs[Nat.add_assoc,hv,hp,uj,dV,su,Fk,hrd,iB,iC,iL,iE,te,q,q0,bN,bS,cp,ZO,iZ];exact gr.same HM HG (by simp only[bN,bS,cp])
 have wQ:=eq_true iZ;by_cases har:(bA.length:Int)=Ck cM
 case neg=>
  refine bu (X:=X) Tryz.func202 rfl rfl ?_;simp-implicitDefEqProofs[Nat.add_assoc,hv,hp,uj,dV,su,Fk,hrd,iB,iC,iL,iE,te,q,q0,bN,bS,cp,ZO,wQ,har];exact gr.same HM HG (by simp only[bN,bS,cp])
 have V4:=eq_true har;have fJ:bA.length=(dK cM).length:=by
  unfold Ck at har;rw[if_neg (by omega)]at har;omega
 cases hr:xZ (sX.mk (Canon.mk cJ cL bW bX) dx eg ma) with
 |false=>
  refine bu (X:=X) Tryz.func202 rfl rfl ?_;simp-implicitDefEqProofs[Nat.add_assoc,hv,hp,uj,dV,su,zV,Fk,hrd,iB,iC,iL,iE,te,q,q0,bN,bS,cp,ZO,wQ,V4,hr];exact gr.same HM HG (by simp only[bN,bS,cp])
 |true=>
 obtain⟨n,rfl⟩:=Int.eq_ofNat_of_zero_le th0;have n4:n<4:=by omega
 have EW:(n:Int)<4:=by omega
 have nl:n<ax.length:=by omega
 have nle:n<es.length:=by omega
 obtain⟨vR,JA⟩:=HM.aga n nle nl;simp only at JA;by_cases hs:(ax[n]).state=2
 case neg=>
  refine bu (X:=X) Tryz.func202 rfl rfl ?_;simp-implicitDefEqProofs[Nat.add_assoc,hv,hp,uj,dV,su,zV,Fk,hrd,iB,iC,iL,iE,te,q,q0,bN,bS,cp,ZO,wQ,V4,hr,n4,EW,JA,hs];exact gr.same HM HG (by simp only[bN,bS,cp])
 have ln:=eq_true hs;obtain⟨v1,h1,k1,eC,ek,ev,HA,HB⟩:=Bj aa aw aq an ax (k+48) (Prog.mk ay ah az) _ MG;subst ek;subst ev;simp only[Nat.add_assoc,Nat.reduceAdd]at eC HA HB;have HP:=HA.pure;have pT:=HP.nv;have pR:=HP.Ez n nl;simp only at pT pR;have Ct:=ed (pG (k+166) (k+185) (k+204) (k+223)) ax;rw[hl]at Ct;have gg:=eF (ids:=(pG (k+166) (k+185) (k+204) (k+223))) nl;have VZ:=(MG.nv n nl).bm;simp only at VZ;have a1:=(HB.2.1 n n4).2;have a2:=(HP.qB n n4).2.2.1;have a3:=(HP.qB n n4).2.2.2;obtain⟨I,hI⟩: ∃I,(pG (k+166) (k+185) (k+204) (k+223)) n=I:=⟨_,rfl⟩;rw[hI]at pR a1 a2 a3;simp only[hI]at gg;have b1: ∀j,j<48-> ¬I=k+j:=fun j _=>by omega
 have b1': ∀j,j<48-> ¬k+j=I:=fun j _=>by omega
 have b2: ¬I=k+230:=a2;have b2': ¬k+230=I:=fun e=>a2 e.symm;have b3: ¬I<k+48:=by omega
 have b4:I<k+260:=by omega
 have b0: ¬I=k:=by omega
 have b0': ¬k=I:=by omega
 have ZP: ∀i,i<k->i<k+48/\(∀j,¬i=k+j)/\ ¬i=k/\ ¬i=I:=fun i hi=>⟨by omega,fun j=>by omega,by omega,by omega⟩;by_cases c0:cM=0
 ·subst c0;have la1:0<bA.length:=by rw[fJ];decide
  obtain⟨⟨at_,av,ar,ao⟩,Gz⟩: ∃c,bA[0]=c:=⟨_,rfl⟩;have Gg:zF ⟨at_,av,ar,ao⟩:=Gz▸DG _ (List.getElem_mem la1);have tk:List.take 8 ((ax[n]).bm.map Cell.e)=(ax[n]).bm.map Cell.e:=bn (by simp[VZ]);obtain⟨hE,eE,fE⟩:=aof (ax[n]).state (ax[n]).bm (ax[n]).pc (ax[n]).count (ax[n]).bV (ax[n]).saved (ax[n]).dd (ax[n]).code 0 av (k+260) (by omega);simp only[Nat.add_assoc,Nat.reduceAdd,VZ]at eE fE;refine bu (X:=X) Tryz.func202 rfl rfl ?_;simp-implicitDefEqProofs[Nat.add_assoc,hl,hv,hp,uj,dV,su,zV,Fk,hrd,iB,iC,iL,iE,te,q,q0,bN,bS,cp,ZO,wQ,V4,hr,n4,EW,JA,ln,eC,mC,nw,yC,pT,pR,Ct,gg,VZ,b1,b3,la1,Gz,eE,tk,agb,Y9,Za,List.all_cons,List.all_nil];have hold: ∀i,i<4-> ¬i=n->k+48<=(pG (k+166) (k+185) (k+204) (k+223)) i/\(pG (k+166) (k+185) (k+204) (k+223)) i<k+238/\(pG (k+166) (k+185) (k+204) (k+223)) i≠k+230:=fun i hi _=>⟨(HB.2.1 i hi).2,(HP.qB i hi).2.2.2,(HP.qB i hi).2.2.1⟩;refine gr.new (m:=⟨⟨aa,aw⟩,⟨aq,an⟩,ax.set n (Qj ax[n] av)⟩) (aZ:=fun i=>if i=n then k+270 else(pG (k+166) (k+185) (k+204) (k+223)) i) (gP.threads (a:=k+48) HP HB (by omega) (by simp[hl]) ?_ ?_ ?_ ?_ ?_) ?_ ?_ rfl ?_
  ·rw[Gh (aZ:=(pG (k+166) (k+185) (k+204) (k+223))) nl (fun j hj=>if_neg hj)];simp[aO,db,Qj,VZ]
  ·intro i hi;simp only[List.length_set]at hi;simp only[List.getElem_set];by_cases uv:n=i
   ·subst uv;simp[aO,fE,jz,Qj];exact fun _ _=>rfl
   ·have aog: ¬i=n:=fun e=>uv e.symm;obtain⟨o1,o2,o3⟩:=hold i (by omega) aog;have aoh:=HP.Ez i hi;simp only at aoh;have c1: ¬(pG (k+166) (k+185) (k+204) (k+223)) i=k+4:=by omega
    have c2:(pG (k+166) (k+185) (k+204) (k+223)) i<k+260:=by omega
    have c3: ¬(pG (k+166) (k+185) (k+204) (k+223)) i=k+46:=by omega
    have c4: ¬(pG (k+166) (k+185) (k+204) (k+223)) i<k+48:=by omega
    simp only[uv,aog,if_false];simp only[aO,c1,c2,c3,c4,o3,if_false,if_true];exact aoh
  ·intro i hi;by_cases uv:i=n
   ·right;simp[uv]
   ·left;simp[uv]
  ·intro i j hi hj jk;by_cases uv:i=n
   ·have JV: ¬j=n:=fun e=>jk (uv.trans e.symm);have:=hold j hj JV;simp only[uv,JV,if_true,if_false];omega
   ·by_cases JV:j=n
    ·have:=hold i hi uv;simp only[uv,JV,if_true,if_false];omega
    ·simp only[uv,JV,if_false];exact HP.M9 i j hi hj jk
  ·intro i hi1 GW xE uk;have c1: ¬i=k+4:=by omega
   have c2:i<k+260:=by omega
   have c3: ¬i=k+46:=by omega
   have c4: ¬i<k+48:=by omega
   simp only[aO,c1,c2,c3,c4,xE,if_false,if_true]
  ·obtain⟨⟨p1,p2,p3⟩,pI,pB⟩:=HB;refine⟨⟨by omega,by omega,by omega⟩,fun j hj=>⟨by have:=pI j hj;omega,?_⟩,fun B s n e=>by have:=pB B s n e;omega⟩;by_cases uv:j=n
   ·simp[uv]
   ·have:=pI j hj;simp only[uv,if_false];omega
  ·refine⟨HG.prog,HG.lay,HG.key,HG.mem,by simp[hl],fun i hi=> ?_,HG.coh⟩;simp only[List.length_set]at hi;simp only[List.getElem_set];split
   ·exact ZN (HG.nv n nl) Gg
   ·exact HG.nv i hi
  ·intro i hi;obtain⟨e1,e2,e3,e4⟩:=ZP i hi;have e5:i<k+260:=by omega
   simp[aO,e1,e2,e3,e5]
 cases ma with
 |true=>
  refine bu (X:=X) Tryz.func202 rfl rfl ?_;simp-implicitDefEqProofs[Nat.add_assoc,hl,hv,hp,uj,dV,su,zV,Fk,hrd,iB,iC,iL,iE,te,q,q0,bN,bS,cp,ZO,wQ,V4,hr,n4,EW,JA,ln,eC,mC,nw,yC,pT,Ct,gg,VZ,c0];refine gr.new (m:=kq (bf.mk (aN.mk aa aw) (aK.mk aq an) ax) (bf.memory (bf.mk (aN.mk aa aw) (aK.mk aq an) ax)) n (Jn ax[n])) (HP.put HB (by omega) n4 ?_ ?_ ?_) (HB.less (by omega)) (vO HG (Int.le_refl _) HG.mem HG.coh (V2 (HG.nv n nl))) rfl ?_
  ·rw[<-gq nl];simp[aO,db,Jn,VZ,hI]
  ·rw[hI];have c5: ¬I=k+4:=by omega
   have c6: ¬I=k+46:=by omega
   simp[aO,b2,b3,c5,c6,Jn,pR]
  ·intro i hi1 GW xE uk;have c1: ¬i<k+48:=by omega
   have c2: ¬i=k+4:=by omega
   have c3: ¬i=k+46:=by omega
   simp[aO,c1,c2,c3,xE]
  ·intro i hi;obtain⟨e1,e2,e3,e4⟩:=ZP i hi;simp[aO,e1,e2,e3]
 |false=>
 have Xv:(cg (bf.mk (aN.mk aa aw) (aK.mk aq an) ax) n).state=2:=by rw[ie nl];exact hs
 have key: ∀(H:aY) (K:Nat),H (k+46)=some ⟨5,[.agg [.bU (k+53) 0 aa.length,.int .u16 aw,.bU (k+68) 0 512,.bU (k+147) 0 4,.bU (k+230) 0 4]],true⟩->LG (k+48) (fun i=>jz (h1 i)) H->k+238<=K->
   cy X 212 [.agg [ay,ah,az],.ptr (k+46) 0 0,.agg [(n:Int),.int .i64 gh,.int .i64 eL,.int .i64 dD,.int .i64 kZ,.int .i64 cM,bA,cE],.agg [.int .u8 cJ,.int .u16 cL,.int .i64 bW,.int .i64 bX,dx,.int .i64 eg,.bool false]] H K=some (.bool (cB 212 [.agg [ay,ah,az],.ptr (k+46) 0 0,.agg [(n:Int),.int .i64 gh,.int .i64 eL,.int .i64 dD,.int .i64 kZ,.int .i64 cM,bA,cE],.agg [.int .u8 cJ,.int .u16 cL,.int .i64 bW,.int .i64 bX,dx,.int .i64 eg,.bool false]] H K),cH 212 [.agg [ay,ah,az],.ptr (k+46) 0 0,.agg [(n:Int),.int .i64 gh,.int .i64 eL,.int .i64 dD,.int .i64 kZ,.int .i64 cM,bA,cE],.agg [.int .u8 cJ,.int .u16 cL,.int .i64 bW,.int .i64 bX,dx,.int .i64 eg,.bool false]] H K,cK 212 [.agg [ay,ah,az],.ptr (k+46) 0 0,.agg [(n:Int),.int .i64 gh,.int .i64 eL,.int .i64 dD,.int .i64 kZ,.int .i64 cM,bA,cE],.agg [.int .u8 cJ,.int .u16 cL,.int .i64 bW,.int .i64 bX,dx,.int .i64 eg,.bool false]] H K)/\cH 212 [.agg [ay,ah,az],.ptr (k+46) 0 0,.agg [(n:Int),.int .i64 gh,.int .i64 eL,.int .i64 dD,.int .i64 kZ,.int .i64 cM,bA,cE],.agg [.int .u8 cJ,.int .u16 cL,.int .i64 bW,.int .i64 bX,dx,.int .i64 eg,.bool false]] H K (k+46)=some ⟨5,[.agg [.bU (k+53) 0 aa.length,.int .u16 aw,.bU (k+68) 0 512,.bU (k+147) 0 4,.bU (k+230) 0 4]],true⟩/\(∀i,i<k+48->cH 212 [.agg [ay,ah,az],.ptr (k+46) 0 0,.agg [(n:Int),.int .i64 gh,.int .i64 eL,.int .i64 dD,.int .i64 kZ,.int .i64 cM,bA,cE],.agg [.int .u8 cJ,.int .u16 cL,.int .i64 bW,.int .i64 bX,dx,.int .i64 eg,.bool false]] H K i=H i)/\K<=cK 212 [.agg [ay,ah,az],.ptr (k+46) 0 0,.agg [(n:Int),.int .i64 gh,.int .i64 eL,.int .i64 dD,.int .i64 kZ,.int .i64 cM,bA,cE],.agg [.int .u8 cJ,.int .u16 cL,.int .i64 bW,.int .i64 bX,dx,.int .i64 eg,.bool false]] H K/\
   ∃ft jq m',dc (cH 212 [.agg [ay,ah,az],.ptr (k+46) 0 0,.agg [(n:Int),.int .i64 gh,.int .i64 eL,.int .i64 dD,.int .i64 kZ,.int .i64 cM,bA,cE],.agg [.int .u8 cJ,.int .u16 cL,.int .i64 bW,.int .i64 bX,dx,.int .i64 eg,.bool false]] H K) (cK 212 [.agg [ay,ah,az],.ptr (k+46) 0 0,.agg [(n:Int),.int .i64 gh,.int .i64 eL,.int .i64 dD,.int .i64 kZ,.int .i64 cM,bA,cE],.agg [.int .u8 cJ,.int .u16 cL,.int .i64 bW,.int .i64 bX,dx,.int .i64 eg,.bool false]] H K) (k+46) (.bU (k+53) 0 aa.length) (k+68) (k+147) (k+230) ft jq m'/\cR (Prog.mk ay ah az) d m'/\m'.layout=⟨aa,aw⟩/\na (k+48) (.bU (k+53) 0 aa.length) (k+68) (k+147) (k+230) ft jq:=fun H K hb hO hK=>by
  have HI:=Vc (b:=k+46) (by rw[hb];unfold jo;simp only[hl]) (by omega) (by omega) hK HP HB hO;obtain⟨v,h',k',e,bb,ft,jq,m',rfl,G,GG,gl,gk,gi,gf⟩:=an8 ay ah az .bad (n:Int) gh eL dD kZ cM bA cE cJ cL bW bX dx eg false H K (k+46) _ _ _ _ _ _ (bf.mk (aN.mk aa aw) (aK.mk aq an) ax) d n HI HG hd ⟨_,rfl⟩ ⟨rfl,n4⟩ Xv ⟨ca0,av5⟩ fJ DG hr hx;obtain⟨e1,e2⟩:=tS e;have e3:=aoe e;have NQ:=G.sE;have wL:=G.len;obtain⟨⟨p1,p2,p3⟩,pI,pB⟩:=HB;rw[e1,e2,e3];refine⟨e,by rw[NQ];unfold jo;rw[wL,gl],fun i hi=>gf i (by omega) (by omega) (by omega) (by omega) (fun j hj=>by have:=pI j hj;omega),gk,ft,jq,m',G,GG,gl,⟨p1,p2,p3⟩,fun j hj=> ?_,pB⟩;have:=pI j hj;have:=gi j hj;omega
 have cl:=fun H K a b c=>(key H K a b c).1;have cb:=fun H K a b c=>(key H K a b c).2.1;have cf1:=fun H K a b c=>(key H K a b c).2.2.1 (k+1) (by omega);have cf4:=fun H K a b c=>(key H K a b c).2.2.1 (k+4) (by omega);refine bu (X:=X) Tryz.func202 rfl rfl ?_;simp-implicitDefEqProofs[Nat.add_assoc,hl,hv,hp,uj,dV,su,zV,Fk,hrd,iB,iC,iL,iE,te,q,q0,bN,bS,cp,ZO,wQ,V4,hr,n4,EW,JA,ln,eC,mC,nw,yC,c0,cl,cb,cf1,cf4,uV,yv];have fin: ∀(H:aY) (K n2:Nat) (o:Option Ob),H (k+46)=some ⟨5,[.agg [.bU (k+53) 0 aa.length,.int .u16 aw,.bU (k+68) 0 512,.bU (k+147) 0 4,.bU (k+230) 0 4]],true⟩->LG (k+48) (fun i=>jz (h1 i)) H->k+238<=K->Below k h H->
   gr (Prog.mk ay ah az) d ⟨aa,aw⟩ h k S (.de [.agg [vB,.int .u16 aw,vC,vL,.bU T 0 4],.bool false]) (aO (cH 212 [.agg [ay,ah,az],.ptr (k+46) 0 0,.agg [(n:Int),.int .i64 gh,.int .i64 eL,.int .i64 dD,.int .i64 kZ,.int .i64 cM,bA,cE],.agg [.int .u8 cJ,.int .u16 cL,.int .i64 bW,.int .i64 bX,dx,.int .i64 eg,.bool false]] H K) (k+4) o) (cK 212 [.agg [ay,ah,az],.ptr (k+46) 0 0,.agg [(n:Int),.int .i64 gh,.int .i64 eL,.int .i64 dD,.int .i64 kZ,.int .i64 cM,bA,cE],.agg [.int .u8 cJ,.int .u16 cL,.int .i64 bW,.int .i64 bX,dx,.int .i64 eg,.bool false]] H K+n2)/\
   gr (Prog.mk ay ah az) d ⟨aa,aw⟩ h k S (.de [.agg [.bU (k+53) 0 aa.length,.int .u16 aw,.bU (k+68) 0 512,.bU (k+147) 0 4,.bU (k+230) 0 4],.bool true]) (aO (cH 212 [.agg [ay,ah,az],.ptr (k+46) 0 0,.agg [(n:Int),.int .i64 gh,.int .i64 eL,.int .i64 dD,.int .i64 kZ,.int .i64 cM,bA,cE],.agg [.int .u8 cJ,.int .u16 cL,.int .i64 bW,.int .i64 bX,dx,.int .i64 eg,.bool false]] H K) (k+4) o) (cK 212 [.agg [ay,ah,az],.ptr (k+46) 0 0,.agg [(n:Int),.int .i64 gh,.int .i64 eL,.int .i64 dD,.int .i64 kZ,.int .i64 cM,bA,cE],.agg [.int .u8 cJ,.int .u16 cL,.int .i64 bW,.int .i64 bX,dx,.int .i64 eg,.bool false]] H K+n2):=fun H K n2 o hb hO hK hB=>by
  obtain⟨_,_,f1,gk,ft,jq,m',G,GG,gl,GA⟩:=key H K hb hO hK;have sW:Below k h (aO (cH 212 [.agg [ay,ah,az],.ptr (k+46) 0 0,.agg [(n:Int),.int .i64 gh,.int .i64 eL,.int .i64 dD,.int .i64 kZ,.int .i64 cM,bA,cE],.agg [.int .u8 cJ,.int .u16 cL,.int .i64 bW,.int .i64 bX,dx,.int .i64 eg,.bool false]] H K) (k+4) o):=fun i hi=>by
   have c1: ¬i=k+4:=by omega
   simp only[aO,c1,if_false];rw[f1 i (by omega),hB i hi]
  refine⟨gr.No HM HG sW (by omega),?_⟩;have av6:m'.layout.key=aw:=by rw[gl]
  have:=gr.av4 (S:=S) (b:=true) (h':=aO (cH 212 [.agg [ay,ah,az],.ptr (k+46) 0 0,.agg [(n:Int),.int .i64 gh,.int .i64 eL,.int .i64 dD,.int .i64 kZ,.int .i64 cM,bA,cE],.agg [.int .u8 cJ,.int .u16 cL,.int .i64 bW,.int .i64 bX,dx,.int .i64 eg,.bool false]] H K) (k+4) o) (k':=cK 212 [.agg [ay,ah,az],.ptr (k+46) 0 0,.agg [(n:Int),.int .i64 gh,.int .i64 eL,.int .i64 dD,.int .i64 kZ,.int .i64 cM,bA,cE],.agg [.int .u8 cJ,.int .u16 cL,.int .i64 bW,.int .i64 bX,dx,.int .i64 eg,.bool false]] H K+n2) (G.at.mono GA (by omega) fun i hi _=>by
   have c1: ¬i=k+4:=by omega
   simp only[aO,c1,if_false]) (GA.less (by omega)) GG gl sW (by omega)
  rw[av6]at this;exact this
 refine⟨fun _=>(fin _ _ _ _ ?_ ?_ ?_ ?_).1,fun _=>(fin _ _ _ _ ?_ ?_ ?_ ?_).2⟩
 ·simp[aO]
 ·simp[uV,yv]
 ·omega
 ·simp only[bS];intro i hi;obtain⟨e1,e2,e3,e4⟩:=ZP i hi;simp[e1,e2,e3]
 ·simp[aO]
 ·simp[uV,yv]
 ·omega
 ·simp only[bS];intro i hi;obtain⟨e1,e2,e3,e4⟩:=ZP i hi;simp[e1,e2,e3]
end Go.Proofs.YtejohpnpnaljdaaGreat
