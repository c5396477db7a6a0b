/- Part of a proof: F17. -/
import Derived.Test.YtdngefmliibcgaaGreatM21
import Derived.Test.YtdngefmliibcgaaGreatM23
set_option linter.all false
set_option maxRecDepth 20000
set_option maxHeartbeats 20000000
namespace Go.Proofs.YtdngefmliibcgaaGreat
open Go Go.Abs Go.Abs.kX Qf
variable  {aD an l bs:List Int}{key c d b r cQ at_ N op v o jf:Int}{bz:List Cell}{i n k k' T C L a t a':Nat}{h h':bh}{S:Nat->Prop}{vB vC vL:V}{es:List V}{m:aO}{ids bu kV:Nat->Nat}{p:Prog}
def k9(hx:bh)(l:List Thread):cF (l.map (cx hx 12∘Thread.e))=some (l.map Thread.e):=qi (fun _=>rfl) l
def gP(aD:List Int)(key:Int)(an:List Int)(bz:List Cell)(i:Nat):List Canon:=(bz.take i).map (canon aD key an)
def C5(h:i<bz.length):gP aD key an bz (i+1)=gP aD key an bz i++ [canon aD key an bz[i]]:=by
 unfold gP;rw[fD h,abH];rfl
def uq(h:i<=bz.length):(gP aD key an bz i).length=i:=by
 simp[gP];omega
def uY(aD:List Int)(key:Int)(an:List Int)(bz:List Cell):gP aD key an bz 0=[]:=by simp[gP]
def mu(aD:List Int)(key:Int)(an:List Int)(mem:aF)(a i:Nat):List Canon:=(List.range i).map fun j=>canon aD key an (look mem (a+j))
def GO(aD:List Int)(key:Int)(an:List Int)(mem:aF)(a i:Nat):mu aD key an mem a (i+1)=mu aD key an mem a i++ [canon aD key an (look mem (a+i))]:=by
 unfold mu;rw[acH,abH];rfl
def tL(aD:List Int)(key:Int)(an:List Int)(mem:aF)(a i:Nat):(mu aD key an mem a i).length=i:=by simp[mu]
def RO(aD:List Int)(key:Int)(an:List Int)(mem:aF)(a:Nat):mu aD key an mem a 0=[]:=rfl
def pV(p:Prog)(x:Thread):Int:=(kQ p.code x.pc).ed
def GP(p:Prog)(m:aO)(x:Thread):Int:=vx m.layout.aD p.an p.code.length (pV p x) x.bz
def xm:Request:=⟨0,0,0,0,0,0,[],[]⟩
def K8(p:Prog)(m:aO)(x:Thread)(t:Int):Request:=
 ⟨t,1,0,x.count,x.pc,pV p x,gP m.layout.aD m.layout.key p.an x.bz (de (pV p x)).length,if mC (pV p x)=1 then mu m.layout.aD m.layout.key p.an m.memory (x.bz.getD 1 ⟨0,0⟩).val.toNat (x.bz.getD 2 ⟨0,0⟩).val.toNat else []⟩
def mw(p:Prog)(m:aO)(t:Nat)(s:Int):aO×Request:=
 if s=1 then(if GP p m (cg m t)=0 then(m,K8 p m (cg m t) t) else(iZ m m.memory t (iV (cg m t) (GP p m (cg m t))),⟨t,2,GP p m (cg m t),(cg m t).count,(cg m t).pc,0,[],[]⟩))
 else(m,⟨t,s,if s=2 then(cg m t).dn else 0,(cg m t).count,(cg m t).pc,0,[],[]⟩)
def gN(p:Prog)(m:aO)(t n:Int):aO×Request×Int:=
 if jU p m=true/\(0<=t/\t<4)/\1<=n/\n<=64 then((mw p (dN p m t.toNat n).1 t.toNat (dN p m t.toNat n).2).1,(mw p (dN p m t.toNat n).1 t.toNat (dN p m t.toNat n).2).2,0) else(iT,xm,1)
def ep.look{m:aF}(h:ql m)(a:Nat):jd (look m a):=by
 unfold Go.Proofs.YtdngefmliibcgaaGreat.look;split
 ·exact(h.line _).getD _
 ·exact h.cells.getD _
def Wy(aD an:List Int)(n:Nat)(c:Int)(bz:List Cell):vx aD an n c bz=0\/vx aD an n c bz=6:=by
 unfold vx;split
 ·exact .inr rfl
 split
 ·exact .inr rfl
 split
 ·exact .inr rfl
 ·exact .inl rfl
def yV(h:vx aD an n c bz=0):iH (de c) (mD c bz)=true/\(0<mC c->(kh aD an (bz.getD 1 ⟨0,0⟩) (bz.getD 2 ⟨0,0⟩).val).2=0/\(bz.getD 2 ⟨0,0⟩).val<=16):=by
 rw[CX]at h;split at h
 ·cases h
 rename_i h1;split at h
 ·cases h
 rename_i h2;refine⟨by simpa using h1,fun hb=> ?_⟩;refine acL fun hn=>h2 ⟨hb,?_⟩;by_cases e:(kh aD an (bz.getD 1 ⟨0,0⟩) (bz.getD 2 ⟨0,0⟩).val).2=0
 ·exact .inr (by omega)
 ·exact .inl e
def JP(hL:ov aD an){x:Cell}{n:Int}(h:(kh aD an x n).2=0):x.tag=1/\0<=n/\0<=x.val/\x.val+n<=512:=by
 unfold kh at h;split at h
 case isFalse=>cases h
 rename_i h1;split at h
 case isFalse=>cases h
 rename_i h2;split at h
 ·cases h
 rename_i h3;split at h
 ·cases h
 rename_i h4;obtain⟨k,hk,qT,e,b1,b2⟩:=jY h2;have bb:=hL.base k hk qT;have zz:=hL.sz.elem k qT;have Cr:nth an k=an[k]:=dC qT;rw[e]at h4;simp only[aaH,Cr]at h4;refine⟨h1,by omega,by omega,by omega⟩
@[simp]def adt(ax:List Instr)(ae:List Int)(ay:List (List Int))(aa:List Int)(aq:Int)(ak:List Cell)(ah:List cy)(au:List Thread)(t n:Int)(hp:BR (Prog.mk ax ae ay))(hm:zG (aO.mk (Layout.mk aa aq) (aF.mk ak ah) au))(hr:An (aO.mk (Layout.mk aa aq) (aF.mk ak ah) au))(hc: ¬(jU (Prog.mk ax ae ay) (aO.mk (Layout.mk aa aq) (aF.mk ak ah) au)=true/\(0<=t/\t<4)/\1<=n/\n<=64)):nr X [(0,4,112)] 193 [KKQ ax ae ay,KKY aa aq ak ah au,.int .i64 t,.int .i64 n]=some (.dM [KKK iT,.int .i64 0,.int .i64 1]):=by
 unfold iT;refine aaC ?_;by_cases hv:jU (Prog.mk ax ae ay) (aO.mk (Layout.mk aa aq) (aF.mk ak ah) au)=true
 case neg=>
  simp[hp,hm,hv]
 by_cases h0:0<=t
 case neg=>
  have K4:t<0:=by omega
  simp[hp,hm,hv,K4]
 have K4: ¬t<0:=by omega
 by_cases h4:t<4
 case neg=>
  have h4':4<=t:=by omega
  simp[hp,hm,hv,K4,h4']
 have h4': ¬4<=t:=by omega
 by_cases n1:1<=n
 case neg=>
  have XQ:n<1:=by omega
  simp[hp,hm,hv,K4,h4',XQ]
 have XQ: ¬n<1:=by omega
 have RN:64<n:=by
  refine acL fun e=>hc ⟨hv,⟨h0,h4⟩,n1,by omega⟩
 simp[hp,hm,hv,K4,h4',XQ,RN]
@[simp]def RP(ax:List Instr)(ae:List Int)(ay:List (List Int))(aa:List Int)(aq:Int)(ak:List Cell)(ah:List cy)(au:List Thread)(t n:Int)(hp:BR (Prog.mk ax ae ay))(hm:zG (aO.mk (Layout.mk aa aq) (aF.mk ak ah) au))(hr:An (aO.mk (Layout.mk aa aq) (aF.mk ak ah) au)):nr X [(0,4,112)] 118 [KKQ ax ae ay,KKY aa aq ak ah au,.int .i64 t,.int .i64 n]=some (.dM [KKK ((gN (Prog.mk ax ae ay) (aO.mk (Layout.mk aa aq) (aF.mk ak ah) au) t n).1),KKW ((gN (Prog.mk ax ae ay) (aO.mk (Layout.mk aa aq) (aF.mk ak ah) au) t n).2.1),.int .i64 ((gN (Prog.mk ax ae ay) (aO.mk (Layout.mk aa aq) (aF.mk ak ah) au) t n).2.2)]):=by
 refine aaC ?_;by_cases hc:jU (Prog.mk ax ae ay) (aO.mk (Layout.mk aa aq) (aF.mk ak ah) au)=true/\(0<=t/\t<4)/\1<=n/\n<=64
 case neg=>
  have e:gN (Prog.mk ax ae ay) (aO.mk (Layout.mk aa aq) (aF.mk ak ah) au) t n=(iT,xm,1):=if_neg hc;have rK:=adt ax ae ay aa aq ak ah au t n hp hm hr hc;rw[e];unfold iT xm;unfold iT at rK;simp[rK]
 have e:gN (Prog.mk ax ae ay) (aO.mk (Layout.mk aa aq) (aF.mk ak ah) au) t n=((mw (Prog.mk ax ae ay) (dN (Prog.mk ax ae ay) (aO.mk (Layout.mk aa aq) (aF.mk ak ah) au) t.toNat n).1 t.toNat (dN (Prog.mk ax ae ay) (aO.mk (Layout.mk aa aq) (aF.mk ak ah) au) t.toNat n).2).1,(mw (Prog.mk ax ae ay) (dN (Prog.mk ax ae ay) (aO.mk (Layout.mk aa aq) (aF.mk ak ah) au) t.toNat n).1 t.toNat (dN (Prog.mk ax ae ay) (aO.mk (Layout.mk aa aq) (aF.mk ak ah) au) t.toNat n).2).2,0):=if_pos hc;rw[e];have rK:=akx ax ae ay aa aq ak ah au t n hr hc.1 hc.2.1 hc.2.2;obtain⟨hv,ht,hn⟩:=hc;obtain⟨k,rfl⟩:=aaG ht.1;have k4:k<4:=by omega
 have EH:(k:Int)<4:=by omega
 have MG:=yN hr hv;simp only[aaH]at rK⊢;have SG:(dN (Prog.mk ax ae ay) (aO.mk (Layout.mk aa aq) (aF.mk ak ah) au) k n).2=3/\db (Prog.mk ax ae ay) (1099511627776+n) (dN (Prog.mk ax ae ay) (aO.mk (Layout.mk aa aq) (aF.mk ak ah) au) k n).1\/AY (Prog.mk ax ae ay) (1099511627776+n) k (dN (Prog.mk ax ae ay) (aO.mk (Layout.mk aa aq) (aF.mk ak ah) au) k n):=by
  by_cases hs:(cg (aO.mk (Layout.mk aa aq) (aF.mk ak ah) au) k).state=1
  ·exact .inr (C0 MG k4 hn.1 hs)
  ·have e1:dN (Prog.mk ax ae ay) (aO.mk (Layout.mk aa aq) (aF.mk ak ah) au) k n=((aO.mk (Layout.mk aa aq) (aF.mk ak ah) au),3):=by unfold dN;exact if_neg hs
   rw[e1];exact .inl ⟨rfl,MG.mono (by omega)⟩
 obtain⟨⟨⟨bs,key⟩,⟨cs,ls⟩,ts⟩,s,hms⟩: ∃mm s,dN (Prog.mk ax ae ay) (aO.mk (Layout.mk aa aq) (aF.mk ak ah) au) k n=(mm,s):=⟨_,_,rfl⟩;rw[hms]at rK SG⊢;simp only at rK SG⊢;have HG:db (Prog.mk ax ae ay) (1099511627776+n) ⟨⟨bs,key⟩,⟨cs,ls⟩,ts⟩:=by
  rcases SG with h|h
  ·exact h.2
  ·exact h.NN
 have hl:ts.length=4:=HG.len;have kl:k<ts.length:=by omega
 have hx:cg ⟨⟨bs,key⟩,⟨cs,ls⟩,ts⟩ k=ts[k]:=iS kl;have pn:=HG.pg k kl;simp only at pn;obtain⟨⟨st,rg,pc,co,ha,sa,tr,cd⟩,pO⟩: ∃x,ts[k]=x:=⟨_,rfl⟩;rw[pO]at hx pn;have h8:rg.length=8:=pn.bz;have tM: ∀(f:Thread->V),List.take 4 (ts.map f)=ts.map f:=fun f=>aZ (by simp;omega);have RQ: ∀(f:Thread->Option V),List.take 4 (ts.map f)=ts.map f:=fun f=>aZ (by simp;omega);by_cases s1:s=1
 case neg=>
  have e2:mw (Prog.mk ax ae ay) ⟨⟨bs,key⟩,⟨cs,ls⟩,ts⟩ k s=(⟨⟨bs,key⟩,⟨cs,ls⟩,ts⟩,⟨k,s,if s=2 then tr else 0,co,pc,0,[],[]⟩):=by
   unfold mw;rw[if_neg s1,hx]
  rw[e2];by_cases s2:s=2
  ·subst s2;simp[rK,tM,k9,hl,k4,EH,pO]
  ·simp[rK,tM,k9,hl,k4,EH,pO,s1,s2]
 subst s1;have SG1:AY (Prog.mk ax ae ay) (1099511627776+n) k (⟨⟨bs,key⟩,⟨cs,ls⟩,ts⟩,1):=by
  rcases SG with h|h
  ·exact absurd h.1 (by decide)
  ·exact h
 obtain⟨c1,c2,c3,c4⟩:=SG1.calls rfl;simp only[hx]at c1 c2 c3 c4;have hL:=HG.lay;have XK:ax.length<=64:=HG.prog.rp;have Fo:=pn.cells.RD;simp only at hL Fo;have LF:ts.getD (k:Int).toNat cw=⟨st,rg,pc,co,ha,sa,tr,cd⟩:=by rw[aaH];simp[List.getD,kl,pO]
 obtain⟨j,hj⟩: ∃j:Nat,pc-1=j:=⟨(pc-1).toNat,by omega⟩;have tH:j<ax.length:=by omega
 have Rw:(j:Int)<ax.length:=by omega
 have yf:kQ ax pc=ax[j]:=by unfold kQ;rw[hj];simp[List.getD,tH]
 have hwp:IntKind.i64.wrap (pc-1)=j:=by rw[hj];exact wrap_i64 (by omega)
 have hI:=HG.prog.AW (p:=(Prog.mk ax ae ay)) tH;simp only at hI;rw[yf]at c4;have Wz:0<=(ax[j]).ed/\(ax[j]).ed<=15:=⟨hI.ed.1,hI.sys c4⟩;have O5:=Ik ax ae ay bs key cs ls ts k hl ⟨by omega,EH⟩ hL (by omega) (by rw[LF];exact h8) (by rw[LF];exact Fo) (by rw[LF];exact⟨c2,c3⟩) (by rw[LF];simp only;rw[yf];exact Wz);rw[LF]at O5;simp only[yf]at O5;obtain⟨c,s7⟩: ∃c,(ax[j]).ed=c:=⟨_,rfl⟩;rw[s7]at O5 Wz;have hco:pV (Prog.mk ax ae ay) ⟨st,rg,pc,co,ha,sa,tr,cd⟩=c:=by unfold pV;simp only;rw[yf,s7]
 obtain⟨w,hw⟩: ∃w,vx bs ae ax.length c rg=w:=⟨_,rfl⟩;rw[hw]at O5;have hwy:GP (Prog.mk ax ae ay) ⟨⟨bs,key⟩,⟨cs,ls⟩,ts⟩ ⟨st,rg,pc,co,ha,sa,tr,cd⟩=w:=by unfold GP;rw[hco];exact hw
 by_cases w0:w=0
 case neg=>
  have e2:mw (Prog.mk ax ae ay) ⟨⟨bs,key⟩,⟨cs,ls⟩,ts⟩ k 1=(⟨⟨bs,key⟩,⟨cs,ls⟩,ts.set k (iV ⟨st,rg,pc,co,ha,sa,tr,cd⟩ w)⟩,⟨k,2,w,co,pc,0,[],[]⟩):=by
   unfold mw;rw[if_pos rfl,hx,hwy,if_neg w0];rfl
  rw[e2];obtain⟨Cl,Ei⟩: ∃Cl,ts.set k (iV ⟨st,rg,pc,co,ha,sa,tr,cd⟩ w)=Cl:=⟨_,rfl⟩;have zR:Cl.length=4:=by rw[<-Ei];simp[hl]
  have K9: ∀(f:Thread->V),List.take 4 (Cl.map f)=Cl.map f:=fun f=>aZ (by simp;omega);have aky: ∀(f:Thread->Option V),List.take 4 (Cl.map f)=Cl.map f:=fun f=>aZ (by simp;omega);have lb:(ts.map Thread.e).set k (V.agg [.int .i64 4,rg,.int .i64 pc,.int .i64 co,.int .i64 ha,.int .i64 sa,.int .i64 w,.int .u16 0])=Cl.map Thread.e:=by rw[<-Ei,abL];rfl
  have akz:(Thread.e ⟨st,rg,pc,co,ha,sa,tr,cd⟩).put 0 (V.agg [.int .i64 4,rg,.int .i64 pc,.int .i64 co,.int .i64 ha,.int .i64 sa,.int .i64 w,.int .u16 0])=V.agg [.int .i64 4,rg,.int .i64 pc,.int .i64 co,.int .i64 ha,.int .i64 sa,.int .i64 w,.int .u16 0]:=rfl;rw[Ei];simp[rK,tM,K9,k9,hl,zR,k4,EH,pO,h8,O5,w0,lb,akz]
 subst w0;obtain⟨hf,YW⟩:=yV hw;have k3:=pf Wz;have e2:mw (Prog.mk ax ae ay) ⟨⟨bs,key⟩,⟨cs,ls⟩,ts⟩ k 1=(⟨⟨bs,key⟩,⟨cs,ls⟩,ts⟩,⟨k,1,0,co,pc,c,gP bs key ae rg (de c).length,if mC c=1 then mu bs key ae ⟨cs,ls⟩ (rg.getD 1 ⟨0,0⟩).val.toNat (rg.getD 2 ⟨0,0⟩).val.toNat else []⟩):=by
  unfold mw;rw[if_pos rfl,hx,hwy,if_pos rfl];unfold K8;simp only[hco]
 rw[e2];have r0:=pn.cells;simp only at r0;have l1:1<rg.length:=by omega
 have l2:2<rg.length:=by omega
 obtain⟨⟨r1t,Rx⟩,e1⟩: ∃x,rg[1]'l1=x:=⟨_,rfl⟩;obtain⟨⟨r2t,r2v⟩,e3⟩: ∃x,rg[2]'l2=x:=⟨_,rfl⟩;have g1:rg.getD 1 ⟨0,0⟩=⟨r1t,Rx⟩:=by simp[List.getD,h8,e1]
 have g2:rg.getD 2 ⟨0,0⟩=⟨r2t,r2v⟩:=by simp[List.getD,h8,e3]
 rw[g1,g2];simp only;have v1:=(e1▸r0.at l1).2;have v2:=(e3▸r0.at l2).2;simp only at v1 v2;simp[rK,tM,hl,k4,EH,pO,O5,tH,Rw,hwp,s7];refine cZ (fun i S=>(S.f 4= .ptr 4 0 0/\S.h 4=some ⟨3,[KKQ ax ae ay],true⟩/\S.f 8= .ptr 8 0 0/\S.h 8=some ⟨5,[KKY ([]:List Int) 0 ([]:List Cell) ([]:List cy) ([]:List Thread)],true⟩/\S.f 9= .ptr 9 0 0/\S.h 9=some ⟨8,[KKZ 0 0 0 0 0 0 ([]:List Canon) ([]:List Canon)],true⟩/\S.f 11= .ptr 11 0 0/\S.h 1000=some ⟨8,(⟨⟨bs,key⟩,⟨cs,ls⟩,ts⟩:aO).threads.map Thread.e,false⟩/\S.h 11=some ⟨5,[.agg [.sl false ((⟨⟨bs,key⟩,⟨cs,ls⟩,ts⟩:aO).layout.aD.map (V.int .i64)),.int .u16 (⟨⟨bs,key⟩,⟨cs,ls⟩,ts⟩:aO).layout.key,.sl false ((⟨⟨bs,key⟩,⟨cs,ls⟩,ts⟩:aO).memory.cells.map Cell.e),.sl false ((⟨⟨bs,key⟩,⟨cs,ls⟩,ts⟩:aO).memory.lines.map cy.e),.cu 1000 0 ((⟨⟨bs,key⟩,⟨cs,ls⟩,ts⟩:aO).threads.map Thread.e).length]],true⟩/\S.f 14= .ptr 14 0 0/\S.h 14=some ⟨8,[KKe (⟨st,rg,pc,co,ha,sa,tr,cd⟩:Thread)],true⟩/\S.f 15= .ptr 15 0 0/\S.h 1001=some ⟨4,(⟨(k:Int),1,0,co,pc,c,gP bs key ae rg i,[]⟩:Request).args.map Canon.e,false⟩/\S.h 1002=some ⟨4,(⟨(k:Int),1,0,co,pc,c,gP bs key ae rg i,[]⟩:Request).data.map Canon.e,false⟩/\S.h 15=some ⟨8,[.agg [.int .i64 (⟨(k:Int),1,0,co,pc,c,gP bs key ae rg i,[]⟩:Request).dd,.int .i64 (⟨(k:Int),1,0,co,pc,c,gP bs key ae rg i,[]⟩:Request).stop,.int .i64 (⟨(k:Int),1,0,co,pc,c,gP bs key ae rg i,[]⟩:Request).dn,.int .i64 (⟨(k:Int),1,0,co,pc,c,gP bs key ae rg i,[]⟩:Request).count,.int .i64 (⟨(k:Int),1,0,co,pc,c,gP bs key ae rg i,[]⟩:Request).pc,.int .i64 (⟨(k:Int),1,0,co,pc,c,gP bs key ae rg i,[]⟩:Request).call,.cu 1001 0 ((⟨(k:Int),1,0,co,pc,c,gP bs key ae rg i,[]⟩:Request).args.map Canon.e).length,.cu 1002 0 ((⟨(k:Int),1,0,co,pc,c,gP bs key ae rg i,[]⟩:Request).data.map Canon.e).length]],true⟩/\S.f 80= .int .i64 (((de c).length:Int))/\S.f 81=(i:Int)/\S.n=1103)/\True) ((de c).length) (by omega) ?_ ?_ ?_
 ·rintro i S ⟨pq,ie,bL⟩ ⟨df,fp⟩;have i8:i<8:=by omega
  have XO:(i:Int)<8:=by omega
  have il:i<rg.length:=by omega
  have up:=C5 (aD:=bs) (key:=key) (an:=ae) il;have len:=uq (aD:=bs) (key:=key) (an:=ae) (bz:=rg) (i:=i) (by omega);obtain⟨⟨ct,cv⟩,sw⟩: ∃x,rg[i]=x:=⟨_,rfl⟩;have LH:=(sw▸r0.at il).2;simp only at LH;rw[sw]at up;simp[df,ie,bL,h8,i8,XO,sw,hL,LH,Cell.bS,up,len];all_goals ((repeat' (first|apply And.intro|intro _))<;>first|omega|rfl|exact aZ (by simp[len]))
 ·rintro S ⟨df,fp⟩;by_cases hb:mC c=1
  case neg=>
   have wL:=eq_false hb;simp[df,tM,k9,hl,wL]
  have wL:=eq_true hb;have H8:=YW (by omega);rw[g1,g2]at H8;obtain⟨_,w2,w3,w4⟩:=JP hL H8.1;simp only at w2 w3 w4;obtain⟨a1,rfl⟩:=aaG w3;obtain⟨n2,rfl⟩:=aaG w2;have n16:n2<=16:=by have:=H8.2;simp only at this;omega
  have tz:IntKind.i64.wrap (a1:Int)=a1:=wrap_i64 (by omega);have Ht:IntKind.i64.wrap (n2:Int)=n2:=wrap_i64 (by omega);have hM:uf ⟨cs,ls⟩:=HG.mem.mem;simp[df,wL,h8,e3,Cell.bS,Ht];refine cZ (fun jj S=>(S.f 4= .ptr 4 0 0/\S.h 4=some ⟨3,[KKQ ax ae ay],true⟩/\S.f 8= .ptr 8 0 0/\S.h 8=some ⟨5,[KKY ([]:List Int) 0 ([]:List Cell) ([]:List cy) ([]:List Thread)],true⟩/\S.f 9= .ptr 9 0 0/\S.h 9=some ⟨8,[KKZ 0 0 0 0 0 0 ([]:List Canon) ([]:List Canon)],true⟩/\S.f 11= .ptr 11 0 0/\S.h 1000=some ⟨8,(⟨⟨bs,key⟩,⟨cs,ls⟩,ts⟩:aO).threads.map Thread.e,false⟩/\S.h 11=some ⟨5,[.agg [.sl false ((⟨⟨bs,key⟩,⟨cs,ls⟩,ts⟩:aO).layout.aD.map (V.int .i64)),.int .u16 (⟨⟨bs,key⟩,⟨cs,ls⟩,ts⟩:aO).layout.key,.sl false ((⟨⟨bs,key⟩,⟨cs,ls⟩,ts⟩:aO).memory.cells.map Cell.e),.sl false ((⟨⟨bs,key⟩,⟨cs,ls⟩,ts⟩:aO).memory.lines.map cy.e),.cu 1000 0 ((⟨⟨bs,key⟩,⟨cs,ls⟩,ts⟩:aO).threads.map Thread.e).length]],true⟩/\S.f 14= .ptr 14 0 0/\S.h 14=some ⟨8,[KKe (⟨st,rg,pc,co,ha,sa,tr,cd⟩:Thread)],true⟩/\S.f 15= .ptr 15 0 0/\S.h 1001=some ⟨4,(⟨(k:Int),1,0,co,pc,c,gP bs key ae rg (de c).length,mu bs key ae ⟨cs,ls⟩ a1 jj⟩:Request).args.map Canon.e,false⟩/\S.h 1002=some ⟨4,(⟨(k:Int),1,0,co,pc,c,gP bs key ae rg (de c).length,mu bs key ae ⟨cs,ls⟩ a1 jj⟩:Request).data.map Canon.e,false⟩/\S.h 15=some ⟨8,[.agg [.int .i64 (⟨(k:Int),1,0,co,pc,c,gP bs key ae rg (de c).length,mu bs key ae ⟨cs,ls⟩ a1 jj⟩:Request).dd,.int .i64 (⟨(k:Int),1,0,co,pc,c,gP bs key ae rg (de c).length,mu bs key ae ⟨cs,ls⟩ a1 jj⟩:Request).stop,.int .i64 (⟨(k:Int),1,0,co,pc,c,gP bs key ae rg (de c).length,mu bs key ae ⟨cs,ls⟩ a1 jj⟩:Request).dn,.int .i64 (⟨(k:Int),1,0,co,pc,c,gP bs key ae rg (de c).length,mu bs key ae ⟨cs,ls⟩ a1 jj⟩:Request).count,.int .i64 (⟨(k:Int),1,0,co,pc,c,gP bs key ae rg (de c).length,mu bs key ae ⟨cs,ls⟩ a1 jj⟩:Request).pc,.int .i64 (⟨(k:Int),1,0,co,pc,c,gP bs key ae rg (de c).length,mu bs key ae ⟨cs,ls⟩ a1 jj⟩:Request).call,.cu 1001 0 ((⟨(k:Int),1,0,co,pc,c,gP bs key ae rg (de c).length,mu bs key ae ⟨cs,ls⟩ a1 jj⟩:Request).args.map Canon.e).length,.cu 1002 0 ((⟨(k:Int),1,0,co,pc,c,gP bs key ae rg (de c).length,mu bs key ae ⟨cs,ls⟩ a1 jj⟩:Request).data.map Canon.e).length]],true⟩/\S.f 109= .int .i64 ((n2:Int))/\S.f 110=(jj:Int)/\S.n=1103)/\True) (n2) (by omega) ?_ ?_ ?_
  ·rintro jj S ⟨bpd,a9j,a0g⟩ ⟨mA,sF⟩;have up:=GO bs key ae ⟨cs,ls⟩ a1 jj;have len:=tL bs key ae ⟨cs,ls⟩ a1 jj;obtain⟨qa,hqa⟩: ∃q:Nat,a1+jj=q:=⟨_,rfl⟩;rw[hqa]at up;have haq:0<=(qa:Int)/\(qa:Int)<512:=by omega
   have JO:IntKind.i64.wrap ((a1:Int)+jj)=(qa:Int):=by rw[wrap_i64 (by omega)];omega
   have hlk:=ep.look HG.mem qa;simp only at hlk;obtain⟨⟨ct,cv⟩,sw⟩: ∃x,look ⟨cs,ls⟩ qa=x:=⟨_,rfl⟩;rw[sw]at up hlk;have LH:=hlk.2;simp only at LH;have Dq:=BF cs ls (qa:Int) hM haq;rw[aaH,sw]at Dq;simp[mA,a9j,a0g,h8,e1,Cell.bS,tz,JO,Dq,hL,LH,up,len];all_goals ((repeat' (first|apply And.intro|intro _))<;>first|omega|rfl|exact aZ (by simp[len]))
  ·rintro S ⟨mA,sF⟩;simp[mA,tM,k9,hl]
  ·simp[df]<;>(
    exact⟨rfl,rfl⟩)
 ·simp[]<;>(
   exact⟨hl.symm,uY ..,by rw[uY];rfl,by unfold uS;rw[if_neg (by omega)]⟩)
structure kJ (h:bh) (k:Nat) (S:Nat->Prop) (T:Nat) (vB vC vL:V) (es:List V) (m:aO):Prop where
 lt: ∀i,S i->i<k
 adu:S T
 row:h T=some ⟨8,es,true⟩
 len:es.length=4
 ak0:m.threads.length=4
 ate: ∀i (g:i<es.length) (g':i<m.threads.length),∃vR,es[i]= .agg [.int .i64 (m.threads[i]).state,vR,.int .i64 (m.threads[i]).pc,.int .i64 (m.threads[i]).count,.int .i64 (m.threads[i]).cn,.int .i64 (m.threads[i]).saved,.int .i64 (m.threads[i]).dn,.int .u16 (m.threads[i]).code]
 ed: ∀hx:bh,(∀i,S i->i≠T->hx i=h i)-> ∀d,cx hx (d+3) vB=some (.sl false (m.layout.aD.map (V.int .i64)))/\cx hx (d+3) vC=some (.sl false (m.memory.cells.map Cell.e))/\
  cx hx (d+3) vL=some (.sl false (m.memory.lines.map cy.e))/\cF (es.map (cx hx (d+3)))=some (m.threads.map Thread.e)
def kJ.mono(H:kJ h k S T vB vC vL es m)(hk:k<=k')(hh: ∀i,S i->h' i=h i):kJ h' k' S T vB vC vL es m:=by
 obtain⟨h1,h2,h3,h4,h5,h6,h7⟩:=H;exact⟨fun i hi=>by have:=h1 i hi;omega,h2,by rw[hh _ h2,h3],h4,h5,h6,fun hx AA d=>h7 hx (fun i hi hT=>by rw[AA i hi hT,hh i hi]) d⟩
def RR(hx:bh)(d:Nat)(x:Thread):cx hx (d+3) (Thread.e x)=some (Thread.e x):=by
 simp[Thread.bS,cx,cF]
def DL(hx:bh)(d:Nat): ∀l:List Thread,cF ((l.map Thread.e).map (cx hx (d+3)))=some (l.map Thread.e)
 | []=>rfl
 |a::l=>by simp only[aaU];rw[RR];rw[cF.eq_3,DL hx d l]
def kJ.flat(hT:h T=some ⟨8,m.threads.map Thread.e,true⟩)(hl:m.threads.length=4)(hk:T<k):
  kJ h k (fun i=>i=T) T (.sl false (m.layout.aD.map (V.int .i64))) (.sl false (m.memory.cells.map Cell.e)) (.sl false (m.memory.lines.map cy.e)) (m.threads.map Thread.e) m:=by
 refine⟨fun i hi=>by rw[hi];exact hk,rfl,hT,by simp[hl],hl,fun i g g'=>⟨.sl false ((m.threads[i]).bz.map Cell.e),?_⟩,fun hx _ d=>⟨by simp[cx],by simp[cx],by simp[cx],DL hx d _⟩⟩;simp[Thread.bS]
def WA(vB:V)(C L T:Nat)(ids bu:Nat->Nat)(i:Nat):Prop:=i=C\/i=L\/i=T\/(∃j,j<4/\(i=ids j\/i=bu j))\/ ∃s n,vB= .cu i s n
def N0{l:List Thread}(g:i<(cG ids l).length)(g':i<l.length):(cG ids l)[i]=dJ ids i l[i]:=by
 simp[cG]
def kJ.deep(H:gW h k vB C L T ids bu m):kJ h k (WA vB C L T ids bu) T vB (.cu C 0 512) (.cu L 0 4) (cG bu m.threads) m:=by
 have hl:=H.len;have tw:=H.mp.lines;have Xj:=H.mp.len;refine⟨fun i hi=> ?_,.inr (.inr (.inl rfl)),H.pg,by rw[fA,hl],hl,fun i g g'=>⟨.cu (bu i) 0 (m.threads[i]).bz.length,?_⟩,fun hx AA d=> ?_⟩
 ·rcases hi with rfl|rfl|rfl|⟨j,hj,rfl|rfl⟩|⟨s,n,e⟩
  ·exact H.lt.1
  ·exact H.lt.2.1
  ·exact H.xg.2.2
  ·exact H.lt.2.2 j hj
  ·exact(H.qS j hj).2.2.2
  ·rcases H.aD with q|⟨B,q,_,g2,_⟩
   ·rw[q]at e;cases e
   ·rw[q]at e;cases e;exact g2.2.2.2
 ·rw[N0 g g'];rfl
 ·have nC:C≠T:=fun e=>H.xg.1 e.symm;have nL:L≠T:=fun e=>H.xg.2.1 e.symm;have xC:=AA C (.inl rfl) nC;have xL:=AA L (.inr (.inl rfl)) nL;have xI: ∀j,j<4->hx (ids j)=h (ids j):=fun j hj=>AA _ (.inr (.inr (.inr (.inl ⟨j,hj,.inl rfl⟩)))) (H.RK j hj);have xR: ∀j,j<4->hx (bu j)=h (bu j):=fun j hj=>AA _ (.inr (.inr (.inr (.inl ⟨j,hj,.inr rfl⟩)))) (H.qS j hj).2.2.1;have e1:=H.ED (hx:=hx) xR (d+1);have e2:=H.zK (hx:=hx) xI d;have l2:=jh ids m.memory.lines;have t2:(fU ids m.memory.lines).take 4=fU ids m.memory.lines:=aZ (by omega);have t3:(m.memory.cells.map Cell.e).take 512=m.memory.cells.map Cell.e:=aZ (by simp;omega);refine⟨?_,?_,?_,e1⟩
  ·rcases H.aD with q|⟨B,q,g1,g2,g3,g4⟩
   ·rw[q];simp[cx]
   ·have xB:=AA B (.inr (.inr (.inr (.inr ⟨_,_,q⟩)))) g2.2.2.1;rw[q];simp[cx,xB,g1]
  ·simp[cx,xC,H.mem.cells,Xj,t3]
  ·simp[cx,xL,H.mem.lines,l2,tw,t2,e2]
def GQ(l:List Cell):(l.map Cell.e).all V.LN=true:=by
 rw[aaP];intro x hx;obtain⟨c,_,rfl⟩:=List.mem_map.1 hx;rfl
def TA(l:List Int):(l.map (V.int .i64)).all V.LN=true:=by
 rw[aaP];intro x hx;obtain⟨c,_,rfl⟩:=List.mem_map.1 hx;rfl
def WB(ids:Nat->Nat)(l:List cy):(fU ids l).all V.LN=true:=by
 rw[aaP];intro x hx;obtain⟨i,hi,rfl⟩:=abE hx;simp[fU,JA,V.LN,V.SB]
def N1(ids:Nat->Nat)(l:List Thread):(cG ids l).all V.LN=true:=by
 rw[aaP];intro x hx;obtain⟨i,hi,rfl⟩:=abE hx;simp[cG,dJ,V.LN,V.SB]
def gW.pure(H:gW h k vB C L T ids bu m):gW (fun i=>kL (h i)) k vB C L T ids bu m:=by
 obtain⟨h0,h1,h2,h3,h4,h5,h6,h7,h9,zx,FP,LC,h13⟩:=H;refine⟨h0,⟨by simp only[h1.cells,kL,GQ,if_true],by simp only[h1.lines,kL,WB,if_true],fun i g=>by simp only[h1.line i g,kL,GQ,if_true]⟩,h2,h3,?_,by simp only[h5,kL,N1,if_true],fun i g=>by simp only[h6 i g,kL,GQ,if_true],h7,h9,zx,FP,LC,h13⟩;rcases h4 with e|⟨B,e,g1,g2⟩
 ·exact .inl e
 ·exact .inr ⟨B,e,by simp only[g1,kL,TA,if_true],g2⟩
def gW.put      (H:gW h k vB C L T ids bu m)  (hA:oT a vB C L T ids bu) (hk:k<=k')  (ht:t<4) {x:Thread}
  (hT:h' T=some ⟨8,cG bu (m.threads.set t x),true⟩) (hR:h' (bu t)=some ⟨2,x.bz.map Cell.e,false⟩) (hh: ∀i,a<=i->i<k->i≠T->i≠bu t->h' i=h i):gW h' k' vB C L T ids bu (iZ m m.memory t x):=by
 obtain⟨h0,h1,h2,h3,h4,h5,h6,h7,h9,zx,FP,LC,h13⟩:=H;obtain⟨⟨aC,aL,aT⟩,aI,aB⟩:=hA;obtain⟨r3,r4,r5,r6⟩:=FP t ht;refine⟨h0,⟨by rw[hh _ aC h3.1 (aaW h9.1) (aaW r3)];exact h1.cells,by rw[hh _ aL h3.2.1 (aaW h9.2.1) (aaW r4)];exact h1.lines,fun i g=> ?_⟩,h2,⟨by omega,by omega,fun i hi=>by have:=h3.2.2 i hi;omega⟩,?_,hT,fun i g=> ?_,by simp[iZ,h7],⟨h9.1,h9.2.1,by omega⟩,zx,fun i hi=>by have:=FP i hi;omega,LC,h13⟩
 ·have hi:i<4:=by have:=h0.lines;simp only[iZ]at g;omega
  rw[hh _ (aI i hi).1 (h3.2.2 i hi) (zx i hi) (LC t i ht hi)];exact h1.line i g
 ·rcases h4 with e|⟨B,e,g1,g2,g3,g4⟩
  ·exact .inl e
  ·exact .inr ⟨B,e,by rw[hh _ (aB _ _ _ e) g2.2.2.2 g2.2.2.1 (aaW (g4 t ht)),g1];rfl,⟨g2.1,g2.2.1,g2.2.2.1,by omega⟩,g3,g4⟩
 ·simp only[iZ,aaN]at g;simp only[iZ,abk];split
  ·rename_i e;subst e;exact hR
  ·rename_i e;rw[hh _ (aI i (by omega)).2 (FP i (by omega)).2.2.2 (FP i (by omega)).2.2.1 (h13 i t (by omega) ht (fun h=>e h.symm)),h6 i g]
def WA.N2(H:oT a vB C L T ids bu): ∀i,WA vB C L T ids bu i->a<=i:=fun i hi=>by
 obtain⟨⟨aC,aL,aT⟩,aI,aB⟩:=H;rcases hi with rfl|rfl|rfl|⟨j,hj,rfl|rfl⟩|⟨s,n,e⟩
 ·exact aC
 ·exact aL
 ·exact aT
 ·exact(aI j hj).1
 ·exact(aI j hj).2
 ·exact aB _ _ _ e
def La(p:Prog)(d:Int)(lay:Layout)(h:bh)(k:Nat)(S:Nat->Prop)(v:V)(h':bh)(k':Nat):Prop:=
 ∃(b:Bool) (S':Nat->Prop) (T':Nat) (XS XT XU:V) (Ae:List V) (m':aO),v= .dM [KKD XS m'.layout.key XT XU (.cu T' 0 4),.bool b]/\kJ h' k' S' T' XS XT XU Ae m'/\db p d m'/\m'.layout=lay/\k<=k'/\(∀i,i<k->h' i=h i)/\ ∀i,S' i->S i\/k<=i
def La.same{b:Bool}(HM:kJ h k S T vB vC vL es m)(HG:db p d m)(hB:Below k h h'):
  La p d m.layout h k S (.dM [KKD vB m.layout.key vC vL (.cu T 0 4),.bool b]) h' (k+n):=
 ⟨b,S,T,vB,vC,vL,es,m,rfl,HM.mono (by omega) fun i hi=>hB i (HM.lt i hi),HG,rfl,by omega,hB,fun i hi=> .inl hi⟩
def La.new{lay:Layout}{b:Bool}(H:gW h' (k+n) vB C L T ids bu m)(HA:oT k vB C L T ids bu)(HG:db p d m)(hl:m.layout=lay)(hB:Below k h h'):
  La p d lay h k S (.dM [KKD vB m.layout.key (.cu C 0 512) (.cu L 0 4) (.cu T 0 4),.bool b]) h' (k+n):=
 ⟨b,_,T,vB,_,_,_,m,rfl,.deep H,HG,hl,by omega,hB,fun i hi=> .inr (WA.N2 HA i hi)⟩
def dU.threads {h h':bh} {k k' b C L T:Nat} {vB:V} {ids bu kV:Nat->Nat} {m:aO} {XV:List Thread} (H:dU h k b vB C L T ids bu m) (hk:k<=k') (hl:XV.length=4) (hT:h' T=some ⟨8,cG kV XV,true⟩)
  (hR: ∀i (g:i<XV.length),h' (kV i)=some ⟨2,(XV[i]).bz.map Cell.e,false⟩) (hi: ∀i,i<4->kV i=bu i\/(k<=kV i/\kV i<k')) (mz: ∀i j,i<4->j<4->i≠j->kV i≠kV j)
  (hh: ∀i,i<k->i≠T->(∀j,j<4->i≠bu j)->h' i=h i):dU h' k' b vB C L T ids kV ⟨m.layout,m.memory,XV⟩:=by
 obtain⟨h1,h2,h3,h4,h0,h6,h7,h8,h9,zx⟩:=H;have gY:=h1.lt;refine⟨?_,?_,hT,hR,hl,⟨h6.1,h6.2.1,h6.2.2.1,by omega⟩,h7,fun i xY=> ?_,fun i j xY hj=> ?_,mz⟩
 ·have e:XV.length=m.threads.length:=by omega
  simp only[e];exact h1.eU hk (hh _ gY.1 (aaW h6.1) fun j hj=>aaW (h8 j hj).1) (hh _ gY.2.1 (aaW h6.2.1) fun j hj=>aaW (h8 j hj).2.1) (hh _ gY.2.2.1 (aaW h6.2.2.1) fun j hj=>aaW (h8 j hj).2.2.1) fun j hj=>hh _ (gY.2.2.2 j hj) (h7 j hj) fun i xY=>h9 i j xY hj
 ·rcases h2 with e|⟨B,e,g1,g2,g3,g4⟩
  ·exact .inl e
  ·refine .inr ⟨B,e,by rw[hh _ g2.2.2.2.2 g2.2.2.2.1 fun j hj=>aaW (g4 j hj),g1],by omega,g3,fun i xY=> ?_⟩;rcases hi i xY with q|q
   ·rw[q];exact g4 i xY
   ·have:=g2.2.2.2.2;omega
 ·obtain⟨a1,a3,a4,a5,a6⟩:=h8 i xY;rcases hi i xY with q|q
  ·rw[q];exact⟨a1,a3,a4,a5,by omega⟩
  ·have:=h6.2.2.2;have:=gY.1;have:=gY.2.1;have:=gY.2.2.1;exact⟨by omega,by omega,by omega,by omega,q.2⟩
 ·rcases hi i xY with q|q
  ·rw[q];exact h9 i j xY hj
  ·have:=gY.2.2.2 j hj;omega
def B3(B s n C L T:Nat)(m:aO):(jD (.cu B s n) C L T m).pu=true:=rfl
def oT.less(H:oT a vB C L T ids bu)(h:a'<=a):oT a' vB C L T ids bu:=by
 obtain⟨⟨aC,aL,aT⟩,aI,aB⟩:=H;exact⟨⟨by omega,by omega,by omega⟩,fun j hj=>by have:=aI j hj;omega,fun B s n e=>by have:=aB B s n e;omega⟩
def dU.other{b:Nat}(H:dU h k b vB C L T ids bu m)(hk:k<=k')(ha:a≠b/\a≠C/\a≠L/\a≠T)(hi: ∀j,j<4->a≠ids j/\a≠bu j)(hB: ∀B s n,vB= .cu B s n->a≠B)(hh: ∀i,i<k->i≠a->h' i=h i):dU h' k' b vB C L T ids bu m:=by
 obtain⟨h1,h2,h3,h4,h0,h6,h7,h8,h9,zx⟩:=H;have gY:=h1.lt;refine⟨h1.eU hk (hh _ gY.1 (aaW ha.1)) (hh _ gY.2.1 (aaW ha.2.1)) (hh _ gY.2.2.1 (aaW ha.2.2.1)) fun j hj=>hh _ (gY.2.2.2 j hj) (aaW (hi j hj).1),?_,by rw[hh _ h6.2.2.2 (aaW ha.2.2.2),h3],fun i g=>by rw[hh _ (h8 i (by omega)).2.2.2.2 (aaW (hi i (by omega)).2),h4 i g],h0,⟨h6.1,h6.2.1,h6.2.2.1,by omega⟩,h7,fun i hi=>by obtain⟨a1,a3,a4,a5,a6⟩:=h8 i hi;exact⟨a1,a3,a4,a5,by omega⟩,h9,zx⟩;rcases h2 with e|⟨B,e,g1,g2,g3,g4⟩
 ·exact .inl e
 ·exact .inr ⟨B,e,by rw[hh _ g2.2.2.2.2 (aaW (hB _ _ _ e)),g1],by omega,g3,g4⟩
def gW.threads      {XV:List Thread} (H:gW h k vB C L T ids bu m)  (hA:oT a vB C L T ids bu) (hk:k<=k') (hl:XV.length=4) (hT:h' T=some ⟨8,cG kV XV,true⟩)
  (hR: ∀i (g:i<XV.length),h' (kV i)=some ⟨2,(XV[i]).bz.map Cell.e,false⟩) (hi: ∀i,i<4->kV i=bu i\/(k<=kV i/\kV i<k')) (mz: ∀i j,i<4->j<4->i≠j->kV i≠kV j)
  (hh: ∀i,a<=i->i<k->i≠T->(∀j,j<4->i≠bu j)->h' i=h i):gW h' k' vB C L T ids kV ⟨m.layout,m.memory,XV⟩:=by
 obtain⟨h0,h1,h2,h3,h4,h5,h6,h7,h9,zx,FP,LC,h13⟩:=H;obtain⟨⟨aC,aL,aT⟩,aI,aB⟩:=hA;refine⟨h0,⟨by rw[hh _ aC h3.1 (aaW h9.1) fun j hj=>aaW (FP j hj).1];exact h1.cells,by rw[hh _ aL h3.2.1 (aaW h9.2.1) fun j hj=>aaW (FP j hj).2.1];exact h1.lines,fun i g=> ?_⟩,h2,⟨by omega,by omega,fun i hi=>by have:=h3.2.2 i hi;omega⟩,?_,hT,hR,hl,⟨h9.1,h9.2.1,by omega⟩,zx,fun i xY=> ?_,fun i j xY hj=> ?_,mz⟩
 ·have hi:i<4:=by have:=h0.lines;simp only at g;omega
  rw[hh _ (aI i hi).1 (h3.2.2 i hi) (zx i hi) fun j hj=>LC j i hj hi];exact h1.line i g
 ·rcases h4 with e|⟨B,e,g1,g2,g3,g4⟩
  ·exact .inl e
  ·refine .inr ⟨B,e,by rw[hh _ (aB _ _ _ e) g2.2.2.2 g2.2.2.1 fun j hj=>aaW (g4 j hj),g1],⟨g2.1,g2.2.1,g2.2.2.1,by omega⟩,g3,fun i xY=> ?_⟩;rcases hi i xY with q|q
   ·rw[q];exact g4 i xY
   ·have:=g2.2.2.2;omega
 ·obtain⟨a3,a4,a5,a6⟩:=FP i xY;rcases hi i xY with q|q
  ·rw[q];exact⟨a3,a4,a5,by omega⟩
  ·have:=h9.2.2;have:=h3.1;have:=h3.2.1;exact⟨by omega,by omega,by omega,q.2⟩
 ·rcases hi i xY with q|q
  ·rw[q];exact LC i j xY hj
  ·have:=h3.2.2 j hj;omega
def atf(cs:List V):(V.agg cs).pu=cs.all V.SB:=rfl
def GR(i s n:Nat):(V.cu i s n).pu=true:=rfl
def ak1(i s n:Nat):(V.cu i s n).SB=true:=rfl
def ak2(k:IntKind)(n:Int):(V.int k n).SB=true:=rfl
def gW.own{r:aO}(HA:gW h k vB C L T ids bu r):LO X h (jD vB C L T r) [(0,4,112)]=some (.agg (mr r)):=by
 have hT:=HA.pg;have hl:=HA.len;have tw:=HA.mp.lines;have Xj:=HA.mp.len;have nC: ¬C=T:=fun e=>HA.xg.1 e.symm;have nL: ¬L=T:=fun e=>HA.xg.2.1 e.symm;have u: ∀i,i≠T->aR h T none i=h i:=fun i hi=>by simp[aR,hi]
 have e1:=HA.ED (hx:=aR h T none) (fun i hi=>u _ (HA.qS i hi).2.2.1) 10;have e2:=HA.zK (hx:=aR h T none) (fun i hi=>u _ (HA.RK i hi)) 9;have l1:=fA bu r.threads;have l2:=jh ids r.memory.lines;rw[hl]at l1;rw[tw]at l2;have t1:(cG bu r.threads).take 4=cG bu r.threads:=aZ (by omega);have t2:(fU ids r.memory.lines).take 4=fU ids r.memory.lines:=aZ (by omega);have t3:(r.memory.cells.map Cell.e).take 512=r.memory.cells.map Cell.e:=aZ (by simp;omega);have t4:(r.threads.map Thread.e).take 4=r.threads.map Thread.e:=aZ (by simp;omega);unfold jD mr;rcases HA.aD with e|⟨B,e,g1,g2,g3,g4⟩
 ·simp[e,hT,hl,Xj,nC,nL,HA.mem.cells,HA.mem.lines,l1,l2,t1,t2,t3,e1,e2]
 ·have nB: ¬B=T:=g2.2.2.1;simp[e,g1,hT,hl,Xj,nB,nC,nL,HA.mem.cells,HA.mem.lines,l1,l2,t1,t2,t3,e1,e2]
@[simp]def ak3(aa:List Int)(aq:Int)(ak:List Cell)(ah:List cy)(au:List Thread)(p:Prog)(c:Int)(HG:db p c (aO.mk (Layout.mk aa aq) (aF.mk ak ah) au)):nr X [(0,4,112)] 103 [KKY aa aq ak ah au]=some ((KKK ((aO.mk (Layout.mk aa aq) (aF.mk ak ah) au)):V)):=by
 obtain⟨v,h',k',e,_,hv,HA,_⟩:=EG aa aq ak ah au 0 p c HG;unfold Go.Abs.nr;rw[e];simp only[hv];exact HA.own
def yW(m:aO)(t:Nat):aO:=⟨m.layout,m.memory,m.threads.set t {cg m t with saved:=(cg m t).pc,pc:=(cg m t).cn}⟩
@[simp]def WC(aa:List Int)(aq:Int)(ak:List Cell)(ah:List cy)(au:List Thread)(t:Int)(p:Prog)(c:Int)(HG:db p c (aO.mk (Layout.mk aa aq) (aF.mk ak ah) au))(ht:0<=t/\t<4)(hc:F9 (au.getD t.toNat cw)=true):nr X [(0,4,112)] 120 [KKY aa aq ak ah au,.int .i64 t]=some (.dM [KKK (yW (aO.mk (Layout.mk aa aq) (aF.mk ak ah) au) t.toNat),.bool true]):=by
 refine aaC ?_;obtain⟨k,rfl⟩:=aaG ht.1;have k4:k<4:=by omega
 have EH:(k:Int)<4:=by omega
 have hl:au.length=4:=HG.len;have kl:k<au.length:=by omega
 have TB:=ak3 aa aq ak ah au p c HG;have It:=yI aa aq ak ah au k ⟨by omega,by omega⟩ hl;rw[hc]at It;have hx:cg (aO.mk (Layout.mk aa aq) (aF.mk ak ah) au) k=au[k]:=iS kl;obtain⟨⟨st,rg,pc,co,ha,sa,tr,cd⟩,pO⟩: ∃x,au[k]=x:=⟨_,rfl⟩;rw[aaH];unfold yW;rw[hx,pO];obtain⟨Cl,Ei⟩: ∃Cl,au.set k ⟨st,rg,ha,co,ha,pc,tr,cd⟩=Cl:=⟨_,rfl⟩;have zR:Cl.length=4:=by rw[<-Ei];simp[hl]
 have tM: ∀(f:Thread->V),List.take 4 (au.map f)=au.map f:=fun f=>aZ (by simp;omega);have RQ: ∀(f:Thread->Option V),List.take 4 (au.map f)=au.map f:=fun f=>aZ (by simp;omega);have K9: ∀(f:Thread->V),List.take 4 (Cl.map f)=Cl.map f:=fun f=>aZ (by simp;omega);have aky: ∀(f:Thread->Option V),List.take 4 (Cl.map f)=Cl.map f:=fun f=>aZ (by simp;omega);have FJ:(Thread.e ⟨st,rg,pc,co,ha,sa,tr,cd⟩).put 5 (.int .i64 pc)=Thread.e ⟨st,rg,pc,co,ha,pc,tr,cd⟩:=rfl;have Dr:(Thread.e ⟨st,rg,pc,co,ha,pc,tr,cd⟩).put 2 (.int .i64 ha)=Thread.e ⟨st,rg,ha,co,ha,pc,tr,cd⟩:=rfl;have lb:(au.map Thread.e).set k (Thread.e ⟨st,rg,ha,co,ha,pc,tr,cd⟩)=Cl.map Thread.e:=by rw[<-Ei,abL]
 rw[Ei];simp[TB,It,K9,k9,hl,zR,k4,EH,pO,FJ,Dr,lb]
def fa{r:Nat}(h:((k:Int)+cQ) % an.length=(r:Int)):FT an cQ (bs,at_) k=(bs.set r at_,at_+nth an r+1+cQ/ (50*an.length) % 40):=by
 unfold FT;rw[h];rfl
def a0n(a cQ q g:Int)(hs:cQ % 1=0)(hq:1+cQ/ (1:Int) % 50=q)(hg:cQ/ (50*(1:Int)) % 40=g):fG [a] cQ=[q]:=by
 have hl:([a]:List Int).length=1:=rfl;have sG:((([a]:List Int).length:Nat):Int)=1:=rfl;have Es:cQ/ (50*((([a]:List Int).length:Nat):Int)) % 40=g:=by rw[sG];exact hg
 have e0:nG [a] cQ 0=(List.replicate 1 0,q):=by unfold nG;rw[<-hq];rfl
 unfold fG;rw[hl,iG,e0];rw[fa (k:=0) (r:=0) (by rw[sG];omega)];simp only[Es];rfl
def a0o(a b cQ q g:Int)(hs:cQ % 2=0)(hq:1+cQ/ (2:Int) % 50=q)(hg:cQ/ (50*(2:Int)) % 40=g):fG [a,b] cQ=[q,q+a+1+g]:=by
 have hl:([a,b]:List Int).length=2:=rfl;have sG:((([a,b]:List Int).length:Nat):Int)=2:=rfl;have Es:cQ/ (50*((([a,b]:List Int).length:Nat):Int)) % 40=g:=by rw[sG];exact hg
 have e0:nG [a,b] cQ 0=(List.replicate 2 0,q):=by unfold nG;rw[<-hq];rfl
 unfold fG;rw[hl,iG,iG,e0];rw[fa (k:=0) (r:=0) (by rw[sG];omega)];rw[fa (k:=1) (r:=1) (by rw[sG];omega)];simp only[Es];rfl
def a0p(a b cQ q g:Int)(hs:cQ % 2=1)(hq:1+cQ/ (2:Int) % 50=q)(hg:cQ/ (50*(2:Int)) % 40=g):fG [a,b] cQ=[q+b+1+g,q]:=by
 have hl:([a,b]:List Int).length=2:=rfl;have sG:((([a,b]:List Int).length:Nat):Int)=2:=rfl;have Es:cQ/ (50*((([a,b]:List Int).length:Nat):Int)) % 40=g:=by rw[sG];exact hg
 have e0:nG [a,b] cQ 0=(List.replicate 2 0,q):=by unfold nG;rw[<-hq];rfl
 unfold fG;rw[hl,iG,iG,e0];rw[fa (k:=0) (r:=1) (by rw[sG];omega)];rw[fa (k:=1) (r:=0) (by rw[sG];omega)];simp only[Es];rfl
def a0q(a b c cQ q g:Int)(hs:cQ % 3=0)(hq:1+cQ/ (3:Int) % 50=q)(hg:cQ/ (50*(3:Int)) % 40=g):fG [a,b,c] cQ=[q,q+a+1+g,q+a+1+g+b+1+g]:=by
 have hl:([a,b,c]:List Int).length=3:=rfl;have sG:((([a,b,c]:List Int).length:Nat):Int)=3:=rfl;have Es:cQ/ (50*((([a,b,c]:List Int).length:Nat):Int)) % 40=g:=by rw[sG];exact hg
 have e0:nG [a,b,c] cQ 0=(List.replicate 3 0,q):=by unfold nG;rw[<-hq];rfl
 unfold fG;rw[hl,iG,iG,iG,e0];rw[fa (k:=0) (r:=0) (by rw[sG];omega)];rw[fa (k:=1) (r:=1) (by rw[sG];omega)];rw[fa (k:=2) (r:=2) (by rw[sG];omega)];simp only[Es];rfl
def a0r(a b c cQ q g:Int)(hs:cQ % 3=1)(hq:1+cQ/ (3:Int) % 50=q)(hg:cQ/ (50*(3:Int)) % 40=g):fG [a,b,c] cQ=[q+b+1+g+c+1+g,q,q+b+1+g]:=by
 have hl:([a,b,c]:List Int).length=3:=rfl;have sG:((([a,b,c]:List Int).length:Nat):Int)=3:=rfl;have Es:cQ/ (50*((([a,b,c]:List Int).length:Nat):Int)) % 40=g:=by rw[sG];exact hg
 have e0:nG [a,b,c] cQ 0=(List.replicate 3 0,q):=by unfold nG;rw[<-hq];rfl
 unfold fG;rw[hl,iG,iG,iG,e0];rw[fa (k:=0) (r:=1) (by rw[sG];omega)];rw[fa (k:=1) (r:=2) (by rw[sG];omega)];rw[fa (k:=2) (r:=0) (by rw[sG];omega)];simp only[Es];rfl
def a0s(a b c cQ q g:Int)(hs:cQ % 3=2)(hq:1+cQ/ (3:Int) % 50=q)(hg:cQ/ (50*(3:Int)) % 40=g):fG [a,b,c] cQ=[q+c+1+g,q+c+1+g+a+1+g,q]:=by
 have hl:([a,b,c]:List Int).length=3:=rfl;have sG:((([a,b,c]:List Int).length:Nat):Int)=3:=rfl;have Es:cQ/ (50*((([a,b,c]:List Int).length:Nat):Int)) % 40=g:=by rw[sG];exact hg
 have e0:nG [a,b,c] cQ 0=(List.replicate 3 0,q):=by unfold nG;rw[<-hq];rfl
 unfold fG;rw[hl,iG,iG,iG,e0];rw[fa (k:=0) (r:=2) (by rw[sG];omega)];rw[fa (k:=1) (r:=0) (by rw[sG];omega)];rw[fa (k:=2) (r:=1) (by rw[sG];omega)];simp only[Es];rfl
def a0t(a b c d cQ q g:Int)(hs:cQ % 4=0)(hq:1+cQ/ (4:Int) % 50=q)(hg:cQ/ (50*(4:Int)) % 40=g):fG [a,b,c,d] cQ=[q,q+a+1+g,q+a+1+g+b+1+g,q+a+1+g+b+1+g+c+1+g]:=by
 have hl:([a,b,c,d]:List Int).length=4:=rfl;have sG:((([a,b,c,d]:List Int).length:Nat):Int)=4:=rfl;have Es:cQ/ (50*((([a,b,c,d]:List Int).length:Nat):Int)) % 40=g:=by rw[sG];exact hg
 have e0:nG [a,b,c,d] cQ 0=(List.replicate 4 0,q):=by unfold nG;rw[<-hq];rfl
 unfold fG;rw[hl,iG,iG,iG,iG,e0];rw[fa (k:=0) (r:=0) (by rw[sG];omega)];rw[fa (k:=1) (r:=1) (by rw[sG];omega)];rw[fa (k:=2) (r:=2) (by rw[sG];omega)];rw[fa (k:=3) (r:=3) (by rw[sG];omega)];simp only[Es];rfl
def a0u(a b c d cQ q g:Int)(hs:cQ % 4=1)(hq:1+cQ/ (4:Int) % 50=q)(hg:cQ/ (50*(4:Int)) % 40=g):fG [a,b,c,d] cQ=[q+b+1+g+c+1+g+d+1+g,q,q+b+1+g,q+b+1+g+c+1+g]:=by
 have hl:([a,b,c,d]:List Int).length=4:=rfl;have sG:((([a,b,c,d]:List Int).length:Nat):Int)=4:=rfl;have Es:cQ/ (50*((([a,b,c,d]:List Int).length:Nat):Int)) % 40=g:=by rw[sG];exact hg
 have e0:nG [a,b,c,d] cQ 0=(List.replicate 4 0,q):=by unfold nG;rw[<-hq];rfl
 unfold fG;rw[hl,iG,iG,iG,iG,e0];rw[fa (k:=0) (r:=1) (by rw[sG];omega)];rw[fa (k:=1) (r:=2) (by rw[sG];omega)];rw[fa (k:=2) (r:=3) (by rw[sG];omega)];rw[fa (k:=3) (r:=0) (by rw[sG];omega)];simp only[Es];rfl
def a0v(a b c d cQ q g:Int)(hs:cQ % 4=2)(hq:1+cQ/ (4:Int) % 50=q)(hg:cQ/ (50*(4:Int)) % 40=g):fG [a,b,c,d] cQ=[q+c+1+g+d+1+g,q+c+1+g+d+1+g+a+1+g,q,q+c+1+g]:=by
 have hl:([a,b,c,d]:List Int).length=4:=rfl;have sG:((([a,b,c,d]:List Int).length:Nat):Int)=4:=rfl;have Es:cQ/ (50*((([a,b,c,d]:List Int).length:Nat):Int)) % 40=g:=by rw[sG];exact hg
 have e0:nG [a,b,c,d] cQ 0=(List.replicate 4 0,q):=by unfold nG;rw[<-hq];rfl
 unfold fG;rw[hl,iG,iG,iG,iG,e0];rw[fa (k:=0) (r:=2) (by rw[sG];omega)];rw[fa (k:=1) (r:=3) (by rw[sG];omega)];rw[fa (k:=2) (r:=0) (by rw[sG];omega)];rw[fa (k:=3) (r:=1) (by rw[sG];omega)];simp only[Es];rfl
def a0w(a b c d cQ q g:Int)(hs:cQ % 4=3)(hq:1+cQ/ (4:Int) % 50=q)(hg:cQ/ (50*(4:Int)) % 40=g):fG [a,b,c,d] cQ=[q+d+1+g,q+d+1+g+a+1+g,q+d+1+g+a+1+g+b+1+g,q]:=by
 have hl:([a,b,c,d]:List Int).length=4:=rfl;have sG:((([a,b,c,d]:List Int).length:Nat):Int)=4:=rfl;have Es:cQ/ (50*((([a,b,c,d]:List Int).length:Nat):Int)) % 40=g:=by rw[sG];exact hg
 have e0:nG [a,b,c,d] cQ 0=(List.replicate 4 0,q):=by unfold nG;rw[<-hq];rfl
 unfold fG;rw[hl,iG,iG,iG,iG,e0];rw[fa (k:=0) (r:=3) (by rw[sG];omega)];rw[fa (k:=1) (r:=0) (by rw[sG];omega)];rw[fa (k:=2) (r:=1) (by rw[sG];omega)];rw[fa (k:=3) (r:=2) (by rw[sG];omega)];simp only[Es];rfl
def Lc(hz:oO an)(hs:0<=cQ):ov (fG an cQ) an:=by
 have R6:=hz;obtain⟨h1,h2,h3⟩:=hz;have g0: ∀n:Int,0<=cQ/n % 50/\cQ/n % 50<=49:=fun n=>by omega
 have g1: ∀n:Int,0<=cQ/n % 40/\cQ/n % 40<=39:=fun n=>by omega
 match an,R6,h1,h2,h3 with
 | [],_,_,h2,_=>simp at h2
 |_::_::_::_::_::_,_,_,_,h3=>simp at h3
 | [a],R6,h1,_,_=>
  obtain⟨q,hq⟩: ∃q,1+cQ/ (1:Int) % 50=q:=⟨_,rfl⟩;obtain⟨g,hg⟩: ∃g,cQ/ (50*(1:Int)) % 40=g:=⟨_,rfl⟩;have q0:=g0 1;have q1:=g1 (50*1);rw[hg]at q1;have ha:1<=a/\a<=32:=h1 0 (by simp);have hm:cQ % 1=0:=by omega
  rcases hm with hm
  ·rw[a0n a cQ q g hm hq hg];refine⟨R6,rfl,fun i hi oE=> ?_,fun i j hi oE hj Bv mz=> ?_⟩
   ·have:i=0:=by simp at hi;omega
    rcases this with rfl<;>simp<;>omega
   ·have:i=0:=by simp at hi;omega
    have:j=0:=by simp at hj;omega
    rcases ‹i=0› with rfl<;>rcases ‹j=0› with rfl<;>first|(exact absurd rfl mz)|(simp;omega)
 | [a,b],R6,h1,_,_=>
  obtain⟨q,hq⟩: ∃q,1+cQ/ (2:Int) % 50=q:=⟨_,rfl⟩;obtain⟨g,hg⟩: ∃g,cQ/ (50*(2:Int)) % 40=g:=⟨_,rfl⟩;have q0:=g0 2;have q1:=g1 (50*2);rw[hg]at q1;have ha:1<=a/\a<=32:=h1 0 (by simp);have hb:1<=b/\b<=32:=h1 1 (by simp);have hm:cQ % 2=0\/cQ % 2=1:=by omega
  rcases hm with hm|hm
  ·rw[a0o a b cQ q g hm hq hg];refine⟨R6,rfl,fun i hi oE=> ?_,fun i j hi oE hj Bv mz=> ?_⟩
   ·have:i=0\/i=1:=by simp at hi;omega
    rcases this with rfl|rfl<;>simp<;>omega
   ·have:i=0\/i=1:=by simp at hi;omega
    have:j=0\/j=1:=by simp at hj;omega
    rcases ‹i=0\/i=1› with rfl|rfl<;>rcases ‹j=0\/j=1› with rfl|rfl<;>first|(exact absurd rfl mz)|(simp;omega)
  ·rw[a0p a b cQ q g hm hq hg];refine⟨R6,rfl,fun i hi oE=> ?_,fun i j hi oE hj Bv mz=> ?_⟩
   ·have:i=0\/i=1:=by simp at hi;omega
    rcases this with rfl|rfl<;>simp<;>omega
   ·have:i=0\/i=1:=by simp at hi;omega
    have:j=0\/j=1:=by simp at hj;omega
    rcases ‹i=0\/i=1› with rfl|rfl<;>rcases ‹j=0\/j=1› with rfl|rfl<;>first|(exact absurd rfl mz)|(simp;omega)
 | [a,b,c],R6,h1,_,_=>
  obtain⟨q,hq⟩: ∃q,1+cQ/ (3:Int) % 50=q:=⟨_,rfl⟩;obtain⟨g,hg⟩: ∃g,cQ/ (50*(3:Int)) % 40=g:=⟨_,rfl⟩;have q0:=g0 3;have q1:=g1 (50*3);rw[hg]at q1;have ha:1<=a/\a<=32:=h1 0 (by simp);have hb:1<=b/\b<=32:=h1 1 (by simp);have hc:1<=c/\c<=32:=h1 2 (by simp);have hm:cQ % 3=0\/cQ % 3=1\/cQ % 3=2:=by omega
  rcases hm with hm|hm|hm
  ·rw[a0q a b c cQ q g hm hq hg];refine⟨R6,rfl,fun i hi oE=> ?_,fun i j hi oE hj Bv mz=> ?_⟩
   ·have:i=0\/i=1\/i=2:=by simp at hi;omega
    rcases this with rfl|rfl|rfl<;>simp<;>omega
   ·have:i=0\/i=1\/i=2:=by simp at hi;omega
    have:j=0\/j=1\/j=2:=by simp at hj;omega
    rcases ‹i=0\/i=1\/i=2› with rfl|rfl|rfl<;>rcases ‹j=0\/j=1\/j=2› with rfl|rfl|rfl<;>first|(exact absurd rfl mz)|(simp;omega)
  ·rw[a0r a b c cQ q g hm hq hg];refine⟨R6,rfl,fun i hi oE=> ?_,fun i j hi oE hj Bv mz=> ?_⟩
   ·have:i=0\/i=1\/i=2:=by simp at hi;omega
    rcases this with rfl|rfl|rfl<;>simp<;>omega
   ·have:i=0\/i=1\/i=2:=by simp at hi;omega
    have:j=0\/j=1\/j=2:=by simp at hj;omega
    rcases ‹i=0\/i=1\/i=2› with rfl|rfl|rfl<;>rcases ‹j=0\/j=1\/j=2› with rfl|rfl|rfl<;>first|(exact absurd rfl mz)|(simp;omega)
  ·rw[a0s a b c cQ q g hm hq hg];refine⟨R6,rfl,fun i hi oE=> ?_,fun i j hi oE hj Bv mz=> ?_⟩
   ·have:i=0\/i=1\/i=2:=by simp at hi;omega
    rcases this with rfl|rfl|rfl<;>simp<;>omega
   ·have:i=0\/i=1\/i=2:=by simp at hi;omega
    have:j=0\/j=1\/j=2:=by simp at hj;omega
    rcases ‹i=0\/i=1\/i=2› with rfl|rfl|rfl<;>rcases ‹j=0\/j=1\/j=2› with rfl|rfl|rfl<;>first|(exact absurd rfl mz)|(simp;omega)
 | [a,b,c,d],R6,h1,_,_=>
  obtain⟨q,hq⟩: ∃q,1+cQ/ (4:Int) % 50=q:=⟨_,rfl⟩;obtain⟨g,hg⟩: ∃g,cQ/ (50*(4:Int)) % 40=g:=⟨_,rfl⟩;have q0:=g0 4;have q1:=g1 (50*4);rw[hg]at q1;have ha:1<=a/\a<=32:=h1 0 (by simp);have hb:1<=b/\b<=32:=h1 1 (by simp);have hc:1<=c/\c<=32:=h1 2 (by simp);have hd:1<=d/\d<=32:=h1 3 (by simp);have hm:cQ % 4=0\/cQ % 4=1\/cQ % 4=2\/cQ % 4=3:=by omega
  rcases hm with hm|hm|hm|hm
  ·rw[a0t a b c d cQ q g hm hq hg];refine⟨R6,rfl,fun i hi oE=> ?_,fun i j hi oE hj Bv mz=> ?_⟩
   ·have:i=0\/i=1\/i=2\/i=3:=by simp at hi;omega
    rcases this with rfl|rfl|rfl|rfl<;>simp<;>omega
   ·have:i=0\/i=1\/i=2\/i=3:=by simp at hi;omega
    have:j=0\/j=1\/j=2\/j=3:=by simp at hj;omega
    rcases ‹i=0\/i=1\/i=2\/i=3› with rfl|rfl|rfl|rfl<;>rcases ‹j=0\/j=1\/j=2\/j=3› with rfl|rfl|rfl|rfl<;>first|(exact absurd rfl mz)|(simp;omega)
  ·rw[a0u a b c d cQ q g hm hq hg];refine⟨R6,rfl,fun i hi oE=> ?_,fun i j hi oE hj Bv mz=> ?_⟩
   ·have:i=0\/i=1\/i=2\/i=3:=by simp at hi;omega
    rcases this with rfl|rfl|rfl|rfl<;>simp<;>omega
   ·have:i=0\/i=1\/i=2\/i=3:=by simp at hi;omega
    have:j=0\/j=1\/j=2\/j=3:=by simp at hj;omega
    rcases ‹i=0\/i=1\/i=2\/i=3› with rfl|rfl|rfl|rfl<;>rcases ‹j=0\/j=1\/j=2\/j=3› with rfl|rfl|rfl|rfl<;>first|(exact absurd rfl mz)|(simp;omega)
  ·rw[a0v a b c d cQ q g hm hq hg];refine⟨R6,rfl,fun i hi oE=> ?_,fun i j hi oE hj Bv mz=> ?_⟩
   ·have:i=0\/i=1\/i=2\/i=3:=by simp at hi;omega
    rcases this with rfl|rfl|rfl|rfl<;>simp<;>omega
   ·have:i=0\/i=1\/i=2\/i=3:=by simp at hi;omega
    have:j=0\/j=1\/j=2\/j=3:=by simp at hj;omega
    rcases ‹i=0\/i=1\/i=2\/i=3› with rfl|rfl|rfl|rfl<;>rcases ‹j=0\/j=1\/j=2\/j=3› with rfl|rfl|rfl|rfl<;>first|(exact absurd rfl mz)|(simp;omega)
  ·rw[a0w a b c d cQ q g hm hq hg];refine⟨R6,rfl,fun i hi oE=> ?_,fun i j hi oE hj Bv mz=> ?_⟩
   ·have:i=0\/i=1\/i=2\/i=3:=by simp at hi;omega
    rcases this with rfl|rfl|rfl|rfl<;>simp<;>omega
   ·have:i=0\/i=1\/i=2\/i=3:=by simp at hi;omega
    have:j=0\/j=1\/j=2\/j=3:=by simp at hj;omega
    rcases ‹i=0\/i=1\/i=2\/i=3› with rfl|rfl|rfl|rfl<;>rcases ‹j=0\/j=1\/j=2\/j=3› with rfl|rfl|rfl|rfl<;>first|(exact absurd rfl mz)|(simp;omega)
structure B8 (n:Nat) (i:Instr):Prop where
 op:0<=i.op/\i.op<=24
 a:0<=i.a/\i.a<8/\(iM i.op 0=false->i.a=0)
 b:0<=i.b/\i.b<8/\(iM i.op 1=false->i.b=0)
 c:0<=i.c/\i.c<8/\(iM i.op 2=false->i.c=0)
 ed:0<=i.ed/\i.ed<=65535/\(iM i.op 3=false->i.ed=0)
 lea:i.op=15->i.ed<n
 sys:i.op=23->i.ed<=15
def WG{i:Instr}(h:jumps i.op=true):(vt N i).ed=if N<=i.ed then 0 else i.ed:=by
 unfold vt;by_cases g:N<=i.ed
 ·rw[if_pos ⟨h,g⟩,if_pos g]
 ·rw[if_neg (fun q=>g q.2),if_neg g]
def N8(N:Int)(i:Instr):(vt N i).op=i.op/\(vt N i).a=i.a/\(vt N i).b=i.b/\(vt N i).c=i.c:=by
 unfold vt;split<;>exact⟨rfl,rfl,rfl,rfl⟩
def R7(h:jumps op=true):iM op 3=true:=by
 unfold jumps at h;simp at h;rcases h with((rfl|rfl)|rfl)|rfl<;>rfl
def B8.fix{i:Instr}(H:B8 n i)(hn:n<=4){N:Nat}(h1:1<=N)(h2:N<=64):nu (vt N i)=true/\qq N n (vt N i)=true:=by
 obtain⟨e1,e2,e3,e4⟩:=N8 N i;obtain⟨f1,⟨f2,f3,f4⟩,⟨f5,f6,f7⟩,⟨f8,f9,f10⟩,⟨f11,f12,f13⟩,f14,f15⟩:=H;have hi:0<=(vt N i).ed/\(vt N i).ed<=i.ed:=by
  unfold vt;split
  ·simp only;omega
  ·omega
 have hj:jumps i.op=true->(vt N i).ed<N:=fun h=>by rw[WG h];split<;>omega
 constructor
 ·unfold nu;rw[e1,e2,e3,e4];rw[if_neg (by omega),if_neg (by
   intro h;rcases h with h|h|h; · omega
   ·omega
   ·exact h.2 (f4 h.1)),if_neg (by
    intro h;rcases h with h|h|h; · omega
    ·omega
    ·exact h.2 (f7 h.1)),if_neg (by
     intro h;rcases h with h|h|h; · omega
     ·omega
     ·exact h.2 (f10 h.1)),if_neg (by
   intro h;rcases h with h|h|h
   ·omega
   ·omega
   ·have:=f13 h.1;exact h.2 (by omega))]
  split
  ·rename_i h;have:=hj h;simp;omega
  split
  ·rename_i h;have:=f14 h;simp;omega
  split
  ·rename_i h;have:=f15 h;simp;omega
  ·rfl
 ·unfold qq;rw[e1];simp only[aaF,aaZ,acV,decide_eq_false_iff_not];constructor
  ·cases h:jumps i.op
   ·exact .inl rfl
   ·exact .inr (by have:=hj h;omega)
  ·by_cases h:i.op=15
   ·exact .inr (by have:=f14 h;omega)
   ·exact .inl h
def nH(n:Nat)(l:List Instr):Prop:= ∀i∈l,B8 n i
def nH.nil(n:Nat):nH n []:=fun i h=>by cases h
def nH.cons{i:Instr}{l:List Instr}(h:B8 n i)(hl:nH n l):nH n (i::l):=fun x hx=>by
 rcases List.mem_cons.1 hx with rfl|hx
 ·exact h
 ·exact hl x hx
def nH.append{a b:List Instr}(ha:nH n a)(hb:nH n b):nH n (a++b):=fun x hx=>by
 rcases List.mem_append.1 hx with h|h
 ·exact ha x h
 ·exact hb x h
def nH.take{n:Nat}{a:List Instr}(ha:nH n a)(k:Nat):nH n (a.take k):=fun x hx=>ha x (aaS hx)
def A6(h:0<=r/\r<8)(hv:0<=v/\v<=65535):B8 n ⟨1,r,0,0,v⟩:=⟨by simp,⟨h.1,h.2,fun q=>by cases q⟩,by simp,by simp,⟨hv.1,hv.2,fun q=>by cases q⟩,fun q=>by simp at q,fun q=>by simp at q⟩
def GU{a:Int}(h:0<=a/\a<8)(hb:0<=b/\b<8):B8 n ⟨2,a,b,0,0⟩:=⟨by simp,⟨h.1,h.2,fun q=>by cases q⟩,⟨hb.1,hb.2,fun q=>by cases q⟩,by simp,by simp,fun q=>by simp at q,fun q=>by simp at q⟩
def yZ(hv:0<=v/\v<=15):B8 n ⟨23,0,0,0,v⟩:=⟨by simp,by simp,by simp,by simp,⟨hv.1,by simp only;omega,fun q=>by cases q⟩,fun q=>by simp at q,fun _=>hv.2⟩
def JS{a:Int}(h:0<=a/\a<8)(hn:n<=4)(hv:0<=v/\v<n):B8 n ⟨15,a,0,0,v⟩:=⟨by simp,⟨h.1,h.2,fun q=>by cases q⟩,by simp,by simp,⟨hv.1,by simp only;omega,fun q=>by cases q⟩,fun _=>hv.2,fun q=>by simp at q⟩
def jo{a:Int}(ho:3<=o/\o<=14)(h:0<=a/\a<8)(hb:0<=b/\b<8)(hc:0<=c/\c<8):B8 n ⟨o,a,b,c,0⟩:=by
 have Az:o=3\/o=4\/o=5\/o=6\/o=7\/o=8\/o=9\/o=10\/o=11\/o=12\/o=13\/o=14:=by omega
 have u:iM o 0=true/\iM o 1=true/\iM o 2=true:=by
  rcases Az with rfl|rfl|rfl|rfl|rfl|rfl|rfl|rfl|rfl|rfl|rfl|rfl<;>exact⟨rfl,rfl,rfl⟩
 exact⟨by simp only;omega,⟨h.1,h.2,fun q=>by rw[u.1]at q;cases q⟩,⟨hb.1,hb.2,fun q=>by rw[u.2.1]at q;cases q⟩,⟨hc.1,hc.2,fun q=>by rw[u.2.2]at q;cases q⟩,by simp,fun q=>by simp only at q;omega,fun q=>by simp only at q;omega⟩
def ape{a:Int}(ho:o=16\/o=17)(h:0<=a/\a<8)(hb:0<=b/\b<8)(hv:0<=v/\v<=65535):B8 n ⟨o,a,b,0,v⟩:=by
 rcases ho with rfl|rfl<;>exact⟨by simp,⟨h.1,h.2,fun q=>by cases q⟩,⟨hb.1,hb.2,fun q=>by cases q⟩,by simp,⟨hv.1,hv.2,fun q=>by cases q⟩,fun q=>by simp at q,fun q=>by simp at q⟩
def a0x{a:Int}(h:0<=a/\a<8)(hv:0<=v/\v<=65535):B8 n ⟨20,a,0,0,v⟩:=⟨by simp,⟨h.1,h.2,fun q=>by cases q⟩,by simp,by simp,⟨hv.1,hv.2,fun q=>by cases q⟩,fun q=>by simp at q,fun q=>by simp at q⟩
def a0y(hv:0<=v/\v<=65535):B8 n ⟨18,0,0,0,v⟩:=⟨by simp,by simp,by simp,by simp,⟨hv.1,hv.2,fun q=>by cases q⟩,fun q=>by simp at q,fun q=>by simp at q⟩
def a0z:B8 n ⟨24,0,0,0,0⟩:=⟨by simp,by simp,by simp,by simp,by simp,fun q=>by simp at q,fun q=>by simp at q⟩
def Ld(l:List Int)(u:Bool)(k:Int):0<=yF l u k/\yF l u k<8/\(u=false->yF l u k=0):=by
 have:=eX l k (n:=8) (by omega);cases u
 ·exact⟨by simp[yF],by simp[yF],fun _=>rfl⟩
 ·exact⟨by simp[yF];omega,by simp[yF];omega,fun q=>by cases q⟩
def atl(l:List Int)(k:Int)(hn:1<=n/\n<=4)(hm:1<=jf/\jf<=1000):B8 n (BN l n jf k):=by
 have ho:=eX l k (n:=25) (by omega);unfold BN;obtain⟨op,jJ⟩: ∃op,eZ l k 25=op:=⟨_,rfl⟩;rw[jJ]at ho⊢;have hi:0<=Nr l op n jf (k3 l op k)/\Nr l op n jf (k3 l op k)<=65535/\(iM op 3=false->Nr l op n jf (k3 l op k)=0)/\(op=15->Nr l op n jf (k3 l op k)<n)/\(op=23->Nr l op n jf (k3 l op k)<=15):=by
  unfold Nr;have a1:=eX l (k3 l op k) (n:=jf) (by omega);have a2:=eX l (k3 l op k) (n:=n) (by omega);have a3:=eX l (k3 l op k) (n:=16) (by omega);have a4:=wh l (k3 l op k);by_cases j:jumps op=true
  ·rw[if_pos j];refine⟨by omega,by omega,fun q=> ?_,fun q=> ?_,fun q=> ?_⟩
   ·rw[R7 j]at q;cases q
   ·subst q;cases j
   ·subst q;cases j
  rw[if_neg j];by_cases o15:op=15
  ·rw[if_pos o15];refine⟨by omega,by omega,fun q=> ?_,fun q=>by omega,fun q=>by omega⟩;subst o15;cases q
  rw[if_neg o15];by_cases o23:op=23
  ·rw[if_pos o23];refine⟨by omega,by omega,fun q=> ?_,fun q=>by omega,fun q=>by omega⟩;subst o23;cases q
  rw[if_neg o23];by_cases u:iM op 3=true
  ·rw[if_pos u];exact⟨by omega,by omega,fun q=>(by rw[u]at q;cases q),fun q=>absurd q o15,fun q=>absurd q o23⟩
  ·rw[if_neg u];exact⟨by omega,by omega,fun _=>rfl,fun q=>absurd q o15,fun q=>absurd q o23⟩
 exact⟨by simp only;omega,Ld ..,Ld ..,Ld ..,⟨hi.1,hi.2.1,hi.2.2.1⟩,hi.2.2.2.1,hi.2.2.2.2⟩
def ala{n sr k:Int}(hz:oO an)(hm:1<=jf/\jf<=1000)(ha:0<=at_/\at_<=1000)(hr:0<=r/\r<an.length)(hn:0<=n/\n<=100)(hsr:1<=sr/\sr<=32):nH an.length (oI l an jf at_ r n sr c k):=by
 have z1:=hz.pos;have z4:=hz.le;have d: ∀(k n:Int),1<=n->0<=eZ l k n/\eZ l k n<n:=fun k n h=>eX l k h;have N:=nH.nil an.length;have w:=wh l (dI l k);have a3:=d k 3 (by omega);have a4:=d k 4 (by omega);have a5:=d k 5 (by omega);have a8:=d k 8 (by omega);have a2:=d k 2 (by omega);have am:=d k jf hm.1;have b3:=d (dI l k) 3 (by omega);have b2:=d (dI l k) 2 (by omega);have b4:=d (dI l k) 4 (by omega);have bs:=d (dI l k) sr hsr.1;have c3:=d (dI l (dI l k)) 3 (by omega);have c2:=d (dI l (dI l k)) 2 (by omega);have e3:=d (dI l (dI l (dI l k))) 3 (by omega);have bx:=d (dI l k) (if eZ l k 2=0 then jf else 5) (by split<;>omega);have bx2:eZ l (dI l k) (if eZ l k 2=0 then jf else 5)<=1000:=by
  have:=bx.2;split at this<;>rename_i hh<;>simp only[hh,if_true,if_false]<;>omega
 unfold oI;refine lV (P:=nH an.length) ?_ (lV (P:=nH an.length) ?_ (lV (P:=nH an.length) ?_ (lV (P:=nH an.length) ?_ (lV (P:=nH an.length) ?_ (lV (P:=nH an.length) ?_ (lV (P:=nH an.length) ?_ (lV (P:=nH an.length) ?_ (lV (P:=nH an.length) ?_ (lV (P:=nH an.length) ?_ (lV (P:=nH an.length) ?_ (lV (P:=nH an.length) ?_ (lV (P:=nH an.length) ?_ (lV (P:=nH an.length) ?_ (lV (P:=nH an.length) ?_ ?_))))))))))))))
 ·exact .cons (A6 (by omega) (by omega)) N
 ·refine .cons (jo ?_ (by omega) (by omega) (by omega)) N;unfold Rr;repeat' split
  all_goals omega
 ·exact .cons (JS (by omega) z4 hr) N
 ·exact .cons (JS (by omega) z4 hr) (.cons (ape (.inr rfl) (by omega) (by omega) (by omega)) N)
 ·exact .cons (JS (by omega) z4 hr) (.cons (ape (.inl rfl) (by omega) (by omega) (by omega)) N)
 ·exact .cons (A6 (by omega) (by omega)) (.cons (JS (by omega) z4 hr) (.cons (A6 (by omega) (by omega)) (.cons (yZ (by omega)) N)))
 ·exact .cons (A6 (by omega) (by omega)) (.cons (JS (by omega) z4 hr) (.cons (A6 (by omega) (by omega)) (.cons (yZ (by omega)) (.cons (GU (by omega) (by omega)) N))))
 ·exact .cons (A6 (by omega) (by omega)) (.cons (A6 (by omega) (by omega)) (.cons (yZ (by omega)) (.cons (GU (by omega) (by omega)) N)))
 ·exact .cons (GU (by omega) (by omega)) (.cons (JS (by omega) z4 hr) (.cons (A6 (by omega) (by omega)) (.cons (yZ (by split<;>omega)) N)))
 ·refine lV (P:=nH an.length) ?_ ?_
  ·exact .cons (GU (by omega) (by omega)) (.cons (yZ (by omega)) N)
  ·exact .cons (GU (by omega) (by omega)) (.cons (A6 (by omega) (by omega)) (.cons (yZ (by omega)) N))
 ·exact .cons (yZ (by
  repeat' split
  all_goals omega)) (.cons (GU (by omega) (by omega)) N)
 ·exact .cons (A6 (by omega) (by omega)) (.cons (yZ (by split<;>omega)) N)
 ·exact .cons (A6 (by omega) (by omega)) (.cons (GU (by omega) (by omega)) (.cons (yZ (by omega)) N))
 ·exact .cons (A6 (by omega) ⟨bx.1,by omega⟩) (.cons (yZ (by split<;>omega)) N)
 ·exact .cons (A6 (by omega) (by omega)) (.cons (A6 (by omega) (by omega)) (.cons (jo (by omega) (by omega) (by omega) (by omega)) (.cons (a0x (by omega) (by omega)) N)))
 ·exact .cons (atl l k ⟨z1,z4⟩ hm) N
def alb(k:Int)(hz:oO an)(hm:1<=jf/\jf<=1000)(ha:0<=at_/\at_<=1000):nH an.length (xF l an jf at_ k):=by
 have z1:=hz.pos;have hr:0<=BO l an k/\BO l an k<an.length:=eX l k (by omega);obtain⟨r,hrn⟩: ∃r:Nat,BO l an k=r:=⟨(BO l an k).toNat,by omega⟩;have qJ:r<an.length:=by omega
 have tq:=hz.elem r qJ;have hsr:nth an (BO l an k).toNat=an[r]:=by rw[hrn,aaH,dC qJ]
 have hN:0<=Js l an k/\Js l an k<=100:=by
  unfold Js;rw[hsr];have h5:=aox (x:=an[r]+1) (by omega);have:=eX l (dI l k) (n:=m5 (an[r]+1)) h5.1;omega
 unfold xF;exact ala hz hm ha hr hN (by rw[hsr];exact tq)
def N9(l:List Int){an:List Int}(k:Int)(hz:oO an): ∀i,nH an.length (ig l an k i).1
 |0=>nH.nil _
 |i+1=>by
  have h1:=N9 l k hz i;have h2:=AP l an k i;rw[zF];simp only;split
  ·exact h1.append (alb _ hz (by omega) (by omega))
  ·exact h1
def alc(l:List Int)(k:Int):nH (qx l k).length (DC l k)/\1<=(DC l k).length/\(DC l k).length<=64:=by
 have hz:=CI l k;have h1:nH (qx l k).length (Ai l k).1:=N9 _ _ hz _;have hl:(Ai l k).1.length<=62:=AP _ _ _ _;unfold DC V3;refine⟨nH.take (nH.append ?_ (.cons (A6 (by omega) ?_) (.cons (yZ (by omega)) (nH.nil _)))) _,by simp;omega,by simp;omega⟩
 ·have a:=eX l (dI l (Ai l k).2) (n:=(Ai l k).1.length+1) (by omega);unfold tlV;split
  ·exact h1.append (.cons (a0y (by omega)) (nH.nil _))
  split
  ·exact h1.append (.cons a0z (nH.nil _))
  ·exact h1
 ·have:=eX l (LD l (Ai l k).2) (n:=9) (by omega);omega
def GV(l:List Int)(k:Int): ∀i,∀x∈ (lB l k i).1,0<=x/\x<=65535
 |0=>fun x hx=>by cases hx
 |i+1=>fun x hx=>by
  rw[AM]at hx;rcases List.mem_append.1 hx with h|h
  ·exact GV l k i x h
  ·simp at h;subst h;exact wh _ _
def wA(l:List Int)(k n:Int): ∀x∈kf l k n,0<=x/\x<=65535:=GV l _ _
def GW(l an:List Int)(k:Int): ∀i,∀d∈ (jE l an k i).1,∀x∈d,0<=x/\x<=65535
 |0=>fun d hd=>by cases hd
 |i+1=>fun d hd x hx=>by
  rw[wZ]at hd;rcases List.mem_append.1 hd with h|h
  ·exact GW l an k i d h x hx
  ·simp at h;subst h;exact wA _ _ _ x hx
def B9(l an:List Int)(k:Int)(hz: ∀j (h:j<an.length),1<=an[j]): ∀i,i<=an.length-> ∀j (h:j<(jE l an k i).1.length) (h':j<an.length),(((jE l an k i).1[j]).length:Int)<=an[j]
 |0,_,j,h,_=>by simp[BP]at h
 |i+1,hi,j,h,h'=>by
  have hl:=yH l an k i;have il:i<an.length:=by omega
  simp only[wZ]at h⊢;rw[aaY,hl]at h;simp only[abJ,acM]at h;by_cases e:j<i
  ·rw[acP (by omega)];exact B9 l an k hz i (by omega) j (by omega) h'
  ·have e2:j=i:=by omega
   subst e2;rw[adE (by omega)];simp only[hl,acS,aco];rw[dC il];exact ky _ _ (by have:=hz j il;omega)
def ad8(l:List Int)(k:Int):rn (sH l k)/\ ∀d∈ (sH l k).data,∀x∈d,0<=x/\x<=65535:=by
 have hz:=CI l k;obtain⟨h1,h2,h3⟩:=alc l k;refine⟨⟨hz,?_,?_,?_,?_,?_,?_⟩,?_⟩
 ·simp only[sH];rw[yH]
 ·simp only[sH];exact B9 _ _ _ (fun j h=>(hz.elem j h).1) _ (aaI _)
 ·simp only[sH,abF];exact h2
 ·simp only[sH,abF];exact h3
 ·intro i hi;simp only[sH,abF]at hi;simp only[sH,adC];exact((h1 _ (aaL hi)).fix hz.le h2 h3).1
 ·intro i hi;simp only[sH,abF]at hi;simp only[sH,adC,abF];exact((h1 _ (aaL hi)).fix hz.le h2 h3).2
 ·simp only[sH];exact GW _ _ _ _
def ad9(p:Prog):Prop:= ∀d∈p.data,∀x∈d,0<=x/\x<=65535
def aea{cells:List Cell}{b:Nat}{d:List Int}(h:ep cells)(hd: ∀x∈d,0<=x/\x<=65535): ∀k,k<=d.length->ep (tF cells b d k)
 |0,_=>h
 |k+1,hk=>by
  have h1:=aea (b:=b) h hd k (by omega);have xX:k<d.length:=by omega
  rw[Tq xX];have hc:=(h1.getD (b+k)).1;have hv:=hd d[k] (aaL xX);exact h1.set (c:=⟨((tF cells b d k).getD (b+k) ⟨0,0⟩).tag,d[k]⟩) ⟨hc,hv⟩ _
def y9(n:Nat):ep (List.replicate n ⟨0,0⟩):=fun c hc=>by
 rw[adF hc];exact lX
def R8{p:Prog}(aD:List Int)(hd:ad9 p): ∀r,ep (pU p aD r)
 |0=>y9 512
 |r+1=>by
  unfold pU;refine aea (R8 aD hd r) (fun x hx=> ?_) _ (aaI _);by_cases h:r<p.data.length
  ·simp only[List.getD,aaJ h,abR]at hx;exact hd _ (aaL h) x hx
  ·simp[List.getD,abC (adU h)]at hx
def JU{l:List Cell}(h:ep l):gd l=true:=by
 unfold gd;rw[aaP];intro c hc;have:=(h c hc).1;simp[oG];omega
def JV{l:Layout}(hp:rn p)(hd:ad9 p)(hL:ov l.aD p.an)(hk:0<=l.key/\l.key<=65535):db p 0 (gF p l):=by
 have t0: ∀s:Int,0<=s/\s<=4->eu 0 ⟨s,List.replicate 8 ⟨0,0⟩,0,0, -1, -1,0,0⟩:=fun s hs=>⟨hs,by simp,y9 8,by simp,by simp,by simp,by simp,by simp,by simp⟩;have el: ∀i,i<4->cm[i]?=some eD:=fun i hi=>by unfold cm;rw[List.getElem?_replicate,if_pos hi]
 refine⟨hp,hL,hk,⟨⟨Gc ..,rfl,JU (R8 _ hd _),fun i hi=> ?_⟩,R8 _ hd _,fun i=> ?_⟩,rfl,fun i hi=> ?_,fun _=>JE _ _⟩
 ·have e:(gF p l).memory.lines[i]=eD:=by
   have:=el i (by simpa[gF,cm] using hi);have e2:(gF p l).memory.lines[i]?=some eD:=this;rw[aaJ hi]at e2;exact aeA e2
  rw[e];exact zD.1 rfl
 ·unfold dZ;by_cases hi:i<4
  ·simp only[gF,List.getD,el i hi,abR];exact fun c hc=>by cases hc
  ·have:(gF p l).memory.lines[i]?=none:=abC (by simp[gF,cm];omega);simp only[List.getD,this,adA];exact fun c hc=>by cases hc
 ·have:i=0\/i=1\/i=2\/i=3:=by simp[gF]at hi;omega
  rcases this with rfl|rfl|rfl|rfl
  ·exact t0 1 (by omega)
  ·exact t0 0 (by omega)
  ·exact t0 0 (by omega)
  ·exact t0 0 (by omega)
def ald(l:List Int)(k:Int):nz (u5 l k):=by
 refine⟨ad7 l k,?_,?_⟩
 ·intro d hd x hx;unfold u5 BV at hd;simp only[aeY,aeL,or_false]at hd;rcases hd with rfl|rfl
  ·exact wA _ _ _ x hx
  ·exact wA _ _ _ x hx
 ·intro d hd;unfold u5 BV pS at hd;simp only[aaU,abI,aeY,aeL,or_false]at hd;rcases hd with rfl|rfl
  ·exact hX.as9 (wA _ _ _)
  ·exact hX.as9 (wA _ _ _)
def Oa(an l:List Int):pD an (l.map BU)=true:=by
 unfold pD;rw[aaP];intro c hc;obtain⟨x,_,rfl⟩:=List.mem_map.1 hc;simp[proper,BU]
def Le(l:List Int)(k:Int)(an:List Int):lY an (u5 l k).files.data=true:=by
 unfold lY u5 BV pS;simp only[aaU,abI,adZ,List.all_nil,Oa,Bool.and_self]
def DS(n:Int):0<=IntKind.u16.wrap n/\IntKind.u16.wrap n<=65535:=by
 simp only[IntKind.wrap,IntKind.signed,IntKind.bits,acB];simp;omega
end Go.Proofs.YtdngefmliibcgaaGreat
