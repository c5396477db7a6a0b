/- part -/
import Derived.Test.YtdngefmliibcgaaGreatV10
import Derived.Test.YtdngefmliibcgaaGreatV12
set_option linter.all false
set_option maxRecDepth 20000
set_option maxHeartbeats 20000000
namespace Go.Proofs.YtdngefmliibcgaaGreat
open Go Go.Abs Go.Abs.kI Qf
variable  {aD an l bs:List Int}{key c d b r cQ at_ N op v o jf:Int}{bp:List Cell}{i n k k' T C L a t a':Nat}{h h':bh}{S:Nat->Prop}{vB vC vL:V}{es:List V}{m:aO}{ids bw kY:Nat->Nat}{p:Prog}
def lb(hx:bh)(l:List Thread):cF (l.map (cy hx 12∘Thread.e))=some (l.map Thread.e):=pX (fun _=>rfl) l
def gP(aD:List Int)(key:Int)(an:List Int)(bp:List Cell)(i:Nat):List Canon:=(bp.take i).map (canon aD key an)
def Df(h:i<bp.length):gP aD key an bp (i+1)=gP aD key an bp i++ [canon aD key an bp[i]]:=by
 unfold gP;rw[fD h,abL];rfl
def uo(h:i<=bp.length):(gP aD key an bp i).length=i:=by
 simp[gP];omega
def u9(aD:List Int)(key:Int)(an:List Int)(bp:List Cell):gP aD key an bp 0=[]:=by simp[gP]
def mq(aD:List Int)(key:Int)(an:List Int)(mem:aF)(a i:Nat):List Canon:=(List.range i).map fun j=>canon aD key an (look mem (a+j))
def G5(aD:List Int)(key:Int)(an:List Int)(mem:aF)(a i:Nat):mq aD key an mem a (i+1)=mq aD key an mem a i++ [canon aD key an (look mem (a+i))]:=by
 unfold mq;rw[acK,abL];rfl
def tM(aD:List Int)(key:Int)(an:List Int)(mem:aF)(a i:Nat):(mq aD key an mem a i).length=i:=by simp[mq]
def Sq(aD:List Int)(key:Int)(an:List Int)(mem:aF)(a:Nat):mq aD key an mem a 0=[]:=rfl
def pQ(p:Prog)(x:Thread):Int:=(kU p.code x.pc).eu
def G6(p:Prog)(m:aO)(x:Thread):Int:=vE m.layout.aD p.an p.code.length (pQ p x) x.bp
def xx:Request:=⟨0,0,0,0,0,0,[],[]⟩
def Lv(p:Prog)(m:aO)(x:Thread)(t:Int):Request:=
 ⟨t,1,0,x.count,x.pc,pQ p x,gP m.layout.aD m.layout.key p.an x.bp (dh (pQ p x)).length,if my (pQ p x)=1 then mq m.layout.aD m.layout.key p.an m.memory (x.bp.getD 1 ⟨0,0⟩).val.toNat (x.bp.getD 2 ⟨0,0⟩).val.toNat else []⟩
def mr(p:Prog)(m:aO)(t:Nat)(s:Int):aO×Request:=
 if s=1 then(if G6 p m (bV m t)=0 then(m,Lv p m (bV m t) t) else(iZ m m.memory t (iV (bV m t) (G6 p m (bV m t))),⟨t,2,G6 p m (bV m t),(bV m t).count,(bV m t).pc,0,[],[]⟩))
 else(m,⟨t,s,if s=2 then(bV m t).dr else 0,(bV m t).count,(bV m t).pc,0,[],[]⟩)
def gN(p:Prog)(m:aO)(t n:Int):aO×Request×Int:=
 if jU p m=true/\(0<=t/\t<4)/\1<=n/\n<=64 then((mr p (dQ p m t.toNat n).1 t.toNat (dQ p m t.toNat n).2).1,(mr p (dQ p m t.toNat n).1 t.toNat (dQ p m t.toNat n).2).2,0) else(iT,xx,1)
def ed.look{m:aF}(h:qi m)(a:Nat):iz (look m a):=by
 unfold Go.Proofs.YtdngefmliibcgaaGreat.look;split
 ·exact(h.line _).getD _
 ·exact h.cells.getD _
def W2(aD an:List Int)(n:Nat)(c:Int)(bp:List Cell):vE aD an n c bp=0\/vE aD an n c bp=6:=by
 unfold vE;split
 ·exact .inr rfl
 split
 ·exact .inr rfl
 split
 ·exact .inr rfl
 ·exact .inl rfl
def zf(h:vE aD an n c bp=0):iI (dh c) (mz c bp)=true/\(0<my c->(ko aD an (bp.getD 1 ⟨0,0⟩) (bp.getD 2 ⟨0,0⟩).val).2=0/\(bp.getD 2 ⟨0,0⟩).val<=16):=by
 rw[C6]at h;split at h
 ·cases h
 rename_i h1;split at h
 ·cases h
 rename_i h2;refine⟨by simpa using h1,fun hb=> ?_⟩;refine acO fun hn=>h2 ⟨hb,?_⟩;by_cases e:(ko aD an (bp.getD 1 ⟨0,0⟩) (bp.getD 2 ⟨0,0⟩).val).2=0
 ·exact .inr (by omega)
 ·exact .inl e
def Ke(hL:nW aD an){x:Cell}{n:Int}(h:(ko aD an x n).2=0):x.tag=1/\0<=n/\0<=x.val/\x.val+n<=512:=by
 unfold ko at h;split at h
 case isFalse=>cases h
 rename_i h1;split at h
 case isFalse=>cases h
 rename_i h2;split at h
 ·cases h
 rename_i h3;split at h
 ·cases h
 rename_i h4;obtain⟨k,hk,qT,e,b1,b2⟩:=j6 h2;have bb:=hL.base k hk qT;have zz:=hL.sz.elem k qT;have Cz:nth an k=an[k]:=dE qT;rw[e]at h4;simp only[aaH,Cz]at h4;refine⟨h1,by omega,by omega,by omega⟩
@[simp]def aev(ax:List Instr)(ae:List Int)(ay:List (List Int))(aa:List Int)(aq:Int)(ak:List Cell)(ah:List cw)(au:List Thread)(t n:Int)(hp:BX (Prog.mk ax ae ay))(hm:zO (aO.mk (Layout.mk aa aq) (aF.mk ak ah) au))(hr:As (aO.mk (Layout.mk aa aq) (aF.mk ak ah) au))(hc: ¬(jU (Prog.mk ax ae ay) (aO.mk (Layout.mk aa aq) (aF.mk ak ah) au)=true/\(0<=t/\t<4)/\1<=n/\n<=64)):ng X [(0,4,112)] 193 [KKQ ax ae ay,KKY aa aq ak ah au,.int .i64 t,.int .i64 n]=some (.dP [KKK iT,.int .i64 0,.int .i64 1]):=by
 unfold iT;refine aaC ?_;by_cases hv:jU (Prog.mk ax ae ay) (aO.mk (Layout.mk aa aq) (aF.mk ak ah) au)=true
 case neg=>
  simp[hp,hm,hv]
 by_cases h0:0<=t
 case neg=>
  have Lr:t<0:=by omega
  simp[hp,hm,hv,Lr]
 have Lr: ¬t<0:=by omega
 by_cases h4:t<4
 case neg=>
  have h4':4<=t:=by omega
  simp[hp,hm,hv,Lr,h4']
 have h4': ¬4<=t:=by omega
 by_cases n1:1<=n
 case neg=>
  have Yo:n<1:=by omega
  simp[hp,hm,hv,Lr,h4',Yo]
 have Yo: ¬n<1:=by omega
 have Sp:64<n:=by
  refine acO fun e=>hc ⟨hv,⟨h0,h4⟩,n1,by omega⟩
 simp[hp,hm,hv,Lr,h4',Yo,Sp]
@[simp]def Sr(ax:List Instr)(ae:List Int)(ay:List (List Int))(aa:List Int)(aq:Int)(ak:List Cell)(ah:List cw)(au:List Thread)(t n:Int)(hp:BX (Prog.mk ax ae ay))(hm:zO (aO.mk (Layout.mk aa aq) (aF.mk ak ah) au))(hr:As (aO.mk (Layout.mk aa aq) (aF.mk ak ah) au)):ng X [(0,4,112)] 118 [KKQ ax ae ay,KKY aa aq ak ah au,.int .i64 t,.int .i64 n]=some (.dP [KKK ((gN (Prog.mk ax ae ay) (aO.mk (Layout.mk aa aq) (aF.mk ak ah) au) t n).1),KKW ((gN (Prog.mk ax ae ay) (aO.mk (Layout.mk aa aq) (aF.mk ak ah) au) t n).2.1),.int .i64 ((gN (Prog.mk ax ae ay) (aO.mk (Layout.mk aa aq) (aF.mk ak ah) au) t n).2.2)]):=by
 refine aaC ?_;by_cases hc:jU (Prog.mk ax ae ay) (aO.mk (Layout.mk aa aq) (aF.mk ak ah) au)=true/\(0<=t/\t<4)/\1<=n/\n<=64
 case neg=>
  have e:gN (Prog.mk ax ae ay) (aO.mk (Layout.mk aa aq) (aF.mk ak ah) au) t n=(iT,xx,1):=if_neg hc;have rK:=aev ax ae ay aa aq ak ah au t n hp hm hr hc;rw[e];unfold iT xx;unfold iT at rK;simp[rK]
 have e:gN (Prog.mk ax ae ay) (aO.mk (Layout.mk aa aq) (aF.mk ak ah) au) t n=((mr (Prog.mk ax ae ay) (dQ (Prog.mk ax ae ay) (aO.mk (Layout.mk aa aq) (aF.mk ak ah) au) t.toNat n).1 t.toNat (dQ (Prog.mk ax ae ay) (aO.mk (Layout.mk aa aq) (aF.mk ak ah) au) t.toNat n).2).1,(mr (Prog.mk ax ae ay) (dQ (Prog.mk ax ae ay) (aO.mk (Layout.mk aa aq) (aF.mk ak ah) au) t.toNat n).1 t.toNat (dQ (Prog.mk ax ae ay) (aO.mk (Layout.mk aa aq) (aF.mk ak ah) au) t.toNat n).2).2,0):=if_pos hc;rw[e];have rK:=alw ax ae ay aa aq ak ah au t n hr hc.1 hc.2.1 hc.2.2;obtain⟨hv,ht,hn⟩:=hc;obtain⟨k,rfl⟩:=aaG ht.1;have k4:k<4:=by omega
 have E3:(k:Int)<4:=by omega
 have MG:=yV hr hv;simp only[aaH]at rK⊢;have SG:(dQ (Prog.mk ax ae ay) (aO.mk (Layout.mk aa aq) (aF.mk ak ah) au) k n).2=3/\cT (Prog.mk ax ae ay) (1099511627776+n) (dQ (Prog.mk ax ae ay) (aO.mk (Layout.mk aa aq) (aF.mk ak ah) au) k n).1\/A5 (Prog.mk ax ae ay) (1099511627776+n) k (dQ (Prog.mk ax ae ay) (aO.mk (Layout.mk aa aq) (aF.mk ak ah) au) k n):=by
  by_cases hs:(bV (aO.mk (Layout.mk aa aq) (aF.mk ak ah) au) k).state=1
  ·exact .inr (C9 MG k4 hn.1 hs)
  ·have e1:dQ (Prog.mk ax ae ay) (aO.mk (Layout.mk aa aq) (aF.mk ak ah) au) k n=((aO.mk (Layout.mk aa aq) (aF.mk ak ah) au),3):=by unfold dQ;exact if_neg hs
   rw[e1];exact .inl ⟨rfl,MG.mono (by omega)⟩
 obtain⟨⟨⟨bs,key⟩,⟨cs,ls⟩,ts⟩,s,hms⟩: ∃mm s,dQ (Prog.mk ax ae ay) (aO.mk (Layout.mk aa aq) (aF.mk ak ah) au) k n=(mm,s):=⟨_,_,rfl⟩;rw[hms]at rK SG⊢;simp only at rK SG⊢;have HG:cT (Prog.mk ax ae ay) (1099511627776+n) ⟨⟨bs,key⟩,⟨cs,ls⟩,ts⟩:=by
  rcases SG with h|h
  ·exact h.2
  ·exact h.Oi
 have hl:ts.length=4:=HG.len;have kl:k<ts.length:=by omega
 have hx:bV ⟨⟨bs,key⟩,⟨cs,ls⟩,ts⟩ k=ts[k]:=iq kl;have oT:=HG.pe k kl;simp only at oT;obtain⟨⟨st,rg,pc,co,ha,sa,tr,cd⟩,pH⟩: ∃x,ts[k]=x:=⟨_,rfl⟩;rw[pH]at hx oT;have h8:rg.length=8:=oT.bp;have tG: ∀(f:Thread->V),List.take 4 (ts.map f)=ts.map f:=fun f=>aZ (by simp;omega);have Ss: ∀(f:Thread->Option V),List.take 4 (ts.map f)=ts.map f:=fun f=>aZ (by simp;omega);by_cases s1:s=1
 case neg=>
  have e2:mr (Prog.mk ax ae ay) ⟨⟨bs,key⟩,⟨cs,ls⟩,ts⟩ k s=(⟨⟨bs,key⟩,⟨cs,ls⟩,ts⟩,⟨k,s,if s=2 then tr else 0,co,pc,0,[],[]⟩):=by
   unfold mr;rw[if_neg s1,hx]
  rw[e2];by_cases s2:s=2
  ·subst s2;simp[rK,tG,lb,hl,k4,E3,pH]
  ·simp[rK,tG,lb,hl,k4,E3,pH,s1,s2]
 subst s1;have SG1:A5 (Prog.mk ax ae ay) (1099511627776+n) k (⟨⟨bs,key⟩,⟨cs,ls⟩,ts⟩,1):=by
  rcases SG with h|h
  ·exact absurd h.1 (by decide)
  ·exact h
 obtain⟨c1,c2,c3,c4⟩:=SG1.calls rfl;simp only[hx]at c1 c2 c3 c4;have hL:=HG.lay;have Yi:ax.length<=64:=HG.prog.rp;have FH:=oT.cells.Sg;simp only at hL FH;have L9:ts.getD (k:Int).toNat cn=⟨st,rg,pc,co,ha,sa,tr,cd⟩:=by rw[aaH];simp[List.getD,kl,pH]
 obtain⟨j,hj⟩: ∃j:Nat,pc-1=j:=⟨(pc-1).toNat,by omega⟩;have tI:j<ax.length:=by omega
 have R8:(j:Int)<ax.length:=by omega
 have yo:kU ax pc=ax[j]:=by unfold kU;rw[hj];simp[List.getD,tI]
 have hwp:IntKind.i64.wrap (pc-1)=j:=by rw[hj];exact wrap_i64 (by omega)
 have hI:=HG.prog.A3 (p:=(Prog.mk ax ae ay)) tI;simp only at hI;rw[yo]at c4;have W3:0<=(ax[j]).eu/\(ax[j]).eu<=15:=⟨hI.eu.1,hI.sys c4⟩;have PB:=IF ax ae ay bs key cs ls ts k hl ⟨by omega,E3⟩ hL (by omega) (by rw[L9];exact h8) (by rw[L9];exact FH) (by rw[L9];exact⟨c2,c3⟩) (by rw[L9];simp only;rw[yo];exact W3);rw[L9]at PB;simp only[yo]at PB;obtain⟨c,s9⟩: ∃c,(ax[j]).eu=c:=⟨_,rfl⟩;rw[s9]at PB W3;have hco:pQ (Prog.mk ax ae ay) ⟨st,rg,pc,co,ha,sa,tr,cd⟩=c:=by unfold pQ;simp only;rw[yo,s9]
 obtain⟨w,hw⟩: ∃w,vE bs ae ax.length c rg=w:=⟨_,rfl⟩;rw[hw]at PB;have hwy:G6 (Prog.mk ax ae ay) ⟨⟨bs,key⟩,⟨cs,ls⟩,ts⟩ ⟨st,rg,pc,co,ha,sa,tr,cd⟩=w:=by unfold G6;rw[hco];exact hw
 by_cases w0:w=0
 case neg=>
  have e2:mr (Prog.mk ax ae ay) ⟨⟨bs,key⟩,⟨cs,ls⟩,ts⟩ k 1=(⟨⟨bs,key⟩,⟨cs,ls⟩,ts.set k (iV ⟨st,rg,pc,co,ha,sa,tr,cd⟩ w)⟩,⟨k,2,w,co,pc,0,[],[]⟩):=by
   unfold mr;rw[if_pos rfl,hx,hwy,if_neg w0];rfl
  rw[e2];obtain⟨Cs,EB⟩: ∃Cs,ts.set k (iV ⟨st,rg,pc,co,ha,sa,tr,cd⟩ w)=Cs:=⟨_,rfl⟩;have ya:Cs.length=4:=by rw[<-EB];simp[hl]
  have Lw: ∀(f:Thread->V),List.take 4 (Cs.map f)=Cs.map f:=fun f=>aZ (by simp;omega);have alx: ∀(f:Thread->Option V),List.take 4 (Cs.map f)=Cs.map f:=fun f=>aZ (by simp;omega);have lh:(ts.map Thread.e).set k (V.agg [.int .i64 4,rg,.int .i64 pc,.int .i64 co,.int .i64 ha,.int .i64 sa,.int .i64 w,.int .u16 0])=Cs.map Thread.e:=by rw[<-EB,abO];rfl
  have aly:(Thread.e ⟨st,rg,pc,co,ha,sa,tr,cd⟩).put 0 (V.agg [.int .i64 4,rg,.int .i64 pc,.int .i64 co,.int .i64 ha,.int .i64 sa,.int .i64 w,.int .u16 0])=V.agg [.int .i64 4,rg,.int .i64 pc,.int .i64 co,.int .i64 ha,.int .i64 sa,.int .i64 w,.int .u16 0]:=rfl;rw[EB];simp[rK,tG,Lw,lb,hl,ya,k4,E3,pH,h8,PB,w0,lh,aly]
 subst w0;obtain⟨hf,Zu⟩:=zf hw;have k3:=pb W3;have e2:mr (Prog.mk ax ae ay) ⟨⟨bs,key⟩,⟨cs,ls⟩,ts⟩ k 1=(⟨⟨bs,key⟩,⟨cs,ls⟩,ts⟩,⟨k,1,0,co,pc,c,gP bs key ae rg (dh c).length,if my c=1 then mq bs key ae ⟨cs,ls⟩ (rg.getD 1 ⟨0,0⟩).val.toNat (rg.getD 2 ⟨0,0⟩).val.toNat else []⟩):=by
  unfold mr;rw[if_pos rfl,hx,hwy,if_pos rfl];unfold Lv;simp only[hco]
 rw[e2];have r0:=oT.cells;simp only at r0;have l1:1<rg.length:=by omega
 have l2:2<rg.length:=by omega
 obtain⟨⟨r1t,Sa⟩,e1⟩: ∃x,rg[1]'l1=x:=⟨_,rfl⟩;obtain⟨⟨r2t,r2v⟩,e3⟩: ∃x,rg[2]'l2=x:=⟨_,rfl⟩;have g1:rg.getD 1 ⟨0,0⟩=⟨r1t,Sa⟩:=by simp[List.getD,h8,e1]
 have g2:rg.getD 2 ⟨0,0⟩=⟨r2t,r2v⟩:=by simp[List.getD,h8,e3]
 rw[g1,g2];simp only;have v1:=(e1▸r0.at l1).2;have v2:=(e3▸r0.at l2).2;simp only at v1 v2;simp[rK,tG,hl,k4,E3,pH,PB,tI,R8,hwp,s9];refine cY (fun i S=>(S.f 4= .ptr 4 0 0/\S.h 4=some ⟨3,[KKQ ax ae ay],true⟩/\S.f 8= .ptr 8 0 0/\S.h 8=some ⟨5,[KKY ([]:List Int) 0 ([]:List Cell) ([]:List cw) ([]:List Thread)],true⟩/\S.f 9= .ptr 9 0 0/\S.h 9=some ⟨8,[KKZ 0 0 0 0 0 0 ([]:List Canon) ([]:List Canon)],true⟩/\S.f 11= .ptr 11 0 0/\S.h 1000=some ⟨8,(⟨⟨bs,key⟩,⟨cs,ls⟩,ts⟩:aO).threads.map Thread.e,false⟩/\S.h 11=some ⟨5,[.agg [.sl false ((⟨⟨bs,key⟩,⟨cs,ls⟩,ts⟩:aO).layout.aD.map (V.int .i64)),.int .u16 (⟨⟨bs,key⟩,⟨cs,ls⟩,ts⟩:aO).layout.key,.sl false ((⟨⟨bs,key⟩,⟨cs,ls⟩,ts⟩:aO).memory.cells.map Cell.e),.sl false ((⟨⟨bs,key⟩,⟨cs,ls⟩,ts⟩:aO).memory.lines.map cw.e),.cx 1000 0 ((⟨⟨bs,key⟩,⟨cs,ls⟩,ts⟩:aO).threads.map Thread.e).length]],true⟩/\S.f 14= .ptr 14 0 0/\S.h 14=some ⟨8,[KKe (⟨st,rg,pc,co,ha,sa,tr,cd⟩:Thread)],true⟩/\S.f 15= .ptr 15 0 0/\S.h 1001=some ⟨4,(⟨(k:Int),1,0,co,pc,c,gP bs key ae rg i,[]⟩:Request).args.map Canon.e,false⟩/\S.h 1002=some ⟨4,(⟨(k:Int),1,0,co,pc,c,gP bs key ae rg i,[]⟩:Request).data.map Canon.e,false⟩/\S.h 15=some ⟨8,[.agg [.int .i64 (⟨(k:Int),1,0,co,pc,c,gP bs key ae rg i,[]⟩:Request).dd,.int .i64 (⟨(k:Int),1,0,co,pc,c,gP bs key ae rg i,[]⟩:Request).stop,.int .i64 (⟨(k:Int),1,0,co,pc,c,gP bs key ae rg i,[]⟩:Request).dr,.int .i64 (⟨(k:Int),1,0,co,pc,c,gP bs key ae rg i,[]⟩:Request).count,.int .i64 (⟨(k:Int),1,0,co,pc,c,gP bs key ae rg i,[]⟩:Request).pc,.int .i64 (⟨(k:Int),1,0,co,pc,c,gP bs key ae rg i,[]⟩:Request).call,.cx 1001 0 ((⟨(k:Int),1,0,co,pc,c,gP bs key ae rg i,[]⟩:Request).args.map Canon.e).length,.cx 1002 0 ((⟨(k:Int),1,0,co,pc,c,gP bs key ae rg i,[]⟩:Request).data.map Canon.e).length]],true⟩/\S.f 80= .int .i64 (((dh c).length:Int))/\S.f 81=(i:Int)/\S.n=1103)/\True) ((dh c).length) (by omega) ?_ ?_ ?_
 ·rintro i S ⟨oY,gS,bL⟩ ⟨df,fg⟩;have i8:i<8:=by omega
  have Ym:(i:Int)<8:=by omega
  have il:i<rg.length:=by omega
  have up:=Df (aD:=bs) (key:=key) (an:=ae) il;have len:=uo (aD:=bs) (key:=key) (an:=ae) (bp:=rg) (i:=i) (by omega);obtain⟨⟨ct,cv⟩,rH⟩: ∃x,rg[i]=x:=⟨_,rfl⟩;have Mb:=(rH▸r0.at il).2;simp only at Mb;rw[rH]at up;simp[df,gS,bL,h8,i8,Ym,rH,hL,Mb,Cell.bS,up,len];all_goals ((repeat' (first|apply And.intro|intro _))<;>first|omega|rfl|exact aZ (by simp[len]))
 ·rintro S ⟨df,fg⟩;by_cases hb:my c=1
  case neg=>
   have wT:=eq_false hb;simp[df,tG,lb,hl,wT]
  have wT:=eq_true hb;have H7:=Zu (by omega);rw[g1,g2]at H7;obtain⟨_,w2,w3,w4⟩:=Ke hL H7.1;simp only at w2 w3 w4;obtain⟨a1,rfl⟩:=aaG w3;obtain⟨n2,rfl⟩:=aaG w2;have n16:n2<=16:=by have:=H7.2;simp only at this;omega
  have sU:IntKind.i64.wrap (a1:Int)=a1:=wrap_i64 (by omega);have H8:IntKind.i64.wrap (n2:Int)=n2:=wrap_i64 (by omega);have hM:ud ⟨cs,ls⟩:=HG.mem.mem;simp[df,wT,h8,e3,Cell.bS,H8];refine cY (fun jj S=>(S.f 4= .ptr 4 0 0/\S.h 4=some ⟨3,[KKQ ax ae ay],true⟩/\S.f 8= .ptr 8 0 0/\S.h 8=some ⟨5,[KKY ([]:List Int) 0 ([]:List Cell) ([]:List cw) ([]:List Thread)],true⟩/\S.f 9= .ptr 9 0 0/\S.h 9=some ⟨8,[KKZ 0 0 0 0 0 0 ([]:List Canon) ([]:List Canon)],true⟩/\S.f 11= .ptr 11 0 0/\S.h 1000=some ⟨8,(⟨⟨bs,key⟩,⟨cs,ls⟩,ts⟩:aO).threads.map Thread.e,false⟩/\S.h 11=some ⟨5,[.agg [.sl false ((⟨⟨bs,key⟩,⟨cs,ls⟩,ts⟩:aO).layout.aD.map (V.int .i64)),.int .u16 (⟨⟨bs,key⟩,⟨cs,ls⟩,ts⟩:aO).layout.key,.sl false ((⟨⟨bs,key⟩,⟨cs,ls⟩,ts⟩:aO).memory.cells.map Cell.e),.sl false ((⟨⟨bs,key⟩,⟨cs,ls⟩,ts⟩:aO).memory.lines.map cw.e),.cx 1000 0 ((⟨⟨bs,key⟩,⟨cs,ls⟩,ts⟩:aO).threads.map Thread.e).length]],true⟩/\S.f 14= .ptr 14 0 0/\S.h 14=some ⟨8,[KKe (⟨st,rg,pc,co,ha,sa,tr,cd⟩:Thread)],true⟩/\S.f 15= .ptr 15 0 0/\S.h 1001=some ⟨4,(⟨(k:Int),1,0,co,pc,c,gP bs key ae rg (dh c).length,mq bs key ae ⟨cs,ls⟩ a1 jj⟩:Request).args.map Canon.e,false⟩/\S.h 1002=some ⟨4,(⟨(k:Int),1,0,co,pc,c,gP bs key ae rg (dh c).length,mq bs key ae ⟨cs,ls⟩ a1 jj⟩:Request).data.map Canon.e,false⟩/\S.h 15=some ⟨8,[.agg [.int .i64 (⟨(k:Int),1,0,co,pc,c,gP bs key ae rg (dh c).length,mq bs key ae ⟨cs,ls⟩ a1 jj⟩:Request).dd,.int .i64 (⟨(k:Int),1,0,co,pc,c,gP bs key ae rg (dh c).length,mq bs key ae ⟨cs,ls⟩ a1 jj⟩:Request).stop,.int .i64 (⟨(k:Int),1,0,co,pc,c,gP bs key ae rg (dh c).length,mq bs key ae ⟨cs,ls⟩ a1 jj⟩:Request).dr,.int .i64 (⟨(k:Int),1,0,co,pc,c,gP bs key ae rg (dh c).length,mq bs key ae ⟨cs,ls⟩ a1 jj⟩:Request).count,.int .i64 (⟨(k:Int),1,0,co,pc,c,gP bs key ae rg (dh c).length,mq bs key ae ⟨cs,ls⟩ a1 jj⟩:Request).pc,.int .i64 (⟨(k:Int),1,0,co,pc,c,gP bs key ae rg (dh c).length,mq bs key ae ⟨cs,ls⟩ a1 jj⟩:Request).call,.cx 1001 0 ((⟨(k:Int),1,0,co,pc,c,gP bs key ae rg (dh c).length,mq bs key ae ⟨cs,ls⟩ a1 jj⟩:Request).args.map Canon.e).length,.cx 1002 0 ((⟨(k:Int),1,0,co,pc,c,gP bs key ae rg (dh c).length,mq bs key ae ⟨cs,ls⟩ a1 jj⟩:Request).data.map Canon.e).length]],true⟩/\S.f 109= .int .i64 ((n2:Int))/\S.f 110=(jj:Int)/\S.n=1103)/\True) (n2) (by omega) ?_ ?_ ?_
  ·rintro jj S ⟨bq2,ba7,a1z⟩ ⟨lB,r9⟩;have up:=G5 bs key ae ⟨cs,ls⟩ a1 jj;have len:=tM bs key ae ⟨cs,ls⟩ a1 jj;obtain⟨qa,hqa⟩: ∃q:Nat,a1+jj=q:=⟨_,rfl⟩;rw[hqa]at up;have haq:0<=(qa:Int)/\(qa:Int)<512:=by omega
   have Kd:IntKind.i64.wrap ((a1:Int)+jj)=(qa:Int):=by rw[wrap_i64 (by omega)];omega
   have hlk:=ed.look HG.mem qa;simp only at hlk;obtain⟨⟨ct,cv⟩,rH⟩: ∃x,look ⟨cs,ls⟩ qa=x:=⟨_,rfl⟩;rw[rH]at up hlk;have Mb:=hlk.2;simp only at Mb;have DG:=BL cs ls (qa:Int) hM haq;rw[aaH,rH]at DG;simp[lB,ba7,a1z,h8,e1,Cell.bS,sU,Kd,DG,hL,Mb,up,len];all_goals ((repeat' (first|apply And.intro|intro _))<;>first|omega|rfl|exact aZ (by simp[len]))
  ·rintro S ⟨lB,r9⟩;simp[lB,tG,lb,hl]
  ·simp[df]<;>(
    exact⟨rfl,rfl⟩)
 ·simp<;>(
   exact⟨hl.symm,u9 ..,by rw[u9];rfl,by unfold uU;rw[if_neg (by omega)]⟩)
structure kN (h:bh) (k:Nat) (S:Nat->Prop) (T:Nat) (vB vC vL:V) (es:List V) (m:aO):Prop where
 lt: ∀i,S i->i<k
 aew:S T
 row:h T=some ⟨8,es,true⟩
 len:es.length=4
 alz:m.threads.length=4
 auf: ∀i (g:i<es.length) (g':i<m.threads.length),∃vR,es[i]= .agg [.int .i64 (m.threads[i]).state,vR,.int .i64 (m.threads[i]).pc,.int .i64 (m.threads[i]).count,.int .i64 (m.threads[i]).cp,.int .i64 (m.threads[i]).saved,.int .i64 (m.threads[i]).dr,.int .u16 (m.threads[i]).code]
 eu: ∀hx:bh,(∀i,S i->i≠T->hx i=h i)-> ∀d,cy hx (d+3) vB=some (.sl false (m.layout.aD.map (V.int .i64)))/\cy hx (d+3) vC=some (.sl false (m.memory.cells.map Cell.e))/\
  cy hx (d+3) vL=some (.sl false (m.memory.lines.map cw.e))/\cF (es.map (cy hx (d+3)))=some (m.threads.map Thread.e)
def kN.mono(H:kN h k S T vB vC vL es m)(hk:k<=k')(hh: ∀i,S i->h' i=h i):kN h' k' S T vB vC vL es m:=by
 obtain⟨h1,h2,h3,h4,h5,h6,h7⟩:=H;exact⟨fun i hi=>by have:=h1 i hi;omega,h2,by rw[hh _ h2,h3],h4,h5,h6,fun hx AG d=>h7 hx (fun i hi hT=>by rw[AG i hi hT,hh i hi]) d⟩
def Su(hx:bh)(d:Nat)(x:Thread):cy hx (d+3) (Thread.e x)=some (Thread.e x):=by
 simp[Thread.bS,cy,cF]
def D2(hx:bh)(d:Nat): ∀l:List Thread,cF ((l.map Thread.e).map (cy hx (d+3)))=some (l.map Thread.e)
 | []=>rfl
 |a::l=>by simp only[aaV];rw[Su];rw[cF.eq_3,D2 hx d l]
def kN.flat(hT:h T=some ⟨8,m.threads.map Thread.e,true⟩)(hl:m.threads.length=4)(hk:T<k):
  kN h k (fun i=>i=T) T (.sl false (m.layout.aD.map (V.int .i64))) (.sl false (m.memory.cells.map Cell.e)) (.sl false (m.memory.lines.map cw.e)) (m.threads.map Thread.e) m:=by
 refine⟨fun i hi=>by rw[hi];exact hk,rfl,hT,by simp[hl],hl,fun i g g'=>⟨.sl false ((m.threads[i]).bp.map Cell.e),?_⟩,fun hx _ d=>⟨by simp[cy],by simp[cy],by simp[cy],D2 hx d _⟩⟩;simp[Thread.bS]
def W4(vB:V)(C L T:Nat)(ids bw:Nat->Nat)(i:Nat):Prop:=i=C\/i=L\/i=T\/(∃j,j<4/\(i=ids j\/i=bw j))\/ ∃s n,vB= .cx i s n
def Oy{l:List Thread}(g:i<(cG ids l).length)(g':i<l.length):(cG ids l)[i]=dM ids i l[i]:=by
 simp[cG]
def kN.deep(H:gX h k vB C L T ids bw m):kN h k (W4 vB C L T ids bw) T vB (.cx C 0 512) (.cx L 0 4) (cG bw m.threads) m:=by
 have hl:=H.len;have sE:=H.mp.lines;have XV:=H.mp.len;refine⟨fun i hi=> ?_,.inr (.inr (.inl rfl)),H.pe,by rw[fA,hl],hl,fun i g g'=>⟨.cx (bw i) 0 (m.threads[i]).bp.length,?_⟩,fun hx AG d=> ?_⟩
 ·rcases hi with rfl|rfl|rfl|⟨j,hj,rfl|rfl⟩|⟨s,n,e⟩
  ·exact H.lt.1
  ·exact H.lt.2.1
  ·exact H.xr.2.2
  ·exact H.lt.2.2 j hj
  ·exact(H.qR j hj).2.2.2
  ·rcases H.aD with q|⟨B,q,_,g2,_⟩
   ·rw[q]at e;cases e
   ·rw[q]at e;cases e;exact g2.2.2.2
 ·rw[Oy g g'];rfl
 ·have nC:C≠T:=fun e=>H.xr.1 e.symm;have nL:L≠T:=fun e=>H.xr.2.1 e.symm;have xC:=AG C (.inl rfl) nC;have xL:=AG L (.inr (.inl rfl)) nL;have xI: ∀j,j<4->hx (ids j)=h (ids j):=fun j hj=>AG _ (.inr (.inr (.inr (.inl ⟨j,hj,.inl rfl⟩)))) (H.Sm j hj);have xR: ∀j,j<4->hx (bw j)=h (bw j):=fun j hj=>AG _ (.inr (.inr (.inr (.inl ⟨j,hj,.inr rfl⟩)))) (H.qR j hj).2.2.1;have e1:=H.EW (hx:=hx) xR (d+1);have e2:=H.zS (hx:=hx) xI d;have l2:=jh ids m.memory.lines;have t2:(fW ids m.memory.lines).take 4=fW ids m.memory.lines:=aZ (by omega);have t3:(m.memory.cells.map Cell.e).take 512=m.memory.cells.map Cell.e:=aZ (by simp;omega);refine⟨?_,?_,?_,e1⟩
  ·rcases H.aD with q|⟨B,q,g1,g2,g3,g4⟩
   ·rw[q];simp[cy]
   ·have xB:=AG B (.inr (.inr (.inr (.inr ⟨_,_,q⟩)))) g2.2.2.1;rw[q];simp[cy,xB,g1]
  ·simp[cy,xC,H.mem.cells,XV,t3]
  ·simp[cy,xL,H.mem.lines,l2,sE,t2,e2]
def G7(l:List Cell):(l.map Cell.e).all V.Mh=true:=by
 rw[aaP];intro x hx;obtain⟨c,_,rfl⟩:=List.mem_map.1 hx;rfl
def Ub(l:List Int):(l.map (V.int .i64)).all V.Mh=true:=by
 rw[aaP];intro x hx;obtain⟨c,_,rfl⟩:=List.mem_map.1 hx;rfl
def W5(ids:Nat->Nat)(l:List cw):(fW ids l).all V.Mh=true:=by
 rw[aaP];intro x hx;obtain⟨i,hi,rfl⟩:=abE hx;simp[fW,JW,V.Mh,V.Tc]
def Oz(ids:Nat->Nat)(l:List Thread):(cG ids l).all V.Mh=true:=by
 rw[aaP];intro x hx;obtain⟨i,hi,rfl⟩:=abE hx;simp[cG,dM,V.Mh,V.Tc]
def gX.pure(H:gX h k vB C L T ids bw m):gX (fun i=>kO (h i)) k vB C L T ids bw m:=by
 obtain⟨h0,h1,h2,h3,h4,h5,h6,h7,h9,zG,F9,L7,h13⟩:=H;refine⟨h0,⟨by simp only[h1.cells,kO,G7,if_true],by simp only[h1.lines,kO,W5,if_true],fun i g=>by simp only[h1.line i g,kO,G7,if_true]⟩,h2,h3,?_,by simp only[h5,kO,Oz,if_true],fun i g=>by simp only[h6 i g,kO,G7,if_true],h7,h9,zG,F9,L7,h13⟩;rcases h4 with e|⟨B,e,g1,g2⟩
 ·exact .inl e
 ·exact .inr ⟨B,e,by simp only[g1,kO,Ub,if_true],g2⟩
def gX.put      (H:gX h k vB C L T ids bw m)  (hA:oP a vB C L T ids bw) (hk:k<=k')  (ht:t<4) {x:Thread}
  (hT:h' T=some ⟨8,cG bw (m.threads.set t x),true⟩) (hR:h' (bw t)=some ⟨2,x.bp.map Cell.e,false⟩) (hh: ∀i,a<=i->i<k->i≠T->i≠bw t->h' i=h i):gX h' k' vB C L T ids bw (iZ m m.memory t x):=by
 obtain⟨h0,h1,h2,h3,h4,h5,h6,h7,h9,zG,F9,L7,h13⟩:=H;obtain⟨⟨aC,aL,aT⟩,aI,aB⟩:=hA;obtain⟨r3,r4,r5,r6⟩:=F9 t ht;refine⟨h0,⟨by rw[hh _ aC h3.1 (aaU h9.1) (aaU r3)];exact h1.cells,by rw[hh _ aL h3.2.1 (aaU h9.2.1) (aaU r4)];exact h1.lines,fun i g=> ?_⟩,h2,⟨by omega,by omega,fun i hi=>by have:=h3.2.2 i hi;omega⟩,?_,hT,fun i g=> ?_,by simp[iZ,h7],⟨h9.1,h9.2.1,by omega⟩,zG,fun i hi=>by have:=F9 i hi;omega,L7,h13⟩
 ·have hi:i<4:=by have:=h0.lines;simp only[iZ]at g;omega
  rw[hh _ (aI i hi).1 (h3.2.2 i hi) (zG i hi) (L7 t i ht hi)];exact h1.line i g
 ·rcases h4 with e|⟨B,e,g1,g2,g3,g4⟩
  ·exact .inl e
  ·exact .inr ⟨B,e,by rw[hh _ (aB _ _ _ e) g2.2.2.2 g2.2.2.1 (aaU (g4 t ht)),g1];rfl,⟨g2.1,g2.2.1,g2.2.2.1,by omega⟩,g3,g4⟩
 ·simp only[iZ,aaN]at g;simp only[iZ,abA];split
  ·rename_i e;subst e;exact hR
  ·rename_i e;rw[hh _ (aI i (by omega)).2 (F9 i (by omega)).2.2.2 (F9 i (by omega)).2.2.1 (h13 i t (by omega) ht (fun h=>e h.symm)),h6 i g]
def W4.OA(H:oP a vB C L T ids bw): ∀i,W4 vB C L T ids bw i->a<=i:=fun i hi=>by
 obtain⟨⟨aC,aL,aT⟩,aI,aB⟩:=H;rcases hi with rfl|rfl|rfl|⟨j,hj,rfl|rfl⟩|⟨s,n,e⟩
 ·exact aC
 ·exact aL
 ·exact aT
 ·exact(aI j hj).1
 ·exact(aI j hj).2
 ·exact aB _ _ _ e
def Lx(p:Prog)(d:Int)(lay:Layout)(h:bh)(k:Nat)(S:Nat->Prop)(v:V)(h':bh)(k':Nat):Prop:=
 ∃(b:Bool) (S':Nat->Prop) (T':Nat) (Yq Yr Ys:V) (Aj:List V) (m':aO),v= .dP [KKE Yq m'.layout.key Yr Ys (.cx T' 0 4),.bool b]/\kN h' k' S' T' Yq Yr Ys Aj m'/\cT p d m'/\m'.layout=lay/\k<=k'/\(∀i,i<k->h' i=h i)/\ ∀i,S' i->S i\/k<=i
def Lx.same{b:Bool}(HM:kN h k S T vB vC vL es m)(HG:cT p d m)(hB:Below k h h'):
  Lx p d m.layout h k S (.dP [KKE vB m.layout.key vC vL (.cx T 0 4),.bool b]) h' (k+n):=
 ⟨b,S,T,vB,vC,vL,es,m,rfl,HM.mono (by omega) fun i hi=>hB i (HM.lt i hi),HG,rfl,by omega,hB,fun i hi=> .inl hi⟩
def Lx.new{lay:Layout}{b:Bool}(H:gX h' (k+n) vB C L T ids bw m)(HA:oP k vB C L T ids bw)(HG:cT p d m)(hl:m.layout=lay)(hB:Below k h h'):
  Lx p d lay h k S (.dP [KKE vB m.layout.key (.cx C 0 512) (.cx L 0 4) (.cx T 0 4),.bool b]) h' (k+n):=
 ⟨b,_,T,vB,_,_,_,m,rfl,.deep H,HG,hl,by omega,hB,fun i hi=> .inr (W4.OA HA i hi)⟩
def dV.threads {h h':bh} {k k' b C L T:Nat} {vB:V} {ids bw kY:Nat->Nat} {m:aO} {Yt:List Thread} (H:dV h k b vB C L T ids bw m) (hk:k<=k') (hl:Yt.length=4) (hT:h' T=some ⟨8,cG kY Yt,true⟩)
  (hR: ∀i (g:i<Yt.length),h' (kY i)=some ⟨2,(Yt[i]).bp.map Cell.e,false⟩) (hi: ∀i,i<4->kY i=bw i\/(k<=kY i/\kY i<k')) (mj: ∀i j,i<4->j<4->i≠j->kY i≠kY j)
  (hh: ∀i,i<k->i≠T->(∀j,j<4->i≠bw j)->h' i=h i):dV h' k' b vB C L T ids kY ⟨m.layout,m.memory,Yt⟩:=by
 obtain⟨h1,h2,h3,h4,h0,h6,h7,h8,h9,zG⟩:=H;have gZ:=h1.lt;refine⟨?_,?_,hT,hR,hl,⟨h6.1,h6.2.1,h6.2.2.1,by omega⟩,h7,fun i yd=> ?_,fun i j yd hj=> ?_,mj⟩
 ·have e:Yt.length=m.threads.length:=by omega
  simp only[e];exact h1.eU hk (hh _ gZ.1 (aaU h6.1) fun j hj=>aaU (h8 j hj).1) (hh _ gZ.2.1 (aaU h6.2.1) fun j hj=>aaU (h8 j hj).2.1) (hh _ gZ.2.2.1 (aaU h6.2.2.1) fun j hj=>aaU (h8 j hj).2.2.1) fun j hj=>hh _ (gZ.2.2.2 j hj) (h7 j hj) fun i yd=>h9 i j yd hj
 ·rcases h2 with e|⟨B,e,g1,g2,g3,g4⟩
  ·exact .inl e
  ·refine .inr ⟨B,e,by rw[hh _ g2.2.2.2.2 g2.2.2.2.1 fun j hj=>aaU (g4 j hj),g1],by omega,g3,fun i yd=> ?_⟩;rcases hi i yd with q|q
   ·rw[q];exact g4 i yd
   ·have:=g2.2.2.2.2;omega
 ·obtain⟨a1,a3,a4,a5,a6⟩:=h8 i yd;rcases hi i yd with q|q
  ·rw[q];exact⟨a1,a3,a4,a5,by omega⟩
  ·have:=h6.2.2.2;have:=gZ.1;have:=gZ.2.1;have:=gZ.2.2.1;exact⟨by omega,by omega,by omega,by omega,q.2⟩
 ·rcases hi i yd with q|q
  ·rw[q];exact h9 i j yd hj
  ·have:=gZ.2.2.2 j hj;omega
def B7(B s n C L T:Nat)(m:aO):(jE (.cx B s n) C L T m).pu=true:=rfl
def oP.less(H:oP a vB C L T ids bw)(h:a'<=a):oP a' vB C L T ids bw:=by
 obtain⟨⟨aC,aL,aT⟩,aI,aB⟩:=H;exact⟨⟨by omega,by omega,by omega⟩,fun j hj=>by have:=aI j hj;omega,fun B s n e=>by have:=aB B s n e;omega⟩
def dV.other{b:Nat}(H:dV h k b vB C L T ids bw m)(hk:k<=k')(ha:a≠b/\a≠C/\a≠L/\a≠T)(hi: ∀j,j<4->a≠ids j/\a≠bw j)(hB: ∀B s n,vB= .cx B s n->a≠B)(hh: ∀i,i<k->i≠a->h' i=h i):dV h' k' b vB C L T ids bw m:=by
 obtain⟨h1,h2,h3,h4,h0,h6,h7,h8,h9,zG⟩:=H;have gZ:=h1.lt;refine⟨h1.eU hk (hh _ gZ.1 (aaU ha.1)) (hh _ gZ.2.1 (aaU ha.2.1)) (hh _ gZ.2.2.1 (aaU ha.2.2.1)) fun j hj=>hh _ (gZ.2.2.2 j hj) (aaU (hi j hj).1),?_,by rw[hh _ h6.2.2.2 (aaU ha.2.2.2),h3],fun i g=>by rw[hh _ (h8 i (by omega)).2.2.2.2 (aaU (hi i (by omega)).2),h4 i g],h0,⟨h6.1,h6.2.1,h6.2.2.1,by omega⟩,h7,fun i hi=>by obtain⟨a1,a3,a4,a5,a6⟩:=h8 i hi;exact⟨a1,a3,a4,a5,by omega⟩,h9,zG⟩;rcases h2 with e|⟨B,e,g1,g2,g3,g4⟩
 ·exact .inl e
 ·exact .inr ⟨B,e,by rw[hh _ g2.2.2.2.2 (aaU (hB _ _ _ e)),g1],by omega,g3,g4⟩
def gX.threads      {Yt:List Thread} (H:gX h k vB C L T ids bw m)  (hA:oP a vB C L T ids bw) (hk:k<=k') (hl:Yt.length=4) (hT:h' T=some ⟨8,cG kY Yt,true⟩)
  (hR: ∀i (g:i<Yt.length),h' (kY i)=some ⟨2,(Yt[i]).bp.map Cell.e,false⟩) (hi: ∀i,i<4->kY i=bw i\/(k<=kY i/\kY i<k')) (mj: ∀i j,i<4->j<4->i≠j->kY i≠kY j)
  (hh: ∀i,a<=i->i<k->i≠T->(∀j,j<4->i≠bw j)->h' i=h i):gX h' k' vB C L T ids kY ⟨m.layout,m.memory,Yt⟩:=by
 obtain⟨h0,h1,h2,h3,h4,h5,h6,h7,h9,zG,F9,L7,h13⟩:=H;obtain⟨⟨aC,aL,aT⟩,aI,aB⟩:=hA;refine⟨h0,⟨by rw[hh _ aC h3.1 (aaU h9.1) fun j hj=>aaU (F9 j hj).1];exact h1.cells,by rw[hh _ aL h3.2.1 (aaU h9.2.1) fun j hj=>aaU (F9 j hj).2.1];exact h1.lines,fun i g=> ?_⟩,h2,⟨by omega,by omega,fun i hi=>by have:=h3.2.2 i hi;omega⟩,?_,hT,hR,hl,⟨h9.1,h9.2.1,by omega⟩,zG,fun i yd=> ?_,fun i j yd hj=> ?_,mj⟩
 ·have hi:i<4:=by have:=h0.lines;simp only at g;omega
  rw[hh _ (aI i hi).1 (h3.2.2 i hi) (zG i hi) fun j hj=>L7 j i hj hi];exact h1.line i g
 ·rcases h4 with e|⟨B,e,g1,g2,g3,g4⟩
  ·exact .inl e
  ·refine .inr ⟨B,e,by rw[hh _ (aB _ _ _ e) g2.2.2.2 g2.2.2.1 fun j hj=>aaU (g4 j hj),g1],⟨g2.1,g2.2.1,g2.2.2.1,by omega⟩,g3,fun i yd=> ?_⟩;rcases hi i yd with q|q
   ·rw[q];exact g4 i yd
   ·have:=g2.2.2.2;omega
 ·obtain⟨a3,a4,a5,a6⟩:=F9 i yd;rcases hi i yd with q|q
  ·rw[q];exact⟨a3,a4,a5,by omega⟩
  ·have:=h9.2.2;have:=h3.1;have:=h3.2.1;exact⟨by omega,by omega,by omega,q.2⟩
 ·rcases hi i yd with q|q
  ·rw[q];exact L7 i j yd hj
  ·have:=h3.2.2 j hj;omega
def aug(cs:List V):(V.agg cs).pu=cs.all V.Tc:=rfl
def G8(i s n:Nat):(V.cx i s n).pu=true:=rfl
def al0(i s n:Nat):(V.cx i s n).Tc=true:=rfl
def al1(k:IntKind)(n:Int):(V.int k n).Tc=true:=rfl
def gX.own{r:aO}(HA:gX h k vB C L T ids bw r):Mi X h (jE vB C L T r) [(0,4,112)]=some (.agg (mo r)):=by
 have hT:=HA.pe;have hl:=HA.len;have sE:=HA.mp.lines;have XV:=HA.mp.len;have nC: ¬C=T:=fun e=>HA.xr.1 e.symm;have nL: ¬L=T:=fun e=>HA.xr.2.1 e.symm;have u: ∀i,i≠T->aR h T none i=h i:=fun i hi=>by simp[aR,hi]
 have e1:=HA.EW (hx:=aR h T none) (fun i hi=>u _ (HA.qR i hi).2.2.1) 10;have e2:=HA.zS (hx:=aR h T none) (fun i hi=>u _ (HA.Sm i hi)) 9;have l1:=fA bw r.threads;have l2:=jh ids r.memory.lines;rw[hl]at l1;rw[sE]at l2;have t1:(cG bw r.threads).take 4=cG bw r.threads:=aZ (by omega);have t2:(fW ids r.memory.lines).take 4=fW ids r.memory.lines:=aZ (by omega);have t3:(r.memory.cells.map Cell.e).take 512=r.memory.cells.map Cell.e:=aZ (by simp;omega);have t4:(r.threads.map Thread.e).take 4=r.threads.map Thread.e:=aZ (by simp;omega);unfold jE mo;rcases HA.aD with e|⟨B,e,g1,g2,g3,g4⟩
 ·simp[e,hT,hl,XV,nC,nL,HA.mem.cells,HA.mem.lines,l1,l2,t1,t2,t3,e1,e2]
 ·have nB: ¬B=T:=g2.2.2.1;simp[e,g1,hT,hl,XV,nB,nC,nL,HA.mem.cells,HA.mem.lines,l1,l2,t1,t2,t3,e1,e2]
@[simp]def al2(aa:List Int)(aq:Int)(ak:List Cell)(ah:List cw)(au:List Thread)(p:Prog)(c:Int)(HG:cT p c (aO.mk (Layout.mk aa aq) (aF.mk ak ah) au)):ng X [(0,4,112)] 103 [KKY aa aq ak ah au]=some ((KKK ((aO.mk (Layout.mk aa aq) (aF.mk ak ah) au)):V)):=by
 obtain⟨v,h',k',e,_,hv,HA,_⟩:=EZ aa aq ak ah au 0 p c HG;unfold Go.Abs.ng;rw[e];simp only[hv];exact HA.own
def zg(m:aO)(t:Nat):aO:=⟨m.layout,m.memory,m.threads.set t {bV m t with saved:=(bV m t).pc,pc:=(bV m t).cp}⟩
@[simp]def W6(aa:List Int)(aq:Int)(ak:List Cell)(ah:List cw)(au:List Thread)(t:Int)(p:Prog)(c:Int)(HG:cT p c (aO.mk (Layout.mk aa aq) (aF.mk ak ah) au))(ht:0<=t/\t<4)(hc:Gt (au.getD t.toNat cn)=true):ng X [(0,4,112)] 120 [KKY aa aq ak ah au,.int .i64 t]=some (.dP [KKK (zg (aO.mk (Layout.mk aa aq) (aF.mk ak ah) au) t.toNat),.bool true]):=by
 refine aaC ?_;obtain⟨k,rfl⟩:=aaG ht.1;have k4:k<4:=by omega
 have E3:(k:Int)<4:=by omega
 have hl:au.length=4:=HG.len;have kl:k<au.length:=by omega
 have Uc:=al2 aa aq ak ah au p c HG;have IM:=yQ aa aq ak ah au k ⟨by omega,by omega⟩ hl;rw[hc]at IM;have hx:bV (aO.mk (Layout.mk aa aq) (aF.mk ak ah) au) k=au[k]:=iq kl;obtain⟨⟨st,rg,pc,co,ha,sa,tr,cd⟩,pH⟩: ∃x,au[k]=x:=⟨_,rfl⟩;rw[aaH];unfold zg;rw[hx,pH];obtain⟨Cs,EB⟩: ∃Cs,au.set k ⟨st,rg,ha,co,ha,pc,tr,cd⟩=Cs:=⟨_,rfl⟩;have ya:Cs.length=4:=by rw[<-EB];simp[hl]
 have tG: ∀(f:Thread->V),List.take 4 (au.map f)=au.map f:=fun f=>aZ (by simp;omega);have Ss: ∀(f:Thread->Option V),List.take 4 (au.map f)=au.map f:=fun f=>aZ (by simp;omega);have Lw: ∀(f:Thread->V),List.take 4 (Cs.map f)=Cs.map f:=fun f=>aZ (by simp;omega);have alx: ∀(f:Thread->Option V),List.take 4 (Cs.map f)=Cs.map f:=fun f=>aZ (by simp;omega);have F3:(Thread.e ⟨st,rg,pc,co,ha,sa,tr,cd⟩).put 5 (.int .i64 pc)=Thread.e ⟨st,rg,pc,co,ha,pc,tr,cd⟩:=rfl;have CH:(Thread.e ⟨st,rg,pc,co,ha,pc,tr,cd⟩).put 2 (.int .i64 ha)=Thread.e ⟨st,rg,ha,co,ha,pc,tr,cd⟩:=rfl;have lh:(au.map Thread.e).set k (Thread.e ⟨st,rg,ha,co,ha,pc,tr,cd⟩)=Cs.map Thread.e:=by rw[<-EB,abO]
 rw[EB];simp[Uc,IM,Lw,lb,hl,ya,k4,E3,pH,F3,CH,lh]
def eZ{r:Nat}(h:((k:Int)+cQ) % an.length=(r:Int)):Gc an cQ (bs,at_) k=(bs.set r at_,at_+nth an r+1+cQ/ (50*an.length) % 40):=by
 unfold Gc;rw[h];rfl
def a2h(a cQ q g:Int)(hs:cQ % 1=0)(hq:1+cQ/ (1:Int) % 50=q)(hg:cQ/ (50*(1:Int)) % 40=g):fG [a] cQ=[q]:=by
 have hl:([a]:List Int).length=1:=rfl;have sG:((([a]:List Int).length:Nat):Int)=1:=rfl;have EL:cQ/ (50*((([a]:List Int).length:Nat):Int)) % 40=g:=by rw[sG];exact hg
 have e0:nv [a] cQ 0=(List.replicate 1 0,q):=by unfold nv;rw[<-hq];rfl
 unfold fG;rw[hl,iH,e0];rw[eZ (k:=0) (r:=0) (by rw[sG];omega)];simp only[EL];rfl
def a2i(a b cQ q g:Int)(hs:cQ % 2=0)(hq:1+cQ/ (2:Int) % 50=q)(hg:cQ/ (50*(2:Int)) % 40=g):fG [a,b] cQ=[q,q+a+1+g]:=by
 have hl:([a,b]:List Int).length=2:=rfl;have sG:((([a,b]:List Int).length:Nat):Int)=2:=rfl;have EL:cQ/ (50*((([a,b]:List Int).length:Nat):Int)) % 40=g:=by rw[sG];exact hg
 have e0:nv [a,b] cQ 0=(List.replicate 2 0,q):=by unfold nv;rw[<-hq];rfl
 unfold fG;rw[hl,iH,iH,e0];rw[eZ (k:=0) (r:=0) (by rw[sG];omega)];rw[eZ (k:=1) (r:=1) (by rw[sG];omega)];simp only[EL];rfl
def a2j(a b cQ q g:Int)(hs:cQ % 2=1)(hq:1+cQ/ (2:Int) % 50=q)(hg:cQ/ (50*(2:Int)) % 40=g):fG [a,b] cQ=[q+b+1+g,q]:=by
 have hl:([a,b]:List Int).length=2:=rfl;have sG:((([a,b]:List Int).length:Nat):Int)=2:=rfl;have EL:cQ/ (50*((([a,b]:List Int).length:Nat):Int)) % 40=g:=by rw[sG];exact hg
 have e0:nv [a,b] cQ 0=(List.replicate 2 0,q):=by unfold nv;rw[<-hq];rfl
 unfold fG;rw[hl,iH,iH,e0];rw[eZ (k:=0) (r:=1) (by rw[sG];omega)];rw[eZ (k:=1) (r:=0) (by rw[sG];omega)];simp only[EL];rfl
def a2k(a b c cQ q g:Int)(hs:cQ % 3=0)(hq:1+cQ/ (3:Int) % 50=q)(hg:cQ/ (50*(3:Int)) % 40=g):fG [a,b,c] cQ=[q,q+a+1+g,q+a+1+g+b+1+g]:=by
 have hl:([a,b,c]:List Int).length=3:=rfl;have sG:((([a,b,c]:List Int).length:Nat):Int)=3:=rfl;have EL:cQ/ (50*((([a,b,c]:List Int).length:Nat):Int)) % 40=g:=by rw[sG];exact hg
 have e0:nv [a,b,c] cQ 0=(List.replicate 3 0,q):=by unfold nv;rw[<-hq];rfl
 unfold fG;rw[hl,iH,iH,iH,e0];rw[eZ (k:=0) (r:=0) (by rw[sG];omega)];rw[eZ (k:=1) (r:=1) (by rw[sG];omega)];rw[eZ (k:=2) (r:=2) (by rw[sG];omega)];simp only[EL];rfl
def a2l(a b c cQ q g:Int)(hs:cQ % 3=1)(hq:1+cQ/ (3:Int) % 50=q)(hg:cQ/ (50*(3:Int)) % 40=g):fG [a,b,c] cQ=[q+b+1+g+c+1+g,q,q+b+1+g]:=by
 have hl:([a,b,c]:List Int).length=3:=rfl;have sG:((([a,b,c]:List Int).length:Nat):Int)=3:=rfl;have EL:cQ/ (50*((([a,b,c]:List Int).length:Nat):Int)) % 40=g:=by rw[sG];exact hg
 have e0:nv [a,b,c] cQ 0=(List.replicate 3 0,q):=by unfold nv;rw[<-hq];rfl
 unfold fG;rw[hl,iH,iH,iH,e0];rw[eZ (k:=0) (r:=1) (by rw[sG];omega)];rw[eZ (k:=1) (r:=2) (by rw[sG];omega)];rw[eZ (k:=2) (r:=0) (by rw[sG];omega)];simp only[EL];rfl
def a2m(a b c cQ q g:Int)(hs:cQ % 3=2)(hq:1+cQ/ (3:Int) % 50=q)(hg:cQ/ (50*(3:Int)) % 40=g):fG [a,b,c] cQ=[q+c+1+g,q+c+1+g+a+1+g,q]:=by
 have hl:([a,b,c]:List Int).length=3:=rfl;have sG:((([a,b,c]:List Int).length:Nat):Int)=3:=rfl;have EL:cQ/ (50*((([a,b,c]:List Int).length:Nat):Int)) % 40=g:=by rw[sG];exact hg
 have e0:nv [a,b,c] cQ 0=(List.replicate 3 0,q):=by unfold nv;rw[<-hq];rfl
 unfold fG;rw[hl,iH,iH,iH,e0];rw[eZ (k:=0) (r:=2) (by rw[sG];omega)];rw[eZ (k:=1) (r:=0) (by rw[sG];omega)];rw[eZ (k:=2) (r:=1) (by rw[sG];omega)];simp only[EL];rfl
def a2n(a b c d cQ q g:Int)(hs:cQ % 4=0)(hq:1+cQ/ (4:Int) % 50=q)(hg:cQ/ (50*(4:Int)) % 40=g):fG [a,b,c,d] cQ=[q,q+a+1+g,q+a+1+g+b+1+g,q+a+1+g+b+1+g+c+1+g]:=by
 have hl:([a,b,c,d]:List Int).length=4:=rfl;have sG:((([a,b,c,d]:List Int).length:Nat):Int)=4:=rfl;have EL:cQ/ (50*((([a,b,c,d]:List Int).length:Nat):Int)) % 40=g:=by rw[sG];exact hg
 have e0:nv [a,b,c,d] cQ 0=(List.replicate 4 0,q):=by unfold nv;rw[<-hq];rfl
 unfold fG;rw[hl,iH,iH,iH,iH,e0];rw[eZ (k:=0) (r:=0) (by rw[sG];omega)];rw[eZ (k:=1) (r:=1) (by rw[sG];omega)];rw[eZ (k:=2) (r:=2) (by rw[sG];omega)];rw[eZ (k:=3) (r:=3) (by rw[sG];omega)];simp only[EL];rfl
def a2o(a b c d cQ q g:Int)(hs:cQ % 4=1)(hq:1+cQ/ (4:Int) % 50=q)(hg:cQ/ (50*(4:Int)) % 40=g):fG [a,b,c,d] cQ=[q+b+1+g+c+1+g+d+1+g,q,q+b+1+g,q+b+1+g+c+1+g]:=by
 have hl:([a,b,c,d]:List Int).length=4:=rfl;have sG:((([a,b,c,d]:List Int).length:Nat):Int)=4:=rfl;have EL:cQ/ (50*((([a,b,c,d]:List Int).length:Nat):Int)) % 40=g:=by rw[sG];exact hg
 have e0:nv [a,b,c,d] cQ 0=(List.replicate 4 0,q):=by unfold nv;rw[<-hq];rfl
 unfold fG;rw[hl,iH,iH,iH,iH,e0];rw[eZ (k:=0) (r:=1) (by rw[sG];omega)];rw[eZ (k:=1) (r:=2) (by rw[sG];omega)];rw[eZ (k:=2) (r:=3) (by rw[sG];omega)];rw[eZ (k:=3) (r:=0) (by rw[sG];omega)];simp only[EL];rfl
def a2p(a b c d cQ q g:Int)(hs:cQ % 4=2)(hq:1+cQ/ (4:Int) % 50=q)(hg:cQ/ (50*(4:Int)) % 40=g):fG [a,b,c,d] cQ=[q+c+1+g+d+1+g,q+c+1+g+d+1+g+a+1+g,q,q+c+1+g]:=by
 have hl:([a,b,c,d]:List Int).length=4:=rfl;have sG:((([a,b,c,d]:List Int).length:Nat):Int)=4:=rfl;have EL:cQ/ (50*((([a,b,c,d]:List Int).length:Nat):Int)) % 40=g:=by rw[sG];exact hg
 have e0:nv [a,b,c,d] cQ 0=(List.replicate 4 0,q):=by unfold nv;rw[<-hq];rfl
 unfold fG;rw[hl,iH,iH,iH,iH,e0];rw[eZ (k:=0) (r:=2) (by rw[sG];omega)];rw[eZ (k:=1) (r:=3) (by rw[sG];omega)];rw[eZ (k:=2) (r:=0) (by rw[sG];omega)];rw[eZ (k:=3) (r:=1) (by rw[sG];omega)];simp only[EL];rfl
def a2q(a b c d cQ q g:Int)(hs:cQ % 4=3)(hq:1+cQ/ (4:Int) % 50=q)(hg:cQ/ (50*(4:Int)) % 40=g):fG [a,b,c,d] cQ=[q+d+1+g,q+d+1+g+a+1+g,q+d+1+g+a+1+g+b+1+g,q]:=by
 have hl:([a,b,c,d]:List Int).length=4:=rfl;have sG:((([a,b,c,d]:List Int).length:Nat):Int)=4:=rfl;have EL:cQ/ (50*((([a,b,c,d]:List Int).length:Nat):Int)) % 40=g:=by rw[sG];exact hg
 have e0:nv [a,b,c,d] cQ 0=(List.replicate 4 0,q):=by unfold nv;rw[<-hq];rfl
 unfold fG;rw[hl,iH,iH,iH,iH,e0];rw[eZ (k:=0) (r:=3) (by rw[sG];omega)];rw[eZ (k:=1) (r:=0) (by rw[sG];omega)];rw[eZ (k:=2) (r:=1) (by rw[sG];omega)];rw[eZ (k:=3) (r:=2) (by rw[sG];omega)];simp only[EL];rfl
def Lz(hz:oI an)(hs:0<=cQ):nW (fG an cQ) an:=by
 have SC:=hz;obtain⟨h1,h2,h3⟩:=hz;have g0: ∀n:Int,0<=cQ/n % 50/\cQ/n % 50<=49:=fun n=>by omega
 have g1: ∀n:Int,0<=cQ/n % 40/\cQ/n % 40<=39:=fun n=>by omega
 match an,SC,h1,h2,h3 with
 | [],_,_,h2,_=>simp at h2
 |_::_::_::_::_::_,_,_,_,h3=>simp at h3
 | [a],SC,h1,_,_=>
  obtain⟨q,hq⟩: ∃q,1+cQ/ (1:Int) % 50=q:=⟨_,rfl⟩;obtain⟨g,hg⟩: ∃g,cQ/ (50*(1:Int)) % 40=g:=⟨_,rfl⟩;have q0:=g0 1;have q1:=g1 (50*1);rw[hg]at q1;have ha:1<=a/\a<=32:=h1 0 (by simp);have hm:cQ % 1=0:=by omega
  rcases hm with hm
  ·rw[a2h a cQ q g hm hq hg];refine⟨SC,rfl,fun i hi oy=> ?_,fun i j hi oy hj BB mj=> ?_⟩
   ·have:i=0:=by simp at hi;omega
    rcases this with rfl<;>simp<;>omega
   ·have:i=0:=by simp at hi;omega
    have:j=0:=by simp at hj;omega
    rcases ‹i=0› with rfl<;>rcases ‹j=0› with rfl<;>first|(exact absurd rfl mj)|(simp;omega)
 | [a,b],SC,h1,_,_=>
  obtain⟨q,hq⟩: ∃q,1+cQ/ (2:Int) % 50=q:=⟨_,rfl⟩;obtain⟨g,hg⟩: ∃g,cQ/ (50*(2:Int)) % 40=g:=⟨_,rfl⟩;have q0:=g0 2;have q1:=g1 (50*2);rw[hg]at q1;have ha:1<=a/\a<=32:=h1 0 (by simp);have hb:1<=b/\b<=32:=h1 1 (by simp);have hm:cQ % 2=0\/cQ % 2=1:=by omega
  rcases hm with hm|hm
  ·rw[a2i a b cQ q g hm hq hg];refine⟨SC,rfl,fun i hi oy=> ?_,fun i j hi oy hj BB mj=> ?_⟩
   ·have:i=0\/i=1:=by simp at hi;omega
    rcases this with rfl|rfl<;>simp<;>omega
   ·have:i=0\/i=1:=by simp at hi;omega
    have:j=0\/j=1:=by simp at hj;omega
    rcases ‹i=0\/i=1› with rfl|rfl<;>rcases ‹j=0\/j=1› with rfl|rfl<;>first|(exact absurd rfl mj)|(simp;omega)
  ·rw[a2j a b cQ q g hm hq hg];refine⟨SC,rfl,fun i hi oy=> ?_,fun i j hi oy hj BB mj=> ?_⟩
   ·have:i=0\/i=1:=by simp at hi;omega
    rcases this with rfl|rfl<;>simp<;>omega
   ·have:i=0\/i=1:=by simp at hi;omega
    have:j=0\/j=1:=by simp at hj;omega
    rcases ‹i=0\/i=1› with rfl|rfl<;>rcases ‹j=0\/j=1› with rfl|rfl<;>first|(exact absurd rfl mj)|(simp;omega)
 | [a,b,c],SC,h1,_,_=>
  obtain⟨q,hq⟩: ∃q,1+cQ/ (3:Int) % 50=q:=⟨_,rfl⟩;obtain⟨g,hg⟩: ∃g,cQ/ (50*(3:Int)) % 40=g:=⟨_,rfl⟩;have q0:=g0 3;have q1:=g1 (50*3);rw[hg]at q1;have ha:1<=a/\a<=32:=h1 0 (by simp);have hb:1<=b/\b<=32:=h1 1 (by simp);have hc:1<=c/\c<=32:=h1 2 (by simp);have hm:cQ % 3=0\/cQ % 3=1\/cQ % 3=2:=by omega
  rcases hm with hm|hm|hm
  ·rw[a2k a b c cQ q g hm hq hg];refine⟨SC,rfl,fun i hi oy=> ?_,fun i j hi oy hj BB mj=> ?_⟩
   ·have:i=0\/i=1\/i=2:=by simp at hi;omega
    rcases this with rfl|rfl|rfl<;>simp<;>omega
   ·have:i=0\/i=1\/i=2:=by simp at hi;omega
    have:j=0\/j=1\/j=2:=by simp at hj;omega
    rcases ‹i=0\/i=1\/i=2› with rfl|rfl|rfl<;>rcases ‹j=0\/j=1\/j=2› with rfl|rfl|rfl<;>first|(exact absurd rfl mj)|(simp;omega)
  ·rw[a2l a b c cQ q g hm hq hg];refine⟨SC,rfl,fun i hi oy=> ?_,fun i j hi oy hj BB mj=> ?_⟩
   ·have:i=0\/i=1\/i=2:=by simp at hi;omega
    rcases this with rfl|rfl|rfl<;>simp<;>omega
   ·have:i=0\/i=1\/i=2:=by simp at hi;omega
    have:j=0\/j=1\/j=2:=by simp at hj;omega
    rcases ‹i=0\/i=1\/i=2› with rfl|rfl|rfl<;>rcases ‹j=0\/j=1\/j=2› with rfl|rfl|rfl<;>first|(exact absurd rfl mj)|(simp;omega)
  ·rw[a2m a b c cQ q g hm hq hg];refine⟨SC,rfl,fun i hi oy=> ?_,fun i j hi oy hj BB mj=> ?_⟩
   ·have:i=0\/i=1\/i=2:=by simp at hi;omega
    rcases this with rfl|rfl|rfl<;>simp<;>omega
   ·have:i=0\/i=1\/i=2:=by simp at hi;omega
    have:j=0\/j=1\/j=2:=by simp at hj;omega
    rcases ‹i=0\/i=1\/i=2› with rfl|rfl|rfl<;>rcases ‹j=0\/j=1\/j=2› with rfl|rfl|rfl<;>first|(exact absurd rfl mj)|(simp;omega)
 | [a,b,c,d],SC,h1,_,_=>
  obtain⟨q,hq⟩: ∃q,1+cQ/ (4:Int) % 50=q:=⟨_,rfl⟩;obtain⟨g,hg⟩: ∃g,cQ/ (50*(4:Int)) % 40=g:=⟨_,rfl⟩;have q0:=g0 4;have q1:=g1 (50*4);rw[hg]at q1;have ha:1<=a/\a<=32:=h1 0 (by simp);have hb:1<=b/\b<=32:=h1 1 (by simp);have hc:1<=c/\c<=32:=h1 2 (by simp);have hd:1<=d/\d<=32:=h1 3 (by simp);have hm:cQ % 4=0\/cQ % 4=1\/cQ % 4=2\/cQ % 4=3:=by omega
  rcases hm with hm|hm|hm|hm
  ·rw[a2n a b c d cQ q g hm hq hg];refine⟨SC,rfl,fun i hi oy=> ?_,fun i j hi oy hj BB mj=> ?_⟩
   ·have:i=0\/i=1\/i=2\/i=3:=by simp at hi;omega
    rcases this with rfl|rfl|rfl|rfl<;>simp<;>omega
   ·have:i=0\/i=1\/i=2\/i=3:=by simp at hi;omega
    have:j=0\/j=1\/j=2\/j=3:=by simp at hj;omega
    rcases ‹i=0\/i=1\/i=2\/i=3› with rfl|rfl|rfl|rfl<;>rcases ‹j=0\/j=1\/j=2\/j=3› with rfl|rfl|rfl|rfl<;>first|(exact absurd rfl mj)|(simp;omega)
  ·rw[a2o a b c d cQ q g hm hq hg];refine⟨SC,rfl,fun i hi oy=> ?_,fun i j hi oy hj BB mj=> ?_⟩
   ·have:i=0\/i=1\/i=2\/i=3:=by simp at hi;omega
    rcases this with rfl|rfl|rfl|rfl<;>simp<;>omega
   ·have:i=0\/i=1\/i=2\/i=3:=by simp at hi;omega
    have:j=0\/j=1\/j=2\/j=3:=by simp at hj;omega
    rcases ‹i=0\/i=1\/i=2\/i=3› with rfl|rfl|rfl|rfl<;>rcases ‹j=0\/j=1\/j=2\/j=3› with rfl|rfl|rfl|rfl<;>first|(exact absurd rfl mj)|(simp;omega)
  ·rw[a2p a b c d cQ q g hm hq hg];refine⟨SC,rfl,fun i hi oy=> ?_,fun i j hi oy hj BB mj=> ?_⟩
   ·have:i=0\/i=1\/i=2\/i=3:=by simp at hi;omega
    rcases this with rfl|rfl|rfl|rfl<;>simp<;>omega
   ·have:i=0\/i=1\/i=2\/i=3:=by simp at hi;omega
    have:j=0\/j=1\/j=2\/j=3:=by simp at hj;omega
    rcases ‹i=0\/i=1\/i=2\/i=3› with rfl|rfl|rfl|rfl<;>rcases ‹j=0\/j=1\/j=2\/j=3› with rfl|rfl|rfl|rfl<;>first|(exact absurd rfl mj)|(simp;omega)
  ·rw[a2q a b c d cQ q g hm hq hg];refine⟨SC,rfl,fun i hi oy=> ?_,fun i j hi oy hj BB mj=> ?_⟩
   ·have:i=0\/i=1\/i=2\/i=3:=by simp at hi;omega
    rcases this with rfl|rfl|rfl|rfl<;>simp<;>omega
   ·have:i=0\/i=1\/i=2\/i=3:=by simp at hi;omega
    have:j=0\/j=1\/j=2\/j=3:=by simp at hj;omega
    rcases ‹i=0\/i=1\/i=2\/i=3› with rfl|rfl|rfl|rfl<;>rcases ‹j=0\/j=1\/j=2\/j=3› with rfl|rfl|rfl|rfl<;>first|(exact absurd rfl mj)|(simp;omega)
structure Cc (n:Nat) (i:Instr):Prop where
 op:0<=i.op/\i.op<=24
 a:0<=i.a/\i.a<8/\(iN i.op 0=false->i.a=0)
 b:0<=i.b/\i.b<8/\(iN i.op 1=false->i.b=0)
 c:0<=i.c/\i.c<8/\(iN i.op 2=false->i.c=0)
 eu:0<=i.eu/\i.eu<=65535/\(iN i.op 3=false->i.eu=0)
 lea:i.op=15->i.eu<n
 sys:i.op=23->i.eu<=15
def W9{i:Instr}(h:jumps i.op=true):(vy N i).eu=if N<=i.eu then 0 else i.eu:=by
 unfold vy;by_cases g:N<=i.eu
 ·rw[if_pos ⟨h,g⟩,if_pos g]
 ·rw[if_neg (fun q=>g q.2),if_neg g]
def OG(N:Int)(i:Instr):(vy N i).op=i.op/\(vy N i).a=i.a/\(vy N i).b=i.b/\(vy N i).c=i.c:=by
 unfold vy;split<;>exact⟨rfl,rfl,rfl,rfl⟩
def SD(h:jumps op=true):iN op 3=true:=by
 unfold jumps at h;simp at h;rcases h with((rfl|rfl)|rfl)|rfl<;>rfl
def Cc.fix{i:Instr}(H:Cc n i)(hn:n<=4){N:Nat}(h1:1<=N)(h2:N<=64):nh (vy N i)=true/\qp N n (vy N i)=true:=by
 obtain⟨e1,e2,e3,e4⟩:=OG N i;obtain⟨f1,⟨f2,f3,f4⟩,⟨f5,f6,f7⟩,⟨f8,f9,f10⟩,⟨f11,f12,f13⟩,f14,f15⟩:=H;have hi:0<=(vy N i).eu/\(vy N i).eu<=i.eu:=by
  unfold vy;split
  ·simp only;omega
  ·omega
 have hj:jumps i.op=true->(vy N i).eu<N:=fun h=>by rw[W9 h];split<;>omega
 constructor
 ·unfold nh;rw[e1,e2,e3,e4];rw[if_neg (by omega),if_neg (by
   intro h;rcases h with h|h|h; · omega
   ·omega
   ·exact h.2 (f4 h.1)),if_neg (by
    intro h;rcases h with h|h|h; · omega
    ·omega
    ·exact h.2 (f7 h.1)),if_neg (by
     intro h;rcases h with h|h|h; · omega
     ·omega
     ·exact h.2 (f10 h.1)),if_neg (by
   intro h;rcases h with h|h|h
   ·omega
   ·omega
   ·have:=f13 h.1;exact h.2 (by omega))]
  split
  ·rename_i h;have:=hj h;simp;omega
  split
  ·rename_i h;have:=f14 h;simp;omega
  split
  ·rename_i h;have:=f15 h;simp;omega
  ·rfl
 ·unfold qp;rw[e1];simp only[aaF,aaZ,acY,decide_eq_false_iff_not];constructor
  ·cases h:jumps i.op
   ·exact .inl rfl
   ·exact .inr (by have:=hj h;omega)
  ·by_cases h:i.op=15
   ·exact .inr (by have:=f14 h;omega)
   ·exact .inl h
def nw(n:Nat)(l:List Instr):Prop:= ∀i∈l,Cc n i
def nw.nil(n:Nat):nw n []:=fun i h=>by cases h
def nw.cons{i:Instr}{l:List Instr}(h:Cc n i)(hl:nw n l):nw n (i::l):=fun x hx=>by
 rcases List.mem_cons.1 hx with rfl|hx
 ·exact h
 ·exact hl x hx
def nw.append{a b:List Instr}(ha:nw n a)(hb:nw n b):nw n (a++b):=fun x hx=>by
 rcases List.mem_append.1 hx with h|h
 ·exact ha x h
 ·exact hb x h
def nw.take{n:Nat}{a:List Instr}(ha:nw n a)(k:Nat):nw n (a.take k):=fun x hx=>ha x (aaS hx)
def A9(h:0<=r/\r<8)(hv:0<=v/\v<=65535):Cc n ⟨1,r,0,0,v⟩:=⟨by simp,⟨h.1,h.2,fun q=>by cases q⟩,by simp,by simp,⟨hv.1,hv.2,fun q=>by cases q⟩,fun q=>by simp at q,fun q=>by simp at q⟩
def Ha{a:Int}(h:0<=a/\a<8)(hb:0<=b/\b<8):Cc n ⟨2,a,b,0,0⟩:=⟨by simp,⟨h.1,h.2,fun q=>by cases q⟩,⟨hb.1,hb.2,fun q=>by cases q⟩,by simp,by simp,fun q=>by simp at q,fun q=>by simp at q⟩
def zj(hv:0<=v/\v<=15):Cc n ⟨23,0,0,0,v⟩:=⟨by simp,by simp,by simp,by simp,⟨hv.1,by simp only;omega,fun q=>by cases q⟩,fun q=>by simp at q,fun _=>hv.2⟩
def Kg{a:Int}(h:0<=a/\a<8)(hn:n<=4)(hv:0<=v/\v<n):Cc n ⟨15,a,0,0,v⟩:=⟨by simp,⟨h.1,h.2,fun q=>by cases q⟩,by simp,by simp,⟨hv.1,by simp only;omega,fun q=>by cases q⟩,fun _=>hv.2,fun q=>by simp at q⟩
def jo{a:Int}(ho:3<=o/\o<=14)(h:0<=a/\a<8)(hb:0<=b/\b<8)(hc:0<=c/\c<8):Cc n ⟨o,a,b,c,0⟩:=by
 have AF:o=3\/o=4\/o=5\/o=6\/o=7\/o=8\/o=9\/o=10\/o=11\/o=12\/o=13\/o=14:=by omega
 have u:iN o 0=true/\iN o 1=true/\iN o 2=true:=by
  rcases AF with rfl|rfl|rfl|rfl|rfl|rfl|rfl|rfl|rfl|rfl|rfl|rfl<;>exact⟨rfl,rfl,rfl⟩
 exact⟨by simp only;omega,⟨h.1,h.2,fun q=>by rw[u.1]at q;cases q⟩,⟨hb.1,hb.2,fun q=>by rw[u.2.1]at q;cases q⟩,⟨hc.1,hc.2,fun q=>by rw[u.2.2]at q;cases q⟩,by simp,fun q=>by simp only at q;omega,fun q=>by simp only at q;omega⟩
def aqg{a:Int}(ho:o=16\/o=17)(h:0<=a/\a<8)(hb:0<=b/\b<8)(hv:0<=v/\v<=65535):Cc n ⟨o,a,b,0,v⟩:=by
 rcases ho with rfl|rfl<;>exact⟨by simp,⟨h.1,h.2,fun q=>by cases q⟩,⟨hb.1,hb.2,fun q=>by cases q⟩,by simp,⟨hv.1,hv.2,fun q=>by cases q⟩,fun q=>by simp at q,fun q=>by simp at q⟩
def a2r{a:Int}(h:0<=a/\a<8)(hv:0<=v/\v<=65535):Cc n ⟨20,a,0,0,v⟩:=⟨by simp,⟨h.1,h.2,fun q=>by cases q⟩,by simp,by simp,⟨hv.1,hv.2,fun q=>by cases q⟩,fun q=>by simp at q,fun q=>by simp at q⟩
def a2s(hv:0<=v/\v<=65535):Cc n ⟨18,0,0,0,v⟩:=⟨by simp,by simp,by simp,by simp,⟨hv.1,hv.2,fun q=>by cases q⟩,fun q=>by simp at q,fun q=>by simp at q⟩
def a2t:Cc n ⟨24,0,0,0,0⟩:=⟨by simp,by simp,by simp,by simp,by simp,fun q=>by simp at q,fun q=>by simp at q⟩
def LA(l:List Int)(u:Bool)(k:Int):0<=yN l u k/\yN l u k<8/\(u=false->yN l u k=0):=by
 have:=ez l k (n:=8) (by omega);cases u
 ·exact⟨by simp[yN],by simp[yN],fun _=>rfl⟩
 ·exact⟨by simp[yN];omega,by simp[yN];omega,fun q=>by cases q⟩
def aum(l:List Int)(k:Int)(hn:1<=n/\n<=4)(hm:1<=jf/\jf<=1000):Cc n (BT l n jf k):=by
 have ho:=ez l k (n:=25) (by omega);unfold BT;obtain⟨op,jK⟩: ∃op,eX l k 25=op:=⟨_,rfl⟩;rw[jK]at ho⊢;have hi:0<=NV l op n jf (k3 l op k)/\NV l op n jf (k3 l op k)<=65535/\(iN op 3=false->NV l op n jf (k3 l op k)=0)/\(op=15->NV l op n jf (k3 l op k)<n)/\(op=23->NV l op n jf (k3 l op k)<=15):=by
  unfold NV;have a1:=ez l (k3 l op k) (n:=jf) (by omega);have a2:=ez l (k3 l op k) (n:=n) (by omega);have a3:=ez l (k3 l op k) (n:=16) (by omega);have a4:=wq l (k3 l op k);by_cases j:jumps op=true
  ·rw[if_pos j];refine⟨by omega,by omega,fun q=> ?_,fun q=> ?_,fun q=> ?_⟩
   ·rw[SD j]at q;cases q
   ·subst q;cases j
   ·subst q;cases j
  rw[if_neg j];by_cases o15:op=15
  ·rw[if_pos o15];refine⟨by omega,by omega,fun q=> ?_,fun q=>by omega,fun q=>by omega⟩;subst o15;cases q
  rw[if_neg o15];by_cases o23:op=23
  ·rw[if_pos o23];refine⟨by omega,by omega,fun q=> ?_,fun q=>by omega,fun q=>by omega⟩;subst o23;cases q
  rw[if_neg o23];by_cases u:iN op 3=true
  ·rw[if_pos u];exact⟨by omega,by omega,fun q=>(by rw[u]at q;cases q),fun q=>absurd q o15,fun q=>absurd q o23⟩
  ·rw[if_neg u];exact⟨by omega,by omega,fun _=>rfl,fun q=>absurd q o15,fun q=>absurd q o23⟩
 exact⟨by simp only;omega,LA ..,LA ..,LA ..,⟨hi.1,hi.2.1,hi.2.2.1⟩,hi.2.2.2.1,hi.2.2.2.2⟩
def al9{n sr k:Int}(hz:oI an)(hm:1<=jf/\jf<=1000)(ha:0<=at_/\at_<=1000)(hr:0<=r/\r<an.length)(hn:0<=n/\n<=100)(hsr:1<=sr/\sr<=32):nw an.length (oC l an jf at_ r n sr c k):=by
 have z1:=hz.pos;have z4:=hz.le;have d: ∀(k n:Int),1<=n->0<=eX l k n/\eX l k n<n:=fun k n h=>ez l k h;have N:=nw.nil an.length;have w:=wq l (dK l k);have a3:=d k 3 (by omega);have a4:=d k 4 (by omega);have a5:=d k 5 (by omega);have a8:=d k 8 (by omega);have a2:=d k 2 (by omega);have am:=d k jf hm.1;have b3:=d (dK l k) 3 (by omega);have b2:=d (dK l k) 2 (by omega);have b4:=d (dK l k) 4 (by omega);have bs:=d (dK l k) sr hsr.1;have c3:=d (dK l (dK l k)) 3 (by omega);have c2:=d (dK l (dK l k)) 2 (by omega);have e3:=d (dK l (dK l (dK l k))) 3 (by omega);have bx:=d (dK l k) (if eX l k 2=0 then jf else 5) (by split<;>omega);have bx2:eX l (dK l k) (if eX l k 2=0 then jf else 5)<=1000:=by
  have:=bx.2;split at this<;>rename_i hh<;>simp only[hh,if_true,if_false]<;>omega
 unfold oC;refine lY (P:=nw an.length) ?_ (lY (P:=nw an.length) ?_ (lY (P:=nw an.length) ?_ (lY (P:=nw an.length) ?_ (lY (P:=nw an.length) ?_ (lY (P:=nw an.length) ?_ (lY (P:=nw an.length) ?_ (lY (P:=nw an.length) ?_ (lY (P:=nw an.length) ?_ (lY (P:=nw an.length) ?_ (lY (P:=nw an.length) ?_ (lY (P:=nw an.length) ?_ (lY (P:=nw an.length) ?_ (lY (P:=nw an.length) ?_ (lY (P:=nw an.length) ?_ ?_))))))))))))))
 ·exact .cons (A9 (by omega) (by omega)) N
 ·refine .cons (jo ?_ (by omega) (by omega) (by omega)) N;unfold RZ;repeat' split
  all_goals omega
 ·exact .cons (Kg (by omega) z4 hr) N
 ·exact .cons (Kg (by omega) z4 hr) (.cons (aqg (.inr rfl) (by omega) (by omega) (by omega)) N)
 ·exact .cons (Kg (by omega) z4 hr) (.cons (aqg (.inl rfl) (by omega) (by omega) (by omega)) N)
 ·exact .cons (A9 (by omega) (by omega)) (.cons (Kg (by omega) z4 hr) (.cons (A9 (by omega) (by omega)) (.cons (zj (by omega)) N)))
 ·exact .cons (A9 (by omega) (by omega)) (.cons (Kg (by omega) z4 hr) (.cons (A9 (by omega) (by omega)) (.cons (zj (by omega)) (.cons (Ha (by omega) (by omega)) N))))
 ·exact .cons (A9 (by omega) (by omega)) (.cons (A9 (by omega) (by omega)) (.cons (zj (by omega)) (.cons (Ha (by omega) (by omega)) N)))
 ·exact .cons (Ha (by omega) (by omega)) (.cons (Kg (by omega) z4 hr) (.cons (A9 (by omega) (by omega)) (.cons (zj (by split<;>omega)) N)))
 ·refine lY (P:=nw an.length) ?_ ?_
  ·exact .cons (Ha (by omega) (by omega)) (.cons (zj (by omega)) N)
  ·exact .cons (Ha (by omega) (by omega)) (.cons (A9 (by omega) (by omega)) (.cons (zj (by omega)) N))
 ·exact .cons (zj (by
  repeat' split
  all_goals omega)) (.cons (Ha (by omega) (by omega)) N)
 ·exact .cons (A9 (by omega) (by omega)) (.cons (zj (by split<;>omega)) N)
 ·exact .cons (A9 (by omega) (by omega)) (.cons (Ha (by omega) (by omega)) (.cons (zj (by omega)) N))
 ·exact .cons (A9 (by omega) ⟨bx.1,by omega⟩) (.cons (zj (by split<;>omega)) N)
 ·exact .cons (A9 (by omega) (by omega)) (.cons (A9 (by omega) (by omega)) (.cons (jo (by omega) (by omega) (by omega) (by omega)) (.cons (a2r (by omega) (by omega)) N)))
 ·exact .cons (aum l k ⟨z1,z4⟩ hm) N
def ama(k:Int)(hz:oI an)(hm:1<=jf/\jf<=1000)(ha:0<=at_/\at_<=1000):nw an.length (xN l an jf at_ k):=by
 have z1:=hz.pos;have hr:0<=BU l an k/\BU l an k<an.length:=ez l k (by omega);obtain⟨r,hrn⟩: ∃r:Nat,BU l an k=r:=⟨(BU l an k).toNat,by omega⟩;have qH:r<an.length:=by omega
 have tw:=hz.elem r qH;have hsr:nth an (BU l an k).toNat=an[r]:=by rw[hrn,aaH,dE qH]
 have hN:0<=JM l an k/\JM l an k<=100:=by
  unfold JM;rw[hsr];have h5:=apz (x:=an[r]+1) (by omega);have:=ez l (dK l k) (n:=m5 (an[r]+1)) h5.1;omega
 unfold xN;exact al9 hz hm ha hr hN (by rw[hsr];exact tw)
def OH(l:List Int){an:List Int}(k:Int)(hz:oI an): ∀i,nw an.length (ig l an k i).1
 |0=>nw.nil _
 |i+1=>by
  have h1:=OH l k hz i;have h2:=AU l an k i;rw[zN];simp only;split
  ·exact h1.append (ama _ hz (by omega) (by omega))
  ·exact h1
def amb(l:List Int)(k:Int):nw (qw l k).length (DR l k)/\1<=(DR l k).length/\(DR l k).length<=64:=by
 have hz:=CR l k;have h1:nw (qw l k).length (An l k).1:=OH _ _ hz _;have hl:(An l k).1.length<=62:=AU _ _ _ _;unfold DR Wv;refine⟨nw.take (nw.append ?_ (.cons (A9 (by omega) ?_) (.cons (zj (by omega)) (nw.nil _)))) _,by simp;omega,by simp;omega⟩
 ·have a:=ez l (dK l (An l k).2) (n:=(An l k).1.length+1) (by omega);unfold tlV;split
  ·exact h1.append (.cons (a2s (by omega)) (nw.nil _))
  split
  ·exact h1.append (.cons a2t (nw.nil _))
  ·exact h1
 ·have:=ez l (L8 l (An l k).2) (n:=9) (by omega);omega
def Hd(l:List Int)(k:Int): ∀i,∀x∈ (lE l k i).1,0<=x/\x<=65535
 |0=>fun x hx=>by cases hx
 |i+1=>fun x hx=>by
  rw[AR]at hx;rcases List.mem_append.1 hx with h|h
  ·exact Hd l k i x h
  ·simp at h;subst h;exact wq _ _
def wF(l:List Int)(k n:Int): ∀x∈ki l k n,0<=x/\x<=65535:=Hd l _ _
def He(l an:List Int)(k:Int): ∀i,∀d∈ (jF l an k i).1,∀x∈d,0<=x/\x<=65535
 |0=>fun d hd=>by cases hd
 |i+1=>fun d hd x hx=>by
  rw[xi]at hd;rcases List.mem_append.1 hd with h|h
  ·exact He l an k i d h x hx
  ·simp at h;subst h;exact wF _ _ _ x hx
def Cd(l an:List Int)(k:Int)(hz: ∀j (h:j<an.length),1<=an[j]): ∀i,i<=an.length-> ∀j (h:j<(jF l an k i).1.length) (h':j<an.length),(((jF l an k i).1[j]).length:Int)<=an[j]
 |0,_,j,h,_=>by simp[BV]at h
 |i+1,hi,j,h,h'=>by
  have hl:=yP l an k i;have il:i<an.length:=by omega
  simp only[xi]at h⊢;rw[aaY,hl]at h;simp only[abP,acP]at h;by_cases e:j<i
  ·rw[acS (by omega)];exact Cd l an k hz i (by omega) j (by omega) h'
  ·have e2:j=i:=by omega
   subst e2;rw[adG (by omega)];simp only[hl,acV,acB];rw[dE il];exact kC _ _ (by have:=hz j il;omega)
def ae8(l:List Int)(k:Int):rn (sH l k)/\ ∀d∈ (sH l k).data,∀x∈d,0<=x/\x<=65535:=by
 have hz:=CR l k;obtain⟨h1,h2,h3⟩:=amb l k;refine⟨⟨hz,?_,?_,?_,?_,?_,?_⟩,?_⟩
 ·simp only[sH];rw[yP]
 ·simp only[sH];exact Cd _ _ _ (fun j h=>(hz.elem j h).1) _ (aaI _)
 ·simp only[sH,abJ];exact h2
 ·simp only[sH,abJ];exact h3
 ·intro i hi;simp only[sH,abJ]at hi;simp only[sH,adD];exact((h1 _ (aaL hi)).fix hz.le h2 h3).1
 ·intro i hi;simp only[sH,abJ]at hi;simp only[sH,adD,abJ];exact((h1 _ (aaL hi)).fix hz.le h2 h3).2
 ·simp only[sH];exact He _ _ _ _
def ae9(p:Prog):Prop:= ∀d∈p.data,∀x∈d,0<=x/\x<=65535
def afa{cells:List Cell}{b:Nat}{d:List Int}(h:ed cells)(hd: ∀x∈d,0<=x/\x<=65535): ∀k,k<=d.length->ed (tF cells b d k)
 |0,_=>h
 |k+1,hk=>by
  have h1:=afa (b:=b) h hd k (by omega);have yc:k<d.length:=by omega
  rw[TX yc];have hc:=(h1.getD (b+k)).1;have hv:=hd d[k] (aaL yc);exact h1.set (c:=⟨((tF cells b d k).getD (b+k) ⟨0,0⟩).tag,d[k]⟩) ⟨hc,hv⟩ _
def zk(n:Nat):ed (List.replicate n ⟨0,0⟩):=fun c hc=>by
 rw[adJ hc];exact l4
def SF{p:Prog}(aD:List Int)(hd:ae9 p): ∀r,ed (pO p aD r)
 |0=>zk 512
 |r+1=>by
  unfold pO;refine afa (SF aD hd r) (fun x hx=> ?_) _ (aaI _);by_cases h:r<p.data.length
  ·simp only[List.getD,aaJ h,abV]at hx;exact hd _ (aaL h) x hx
  ·simp[List.getD,abI (adY h)]at hx
def Kh{l:List Cell}(h:ed l):gm l=true:=by
 unfold gm;rw[aaP];intro c hc;have:=(h c hc).1;simp[oA];omega
def Ki{l:Layout}(hp:rn p)(hd:ae9 p)(hL:nW l.aD p.an)(hk:0<=l.key/\l.key<=65535):cT p 0 (gF p l):=by
 have t0: ∀s:Int,0<=s/\s<=4->ep 0 ⟨s,List.replicate 8 ⟨0,0⟩,0,0, -1, -1,0,0⟩:=fun s hs=>⟨hs,by simp,zk 8,by simp,by simp,by simp,by simp,by simp,by simp⟩;have el: ∀i,i<4->cm[i]?=some eh:=fun i hi=>by unfold cm;rw[List.getElem?_replicate,if_pos hi]
 refine⟨hp,hL,hk,⟨⟨Gw ..,rfl,Kh (SF _ hd _),fun i hi=> ?_⟩,SF _ hd _,fun i=> ?_⟩,rfl,fun i hi=> ?_,fun _=>J1 _ _⟩
 ·have e:(gF p l).memory.lines[i]=eh:=by
   have:=el i (by simpa[gF,cm] using hi);have e2:(gF p l).memory.lines[i]?=some eh:=this;rw[aaJ hi]at e2;exact aeE e2
  rw[e];exact zL.1 rfl
 ·unfold dg;by_cases hi:i<4
  ·simp only[gF,List.getD,el i hi,abV];exact fun c hc=>by cases hc
  ·have:(gF p l).memory.lines[i]?=none:=abI (by simp[gF,cm];omega);simp only[List.getD,this,adE];exact fun c hc=>by cases hc
 ·have:i=0\/i=1\/i=2\/i=3:=by simp[gF]at hi;omega
  rcases this with rfl|rfl|rfl|rfl
  ·exact t0 1 (by omega)
  ·exact t0 0 (by omega)
  ·exact t0 0 (by omega)
  ·exact t0 0 (by omega)
def amc(l:List Int)(k:Int):np (vc l k):=by
 refine⟨ae7 l k,?_,?_⟩
 ·intro d hd x hx;unfold vc B0 at hd;simp only[afB,aeS,or_false]at hd;rcases hd with rfl|rfl
  ·exact wF _ _ _ x hx
  ·exact wF _ _ _ x hx
 ·intro d hd;unfold vc B0 pN at hd;simp only[aaV,abM,afB,aeS,or_false]at hd;rcases hd with rfl|rfl
  ·exact hY.aua (wF _ _ _)
  ·exact hY.aua (wF _ _ _)
def OI(an l:List Int):py an (l.map BZ)=true:=by
 unfold py;rw[aaP];intro c hc;obtain⟨x,_,rfl⟩:=List.mem_map.1 hc;simp[proper,BZ]
def LB(l:List Int)(k:Int)(an:List Int):l5 an (vc l k).files.data=true:=by
 unfold l5 vc B0 pN;simp only[aaV,abM,aeA,List.all_nil,OI,Bool.and_self]
def D9(n:Int):0<=IntKind.u16.wrap n/\IntKind.u16.wrap n<=65535:=by
 simp only[IntKind.wrap,IntKind.signed,IntKind.bits,acF];simp;omega
end Go.Proofs.YtdngefmliibcgaaGreat
