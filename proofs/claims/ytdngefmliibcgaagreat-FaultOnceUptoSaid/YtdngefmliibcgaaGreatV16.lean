/- part -/
import Derived.Test.YtdngefmliibcgaaGreatV15
set_option linter.all false
set_option maxRecDepth 20000
set_option maxHeartbeats 20000000
namespace Go.Proofs.YtdngefmliibcgaaGreat
open Go Go.Abs Go.Abs.kI Qf
variable  {p:Prog}{d key:Int}{h h' h1 h2 hE:bh}{k b C L T n t R k1 k' k2 J i:Nat}{vB vC vL v:V}{ids bw kY uI:Nat->Nat}{m mi:aO}{g:Option aO}{x xs xn:Thread}{E args es:List V}{o:cU}{ts:List Thread}{s:aO×List Entry}{lay:Layout}{r:aO×Bool}{S S1:Nat->Prop}{l:bY}{js js':List Int}{rc:List Entry}{q:List (List Int)}
@[simp]def au2(ax:List Instr)(ae:List Int)(ay:List (List Int))(aa:List Int)(aq:Int)(ak:List Cell)(ah:List cw)(au:List Thread)(t bO bP bA bB:Int)(cO:List Canon)(cZ:Int)(gW:Bool)(h:bh)(k:Nat)(S:Nat->Prop)(T:Nat)(vB vC vL:V)(es:List V)(d:Int)(HM:kN h k S T vB vC vL es (aO.mk (Layout.mk aa aq) (aF.mk ak ah) au))(HG:cT (Prog.mk ax ae ay) d (aO.mk (Layout.mk aa aq) (aF.mk ak ah) au))(hd:d<=1099511627776)(hx:xZ (lO.mk (Canon.mk bO bP bA bB) cO cZ gW)): ∃v h' k',cL X 121 [KKQ ax ae ay,KKE vB aq vC vL (.cx T 0 4),.int .i64 t,KKb bO bP bA bB cO cZ gW] h k=some (v,h',k')/\pD (Prog.mk ax ae ay) d (wG (Prog.mk ax ae ay) (aO.mk (Layout.mk aa aq) (aF.mk ak ah) au) t (lO.mk (Canon.mk bO bP bA bB) cO cZ gW)) h k S v h' k':=by
 have MG:=HG.mono hd;have hv:jU (Prog.mk ax ae ay) (aO.mk (Layout.mk aa aq) (aF.mk ak ah) au)=true:=MG.ok;have hp:=HG.prog.lens;have sE:=HG.lens;have hL:=HG.lay;have fX:=HM.row;have tw:=HM.len;have hl:au.length=4:=HM.alz;have hkT:=HM.lt T HM.aew;have DB:cO.length<=1000000000:=by have:=hx.len;simp only at this;omega
 have iB: ∀H,Below k h H->cy H 11 vB=some (.sl false (aa.map (V.int .i64))):=fun H hB=>(HM.eu H (fun i hi _=>hB i (HM.lt i hi)) 8).1;have iC: ∀H,Below k h H->cy H 11 vC=some (.sl false (ak.map Cell.e)):=fun H hB=>(HM.eu H (fun i hi _=>hB i (HM.lt i hi)) 8).2.1;have iL: ∀H,Below k h H->cy H 11 vL=some (.sl false (ah.map cw.e)):=fun H hB=>(HM.eu H (fun i hi _=>hB i (HM.lt i hi)) 8).2.2.1;have iE: ∀H,Below k h H->cF (es.map (cy H 10))=some (au.map Thread.e):=fun H hB=>(HM.eu H (fun i hi _=>hB i (HM.lt i hi)) 7).2.2.2;have te:=afj tw;have q: ∀j,¬T=k+j:=fun j=>by omega
 have q0: ¬T=k:=by omega
 cases hr:sF (lO.mk (Canon.mk bO bP bA bB) cO cZ gW) with
 |false=>
  refine aaB ?_;simp[aaE,hv,hp,sE,fX,tw,DB,iB,iC,iL,iE,te,q,q0,hr,cE,cM,cP];exact pD.same HM HG (zp (fun h=>by have:=h.2.1;rw[hr]at this;cases this)) (by simp only[cE,cM,cP])
 |true=>
 by_cases t0:0<=t
 case neg=>
  have pk:t<0:=by omega
  refine aaB ?_;simp[aaE,hv,hp,sE,fX,tw,DB,iB,iC,iL,iE,te,q,q0,hr,pk,cE,cM,cP];exact pD.same HM HG (zp (fun h=>t0 h.2.2.1.1)) (by simp only[cE,cM,cP])
 have pk: ¬t<0:=by omega
 by_cases t4:t<4
 case neg=>
  have pU:4<=t:=by omega
  refine aaB ?_;simp[aaE,hv,hp,sE,fX,tw,DB,iB,iC,iL,iE,te,q,q0,hr,pk,pU,cE,cM,cP];exact pD.same HM HG (zp (fun h=>t4 h.2.2.1.2)) (by simp only[cE,cM,cP])
 have pU: ¬4<=t:=by omega
 obtain⟨n,rfl⟩:=aaG t0;have n4:n<4:=by omega
 have nl:n<au.length:=by omega
 have nle:n<es.length:=by omega
 obtain⟨vR,Pv⟩:=HM.auf n nle nl;simp only at Pv;have rI:bV (aO.mk (Layout.mk aa aq) (aF.mk ak ah) au) n=au[n]:=iq nl;by_cases hs:(au[n]).state=3
 case neg=>
  refine aaB ?_;simp[aaE,hv,hp,sE,fX,tw,DB,iB,iC,iL,iE,te,q,q0,hr,t0,pk,t4,pU,n4,Pv,hs,cE,cM,cP];exact pD.same HM HG (zp (fun h=>hs (by have:=h.2.2.2.1;rw[aaH,rI]at this;exact this))) (by simp only[cE,cM,cP])
 have oG:=eq_true hs;have hc:=wC (aD:=aa) (key:=aq) (an:=ae) hx.value;obtain⟨⟨ct,cv⟩,w,sM⟩: ∃c w,raw aa aq ae ⟨bO,bP,bA,bB⟩=(c,w):=⟨_,_,rfl⟩;simp only[sM]at hc;by_cases hw:w=0
 case neg=>
  refine aaB ?_;simp[aaE,hv,hp,sE,hL,fX,tw,DB,iB,iC,iL,iE,te,q,q0,hr,t0,pk,t4,pU,n4,Pv,oG,sM,hw,cE,cM,cP];exact pD.same HM HG (zp (fun h=>hw (by have:=h.2.2.2.2;simp only[sM]at this;exact this))) (by simp only[cE,cM,cP])
 subst hw;obtain⟨v1,h1,k1,eC,ek,ev,HA,HB⟩:=EZ aa aq ak ah au (k+50) (Prog.mk ax ae ay) _ MG;subst ek;subst ev;simp only[aaE,Nat.reduceAdd]at eC HA HB;have HP:=HA.pure;have pT:=HP.pe;have pR:=HP.G0 n nl;simp only at pT pR;have Cr:=fA (qW (k+168) (k+187) (k+206) (k+225)) au;rw[hl]at Cr;have gg:=fY (ids:=qW (k+168) (k+187) (k+206) (k+225)) nl;have IV:=(MG.pe n nl).bp;simp only at IV;have a1:=(HB.2.1 n n4).2;have a2:=(HP.qR n n4).2.2.1;obtain⟨I,hI⟩: ∃I,qW (k+168) (k+187) (k+206) (k+225) n=I:=⟨_,rfl⟩;rw[hI]at pR a1 a2;simp only[hI]at gg;have b1: ∀j,j<50-> ¬I=k+j:=fun j _=>by omega
 have b1': ∀j,j<50-> ¬k+j=I:=fun j _=>by omega
 have b2: ¬I=k+232:=a2;have b2': ¬k+232=I:=fun e=>a2 e.symm;have b3: ¬I<k+50:=by omega
 have b0: ¬I=k:=by omega
 have b0': ¬k=I:=by omega
 refine aaB ?_;simp[aaE,hv,hp,sE,hL,hl,fX,tw,DB,iB,iC,iL,iE,te,q,q0,hr,t0,pk,t4,pU,n4,Pv,oG,sM,eC,ji,jI,B7,pT,pR,Cr,gg,IV,b1,b1',b2',b3,cE,cM,cP];have hR:wG (Prog.mk ax ae ay) (aO.mk (Layout.mk aa aq) (aF.mk ak ah) au) n (lO.mk (Canon.mk bO bP bA bB) cO cZ gW)=(iZ (aO.mk (Layout.mk aa aq) (aF.mk ak ah) au) (aO.memory (aO.mk (Layout.mk aa aq) (aF.mk ak ah) au)) n (oQ au[n] ⟨ct,cv⟩),true):=by
  rw[afm ⟨hv,hr,⟨t0,t4⟩,by rw[aaH,rI];exact hs,by simp only[sM]⟩];simp only[aaH,rI,sM]
 refine pD.new (m:=iZ (aO.mk (Layout.mk aa aq) (aF.mk ak ah) au) (aO.memory (aO.mk (Layout.mk aa aq) (aF.mk ak ah) au)) n (oQ au[n] ⟨ct,cv⟩)) (HP.put HB (by omega) n4 ?_ ?_ ?_) (HB.less (by omega)) (uW HG (adQ _) HG.mem HG.coh (Hj (HG.pe n nl) hc)) rfl hR ?_
 ·rw[<-iK nl,xy _ _ _ _ IV,hI];simp[aR]
 ·rw[hI];have c5: ¬I=k+3:=by omega
  simp[aR,b2,c5,oQ,Cell.bS]
 ·intro i hi1 LZ Bp yd;rw[hI]at yd;have c1: ¬i<k+50:=by omega
  have c2: ¬i=k+3:=by omega
  have c3: ¬i=k+48:=by omega
  simp[aR,c1,c2,c3,Bp,yd]
 ·simp only[cM];intro i hi;have c1:i<k+50:=by omega
  have c2: ∀j,¬i=k+j:=fun j=>by omega
  have c3: ¬i=k:=by omega
  have c4: ¬i=I:=by omega
  simp[aR,c1,c2,c3,c4]
def kn(p:Prog)(d:Int)(g:Option aO)(lay:Layout)(h:bh)(k b:Nat)(vB:V)(C L T:Nat)(ids bw:Nat->Nat)(v:V)(h':bh)(k':Nat):Prop:=
 ∃(bb:Bool) (iJ kY:Nat->Nat) (m':aO),v= .bool bb/\dV h' k' b vB C L T iJ kY m'/\cT p d m'/\m'.layout=lay/\(g=bif bb then some m' else none)/\k<=k'/\(∀j,j<4->(iJ j=ids j\/k<=iJ j)/\(kY j=bw j\/k<=kY j))/\
  ∀i,i<k->i≠C->i≠L->i≠T->(∀j,j<4->i≠ids j/\i≠bw j)->h' i=h i
def kn.same(H:dV h k b vB C L T ids bw m)(HG:cT p d m)(e:g=none)(hB:Below k h h'):kn p d g m.layout h k b vB C L T ids bw (.bool false) h' (k+n):=
 ⟨false,ids,bw,m,rfl,H.mono (by omega) hB,HG,rfl,e,by omega,fun _ _=>⟨.inl rfl,.inl rfl⟩,fun i hi _ _ _ _=>hB i hi⟩
def kn.put {p:Prog} {d:Int} {h h1:bh} {k b C L T n t:Nat} {vB:V} {ids bw:Nat->Nat} {m:aO} {g:Option aO} {x:Thread} {E R:List V} (H:dV h k b vB C L T ids bw m) (HG:cT p d m) (eg:g=some (iZ m m.memory t x)) (hB:Below k h h1) (ht:t<4) (hx:ep d x)
  (hE:E=(cG bw m.threads).set t (dM bw t x)) (hR:R=x.bp.map Cell.e):kn p d g m.layout h k b vB C L T ids bw (.bool true) (aR (aR h1 (bw t) (some ⟨2,R,false⟩)) T (some ⟨8,E,true⟩)) (k+n):=by
 have nd:t<m.threads.length:=by rw[H.len];exact ht
 have hs:=(H.qR t ht).2.2.2.1;refine⟨true,ids,bw,iZ m m.memory t x,rfl,H.put (by omega) ht (by rw[hE,iK nd];simp[aR]) (by rw[hR];simp[aR,hs]) (fun i hi h1 h2=>by simp[aR,h1,h2];exact hB i hi),uW HG (adQ _) HG.mem HG.coh hx,rfl,eg,by omega,fun _ _=>⟨.inl rfl,.inl rfl⟩,fun i hi _ _ hT hj=> ?_⟩;simp[aR,hT,(hj t ht).2];exact hB i hi
def kn.bca          {R:List V} {o:Option Ob} (H:dV h k b vB C L T ids bw m) (HG:cT p d m) (eg:g=some (iZ m m.memory t x)) (hB:Below k h h1) (ht:t<4) (hx:ep d x)
  (hE:E=(cG bw m.threads).set t (dM bw t x)) (hR:R=x.bp.map Cell.e):kn p d g m.layout h k b vB C L T ids bw (.bool true) (aR (aR (aR h1 T o) (bw t) (some ⟨2,R,false⟩)) T (some ⟨8,E,true⟩)) (k+n):=by
 have hs:=(H.qR t ht).2.2.2.1;have e:aR (aR (aR h1 T o) (bw t) (some ⟨2,R,false⟩)) T (some ⟨8,E,true⟩)=aR (aR h1 (bw t) (some ⟨2,R,false⟩)) T (some ⟨8,E,true⟩):=by
  funext i;simp only[aR];by_cases h1:i=T
  ·simp[h1]
  ·by_cases h2:i=bw t<;>simp[h1,h2]
 rw[e];exact kn.put H HG eg hB ht hx hE hR
def LF{s:Nat}(hs:s<ts.length)(hn:n<ts.length)(vk: ¬s=n)(h: ∀j,¬j=s->kY j=bw j):cG kY ((ts.set s xs).set n xn)=((cG bw ts).set s (dM kY s xs)).set n (dM bw n xn):=by
 apply abF;intro j;simp only[cG,ack,abN,adN,aaN];by_cases KK:n=j
 ·subst KK;simp[hn,dM,h n (fun e=>vk e.symm)]
 ·by_cases F2:s=j
  ·subst F2;simp[hs,KK]
  ·simp only[KK,F2,if_false];cases ts[j]? with
   |none=>rfl
   |some x=>simp[dM,h j (fun e=>F2 e.symm)]
def kn.Up          (HI:dV h1 k1 b vB C L T uI bw mi) (GI:cT p d mi) (e:g=none) (qk:mi.layout=lay) (hk:k<=k1) (gi: ∀j,j<4->uI j=ids j\/k<=uI j)
  (gf: ∀x,x<k->x≠C->x≠L->x≠T->(∀j,j<4->x≠ids j/\x≠bw j)->h1 x=h x) (hB:Below k1 h1 h2):kn p d g lay h k b vB C L T ids bw (.bool false) h2 (k1+n):=
 ⟨false,uI,bw,mi,rfl,HI.mono (by omega) hB,GI,qk,e,by omega,fun j hj=>⟨gi j hj,.inl rfl⟩,fun i hi a1 a2 a3 a4=>by rw[hB i (by omega),gf i hi a1 a2 a3 a4]⟩
def kn.bcb           {R:List V} (HI:dV h1 k1 b vB C L T uI bw mi) (GI:cT p d mi) (eg:g=some (iZ mi mi.memory t x)) (qk:mi.layout=lay) (hk:k<=k1) (gi: ∀j,j<4->uI j=ids j\/k<=uI j)
  (gf: ∀x,x<k->x≠C->x≠L->x≠T->(∀j,j<4->x≠ids j/\x≠bw j)->h1 x=h x) (hB:Below k1 h1 h2) (ht:t<4) (hx:ep d x) (hE:E=(cG bw mi.threads).set t (dM bw t x)) (hR:R=x.bp.map Cell.e):
  kn p d g lay h k b vB C L T ids bw (.bool true) (aR (aR h2 (bw t) (some ⟨2,R,false⟩)) T (some ⟨8,E,true⟩)) (k1+n):=by
 have nd:t<mi.threads.length:=by rw[HI.len];exact ht
 have hs:=(HI.qR t ht).2.2.2.1;refine⟨true,uI,bw,iZ mi mi.memory t x,rfl,HI.put (by omega) ht (by rw[hE,iK nd];simp[aR]) (by rw[hR];simp[aR,hs]) (fun i hi h1 h2=>by simp[aR,h1,h2];exact hB i hi),uW GI (adQ _) GI.mem GI.coh hx,qk,eg,by omega,fun j hj=>⟨gi j hj,.inl rfl⟩,fun i hi a1 a2 a3 a4=> ?_⟩;simp[aR,a3,(a4 t ht).2];rw[hB i (by omega),gf i hi a1 a2 a3 a4]
def afs(p:Prog)(d:Int)(bcc:aF)(lay:Layout)(h:bh)(k b:Nat)(vB:V)(C L T:Nat)(ids bw:Nat->Nat)(n:Nat)(ts:List Thread)(vP vR vX:V)(ct cv:Int)(data:List Canon)(rj:Nat)(o:Int)(i:Nat)(S:St):Prop:=
 ∃mi uI,(S.f 1= .ptr b 0 0/\S.f 4= .ptr k 0 0/\S.f 6= .ptr (k+1) 0 0/\S.f 7= .ptr (k+2) 0 0/\S.f 9= .ptr T n 0/\S.f 10= .ptr (k+24) 0 0/\S.f 12= .ptr (k+50) 0 0/\S.f 80= .sl false (data.map Canon.e)/\S.f 81= .int .i64 data.length/\S.f 82= .int .i64 (i:Int))/\
  (S.h k=some ⟨3,[vP],true⟩/\S.h (k+1)=some ⟨8,[vR],true⟩/\S.h (k+2)=some ⟨7,[vX],true⟩/\S.h (k+24)=some ⟨2,[KKo ct cv],true⟩/\S.h (k+50)=some ⟨2,[KKC (rj:Int) (o+i)],true⟩)/\
  dV S.h S.n b vB C L T uI bw mi/\cT p d mi/\mi.layout=lay/\mi.threads=ts/\Cf lay.aD lay.key p.an rj o data bcc=Cf lay.aD lay.key p.an rj (o+i) (data.drop i) mi.memory/\k+72<=S.n/\(∀j,j<4->uI j=ids j\/k+72<=uI j)/\ ∀x,x<k->x≠C->x≠L->x≠T->(∀j,j<4->x≠ids j/\x≠bw j)->S.h x=h x
@[simp]def amr(pc Uq arg_val:Int)(k:Nat): ∃h',cL X 252 [.int .i64 pc,KKo Uq arg_val] pK k=some ((KKd 1 (.cx (k+5) 0 8) pc 0 (-1) (-1) 0 0:V),h',k+18)/\h' (k+5)=some ⟨2,((⟨Uq,arg_val⟩:Cell)::List.replicate 7 ⟨0,0⟩).map Cell.e,false⟩:=by
 refine F7 Tryz.func252 rfl rfl ?_;simp[aaE,Cell.bS]
@[simp]def a3c(ax:List Instr)(ae:List Int)(ay:List (List Int))(m:V)(di dn db cD gU cu:Int)(bf bT:List Canon)(bO bP bA bB:Int)(cO:List Canon)(cZ:Int)(gW:Bool)(h:bh)(k b:Nat)(vB:V)(C L T:Nat)(ids bw:Nat->Nat)(mm:aO)(d:Int)(n:Nat)(H:dV h k b vB C L T ids bw mm)(HG:cT (Prog.mk ax ae ay) d mm)(hd:d<=1099511627776)(hBB: ∃B,vB= .cx B 0 mm.layout.aD.length)(hn:di=n/\n<4)(hs2:(bV mm n).state=2)(rO:0<=cu/\cu<=15)(jL:bf.length=(dh cu).length)(IL:hY bf)(hxr:sF (lO.mk (Canon.mk bO bP bA bB) cO cZ gW)=true)(hx:xZ (lO.mk (Canon.mk bO bP bA bB) cO cZ gW)): ∃v h' k',cL X 198 [KKQ ax ae ay,.ptr b 0 0,KKZ di dn db cD gU cu bf bT,KKb bO bP bA bB cO cZ gW] h k=some (v,h',k')/\kn (Prog.mk ax ae ay) d (Hm (Prog.mk ax ae ay) mm n (Request.mk di dn db cD gU cu bf bT) (lO.mk (Canon.mk bO bP bA bB) cO cZ gW)) mm.layout h k b vB C L T ids bw v h' k':=by
 obtain⟨rfl,n4⟩:=hn;obtain⟨g,hgg⟩: ∃g,Hm (Prog.mk ax ae ay) mm n ⟨(n:Int),dn,db,cD,gU,cu,bf,bT⟩ (lO.mk (Canon.mk bO bP bA bB) cO cZ gW)=g:=⟨_,rfl⟩;rw[hgg];have hl:=H.len;have nd:n<mm.threads.length:=by omega
 have Ct:(n:Int)<4:=by omega
 have rI:=HG.pe n nd;have hR:=H.G0 n nd;have hg:=fY (ids:=bw) nd;have hT:=H.pe;have jX:=fA bw mm.threads;rw[hl]at jX;have hb:=H.xQ;unfold jE at hb;rw[hl]at hb;have wO:bV mm n=mm.threads[n]:=iq nd;obtain⟨x0,pH⟩: ∃x,mm.threads[n]=x:=⟨_,rfl⟩;rw[wO,pH]at hs2;rw[pH]at rI hR;simp only[pH]at hg;have h8:=rI.bp;obtain⟨s1,s3,s4,s5,s6⟩:=H.qR n n4;have Ia: ¬T=bw n:=fun e=>s5 e.symm;have s1': ¬b=bw n:=fun e=>s1 e.symm;obtain⟨u1,u2,u3,u4⟩:=H.xr;have u1': ¬b=T:=fun e=>u1 e.symm;have gZ:=H.mem.lt;have q1: ∀j,¬b=k+j:=fun j=>by omega
 have q2: ∀j,¬T=k+j:=fun j=>by omega
 have q3: ∀j,¬bw n=k+j:=fun j=>by omega
 have q4: ∀j,¬k+j=b:=fun j=>by omega
 have q5: ∀j,¬k+j=T:=fun j=>by omega
 have q6: ∀j,¬k+j=bw n:=fun j=>by omega
 have l1: ∀j,T<k+j:=fun j=>by omega
 have l2: ∀j,bw n<k+j:=fun j=>by omega
 have l3: ∀j,b<k+j:=fun j=>by omega
 have pG: ¬b=k:=by omega
 have SL: ¬T=k:=by omega
 have q3z: ¬bw n=k:=by omega
 have hL:=HG.lay;have hlen:=hL.len;simp only at hL hlen;obtain⟨B,Ma,EY,⟨nB1,nB2,a1k,nB3,nBk⟩,nBi,nBr⟩: ∃B,vB= .cx B 0 mm.layout.aD.length/\h B=some ⟨1,mm.layout.aD.map (V.int .i64),false⟩/\(B≠b/\B≠C/\B≠L/\B≠T/\B<k)/\(∀j,j<4->ids j≠B)/\ ∀i,i<4->bw i≠B:=by
  rcases H.aD with e|e
  ·obtain⟨_,e2⟩:=hBB;rw[e]at e2;cases e2
  ·exact e
 subst Ma;have nB: ∀j,¬B=k+j:=fun j=>by omega
 have SM: ¬B=k:=by omega
 have DB:cO.length<=1000000000:=by have:=hx.len;simp only at this;omega
 have hc:=wC (aD:=mm.layout.aD) (key:=mm.layout.key) (an:=ae) hx.value;obtain⟨⟨ct,cv⟩,w,sM⟩: ∃c w,raw mm.layout.aD mm.layout.key ae ⟨bO,bP,bA,bB⟩=(c,w):=⟨_,_,rfl⟩;simp only[sM]at hc;by_cases hw:w=0
 case neg=>
  refine aaB ?_;simp[aaE,hb,hT,Ct,hL,EY,nB,SM,q1,q2,pG,SL,sM,hw];exact kn.same H HG (by rw[<-hgg];unfold Hm;exact if_neg fun h=>hw (by simp only[sM]at h;exact h)) (by simp only[cE,cM,cP])
 subst hw;have hg0:Hm (Prog.mk ax ae ay) mm n ⟨(n:Int),dn,db,cD,gU,cu,bf,bT⟩ (lO.mk (Canon.mk bO bP bA bB) cO cZ gW)=(zq (Prog.mk ax ae ay) mm ⟨(n:Int),dn,db,cD,gU,cu,bf,bT⟩ (lO.mk (Canon.mk bO bP bA bB) cO cZ gW)).bind fun mem=>x8 (Prog.mk ax ae ay) ⟨mm.layout,mem,mm.threads⟩ n ⟨ct,cv⟩ ⟨(n:Int),dn,db,cD,gU,cu,bf,bT⟩ (lO.mk (Canon.mk bO bP bA bB) cO cZ gW):=by
  unfold Hm;rw[if_pos (by simp only[sM])];simp only[sM]
 rw[hgg]at hg0;have OQ:zq (Prog.mk ax ae ay) mm ⟨(n:Int),dn,db,cD,gU,cu,bf,bT⟩ (lO.mk (Canon.mk bO bP bA bB) cO cZ gW)=none->g=none:=fun h=>by rw[hg0,h];rfl
 have OS: ∀mem:aF,bV (⟨mm.layout,mem,mm.threads⟩:aO) n=x0:=fun mem=>by
  rw[show bV (⟨mm.layout,mem,mm.threads⟩:aO) n=mm.threads[n] from iq nd,pH]
 have b16:my cu=2->cu=2\/cu=14:=fun h=>by
  rcases mW rO with rfl|rfl|rfl|rfl|rfl|rfl|rfl|rfl|rfl|rfl|rfl|rfl|rfl|rfl|rfl|rfl<;>revert h<;>decide
 by_cases aft:my cu=2/\0<(cO.length:Int)
 case pos=>
  have bcd:=b16 aft.1;have a3e: ¬cu=12:=by omega
  have a3f: ¬cu=10:=by omega
  have Bo:=aft.1;have bsk:=aft.2;have Xq:0<cO.length:=by omega
  obtain⟨a0,⟨a1t,a1v,a1r,Ib⟩,a2,rfl⟩:=RQ (show bf.length=3 by rcases bcd with rfl|rfl<;>exact jL);by_cases F3:proper ae ⟨a1t,a1v,a1r,Ib⟩=true
  case neg=>
   refine aaB ?_;simp[aaE,hb,hT,Ct,hL,EY,nB,SM,q1,q2,pG,SL,sM,Bo,Xq,F3,Canon.bS];exact kn.same H HG (OQ (by unfold zq;rw[if_pos ⟨Bo,Xq⟩];exact if_neg fun h=>F3 h.1)) (by simp only[cE,cM,cP])
  by_cases CH:a1t=1
  case neg=>
   refine aaB ?_;simp[aaE,hb,hT,Ct,hL,EY,nB,SM,q1,q2,pG,SL,sM,Bo,Xq,F3,CH,Canon.bS];exact kn.same H HG (OQ (by unfold zq;rw[if_pos ⟨Bo,Xq⟩];exact if_neg fun h=>CH h.2)) (by simp only[cE,cM,cP])
  have bcf:(a1t=1)=True:=eq_true CH;have bcg:inside ae a1r Ib=true:=by
   have:=F3;unfold proper at this;simp[CH]at this;exact this.2
  obtain⟨rj,hrj,rfl,o1,o2⟩:=lj.1 bcg;have hfm:zq (Prog.mk ax ae ay) mm ⟨(n:Int),dn,db,cD,gU,cu,[a0,⟨a1t,a1v,rj,Ib⟩,a2],bT⟩ (lO.mk (Canon.mk bO bP bA bB) cO cZ gW)=Cf mm.layout.aD mm.layout.key ae (rj:Int) Ib cO mm.memory:=by
   unfold zq;rw[if_pos ⟨Bo,Xq⟩];exact if_pos ⟨F3,CH⟩
  have hge: ∀mi:aO,mi.layout=mm.layout->mi.threads=mm.threads->zq (Prog.mk ax ae ay) mm ⟨(n:Int),dn,db,cD,gU,cu,[a0,⟨a1t,a1v,rj,Ib⟩,a2],bT⟩ (lO.mk (Canon.mk bO bP bA bB) cO cZ gW)=some mi.memory->g=some (iZ mi mi.memory n (oQ x0 ⟨ct,cv⟩)):=fun mi e1 e2 e3=>by
   rw[hg0,e3];show x8 _ _ _ _ _ _=_;unfold x8;rw[if_neg a3e,if_neg fun h=>a3f h.1,OS];unfold iZ;simp only[e1,e2]
  have s7:=hL.sz.elem rj hrj;have pV:rj<mm.layout.aD.length:=by omega
  have XZ:=hL.base rj pV hrj;have a3h:=eq_true hlen;have hxd:=hx.len;simp only at hxd;have H7: ∀i (h:i<mm.layout.aD.length), -1000<=mm.layout.aD[i]/\mm.layout.aD[i]<=1000:=fun i hi=>by have:=hL.base i hi (by omega);have:=hL.sz.elem i (by omega);omega
  have hzz: ∀i (h:i<ae.length),ae[i]<=1000:=fun i hi=>by have:=hL.sz.elem i hi;omega
  refine aaB ?_;simp[aaE,hb,hT,Ct,hL,EY,nB,SM,q1,q2,pG,SL,sM,Bo,Xq,F3,bcf,Canon.bS];refine lW (afs (Prog.mk ax ae ay) d mm.memory mm.layout h k b (.cx B 0 mm.layout.aD.length) C L T ids bw n mm.threads ((KKQ ax ae ay:V)) ((KKZ (n:Int) dn db cD gU cu [a0,(⟨a1t,a1v,rj,Ib⟩:Canon),a2] bT:V)) ((KKb bO bP bA bB cO cZ gW:V)) ct cv cO rj Ib) cO.length ?_ 0 (by simp) ?_
  ·rintro i S hi ⟨mi,uI,⟨f1,f4,f6,f7,f9,f10,f12,f80,f81,f82⟩,⟨z0,z1,z2,z3,z4⟩,HI,GI,lay,oT,hfz,hK,gi0,gf⟩;have gi: ∀j,j<4->uI j=ids j\/k<=uI j:=fun j hj=>by rcases gi0 j hj with e|e;exact .inl e;exact .inr (by omega)
   have bx:=HI.xQ;unfold jE at bx;rw[lay,oT,hl]at bx;have tT:=HI.pe;rw[oT]at tT;have tR:=HI.G0 n (by rw[oT];exact nd);simp only[oT,pH]at tR;have tB:S.h B=some ⟨1,mm.layout.aD.map (V.int .i64),false⟩:=by
    rcases HI.aD with e|⟨B',e,g,_⟩
    ·cases e
    ·simp only[V.cx.injEq]at e;obtain⟨rfl,_,_⟩:=e;rw[g,lay]
   have ai0:=HI.mem.lt;have m1: ∀j,¬b=S.n+j:=fun j=>by omega
   have m2: ∀j,¬T=S.n+j:=fun j=>by omega
   have m3: ∀j,¬bw n=S.n+j:=fun j=>by omega
   have m4: ∀j,¬B=S.n+j:=fun j=>by omega
   have m5: ∀a j,a<72-> ¬k+a=S.n+j:=fun a j ha=>by omega
   have m6: ∀j,¬k=S.n+j:=fun j=>by omega
   have m1z: ¬b=S.n:=by omega
   have m2z: ¬T=S.n:=by omega
   have m3z: ¬bw n=S.n:=by omega
   have m4z: ¬B=S.n:=by omega
   have m5z: ∀a,a<72-> ¬k+a=S.n:=fun a ha=>by omega
   have m6z: ¬k=S.n:=by omega
   by_cases gZ:i<cO.length
   case neg=>
    obtain rfl:i=cO.length:=by omega
    simp[aaE,hg,jX,h8,n4,Ia,f6,f9,f10,f81,f82,z1,z3,tT,tR,a3e,a3f];refine kn.bcb (x:=oQ x0 ⟨ct,cv⟩) HI GI (hge mi lay oT (hfm.trans (hfz.trans (by rw[List.drop_length];rfl)))) lay (by omega) gi gf ?_ n4 (Hj rI hc) ?_ ?_
    ·simp only[cE]
    ·rw[oT,xy bw n x0 _ h8]
    ·simp[oQ,Cell.bS]
   have bL:(i:Int)<cO.length:=by omega
   have KF:=hfz;rw[acH gZ]at KF;obtain⟨⟨d1,d2,d3,d4⟩,s9⟩: ∃c,cO[i]=c:=⟨_,rfl⟩;have Mb:Dc ⟨d1,d2,d3,d4⟩:=s9▸hx.data _ (aaL gZ);have Uc:=wC (aD:=mm.layout.aD) (key:=mm.layout.key) (an:=ae) Mb;obtain⟨⟨OT,OU⟩,w1,tf⟩: ∃c w,raw mm.layout.aD mm.layout.key ae ⟨d1,d2,d3,d4⟩=(c,w):=⟨_,_,rfl⟩;simp only[tf]at Uc;by_cases sU:w1=0
   case neg=>
    simp[aaE,hL,m1,m4,m6,f1,f4,f80,f81,f82,z0,bx,tB,gZ,bL,s9,tf,sU];exact kn.Up HI GI (OQ (hfm.trans (KF.trans (by rw[Bd];exact if_neg fun h=>sU (by have h1:=h.1;rw[s9,tf]at h1;exact h1))))) lay (by omega) gi gf (by simp only[cE,cM])
   subst sU;cases wL:inside ae (rj:Int) (Ib+i) with
   |false=>
    simp[aaE,hL,m1,m4,m5,m6,f1,f4,f12,f80,f81,f82,z0,z4,bx,tB,gZ,bL,s9,tf,wL];exact kn.Up HI GI (OQ (hfm.trans (KF.trans (by rw[Bd];exact if_neg fun h=>by have h1:=h.2;rw[wL]at h1;cases h1)))) lay (by omega) gi gf (by simp only[cE,cM])
   |true=>
    obtain⟨rj',bch,e1,o3,o4⟩:=lj.1 wL;obtain rfl:rj=rj':=by omega
    have hwo:IntKind.i64.wrap (Ib+i+1)=Ib+i+1:=wrap_i64 (by omega);have gS:=mZ i (by omega);obtain⟨av,ams⟩: ∃av:Nat,nth mm.layout.aD rj+(Ib+i)=av:=⟨(nth mm.layout.aD rj+(Ib+i)).toNat,by rw[dE pV];omega⟩;have au4:av<512:=by rw[dE pV]at ams;omega
    have lf: ∀(h1:bh) (j:Nat),Below S.n S.h h1->cL X 251 [.ptr b 0 2,(av:Int),KKo OT OU] h1 (S.n+j)=some (.dP [],cH 251 [.ptr b 0 2,(av:Int),KKo OT OU] h1 (S.n+j),cK 251 [.ptr b 0 2,(av:Int),KKo OT OU] h1 (S.n+j))/\
      ∃iv,dV (cH 251 [.ptr b 0 2,(av:Int),KKo OT OU] h1 (S.n+j)) (cK 251 [.ptr b 0 2,(av:Int),KKo OT OU] h1 (S.n+j)) b (.cx B 0 mm.layout.aD.length) C L T iv bw ⟨mi.layout,mA mi.memory av ⟨OT,OU⟩,mi.threads⟩/\S.n+j<=cK 251 [.ptr b 0 2,(av:Int),KKo OT OU] h1 (S.n+j)/\(∀j,j<4->iv j=uI j\/S.n<=iv j)/\
       ∀x,x<S.n+j->x≠C->x≠L->(∀j,j<4->x≠uI j)->cH 251 [.ptr b 0 2,(av:Int),KKo OT OU] h1 (S.n+j) x=h1 x:=fun h1 j jv=>by
     have HH:dV h1 (S.n+j) b (.cx B 0 mm.layout.aD.length) C L T uI bw mi:=HI.mono (by omega) jv;obtain⟨h',k',iJ,e,G,g1,g2,g3⟩:=T6 .bad 0 OT OU h1 (S.n+j) b C L uI _ _ _ mi.memory av ⟨OT,OU⟩ HH.mem au4 Uc.oA;have e:cL X 251 [.ptr b 0 2,(av:Int),KKo OT OU] h1 (S.n+j)=some (.dP [],h',k'):=e;obtain⟨e1,e2⟩:=xS e;rw[e1,e2];exact⟨e,iJ,HH.memory g1 G g2 g3,g1,fun j hj=>by rcases g2 j hj with e|e;exact .inl e;exact .inr (by omega),g3⟩
    have hfn:Cf mm.layout.aD mm.layout.key ae (rj:Int) Ib cO mm.memory=Cf mm.layout.aD mm.layout.key ae (rj:Int) (Ib+((i+1:Nat):Int)) (cO.drop (i+1)) (mA mi.memory av ⟨OT,OU⟩):=by
     rw[KF,Bd,s9,tf,if_pos ⟨rfl,wL⟩,aaH,ams,aaH,show Ib+((i+1:Nat):Int)=Ib+i+1 by omega]
    have cl:=fun h1 j jv=>(lf h1 j jv).1;have nI: ∀a,a<72-> ∀j,j<4-> ¬k+a=uI j:=fun a ha j hj=>by
     rcases gi0 j hj with e|e
     ·have:=H.mem.lt.2.2.2 j hj;omega
     ·omega
    have l50: ∀(h1:bh) (j:Nat),Below S.n S.h h1->cH 251 [.ptr b 0 2,(av:Int),KKo OT OU] h1 (S.n+j) (k+50)=some ⟨2,[KKC (rj:Int) (Ib+i)],true⟩:=fun h1 j jv=>by
     obtain⟨_,_,_,_,_,g⟩:=lf h1 j jv;rw[g (k+50) (by omega) (by omega) (by omega) (nI 50 (by omega)),jv _ (by omega),z4]
    simp[aaE,hL,a3h,H7,hzz,m1,m4,m5,m6,cE,cM,f1,f4,f12,f80,f81,f82,z0,z4,bx,tB,gZ,bL,s9,tf,wL,ams,hwo,gS,cl,l50];have fin: ∀(F:Nat->V) (Hc:bh),Below S.n S.h Hc->(F 1= .ptr b 0 0/\F 4= .ptr k 0 0/\F 6= .ptr (k+1) 0 0/\F 7= .ptr (k+2) 0 0/\F 9= .ptr T n 0/\F 10= .ptr (k+24) 0 0/\F 12= .ptr (k+50) 0 0/\F 80=cO/\F 81= .int .i64 cO.length/\F 82= .int .i64 ((i:Int)+1))->
      afs (Prog.mk ax ae ay) d mm.memory mm.layout h k b (.cx B 0 mm.layout.aD.length) C L T ids bw n mm.threads ((KKQ ax ae ay:V)) ((KKZ (n:Int) dn db cD gU cu [a0,(⟨a1t,a1v,rj,Ib⟩:Canon),a2] bT:V)) ((KKb bO bP bA bB cO cZ gW:V)) ct cv cO rj Ib (i+1) ⟨F,aR (cH 251 [.ptr b 0 2,(av:Int),KKo OT OU] Hc (S.n+47)) (k+50) (some ⟨2,[KKC (rj:Int) (Ib+i+1)],true⟩),cK 251 [.ptr b 0 2,(av:Int),KKo OT OU] Hc (S.n+47)+7⟩:=fun F Hc hB fF=>by
     obtain⟨_,iv,G,g1,g2,g3⟩:=lf Hc 47 hB;have fr: ∀x,x<S.n->x≠C->x≠L->(∀j,j<4->x≠uI j)->cH 251 [.ptr b 0 2,(av:Int),KKo OT OU] Hc (S.n+47) x=S.h x:=fun x hx1 hx2 Yw hx4=>by rw[g3 x (by omega) hx2 Yw hx4,hB x hx1]
     have nC:=H.mem.lt;have hi1: ∀j,j<4->iv j=ids j\/k+72<=iv j:=fun j hj=>by
      rcases g2 j hj with e|e
      ·rw[e];exact gi0 j hj
      ·right;omega
     refine⟨⟨mi.layout,mA mi.memory av ⟨OT,OU⟩,mi.threads⟩,iv,fF,⟨?_,?_,?_,?_,?_⟩,?_,⟨GI.prog,GI.lay,GI.key,GI.mem.store au4 Uc,GI.len,GI.pe,fun g=>JZ GI.mem.mem (GI.coh g) au4 (by unfold GO;rw[<-ams,<-lay,dE (by rw[lay];exact pV)];rw[GR GI.lay (by rw[lay];exact pV) bch o3 o4];simp) _⟩,lay,oT,hfn,by simp only;omega,hi1,?_⟩
     ·have:=fr k (by omega) (by omega) (by omega) (fun j hj=>by have:=nI 0 (by omega) j hj;simpa using this);simp[aR,this,z0]
     ·have:=fr (k+1) (by omega) (by omega) (by omega) (nI 1 (by omega));simp[aR,this,z1]
     ·have:=fr (k+2) (by omega) (by omega) (by omega) (nI 2 (by omega));simp[aR,this,z2]
     ·have:=fr (k+24) (by omega) (by omega) (by omega) (nI 24 (by omega));simp[aR,this,z3]
     ·have e:Ib+(i:Int)+1=Ib+((i+1:Nat):Int):=by omega
      simp[aR,e]
     ·refine G.other (a:=k+50) (adZ _ _) ⟨by omega,by omega,by omega,by omega⟩ (fun j hj=>⟨?_,?_⟩) (fun B' s n e=> ?_) (fun x _ hx=>by simp[aR,hx])
      ·rcases hi1 j hj with e|e
       ·have:=nC.2.2.2 j hj;omega
       ·omega
      ·have:=(H.qR j hj).2.2.2.2;omega
      ·cases e;omega
     ·intro x hx1 hx2 Yw hx4 hx5;have hx6: ¬x=k+50:=by omega
      simp only[aR,hx6,if_false];rw[fr x (by omega) hx2 Yw (fun j hj=> ?_),gf x hx1 hx2 Yw hx4 hx5];rcases gi0 j hj with e|e
      ·rw[e];exact(hx5 j hj).1
      ·omega
    refine fin _ _ ?_ ?_
    ·simp only[cE,cM]
    ·simp[aR,f1,f4,f6,f7,f9,f10,f12,f80,f81]
  ·refine⟨mm,ids,?_,?_,?_,HG,rfl,rfl,by simp,?_,fun _ _=> .inl rfl,?_⟩
   ·simp[aR]
   ·simp[aR,Canon.bS]
   ·refine H.mono (by simp only;omega) ?_;show Below k h _;simp only[cE,cM,cP]
   ·simp only;omega
   ·intro x hx _ _ _ _;have e: ∀H:bh,Below k h H->H x=h x:=fun H hB=>hB x hx;refine e _ ?_;simp only[cE,cM,cP]
 have hgq: ∀{g2:Option aO},x8 (Prog.mk ax ae ay) mm n ⟨ct,cv⟩ ⟨(n:Int),dn,db,cD,gU,cu,bf,bT⟩ (lO.mk (Canon.mk bO bP bA bB) cO cZ gW)=g2->g=g2:=fun e=>by
  rw[hg0,show zq (Prog.mk ax ae ay) mm ⟨(n:Int),dn,db,cD,gU,cu,bf,bT⟩ (lO.mk (Canon.mk bO bP bA bB) cO cZ gW)=some mm.memory by unfold zq;exact if_neg fun h=>aft ⟨h.1,by have:=h.2;simp only at this;omega⟩];exact e
 have hT1: ∀(c:Cell) (a:Int),dM bw n (Ce x0 c a)= (KKd 1 (.cx (bw n) 0 8) x0.pc x0.count a x0.saved x0.dr x0.code:V):=fun c a=>LC bw n x0 c a h8;by_cases H9:cu=12
 ·subst H9;have au5: ¬my 12=2:=by decide
  obtain⟨⟨at_,av,ar,ao⟩,rfl⟩:=RO (show bf.length=1 from jL);have LG:=IL _ (acT);have Kd:IntKind.i64.wrap av=av:=wrap_i64 (by have:=LG.2;have:=LG.1;simp only at*;omega);by_cases ha:255<av
  ·refine aaB ?_;simp[aaE,hb,hT,Ct,hL,EY,nB,SM,q1,q2,pG,SL,sM,au5,Kd,ha];exact kn.same H HG (hgq (by unfold x8;rw[if_pos rfl];exact if_neg fun h=>by have h2:=h.2;simp only[vG,acG]at h2;omega)) (by simp only[cE,cM,cP])
  by_cases Pu:at_=0
  case neg=>
   refine aaB ?_;simp[aaE,hb,hT,Ct,hL,EY,nB,SM,q1,q2,pG,SL,sM,au5,Kd,ha,Pu];exact kn.same H HG (hgq (by unfold x8;rw[if_pos rfl];exact if_neg fun h=>Pu h.1)) (by simp only[cE,cM,cP])
  have au6:=eq_true Pu;refine aaB ?_;simp[aaE,hb,hT,hR,hg,jX,h8,n4,Ct,hL,EY,nB,SM,s5,Ia,q1,q2,q3,q5,pG,SL,q3z,sM,au5,Kd,ha,au6];refine kn.bca (x:=Ce x0 ⟨ct,cv⟩ av) H HG (hgq (by unfold x8;rw[if_pos rfl,if_pos ⟨Pu,by simp only[vG,acG];omega⟩,OS];rfl)) ?_ n4 (afk rI hc (by have:=LG.1;simp only at this;omega)) ?_ ?_
  ·simp only[cE,cM,cP]
  ·rw[hT1]
  ·simp[Ce,Cell.bS]
 have hxw:=Hj rI hc;have hT2: ∀(c:Cell),dM bw n (oQ x0 c)= (KKd 1 (.cx (bw n) 0 8) x0.pc x0.count x0.cp x0.saved x0.dr x0.code:V):=fun c=>xy bw n x0 c h8;by_cases CY:cu=10
 case neg=>
  by_cases Bn:my cu=2
  case neg=>
   refine aaB ?_;simp[aaE,hb,hT,hR,hg,jX,h8,n4,Ct,hL,EY,nB,SM,Ia,q1,q2,q3,pG,SL,q3z,sM,Bn,H9,CY];refine kn.put (x:=oQ x0 ⟨ct,cv⟩) H HG (hgq (by unfold x8;rw[if_neg H9,if_neg fun h=>CY h.1,OS])) ?_ n4 hxw ?_ ?_
   ·simp only[cE,cM,cP]
   ·rw[hT2]
   ·simp[oQ,Cell.bS]
  have H6: ¬0<cO.length:=fun h=>aft ⟨Bn,by omega⟩;have bsp: ¬0<(cO.length:Int):=by omega
  refine aaB ?_;simp[aaE,hb,hT,hR,hg,jX,h8,n4,Ct,hL,EY,nB,SM,Ia,q1,q2,q3,pG,SL,q3z,sM,Bn,H6,H9,CY];refine kn.put (x:=oQ x0 ⟨ct,cv⟩) H HG (hgq (by unfold x8;rw[if_neg H9,if_neg fun h=>CY h.1,OS])) ?_ n4 hxw ?_ ?_
  ·simp only[cE,cM,cP]
  ·rw[hT2]
  ·simp[oQ,Cell.bS]
 subst CY;have Xr: ¬my 10=2:=by decide
 by_cases zH:0<=cZ
 case neg=>
  refine aaB ?_;simp[aaE,hb,hT,hR,hg,jX,h8,n4,Ct,hL,EY,nB,SM,Ia,q1,q2,q3,pG,SL,q3z,sM,Xr,zH];refine kn.put (x:=oQ x0 ⟨ct,cv⟩) H HG (hgq (by unfold x8;rw[if_neg (show¬(10:Int)=12 by decide),if_neg fun h=>zH h.2,OS])) ?_ n4 hxw ?_ ?_
  ·simp only[cE,cM,cP]
  ·rw[hT2]
  ·simp[oQ,Cell.bS]
 obtain⟨s,rfl⟩:=aaG zH;have sp4:s<4:=by
  unfold sF at hxr;simp only[aaF,decide_eq_true_eq]at hxr;omega
 have amt:(s:Int)<4:=by omega
 have stl:s<mm.threads.length:=by omega
 have hgs:=fY (ids:=bw) stl;obtain⟨⟨at_,av,ar,ao⟩,⟨bt,bv,br,bo⟩,rfl⟩:=RP (show bf.length=2 from jL);have LG:=IL _ (acT);have bck:=IL ⟨bt,bv,br,bo⟩ (by simp);have EK:=wC (aD:=mm.layout.aD) (key:=mm.layout.key) (an:=ae) bck;obtain⟨⟨et,ev⟩,w1,tf⟩: ∃c w,raw mm.layout.aD mm.layout.key ae ⟨bt,bv,br,bo⟩=(c,w):=⟨_,_,rfl⟩;simp only[tf]at EK;have Kd:IntKind.i64.wrap av=av:=wrap_i64 (by have:=LG.2;have:=LG.1;simp only at*;omega);by_cases sU:w1=0
 case neg=>
  refine aaB ?_;simp[aaE,hb,hT,Ct,hL,EY,nB,SM,q1,q2,pG,SL,sM,Xr,tf,sU];exact kn.same H HG (hgq (by unfold x8;rw[if_neg (show¬(10:Int)=12 by decide),if_pos ⟨rfl,zH⟩];exact if_neg fun h=>sU (by have h1:=h.1;simp only[vG,aeH,acG,tf]at h1;exact h1))) (by simp only[cE,cM,cP])
 subst sU;by_cases Kl:(mm.threads[s]).state=0
 case neg=>
  refine aaB ?_;simp[aaE,hb,hT,jX,Ct,hL,EY,nB,SM,q1,q2,pG,SL,sM,Xr,tf,hgs,sp4,amt,Kl];exact kn.same H HG (hgq (by unfold x8;rw[if_neg (show¬(10:Int)=12 by decide),if_pos ⟨rfl,zH⟩];exact if_neg fun h=>Kl (by have h1:=h.2.1;simp only[aaH]at h1;rw[show bV (⟨mm.layout,mm.memory,mm.threads⟩:aO) s=mm.threads[s] from iq stl]at h1;exact h1))) (by simp only[cE,cM,cP])
 have SN:=eq_true Kl;by_cases ha:255<av
 ·refine aaB ?_;simp[aaE,hb,hT,jX,Ct,hL,EY,nB,SM,q1,q2,pG,SL,sM,Xr,tf,Kd,hgs,sp4,amt,SN,ha];exact kn.same H HG (hgq (by unfold x8;rw[if_neg (show¬(10:Int)=12 by decide),if_pos ⟨rfl,zH⟩];exact if_neg fun h=>by have h2:=h.2.2.1;simp only[vG,acG]at h2;omega)) (by simp only[cE,cM,cP])
 by_cases Pu:at_=0
 case neg=>
  refine aaB ?_;simp[aaE,hb,hT,jX,Ct,hL,EY,nB,SM,q1,q2,pG,SL,sM,Xr,tf,Kd,hgs,sp4,amt,SN,ha,Pu];exact kn.same H HG (hgq (by unfold x8;rw[if_neg (show¬(10:Int)=12 by decide),if_pos ⟨rfl,zH⟩];exact if_neg fun h=>Pu h.2.2.2)) (by simp only[cE,cM,cP])
 have au6:=eq_true Pu;have vk: ¬s=n:=fun e=>by subst e;rw[pH]at Kl;rw[Kl]at hs2;cases hs2
 have a3i: ¬n=s:=fun e=>vk e.symm;obtain⟨hN,eN,fN⟩:=amr av et ev (k+114);simp only[aaE,Nat.reduceAdd]at eN fN;refine aaB ?_;simp[aaE,hb,hT,hR,hg,jX,h8,n4,Ct,hL,EY,nB,SM,s5,Ia,q1,q2,q3,q5,pG,SL,q3z,l1,l2,l3,sM,Xr,tf,Kd,hgs,sp4,amt,SN,ha,au6,vk,eN];have PC:0<=d:=by have:=rI.count;omega
 have a3j:0<=av/\av<=255:=by have:=LG.1;simp only at this;omega
 refine⟨true,ids,fun i=>if i=s then k+119 else bw i,⟨mm.layout,mm.memory,(mm.threads.set s (ED av ⟨et,ev⟩)).set n (oQ x0 ⟨ct,cv⟩)⟩,rfl,H.threads (by omega) (by simp[hl]) ?_ ?_ ?_ ?_ ?_,?_,rfl,hgq (by unfold x8;rw[if_neg (show¬(10:Int)=12 by decide),if_pos ⟨rfl,zH⟩,if_pos ⟨by simp only[vG,aeH,acG,tf],by simp only[aaH];rw[iq stl];exact Kl,by simp only[vG,acG];omega,Pu⟩,OS mm.memory];simp only[vG,aeH,acG,tf,aaH];rfl),by omega,fun j _=>⟨.inl rfl,?_⟩,?_⟩
 ·rw[LF (bw:=bw) stl nd vk (fun j hj=>if_neg hj),hT2];simp[aR,dM,ED]
 ·intro i hi;simp only[aaN]at hi;simp only[abA];by_cases wL:n=i
  ·subst wL;simp[aR,a3i,s5,oQ,Cell.bS]
  ·by_cases Ur:s=i
   ·subst Ur;have c1: ¬k+119=T:=by omega
    have c2: ¬k+119=bw n:=by omega
    simp[aR,a3i,c1,c2,fN,ED]
   ·have c1:=H.qR i (by omega);have c2:=H.Ka i n (by omega) n4 (fun e=>wL e.symm);have c3:bw i<k+114:=by omega
    have c4: ¬bw i=k+64:=by omega
    have c5: ¬bw i=k+24:=by omega
    have c6: ¬bw i=k+2:=by omega
    have c7: ¬bw i=k+1:=by omega
    have c8: ¬bw i=k:=by omega
    have c9: ¬i=s:=fun e=>Ur e.symm;simp[aR,wL,Ur,c9,c1.2.2.2.1,c2,c3,c4,c5,c6,c7,c8,H.G0 i hi]
 ·intro i hi;by_cases Ur:i=s
  ·right;simp[Ur]
  ·left;simp[Ur]
 ·intro i j hi hj mj;have a1:=(H.qR i hi).2.2.2.2;have a2:=(H.qR j hj).2.2.2.2;by_cases Ur:i=s
  ·have F2: ¬j=s:=fun e=>mj (Ur.trans e.symm);simp only[Ur,F2,if_true,if_false];omega
  ·by_cases F2:j=s
   ·simp only[Ur,F2,if_true,if_false];omega
   ·simp only[Ur,F2,if_false];exact H.Ka i j hi hj mj
 ·intro i hi WV mj;have c3:i<k+114:=by omega
  have c4: ¬i=k+64:=by omega
  have c5: ¬i=k+24:=by omega
  have c6: ¬i=k+2:=by omega
  have c7: ¬i=k+1:=by omega
  have c8: ¬i=k:=by omega
  have c9:=mj n n4;simp[aR,WV,c3,c4,c5,c6,c7,c8,c9]
 ·refine⟨HG.prog,HG.lay,HG.key,HG.mem,by simp[hl],fun i hi=> ?_,HG.coh⟩;simp only[aaN]at hi;simp only[abA];split
  ·exact hxw
  ·split
   ·exact amj PC a3j EK
   ·exact HG.pe i hi
 ·by_cases Ur:j=s
  ·right;simp[Ur]
  ·left;simp[Ur]
 ·intro i hi hiC hiL WV mj;have c3:i<k+114:=by omega
  have c4: ¬i=k+64:=by omega
  have c5: ¬i=k+24:=by omega
  have c6: ¬i=k+2:=by omega
  have c7: ¬i=k+1:=by omega
  have c8: ¬i=k:=by omega
  have c9:=(mj n n4).2;simp[aR,WV,c3,c4,c5,c6,c7,c8,c9]
noncomputable def cB(g:FuncId)(args:List V)(h:bh)(k:Nat):Bool:=match cL X g args h k with|some (.bool b,_,_)=>b|_=>false
def a3k{g:FuncId}{b:Bool}(e:cL X g args h k=some (.bool b,h',k')):cB g args h k=b:=by
 unfold cB;rw[e]
def pD.Up(HM:kN h k S T vB vC vL es m)(HG:cT p d m)(e:r=(m,false))(hB:Below k h h')(hk:k<=k'):
  pD p d r h k S (.dP [KKE vB m.layout.key vC vL (.cx T 0 4),.bool false]) h' k':=by
 subst e;exact⟨S,T,vB,vC,vL,es,rfl,HM.mono hk fun i hi=>hB i (HM.lt i hi),HG,hk,hB,fun i hi=> .inl hi⟩
def pD.bcl(H:gX h' k' vB C L T ids bw m)(HA:oP k vB C L T ids bw)(HG:cT p d m)(hl:key=m.layout.key)(e:r=(m,true))(hB:Below k h h')(hk:k<=k'):
  pD p d r h k S (.dP [KKE vB key (.cx C 0 512) (.cx L 0 4) (.cx T 0 4),.bool true]) h' k':=by
 subst e hl;exact⟨_,T,vB,_,_,_,rfl,.deep H,HG,hk,hB,fun i hi=> .inr (W4.OA HA i hi)⟩
def LH(hn:n<ts.length)(h: ∀j,¬j=n->kY j=bw j):cG kY (ts.set n xn)=(cG bw ts).set n (dM kY n xn):=by
 apply abF;intro j;simp only[cG,ack,abN,adN];by_cases KK:n=j
 ·subst KK;simp[hn]
 ·simp only[KK,if_false];cases ts[j]? with
  |none=>rfl
  |some x=>simp[dM,h j (fun e=>KK e.symm)]
@[simp]def a3l(iu:Int)(cN:List Cell)(jQ dS da dT jx jy dr code:Int)(k:Nat)(hm:cN.length<=1000000000): ∃h',cL X 195 [KKg iu cN jQ dS da dT jx jy,.int .i64 dr,.int .u16 code] pK k=some ((KKd 4 (.cx (k+10) 0 cN.length) jQ dS da dT dr code:V),h',k+25)/\h' (k+10)=some ⟨2,cN.map Cell.e,false⟩:=by
 obtain⟨h1,e1,e2⟩:=NK iu cN jQ dS da dT jx jy (k+6) hm;simp only[aaE,Nat.reduceAdd]at e1 e2;obtain⟨v,h',n',e,f1,f2,f3⟩:=bC (X:=X) (g:=195) (args:=[(KKg iu cN jQ dS da dT jx jy:V),.int .i64 dr,.int .u16 code]) (h:=pK) (k:=k) (K:=fun v h n=>v= (KKd 4 (.cx (k+10) 0 cN.length) jQ dS da dT dr code:V)/\n=k+25/\h (k+10)=some ⟨2,cN.map Cell.e,false⟩) Tryz.func195 rfl rfl (by
  simp[aaE,e1,e2])
 subst f1;subst f2;exact⟨h',e,f3⟩
@[simp]def afv(ax:List Instr)(ae:List Int)(ay:List (List Int))(aa:List Int)(aq:Int)(ak:List Cell)(ah:List cw)(au:List Thread)(di dn db cD gU cu:Int)(bf bT:List Canon)(bO bP bA bB:Int)(cO:List Canon)(cZ:Int)(gW:Bool)(h:bh)(k:Nat)(S:Nat->Prop)(T:Nat)(vB vC vL:V)(es:List V)(d:Int)(HM:kN h k S T vB vC vL es (aO.mk (Layout.mk aa aq) (aF.mk ak ah) au))(HG:cT (Prog.mk ax ae ay) d (aO.mk (Layout.mk aa aq) (aF.mk ak ah) au))(hd:d<=1099511627776)(FL:bf.length<=1000000000)(hrd:bT.length<=1000000000)(IL:hY bf)(hx:xZ (lO.mk (Canon.mk bO bP bA bB) cO cZ gW)): ∃v h' k',cL X 119 [KKQ ax ae ay,KKE vB aq vC vL (.cx T 0 4),KKZ di dn db cD gU cu bf bT,KKb bO bP bA bB cO cZ gW] h k=some (v,h',k')/\pD (Prog.mk ax ae ay) d (Be (Prog.mk ax ae ay) (aO.mk (Layout.mk aa aq) (aF.mk ak ah) au) (Request.mk di dn db cD gU cu bf bT) (lO.mk (Canon.mk bO bP bA bB) cO cZ gW)) h k S v h' k':=by
 have MG:=HG.mono hd;have hv:jU (Prog.mk ax ae ay) (aO.mk (Layout.mk aa aq) (aF.mk ak ah) au)=true:=MG.ok;have hp:=HG.prog.lens;have sE:=HG.lens;have hL:=HG.lay;have fX:=HM.row;have tw:=HM.len;have hl:au.length=4:=HM.alz;have hkT:=HM.lt T HM.aew;have DB:cO.length<=1000000000:=by have:=hx.len;simp only at this;omega
 have iB: ∀H,Below k h H->cy H 11 vB=some (.sl false (aa.map (V.int .i64))):=fun H hB=>(HM.eu H (fun i hi _=>hB i (HM.lt i hi)) 8).1;have iC: ∀H,Below k h H->cy H 11 vC=some (.sl false (ak.map Cell.e)):=fun H hB=>(HM.eu H (fun i hi _=>hB i (HM.lt i hi)) 8).2.1;have iL: ∀H,Below k h H->cy H 11 vL=some (.sl false (ah.map cw.e)):=fun H hB=>(HM.eu H (fun i hi _=>hB i (HM.lt i hi)) 8).2.2.1;have iE: ∀H,Below k h H->cF (es.map (cy H 10))=some (au.map Thread.e):=fun H hB=>(HM.eu H (fun i hi _=>hB i (HM.lt i hi)) 7).2.2.2;have te:=afj tw;have q: ∀j,¬T=k+j:=fun j=>by omega
 have q0: ¬T=k:=by omega
 cases hrq:lk (Request.mk di dn db cD gU cu bf bT) with
 |false=>
  refine aaB ?_;simp[aaE,hv,hp,sE,fX,tw,FL,hrd,iB,iC,iL,iE,te,q,q0,cE,cM,cP,hrq];exact pD.same HM HG (Cg (fun h=>by have h1:=h.2.1;rw[hrq]at h1;cases h1)) (by simp only[cE,cM,cP])
 |true=>
 have au7:=hrq;unfold lk at au7;simp only[aaF,decide_eq_true_eq]at au7;obtain⟨th0,th4,_,_,_,_,_,_,_,_,ca0,bcm,_,_,_,_⟩:=au7;by_cases kH:dn=1
 case neg=>
  refine aaB ?_;simp[aaE,hv,hp,sE,fX,tw,FL,hrd,iB,iC,iL,iE,te,q,q0,cE,cM,cP,hrq,kH];exact pD.same HM HG (Cg (fun h=>kH h.2.2.1)) (by simp only[cE,cM,cP])
 have yx:=eq_true kH;by_cases har:(bf.length:Int)=uU cu
 case neg=>
  refine aaB ?_;simp[aaE,hv,hp,sE,fX,tw,FL,hrd,iB,iC,iL,iE,te,q,q0,cE,cM,cP,hrq,yx,har];exact pD.same HM HG (Cg (fun h=>har h.2.2.2.1)) (by simp only[cE,cM,cP])
 have afx:=eq_true har;have jL:bf.length=(dh cu).length:=by
  unfold uU at har;rw[if_neg (by omega)]at har;omega
 cases hr:sF (lO.mk (Canon.mk bO bP bA bB) cO cZ gW) with
 |false=>
  refine aaB ?_;simp[aaE,hv,hp,sE,fX,tw,DB,FL,hrd,iB,iC,iL,iE,te,q,q0,cE,cM,cP,hrq,yx,afx,hr];exact pD.same HM HG (Cg (fun h=>by have h1:=h.2.2.2.2.1;rw[hr]at h1;cases h1)) (by simp only[cE,cM,cP])
 |true=>
 obtain⟨n,rfl⟩:=aaG th0;have n4:n<4:=by omega
 have Ct:(n:Int)<4:=by omega
 have nl:n<au.length:=by omega
 have nle:n<es.length:=by omega
 obtain⟨vR,Pv⟩:=HM.auf n nle nl;simp only at Pv;have rI:bV (aO.mk (Layout.mk aa aq) (aF.mk ak ah) au) n=au[n]:=iq nl;by_cases hs:(au[n]).state=2
 case neg=>
  refine aaB ?_;simp[aaE,hv,hp,sE,fX,tw,DB,FL,hrd,iB,iC,iL,iE,te,q,q0,cE,cM,cP,hrq,yx,afx,hr,n4,Ct,Pv,hs];exact pD.same HM HG (Cg (fun h=>hs (by have h1:=h.2.2.2.2.2;simp only[aaH]at h1;rw[rI]at h1;exact h1))) (by simp only[cE,cM,cP])
 have oG:=eq_true hs;have au8:ON (Prog.mk ax ae ay) (aO.mk (Layout.mk aa aq) (aF.mk ak ah) au) ⟨n,dn,db,cD,gU,cu,bf,bT⟩ (lO.mk (Canon.mk bO bP bA bB) cO cZ gW):=⟨hv,hrq,kH,har,hr,by simp only[aaH];rw[rI];exact hs⟩;obtain⟨v1,h1,k1,eC,ek,ev,HA,HB⟩:=EZ aa aq ak ah au (k+48) (Prog.mk ax ae ay) _ MG;subst ek;subst ev;simp only[aaE,Nat.reduceAdd]at eC HA HB;have HP:=HA.pure;have pT:=HP.pe;have pR:=HP.G0 n nl;simp only at pT pR;have Cr:=fA (qW (k+166) (k+185) (k+204) (k+223)) au;rw[hl]at Cr;have gg:=fY (ids:=(qW (k+166) (k+185) (k+204) (k+223))) nl;have IV:=(MG.pe n nl).bp;simp only at IV;have a1:=(HB.2.1 n n4).2;have a2:=(HP.qR n n4).2.2.1;have a3:=(HP.qR n n4).2.2.2;obtain⟨I,hI⟩: ∃I,(qW (k+166) (k+185) (k+204) (k+223)) n=I:=⟨_,rfl⟩;rw[hI]at pR a1 a2 a3;simp only[hI]at gg;have b1: ∀j,j<48-> ¬I=k+j:=fun j _=>by omega
 have b1': ∀j,j<48-> ¬k+j=I:=fun j _=>by omega
 have b2: ¬I=k+230:=a2;have b2': ¬k+230=I:=fun e=>a2 e.symm;have b3: ¬I<k+48:=by omega
 have b4:I<k+260:=by omega
 have b0: ¬I=k:=by omega
 have b0': ¬k=I:=by omega
 have amu: ∀i,i<k->i<k+48/\(∀j,¬i=k+j)/\ ¬i=k/\ ¬i=I:=fun i hi=>⟨by omega,fun j=>by omega,by omega,by omega⟩;by_cases c0:cu=0
 ·subst c0;have la1:0<bf.length:=by rw[jL];decide
  obtain⟨⟨at_,av,ar,ao⟩,Hn⟩: ∃c,bf[0]=c:=⟨_,rfl⟩;have LG:Dc ⟨at_,av,ar,ao⟩:=Hn▸IL _ (aaL la1);have tk:List.take 8 ((au[n]).bp.map Cell.e)=(au[n]).bp.map Cell.e:=aZ (by simp[IV]);obtain⟨hE,eE,fE⟩:=a3l (au[n]).state (au[n]).bp (au[n]).pc (au[n]).count (au[n]).cp (au[n]).saved (au[n]).dr (au[n]).code 0 av (k+260) (by omega);simp only[aaE,Nat.reduceAdd,IV]at eE fE;refine aaB ?_;simp[aaE,hl,hv,hp,sE,fX,tw,DB,FL,hrd,iB,iC,iL,iE,te,q,q0,cE,cM,cP,hrq,yx,afx,hr,n4,Ct,Pv,oG,eC,ji,jI,B7,pT,pR,Cr,gg,IV,b1,b3,la1,Hn,eE,tk,aug,al0,al1,aeA,List.all_nil];have hold: ∀i,i<4-> ¬i=n->k+48<=(qW (k+166) (k+185) (k+204) (k+223)) i/\(qW (k+166) (k+185) (k+204) (k+223)) i<k+238/\(qW (k+166) (k+185) (k+204) (k+223)) i≠k+230:=fun i hi _=>⟨(HB.2.1 i hi).2,(HP.qR i hi).2.2.2,(HP.qR i hi).2.2.1⟩;have Ql:Be (Prog.mk ax ae ay) (aO.mk (Layout.mk aa aq) (aF.mk ak ah) au) ⟨n,dn,db,cD,gU,0,bf,bT⟩ (lO.mk (Canon.mk bO bP bA bB) cO cZ gW)=(⟨⟨aa,aq⟩,⟨ak,ah⟩,au.set n (OM au[n] av)⟩,true):=by
   unfold Be;rw[if_pos au8,if_pos rfl];simp only[aaH,rI,vG,List.getD,aaJ la1,Hn,abV]
  refine pD.new (m:=⟨⟨aa,aq⟩,⟨ak,ah⟩,au.set n (OM au[n] av)⟩) (bw:=fun i=>if i=n then k+270 else(qW (k+166) (k+185) (k+204) (k+223)) i) (gX.threads (a:=k+48) HP HB (by omega) (by simp[hl]) ?_ ?_ ?_ ?_ ?_) ?_ ?_ rfl Ql ?_
  ·rw[LH (bw:=(qW (k+166) (k+185) (k+204) (k+223))) nl (fun j hj=>if_neg hj)];simp[aR,dM,OM,IV]
  ·intro i hi;simp only[aaN]at hi;simp only[abA];by_cases wL:n=i
   ·subst wL;simp[aR,fE,kO,OM];exact fun _ _=>rfl
   ·have a3m: ¬i=n:=fun e=>wL e.symm;obtain⟨o1,o2,o3⟩:=hold i (by omega) a3m;have a3n:=HP.G0 i hi;simp only at a3n;have c1: ¬(qW (k+166) (k+185) (k+204) (k+223)) i=k+4:=by omega
    have c2:(qW (k+166) (k+185) (k+204) (k+223)) i<k+260:=by omega
    have c3: ¬(qW (k+166) (k+185) (k+204) (k+223)) i=k+46:=by omega
    have c4: ¬(qW (k+166) (k+185) (k+204) (k+223)) i<k+48:=by omega
    simp only[wL,a3m,if_false];simp only[aR,c1,c2,c3,c4,o3,if_false,if_true];exact a3n
  ·intro i hi;by_cases wL:i=n
   ·right;simp[wL]
   ·left;simp[wL]
  ·intro i j hi hj mj;by_cases wL:i=n
   ·have KK: ¬j=n:=fun e=>mj (wL.trans e.symm);have:=hold j hj KK;simp only[wL,KK,if_true,if_false];omega
   ·by_cases KK:j=n
    ·have:=hold i hi wL;simp only[wL,KK,if_true,if_false];omega
    ·simp only[wL,KK,if_false];exact HP.Ka i j hi hj mj
  ·intro i hi1 LZ Bp yd;have c1: ¬i=k+4:=by omega
   have c2:i<k+260:=by omega
   have c3: ¬i=k+46:=by omega
   have c4: ¬i<k+48:=by omega
   simp only[aR,c1,c2,c3,c4,Bp,if_false,if_true]
  ·obtain⟨⟨p1,p2,p3⟩,pI,pB⟩:=HB;refine⟨⟨by omega,by omega,by omega⟩,fun j hj=>⟨by have:=pI j hj;omega,?_⟩,fun B s n e=>by have:=pB B s n e;omega⟩;by_cases wL:j=n
   ·simp[wL]
   ·have:=pI j hj;simp only[wL,if_false];omega
  ·refine⟨HG.prog,HG.lay,HG.key,HG.mem,by simp[hl],fun i hi=> ?_,HG.coh⟩;simp only[aaN]at hi;simp only[abA];split
   ·exact amk (HG.pe n nl) LG
   ·exact HG.pe i hi
  ·intro i hi;obtain⟨e1,e2,e3,e4⟩:=amu i hi;have e5:i<k+260:=by omega
   simp[aR,e1,e2,e3,e5]
 cases gW with
 |true=>
  refine aaB ?_;simp[aaE,hl,hv,hp,sE,fX,tw,DB,FL,hrd,iB,iC,iL,iE,te,q,q0,cE,cM,cP,hrq,yx,afx,hr,n4,Ct,Pv,oG,eC,ji,jI,B7,pT,Cr,gg,IV,c0];have Ql:Be (Prog.mk ax ae ay) (aO.mk (Layout.mk aa aq) (aF.mk ak ah) au) ⟨n,dn,db,cD,gU,cu,bf,bT⟩ ⟨⟨bO,bP,bA,bB⟩,cO,cZ,true⟩=(iZ (aO.mk (Layout.mk aa aq) (aF.mk ak ah) au) (aO.memory (aO.mk (Layout.mk aa aq) (aF.mk ak ah) au)) n (Hk au[n]),true):=by
   unfold Be;rw[if_pos au8,if_neg c0,if_pos rfl];simp only[aaH,rI]
  refine pD.new (m:=iZ (aO.mk (Layout.mk aa aq) (aF.mk ak ah) au) (aO.memory (aO.mk (Layout.mk aa aq) (aF.mk ak ah) au)) n (Hk au[n])) (HP.put HB (by omega) n4 ?_ ?_ ?_) (HB.less (by omega)) (uW HG (adQ _) HG.mem HG.coh (afl (HG.pe n nl))) rfl Ql ?_
  ·rw[<-iK nl];simp[aR,dM,Hk,IV,hI]
  ·rw[hI];have c5: ¬I=k+4:=by omega
   have c6: ¬I=k+46:=by omega
   simp[aR,b2,b3,c5,c6,Hk,pR]
  ·intro i hi1 LZ Bp yd;have c1: ¬i<k+48:=by omega
   have c2: ¬i=k+4:=by omega
   have c3: ¬i=k+46:=by omega
   simp[aR,c1,c2,c3,Bp]
  ·intro i hi;obtain⟨e1,e2,e3,e4⟩:=amu i hi;simp[aR,e1,e2,e3]
 |false=>
 have hs2:(bV (aO.mk (Layout.mk aa aq) (aF.mk ak ah) au) n).state=2:=by rw[iq nl];exact hs
 have key: ∀(H:bh) (K:Nat),H (k+46)=some ⟨5,[KKE (.cx (k+53) 0 aa.length) aq (.cx (k+68) 0 512) (.cx (k+147) 0 4) (.cx (k+230) 0 4)],true⟩->So (k+48) (fun i=>kO (h1 i)) H->k+238<=K->
   cL X 198 [KKQ ax ae ay,.ptr (k+46) 0 0,KKZ (n:Int) dn db cD gU cu bf bT,KKb bO bP bA bB cO cZ false] H K=some (.bool (cB 198 [KKQ ax ae ay,.ptr (k+46) 0 0,KKZ (n:Int) dn db cD gU cu bf bT,KKb bO bP bA bB cO cZ false] H K),cH 198 [KKQ ax ae ay,.ptr (k+46) 0 0,KKZ (n:Int) dn db cD gU cu bf bT,KKb bO bP bA bB cO cZ false] H K,cK 198 [KKQ ax ae ay,.ptr (k+46) 0 0,KKZ (n:Int) dn db cD gU cu bf bT,KKb bO bP bA bB cO cZ false] H K)/\cH 198 [KKQ ax ae ay,.ptr (k+46) 0 0,KKZ (n:Int) dn db cD gU cu bf bT,KKb bO bP bA bB cO cZ false] H K (k+46)=some ⟨5,[KKE (.cx (k+53) 0 aa.length) aq (.cx (k+68) 0 512) (.cx (k+147) 0 4) (.cx (k+230) 0 4)],true⟩/\(∀i,i<k+48->cH 198 [KKQ ax ae ay,.ptr (k+46) 0 0,KKZ (n:Int) dn db cD gU cu bf bT,KKb bO bP bA bB cO cZ false] H K i=H i)/\K<=cK 198 [KKQ ax ae ay,.ptr (k+46) 0 0,KKZ (n:Int) dn db cD gU cu bf bT,KKb bO bP bA bB cO cZ false] H K/\
   ∃iJ kY m',dV (cH 198 [KKQ ax ae ay,.ptr (k+46) 0 0,KKZ (n:Int) dn db cD gU cu bf bT,KKb bO bP bA bB cO cZ false] H K) (cK 198 [KKQ ax ae ay,.ptr (k+46) 0 0,KKZ (n:Int) dn db cD gU cu bf bT,KKb bO bP bA bB cO cZ false] H K) (k+46) (.cx (k+53) 0 aa.length) (k+68) (k+147) (k+230) iJ kY m'/\cT (Prog.mk ax ae ay) d m'/\m'.layout=⟨aa,aq⟩/\(Hm (Prog.mk ax ae ay) (aO.mk (Layout.mk aa aq) (aF.mk ak ah) au) n ⟨(n:Int),dn,db,cD,gU,cu,bf,bT⟩ ⟨⟨bO,bP,bA,bB⟩,cO,cZ,false⟩=bif (cB 198 [KKQ ax ae ay,.ptr (k+46) 0 0,KKZ (n:Int) dn db cD gU cu bf bT,KKb bO bP bA bB cO cZ false] H K) then some m' else none)/\oP (k+48) (.cx (k+53) 0 aa.length) (k+68) (k+147) (k+230) iJ kY:=fun H K hb hO hK=>by
  have HI:=aet (b:=k+46) (by rw[hb];unfold jE;simp only[hl]) (by omega) (by omega) hK HP HB hO;obtain⟨v,h',k',e,bb,iJ,kY,m',rfl,G,GG,gl,gp,gk,gi,gf⟩:=a3c ax ae ay .bad (n:Int) dn db cD gU cu bf bT bO bP bA bB cO cZ false H K (k+46) _ _ _ _ _ _ (aO.mk (Layout.mk aa aq) (aF.mk ak ah) au) d n HI HG hd ⟨_,rfl⟩ ⟨rfl,n4⟩ hs2 ⟨ca0,bcm⟩ jL IL hr hx;obtain⟨e1,e2⟩:=xS e;have e3:=a3k e;have Bn:=G.xQ;have ya:=G.len;obtain⟨⟨p1,p2,p3⟩,pI,pB⟩:=HB;rw[e1,e2,e3];refine⟨e,by rw[Bn];unfold jE;rw[ya,gl],fun i hi=>gf i (by omega) (by omega) (by omega) (by omega) (fun j hj=>by have:=pI j hj;omega),gk,iJ,kY,m',G,GG,gl,gp,⟨p1,p2,p3⟩,fun j hj=> ?_,pB⟩;have:=pI j hj;have:=gi j hj;omega
 have cl:=fun H K a b c=>(key H K a b c).1;have cb:=fun H K a b c=>(key H K a b c).2.1;have cf1:=fun H K a b c=>(key H K a b c).2.2.1 (k+1) (by omega);have cf4:=fun H K a b c=>(key H K a b c).2.2.1 (k+4) (by omega);refine aaB ?_;simp[aaE,hl,hv,hp,sE,fX,tw,DB,FL,hrd,iB,iC,iL,iE,te,q,q0,cE,cM,cP,hrq,yx,afx,hr,n4,Ct,Pv,oG,eC,ji,jI,B7,c0,cl,cb,cf1,cf4,y9,B6];have fin: ∀(H:bh) (K n2:Nat) (o:Option Ob),H (k+46)=some ⟨5,[KKE (.cx (k+53) 0 aa.length) aq (.cx (k+68) 0 512) (.cx (k+147) 0 4) (.cx (k+230) 0 4)],true⟩->So (k+48) (fun i=>kO (h1 i)) H->k+238<=K->Below k h H->
   (cB 198 [KKQ ax ae ay,.ptr (k+46) 0 0,KKZ (n:Int) dn db cD gU cu bf bT,KKb bO bP bA bB cO cZ false] H K=false->pD (Prog.mk ax ae ay) d (Be (Prog.mk ax ae ay) (aO.mk (Layout.mk aa aq) (aF.mk ak ah) au) ⟨(n:Int),dn,db,cD,gU,cu,bf,bT⟩ ⟨⟨bO,bP,bA,bB⟩,cO,cZ,false⟩) h k S (.dP [KKE vB aq vC vL (.cx T 0 4),.bool false]) (aR (cH 198 [KKQ ax ae ay,.ptr (k+46) 0 0,KKZ (n:Int) dn db cD gU cu bf bT,KKb bO bP bA bB cO cZ false] H K) (k+4) o) (cK 198 [KKQ ax ae ay,.ptr (k+46) 0 0,KKZ (n:Int) dn db cD gU cu bf bT,KKb bO bP bA bB cO cZ false] H K+n2))/\
   (cB 198 [KKQ ax ae ay,.ptr (k+46) 0 0,KKZ (n:Int) dn db cD gU cu bf bT,KKb bO bP bA bB cO cZ false] H K=true->pD (Prog.mk ax ae ay) d (Be (Prog.mk ax ae ay) (aO.mk (Layout.mk aa aq) (aF.mk ak ah) au) ⟨(n:Int),dn,db,cD,gU,cu,bf,bT⟩ ⟨⟨bO,bP,bA,bB⟩,cO,cZ,false⟩) h k S (.dP [KKE (.cx (k+53) 0 aa.length) aq (.cx (k+68) 0 512) (.cx (k+147) 0 4) (.cx (k+230) 0 4),.bool true]) (aR (cH 198 [KKQ ax ae ay,.ptr (k+46) 0 0,KKZ (n:Int) dn db cD gU cu bf bT,KKb bO bP bA bB cO cZ false] H K) (k+4) o) (cK 198 [KKQ ax ae ay,.ptr (k+46) 0 0,KKZ (n:Int) dn db cD gU cu bf bT,KKb bO bP bA bB cO cZ false] H K+n2)):=fun H K n2 o hb hO hK hB=>by
  obtain⟨_,_,f1,gk,iJ,kY,m',G,GG,gl,gp,GA⟩:=key H K hb hO hK;have wM:Below k h (aR (cH 198 [KKQ ax ae ay,.ptr (k+46) 0 0,KKZ (n:Int) dn db cD gU cu bf bT,KKb bO bP bA bB cO cZ false] H K) (k+4) o):=fun i hi=>by
   have c1: ¬i=k+4:=by omega
   simp only[aR,c1,if_false];rw[f1 i (by omega),hB i hi]
  have Bx:Be (Prog.mk ax ae ay) (aO.mk (Layout.mk aa aq) (aF.mk ak ah) au) ⟨(n:Int),dn,db,cD,gU,cu,bf,bT⟩ ⟨⟨bO,bP,bA,bB⟩,cO,cZ,false⟩=a29 (aO.mk (Layout.mk aa aq) (aF.mk ak ah) au) (Hm (Prog.mk ax ae ay) (aO.mk (Layout.mk aa aq) (aF.mk ak ah) au) n ⟨(n:Int),dn,db,cD,gU,cu,bf,bT⟩ ⟨⟨bO,bP,bA,bB⟩,cO,cZ,false⟩):=by
   unfold Be;rw[if_pos au8,if_neg c0,if_neg (by simp)];simp only[aaH]
  refine⟨fun eb=>pD.Up HM HG (by rw[Bx,gp,eb];rfl) wM (by omega),fun eb=> ?_⟩;have bco:aq=m'.layout.key:=by rw[gl]
  exact pD.bcl (S:=S) (h':=aR (cH 198 [KKQ ax ae ay,.ptr (k+46) 0 0,KKZ (n:Int) dn db cD gU cu bf bT,KKb bO bP bA bB cO cZ false] H K) (k+4) o) (k':=cK 198 [KKQ ax ae ay,.ptr (k+46) 0 0,KKZ (n:Int) dn db cD gU cu bf bT,KKb bO bP bA bB cO cZ false] H K+n2) (G.at.mono GA (by omega) fun i hi _=>by
   have c1: ¬i=k+4:=by omega
   simp only[aR,c1,if_false]) (GA.less (by omega)) GG bco (by rw[Bx,gp,eb];rfl) wM (by omega)
 refine⟨fun e=>(fin _ _ _ _ ?_ ?_ ?_ ?_).1 e,fun e=>(fin _ _ _ _ ?_ ?_ ?_ ?_).2 e⟩
 ·simp[aR]
 ·simp[y9,B6]
 ·omega
 ·simp only[cM];intro i hi;obtain⟨e1,e2,e3,e4⟩:=amu i hi;simp[e1,e2,e3]
 ·simp[aR]
 ·simp[y9,B6]
 ·omega
 ·simp only[cM];intro i hi;obtain⟨e1,e2,e3,e4⟩:=amu i hi;simp[e1,e2,e3]
def Ad(p:Prog)(vB:V)(key:Int)(vC vL:V)(T:Nat)(o:cU)(l:bY)(R n J:Nat):V:= .agg [.sl false (p.code.map Instr.e),.sl false (p.an.map (V.int .i64)),.sl false (p.data.map aV),vB,.int .u16 key,vC,vL,.cx T 0 4,.sl false (o.clock.map (V.int .u16)),.sl false (o.random.map (V.int .u16)),.sl false (o.dw.map aV),.sl false (o.files.data.map bz),.sl false (o.files.opens.map fQ.e),.sl false (o.dH.map Output.e),.sl false (l.owner.map (V.int .i64)),.sl false (l.queue.map de),.cx R 0 n,.cx J 0 4]
structure wI (p:Prog) (d:Int) (lay:Layout) (o:cU) (l:bY) (js:List Int) (h:bh) (k b:Nat) (S:Nat->Prop) (T:Nat) (vB vC vL:V) (es:List V) (m:aO) (R:Nat) (rc:List Entry) (J:Nat):Prop where
 box:h b=some ⟨18,[Ad p vB lay.key vC vL T o l R rc.length J],true⟩
 own:kN h k S T vB vC vL es m
 IW:cT p d m
 lay:m.layout=lay
 record:h R=some ⟨18,rc.map Entry.e,false⟩
 xM:h J=some ⟨1,js.map (V.int .i64),false⟩
 SO:js.length=4
 lt:b<k/\R<k/\J<k
 ne:b≠R/\b≠J/\R≠J
 off: ¬S b/\ ¬S R/\ ¬S J
def bcp(p:Prog)(d:Int)(lay:Layout)(o:cU)(l:bY)(js:List Int)(h:bh)(k b:Nat)(S:Nat->Prop)(R J:Nat)(m':aO)(rc':List Entry)(h':bh)(k':Nat):Prop:=
 ∃S' T' Yq Yr Ys Aj R',wI p d lay o l js h' k' b S' T' Yq Yr Ys Aj m' R' rc' J/\k<=k'/\k<=R'/\(∀i,S' i->S i\/k<=i)/\ ∀i,i<k->i≠b->i≠R->h' i=h i
def Ho(t n:Int):Entry:=⟨4,t,0,⟨0,0,0,0,0,0,[],[]⟩,⟨⟨0,n,0,0⟩,[], -1,false⟩⟩
def IX(t n:Int):Entry.e ⟨4,t,0,⟨0,0,0,0,0,0,[],[]⟩,⟨⟨0,n,0,0⟩,[], -1,false⟩⟩= .agg [.int .i64 4,.int .i64 t,.int .i64 0,.int .i64 0,.int .i64 0,.int .i64 0,.int .i64 0,.int .i64 0,.int .i64 0,.sl false [],.sl false [],.int .u8 0,.int .u16 n,.int .i64 0,.int .i64 0,.sl false [],.int .i64 (-1),.bool false]:=rfl
@[simp]def afy(r:V)(t n:Int)(p:Prog)(d:Int)(lay:Layout)(o:cU)(l:bY)(js:List Int)(h:bh)(k b:Nat)(S:Nat->Prop)(T:Nat)(vB vC vL:V)(es:List V)(m:aO)(R:Nat)(rc:List Entry)(J:Nat)(H:wI p d lay o l js h k b S T vB vC vL es m R rc J)(hd:d<=1099511627776)(hn:0<=n/\n<=65535)(hrc:rc.length<=1000000): ∃v h' k',cL X 210 [.ptr b 0 0,t,.int .u16 n] h k=some (v,h',k')/\v= .dP []/\bcp p d lay o l js h k b S R J (wG p m t ⟨⟨0,n,0,0⟩,[], -1,false⟩).1 (rc++ [Ho t n]) h' k':=by
 have hb:=H.box;unfold Ad at hb;have qK:IntKind.i64.wrap n=n:=wrap_i64 (by omega);have hwu:IntKind.u16.wrap n=n:=wrap_u16 hn;obtain⟨l1,l2,l3⟩:=H.lt;obtain⟨n1,n2,n3⟩:=H.ne;obtain⟨f1,f2,f3⟩:=H.off;have bcq:=H.record;have hjo:=H.xM;obtain⟨⟨pc,ps,pd⟩,rfl⟩: ∃q,p=q:=⟨_,rfl⟩;obtain⟨⟨⟨mb,mk⟩,⟨mc,ml⟩,mt⟩,rfl⟩: ∃q,m=q:=⟨_,rfl⟩;have qk:=H.lay;simp only at qk;obtain⟨H0,hH0⟩: ∃H0:bh,aR (aR h (k+3) (some ⟨7,[.agg [.int .u8 0,.int .u16 0,.int .i64 0,.int .i64 0,.sl true [],.int .i64 0,.bool false]],true⟩)) (k+3) (some ⟨7,[.agg [.int .u8 0,.int .u16 n,.int .i64 0,.int .i64 0,.sl false [],.int .i64 (-1),.bool false]],true⟩)=H0:=⟨_,rfl⟩;have hB0:Below k h H0:=by rw[<-hH0];simp only[cE,cM]
 have HM0:kN H0 (k+23) S T vB vC vL es ⟨⟨mb,mk⟩,⟨mc,ml⟩,mt⟩:=H.own.mono (by omega) fun i hi=>hB0 i (H.own.lt i hi);obtain⟨v1,h1,k1,eW,S1,T1,vB1,vC1,vL1,es1,rfl,HM1,HG1,EG,hf1,hS1⟩:=au2 pc ps pd mb mk mc ml mt t 0 n 0 0 [] (-1) false H0 (k+23) S T vB vC vL es d HM0 H.IW hd ⟨⟨hn.1,hn.2⟩,hY.nil,by simp⟩;obtain⟨⟨m1,bb⟩,Qb⟩: ∃r,wG ⟨pc,ps,pd⟩ ⟨⟨mb,mk⟩,⟨mc,ml⟩,mt⟩ t ⟨⟨0,n,0,0⟩,[], -1,false⟩=r:=⟨_,rfl⟩;have au9:=Xo ⟨pc,ps,pd⟩ ⟨⟨mb,mk⟩,⟨mc,ml⟩,mt⟩ t ⟨⟨0,n,0,0⟩,[], -1,false⟩;rw[Qb]at eW HM1 HG1 au9;simp only at eW HM1 HG1 au9;rw[Qb];rw[<-hH0]at eW;simp only[abM]at eW;have g1: ∀i,i<k->h1 i=h i:=fun i hi=>by rw[hf1 i (by omega),hB0 i hi]
 have gb:=g1 b l1;rw[hb]at gb;have gR:=g1 R l2;rw[bcq]at gR;have g3:h1 (k+3)=some ⟨7,[.agg [.int .u8 0,.int .u16 n,.int .i64 0,.int .i64 0,.sl false [],.int .i64 (-1),.bool false]],true⟩:=by
  rw[hf1 _ (by omega),<-hH0];simp[aR]
 have q1: ∀j,¬b=k+j:=fun j=>by omega
 have q2: ∀j,¬R=k+j:=fun j=>by omega
 have q3: ∀j,¬k+j=b:=fun j=>by omega
 have q4: ∀j,¬k+j=R:=fun j=>by omega
 have r1: ∀j,¬b=k1+j:=fun j=>by omega
 have r2: ∀j,¬R=k1+j:=fun j=>by omega
 have r3: ¬k+3=b:=by omega
 have Yo: ¬R=b:=fun e=>n1 e.symm;refine aaB ?_;rw[<-qk]at hb gb;simp[aaE,hb,qK,hwu,eW,gb,gR,g3,n1,Yo,q1,q3,r1];have hl1:m1.layout=lay:=by rw[au9];exact qk
 have bcs:=HM1.lt;have sS: ∀i,S1 i->i≠b/\i≠R/\i≠J/\i<k1:=fun i hi=>by
  have:=bcs i hi;rcases hS1 i hi with e|e
  ·exact⟨fun q=>f1 (q▸e),fun q=>f2 (q▸e),fun q=>f3 (q▸e),this⟩
  ·exact⟨by omega,by omega,by omega,this⟩
 have nR: ∀i,i≠R-> ¬i=R:=fun i h=>h;refine⟨⟨by omega,by omega⟩,fun _ _=>⟨S1,T1,vB1,vC1,vL1,es1,k1+9,⟨?_,HM1.mono (by omega) fun i hi=> ?_,HG1,hl1,?_,?_,H.SO,⟨by omega,by omega,by omega⟩,⟨by omega,n2,by omega⟩,fun e=>(sS b e).1 rfl,fun e=> ?_,fun e=>(sS J e).2.2.1 rfl⟩,by omega,by omega,fun i hi=> ?_,fun i h1 h2 h3=> ?_⟩⟩
 ·simp[aR,Ad,hl1]
 ·obtain⟨e1,e2,e3,e4⟩:=sS i hi;have e5: ¬i=k1+9:=by omega
  simp[aR,e1,e2,e5]
 ·have e5: ¬k1+9=b:=by omega
  simp[aR,e5,Ho,IX]
 ·have e5: ¬J=k1+9:=by omega
  have e6: ¬J=b:=fun e=>n2 e.symm;have e7: ¬J=R:=fun e=>n3 e.symm;simp only[aR,e5,e6,e7,if_false];rw[g1 J l3];exact hjo
 ·have:=(sS _ e).2.2.2;omega
 ·rcases hS1 i hi with e|e
  ·exact .inl e
  ·exact .inr (by omega)
 ·have e5: ¬i=k1+9:=by omega
  simp only[aR,e5,h2,h3,if_false];exact g1 i h1
def LI(v:V)(vs:List V):yf .bad (v::vs)=v:=rfl
noncomputable def cV(g:FuncId)(args:List V)(h:bh)(k:Nat):V:=match cL X g args h k with|some (v,_,_)=>v|none=> .bad
def a3o{g:FuncId}(e:cL X g args h k=some (v,h',k')):cV g args h k=v:=by
 unfold cV;rw[e]
def pv(j:Nat)(v:V):V:=match v with| .dP [.agg cs,_]=>cs.getD j .bad|_=> .bad
def pt(v:V):Nat:=match pv 4 v with| .cx T _ _=>T|_=>0
def pD.cl(H: ∃v h' k',cL X 119 args h k=some (v,h',k')/\pD p d r h k S v h' k'):
  cL X 119 args h k=some (.dP [KKE (pv 0 (cV 119 args h k)) r.1.layout.key (pv 2 (cV 119 args h k)) (pv 3 (cV 119 args h k)) (.cx (pt (cV 119 args h k)) 0 4),.bool r.2],cH 119 args h k,cK 119 args h k)/\
  ∃(S':Nat->Prop) (Aj:List V),kN (cH 119 args h k) (cK 119 args h k) S' (pt (cV 119 args h k)) (pv 0 (cV 119 args h k)) (pv 2 (cV 119 args h k)) (pv 3 (cV 119 args h k)) Aj r.1/\cT p d r.1/\k<=cK 119 args h k/\(∀i,i<k->cH 119 args h k i=h i)/\ ∀i,S' i->S i\/k<=i:=by
 obtain⟨v,h',k',e,S',T',Yq,Yr,Ys,Aj,rfl,HM,HG,hk,hf,hS⟩:=H;obtain⟨e1,e2⟩:=xS e;have e3:=a3o e;rw[e1,e2,e3];refine⟨?_,S',Aj,HM,HG,hk,hf,hS⟩;rw[e];rfl
def Hp(q:Request)(x:lO):Entry:=⟨2,q.dd,0,q,x⟩
def OV(p:Prog)(m:aO)(rc:List Entry)(q:Request)(P:cU×bY×List Int×lO)(own:Int):aO×cU×bY×List Int×List Entry:=
 if 0<=own then((wG p (Be p m q P.2.2.2).1 own ⟨⟨0,0,0,0⟩,[], -1,false⟩).1,P.1,P.2.1,P.2.2.1,rc++ [Hp q P.2.2.2,Ho own 0]) else((Be p m q P.2.2.2).1,P.1,P.2.1,P.2.2.1,rc++ [Hp q P.2.2.2])
noncomputable def zr(p:Prog)(m:aO)(o:cU)(l:bY)(js:List Int)(rc:List Entry)(q:Request):aO×cU×bY×List Int×List Entry:=
 OV p m rc q (sL m.threads o l js q) (if q.call=9 then(gd l (eY q 0) q.dd).2.1 else-1)
def amw(p:Prog)(d:Int)(lay:Layout)(s:aO×cU×bY×List Int×List Entry)(v:V)(h':bh)(k':Nat):Prop:=
 v= .dP []/\ ∃(S:Nat->Prop) (T:Nat) (vB vC vL:V) (es:List V) (R:Nat) (J:Nat),wI p d lay s.2.1 s.2.2.1 s.2.2.2.1 h' k' 0 S T vB vC vL es s.1 R s.2.2.2.2 J/\um s.2.1/\jR s.2.2.1
structure SP (p:Prog) (d:Int) (lay:Layout) (k:Nat) (S:Nat->Prop) (h h1:bh) (k1:Nat) (S1:Nat->Prop) (T:Nat) (vB vC vL:V) (es:List V) (m:aO):Prop where
 own:kN h1 k1 S1 T vB vC vL es m
 IW:cT p d m
 lay:m.layout=lay
 le:k<=k1
 fr: ∀i,i<k->h1 i=h i
 sub: ∀i,S1 i->S i\/k<=i
def pD.fn{P:bh->Prop}(hl:r.1.layout=lay)(H: ∀h,P h-> ∃v h' k',cL X 119 args h k=some (v,h',k')/\pD p d r h k S v h' k'):
  ∃(fB fC fL:bh->V) (fT fK:bh->Nat) (fH:bh->bh) (fS:bh->Nat->Prop) (fE:bh->List V),∀h,P h->
   cL X 119 args h k=some (.dP [KKE (fB h) lay.key (fC h) (fL h) (.cx (fT h) 0 4),.bool r.2],fH h,fK h)/\SP p d lay k S h (fH h) (fK h) (fS h) (fT h) (fB h) (fC h) (fL h) (fE h) r.1:=by
 subst hl;have g: ∀h,∃(S':Nat->Prop) (Aj:List V),P h->cL X 119 args h k=some (.dP [KKE (pv 0 (cV 119 args h k)) r.1.layout.key (pv 2 (cV 119 args h k)) (pv 3 (cV 119 args h k)) (.cx (pt (cV 119 args h k)) 0 4),.bool r.2],cH 119 args h k,cK 119 args h k)/\
   SP p d r.1.layout k S h (cH 119 args h k) (cK 119 args h k) S' (pt (cV 119 args h k)) (pv 0 (cV 119 args h k)) (pv 2 (cV 119 args h k)) (pv 3 (cV 119 args h k)) Aj r.1:=fun h=>by
  by_cases hp:P h
  ·obtain⟨e,S',Aj,h1,h2,h4,h5,h6⟩:=pD.cl (H h hp);exact⟨S',Aj,fun _=>⟨e,h1,h2,rfl,h4,h5,h6⟩⟩
  ·exact⟨fun _=>False,[],fun e=>absurd e hp⟩
 obtain⟨fS,g⟩:=Classical.skolem.1 g;obtain⟨fE,g⟩:=Classical.skolem.1 g;exact⟨_,_,_,_,_,_,fS,fE,g⟩
def SP.run                  (r0 J:Nat) (rc:List Entry)
  (H:SP p d lay k S h h1 k1 S1 T vB vC vL es m) (h0:hE 0=some ⟨18,[Ad p vB lay.key vC vL T o l R n J],true⟩) (hn:rc.length=n) (hR:hE R=some ⟨18,rc.map Entry.e,false⟩) (hJ:h J=some ⟨1,js.map (V.int .i64),false⟩) (jl:js.length=4)
  (hS: ∀i,S i->i≠0/\i≠r0/\i≠J) (hk:0<J/\J<k/\r0<k/\r0≠J) (yc:k1<=R/\R<k2) (he: ∀i,i<k1-> ¬i=0-> ¬i=r0->hE i=h1 i):wI p d lay o l js hE k2 0 S1 T vB vC vL es m R rc J:=by
 obtain⟨HM,HG,hl,hle,hf,hs⟩:=H;have gZ:=HM.lt;have sS: ∀i,S1 i-> ¬i=0/\ ¬i=r0/\ ¬i=J/\i<k1:=fun i hi=>by
  have:=gZ i hi;rcases hs i hi with e|e
  ·obtain⟨a,b,c⟩:=hS i e;exact⟨a,b,c,this⟩
  ·exact⟨by omega,by omega,by omega,this⟩
 subst hn;refine⟨h0,HM.mono (by omega) fun i hi=> ?_,HG,hl,hR,?_,jl,⟨by omega,by omega,by omega⟩,⟨by omega,by omega,by omega⟩,fun e=>(sS 0 e).1 rfl,fun e=> ?_,fun e=>(sS _ e).2.2.1 rfl⟩
 ·obtain⟨e1,e2,e3,e4⟩:=sS i hi;exact he i e4 e1 e2
 ·rw[he J (by omega) (by omega) (by omega),hf J (by omega),hJ]
 ·have:=(sS _ e).2.2.2;omega
def wI.back(H:wI p d lay o l js h k 0 S T vB vC vL es m R rc J):
  yg X [(0,16,65),(0,17,3),(0,7,112)] (.dP []) h=some (18,(KKJ p.code p.an p.data m.layout.aD m.layout.key m.memory.cells m.memory.lines m.threads o.clock o.random o.dw o.files.data o.files.opens o.dH l.owner l.queue rc js:V),[]):=by
 obtain⟨hb,HO,HG,qk,hR,hJ,tI,gZ,kz,Xs⟩:=H;have hT:=HO.row;have nT0: ¬T=0:=fun e=>Xs.1 (e▸HO.aew);have nTR: ¬T=R:=fun e=>Xs.2.1 (e▸HO.aew);have nTJ: ¬T=J:=fun e=>Xs.2.2 (e▸HO.aew);have nRT: ¬R=T:=fun e=>nTR e.symm;have nJT: ¬J=T:=fun e=>nTJ e.symm;have nR0: ¬R=0:=fun e=>kz.1 e.symm;have nJ0: ¬J=0:=fun e=>kz.2.1 e.symm;have nRJ: ¬R=J:=kz.2.2;have nJR: ¬J=R:=fun e=>kz.2.2 e.symm;obtain⟨i1,i2,i3,i4⟩:=HO.eu (aR (aR (aR (aR h 0 none) T none) J none) R none) (fun i hi WV=>by
  have a1: ¬i=0:=fun e=>Xs.1 (e▸hi);have a2: ¬i=R:=fun e=>Xs.2.1 (e▸hi);have a3: ¬i=J:=fun e=>Xs.2.2 (e▸hi);simp[aR,a1,a2,a3,WV]) 9
 simp only[Nat.reduceAdd]at i1 i2 i3 i4;have te:=afj HO.len;have tj: ∀(f:Int->V),List.take 4 (js.map f)=js.map f:=fun f=>aZ (by simp;omega);have tw:=HO.len;unfold Ad at hb;rw[qk]at i1;simp(maxSteps:=10000000)[hb,hT,hR,hJ,tI,tw,nT0,nRT,nJT,nR0,nJ0,nRJ,te,tj,i1,i2,i3,i4,<-qk]
@[simp]def afz(aP:List Instr)(aN:List Int)(aQ:List (List Int))(aE:List Int)(aG:Int)(aJ:List Cell)(aK:List cw)(az:List Thread)(bk aX:List Int)(aY:List (List Int))(aM:List (List Canon))(aH:List fQ)(aS:List Output)(bD:List Int)(bE:List (List Int))(cC:List Entry)(cz:List Int)(dm iw iy fu ny eD:Int)(eQ fM:List Canon)(d:Int)(HG:cT ⟨aP,aN,aQ⟩ d ⟨⟨aE,aG⟩,⟨aJ,aK⟩,az⟩)(hd:d<=1099511627776)(ho:um ⟨bk,aX,aY,⟨aM,aH⟩,aS⟩)(hl:jR ⟨bD,bE⟩)(hj:cz.length=4)(hrc:cC.length<=900000)(oT:0<=dm/\dm<4)(jL:eQ.length<=3)(adk:fM.length<=16)(Bc:(eD=8\/eD=9\/eD=11)->1<=eQ.length)(IL:hY eQ)(hdv:hY fM): ∃(m2:aO) (o2:cU) (l2:bY) (wH:List Int) (PE:List Entry),oz X [(0,16,65),(0,17,3),(0,7,112)] 138 18 ((KKJ aP aN aQ aE aG aJ aK az bk aX aY aM aH aS bD bE cC cz:V)) [KKZ dm iw iy fu ny eD eQ fM]=some (18,(KKJ aP aN aQ m2.layout.aD m2.layout.key m2.memory.cells m2.memory.lines m2.threads o2.clock o2.random o2.dw o2.files.data o2.files.opens o2.dH l2.owner l2.queue PE wH:V),[],.dP [])/\cT ⟨aP,aN,aQ⟩ d m2/\m2.layout=⟨aE,aG⟩/\um o2/\jR l2/\wH.length=4/\zr ⟨aP,aN,aQ⟩ ⟨⟨aE,aG⟩,⟨aJ,aK⟩,az⟩ ⟨bk,aX,aY,⟨aM,aH⟩,aS⟩ ⟨bD,bE⟩ cz cC ⟨dm,iw,iy,fu,ny,eD,eQ,fM⟩=(m2,o2,l2,wH,PE):=by
 have qP:az.length=4:=HG.len;have IJ: ∀(f:Thread->V),List.take 4 (az.map f)=az.map f:=fun f=>aZ (by simp;omega);have Ss: ∀(f:Thread->Option V),List.take 4 (az.map f)=az.map f:=fun f=>aZ (by simp;omega);have OP: ∀(hx:bh),cF (az.map (cy hx 12∘Thread.e))=some (az.map Thread.e):=fun hx=>pX (fun _=>rfl) az;have IS: ∀(f:Int->V),List.take 4 (cz.map f)=cz.map f:=fun f=>aZ (by simp;omega);have w0:IntKind.u16.wrap 0=0:=by decide
 obtain⟨⟨Uj,Uk,Ul,⟨Um,Un⟩,Uo⟩,⟨IT,IU⟩,wH,⟨⟨x1,x2,x3,x4⟩,x5,x6,x7⟩,hpf,Lc,ya,yb,hxg,hpm⟩:=Xp aP aN aQ aE aG aJ aK az bk aX aY aM aH aS bD bE cC cz dm iw iy fu ny eD eQ fM qP ho hl hj (by omega) oT jL adk Bc IL hdv;have a3a: ∀(f:Int->V),List.take 4 (wH.map f)=wH.map f:=fun f=>aZ (by simp;omega);obtain⟨⟨m2,okp⟩,Bx⟩: ∃z,Be ⟨aP,aN,aQ⟩ ⟨⟨aE,aG⟩,⟨aJ,aK⟩,az⟩ ⟨dm,iw,iy,fu,ny,eD,eQ,fM⟩ ⟨⟨x1,x2,x3,x4⟩,x5,x6,x7⟩=z:=⟨_,rfl⟩;have OW:=afp ⟨aP,aN,aQ⟩ ⟨⟨aE,aG⟩,⟨aJ,aK⟩,az⟩ ⟨dm,iw,iy,fu,ny,eD,eQ,fM⟩ ⟨⟨x1,x2,x3,x4⟩,x5,x6,x7⟩;rw[Bx]at OW;simp only at OW;have hx5:x5.length<=1000000000:=by have:=hxg.len;simp only at this;omega
 have main: ∃v h' k',cL X 138 [.ptr 0 0 0,KKZ dm iw iy fu ny eD eQ fM] (l9 X 138 18 ((KKJ aP aN aQ aE aG aJ aK az bk aX aY aM aH aS bD bE cC cz:V))) 4=some (v,h',k')/\amw ⟨aP,aN,aQ⟩ d ⟨aE,aG⟩ (zr ⟨aP,aN,aQ⟩ ⟨⟨aE,aG⟩,⟨aJ,aK⟩,az⟩ ⟨bk,aX,aY,⟨aM,aH⟩,aS⟩ ⟨bD,bE⟩ cz cC ⟨dm,iw,iy,fu,ny,eD,eQ,fM⟩) v h' k':=by
  by_cases c9:eD=9
  case pos=>
   have h0:0<eQ.length:=by have:=Bc (.inr (.inl c9));omega
   have hv0:=IL _ (aaL h0);obtain⟨⟨za,zb,zc,zd⟩,Hn⟩: ∃z,eQ[0]=z:=⟨_,rfl⟩;rw[Hn]at hv0;have Ge:IntKind.i64.wrap zb=zb:=wrap_i64 (by have:=hv0.1;have:=hv0.2;simp only at*;omega);have hgr:=On hl zb dm;obtain⟨⟨lo3,lq3⟩,own,ok3,hG3⟩: ∃l2 own ok,gd ⟨bD,bE⟩ zb dm=(l2,own,ok):=⟨_,_,_,rfl⟩;have zH:=B2 bD bE zb dm hl;rw[hG3]at zH hgr;simp only at zH hgr;have c9':=eq_true c9;have w:=pD.fn (P:=fun H=>H 34=some ⟨8,az.map Thread.e,true⟩) (r:=(m2,okp)) OW fun H h16=>by have:=afv aP aN aQ aE aG aJ aK az dm iw iy fu ny eD eQ fM x1 x2 x3 x4 x5 x6 x7 H 53 (fun i=>i=34) 34 _ _ _ _ d (kN.flat (m:=⟨⟨aE,aG⟩,⟨aJ,aK⟩,az⟩) h16 qP (by omega)) HG hd (by omega) (by omega) IL hxg;rw[Bx]at this;exact this
   obtain⟨fB,fC,fL,fT,fK,fH,fS,fE,key⟩:=w;simp only at key;have cl:=fun H a=>(key H a).1;have cf: ∀H:bh,H 34=some ⟨8,az.map Thread.e,true⟩-> ∀i,i<53->fH H i=H i:=fun H a=>(key H a).2.fr;have ck: ∀H:bh,H 34=some ⟨8,az.map Thread.e,true⟩->53<=fK H:=fun H a=>(key H a).2.le;have wk: ∀(hE:bh) (kE:Nat),(∃(S:Nat->Prop) (T:Nat) (vB vC vL:V) (es:List V) (R:Nat) (J:Nat),wI ⟨aP,aN,aQ⟩ d ⟨aE,aG⟩ ⟨Uj,Uk,Ul,⟨Um,Un⟩,Uo⟩ ⟨IT,IU⟩ wH hE kE 0 S T vB vC vL es m2 R (cC++ [Hp ⟨dm,iw,iy,fu,ny,eD,eQ,fM⟩ ⟨⟨x1,x2,x3,x4⟩,x5,x6,x7⟩]) J)->cL X 210 [.ptr 0 0 0,.int .i64 own,.int .u16 0] hE kE=some (.dP [],cH 210 [.ptr 0 0 0,.int .i64 own,.int .u16 0] hE kE,cK 210 [.ptr 0 0 0,.int .i64 own,.int .u16 0] hE kE)/\ ∃(S:Nat->Prop) (T:Nat) (vB vC vL:V) (es:List V) (R:Nat) (J:Nat),wI ⟨aP,aN,aQ⟩ d ⟨aE,aG⟩ ⟨Uj,Uk,Ul,⟨Um,Un⟩,Uo⟩ ⟨IT,IU⟩ wH (cH 210 [.ptr 0 0 0,.int .i64 own,.int .u16 0] hE kE) (cK 210 [.ptr 0 0 0,.int .i64 own,.int .u16 0] hE kE) 0 S T vB vC vL es (wG ⟨aP,aN,aQ⟩ m2 own ⟨⟨0,0,0,0⟩,[], -1,false⟩).1 R (cC++ [Hp ⟨dm,iw,iy,fu,ny,eD,eQ,fM⟩ ⟨⟨x1,x2,x3,x4⟩,x5,x6,x7⟩,Ho own 0]) J/\um ⟨Uj,Uk,Ul,⟨Um,Un⟩,Uo⟩/\jR ⟨IT,IU⟩:=fun hE kE ⟨S,T,vB,vC,vL,es,R,J,HR⟩=>by
    obtain⟨v,h',k',e,rfl,S',T',Yq,Yr,Ys,Aj,R',Sz,_⟩:=afy .bad own 0 _ _ _ _ _ _ hE kE 0 S T vB vC vL es m2 R _ J HR hd (by omega) (by simp;omega);obtain⟨e1,e2⟩:=xS e;rw[e1,e2];rw[acC]at Sz;exact⟨e,S',T',Yq,Yr,Ys,Aj,R',J,Sz,Lc,ya⟩
   have Ui:eY ⟨dm,iw,iy,fu,ny,eD,eQ,fM⟩ 0=zb:=by simp[eY,List.getD,h0,Hn]
   by_cases rV:0<=own
   case neg=>
    have Yx:zr ⟨aP,aN,aQ⟩ ⟨⟨aE,aG⟩,⟨aJ,aK⟩,az⟩ ⟨bk,aX,aY,⟨aM,aH⟩,aS⟩ ⟨bD,bE⟩ cz cC ⟨dm,iw,iy,fu,ny,eD,eQ,fM⟩=(m2,⟨Uj,Uk,Ul,⟨Um,Un⟩,Uo⟩,⟨IT,IU⟩,wH,(cC++ [Hp ⟨dm,iw,iy,fu,ny,eD,eQ,fM⟩ ⟨⟨x1,x2,x3,x4⟩,x5,x6,x7⟩])):=by
     unfold zr;simp only[hpm,c9',if_true,Ui,hG3];unfold OV;simp only[Bx];exact if_neg rV
    rw[Yx];refine aaB ?_;simp[qP,hj,yb,IJ,OP,IS,c9',h0,Hn,Ge,zH,rV,hpf,LI,cl,cf];refine⟨⟨by omega,by omega⟩,fun _ _=>⟨rfl,_,_,_,_,_,_,_,_,SP.run 32 33 (cC++ [Hp ⟨dm,iw,iy,fu,ny,eD,eQ,fM⟩ ⟨⟨x1,x2,x3,x4⟩,x5,x6,x7⟩]) (key _ ?_).2 rfl ?_ ?_ ?_ yb ?_ ?_ ?_ ?_,Lc,ya⟩⟩
    ·simp[aR]
    ·simp
    ·simp[aR];rfl
    ·simp[aR]
    ·intro i hi;omega
    ·omega
    ·omega
    ·intro i hi e1 e2;have e5:=aeJ (abY hi (adZ _ 11));simp only[aR,e1,e2,e5,if_false]
   have Yx:zr ⟨aP,aN,aQ⟩ ⟨⟨aE,aG⟩,⟨aJ,aK⟩,az⟩ ⟨bk,aX,aY,⟨aM,aH⟩,aS⟩ ⟨bD,bE⟩ cz cC ⟨dm,iw,iy,fu,ny,eD,eQ,fM⟩=((wG ⟨aP,aN,aQ⟩ m2 own ⟨⟨0,0,0,0⟩,[], -1,false⟩).1,⟨Uj,Uk,Ul,⟨Um,Un⟩,Uo⟩,⟨IT,IU⟩,wH,cC++ [Hp ⟨dm,iw,iy,fu,ny,eD,eQ,fM⟩ ⟨⟨x1,x2,x3,x4⟩,x5,x6,x7⟩,Ho own 0]):=by
    unfold zr;simp only[hpm,c9',if_true,Ui,hG3];unfold OV;simp only[Bx];exact if_pos rV
   rw[Yx];have aus: ∀(hE:bh) (kE:Nat),(∃(S:Nat->Prop) (T:Nat) (vB vC vL:V) (es:List V) (R:Nat) (J:Nat),wI ⟨aP,aN,aQ⟩ d ⟨aE,aG⟩ ⟨Uj,Uk,Ul,⟨Um,Un⟩,Uo⟩ ⟨IT,IU⟩ wH hE kE 0 S T vB vC vL es m2 R (cC++ [Hp ⟨dm,iw,iy,fu,ny,eD,eQ,fM⟩ ⟨⟨x1,x2,x3,x4⟩,x5,x6,x7⟩]) J)->amw ⟨aP,aN,aQ⟩ d ⟨aE,aG⟩ ((wG ⟨aP,aN,aQ⟩ m2 own ⟨⟨0,0,0,0⟩,[], -1,false⟩).1,⟨Uj,Uk,Ul,⟨Um,Un⟩,Uo⟩,⟨IT,IU⟩,wH,cC++ [Hp ⟨dm,iw,iy,fu,ny,eD,eQ,fM⟩ ⟨⟨x1,x2,x3,x4⟩,x5,x6,x7⟩,Ho own 0]) (.dP []) (cH 210 [.ptr 0 0 0,.int .i64 own,.int .u16 0] hE kE) (cK 210 [.ptr 0 0 0,.int .i64 own,.int .u16 0] hE kE):=fun hE kE h=>⟨rfl,(wk hE kE h).2⟩;refine aaB ?_;simp[qP,hj,yb,IJ,OP,IS,c9',h0,Hn,Ge,zH,rV,hpf,LI,cl,cf];refine⟨⟨by omega,by omega⟩,fun _ _=> ?_⟩;rw[(wk _ _ ?_).1];simp;refine aus _ _ ?_;all_goals
    refine⟨_,_,_,_,_,_,_,33,SP.run 32 33 _ (key _ ?_).2 rfl ?_ ?_ ?_ yb ?_ ?_ ?_ ?_⟩
    ·simp[aR]
    ·simp
    ·simp[aR];rfl
    ·simp[aR]
    ·intro i hi;omega
    ·omega
    ·omega
    ·intro i hi e1 e2;have e5:=aeJ (abY hi (adZ _ 11));simp only[aR,e1,e2,e5,if_false]
  have w:=pD.fn (P:=fun H=>H 16=some ⟨8,az.map Thread.e,true⟩) (r:=(m2,okp)) OW fun H h16=>by have:=afv aP aN aQ aE aG aJ aK az dm iw iy fu ny eD eQ fM x1 x2 x3 x4 x5 x6 x7 H 35 (fun i=>i=16) 16 _ _ _ _ d (kN.flat (m:=⟨⟨aE,aG⟩,⟨aJ,aK⟩,az⟩) h16 qP (by omega)) HG hd (by omega) (by omega) IL hxg;rw[Bx]at this;exact this
  obtain⟨fB,fC,fL,fT,fK,fH,fS,fE,key⟩:=w;simp only at key;have cl:=fun H a=>(key H a).1;have cf: ∀H:bh,H 16=some ⟨8,az.map Thread.e,true⟩-> ∀i,i<35->fH H i=H i:=fun H a=>(key H a).2.fr;have ck: ∀H:bh,H 16=some ⟨8,az.map Thread.e,true⟩->35<=fK H:=fun H a=>(key H a).2.le;have Yx:zr ⟨aP,aN,aQ⟩ ⟨⟨aE,aG⟩,⟨aJ,aK⟩,az⟩ ⟨bk,aX,aY,⟨aM,aH⟩,aS⟩ ⟨bD,bE⟩ cz cC ⟨dm,iw,iy,fu,ny,eD,eQ,fM⟩=(m2,⟨Uj,Uk,Ul,⟨Um,Un⟩,Uo⟩,⟨IT,IU⟩,wH,(cC++ [Hp ⟨dm,iw,iy,fu,ny,eD,eQ,fM⟩ ⟨⟨x1,x2,x3,x4⟩,x5,x6,x7⟩])):=by
   unfold zr;simp only[hpm,c9,if_false];unfold OV;simp only[Bx];exact if_neg (by decide)
  rw[Yx];refine aaB ?_;simp[qP,hj,yb,IJ,OP,IS,c9,hpf,LI,cl,cf];refine⟨⟨by omega,by omega⟩,fun _ _=>⟨rfl,_,_,_,_,_,_,_,_,SP.run 14 15 (cC++ [Hp ⟨dm,iw,iy,fu,ny,eD,eQ,fM⟩ ⟨⟨x1,x2,x3,x4⟩,x5,x6,x7⟩]) (key _ ?_).2 rfl ?_ ?_ ?_ yb ?_ ?_ ?_ ?_,Lc,ya⟩⟩
  ·simp[aR]
  ·simp
  ·simp[aR];rfl
  ·simp[aR]
  ·intro i hi;omega
  ·omega
  ·omega
  ·intro i hi e1 e2;have e5:=aeJ (abY hi (adZ _ 11));simp only[aR,e1,e2,e5,if_false]
 obtain⟨v,h',k',e,rfl,S3,T3,vB3,vC3,vL3,es3,R3,J3,HR,ho3,hl3⟩:=main;refine⟨_,_,_,_,_,?_,HR.IW,HR.lay,ho3,hl3,HR.SO,rfl⟩;unfold oz;rw[show 1+(X.fl 138).length=4 from rfl,e];simp only[HR.back];rfl
def l6(q:List (List Int))(t:Int)(i:Nat):List (List Int):=(q.take i).map (fun x=>qN x t)++q.drop i
def OX(q:List (List Int))(t:Int):l6 q t 0=q:=by simp[l6]
def Hq(q:List (List Int))(t:Int)(i:Nat):(l6 q t i).length=q.length:=by simp[l6];omega
def Xu{t:Int}(h:i<q.length)(h':i<(l6 q t i).length):(l6 q t i)[i]=q[i]:=by
 have e:(l6 q t i)[i]?=some q[i]:=by
  unfold l6;rw[aaO (by simp;omega),abJ,abR,aeZ (Nat.le_of_lt h),acV,drop_cons h];rfl
 rw[aaJ h']at e;exact aeE e
def SQ{t:Int}(h:i<q.length):(l6 q t i).set i (qN q[i] t)=l6 q t (i+1):=by
 unfold l6;have e:((q.take i).map (fun x=>qN x t)).length=i:=by simp;omega
 rw[adV _ _ (by omega),e,acV,drop_cons h,adO,fD h,abL];simp
def SR(q:List (List Int))(t:Int):l6 q t q.length=q.map fun x=>qN x t:=by simp[l6]
def Ee(l:bY)(t:Int):iM l t 0=(⟨l.owner,l.queue.map fun q=>qN q t⟩,[]):=rfl
def Km(l:bY)(t:Int)(i:Nat):iM l t (i+1)=((gd (iM l t i).1 i t).1,if(gd (iM l t i).1 i t).2.2=true/\0<=(gd (iM l t i).1 i t).2.1 then(iM l t i).2++ [(gd (iM l t i).1 i t).2.1] else(iM l t i).2):=rfl
@[simp]def LJ(bR:List Int)(bG:List (List Int))(t:Int)(h:jR (bY.mk bR bG)):bU X 211 [KKw bR bG,.int .i64 t]=some (.dP [KKq ((iM (bY.mk bR bG) t 4).1),.sl false (((iM (bY.mk bR bG) t 4).2).map (V.int .i64))]):=by
 refine aaA ?_;have h1:bR.length=4:=h.A6;have h2:bG.length=4:=h.A7;obtain⟨h3,h4⟩:=h.lens;simp only at h3 h4;simp[h1,h2,h4];refine cY (fun i S=>(S.f 1= .int .i64 t/\S.f 4= .ptr 4 0 0/\S.h 4=some ⟨2,[KKw ([]:List Int) ([]:List (List Int))],true⟩/\S.f 6= .ptr 6 0 0/\S.h 1000=some ⟨1,(⟨bR,l6 bG t i⟩:bY).queue.map de,false⟩/\S.h 6=some ⟨2,[.agg [.sl false ((⟨bR,l6 bG t i⟩:bY).owner.map (V.int .i64)),.cx 1000 0 ((⟨bR,l6 bG t i⟩:bY).queue.map de).length]],true⟩/\S.f 20= .cx 1000 0 4/\S.f 21= .int .i64 ((4:Int))/\S.f 22=(i:Int)/\S.n=1101)/\True) (4) (by omega) ?_ ?_ ?_
 ·rintro i S ⟨oY,gS,bL⟩ ⟨df,fg⟩;have hl:i<bG.length:=by omega
  have q1:=(h.queue i hl).len;have r1:=Hq bG t i;have r2:i<(l6 bG t i).length:=by omega
  have r3:=Xu (t:=t) hl r2;have r4:=SQ (t:=t) hl;have i4:(i:Int)<4:=by omega
  rw[h2]at r1;simp only at q1;simp[df,bL,r1,r3,i4];refine cY (fun j S=>(S.f 1= .int .i64 t/\S.f 4= .ptr 4 0 0/\S.h 4=some ⟨2,[KKw ([]:List Int) ([]:List (List Int))],true⟩/\S.f 6= .ptr 6 0 0/\S.h 1000=some ⟨1,(⟨bR,l6 bG t i⟩:bY).queue.map de,false⟩/\S.h 6=some ⟨2,[.agg [.sl false ((⟨bR,l6 bG t i⟩:bY).owner.map (V.int .i64)),.cx 1000 0 ((⟨bR,l6 bG t i⟩:bY).queue.map de).length]],true⟩/\S.f 7= .int .i64 ((i:Int))/\S.f 9= .cx 9 0 (((qN ((bG[i]).take j) t).map (V.int .i64))).length/\S.h 9=some ⟨1,((qN ((bG[i]).take j) t).map (V.int .i64)),false⟩/\S.f 20= .cx 1000 0 4/\S.f 21= .int .i64 ((4:Int))/\S.f 22=(i:Int)/\S.f 27= .sl false ((bG[i]).map (V.int .i64))/\S.f 28= .int .i64 (((bG[i]).length:Int))/\S.f 29=(j:Int)/\S.n=1101)/\True) ((bG[i]).length) (by omega) ?_ ?_ ?_
  ·rintro j S ⟨mj,uD,jq⟩ ⟨lB,r9⟩;by_cases hx:(bG[i])[j]=t
   ·have e:=aec jq hx;have Ig:=eq_true hx;simp[lB,uD,jq,Ig,e]
   ·have e:=WL jq hx;have hl:(qN ((bG[i]).take j) t).length<=4:=by have:=WM ((bG[i]).take j) t;simp only[abR]at this;omega
    simp[lB,uD,jq,hx,e];all_goals ((repeat' (first|apply And.intro|intro _))<;>first|omega|rfl)
  ·rintro S ⟨lB,r9⟩;have r5:((l6 bG t i).map de).set i (.sl false ((qN bG[i] t).map (V.int .i64)))=(l6 bG t (i+1)).map de:=by rw[<-kA,<-List.map_set,r4]
   have r6:=Hq bG t (i+1);rw[h2]at r6;simp[bL,lB,r1,r5,r6,i4,aea,gS];all_goals ((repeat' (first|apply And.intro|intro _))<;>first|omega|rfl)
  ·simp[df]<;>(
    first|rfl|exact⟨rfl,rfl⟩|(simp[r1];rfl)|simp[r1])
 ·rintro S ⟨df,fg⟩;rw[show l6 bG t 4=bG.map fun q=>qN q t by rw[<-SR,h2]]at df;have m1:(bG.map fun q=>qN q t).length=4:=by simp[h2]
  simp[df,h1];refine cY (fun k S=>(S.f 1= .int .i64 t/\S.f 4= .ptr 4 0 0/\S.h 4=some ⟨2,[KKw ([]:List Int) ([]:List (List Int))],true⟩/\S.f 6= .ptr 6 0 0/\S.h 6=some ⟨2,[KKq ((iM (bY.mk bR bG) t k).1)],true⟩/\S.f 12= .cx 12 0 ((((iM (bY.mk bR bG) t k).2).map (V.int .i64))).length/\S.h 12=some ⟨1,(((iM (bY.mk bR bG) t k).2).map (V.int .i64)),false⟩/\S.f 49= .int .i64 ((4:Int))/\S.f 50=(k:Int)/\S.n=1100)/\True) (4) (by omega) ?_ ?_ ?_
  ·rintro k S ⟨Jc,ER,kK⟩ ⟨Am,Py⟩;obtain⟨d1,d2,d3⟩:=Db h t k;have k4:(k:Int)<4:=by omega
   have lu:=Km (bY.mk bR bG) t k;obtain⟨⟨o1,o2⟩,nx,hd⟩: ∃a b,iM (bY.mk bR bG) t k=(a,b):=⟨_,_,rfl⟩;rw[hd]at d1 d2 d3 Am lu;simp only at d1 d2 d3 lu;obtain⟨⟨g1,g2⟩,gn,gb,hg⟩: ∃a b c,gd ⟨o1,o2⟩ k t=(a,b,c):=⟨_,_,_,rfl⟩;rw[hg]at lu;simp only at lu;cases gb with
   |false=>
    simp[Am,ER,kK,k4,d1,hg,lu]
   |true=>
    by_cases hn:0<=gn
    ·simp[Am,ER,kK,k4,d1,hg,lu,hn];all_goals ((repeat' (first|apply And.intro|intro _))<;>first|omega|rfl)
    ·simp[Am,ER,kK,k4,d1,hg,lu,hn]
  ·rintro S ⟨Am,Py⟩;simp[Am]
  ·simp[df]<;>(
    simp[Ee])
 ·simp<;>(
   simp[OX,h2])
def Ch(p:Prog)(s:aO×List Entry)(t n:Int):aO×List Entry:=((wG p s.1 t ⟨⟨0,n,0,0⟩,[], -1,false⟩).1,s.2++ [Ho t n])
def l7(p:Prog)(s:aO×List Entry)(l:List Int):aO×List Entry:=l.foldl (fun s u=>Ch p s u 0) s
def Xvq(p:Prog)(s:aO×List Entry){l:List Int}(h:i<l.length):l7 p s (l.take (i+1))=Ch p (l7 p s (l.take i)) l[i] 0:=by
 unfold l7;rw[fD h,adl];rfl
def OY(p:Prog)(t:Nat)(s:(aO×List Entry)×List Int)(u:Nat):(aO×List Entry)×List Int:=if s.2.getD u 0=t then(Ch p s.1 u (bV s.1.1 t).code,s.2.set u (-1)) else s
def rE(p:Prog)(t:Nat)(s:(aO×List Entry)×List Int)(k:Nat):(aO×List Entry)×List Int:=(List.range k).foldl (OY p t) s
def OZ(p:Prog)(t:Nat)(s:(aO×List Entry)×List Int)(k:Nat):rE p t s (k+1)=OY p t (rE p t s k) k:=by
 unfold rE;rw[acK,adl];rfl
def SS(p:Prog)(m:aO)(o:cU)(l:bY)(js:List Int)(rc:List Entry)(t:Nat):aO×cU×bY×List Int×List Entry:=
 ((rE p t (l7 p (m,rc) (iM l t 4).2,js) 4).1.1,o,(iM l t 4).1,(rE p t (l7 p (m,rc) (iM l t 4).2,js) 4).2,(rE p t (l7 p (m,rc) (iM l t 4).2,js) 4).1.2)
def xz(p:Prog)(s:aO×List Entry): ∀l:List Int,(l7 p s l).2.length=s.2.length+l.length
 | []=>rfl
 |x::l=>by
  have:l7 p s (x::l)=l7 p (Ch p s x 0) l:=rfl;rw[this,xz p _ l];simp[Ch];omega
def Bf(p:Prog)(t:Nat)(s:(aO×List Entry)×List Int): ∀k,(rE p t s k).1.2.length<=s.1.2.length+k
 |0=>aaI _
 |k+1=>by
  rw[OZ];have:=Bf p t s k;unfold OY;split
  ·simp[Ch];omega
  ·omega
def IY(p:Prog)(d:Int)(lay:Layout)(o:cU)(l:bY)(J:Nat)(js:List Int)(s:aO×List Entry)(h:bh)(k:Nat):Prop:=
 ∃(S:Nat->Prop) (T:Nat) (vB vC vL:V) (es:List V) (R:Nat),wI p d lay o l js h k 0 S T vB vC vL es s.1 R s.2 J
def IY.mono{p:Prog}{d:Int}{lay:Layout}{o:cU}{l:bY}{J:Nat}{js:List Int}{s:aO×List Entry}{h h':bh}{k k':Nat}(H:IY p d lay o l J js s h k)(hk:k<=k')(hh: ∀i,i<k->h' i=h i):IY p d lay o l J js s h' k':=by
 obtain⟨S,T,vB,vC,vL,es,R,⟨h1,h2,h3,h4,h5,h6,h7,h8,h9,zG⟩⟩:=H;have:=h2.lt;exact⟨S,T,vB,vC,vL,es,R,⟨by rw[hh _ h8.1,h1],h2.mono hk fun i hi=>hh i (this i hi),h3,h4,by rw[hh _ h8.2.1,h5],by rw[hh _ h8.2.2,h6],h7,⟨by omega,by omega,by omega⟩,h9,zG⟩⟩
def IY.a3q(H:IY p d lay o l J js s h k)(hd:d<=1099511627776)(t n:Int)(hn:0<=n/\n<=65535)(hc:s.2.length<=1000000):
  ∃h' k',cL X 210 [.ptr 0 0 0,t,.int .u16 n] h k=some (.dP [],h',k')/\IY p d lay o l J js (Ch p s t n) h' k'/\k<=k':=by
 obtain⟨S,T,vB,vC,vL,es,R,HR⟩:=H;obtain⟨v,h',k',e1,rfl,S',T',Yq,Yr,Ys,Aj,R',Sz,e3,_⟩:=afy .bad t n _ _ _ _ _ _ h k 0 S T vB vC vL es s.1 R s.2 J HR hd hn hc;exact⟨h',k',e1,⟨S',T',Yq,Yr,Ys,Aj,R',Sz⟩,e3⟩
def wI.bcv                 (H:wI p d lay o l js h k b S T vB vC vL es m R rc J) (hk:k<=k') (hl:js'.length=4)
  (hJ:h' J=some ⟨1,js'.map (V.int .i64),false⟩) (hh: ∀i,i<k->i≠J->h' i=h i):wI p d lay o l js' h' k' b S T vB vC vL es m R rc J:=by
 obtain⟨h1,h2,h3,h4,h5,h6,h7,h8,h9,zG⟩:=H;have:=h2.lt;exact⟨by rw[hh _ h8.1 h9.2.1,h1],h2.mono hk fun i hi=>hh i (this i hi) fun e=>zG.2.2 (e▸hi),h3,h4,by rw[hh _ h8.2.1 h9.2.2,h5],hJ,hl,⟨by omega,by omega,by omega⟩,h9,zG⟩
def IY.U7(H:IY p d lay o l J js s h k)(ho:um o)(hl:jR l):amw p d lay (s.1,o,l,js,s.2) (.dP []) h k:=by
 obtain⟨S,T,vB,vC,vL,es,R,HR⟩:=H;exact⟨rfl,S,T,vB,vC,vL,es,R,J,HR,ho,hl⟩
def zt{l:bY}(h:jR l)(t:Int): ∀i,(iM l t i).2.length<=i
 |0=>by simp[Ee]
 |i+1=>by
  have:=zt h t i;rw[Km];simp only;split
  ·simp;omega
  ·omega
@[simp]def Us(aP:List Instr)(aN:List Int)(aQ:List (List Int))(aE:List Int)(aG:Int)(aJ:List Cell)(aK:List cw)(az:List Thread)(bk aX:List Int)(aY:List (List Int))(aM:List (List Canon))(aH:List fQ)(aS:List Output)(bD:List Int)(bE:List (List Int))(cC:List Entry)(cz:List Int)(t d:Int)(HG:cT ⟨aP,aN,aQ⟩ d ⟨⟨aE,aG⟩,⟨aJ,aK⟩,az⟩)(hd:d<=1099511627776)(ho:um ⟨bk,aX,aY,⟨aM,aH⟩,aS⟩)(hl:jR ⟨bD,bE⟩)(hj:cz.length=4)(hrc:cC.length<=900010)(oT:0<=t/\t<4): ∃(m2:aO) (o2:cU) (l2:bY) (wH:List Int) (PE:List Entry),oz X [(0,16,65),(0,17,3),(0,7,112)] 139 18 ((KKJ aP aN aQ aE aG aJ aK az bk aX aY aM aH aS bD bE cC cz:V)) [t]=some (18,(KKJ aP aN aQ m2.layout.aD m2.layout.key m2.memory.cells m2.memory.lines m2.threads o2.clock o2.random o2.dw o2.files.data o2.files.opens o2.dH l2.owner l2.queue PE wH:V),[],.dP [])/\cT ⟨aP,aN,aQ⟩ d m2/\m2.layout=⟨aE,aG⟩/\um o2/\jR l2/\wH.length=4/\SS ⟨aP,aN,aQ⟩ ⟨⟨aE,aG⟩,⟨aJ,aK⟩,az⟩ ⟨bk,aX,aY,⟨aM,aH⟩,aS⟩ ⟨bD,bE⟩ cz cC t.toNat=(m2,o2,l2,wH,PE):=by
 have qP:az.length=4:=HG.len;obtain⟨⟨IT,IU⟩,nx,cx⟩: ∃a b,iM ⟨bD,bE⟩ t 4=(a,b):=⟨_,_,rfl⟩;have zH:=LJ bD bE t hl;have hnx:=zt hl t 4;have ya:=(Db hl t 4).1;rw[cx]at zH hnx ya;simp only at zH hnx ya;obtain⟨tn,rfl⟩:=aaG oT.1;have tn4:tn<4:=by omega
 have bcx:(tn:Int)<4:=by omega
 have main: ∃v h' k',cL X 139 [.ptr 0 0 0,.int .i64 tn] (l9 X 139 18 ((KKJ aP aN aQ aE aG aJ aK az bk aX aY aM aH aS bD bE cC cz:V))) 4=some (v,h',k')/\amw ⟨aP,aN,aQ⟩ d ⟨aE,aG⟩ (SS ⟨aP,aN,aQ⟩ ⟨⟨aE,aG⟩,⟨aJ,aK⟩,az⟩ ⟨bk,aX,aY,⟨aM,aH⟩,aS⟩ ⟨bD,bE⟩ cz cC tn) v h' k':=by
  obtain⟨s0,MK⟩: ∃s0:aO×List Entry,(⟨⟨aE,aG⟩,⟨aJ,aK⟩,az⟩,cC)=s0:=⟨_,rfl⟩;have hex:SS ⟨aP,aN,aQ⟩ ⟨⟨aE,aG⟩,⟨aJ,aK⟩,az⟩ ⟨bk,aX,aY,⟨aM,aH⟩,aS⟩ ⟨bD,bE⟩ cz cC tn=((rE ⟨aP,aN,aQ⟩ tn (l7 ⟨aP,aN,aQ⟩ s0 nx,cz) 4).1.1,⟨bk,aX,aY,⟨aM,aH⟩,aS⟩,⟨IT,IU⟩,(rE ⟨aP,aN,aQ⟩ tn (l7 ⟨aP,aN,aQ⟩ s0 nx,cz) 4).2,(rE ⟨aP,aN,aQ⟩ tn (l7 ⟨aP,aN,aQ⟩ s0 nx,cz) 4).1.2):=by
   unfold SS;rw[cx,MK]
  rw[hex];have btb:s0.2.length<=900010:=by rw[<-MK];exact hrc
  refine aaB ?_;simp[qP,hj,zH];refine lW (fun i S=>(S.f 0= .ptr 0 0 0/\S.f 1= .int .i64 tn/\S.f 23= .sl false (nx.map (V.int .i64))/\S.f 24= .int .i64 nx.length/\S.f 25= .int .i64 i)/\IY ⟨aP,aN,aQ⟩ d ⟨aE,aG⟩ ⟨bk,aX,aY,⟨aM,aH⟩,aS⟩ ⟨IT,IU⟩ 2 cz (l7 ⟨aP,aN,aQ⟩ s0 (nx.take i)) S.h S.n) nx.length ?_ 0 (by omega) ?_
  ·rintro i S hi ⟨⟨f0,f1,f23,f24,f25⟩,HI⟩;by_cases gZ:i<nx.length
   ·have bL:(i:Int)<nx.length:=by omega
    obtain⟨h2,k2,e2,HI2,yc⟩:=(HI.mono (k':=S.n+7) (h':=S.h) (by omega) fun _ _=>rfl).a3q hd (nx[i]) 0 (by omega) (by rw[xz];simp;omega);have hw:IntKind.i64.wrap ((i:Int)+1)=i+1:=wrap_i64 (by omega);simp[f0,f1,f23,f24,f25,gZ,bL,e2,hw];rw[Xvq _ _ gZ];exact HI2.mono (by omega) fun _ _=>rfl
   ·have bL: ¬(i:Int)<nx.length:=by omega
    have wL:i=nx.length:=by omega
    rw[wL,abC]at HI;have HI0:=HI;obtain⟨S0,T,vB,vC,vL,es,R,HR⟩:=HI0;have hb:=HR.box;unfold Ad at hb;have yb:=HR.xM;simp[f0,f24,f25,bL,hb];refine lW (fun i S=>(S.f 0= .ptr 0 0 0/\S.f 1= .int .i64 tn/\S.f 36= .cx 2 0 4/\S.f 37= .int .i64 4/\S.f 38= .int .i64 i)/\IY ⟨aP,aN,aQ⟩ d ⟨aE,aG⟩ ⟨bk,aX,aY,⟨aM,aH⟩,aS⟩ ⟨IT,IU⟩ 2 (rE ⟨aP,aN,aQ⟩ tn (l7 ⟨aP,aN,aQ⟩ s0 nx,cz) i).2 (rE ⟨aP,aN,aQ⟩ tn (l7 ⟨aP,aN,aQ⟩ s0 nx,cz) i).1 S.h S.n) 4 ?_ 0 (by omega) ?_
    ·rintro u S2 hu ⟨⟨f0,f1,f36,f37,f38⟩,HJ⟩;have F2:=OZ ⟨aP,aN,aQ⟩ tn (l7 ⟨aP,aN,aQ⟩ s0 nx,cz) u;have tI:=Bf ⟨aP,aN,aQ⟩ tn (l7 ⟨aP,aN,aQ⟩ s0 nx,cz) u;rw[xz]at tI;by_cases gZ:u<4
     case neg=>
      have bL: ¬(u:Int)<4:=by omega
      have hu4:u=4:=by omega
      subst hu4;simp[f37,f38];exact(HJ.mono (by omega) fun _ _=>rfl).U7 ho ya
     obtain⟨⟨⟨m,PE⟩,wH⟩,kH⟩: ∃z,rE ⟨aP,aN,aQ⟩ tn (l7 ⟨aP,aN,aQ⟩ s0 nx,cz) u=z:=⟨_,rfl⟩;rw[kH]at HJ F2 tI;simp only at HJ tI;obtain⟨S3,T,vB,vC,vL,es,R,HR⟩:=id HJ;simp only at HR;have jl:=HR.SO;have hj3:=HR.xM;have bL:(u:Int)<4:=by omega
     have hw:IntKind.i64.wrap ((u:Int)+1)=u+1:=wrap_i64 (by omega);have Th:u<wH.length:=by omega
     by_cases hju:wH[u]=tn
     case neg=>
      simp[f0,f1,f36,f37,f38,gZ,bL,hj3,jl,hju,hw];rw[F2];unfold OY;rw[if_neg (by simp only[List.getD,aaJ Th,abV];exact hju)];exact HJ.mono (by omega) fun _ _=>rfl
     have bcz:=eq_true hju;have a3r:bV m tn=m.threads[tn]'(by have:=HR.own.alz;omega):=iq _;have KK:OY ⟨aP,aN,aQ⟩ tn ((m,PE),wH) u=(Ch ⟨aP,aN,aQ⟩ (m,PE) u (bV m tn).code,wH.set u (-1)):=if_pos (by simp only[List.getD,aaJ Th,abV];exact hju);have tw:=HR.own.len;have sE:=HR.own.alz;have hT:=HR.own.row;have hb:=HR.box;unfold Ad at hb;obtain⟨vR,Pv⟩:=HR.own.auf tn (by omega) (by omega);obtain⟨⟨z1,z2,z3,z4,z5,z6,z7,z8⟩,hz⟩: ∃z,m.threads[tn]'(by omega)=z:=⟨_,rfl⟩;have UZ:=(HR.IW.pe tn (by omega)).code;have afr:rE ⟨aP,aN,aQ⟩ tn (l7 ⟨aP,aN,aQ⟩ s0 nx,cz) (u+1)=(Ch ⟨aP,aN,aQ⟩ (m,PE) u z8,wH.set u (-1)):=by rw[F2,KK,a3r,hz]
     rw[hz]at Pv UZ;simp only at Pv UZ;have etn:tn<es.length:=by omega
     obtain⟨h2,k2,e2,HI2,yc⟩:=(HJ.mono (k':=S2.n+21) (h':=S2.h) (by omega) fun _ _=>rfl).a3q hd u z8 (by omega) (by simp only;omega);obtain⟨S4,T4,vB4,vC4,vL4,es4,R4,HR4⟩:=id HI2;have hb4:=HR4.box;unfold Ad at hb4;have hj4:=HR4.xM;simp[f0,f1,f36,f37,f38,gZ,bL,hj3,jl,bcz,hw,hT,hb,Pv,tw,tn4,bcx,e2,hb4,hj4];rw[afr];exact⟨S4,T4,vB4,vC4,vL4,es4,R4,HR4.bcv (by omega) (by simp[jl]) (by simp[aR]) (fun i hi hiJ=>by simp[aR,hiJ])⟩
    ·simp[f0,f1];exact HI.mono (by omega) fun _ _=>rfl
  ·simp;rw[<-MK];exact⟨_,3,_,_,_,_,1,⟨by simp[aR,Ad,l7],kN.flat (by simp[aR,l7]) qP (by omega),HG,rfl,by simp[aR,l7],by simp[aR],hj,by omega,by omega,by omega⟩⟩
 obtain⟨v,h',k',e,rfl,S3,T3,vB3,vC3,vL3,es3,R3,J3,HR,ho3,hl3⟩:=main;refine⟨_,_,_,_,_,?_,HR.IW,HR.lay,ho3,hl3,HR.SO,rfl⟩;unfold oz;rw[show 1+(X.fl 139).length=4 from rfl,e];simp only[HR.back];rfl
end Go.Proofs.YtdngefmliibcgaaGreat
