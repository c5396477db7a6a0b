/- Part of a proof: F15. -/
import Derived.Test.YtdngefmliibcgaaGreatM26
set_option linter.all false
set_option maxRecDepth 20000
set_option maxHeartbeats 20000000
namespace Go.Proofs.YtdngefmliibcgaaGreat
open Go Go.Abs Go.Abs.kX Qf
variable  {p:Prog}{d key:Int}{h h' h1 h2 hE:bh}{k b C L T n t R k1 k' k2 J i:Nat}{vB vC vL v:V}{ids bu kV uG:Nat->Nat}{m mi:aO}{g:Option aO}{x xs xn:Thread}{E args es:List V}{o:cS}{ts:List Thread}{s:aO×List Entry}{lay:Layout}{r:aO×Bool}{S S1:Nat->Prop}{l:bX}{js js':List Int}{rc:List Entry}{q:List (List Int)}
@[simp]def atz(ax:List Instr)(ae:List Int)(ay:List (List Int))(aa:List Int)(aq:Int)(ak:List Cell)(ah:List cy)(au:List Thread)(t bO bP bA bB:Int)(cO:List Canon)(cW:Int)(gV:Bool)(h:bh)(k:Nat)(S:Nat->Prop)(T:Nat)(vB vC vL:V)(es:List V)(d:Int)(HM:kJ h k S T vB vC vL es (aO.mk (Layout.mk aa aq) (aF.mk ak ah) au))(HG:db (Prog.mk ax ae ay) d (aO.mk (Layout.mk aa aq) (aF.mk ak ah) au))(hd:d<=1099511627776)(hx:xT (lL.mk (Canon.mk bO bP bA bB) cO cW gV)): ∃v h' k',cL X 121 [KKQ ax ae ay,KKD vB aq vC vL (.cu T 0 4),.int .i64 t,KKb bO bP bA bB cO cW gV] h k=some (v,h',k')/\pG (Prog.mk ax ae ay) d (wB (Prog.mk ax ae ay) (aO.mk (Layout.mk aa aq) (aF.mk ak ah) au) t (lL.mk (Canon.mk bO bP bA bB) cO cW gV)) h k S v h' k':=by
 have MG:=HG.mono hd;have hv:jU (Prog.mk ax ae ay) (aO.mk (Layout.mk aa aq) (aF.mk ak ah) au)=true:=MG.ok;have hp:=HG.prog.lens;have tw:=HG.lens;have hL:=HG.lay;have fV:=HM.row;have tq:=HM.len;have hl:au.length=4:=HM.ak0;have hkT:=HM.lt T HM.adu;have Dk:cO.length<=1000000000:=by have:=hx.len;simp only at this;omega
 have iB: ∀H,Below k h H->cx H 11 vB=some (.sl false (aa.map (V.int .i64))):=fun H hB=>(HM.ed H (fun i hi _=>hB i (HM.lt i hi)) 8).1;have iC: ∀H,Below k h H->cx H 11 vC=some (.sl false (ak.map Cell.e)):=fun H hB=>(HM.ed H (fun i hi _=>hB i (HM.lt i hi)) 8).2.1;have iL: ∀H,Below k h H->cx H 11 vL=some (.sl false (ah.map cy.e)):=fun H hB=>(HM.ed H (fun i hi _=>hB i (HM.lt i hi)) 8).2.2.1;have iE: ∀H,Below k h H->cF (es.map (cx H 10))=some (au.map Thread.e):=fun H hB=>(HM.ed H (fun i hi _=>hB i (HM.lt i hi)) 7).2.2.2;have te:=aej tq;have q: ∀j,¬T=k+j:=fun j=>by omega
 have q0: ¬T=k:=by omega
 cases hr:sE (lL.mk (Canon.mk bO bP bA bB) cO cW gV) with
 |false=>
  refine aaB ?_;simp[aaE,hv,hp,tw,fV,tq,Dk,iB,iC,iL,iE,te,q,q0,hr,cE,cM,cP];exact pG.same HM HG (zg (fun h=>by have:=h.2.1;rw[hr]at this;cases this)) (by simp only[cE,cM,cP])
 |true=>
 by_cases t0:0<=t
 case neg=>
  have po:t<0:=by omega
  refine aaB ?_;simp[aaE,hv,hp,tw,fV,tq,Dk,iB,iC,iL,iE,te,q,q0,hr,po,cE,cM,cP];exact pG.same HM HG (zg (fun h=>t0 h.2.2.1.1)) (by simp only[cE,cM,cP])
 have po: ¬t<0:=by omega
 by_cases t4:t<4
 case neg=>
  have pX:4<=t:=by omega
  refine aaB ?_;simp[aaE,hv,hp,tw,fV,tq,Dk,iB,iC,iL,iE,te,q,q0,hr,po,pX,cE,cM,cP];exact pG.same HM HG (zg (fun h=>t4 h.2.2.1.2)) (by simp only[cE,cM,cP])
 have pX: ¬4<=t:=by omega
 obtain⟨n,rfl⟩:=aaG t0;have n4:n<4:=by omega
 have nl:n<au.length:=by omega
 have nle:n<es.length:=by omega
 obtain⟨vR,OY⟩:=HM.ate n nle nl;simp only at OY;have rI:cg (aO.mk (Layout.mk aa aq) (aF.mk ak ah) au) n=au[n]:=iS nl;by_cases hs:(au[n]).state=3
 case neg=>
  refine aaB ?_;simp[aaE,hv,hp,tw,fV,tq,Dk,iB,iC,iL,iE,te,q,q0,hr,t0,po,t4,pX,n4,OY,hs,cE,cM,cP];exact pG.same HM HG (zg (fun h=>hs (by have:=h.2.2.2.1;rw[aaH,rI]at this;exact this))) (by simp only[cE,cM,cP])
 have oM:=eq_true hs;have hc:=wx (aD:=aa) (key:=aq) (an:=ae) hx.value;obtain⟨⟨ct,cv⟩,w,sM⟩: ∃c w,raw aa aq ae ⟨bO,bP,bA,bB⟩=(c,w):=⟨_,_,rfl⟩;simp only[sM]at hc;by_cases hw:w=0
 case neg=>
  refine aaB ?_;simp[aaE,hv,hp,tw,hL,fV,tq,Dk,iB,iC,iL,iE,te,q,q0,hr,t0,po,t4,pX,n4,OY,oM,sM,hw,cE,cM,cP];exact pG.same HM HG (zg (fun h=>hw (by have:=h.2.2.2.2;simp only[sM]at this;exact this))) (by simp only[cE,cM,cP])
 subst hw;obtain⟨v1,h1,k1,eC,ek,ev,HA,HB⟩:=EG aa aq ak ah au (k+50) (Prog.mk ax ae ay) _ MG;subst ek;subst ev;simp only[aaE,Nat.reduceAdd]at eC HA HB;have HP:=HA.pure;have pT:=HP.pg;have pR:=HP.GJ n nl;simp only at pT pR;have Ck:=fA (qW (k+168) (k+187) (k+206) (k+225)) au;rw[hl]at Ck;have gg:=fW (ids:=qW (k+168) (k+187) (k+206) (k+225)) nl;have IA:=(MG.pg n nl).bz;simp only at IA;have a1:=(HB.2.1 n n4).2;have a2:=(HP.qS n n4).2.2.1;obtain⟨I,hI⟩: ∃I,qW (k+168) (k+187) (k+206) (k+225) n=I:=⟨_,rfl⟩;rw[hI]at pR a1 a2;simp only[hI]at gg;have b1: ∀j,j<50-> ¬I=k+j:=fun j _=>by omega
 have b1': ∀j,j<50-> ¬k+j=I:=fun j _=>by omega
 have b2: ¬I=k+232:=a2;have b2': ¬k+232=I:=fun e=>a2 e.symm;have b3: ¬I<k+50:=by omega
 have b0: ¬I=k:=by omega
 have b0': ¬k=I:=by omega
 refine aaB ?_;simp[aaE,hv,hp,tw,hL,hl,fV,tq,Dk,iB,iC,iL,iE,te,q,q0,hr,t0,po,t4,pX,n4,OY,oM,sM,eC,ji,jH,B3,pT,pR,Ck,gg,IA,b1,b1',b2',b3,cE,cM,cP];have hR:wB (Prog.mk ax ae ay) (aO.mk (Layout.mk aa aq) (aF.mk ak ah) au) n (lL.mk (Canon.mk bO bP bA bB) cO cW gV)=(iZ (aO.mk (Layout.mk aa aq) (aF.mk ak ah) au) (aO.memory (aO.mk (Layout.mk aa aq) (aF.mk ak ah) au)) n (oU au[n] ⟨ct,cv⟩),true):=by
  rw[aem ⟨hv,hr,⟨t0,t4⟩,by rw[aaH,rI];exact hs,by simp only[sM]⟩];simp only[aaH,rI,sM]
 refine pG.new (m:=iZ (aO.mk (Layout.mk aa aq) (aF.mk ak ah) au) (aO.memory (aO.mk (Layout.mk aa aq) (aF.mk ak ah) au)) n (oU au[n] ⟨ct,cv⟩)) (HP.put HB (by omega) n4 ?_ ?_ ?_) (HB.less (by omega)) (uU HG (adO _) HG.mem HG.coh (G1 (HG.pg n nl) hc)) rfl hR ?_
 ·rw[<-iJ nl,xo _ _ _ _ IA,hI];simp[aR]
 ·rw[hI];have c5: ¬I=k+3:=by omega
  simp[aR,b2,c5,oU,Cell.bS]
 ·intro i hi1 En Bi xY;rw[hI]at xY;have c1: ¬i<k+50:=by omega
  have c2: ¬i=k+3:=by omega
  have c3: ¬i=k+48:=by omega
  simp[aR,c1,c2,c3,Bi,xY]
 ·simp only[cM];intro i hi;have c1:i<k+50:=by omega
  have c2: ∀j,¬i=k+j:=fun j=>by omega
  have c3: ¬i=k:=by omega
  have c4: ¬i=I:=by omega
  simp[aR,c1,c2,c3,c4]
def kg(p:Prog)(d:Int)(g:Option aO)(lay:Layout)(h:bh)(k b:Nat)(vB:V)(C L T:Nat)(ids bu:Nat->Nat)(v:V)(h':bh)(k':Nat):Prop:=
 ∃(bb:Bool) (iI kV:Nat->Nat) (m':aO),v= .bool bb/\dU h' k' b vB C L T iI kV m'/\db p d m'/\m'.layout=lay/\(g=bif bb then some m' else none)/\k<=k'/\(∀j,j<4->(iI j=ids j\/k<=iI j)/\(kV j=bu j\/k<=kV j))/\
  ∀i,i<k->i≠C->i≠L->i≠T->(∀j,j<4->i≠ids j/\i≠bu j)->h' i=h i
def kg.same(H:dU h k b vB C L T ids bu m)(HG:db p d m)(e:g=none)(hB:Below k h h'):kg p d g m.layout h k b vB C L T ids bu (.bool false) h' (k+n):=
 ⟨false,ids,bu,m,rfl,H.mono (by omega) hB,HG,rfl,e,by omega,fun _ _=>⟨.inl rfl,.inl rfl⟩,fun i hi _ _ _ _=>hB i hi⟩
def kg.put {p:Prog} {d:Int} {h h1:bh} {k b C L T n t:Nat} {vB:V} {ids bu:Nat->Nat} {m:aO} {g:Option aO} {x:Thread} {E R:List V} (H:dU h k b vB C L T ids bu m) (HG:db p d m) (eg:g=some (iZ m m.memory t x)) (hB:Below k h h1) (ht:t<4) (hx:eu d x)
  (hE:E=(cG bu m.threads).set t (dJ bu t x)) (hR:R=x.bz.map Cell.e):kg p d g m.layout h k b vB C L T ids bu (.bool true) (aR (aR h1 (bu t) (some ⟨2,R,false⟩)) T (some ⟨8,E,true⟩)) (k+n):=by
 have np:t<m.threads.length:=by rw[H.len];exact ht
 have hs:=(H.qS t ht).2.2.2.1;refine⟨true,ids,bu,iZ m m.memory t x,rfl,H.put (by omega) ht (by rw[hE,iJ np];simp[aR]) (by rw[hR];simp[aR,hs]) (fun i hi h1 h2=>by simp[aR,h1,h2];exact hB i hi),uU HG (adO _) HG.mem HG.coh hx,rfl,eg,by omega,fun _ _=>⟨.inl rfl,.inl rfl⟩,fun i hi _ _ hT hj=> ?_⟩;simp[aR,hT,(hj t ht).2];exact hB i hi
def kg.bao          {R:List V} {o:Option Ob} (H:dU h k b vB C L T ids bu m) (HG:db p d m) (eg:g=some (iZ m m.memory t x)) (hB:Below k h h1) (ht:t<4) (hx:eu d x)
  (hE:E=(cG bu m.threads).set t (dJ bu t x)) (hR:R=x.bz.map Cell.e):kg p d g m.layout h k b vB C L T ids bu (.bool true) (aR (aR (aR h1 T o) (bu t) (some ⟨2,R,false⟩)) T (some ⟨8,E,true⟩)) (k+n):=by
 have hs:=(H.qS t ht).2.2.2.1;have e:aR (aR (aR h1 T o) (bu t) (some ⟨2,R,false⟩)) T (some ⟨8,E,true⟩)=aR (aR h1 (bu t) (some ⟨2,R,false⟩)) T (some ⟨8,E,true⟩):=by
  funext i;simp only[aR];by_cases h1:i=T
  ·simp[h1]
  ·by_cases h2:i=bu t<;>simp[h1,h2]
 rw[e];exact kg.put H HG eg hB ht hx hE hR
def Lh{s:Nat}(hs:s<ts.length)(hn:n<ts.length)(ve: ¬s=n)(h: ∀j,¬j=s->kV j=bu j):cG kV ((ts.set s xs).set n xn)=((cG bu ts).set s (dJ kV s xs)).set n (dJ bu n xn):=by
 apply abA;intro j;simp only[cG,abV,abK,adM,aaN];by_cases Kp:n=j
 ·subst Kp;simp[hn,dJ,h n (fun e=>ve e.symm)]
 ·by_cases FI:s=j
  ·subst FI;simp[hs,Kp]
  ·simp only[Kp,FI,if_false];cases ts[j]? with
   |none=>rfl
   |some x=>simp[dJ,h j (fun e=>FI e.symm)]
def kg.TQ          (HI:dU h1 k1 b vB C L T uG bu mi) (GI:db p d mi) (e:g=none) (qn:mi.layout=lay) (hk:k<=k1) (gi: ∀j,j<4->uG j=ids j\/k<=uG j)
  (gf: ∀x,x<k->x≠C->x≠L->x≠T->(∀j,j<4->x≠ids j/\x≠bu j)->h1 x=h x) (hB:Below k1 h1 h2):kg p d g lay h k b vB C L T ids bu (.bool false) h2 (k1+n):=
 ⟨false,uG,bu,mi,rfl,HI.mono (by omega) hB,GI,qn,e,by omega,fun j hj=>⟨gi j hj,.inl rfl⟩,fun i hi a1 a2 a3 a4=>by rw[hB i (by omega),gf i hi a1 a2 a3 a4]⟩
def kg.bap           {R:List V} (HI:dU h1 k1 b vB C L T uG bu mi) (GI:db p d mi) (eg:g=some (iZ mi mi.memory t x)) (qn:mi.layout=lay) (hk:k<=k1) (gi: ∀j,j<4->uG j=ids j\/k<=uG j)
  (gf: ∀x,x<k->x≠C->x≠L->x≠T->(∀j,j<4->x≠ids j/\x≠bu j)->h1 x=h x) (hB:Below k1 h1 h2) (ht:t<4) (hx:eu d x) (hE:E=(cG bu mi.threads).set t (dJ bu t x)) (hR:R=x.bz.map Cell.e):
  kg p d g lay h k b vB C L T ids bu (.bool true) (aR (aR h2 (bu t) (some ⟨2,R,false⟩)) T (some ⟨8,E,true⟩)) (k1+n):=by
 have np:t<mi.threads.length:=by rw[HI.len];exact ht
 have hs:=(HI.qS t ht).2.2.2.1;refine⟨true,uG,bu,iZ mi mi.memory t x,rfl,HI.put (by omega) ht (by rw[hE,iJ np];simp[aR]) (by rw[hR];simp[aR,hs]) (fun i hi h1 h2=>by simp[aR,h1,h2];exact hB i hi),uU GI (adO _) GI.mem GI.coh hx,qn,eg,by omega,fun j hj=>⟨gi j hj,.inl rfl⟩,fun i hi a1 a2 a3 a4=> ?_⟩;simp[aR,a3,(a4 t ht).2];rw[hB i (by omega),gf i hi a1 a2 a3 a4]
def aes(p:Prog)(d:Int)(baq:aF)(lay:Layout)(h:bh)(k b:Nat)(vB:V)(C L T:Nat)(ids bu:Nat->Nat)(n:Nat)(ts:List Thread)(vP vR vX:V)(ct cv:Int)(data:List Canon)(rj:Nat)(o:Int)(i:Nat)(S:St):Prop:=
 ∃mi uG,(S.f 1= .ptr b 0 0/\S.f 4= .ptr k 0 0/\S.f 6= .ptr (k+1) 0 0/\S.f 7= .ptr (k+2) 0 0/\S.f 9= .ptr T n 0/\S.f 10= .ptr (k+24) 0 0/\S.f 12= .ptr (k+50) 0 0/\S.f 80= .sl false (data.map Canon.e)/\S.f 81= .int .i64 data.length/\S.f 82= .int .i64 (i:Int))/\
  (S.h k=some ⟨3,[vP],true⟩/\S.h (k+1)=some ⟨8,[vR],true⟩/\S.h (k+2)=some ⟨7,[vX],true⟩/\S.h (k+24)=some ⟨2,[KKo ct cv],true⟩/\S.h (k+50)=some ⟨2,[KKB (rj:Int) (o+i)],true⟩)/\
  dU S.h S.n b vB C L T uG bu mi/\db p d mi/\mi.layout=lay/\mi.threads=ts/\Cb lay.aD lay.key p.an rj o data baq=Cb lay.aD lay.key p.an rj (o+i) (data.drop i) mi.memory/\k+72<=S.n/\(∀j,j<4->uG j=ids j\/k+72<=uG j)/\ ∀x,x<k->x≠C->x≠L->x≠T->(∀j,j<4->x≠ids j/\x≠bu j)->S.h x=h x
@[simp]def alu(pc TS arg_val:Int)(k:Nat): ∃h',cL X 252 [.int .i64 pc,KKo TS arg_val] pP k=some ((KKd 1 (.cu (k+5) 0 8) pc 0 (-1) (-1) 0 0:V),h',k+18)/\h' (k+5)=some ⟨2,((⟨TS,arg_val⟩:Cell)::List.replicate 7 ⟨0,0⟩).map Cell.e,false⟩:=by
 refine FN Tryz.func252 rfl rfl ?_;simp[aaE,Cell.bS]
@[simp]def a1c(ax:List Instr)(ae:List Int)(ay:List (List Int))(m:V)(dg di cY cD gS cp:Int)(bf bT:List Canon)(bO bP bA bB:Int)(cO:List Canon)(cW:Int)(gV:Bool)(h:bh)(k b:Nat)(vB:V)(C L T:Nat)(ids bu:Nat->Nat)(mm:aO)(d:Int)(n:Nat)(H:dU h k b vB C L T ids bu mm)(HG:db (Prog.mk ax ae ay) d mm)(hd:d<=1099511627776)(hBB: ∃B,vB= .cu B 0 mm.layout.aD.length)(hn:dg=n/\n<4)(hs2:(cg mm n).state=2)(rO:0<=cp/\cp<=15)(jK:bf.length=(de cp).length)(Ir:hX bf)(hxr:sE (lL.mk (Canon.mk bO bP bA bB) cO cW gV)=true)(hx:xT (lL.mk (Canon.mk bO bP bA bB) cO cW gV)): ∃v h' k',cL X 198 [KKQ ax ae ay,.ptr b 0 0,KKZ dg di cY cD gS cp bf bT,KKb bO bP bA bB cO cW gV] h k=some (v,h',k')/\kg (Prog.mk ax ae ay) d (G4 (Prog.mk ax ae ay) mm n (Request.mk dg di cY cD gS cp bf bT) (lL.mk (Canon.mk bO bP bA bB) cO cW gV)) mm.layout h k b vB C L T ids bu v h' k':=by
 obtain⟨rfl,n4⟩:=hn;obtain⟨g,hgg⟩: ∃g,G4 (Prog.mk ax ae ay) mm n ⟨(n:Int),di,cY,cD,gS,cp,bf,bT⟩ (lL.mk (Canon.mk bO bP bA bB) cO cW gV)=g:=⟨_,rfl⟩;rw[hgg];have hl:=H.len;have np:n<mm.threads.length:=by omega
 have Cm:(n:Int)<4:=by omega
 have rI:=HG.pg n np;have hR:=H.GJ n np;have hg:=fW (ids:=bu) np;have hT:=H.pg;have jV:=fA bu mm.threads;rw[hl]at jV;have hb:=H.xJ;unfold jD at hb;rw[hl]at hb;have xU:cg mm n=mm.threads[n]:=iS np;obtain⟨x0,pO⟩: ∃x,mm.threads[n]=x:=⟨_,rfl⟩;rw[xU,pO]at hs2;rw[pO]at rI hR;simp only[pO]at hg;have h8:=rI.bz;obtain⟨s1,s3,s4,s5,s6⟩:=H.qS n n4;have Hv: ¬T=bu n:=fun e=>s5 e.symm;have s1': ¬b=bu n:=fun e=>s1 e.symm;obtain⟨u1,u2,u3,u4⟩:=H.xg;have u1': ¬b=T:=fun e=>u1 e.symm;have gY:=H.mem.lt;have q1: ∀j,¬b=k+j:=fun j=>by omega
 have q2: ∀j,¬T=k+j:=fun j=>by omega
 have q3: ∀j,¬bu n=k+j:=fun j=>by omega
 have q4: ∀j,¬k+j=b:=fun j=>by omega
 have q5: ∀j,¬k+j=T:=fun j=>by omega
 have q6: ∀j,¬k+j=bu n:=fun j=>by omega
 have l1: ∀j,T<k+j:=fun j=>by omega
 have l2: ∀j,bu n<k+j:=fun j=>by omega
 have l3: ∀j,b<k+j:=fun j=>by omega
 have pM: ¬b=k:=by omega
 have Se: ¬T=k:=by omega
 have q3z: ¬bu n=k:=by omega
 have hL:=HG.lay;have hlen:=hL.len;simp only at hL hlen;obtain⟨B,LG,EF,⟨nB1,nB2,az5,nB3,nBk⟩,nBi,nBr⟩: ∃B,vB= .cu B 0 mm.layout.aD.length/\h B=some ⟨1,mm.layout.aD.map (V.int .i64),false⟩/\(B≠b/\B≠C/\B≠L/\B≠T/\B<k)/\(∀j,j<4->ids j≠B)/\ ∀i,i<4->bu i≠B:=by
  rcases H.aD with e|e
  ·obtain⟨_,e2⟩:=hBB;rw[e]at e2;cases e2
  ·exact e
 subst LG;have nB: ∀j,¬B=k+j:=fun j=>by omega
 have Sf: ¬B=k:=by omega
 have Dk:cO.length<=1000000000:=by have:=hx.len;simp only at this;omega
 have hc:=wx (aD:=mm.layout.aD) (key:=mm.layout.key) (an:=ae) hx.value;obtain⟨⟨ct,cv⟩,w,sM⟩: ∃c w,raw mm.layout.aD mm.layout.key ae ⟨bO,bP,bA,bB⟩=(c,w):=⟨_,_,rfl⟩;simp only[sM]at hc;by_cases hw:w=0
 case neg=>
  refine aaB ?_;simp[aaE,hb,hT,Cm,hL,EF,nB,Sf,q1,q2,pM,Se,sM,hw];exact kg.same H HG (by rw[<-hgg];unfold G4;exact if_neg fun h=>hw (by simp only[sM]at h;exact h)) (by simp only[cE,cM,cP])
 subst hw;have hg0:G4 (Prog.mk ax ae ay) mm n ⟨(n:Int),di,cY,cD,gS,cp,bf,bT⟩ (lL.mk (Canon.mk bO bP bA bB) cO cW gV)=(zh (Prog.mk ax ae ay) mm ⟨(n:Int),di,cY,cD,gS,cp,bf,bT⟩ (lL.mk (Canon.mk bO bP bA bB) cO cW gV)).bind fun mem=>xV (Prog.mk ax ae ay) ⟨mm.layout,mem,mm.threads⟩ n ⟨ct,cv⟩ ⟨(n:Int),di,cY,cD,gS,cp,bf,bT⟩ (lL.mk (Canon.mk bO bP bA bB) cO cW gV):=by
  unfold G4;rw[if_pos (by simp only[sM])];simp only[sM]
 rw[hgg]at hg0;have Oj:zh (Prog.mk ax ae ay) mm ⟨(n:Int),di,cY,cD,gS,cp,bf,bT⟩ (lL.mk (Canon.mk bO bP bA bB) cO cW gV)=none->g=none:=fun h=>by rw[hg0,h];rfl
 have Ol: ∀mem:aF,cg (⟨mm.layout,mem,mm.threads⟩:aO) n=x0:=fun mem=>by
  rw[show cg (⟨mm.layout,mem,mm.threads⟩:aO) n=mm.threads[n] from iS np,pO]
 have b16:mC cp=2->cp=2\/cp=14:=fun h=>by
  rcases na rO with rfl|rfl|rfl|rfl|rfl|rfl|rfl|rfl|rfl|rfl|rfl|rfl|rfl|rfl|rfl|rfl<;>revert h<;>decide
 by_cases aet:mC cp=2/\0<(cO.length:Int)
 case pos=>
  have bar:=b16 aet.1;have a1e: ¬cp=12:=by omega
  have a1f: ¬cp=10:=by omega
  have Bh:=aet.1;have bqo:=aet.2;have WQ:0<cO.length:=by omega
  obtain⟨a0,⟨a1t,a1v,a1r,Hw⟩,a2,rfl⟩:=Rj (show bf.length=3 by rcases bar with rfl|rfl<;>exact jK);by_cases FJ:proper ae ⟨a1t,a1v,a1r,Hw⟩=true
  case neg=>
   refine aaB ?_;simp[aaE,hb,hT,Cm,hL,EF,nB,Sf,q1,q2,pM,Se,sM,Bh,WQ,FJ,Canon.bS];exact kg.same H HG (Oj (by unfold zh;rw[if_pos ⟨Bh,WQ⟩];exact if_neg fun h=>FJ h.1)) (by simp only[cE,cM,cP])
  by_cases Dr:a1t=1
  case neg=>
   refine aaB ?_;simp[aaE,hb,hT,Cm,hL,EF,nB,Sf,q1,q2,pM,Se,sM,Bh,WQ,FJ,Dr,Canon.bS];exact kg.same H HG (Oj (by unfold zh;rw[if_pos ⟨Bh,WQ⟩];exact if_neg fun h=>Dr h.2)) (by simp only[cE,cM,cP])
  have bas:(a1t=1)=True:=eq_true Dr;have bat:inside ae a1r Hw=true:=by
   have:=FJ;unfold proper at this;simp[Dr]at this;exact this.2
  obtain⟨rj,hrj,rfl,o1,o2⟩:=ld.1 bat;have hfm:zh (Prog.mk ax ae ay) mm ⟨(n:Int),di,cY,cD,gS,cp,[a0,⟨a1t,a1v,rj,Hw⟩,a2],bT⟩ (lL.mk (Canon.mk bO bP bA bB) cO cW gV)=Cb mm.layout.aD mm.layout.key ae (rj:Int) Hw cO mm.memory:=by
   unfold zh;rw[if_pos ⟨Bh,WQ⟩];exact if_pos ⟨FJ,Dr⟩
  have hge: ∀mi:aO,mi.layout=mm.layout->mi.threads=mm.threads->zh (Prog.mk ax ae ay) mm ⟨(n:Int),di,cY,cD,gS,cp,[a0,⟨a1t,a1v,rj,Hw⟩,a2],bT⟩ (lL.mk (Canon.mk bO bP bA bB) cO cW gV)=some mi.memory->g=some (iZ mi mi.memory n (oU x0 ⟨ct,cv⟩)):=fun mi e1 e2 e3=>by
   rw[hg0,e3];show xV _ _ _ _ _ _=_;unfold xV;rw[if_neg a1e,if_neg fun h=>a1f h.1,Ol];unfold iZ;simp only[e1,e2]
  have sY:=hL.sz.elem rj hrj;have pY:rj<mm.layout.aD.length:=by omega
  have Xr:=hL.base rj pY hrj;have a1h:=eq_true hlen;have hxd:=hx.len;simp only at hxd;have H8: ∀i (h:i<mm.layout.aD.length), -1000<=mm.layout.aD[i]/\mm.layout.aD[i]<=1000:=fun i hi=>by have:=hL.base i hi (by omega);have:=hL.sz.elem i (by omega);omega
  have hzz: ∀i (h:i<ae.length),ae[i]<=1000:=fun i hi=>by have:=hL.sz.elem i hi;omega
  refine aaB ?_;simp[aaE,hb,hT,Cm,hL,EF,nB,Sf,q1,q2,pM,Se,sM,Bh,WQ,FJ,bas,Canon.bS];refine lS (aes (Prog.mk ax ae ay) d mm.memory mm.layout h k b (.cu B 0 mm.layout.aD.length) C L T ids bu n mm.threads ((KKQ ax ae ay:V)) ((KKZ (n:Int) di cY cD gS cp [a0,(⟨a1t,a1v,rj,Hw⟩:Canon),a2] bT:V)) ((KKb bO bP bA bB cO cW gV:V)) ct cv cO rj Hw) cO.length ?_ 0 (by simp) ?_
  ·rintro i S hi ⟨mi,uG,⟨f1,f4,f6,f7,f9,f10,f12,f80,f81,f82⟩,⟨z0,z1,z2,z3,z4⟩,HI,GI,lay,pn,hfz,hK,gi0,gf⟩;have gi: ∀j,j<4->uG j=ids j\/k<=uG j:=fun j hj=>by rcases gi0 j hj with e|e;exact .inl e;exact .inr (by omega)
   have bx:=HI.xJ;unfold jD at bx;rw[lay,pn,hl]at bx;have tT:=HI.pg;rw[pn]at tT;have tR:=HI.GJ n (by rw[pn];exact np);simp only[pn,pO]at tR;have tB:S.h B=some ⟨1,mm.layout.aD.map (V.int .i64),false⟩:=by
    rcases HI.aD with e|⟨B',e,g,_⟩
    ·cases e
    ·simp only[V.cu.injEq]at e;obtain⟨rfl,_,_⟩:=e;rw[g,lay]
   have ah2:=HI.mem.lt;have m1: ∀j,¬b=S.n+j:=fun j=>by omega
   have m2: ∀j,¬T=S.n+j:=fun j=>by omega
   have m3: ∀j,¬bu n=S.n+j:=fun j=>by omega
   have m4: ∀j,¬B=S.n+j:=fun j=>by omega
   have m5: ∀a j,a<72-> ¬k+a=S.n+j:=fun a j ha=>by omega
   have m6: ∀j,¬k=S.n+j:=fun j=>by omega
   have m1z: ¬b=S.n:=by omega
   have m2z: ¬T=S.n:=by omega
   have m3z: ¬bu n=S.n:=by omega
   have m4z: ¬B=S.n:=by omega
   have m5z: ∀a,a<72-> ¬k+a=S.n:=fun a ha=>by omega
   have m6z: ¬k=S.n:=by omega
   by_cases gY:i<cO.length
   case neg=>
    obtain rfl:i=cO.length:=by omega
    simp[aaE,hg,jV,h8,n4,Hv,f6,f9,f10,f81,f82,z1,z3,tT,tR,a1e,a1f];refine kg.bap (x:=oU x0 ⟨ct,cv⟩) HI GI (hge mi lay pn (hfm.trans (hfz.trans (by rw[List.drop_length];rfl)))) lay (by omega) gi gf ?_ n4 (G1 rI hc) ?_ ?_
    ·simp only[cE]
    ·rw[pn,xo bu n x0 _ h8]
    ·simp[oU,Cell.bS]
   have bL:(i:Int)<cO.length:=by omega
   have Kk:=hfz;rw[acE gY]at Kk;obtain⟨⟨d1,d2,d3,d4⟩,s7⟩: ∃c,cO[i]=c:=⟨_,rfl⟩;have LH:C3 ⟨d1,d2,d3,d4⟩:=s7▸hx.data _ (aaL gY);have TB:=wx (aD:=mm.layout.aD) (key:=mm.layout.key) (an:=ae) LH;obtain⟨⟨Om,On⟩,w1,s9⟩: ∃c w,raw mm.layout.aD mm.layout.key ae ⟨d1,d2,d3,d4⟩=(c,w):=⟨_,_,rfl⟩;simp only[s9]at TB;by_cases tz:w1=0
   case neg=>
    simp[aaE,hL,m1,m4,m6,f1,f4,f80,f81,f82,z0,bx,tB,gY,bL,s7,s9,tz];exact kg.TQ HI GI (Oj (hfm.trans (Kk.trans (by rw[Ba];exact if_neg fun h=>tz (by have h1:=h.1;rw[s7,s9]at h1;exact h1))))) lay (by omega) gi gf (by simp only[cE,cM])
   subst tz;cases xy:inside ae (rj:Int) (Hw+i) with
   |false=>
    simp[aaE,hL,m1,m4,m5,m6,f1,f4,f12,f80,f81,f82,z0,z4,bx,tB,gY,bL,s7,s9,xy];exact kg.TQ HI GI (Oj (hfm.trans (Kk.trans (by rw[Ba];exact if_neg fun h=>by have h1:=h.2;rw[xy]at h1;cases h1)))) lay (by omega) gi gf (by simp only[cE,cM])
   |true=>
    obtain⟨rj',bau,e1,o3,o4⟩:=ld.1 xy;obtain rfl:rj=rj':=by omega
    have hwo:IntKind.i64.wrap (Hw+i+1)=Hw+i+1:=wrap_i64 (by omega);have ie:=nd i (by omega);obtain⟨av,alv⟩: ∃av:Nat,nth mm.layout.aD rj+(Hw+i)=av:=⟨(nth mm.layout.aD rj+(Hw+i)).toNat,by rw[dC pY];omega⟩;have at1:av<512:=by rw[dC pY]at alv;omega
    have lf: ∀(h1:bh) (j:Nat),Below S.n S.h h1->cL X 251 [.ptr b 0 2,(av:Int),KKo Om On] h1 (S.n+j)=some (.dM [],cH 251 [.ptr b 0 2,(av:Int),KKo Om On] h1 (S.n+j),cK 251 [.ptr b 0 2,(av:Int),KKo Om On] h1 (S.n+j))/\
      ∃iv,dU (cH 251 [.ptr b 0 2,(av:Int),KKo Om On] h1 (S.n+j)) (cK 251 [.ptr b 0 2,(av:Int),KKo Om On] h1 (S.n+j)) b (.cu B 0 mm.layout.aD.length) C L T iv bu ⟨mi.layout,mE mi.memory av ⟨Om,On⟩,mi.threads⟩/\S.n+j<=cK 251 [.ptr b 0 2,(av:Int),KKo Om On] h1 (S.n+j)/\(∀j,j<4->iv j=uG j\/S.n<=iv j)/\
       ∀x,x<S.n+j->x≠C->x≠L->(∀j,j<4->x≠uG j)->cH 251 [.ptr b 0 2,(av:Int),KKo Om On] h1 (S.n+j) x=h1 x:=fun h1 j ju=>by
     have HH:dU h1 (S.n+j) b (.cu B 0 mm.layout.aD.length) C L T uG bu mi:=HI.mono (by omega) ju;obtain⟨h',k',iI,e,G,g1,g2,g3⟩:=Tv .bad 0 Om On h1 (S.n+j) b C L uG _ _ _ mi.memory av ⟨Om,On⟩ HH.mem at1 TB.oG;have e:cL X 251 [.ptr b 0 2,(av:Int),KKo Om On] h1 (S.n+j)=some (.dM [],h',k'):=e;obtain⟨e1,e2⟩:=xK e;rw[e1,e2];exact⟨e,iI,HH.memory g1 G g2 g3,g1,fun j hj=>by rcases g2 j hj with e|e;exact .inl e;exact .inr (by omega),g3⟩
    have hfn:Cb mm.layout.aD mm.layout.key ae (rj:Int) Hw cO mm.memory=Cb mm.layout.aD mm.layout.key ae (rj:Int) (Hw+((i+1:Nat):Int)) (cO.drop (i+1)) (mE mi.memory av ⟨Om,On⟩):=by
     rw[Kk,Ba,s7,s9,if_pos ⟨rfl,xy⟩,aaH,alv,aaH,show Hw+((i+1:Nat):Int)=Hw+i+1 by omega]
    have cl:=fun h1 j ju=>(lf h1 j ju).1;have nI: ∀a,a<72-> ∀j,j<4-> ¬k+a=uG j:=fun a ha j hj=>by
     rcases gi0 j hj with e|e
     ·have:=H.mem.lt.2.2.2 j hj;omega
     ·omega
    have l50: ∀(h1:bh) (j:Nat),Below S.n S.h h1->cH 251 [.ptr b 0 2,(av:Int),KKo Om On] h1 (S.n+j) (k+50)=some ⟨2,[KKB (rj:Int) (Hw+i)],true⟩:=fun h1 j ju=>by
     obtain⟨_,_,_,_,_,g⟩:=lf h1 j ju;rw[g (k+50) (by omega) (by omega) (by omega) (nI 50 (by omega)),ju _ (by omega),z4]
    simp[aaE,hL,a1h,H8,hzz,m1,m4,m5,m6,cE,cM,f1,f4,f12,f80,f81,f82,z0,z4,bx,tB,gY,bL,s7,s9,xy,alv,hwo,ie,cl,l50];have fin: ∀(F:Nat->V) (Hc:bh),Below S.n S.h Hc->(F 1= .ptr b 0 0/\F 4= .ptr k 0 0/\F 6= .ptr (k+1) 0 0/\F 7= .ptr (k+2) 0 0/\F 9= .ptr T n 0/\F 10= .ptr (k+24) 0 0/\F 12= .ptr (k+50) 0 0/\F 80=cO/\F 81= .int .i64 cO.length/\F 82= .int .i64 ((i:Int)+1))->
      aes (Prog.mk ax ae ay) d mm.memory mm.layout h k b (.cu B 0 mm.layout.aD.length) C L T ids bu n mm.threads ((KKQ ax ae ay:V)) ((KKZ (n:Int) di cY cD gS cp [a0,(⟨a1t,a1v,rj,Hw⟩:Canon),a2] bT:V)) ((KKb bO bP bA bB cO cW gV:V)) ct cv cO rj Hw (i+1) ⟨F,aR (cH 251 [.ptr b 0 2,(av:Int),KKo Om On] Hc (S.n+47)) (k+50) (some ⟨2,[KKB (rj:Int) (Hw+i+1)],true⟩),cK 251 [.ptr b 0 2,(av:Int),KKo Om On] Hc (S.n+47)+7⟩:=fun F Hc hB fF=>by
     obtain⟨_,iv,G,g1,g2,g3⟩:=lf Hc 47 hB;have fr: ∀x,x<S.n->x≠C->x≠L->(∀j,j<4->x≠uG j)->cH 251 [.ptr b 0 2,(av:Int),KKo Om On] Hc (S.n+47) x=S.h x:=fun x hx1 hx2 XY hx4=>by rw[g3 x (by omega) hx2 XY hx4,hB x hx1]
     have nC:=H.mem.lt;have hi1: ∀j,j<4->iv j=ids j\/k+72<=iv j:=fun j hj=>by
      rcases g2 j hj with e|e
      ·rw[e];exact gi0 j hj
      ·right;omega
     refine⟨⟨mi.layout,mE mi.memory av ⟨Om,On⟩,mi.threads⟩,iv,fF,⟨?_,?_,?_,?_,?_⟩,?_,⟨GI.prog,GI.lay,GI.key,GI.mem.store at1 TB,GI.len,GI.pg,fun g=>JD GI.mem.mem (GI.coh g) at1 (by unfold Gu;rw[<-alv,<-lay,dC (by rw[lay];exact pY)];rw[Gx GI.lay (by rw[lay];exact pY) bau o3 o4];simp) _⟩,lay,pn,hfn,by simp only;omega,hi1,?_⟩
     ·have:=fr k (by omega) (by omega) (by omega) (fun j hj=>by have:=nI 0 (by omega) j hj;simpa using this);simp[aR,this,z0]
     ·have:=fr (k+1) (by omega) (by omega) (by omega) (nI 1 (by omega));simp[aR,this,z1]
     ·have:=fr (k+2) (by omega) (by omega) (by omega) (nI 2 (by omega));simp[aR,this,z2]
     ·have:=fr (k+24) (by omega) (by omega) (by omega) (nI 24 (by omega));simp[aR,this,z3]
     ·have e:Hw+(i:Int)+1=Hw+((i+1:Nat):Int):=by omega
      simp[aR,e]
     ·refine G.other (a:=k+50) (adW _ _) ⟨by omega,by omega,by omega,by omega⟩ (fun j hj=>⟨?_,?_⟩) (fun B' s n e=> ?_) (fun x _ hx=>by simp[aR,hx])
      ·rcases hi1 j hj with e|e
       ·have:=nC.2.2.2 j hj;omega
       ·omega
      ·have:=(H.qS j hj).2.2.2.2;omega
      ·cases e;omega
     ·intro x hx1 hx2 XY hx4 hx5;have hx6: ¬x=k+50:=by omega
      simp only[aR,hx6,if_false];rw[fr x (by omega) hx2 XY (fun j hj=> ?_),gf x hx1 hx2 XY hx4 hx5];rcases gi0 j hj with e|e
      ·rw[e];exact(hx5 j hj).1
      ·omega
    refine fin _ _ ?_ ?_
    ·simp only[cE,cM]
    ·simp[aR,f1,f4,f6,f7,f9,f10,f12,f80,f81]
  ·refine⟨mm,ids,?_,?_,?_,HG,rfl,rfl,by simp,?_,fun _ _=> .inl rfl,?_⟩
   ·simp[aR]
   ·simp[aR,Canon.bS]
   ·refine H.mono (by simp only;omega) ?_;show Below k h _;simp only[cE,cM,cP]
   ·simp only;omega
   ·intro x hx _ _ _ _;have e: ∀H:bh,Below k h H->H x=h x:=fun H hB=>hB x hx;refine e _ ?_;simp only[cE,cM,cP]
 have hgq: ∀{g2:Option aO},xV (Prog.mk ax ae ay) mm n ⟨ct,cv⟩ ⟨(n:Int),di,cY,cD,gS,cp,bf,bT⟩ (lL.mk (Canon.mk bO bP bA bB) cO cW gV)=g2->g=g2:=fun e=>by
  rw[hg0,show zh (Prog.mk ax ae ay) mm ⟨(n:Int),di,cY,cD,gS,cp,bf,bT⟩ (lL.mk (Canon.mk bO bP bA bB) cO cW gV)=some mm.memory by unfold zh;exact if_neg fun h=>aet ⟨h.1,by have:=h.2;simp only at this;omega⟩];exact e
 have hT1: ∀(c:Cell) (a:Int),dJ bu n (Ca x0 c a)= (KKd 1 (.cu (bu n) 0 8) x0.pc x0.count a x0.saved x0.dn x0.code:V):=fun c a=>Lf bu n x0 c a h8;by_cases Hu:cp=12
 ·subst Hu;have at2: ¬mC 12=2:=by decide
  obtain⟨⟨at_,av,ar,ao⟩,rfl⟩:=Rh (show bf.length=1 from jK);have Li:=Ir _ (acQ);have JO:IntKind.i64.wrap av=av:=wrap_i64 (by have:=Li.2;have:=Li.1;simp only at*;omega);by_cases ha:255<av
  ·refine aaB ?_;simp[aaE,hb,hT,Cm,hL,EF,nB,Sf,q1,q2,pM,Se,sM,at2,JO,ha];exact kg.same H HG (hgq (by unfold xV;rw[if_pos rfl];exact if_neg fun h=>by have h2:=h.2;simp only[vz,acC]at h2;omega)) (by simp only[cE,cM,cP])
  by_cases OX:at_=0
  case neg=>
   refine aaB ?_;simp[aaE,hb,hT,Cm,hL,EF,nB,Sf,q1,q2,pM,Se,sM,at2,JO,ha,OX];exact kg.same H HG (hgq (by unfold xV;rw[if_pos rfl];exact if_neg fun h=>OX h.1)) (by simp only[cE,cM,cP])
  have at3:=eq_true OX;refine aaB ?_;simp[aaE,hb,hT,hR,hg,jV,h8,n4,Cm,hL,EF,nB,Sf,s5,Hv,q1,q2,q3,q5,pM,Se,q3z,sM,at2,JO,ha,at3];refine kg.bao (x:=Ca x0 ⟨ct,cv⟩ av) H HG (hgq (by unfold xV;rw[if_pos rfl,if_pos ⟨OX,by simp only[vz,acC];omega⟩,Ol];rfl)) ?_ n4 (aek rI hc (by have:=Li.1;simp only at this;omega)) ?_ ?_
  ·simp only[cE,cM,cP]
  ·rw[hT1]
  ·simp[Ca,Cell.bS]
 have hxw:=G1 rI hc;have hT2: ∀(c:Cell),dJ bu n (oU x0 c)= (KKd 1 (.cu (bu n) 0 8) x0.pc x0.count x0.cn x0.saved x0.dn x0.code:V):=fun c=>xo bu n x0 c h8;by_cases CO:cp=10
 case neg=>
  by_cases D4:mC cp=2
  case neg=>
   refine aaB ?_;simp[aaE,hb,hT,hR,hg,jV,h8,n4,Cm,hL,EF,nB,Sf,Hv,q1,q2,q3,pM,Se,q3z,sM,D4,Hu,CO];refine kg.put (x:=oU x0 ⟨ct,cv⟩) H HG (hgq (by unfold xV;rw[if_neg Hu,if_neg fun h=>CO h.1,Ol])) ?_ n4 hxw ?_ ?_
   ·simp only[cE,cM,cP]
   ·rw[hT2]
   ·simp[oU,Cell.bS]
  have Hr: ¬0<cO.length:=fun h=>aet ⟨D4,by omega⟩;have bqt: ¬0<(cO.length:Int):=by omega
  refine aaB ?_;simp[aaE,hb,hT,hR,hg,jV,h8,n4,Cm,hL,EF,nB,Sf,Hv,q1,q2,q3,pM,Se,q3z,sM,D4,Hr,Hu,CO];refine kg.put (x:=oU x0 ⟨ct,cv⟩) H HG (hgq (by unfold xV;rw[if_neg Hu,if_neg fun h=>CO h.1,Ol])) ?_ n4 hxw ?_ ?_
  ·simp only[cE,cM,cP]
  ·rw[hT2]
  ·simp[oU,Cell.bS]
 subst CO;have WR: ¬mC 10=2:=by decide
 by_cases zy:0<=cW
 case neg=>
  refine aaB ?_;simp[aaE,hb,hT,hR,hg,jV,h8,n4,Cm,hL,EF,nB,Sf,Hv,q1,q2,q3,pM,Se,q3z,sM,WR,zy];refine kg.put (x:=oU x0 ⟨ct,cv⟩) H HG (hgq (by unfold xV;rw[if_neg (show¬(10:Int)=12 by decide),if_neg fun h=>zy h.2,Ol])) ?_ n4 hxw ?_ ?_
  ·simp only[cE,cM,cP]
  ·rw[hT2]
  ·simp[oU,Cell.bS]
 obtain⟨s,rfl⟩:=aaG zy;have sp4:s<4:=by
  unfold sE at hxr;simp only[aaF,decide_eq_true_eq]at hxr;omega
 have alw:(s:Int)<4:=by omega
 have stl:s<mm.threads.length:=by omega
 have hgs:=fW (ids:=bu) stl;obtain⟨⟨at_,av,ar,ao⟩,⟨bt,bv,br,bo⟩,rfl⟩:=Ri (show bf.length=2 from jK);have Li:=Ir _ (acQ);have bax:=Ir ⟨bt,bv,br,bo⟩ (by simp);have Er:=wx (aD:=mm.layout.aD) (key:=mm.layout.key) (an:=ae) bax;obtain⟨⟨et,ev⟩,w1,s9⟩: ∃c w,raw mm.layout.aD mm.layout.key ae ⟨bt,bv,br,bo⟩=(c,w):=⟨_,_,rfl⟩;simp only[s9]at Er;have JO:IntKind.i64.wrap av=av:=wrap_i64 (by have:=Li.2;have:=Li.1;simp only at*;omega);by_cases tz:w1=0
 case neg=>
  refine aaB ?_;simp[aaE,hb,hT,Cm,hL,EF,nB,Sf,q1,q2,pM,Se,sM,WR,s9,tz];exact kg.same H HG (hgq (by unfold xV;rw[if_neg (show¬(10:Int)=12 by decide),if_pos ⟨rfl,zy⟩];exact if_neg fun h=>tz (by have h1:=h.1;simp only[vz,aeD,acC,s9]at h1;exact h1))) (by simp only[cE,cM,cP])
 subst tz;by_cases JY:(mm.threads[s]).state=0
 case neg=>
  refine aaB ?_;simp[aaE,hb,hT,jV,Cm,hL,EF,nB,Sf,q1,q2,pM,Se,sM,WR,s9,hgs,sp4,alw,JY];exact kg.same H HG (hgq (by unfold xV;rw[if_neg (show¬(10:Int)=12 by decide),if_pos ⟨rfl,zy⟩];exact if_neg fun h=>JY (by have h1:=h.2.1;simp only[aaH]at h1;rw[show cg (⟨mm.layout,mm.memory,mm.threads⟩:aO) s=mm.threads[s] from iS stl]at h1;exact h1))) (by simp only[cE,cM,cP])
 have Sg:=eq_true JY;by_cases ha:255<av
 ·refine aaB ?_;simp[aaE,hb,hT,jV,Cm,hL,EF,nB,Sf,q1,q2,pM,Se,sM,WR,s9,JO,hgs,sp4,alw,Sg,ha];exact kg.same H HG (hgq (by unfold xV;rw[if_neg (show¬(10:Int)=12 by decide),if_pos ⟨rfl,zy⟩];exact if_neg fun h=>by have h2:=h.2.2.1;simp only[vz,acC]at h2;omega)) (by simp only[cE,cM,cP])
 by_cases OX:at_=0
 case neg=>
  refine aaB ?_;simp[aaE,hb,hT,jV,Cm,hL,EF,nB,Sf,q1,q2,pM,Se,sM,WR,s9,JO,hgs,sp4,alw,Sg,ha,OX];exact kg.same H HG (hgq (by unfold xV;rw[if_neg (show¬(10:Int)=12 by decide),if_pos ⟨rfl,zy⟩];exact if_neg fun h=>OX h.2.2.2)) (by simp only[cE,cM,cP])
 have at3:=eq_true OX;have ve: ¬s=n:=fun e=>by subst e;rw[pO]at JY;rw[JY]at hs2;cases hs2
 have a1i: ¬n=s:=fun e=>ve e.symm;obtain⟨hN,eN,fN⟩:=alu av et ev (k+114);simp only[aaE,Nat.reduceAdd]at eN fN;refine aaB ?_;simp[aaE,hb,hT,hR,hg,jV,h8,n4,Cm,hL,EF,nB,Sf,s5,Hv,q1,q2,q3,q5,pM,Se,q3z,l1,l2,l3,sM,WR,s9,JO,hgs,sp4,alw,Sg,ha,at3,ve,eN];have O7:0<=d:=by have:=rI.count;omega
 have a1j:0<=av/\av<=255:=by have:=Li.1;simp only at this;omega
 refine⟨true,ids,fun i=>if i=s then k+119 else bu i,⟨mm.layout,mm.memory,(mm.threads.set s (Ek av ⟨et,ev⟩)).set n (oU x0 ⟨ct,cv⟩)⟩,rfl,H.threads (by omega) (by simp[hl]) ?_ ?_ ?_ ?_ ?_,?_,rfl,hgq (by unfold xV;rw[if_neg (show¬(10:Int)=12 by decide),if_pos ⟨rfl,zy⟩,if_pos ⟨by simp only[vz,aeD,acC,s9],by simp only[aaH];rw[iS stl];exact JY,by simp only[vz,acC];omega,OX⟩,Ol mm.memory];simp only[vz,aeD,acC,s9,aaH];rfl),by omega,fun j _=>⟨.inl rfl,?_⟩,?_⟩
 ·rw[Lh (bu:=bu) stl np ve (fun j hj=>if_neg hj),hT2];simp[aR,dJ,Ek]
 ·intro i hi;simp only[aaN]at hi;simp only[abk];by_cases xy:n=i
  ·subst xy;simp[aR,a1i,s5,oU,Cell.bS]
  ·by_cases TT:s=i
   ·subst TT;have c1: ¬k+119=T:=by omega
    have c2: ¬k+119=bu n:=by omega
    simp[aR,a1i,c1,c2,fN,Ek]
   ·have c1:=H.qS i (by omega);have c2:=H.JL i n (by omega) n4 (fun e=>xy e.symm);have c3:bu i<k+114:=by omega
    have c4: ¬bu i=k+64:=by omega
    have c5: ¬bu i=k+24:=by omega
    have c6: ¬bu i=k+2:=by omega
    have c7: ¬bu i=k+1:=by omega
    have c8: ¬bu i=k:=by omega
    have c9: ¬i=s:=fun e=>TT e.symm;simp[aR,xy,TT,c9,c1.2.2.2.1,c2,c3,c4,c5,c6,c7,c8,H.GJ i hi]
 ·intro i hi;by_cases TT:i=s
  ·right;simp[TT]
  ·left;simp[TT]
 ·intro i j hi hj mz;have a1:=(H.qS i hi).2.2.2.2;have a2:=(H.qS j hj).2.2.2.2;by_cases TT:i=s
  ·have FI: ¬j=s:=fun e=>mz (TT.trans e.symm);simp only[TT,FI,if_true,if_false];omega
  ·by_cases FI:j=s
   ·simp only[TT,FI,if_true,if_false];omega
   ·simp only[TT,FI,if_false];exact H.JL i j hi hj mz
 ·intro i hi Ws mz;have c3:i<k+114:=by omega
  have c4: ¬i=k+64:=by omega
  have c5: ¬i=k+24:=by omega
  have c6: ¬i=k+2:=by omega
  have c7: ¬i=k+1:=by omega
  have c8: ¬i=k:=by omega
  have c9:=mz n n4;simp[aR,Ws,c3,c4,c5,c6,c7,c8,c9]
 ·refine⟨HG.prog,HG.lay,HG.key,HG.mem,by simp[hl],fun i hi=> ?_,HG.coh⟩;simp only[aaN]at hi;simp only[abk];split
  ·exact hxw
  ·split
   ·exact alk O7 a1j Er
   ·exact HG.pg i hi
 ·by_cases TT:j=s
  ·right;simp[TT]
  ·left;simp[TT]
 ·intro i hi hiC hiL Ws mz;have c3:i<k+114:=by omega
  have c4: ¬i=k+64:=by omega
  have c5: ¬i=k+24:=by omega
  have c6: ¬i=k+2:=by omega
  have c7: ¬i=k+1:=by omega
  have c8: ¬i=k:=by omega
  have c9:=(mz n n4).2;simp[aR,Ws,c3,c4,c5,c6,c7,c8,c9]
noncomputable def cB(g:FuncId)(args:List V)(h:bh)(k:Nat):Bool:=match cL X g args h k with|some (.bool b,_,_)=>b|_=>false
def a1k{g:FuncId}{b:Bool}(e:cL X g args h k=some (.bool b,h',k')):cB g args h k=b:=by
 unfold cB;rw[e]
def pG.TQ(HM:kJ h k S T vB vC vL es m)(HG:db p d m)(e:r=(m,false))(hB:Below k h h')(hk:k<=k'):
  pG p d r h k S (.dM [KKD vB m.layout.key vC vL (.cu T 0 4),.bool false]) h' k':=by
 subst e;exact⟨S,T,vB,vC,vL,es,rfl,HM.mono hk fun i hi=>hB i (HM.lt i hi),HG,hk,hB,fun i hi=> .inl hi⟩
def pG.bay(H:gW h' k' vB C L T ids bu m)(HA:oT k vB C L T ids bu)(HG:db p d m)(hl:key=m.layout.key)(e:r=(m,true))(hB:Below k h h')(hk:k<=k'):
  pG p d r h k S (.dM [KKD vB key (.cu C 0 512) (.cu L 0 4) (.cu T 0 4),.bool true]) h' k':=by
 subst e hl;exact⟨_,T,vB,_,_,_,rfl,.deep H,HG,hk,hB,fun i hi=> .inr (WA.N2 HA i hi)⟩
def Lj(hn:n<ts.length)(h: ∀j,¬j=n->kV j=bu j):cG kV (ts.set n xn)=(cG bu ts).set n (dJ kV n xn):=by
 apply abA;intro j;simp only[cG,abV,abK,adM];by_cases Kp:n=j
 ·subst Kp;simp[hn]
 ·simp only[Kp,if_false];cases ts[j]? with
  |none=>rfl
  |some x=>simp[dJ,h j (fun e=>Kp e.symm)]
@[simp]def a1l(iu:Int)(cN:List Cell)(jQ dQ cX dS jw jx dn code:Int)(k:Nat)(hm:cN.length<=1000000000): ∃h',cL X 195 [KKg iu cN jQ dQ cX dS jw jx,.int .i64 dn,.int .u16 code] pP k=some ((KKd 4 (.cu (k+10) 0 cN.length) jQ dQ cX dS dn code:V),h',k+25)/\h' (k+10)=some ⟨2,cN.map Cell.e,false⟩:=by
 obtain⟨h1,e1,e2⟩:=Nf iu cN jQ dQ cX dS jw jx (k+6) hm;simp only[aaE,Nat.reduceAdd]at e1 e2;obtain⟨v,h',n',e,f1,f2,f3⟩:=bC (X:=X) (g:=195) (args:=[(KKg iu cN jQ dQ cX dS jw jx:V),.int .i64 dn,.int .u16 code]) (h:=pP) (k:=k) (K:=fun v h n=>v= (KKd 4 (.cu (k+10) 0 cN.length) jQ dQ cX dS dn code:V)/\n=k+25/\h (k+10)=some ⟨2,cN.map Cell.e,false⟩) Tryz.func195 rfl rfl (by
  simp[aaE,e1,e2])
 subst f1;subst f2;exact⟨h',e,f3⟩
@[simp]def aev(ax:List Instr)(ae:List Int)(ay:List (List Int))(aa:List Int)(aq:Int)(ak:List Cell)(ah:List cy)(au:List Thread)(dg di cY cD gS cp:Int)(bf bT:List Canon)(bO bP bA bB:Int)(cO:List Canon)(cW:Int)(gV:Bool)(h:bh)(k:Nat)(S:Nat->Prop)(T:Nat)(vB vC vL:V)(es:List V)(d:Int)(HM:kJ h k S T vB vC vL es (aO.mk (Layout.mk aa aq) (aF.mk ak ah) au))(HG:db (Prog.mk ax ae ay) d (aO.mk (Layout.mk aa aq) (aF.mk ak ah) au))(hd:d<=1099511627776)(Fu:bf.length<=1000000000)(hrd:bT.length<=1000000000)(Ir:hX bf)(hx:xT (lL.mk (Canon.mk bO bP bA bB) cO cW gV)): ∃v h' k',cL X 119 [KKQ ax ae ay,KKD vB aq vC vL (.cu T 0 4),KKZ dg di cY cD gS cp bf bT,KKb bO bP bA bB cO cW gV] h k=some (v,h',k')/\pG (Prog.mk ax ae ay) d (Bb (Prog.mk ax ae ay) (aO.mk (Layout.mk aa aq) (aF.mk ak ah) au) (Request.mk dg di cY cD gS cp bf bT) (lL.mk (Canon.mk bO bP bA bB) cO cW gV)) h k S v h' k':=by
 have MG:=HG.mono hd;have hv:jU (Prog.mk ax ae ay) (aO.mk (Layout.mk aa aq) (aF.mk ak ah) au)=true:=MG.ok;have hp:=HG.prog.lens;have tw:=HG.lens;have hL:=HG.lay;have fV:=HM.row;have tq:=HM.len;have hl:au.length=4:=HM.ak0;have hkT:=HM.lt T HM.adu;have Dk:cO.length<=1000000000:=by have:=hx.len;simp only at this;omega
 have iB: ∀H,Below k h H->cx H 11 vB=some (.sl false (aa.map (V.int .i64))):=fun H hB=>(HM.ed H (fun i hi _=>hB i (HM.lt i hi)) 8).1;have iC: ∀H,Below k h H->cx H 11 vC=some (.sl false (ak.map Cell.e)):=fun H hB=>(HM.ed H (fun i hi _=>hB i (HM.lt i hi)) 8).2.1;have iL: ∀H,Below k h H->cx H 11 vL=some (.sl false (ah.map cy.e)):=fun H hB=>(HM.ed H (fun i hi _=>hB i (HM.lt i hi)) 8).2.2.1;have iE: ∀H,Below k h H->cF (es.map (cx H 10))=some (au.map Thread.e):=fun H hB=>(HM.ed H (fun i hi _=>hB i (HM.lt i hi)) 7).2.2.2;have te:=aej tq;have q: ∀j,¬T=k+j:=fun j=>by omega
 have q0: ¬T=k:=by omega
 cases hrq:lh (Request.mk dg di cY cD gS cp bf bT) with
 |false=>
  refine aaB ?_;simp[aaE,hv,hp,tw,fV,tq,Fu,hrd,iB,iC,iL,iE,te,q,q0,cE,cM,cP,hrq];exact pG.same HM HG (Cc (fun h=>by have h1:=h.2.1;rw[hrq]at h1;cases h1)) (by simp only[cE,cM,cP])
 |true=>
 have at4:=hrq;unfold lh at at4;simp only[aaF,decide_eq_true_eq]at at4;obtain⟨th0,th4,_,_,_,_,_,_,_,_,ca0,baz,_,_,_,_⟩:=at4;by_cases kD:di=1
 case neg=>
  refine aaB ?_;simp[aaE,hv,hp,tw,fV,tq,Fu,hrd,iB,iC,iL,iE,te,q,q0,cE,cM,cP,hrq,kD];exact pG.same HM HG (Cc (fun h=>kD h.2.2.1)) (by simp only[cE,cM,cP])
 have yk:=eq_true kD;by_cases har:(bf.length:Int)=uS cp
 case neg=>
  refine aaB ?_;simp[aaE,hv,hp,tw,fV,tq,Fu,hrd,iB,iC,iL,iE,te,q,q0,cE,cM,cP,hrq,yk,har];exact pG.same HM HG (Cc (fun h=>har h.2.2.2.1)) (by simp only[cE,cM,cP])
 have aex:=eq_true har;have jK:bf.length=(de cp).length:=by
  unfold uS at har;rw[if_neg (by omega)]at har;omega
 cases hr:sE (lL.mk (Canon.mk bO bP bA bB) cO cW gV) with
 |false=>
  refine aaB ?_;simp[aaE,hv,hp,tw,fV,tq,Dk,Fu,hrd,iB,iC,iL,iE,te,q,q0,cE,cM,cP,hrq,yk,aex,hr];exact pG.same HM HG (Cc (fun h=>by have h1:=h.2.2.2.2.1;rw[hr]at h1;cases h1)) (by simp only[cE,cM,cP])
 |true=>
 obtain⟨n,rfl⟩:=aaG th0;have n4:n<4:=by omega
 have Cm:(n:Int)<4:=by omega
 have nl:n<au.length:=by omega
 have nle:n<es.length:=by omega
 obtain⟨vR,OY⟩:=HM.ate n nle nl;simp only at OY;have rI:cg (aO.mk (Layout.mk aa aq) (aF.mk ak ah) au) n=au[n]:=iS nl;by_cases hs:(au[n]).state=2
 case neg=>
  refine aaB ?_;simp[aaE,hv,hp,tw,fV,tq,Dk,Fu,hrd,iB,iC,iL,iE,te,q,q0,cE,cM,cP,hrq,yk,aex,hr,n4,Cm,OY,hs];exact pG.same HM HG (Cc (fun h=>hs (by have h1:=h.2.2.2.2.2;simp only[aaH]at h1;rw[rI]at h1;exact h1))) (by simp only[cE,cM,cP])
 have oM:=eq_true hs;have at5:Og (Prog.mk ax ae ay) (aO.mk (Layout.mk aa aq) (aF.mk ak ah) au) ⟨n,di,cY,cD,gS,cp,bf,bT⟩ (lL.mk (Canon.mk bO bP bA bB) cO cW gV):=⟨hv,hrq,kD,har,hr,by simp only[aaH];rw[rI];exact hs⟩;obtain⟨v1,h1,k1,eC,ek,ev,HA,HB⟩:=EG aa aq ak ah au (k+48) (Prog.mk ax ae ay) _ MG;subst ek;subst ev;simp only[aaE,Nat.reduceAdd]at eC HA HB;have HP:=HA.pure;have pT:=HP.pg;have pR:=HP.GJ n nl;simp only at pT pR;have Ck:=fA (qW (k+166) (k+185) (k+204) (k+223)) au;rw[hl]at Ck;have gg:=fW (ids:=(qW (k+166) (k+185) (k+204) (k+223))) nl;have IA:=(MG.pg n nl).bz;simp only at IA;have a1:=(HB.2.1 n n4).2;have a2:=(HP.qS n n4).2.2.1;have a3:=(HP.qS n n4).2.2.2;obtain⟨I,hI⟩: ∃I,(qW (k+166) (k+185) (k+204) (k+223)) n=I:=⟨_,rfl⟩;rw[hI]at pR a1 a2 a3;simp only[hI]at gg;have b1: ∀j,j<48-> ¬I=k+j:=fun j _=>by omega
 have b1': ∀j,j<48-> ¬k+j=I:=fun j _=>by omega
 have b2: ¬I=k+230:=a2;have b2': ¬k+230=I:=fun e=>a2 e.symm;have b3: ¬I<k+48:=by omega
 have b4:I<k+260:=by omega
 have b0: ¬I=k:=by omega
 have b0': ¬k=I:=by omega
 have alx: ∀i,i<k->i<k+48/\(∀j,¬i=k+j)/\ ¬i=k/\ ¬i=I:=fun i hi=>⟨by omega,fun j=>by omega,by omega,by omega⟩;by_cases c0:cp=0
 ·subst c0;have la1:0<bf.length:=by rw[jK];decide
  obtain⟨⟨at_,av,ar,ao⟩,G5⟩: ∃c,bf[0]=c:=⟨_,rfl⟩;have Li:C3 ⟨at_,av,ar,ao⟩:=G5▸Ir _ (aaL la1);have tk:List.take 8 ((au[n]).bz.map Cell.e)=(au[n]).bz.map Cell.e:=aZ (by simp[IA]);obtain⟨hE,eE,fE⟩:=a1l (au[n]).state (au[n]).bz (au[n]).pc (au[n]).count (au[n]).cn (au[n]).saved (au[n]).dn (au[n]).code 0 av (k+260) (by omega);simp only[aaE,Nat.reduceAdd,IA]at eE fE;refine aaB ?_;simp[aaE,hl,hv,hp,tw,fV,tq,Dk,Fu,hrd,iB,iC,iL,iE,te,q,q0,cE,cM,cP,hrq,yk,aex,hr,n4,Cm,OY,oM,eC,ji,jH,B3,pT,pR,Ck,gg,IA,b1,b3,la1,G5,eE,tk,atf,ak1,ak2,adZ,List.all_nil];have hold: ∀i,i<4-> ¬i=n->k+48<=(qW (k+166) (k+185) (k+204) (k+223)) i/\(qW (k+166) (k+185) (k+204) (k+223)) i<k+238/\(qW (k+166) (k+185) (k+204) (k+223)) i≠k+230:=fun i hi _=>⟨(HB.2.1 i hi).2,(HP.qS i hi).2.2.2,(HP.qS i hi).2.2.1⟩;have PR:Bb (Prog.mk ax ae ay) (aO.mk (Layout.mk aa aq) (aF.mk ak ah) au) ⟨n,di,cY,cD,gS,0,bf,bT⟩ (lL.mk (Canon.mk bO bP bA bB) cO cW gV)=(⟨⟨aa,aq⟩,⟨ak,ah⟩,au.set n (Of au[n] av)⟩,true):=by
   unfold Bb;rw[if_pos at5,if_pos rfl];simp only[aaH,rI,vz,List.getD,aaJ la1,G5,abR]
  refine pG.new (m:=⟨⟨aa,aq⟩,⟨ak,ah⟩,au.set n (Of au[n] av)⟩) (bu:=fun i=>if i=n then k+270 else(qW (k+166) (k+185) (k+204) (k+223)) i) (gW.threads (a:=k+48) HP HB (by omega) (by simp[hl]) ?_ ?_ ?_ ?_ ?_) ?_ ?_ rfl PR ?_
  ·rw[Lj (bu:=(qW (k+166) (k+185) (k+204) (k+223))) nl (fun j hj=>if_neg hj)];simp[aR,dJ,Of,IA]
  ·intro i hi;simp only[aaN]at hi;simp only[abk];by_cases xy:n=i
   ·subst xy;simp[aR,fE,kL,Of];exact fun _ _=>rfl
   ·have a1m: ¬i=n:=fun e=>xy e.symm;obtain⟨o1,o2,o3⟩:=hold i (by omega) a1m;have a1n:=HP.GJ i hi;simp only at a1n;have c1: ¬(qW (k+166) (k+185) (k+204) (k+223)) i=k+4:=by omega
    have c2:(qW (k+166) (k+185) (k+204) (k+223)) i<k+260:=by omega
    have c3: ¬(qW (k+166) (k+185) (k+204) (k+223)) i=k+46:=by omega
    have c4: ¬(qW (k+166) (k+185) (k+204) (k+223)) i<k+48:=by omega
    simp only[xy,a1m,if_false];simp only[aR,c1,c2,c3,c4,o3,if_false,if_true];exact a1n
  ·intro i hi;by_cases xy:i=n
   ·right;simp[xy]
   ·left;simp[xy]
  ·intro i j hi hj mz;by_cases xy:i=n
   ·have Kp: ¬j=n:=fun e=>mz (xy.trans e.symm);have:=hold j hj Kp;simp only[xy,Kp,if_true,if_false];omega
   ·by_cases Kp:j=n
    ·have:=hold i hi xy;simp only[xy,Kp,if_true,if_false];omega
    ·simp only[xy,Kp,if_false];exact HP.JL i j hi hj mz
  ·intro i hi1 En Bi xY;have c1: ¬i=k+4:=by omega
   have c2:i<k+260:=by omega
   have c3: ¬i=k+46:=by omega
   have c4: ¬i<k+48:=by omega
   simp only[aR,c1,c2,c3,c4,Bi,if_false,if_true]
  ·obtain⟨⟨p1,p2,p3⟩,pI,pB⟩:=HB;refine⟨⟨by omega,by omega,by omega⟩,fun j hj=>⟨by have:=pI j hj;omega,?_⟩,fun B s n e=>by have:=pB B s n e;omega⟩;by_cases xy:j=n
   ·simp[xy]
   ·have:=pI j hj;simp only[xy,if_false];omega
  ·refine⟨HG.prog,HG.lay,HG.key,HG.mem,by simp[hl],fun i hi=> ?_,HG.coh⟩;simp only[aaN]at hi;simp only[abk];split
   ·exact alm (HG.pg n nl) Li
   ·exact HG.pg i hi
  ·intro i hi;obtain⟨e1,e2,e3,e4⟩:=alx i hi;have e5:i<k+260:=by omega
   simp[aR,e1,e2,e3,e5]
 cases gV with
 |true=>
  refine aaB ?_;simp[aaE,hl,hv,hp,tw,fV,tq,Dk,Fu,hrd,iB,iC,iL,iE,te,q,q0,cE,cM,cP,hrq,yk,aex,hr,n4,Cm,OY,oM,eC,ji,jH,B3,pT,Ck,gg,IA,c0];have PR:Bb (Prog.mk ax ae ay) (aO.mk (Layout.mk aa aq) (aF.mk ak ah) au) ⟨n,di,cY,cD,gS,cp,bf,bT⟩ ⟨⟨bO,bP,bA,bB⟩,cO,cW,true⟩=(iZ (aO.mk (Layout.mk aa aq) (aF.mk ak ah) au) (aO.memory (aO.mk (Layout.mk aa aq) (aF.mk ak ah) au)) n (G2 au[n]),true):=by
   unfold Bb;rw[if_pos at5,if_neg c0,if_pos rfl];simp only[aaH,rI]
  refine pG.new (m:=iZ (aO.mk (Layout.mk aa aq) (aF.mk ak ah) au) (aO.memory (aO.mk (Layout.mk aa aq) (aF.mk ak ah) au)) n (G2 au[n])) (HP.put HB (by omega) n4 ?_ ?_ ?_) (HB.less (by omega)) (uU HG (adO _) HG.mem HG.coh (ael (HG.pg n nl))) rfl PR ?_
  ·rw[<-iJ nl];simp[aR,dJ,G2,IA,hI]
  ·rw[hI];have c5: ¬I=k+4:=by omega
   have c6: ¬I=k+46:=by omega
   simp[aR,b2,b3,c5,c6,G2,pR]
  ·intro i hi1 En Bi xY;have c1: ¬i<k+48:=by omega
   have c2: ¬i=k+4:=by omega
   have c3: ¬i=k+46:=by omega
   simp[aR,c1,c2,c3,Bi]
  ·intro i hi;obtain⟨e1,e2,e3,e4⟩:=alx i hi;simp[aR,e1,e2,e3]
 |false=>
 have hs2:(cg (aO.mk (Layout.mk aa aq) (aF.mk ak ah) au) n).state=2:=by rw[iS nl];exact hs
 have key: ∀(H:bh) (K:Nat),H (k+46)=some ⟨5,[KKD (.cu (k+53) 0 aa.length) aq (.cu (k+68) 0 512) (.cu (k+147) 0 4) (.cu (k+230) 0 4)],true⟩->RM (k+48) (fun i=>kL (h1 i)) H->k+238<=K->
   cL X 198 [KKQ ax ae ay,.ptr (k+46) 0 0,KKZ (n:Int) di cY cD gS cp bf bT,KKb bO bP bA bB cO cW false] H K=some (.bool (cB 198 [KKQ ax ae ay,.ptr (k+46) 0 0,KKZ (n:Int) di cY cD gS cp bf bT,KKb bO bP bA bB cO cW false] H K),cH 198 [KKQ ax ae ay,.ptr (k+46) 0 0,KKZ (n:Int) di cY cD gS cp bf bT,KKb bO bP bA bB cO cW false] H K,cK 198 [KKQ ax ae ay,.ptr (k+46) 0 0,KKZ (n:Int) di cY cD gS cp bf bT,KKb bO bP bA bB cO cW false] H K)/\cH 198 [KKQ ax ae ay,.ptr (k+46) 0 0,KKZ (n:Int) di cY cD gS cp bf bT,KKb bO bP bA bB cO cW false] H K (k+46)=some ⟨5,[KKD (.cu (k+53) 0 aa.length) aq (.cu (k+68) 0 512) (.cu (k+147) 0 4) (.cu (k+230) 0 4)],true⟩/\(∀i,i<k+48->cH 198 [KKQ ax ae ay,.ptr (k+46) 0 0,KKZ (n:Int) di cY cD gS cp bf bT,KKb bO bP bA bB cO cW false] H K i=H i)/\K<=cK 198 [KKQ ax ae ay,.ptr (k+46) 0 0,KKZ (n:Int) di cY cD gS cp bf bT,KKb bO bP bA bB cO cW false] H K/\
   ∃iI kV m',dU (cH 198 [KKQ ax ae ay,.ptr (k+46) 0 0,KKZ (n:Int) di cY cD gS cp bf bT,KKb bO bP bA bB cO cW false] H K) (cK 198 [KKQ ax ae ay,.ptr (k+46) 0 0,KKZ (n:Int) di cY cD gS cp bf bT,KKb bO bP bA bB cO cW false] H K) (k+46) (.cu (k+53) 0 aa.length) (k+68) (k+147) (k+230) iI kV m'/\db (Prog.mk ax ae ay) d m'/\m'.layout=⟨aa,aq⟩/\(G4 (Prog.mk ax ae ay) (aO.mk (Layout.mk aa aq) (aF.mk ak ah) au) n ⟨(n:Int),di,cY,cD,gS,cp,bf,bT⟩ ⟨⟨bO,bP,bA,bB⟩,cO,cW,false⟩=bif (cB 198 [KKQ ax ae ay,.ptr (k+46) 0 0,KKZ (n:Int) di cY cD gS cp bf bT,KKb bO bP bA bB cO cW false] H K) then some m' else none)/\oT (k+48) (.cu (k+53) 0 aa.length) (k+68) (k+147) (k+230) iI kV:=fun H K hb hO hK=>by
  have HI:=adr (b:=k+46) (by rw[hb];unfold jD;simp only[hl]) (by omega) (by omega) hK HP HB hO;obtain⟨v,h',k',e,bb,iI,kV,m',rfl,G,GG,gl,gp,gk,gi,gf⟩:=a1c ax ae ay .bad (n:Int) di cY cD gS cp bf bT bO bP bA bB cO cW false H K (k+46) _ _ _ _ _ _ (aO.mk (Layout.mk aa aq) (aF.mk ak ah) au) d n HI HG hd ⟨_,rfl⟩ ⟨rfl,n4⟩ hs2 ⟨ca0,baz⟩ jK Ir hr hx;obtain⟨e1,e2⟩:=xK e;have e3:=a1k e;have D4:=G.xJ;have zR:=G.len;obtain⟨⟨p1,p2,p3⟩,pI,pB⟩:=HB;rw[e1,e2,e3];refine⟨e,by rw[D4];unfold jD;rw[zR,gl],fun i hi=>gf i (by omega) (by omega) (by omega) (by omega) (fun j hj=>by have:=pI j hj;omega),gk,iI,kV,m',G,GG,gl,gp,⟨p1,p2,p3⟩,fun j hj=> ?_,pB⟩;have:=pI j hj;have:=gi j hj;omega
 have cl:=fun H K a b c=>(key H K a b c).1;have cb:=fun H K a b c=>(key H K a b c).2.1;have cf1:=fun H K a b c=>(key H K a b c).2.2.1 (k+1) (by omega);have cf4:=fun H K a b c=>(key H K a b c).2.2.1 (k+4) (by omega);refine aaB ?_;simp[aaE,hl,hv,hp,tw,fV,tq,Dk,Fu,hrd,iB,iC,iL,iE,te,q,q0,cE,cM,cP,hrq,yk,aex,hr,n4,Cm,OY,oM,eC,ji,jH,B3,c0,cl,cb,cf1,cf4,yT,B2];have fin: ∀(H:bh) (K n2:Nat) (o:Option Ob),H (k+46)=some ⟨5,[KKD (.cu (k+53) 0 aa.length) aq (.cu (k+68) 0 512) (.cu (k+147) 0 4) (.cu (k+230) 0 4)],true⟩->RM (k+48) (fun i=>kL (h1 i)) H->k+238<=K->Below k h H->
   (cB 198 [KKQ ax ae ay,.ptr (k+46) 0 0,KKZ (n:Int) di cY cD gS cp bf bT,KKb bO bP bA bB cO cW false] H K=false->pG (Prog.mk ax ae ay) d (Bb (Prog.mk ax ae ay) (aO.mk (Layout.mk aa aq) (aF.mk ak ah) au) ⟨(n:Int),di,cY,cD,gS,cp,bf,bT⟩ ⟨⟨bO,bP,bA,bB⟩,cO,cW,false⟩) h k S (.dM [KKD vB aq vC vL (.cu T 0 4),.bool false]) (aR (cH 198 [KKQ ax ae ay,.ptr (k+46) 0 0,KKZ (n:Int) di cY cD gS cp bf bT,KKb bO bP bA bB cO cW false] H K) (k+4) o) (cK 198 [KKQ ax ae ay,.ptr (k+46) 0 0,KKZ (n:Int) di cY cD gS cp bf bT,KKb bO bP bA bB cO cW false] H K+n2))/\
   (cB 198 [KKQ ax ae ay,.ptr (k+46) 0 0,KKZ (n:Int) di cY cD gS cp bf bT,KKb bO bP bA bB cO cW false] H K=true->pG (Prog.mk ax ae ay) d (Bb (Prog.mk ax ae ay) (aO.mk (Layout.mk aa aq) (aF.mk ak ah) au) ⟨(n:Int),di,cY,cD,gS,cp,bf,bT⟩ ⟨⟨bO,bP,bA,bB⟩,cO,cW,false⟩) h k S (.dM [KKD (.cu (k+53) 0 aa.length) aq (.cu (k+68) 0 512) (.cu (k+147) 0 4) (.cu (k+230) 0 4),.bool true]) (aR (cH 198 [KKQ ax ae ay,.ptr (k+46) 0 0,KKZ (n:Int) di cY cD gS cp bf bT,KKb bO bP bA bB cO cW false] H K) (k+4) o) (cK 198 [KKQ ax ae ay,.ptr (k+46) 0 0,KKZ (n:Int) di cY cD gS cp bf bT,KKb bO bP bA bB cO cW false] H K+n2)):=fun H K n2 o hb hO hK hB=>by
  obtain⟨_,_,f1,gk,iI,kV,m',G,GG,gl,gp,GA⟩:=key H K hb hO hK;have wF:Below k h (aR (cH 198 [KKQ ax ae ay,.ptr (k+46) 0 0,KKZ (n:Int) di cY cD gS cp bf bT,KKb bO bP bA bB cO cW false] H K) (k+4) o):=fun i hi=>by
   have c1: ¬i=k+4:=by omega
   simp only[aR,c1,if_false];rw[f1 i (by omega),hB i hi]
  have Br:Bb (Prog.mk ax ae ay) (aO.mk (Layout.mk aa aq) (aF.mk ak ah) au) ⟨(n:Int),di,cY,cD,gS,cp,bf,bT⟩ ⟨⟨bO,bP,bA,bB⟩,cO,cW,false⟩=a09 (aO.mk (Layout.mk aa aq) (aF.mk ak ah) au) (G4 (Prog.mk ax ae ay) (aO.mk (Layout.mk aa aq) (aF.mk ak ah) au) n ⟨(n:Int),di,cY,cD,gS,cp,bf,bT⟩ ⟨⟨bO,bP,bA,bB⟩,cO,cW,false⟩):=by
   unfold Bb;rw[if_pos at5,if_neg c0,if_neg (by simp)];simp only[aaH]
  refine⟨fun eb=>pG.TQ HM HG (by rw[Br,gp,eb];rfl) wF (by omega),fun eb=> ?_⟩;have ba1:aq=m'.layout.key:=by rw[gl]
  exact pG.bay (S:=S) (h':=aR (cH 198 [KKQ ax ae ay,.ptr (k+46) 0 0,KKZ (n:Int) di cY cD gS cp bf bT,KKb bO bP bA bB cO cW false] H K) (k+4) o) (k':=cK 198 [KKQ ax ae ay,.ptr (k+46) 0 0,KKZ (n:Int) di cY cD gS cp bf bT,KKb bO bP bA bB cO cW false] H K+n2) (G.at.mono GA (by omega) fun i hi _=>by
   have c1: ¬i=k+4:=by omega
   simp only[aR,c1,if_false]) (GA.less (by omega)) GG ba1 (by rw[Br,gp,eb];rfl) wF (by omega)
 refine⟨fun e=>(fin _ _ _ _ ?_ ?_ ?_ ?_).1 e,fun e=>(fin _ _ _ _ ?_ ?_ ?_ ?_).2 e⟩
 ·simp[aR]
 ·simp[yT,B2]
 ·omega
 ·simp only[cM];intro i hi;obtain⟨e1,e2,e3,e4⟩:=alx i hi;simp[e1,e2,e3]
 ·simp[aR]
 ·simp[yT,B2]
 ·omega
 ·simp only[cM];intro i hi;obtain⟨e1,e2,e3,e4⟩:=alx i hi;simp[e1,e2,e3]
def zX(p:Prog)(vB:V)(key:Int)(vC vL:V)(T:Nat)(o:cS)(l:bX)(R n J:Nat):V:= .agg [.sl false (p.code.map Instr.e),.sl false (p.an.map (V.int .i64)),.sl false (p.data.map aV),vB,.int .u16 key,vC,vL,.cu T 0 4,.sl false (o.clock.map (V.int .u16)),.sl false (o.random.map (V.int .u16)),.sl false (o.dp.map aV),.sl false (o.files.data.map bw),.sl false (o.files.opens.map fO.e),.sl false (o.dG.map Output.e),.sl false (l.owner.map (V.int .i64)),.sl false (l.queue.map dc),.cu R 0 n,.cu J 0 4]
structure wD (p:Prog) (d:Int) (lay:Layout) (o:cS) (l:bX) (js:List Int) (h:bh) (k b:Nat) (S:Nat->Prop) (T:Nat) (vB vC vL:V) (es:List V) (m:aO) (R:Nat) (rc:List Entry) (J:Nat):Prop where
 box:h b=some ⟨18,[zX p vB lay.key vC vL T o l R rc.length J],true⟩
 own:kJ h k S T vB vC vL es m
 IB:db p d m
 lay:m.layout=lay
 record:h R=some ⟨18,rc.map Entry.e,false⟩
 xE:h J=some ⟨1,js.map (V.int .i64),false⟩
 Sh:js.length=4
 lt:b<k/\R<k/\J<k
 ne:b≠R/\b≠J/\R≠J
 off: ¬S b/\ ¬S R/\ ¬S J
def ba2(p:Prog)(d:Int)(lay:Layout)(o:cS)(l:bX)(js:List Int)(h:bh)(k b:Nat)(S:Nat->Prop)(R J:Nat)(m':aO)(rc':List Entry)(h':bh)(k':Nat):Prop:=
 ∃S' T' XS XT XU Ae R',wD p d lay o l js h' k' b S' T' XS XT XU Ae m' R' rc' J/\k<=k'/\k<=R'/\(∀i,S' i->S i\/k<=i)/\ ∀i,i<k->i≠b->i≠R->h' i=h i
def G6(t n:Int):Entry:=⟨4,t,0,⟨0,0,0,0,0,0,[],[]⟩,⟨⟨0,n,0,0⟩,[], -1,false⟩⟩
def IC(t n:Int):Entry.e ⟨4,t,0,⟨0,0,0,0,0,0,[],[]⟩,⟨⟨0,n,0,0⟩,[], -1,false⟩⟩= .agg [.int .i64 4,.int .i64 t,.int .i64 0,.int .i64 0,.int .i64 0,.int .i64 0,.int .i64 0,.int .i64 0,.int .i64 0,.sl false [],.sl false [],.int .u8 0,.int .u16 n,.int .i64 0,.int .i64 0,.sl false [],.int .i64 (-1),.bool false]:=rfl
@[simp]def aey(r:V)(t n:Int)(p:Prog)(d:Int)(lay:Layout)(o:cS)(l:bX)(js:List Int)(h:bh)(k b:Nat)(S:Nat->Prop)(T:Nat)(vB vC vL:V)(es:List V)(m:aO)(R:Nat)(rc:List Entry)(J:Nat)(H:wD p d lay o l js h k b S T vB vC vL es m R rc J)(hd:d<=1099511627776)(hn:0<=n/\n<=65535)(hrc:rc.length<=1000000): ∃v h' k',cL X 210 [.ptr b 0 0,t,.int .u16 n] h k=some (v,h',k')/\v= .dM []/\ba2 p d lay o l js h k b S R J (wB p m t ⟨⟨0,n,0,0⟩,[], -1,false⟩).1 (rc++ [G6 t n]) h' k':=by
 have hb:=H.box;unfold zX at hb;have qM:IntKind.i64.wrap n=n:=wrap_i64 (by omega);have hwu:IntKind.u16.wrap n=n:=wrap_u16 hn;obtain⟨l1,l2,l3⟩:=H.lt;obtain⟨n1,n2,n3⟩:=H.ne;obtain⟨f1,f2,f3⟩:=H.off;have ba3:=H.record;have hjo:=H.xE;obtain⟨⟨pc,ps,pd⟩,rfl⟩: ∃q,p=q:=⟨_,rfl⟩;obtain⟨⟨⟨mb,mk⟩,⟨mc,ml⟩,mt⟩,rfl⟩: ∃q,m=q:=⟨_,rfl⟩;have qn:=H.lay;simp only at qn;obtain⟨H0,hH0⟩: ∃H0:bh,aR (aR h (k+3) (some ⟨7,[.agg [.int .u8 0,.int .u16 0,.int .i64 0,.int .i64 0,.sl true [],.int .i64 0,.bool false]],true⟩)) (k+3) (some ⟨7,[.agg [.int .u8 0,.int .u16 n,.int .i64 0,.int .i64 0,.sl false [],.int .i64 (-1),.bool false]],true⟩)=H0:=⟨_,rfl⟩;have hB0:Below k h H0:=by rw[<-hH0];simp only[cE,cM]
 have HM0:kJ H0 (k+23) S T vB vC vL es ⟨⟨mb,mk⟩,⟨mc,ml⟩,mt⟩:=H.own.mono (by omega) fun i hi=>hB0 i (H.own.lt i hi);obtain⟨v1,h1,k1,eW,S1,T1,vB1,vC1,vL1,es1,rfl,HM1,HG1,Eo,hf1,hS1⟩:=atz pc ps pd mb mk mc ml mt t 0 n 0 0 [] (-1) false H0 (k+23) S T vB vC vL es d HM0 H.IB hd ⟨⟨hn.1,hn.2⟩,hX.nil,by simp⟩;obtain⟨⟨m1,bb⟩,PG⟩: ∃r,wB ⟨pc,ps,pd⟩ ⟨⟨mb,mk⟩,⟨mc,ml⟩,mt⟩ t ⟨⟨0,n,0,0⟩,[], -1,false⟩=r:=⟨_,rfl⟩;have at6:=WN ⟨pc,ps,pd⟩ ⟨⟨mb,mk⟩,⟨mc,ml⟩,mt⟩ t ⟨⟨0,n,0,0⟩,[], -1,false⟩;rw[PG]at eW HM1 HG1 at6;simp only at eW HM1 HG1 at6;rw[PG];rw[<-hH0]at eW;simp only[abI]at eW;have g1: ∀i,i<k->h1 i=h i:=fun i hi=>by rw[hf1 i (by omega),hB0 i hi]
 have gb:=g1 b l1;rw[hb]at gb;have gR:=g1 R l2;rw[ba3]at gR;have g3:h1 (k+3)=some ⟨7,[.agg [.int .u8 0,.int .u16 n,.int .i64 0,.int .i64 0,.sl false [],.int .i64 (-1),.bool false]],true⟩:=by
  rw[hf1 _ (by omega),<-hH0];simp[aR]
 have q1: ∀j,¬b=k+j:=fun j=>by omega
 have q2: ∀j,¬R=k+j:=fun j=>by omega
 have q3: ∀j,¬k+j=b:=fun j=>by omega
 have q4: ∀j,¬k+j=R:=fun j=>by omega
 have r1: ∀j,¬b=k1+j:=fun j=>by omega
 have r2: ∀j,¬R=k1+j:=fun j=>by omega
 have r3: ¬k+3=b:=by omega
 have XQ: ¬R=b:=fun e=>n1 e.symm;refine aaB ?_;rw[<-qn]at hb gb;simp[aaE,hb,qM,hwu,eW,gb,gR,g3,n1,XQ,q1,q3,r1];have hl1:m1.layout=lay:=by rw[at6];exact qn
 have ba5:=HM1.lt;have sS: ∀i,S1 i->i≠b/\i≠R/\i≠J/\i<k1:=fun i hi=>by
  have:=ba5 i hi;rcases hS1 i hi with e|e
  ·exact⟨fun q=>f1 (q▸e),fun q=>f2 (q▸e),fun q=>f3 (q▸e),this⟩
  ·exact⟨by omega,by omega,by omega,this⟩
 have nR: ∀i,i≠R-> ¬i=R:=fun i h=>h;refine⟨⟨by omega,by omega⟩,fun _ _=>⟨S1,T1,vB1,vC1,vL1,es1,k1+9,⟨?_,HM1.mono (by omega) fun i hi=> ?_,HG1,hl1,?_,?_,H.Sh,⟨by omega,by omega,by omega⟩,⟨by omega,n2,by omega⟩,fun e=>(sS b e).1 rfl,fun e=> ?_,fun e=>(sS J e).2.2.1 rfl⟩,by omega,by omega,fun i hi=> ?_,fun i h1 h2 h3=> ?_⟩⟩
 ·simp[aR,zX,hl1]
 ·obtain⟨e1,e2,e3,e4⟩:=sS i hi;have e5: ¬i=k1+9:=by omega
  simp[aR,e1,e2,e5]
 ·have e5: ¬k1+9=b:=by omega
  simp[aR,e5,G6,IC]
 ·have e5: ¬J=k1+9:=by omega
  have e6: ¬J=b:=fun e=>n2 e.symm;have e7: ¬J=R:=fun e=>n3 e.symm;simp only[aR,e5,e6,e7,if_false];rw[g1 J l3];exact hjo
 ·have:=(sS _ e).2.2.2;omega
 ·rcases hS1 i hi with e|e
  ·exact .inl e
  ·exact .inr (by omega)
 ·have e5: ¬i=k1+9:=by omega
  simp only[aR,e5,h2,h3,if_false];exact g1 i h1
def Lk(v:V)(vs:List V):z9 .bad (v::vs)=v:=rfl
noncomputable def cV(g:FuncId)(args:List V)(h:bh)(k:Nat):V:=match cL X g args h k with|some (v,_,_)=>v|none=> .bad
def a1p{g:FuncId}(e:cL X g args h k=some (v,h',k')):cV g args h k=v:=by
 unfold cV;rw[e]
def pv(j:Nat)(v:V):V:=match v with| .dM [.agg cs,_]=>cs.getD j .bad|_=> .bad
def pt(v:V):Nat:=match pv 4 v with| .cu T _ _=>T|_=>0
def pG.cl(H: ∃v h' k',cL X 119 args h k=some (v,h',k')/\pG p d r h k S v h' k'):
  cL X 119 args h k=some (.dM [KKD (pv 0 (cV 119 args h k)) r.1.layout.key (pv 2 (cV 119 args h k)) (pv 3 (cV 119 args h k)) (.cu (pt (cV 119 args h k)) 0 4),.bool r.2],cH 119 args h k,cK 119 args h k)/\
  ∃(S':Nat->Prop) (Ae:List V),kJ (cH 119 args h k) (cK 119 args h k) S' (pt (cV 119 args h k)) (pv 0 (cV 119 args h k)) (pv 2 (cV 119 args h k)) (pv 3 (cV 119 args h k)) Ae r.1/\db p d r.1/\k<=cK 119 args h k/\(∀i,i<k->cH 119 args h k i=h i)/\ ∀i,S' i->S i\/k<=i:=by
 obtain⟨v,h',k',e,S',T',XS,XT,XU,Ae,rfl,HM,HG,hk,hf,hS⟩:=H;obtain⟨e1,e2⟩:=xK e;have e3:=a1p e;rw[e1,e2,e3];refine⟨?_,S',Ae,HM,HG,hk,hf,hS⟩;rw[e];rfl
def G7(q:Request)(x:lL):Entry:=⟨2,q.dd,0,q,x⟩
def Oo(p:Prog)(m:aO)(rc:List Entry)(q:Request)(P:cS×bX×List Int×lL)(own:Int):aO×cS×bX×List Int×List Entry:=
 if 0<=own then((wB p (Bb p m q P.2.2.2).1 own ⟨⟨0,0,0,0⟩,[], -1,false⟩).1,P.1,P.2.1,P.2.2.1,rc++ [G7 q P.2.2.2,G6 own 0]) else((Bb p m q P.2.2.2).1,P.1,P.2.1,P.2.2.1,rc++ [G7 q P.2.2.2])
noncomputable def zi(p:Prog)(m:aO)(o:cS)(l:bX)(js:List Int)(rc:List Entry)(q:Request):aO×cS×bX×List Int×List Entry:=
 Oo p m rc q (sL m.threads o l js q) (if q.call=9 then(fY l (eY q 0) q.dd).2.1 else-1)
def alz(p:Prog)(d:Int)(lay:Layout)(s:aO×cS×bX×List Int×List Entry)(v:V)(h':bh)(k':Nat):Prop:=
 v= .dM []/\ ∃(S:Nat->Prop) (T:Nat) (vB vC vL:V) (es:List V) (R:Nat) (J:Nat),wD p d lay s.2.1 s.2.2.1 s.2.2.2.1 h' k' 0 S T vB vC vL es s.1 R s.2.2.2.2 J/\uo s.2.1/\jR s.2.2.1
structure Si (p:Prog) (d:Int) (lay:Layout) (k:Nat) (S:Nat->Prop) (h h1:bh) (k1:Nat) (S1:Nat->Prop) (T:Nat) (vB vC vL:V) (es:List V) (m:aO):Prop where
 own:kJ h1 k1 S1 T vB vC vL es m
 IB:db p d m
 lay:m.layout=lay
 le:k<=k1
 fr: ∀i,i<k->h1 i=h i
 sub: ∀i,S1 i->S i\/k<=i
def pG.fn{P:bh->Prop}(hl:r.1.layout=lay)(H: ∀h,P h-> ∃v h' k',cL X 119 args h k=some (v,h',k')/\pG p d r h k S v h' k'):
  ∃(fB fC fL:bh->V) (fT fK:bh->Nat) (fH:bh->bh) (fS:bh->Nat->Prop) (fE:bh->List V),∀h,P h->
   cL X 119 args h k=some (.dM [KKD (fB h) lay.key (fC h) (fL h) (.cu (fT h) 0 4),.bool r.2],fH h,fK h)/\Si p d lay k S h (fH h) (fK h) (fS h) (fT h) (fB h) (fC h) (fL h) (fE h) r.1:=by
 subst hl;have g: ∀h,∃(S':Nat->Prop) (Ae:List V),P h->cL X 119 args h k=some (.dM [KKD (pv 0 (cV 119 args h k)) r.1.layout.key (pv 2 (cV 119 args h k)) (pv 3 (cV 119 args h k)) (.cu (pt (cV 119 args h k)) 0 4),.bool r.2],cH 119 args h k,cK 119 args h k)/\
   Si p d r.1.layout k S h (cH 119 args h k) (cK 119 args h k) S' (pt (cV 119 args h k)) (pv 0 (cV 119 args h k)) (pv 2 (cV 119 args h k)) (pv 3 (cV 119 args h k)) Ae r.1:=fun h=>by
  by_cases hp:P h
  ·obtain⟨e,S',Ae,h1,h2,h4,h5,h6⟩:=pG.cl (H h hp);exact⟨S',Ae,fun _=>⟨e,h1,h2,rfl,h4,h5,h6⟩⟩
  ·exact⟨fun _=>False,[],fun e=>absurd e hp⟩
 obtain⟨fS,g⟩:=Classical.skolem.1 g;obtain⟨fE,g⟩:=Classical.skolem.1 g;exact⟨_,_,_,_,_,_,fS,fE,g⟩
def Si.run                  (r0 J:Nat) (rc:List Entry)
  (H:Si p d lay k S h h1 k1 S1 T vB vC vL es m) (h0:hE 0=some ⟨18,[zX p vB lay.key vC vL T o l R n J],true⟩) (hn:rc.length=n) (hR:hE R=some ⟨18,rc.map Entry.e,false⟩) (hJ:h J=some ⟨1,js.map (V.int .i64),false⟩) (jl:js.length=4)
  (hS: ∀i,S i->i≠0/\i≠r0/\i≠J) (hk:0<J/\J<k/\r0<k/\r0≠J) (xX:k1<=R/\R<k2) (he: ∀i,i<k1-> ¬i=0-> ¬i=r0->hE i=h1 i):wD p d lay o l js hE k2 0 S1 T vB vC vL es m R rc J:=by
 obtain⟨HM,HG,hl,hle,hf,hs⟩:=H;have gY:=HM.lt;have sS: ∀i,S1 i-> ¬i=0/\ ¬i=r0/\ ¬i=J/\i<k1:=fun i hi=>by
  have:=gY i hi;rcases hs i hi with e|e
  ·obtain⟨a,b,c⟩:=hS i e;exact⟨a,b,c,this⟩
  ·exact⟨by omega,by omega,by omega,this⟩
 subst hn;refine⟨h0,HM.mono (by omega) fun i hi=> ?_,HG,hl,hR,?_,jl,⟨by omega,by omega,by omega⟩,⟨by omega,by omega,by omega⟩,fun e=>(sS 0 e).1 rfl,fun e=> ?_,fun e=>(sS _ e).2.2.1 rfl⟩
 ·obtain⟨e1,e2,e3,e4⟩:=sS i hi;exact he i e4 e1 e2
 ·rw[he J (by omega) (by omega) (by omega),hf J (by omega),hJ]
 ·have:=(sS _ e).2.2.2;omega
def wD.back(H:wD p d lay o l js h k 0 S T vB vC vL es m R rc J):
  x8 X [(0,16,65),(0,17,3),(0,7,112)] (.dM []) h=some (18,(KKJ p.code p.an p.data m.layout.aD m.layout.key m.memory.cells m.memory.lines m.threads o.clock o.random o.dp o.files.data o.files.opens o.dG l.owner l.queue rc js:V),[]):=by
 obtain⟨hb,HO,HG,qn,hR,hJ,tH,gY,kC,WS⟩:=H;have hT:=HO.row;have nT0: ¬T=0:=fun e=>WS.1 (e▸HO.adu);have nTR: ¬T=R:=fun e=>WS.2.1 (e▸HO.adu);have nTJ: ¬T=J:=fun e=>WS.2.2 (e▸HO.adu);have nRT: ¬R=T:=fun e=>nTR e.symm;have nJT: ¬J=T:=fun e=>nTJ e.symm;have nR0: ¬R=0:=fun e=>kC.1 e.symm;have nJ0: ¬J=0:=fun e=>kC.2.1 e.symm;have nRJ: ¬R=J:=kC.2.2;have nJR: ¬J=R:=fun e=>kC.2.2 e.symm;obtain⟨i1,i2,i3,i4⟩:=HO.ed (aR (aR (aR (aR h 0 none) T none) J none) R none) (fun i hi Ws=>by
  have a1: ¬i=0:=fun e=>WS.1 (e▸hi);have a2: ¬i=R:=fun e=>WS.2.1 (e▸hi);have a3: ¬i=J:=fun e=>WS.2.2 (e▸hi);simp[aR,a1,a2,a3,Ws]) 9
 simp only[Nat.reduceAdd]at i1 i2 i3 i4;have te:=aej HO.len;have tj: ∀(f:Int->V),List.take 4 (js.map f)=js.map f:=fun f=>aZ (by simp;omega);have tq:=HO.len;unfold zX at hb;rw[qn]at i1;simp(maxSteps:=10000000)[hb,hT,hR,hJ,tH,tq,nT0,nRT,nJT,nR0,nJ0,nRJ,te,tj,i1,i2,i3,i4,<-qn]
@[simp]def aez(aP:List Instr)(aN:List Int)(aQ:List (List Int))(aE:List Int)(aG:Int)(aJ:List Cell)(aK:List cy)(az:List Thread)(bk aX:List Int)(aY:List (List Int))(aM:List (List Canon))(aH:List fO)(aS:List Output)(bD:List Int)(bE:List (List Int))(cC:List Entry)(cz:List Int)(dh iw iy fv nK ez:Int)(eQ fJ:List Canon)(d:Int)(HG:db ⟨aP,aN,aQ⟩ d ⟨⟨aE,aG⟩,⟨aJ,aK⟩,az⟩)(hd:d<=1099511627776)(ho:uo ⟨bk,aX,aY,⟨aM,aH⟩,aS⟩)(hl:jR ⟨bD,bE⟩)(hj:cz.length=4)(hrc:cC.length<=900000)(pn:0<=dh/\dh<4)(jK:eQ.length<=3)(acf:fJ.length<=16)(A9:(ez=8\/ez=9\/ez=11)->1<=eQ.length)(Ir:hX eQ)(hdv:hX fJ): ∃(m2:aO) (o2:cS) (l2:bX) (wC:List Int) (O9:List Entry),oF X [(0,16,65),(0,17,3),(0,7,112)] 138 18 ((KKJ aP aN aQ aE aG aJ aK az bk aX aY aM aH aS bD bE cC cz:V)) [KKZ dh iw iy fv nK ez eQ fJ]=some (18,(KKJ aP aN aQ m2.layout.aD m2.layout.key m2.memory.cells m2.memory.lines m2.threads o2.clock o2.random o2.dp o2.files.data o2.files.opens o2.dG l2.owner l2.queue O9 wC:V),[],.dM [])/\db ⟨aP,aN,aQ⟩ d m2/\m2.layout=⟨aE,aG⟩/\uo o2/\jR l2/\wC.length=4/\zi ⟨aP,aN,aQ⟩ ⟨⟨aE,aG⟩,⟨aJ,aK⟩,az⟩ ⟨bk,aX,aY,⟨aM,aH⟩,aS⟩ ⟨bD,bE⟩ cz cC ⟨dh,iw,iy,fv,nK,ez,eQ,fJ⟩=(m2,o2,l2,wC,O9):=by
 have rE:az.length=4:=HG.len;have Ip: ∀(f:Thread->V),List.take 4 (az.map f)=az.map f:=fun f=>aZ (by simp;omega);have RQ: ∀(f:Thread->Option V),List.take 4 (az.map f)=az.map f:=fun f=>aZ (by simp;omega);have Oi: ∀(hx:bh),cF (az.map (cx hx 12∘Thread.e))=some (az.map Thread.e):=fun hx=>qi (fun _=>rfl) az;have Ix: ∀(f:Int->V),List.take 4 (cz.map f)=cz.map f:=fun f=>aZ (by simp;omega);have w0:IntKind.u16.wrap 0=0:=by decide
 obtain⟨⟨TK,TL,TM,⟨TN,TO⟩,TP⟩,⟨Iy,Iz⟩,wC,⟨⟨x1,x2,x3,x4⟩,x5,x6,x7⟩,hpf,KR,zR,Af,hxg,hpm⟩:=WO aP aN aQ aE aG aJ aK az bk aX aY aM aH aS bD bE cC cz dh iw iy fv nK ez eQ fJ rE ho hl hj (by omega) pn jK acf A9 Ir hdv;have a1a: ∀(f:Int->V),List.take 4 (wC.map f)=wC.map f:=fun f=>aZ (by simp;omega);obtain⟨⟨m2,okp⟩,Br⟩: ∃z,Bb ⟨aP,aN,aQ⟩ ⟨⟨aE,aG⟩,⟨aJ,aK⟩,az⟩ ⟨dh,iw,iy,fv,nK,ez,eQ,fJ⟩ ⟨⟨x1,x2,x3,x4⟩,x5,x6,x7⟩=z:=⟨_,rfl⟩;have Oq:=aep ⟨aP,aN,aQ⟩ ⟨⟨aE,aG⟩,⟨aJ,aK⟩,az⟩ ⟨dh,iw,iy,fv,nK,ez,eQ,fJ⟩ ⟨⟨x1,x2,x3,x4⟩,x5,x6,x7⟩;rw[Br]at Oq;simp only at Oq;have hx5:x5.length<=1000000000:=by have:=hxg.len;simp only at this;omega
 have main: ∃v h' k',cL X 138 [.ptr 0 0 0,KKZ dh iw iy fv nK ez eQ fJ] (ma X 138 18 ((KKJ aP aN aQ aE aG aJ aK az bk aX aY aM aH aS bD bE cC cz:V))) 4=some (v,h',k')/\alz ⟨aP,aN,aQ⟩ d ⟨aE,aG⟩ (zi ⟨aP,aN,aQ⟩ ⟨⟨aE,aG⟩,⟨aJ,aK⟩,az⟩ ⟨bk,aX,aY,⟨aM,aH⟩,aS⟩ ⟨bD,bE⟩ cz cC ⟨dh,iw,iy,fv,nK,ez,eQ,fJ⟩) v h' k':=by
  by_cases c9:ez=9
  case pos=>
   have h0:0<eQ.length:=by have:=A9 (.inr (.inl c9));omega
   have hv0:=Ir _ (aaL h0);obtain⟨⟨za,zb,zc,zd⟩,G5⟩: ∃z,eQ[0]=z:=⟨_,rfl⟩;rw[G5]at hv0;have FV:IntKind.i64.wrap zb=zb:=wrap_i64 (by have:=hv0.1;have:=hv0.2;simp only at*;omega);have hgr:=NR hl zb dh;obtain⟨⟨lo3,lq3⟩,own,ok3,hG3⟩: ∃l2 own ok,fY ⟨bD,bE⟩ zb dh=(l2,own,ok):=⟨_,_,_,rfl⟩;have zy:=BX bD bE zb dh hl;rw[hG3]at zy hgr;simp only at zy hgr;have c9':=eq_true c9;have w:=pG.fn (P:=fun H=>H 34=some ⟨8,az.map Thread.e,true⟩) (r:=(m2,okp)) Oq fun H h16=>by have:=aev aP aN aQ aE aG aJ aK az dh iw iy fv nK ez eQ fJ x1 x2 x3 x4 x5 x6 x7 H 53 (fun i=>i=34) 34 _ _ _ _ d (kJ.flat (m:=⟨⟨aE,aG⟩,⟨aJ,aK⟩,az⟩) h16 rE (by omega)) HG hd (by omega) (by omega) Ir hxg;rw[Br]at this;exact this
   obtain⟨fB,fC,fL,fT,fK,fH,fS,fE,key⟩:=w;simp only at key;have cl:=fun H a=>(key H a).1;have cf: ∀H:bh,H 34=some ⟨8,az.map Thread.e,true⟩-> ∀i,i<53->fH H i=H i:=fun H a=>(key H a).2.fr;have ck: ∀H:bh,H 34=some ⟨8,az.map Thread.e,true⟩->53<=fK H:=fun H a=>(key H a).2.le;have wk: ∀(hE:bh) (kE:Nat),(∃(S:Nat->Prop) (T:Nat) (vB vC vL:V) (es:List V) (R:Nat) (J:Nat),wD ⟨aP,aN,aQ⟩ d ⟨aE,aG⟩ ⟨TK,TL,TM,⟨TN,TO⟩,TP⟩ ⟨Iy,Iz⟩ wC hE kE 0 S T vB vC vL es m2 R (cC++ [G7 ⟨dh,iw,iy,fv,nK,ez,eQ,fJ⟩ ⟨⟨x1,x2,x3,x4⟩,x5,x6,x7⟩]) J)->cL X 210 [.ptr 0 0 0,.int .i64 own,.int .u16 0] hE kE=some (.dM [],cH 210 [.ptr 0 0 0,.int .i64 own,.int .u16 0] hE kE,cK 210 [.ptr 0 0 0,.int .i64 own,.int .u16 0] hE kE)/\ ∃(S:Nat->Prop) (T:Nat) (vB vC vL:V) (es:List V) (R:Nat) (J:Nat),wD ⟨aP,aN,aQ⟩ d ⟨aE,aG⟩ ⟨TK,TL,TM,⟨TN,TO⟩,TP⟩ ⟨Iy,Iz⟩ wC (cH 210 [.ptr 0 0 0,.int .i64 own,.int .u16 0] hE kE) (cK 210 [.ptr 0 0 0,.int .i64 own,.int .u16 0] hE kE) 0 S T vB vC vL es (wB ⟨aP,aN,aQ⟩ m2 own ⟨⟨0,0,0,0⟩,[], -1,false⟩).1 R (cC++ [G7 ⟨dh,iw,iy,fv,nK,ez,eQ,fJ⟩ ⟨⟨x1,x2,x3,x4⟩,x5,x6,x7⟩,G6 own 0]) J/\uo ⟨TK,TL,TM,⟨TN,TO⟩,TP⟩/\jR ⟨Iy,Iz⟩:=fun hE kE ⟨S,T,vB,vC,vL,es,R,J,HR⟩=>by
    obtain⟨v,h',k',e,rfl,S',T',XS,XT,XU,Ae,R',RY,_⟩:=aey .bad own 0 _ _ _ _ _ _ hE kE 0 S T vB vC vL es m2 R _ J HR hd (by omega) (by simp;omega);obtain⟨e1,e2⟩:=xK e;rw[e1,e2];rw[acr]at RY;exact⟨e,S',T',XS,XT,XU,Ae,R',J,RY,KR,zR⟩
   have TH:eY ⟨dh,iw,iy,fv,nK,ez,eQ,fJ⟩ 0=zb:=by simp[eY,List.getD,h0,G5]
   by_cases rV:0<=own
   case neg=>
    have XZ:zi ⟨aP,aN,aQ⟩ ⟨⟨aE,aG⟩,⟨aJ,aK⟩,az⟩ ⟨bk,aX,aY,⟨aM,aH⟩,aS⟩ ⟨bD,bE⟩ cz cC ⟨dh,iw,iy,fv,nK,ez,eQ,fJ⟩=(m2,⟨TK,TL,TM,⟨TN,TO⟩,TP⟩,⟨Iy,Iz⟩,wC,(cC++ [G7 ⟨dh,iw,iy,fv,nK,ez,eQ,fJ⟩ ⟨⟨x1,x2,x3,x4⟩,x5,x6,x7⟩])):=by
     unfold zi;simp only[hpm,c9',if_true,TH,hG3];unfold Oo;simp only[Br];exact if_neg rV
    rw[XZ];refine aaB ?_;simp[rE,hj,Af,Ip,Oi,Ix,c9',h0,G5,FV,zy,rV,hpf,Lk,cl,cf];refine⟨⟨by omega,by omega⟩,fun _ _=>⟨rfl,_,_,_,_,_,_,_,_,Si.run 32 33 (cC++ [G7 ⟨dh,iw,iy,fv,nK,ez,eQ,fJ⟩ ⟨⟨x1,x2,x3,x4⟩,x5,x6,x7⟩]) (key _ ?_).2 rfl ?_ ?_ ?_ Af ?_ ?_ ?_ ?_,KR,zR⟩⟩
    ·simp[aR]
    ·simp
    ·simp[aR];rfl
    ·simp[aR]
    ·intro i hi;omega
    ·omega
    ·omega
    ·intro i hi e1 e2;have e5:=aeF (abS hi (adW _ 11));simp only[aR,e1,e2,e5,if_false]
   have XZ:zi ⟨aP,aN,aQ⟩ ⟨⟨aE,aG⟩,⟨aJ,aK⟩,az⟩ ⟨bk,aX,aY,⟨aM,aH⟩,aS⟩ ⟨bD,bE⟩ cz cC ⟨dh,iw,iy,fv,nK,ez,eQ,fJ⟩=((wB ⟨aP,aN,aQ⟩ m2 own ⟨⟨0,0,0,0⟩,[], -1,false⟩).1,⟨TK,TL,TM,⟨TN,TO⟩,TP⟩,⟨Iy,Iz⟩,wC,cC++ [G7 ⟨dh,iw,iy,fv,nK,ez,eQ,fJ⟩ ⟨⟨x1,x2,x3,x4⟩,x5,x6,x7⟩,G6 own 0]):=by
    unfold zi;simp only[hpm,c9',if_true,TH,hG3];unfold Oo;simp only[Br];exact if_pos rV
   rw[XZ];have atq: ∀(hE:bh) (kE:Nat),(∃(S:Nat->Prop) (T:Nat) (vB vC vL:V) (es:List V) (R:Nat) (J:Nat),wD ⟨aP,aN,aQ⟩ d ⟨aE,aG⟩ ⟨TK,TL,TM,⟨TN,TO⟩,TP⟩ ⟨Iy,Iz⟩ wC hE kE 0 S T vB vC vL es m2 R (cC++ [G7 ⟨dh,iw,iy,fv,nK,ez,eQ,fJ⟩ ⟨⟨x1,x2,x3,x4⟩,x5,x6,x7⟩]) J)->alz ⟨aP,aN,aQ⟩ d ⟨aE,aG⟩ ((wB ⟨aP,aN,aQ⟩ m2 own ⟨⟨0,0,0,0⟩,[], -1,false⟩).1,⟨TK,TL,TM,⟨TN,TO⟩,TP⟩,⟨Iy,Iz⟩,wC,cC++ [G7 ⟨dh,iw,iy,fv,nK,ez,eQ,fJ⟩ ⟨⟨x1,x2,x3,x4⟩,x5,x6,x7⟩,G6 own 0]) (.dM []) (cH 210 [.ptr 0 0 0,.int .i64 own,.int .u16 0] hE kE) (cK 210 [.ptr 0 0 0,.int .i64 own,.int .u16 0] hE kE):=fun hE kE h=>⟨rfl,(wk hE kE h).2⟩;refine aaB ?_;simp[rE,hj,Af,Ip,Oi,Ix,c9',h0,G5,FV,zy,rV,hpf,Lk,cl,cf];refine⟨⟨by omega,by omega⟩,fun _ _=> ?_⟩;rw[(wk _ _ ?_).1];simp[];refine atq _ _ ?_;all_goals
    refine⟨_,_,_,_,_,_,_,33,Si.run 32 33 _ (key _ ?_).2 rfl ?_ ?_ ?_ Af ?_ ?_ ?_ ?_⟩
    ·simp[aR]
    ·simp
    ·simp[aR];rfl
    ·simp[aR]
    ·intro i hi;omega
    ·omega
    ·omega
    ·intro i hi e1 e2;have e5:=aeF (abS hi (adW _ 11));simp only[aR,e1,e2,e5,if_false]
  have w:=pG.fn (P:=fun H=>H 16=some ⟨8,az.map Thread.e,true⟩) (r:=(m2,okp)) Oq fun H h16=>by have:=aev aP aN aQ aE aG aJ aK az dh iw iy fv nK ez eQ fJ x1 x2 x3 x4 x5 x6 x7 H 35 (fun i=>i=16) 16 _ _ _ _ d (kJ.flat (m:=⟨⟨aE,aG⟩,⟨aJ,aK⟩,az⟩) h16 rE (by omega)) HG hd (by omega) (by omega) Ir hxg;rw[Br]at this;exact this
  obtain⟨fB,fC,fL,fT,fK,fH,fS,fE,key⟩:=w;simp only at key;have cl:=fun H a=>(key H a).1;have cf: ∀H:bh,H 16=some ⟨8,az.map Thread.e,true⟩-> ∀i,i<35->fH H i=H i:=fun H a=>(key H a).2.fr;have ck: ∀H:bh,H 16=some ⟨8,az.map Thread.e,true⟩->35<=fK H:=fun H a=>(key H a).2.le;have XZ:zi ⟨aP,aN,aQ⟩ ⟨⟨aE,aG⟩,⟨aJ,aK⟩,az⟩ ⟨bk,aX,aY,⟨aM,aH⟩,aS⟩ ⟨bD,bE⟩ cz cC ⟨dh,iw,iy,fv,nK,ez,eQ,fJ⟩=(m2,⟨TK,TL,TM,⟨TN,TO⟩,TP⟩,⟨Iy,Iz⟩,wC,(cC++ [G7 ⟨dh,iw,iy,fv,nK,ez,eQ,fJ⟩ ⟨⟨x1,x2,x3,x4⟩,x5,x6,x7⟩])):=by
   unfold zi;simp only[hpm,c9,if_false];unfold Oo;simp only[Br];exact if_neg (by decide)
  rw[XZ];refine aaB ?_;simp[rE,hj,Af,Ip,Oi,Ix,c9,hpf,Lk,cl,cf];refine⟨⟨by omega,by omega⟩,fun _ _=>⟨rfl,_,_,_,_,_,_,_,_,Si.run 14 15 (cC++ [G7 ⟨dh,iw,iy,fv,nK,ez,eQ,fJ⟩ ⟨⟨x1,x2,x3,x4⟩,x5,x6,x7⟩]) (key _ ?_).2 rfl ?_ ?_ ?_ Af ?_ ?_ ?_ ?_,KR,zR⟩⟩
  ·simp[aR]
  ·simp
  ·simp[aR];rfl
  ·simp[aR]
  ·intro i hi;omega
  ·omega
  ·omega
  ·intro i hi e1 e2;have e5:=aeF (abS hi (adW _ 11));simp only[aR,e1,e2,e5,if_false]
 obtain⟨v,h',k',e,rfl,S3,T3,vB3,vC3,vL3,es3,R3,J3,HR,ho3,hl3⟩:=main;refine⟨_,_,_,_,_,?_,HR.IB,HR.lay,ho3,hl3,HR.Sh,rfl⟩;unfold oF;rw[show 1+(X.fl 138).length=4 from rfl,e];simp only[HR.back];rfl
def lZ(q:List (List Int))(t:Int)(i:Nat):List (List Int):=(q.take i).map (fun x=>qP x t)++q.drop i
def Ot(q:List (List Int))(t:Int):lZ q t 0=q:=by simp[lZ]
def G8(q:List (List Int))(t:Int)(i:Nat):(lZ q t i).length=q.length:=by simp[lZ];omega
def WT{t:Int}(h:i<q.length)(h':i<(lZ q t i).length):(lZ q t i)[i]=q[i]:=by
 have e:(lZ q t i)[i]?=some q[i]:=by
  unfold lZ;rw[aaO (by simp;omega),abF,abN,aeS (Nat.le_of_lt h),acS,drop_cons h];rfl
 rw[aaJ h']at e;exact aeA e
def Sj{t:Int}(h:i<q.length):(lZ q t i).set i (qP q[i] t)=lZ q t (i+1):=by
 unfold lZ;have e:((q.take i).map (fun x=>qP x t)).length=i:=by simp;omega
 rw[adS _ _ (by omega),e,acS,drop_cons h,adJ,fD h,abH];simp
def Sk(q:List (List Int))(t:Int):lZ q t q.length=q.map fun x=>qP x t:=by simp[lZ]
def DX(l:bX)(t:Int):iK l t 0=(⟨l.owner,l.queue.map fun q=>qP q t⟩,[]):=rfl
def JZ(l:bX)(t:Int)(i:Nat):iK l t (i+1)=((fY (iK l t i).1 i t).1,if(fY (iK l t i).1 i t).2.2=true/\0<=(fY (iK l t i).1 i t).2.1 then(iK l t i).2++ [(fY (iK l t i).1 i t).2.1] else(iK l t i).2):=rfl
@[simp]def Ll(bR:List Int)(bG:List (List Int))(t:Int)(h:jR (bX.mk bR bG)):bW X 211 [KKv bR bG,.int .i64 t]=some (.dM [KKq ((iK (bX.mk bR bG) t 4).1),.sl false (((iK (bX.mk bR bG) t 4).2).map (V.int .i64))]):=by
 refine aaA ?_;have h1:bR.length=4:=h.AZ;have h2:bG.length=4:=h.A0;obtain⟨h3,h4⟩:=h.lens;simp only at h3 h4;simp[h1,h2,h4];refine cZ (fun i S=>(S.f 1= .int .i64 t/\S.f 4= .ptr 4 0 0/\S.h 4=some ⟨2,[KKv ([]:List Int) ([]:List (List Int))],true⟩/\S.f 6= .ptr 6 0 0/\S.h 1000=some ⟨1,(⟨bR,lZ bG t i⟩:bX).queue.map dc,false⟩/\S.h 6=some ⟨2,[.agg [.sl false ((⟨bR,lZ bG t i⟩:bX).owner.map (V.int .i64)),.cu 1000 0 ((⟨bR,lZ bG t i⟩:bX).queue.map dc).length]],true⟩/\S.f 20= .cu 1000 0 4/\S.f 21= .int .i64 ((4:Int))/\S.f 22=(i:Int)/\S.n=1101)/\True) (4) (by omega) ?_ ?_ ?_
 ·rintro i S ⟨pq,ie,bL⟩ ⟨df,fp⟩;have hl:i<bG.length:=by omega
  have q1:=(h.queue i hl).len;have r1:=G8 bG t i;have r2:i<(lZ bG t i).length:=by omega
  have r3:=WT (t:=t) hl r2;have r4:=Sj (t:=t) hl;have i4:(i:Int)<4:=by omega
  rw[h2]at r1;simp only at q1;simp[df,bL,r1,r3,i4];refine cZ (fun j S=>(S.f 1= .int .i64 t/\S.f 4= .ptr 4 0 0/\S.h 4=some ⟨2,[KKv ([]:List Int) ([]:List (List Int))],true⟩/\S.f 6= .ptr 6 0 0/\S.h 1000=some ⟨1,(⟨bR,lZ bG t i⟩:bX).queue.map dc,false⟩/\S.h 6=some ⟨2,[.agg [.sl false ((⟨bR,lZ bG t i⟩:bX).owner.map (V.int .i64)),.cu 1000 0 ((⟨bR,lZ bG t i⟩:bX).queue.map dc).length]],true⟩/\S.f 7= .int .i64 ((i:Int))/\S.f 9= .cu 9 0 (((qP ((bG[i]).take j) t).map (V.int .i64))).length/\S.h 9=some ⟨1,((qP ((bG[i]).take j) t).map (V.int .i64)),false⟩/\S.f 20= .cu 1000 0 4/\S.f 21= .int .i64 ((4:Int))/\S.f 22=(i:Int)/\S.f 27= .sl false ((bG[i]).map (V.int .i64))/\S.f 28= .int .i64 (((bG[i]).length:Int))/\S.f 29=(j:Int)/\S.n=1101)/\True) ((bG[i]).length) (by omega) ?_ ?_ ?_
  ·rintro j S ⟨mz,vp,jP⟩ ⟨mA,sF⟩;by_cases hx:(bG[i])[j]=t
   ·have e:=ac8 jP hx;have Hy:=eq_true hx;simp[mA,vp,jP,Hy,e]
   ·have e:=Wi jP hx;have hl:(qP ((bG[i]).take j) t).length<=4:=by have:=Wj ((bG[i]).take j) t;simp only[abN]at this;omega
    simp[mA,vp,jP,hx,e];all_goals ((repeat' (first|apply And.intro|intro _))<;>first|omega|rfl)
  ·rintro S ⟨mA,sF⟩;have r5:((lZ bG t i).map dc).set i (.sl false ((qP bG[i] t).map (V.int .i64)))=(lZ bG t (i+1)).map dc:=by rw[<-ku,<-List.map_set,r4]
   have r6:=G8 bG t (i+1);rw[h2]at r6;simp[bL,mA,r1,r5,r6,i4,ac6,ie];all_goals ((repeat' (first|apply And.intro|intro _))<;>first|omega|rfl)
  ·simp[df]<;>(
    first|rfl|exact⟨rfl,rfl⟩|(simp[r1];rfl)|simp[r1])
 ·rintro S ⟨df,fp⟩;rw[show lZ bG t 4=bG.map fun q=>qP q t by rw[<-Sk,h2]]at df;have m1:(bG.map fun q=>qP q t).length=4:=by simp[h2]
  simp[df,h1];refine cZ (fun k S=>(S.f 1= .int .i64 t/\S.f 4= .ptr 4 0 0/\S.h 4=some ⟨2,[KKv ([]:List Int) ([]:List (List Int))],true⟩/\S.f 6= .ptr 6 0 0/\S.h 6=some ⟨2,[KKq ((iK (bX.mk bR bG) t k).1)],true⟩/\S.f 12= .cu 12 0 ((((iK (bX.mk bR bG) t k).2).map (V.int .i64))).length/\S.h 12=some ⟨1,(((iK (bX.mk bR bG) t k).2).map (V.int .i64)),false⟩/\S.f 49= .int .i64 ((4:Int))/\S.f 50=(k:Int)/\S.n=1100)/\True) (4) (by omega) ?_ ?_ ?_
  ·rintro k S ⟨IN,Ey,kG⟩ ⟨Ah,O2⟩;obtain⟨d1,d2,d3⟩:=C2 h t k;have k4:(k:Int)<4:=by omega
   have ln:=JZ (bX.mk bR bG) t k;obtain⟨⟨o1,o2⟩,nx,hd⟩: ∃a b,iK (bX.mk bR bG) t k=(a,b):=⟨_,_,rfl⟩;rw[hd]at d1 d2 d3 Ah ln;simp only at d1 d2 d3 ln;obtain⟨⟨g1,g2⟩,gn,gb,hg⟩: ∃a b c,fY ⟨o1,o2⟩ k t=(a,b,c):=⟨_,_,_,rfl⟩;rw[hg]at ln;simp only at ln;cases gb with
   |false=>
    simp[Ah,Ey,kG,k4,d1,hg,ln]
   |true=>
    by_cases hn:0<=gn
    ·simp[Ah,Ey,kG,k4,d1,hg,ln,hn];all_goals ((repeat' (first|apply And.intro|intro _))<;>first|omega|rfl)
    ·simp[Ah,Ey,kG,k4,d1,hg,ln,hn]
  ·rintro S ⟨Ah,O2⟩;simp[Ah]
  ·simp[df]<;>(
    simp[DX])
 ·simp[]<;>(
   simp[Ot,h2])
def Cd(p:Prog)(s:aO×List Entry)(t n:Int):aO×List Entry:=((wB p s.1 t ⟨⟨0,n,0,0⟩,[], -1,false⟩).1,s.2++ [G6 t n])
def l7(p:Prog)(s:aO×List Entry)(l:List Int):aO×List Entry:=l.foldl (fun s u=>Cd p s u 0) s
def WU(p:Prog)(s:aO×List Entry){l:List Int}(h:i<l.length):l7 p s (l.take (i+1))=Cd p (l7 p s (l.take i)) l[i] 0:=by
 unfold l7;rw[fD h,acX];rfl
def Ou(p:Prog)(t:Nat)(s:(aO×List Entry)×List Int)(u:Nat):(aO×List Entry)×List Int:=if s.2.getD u 0=t then(Cd p s.1 u (cg s.1.1 t).code,s.2.set u (-1)) else s
def rF(p:Prog)(t:Nat)(s:(aO×List Entry)×List Int)(k:Nat):(aO×List Entry)×List Int:=(List.range k).foldl (Ou p t) s
def Ov(p:Prog)(t:Nat)(s:(aO×List Entry)×List Int)(k:Nat):rF p t s (k+1)=Ou p t (rF p t s k) k:=by
 unfold rF;rw[acH,acX];rfl
def Sl(p:Prog)(m:aO)(o:cS)(l:bX)(js:List Int)(rc:List Entry)(t:Nat):aO×cS×bX×List Int×List Entry:=
 ((rF p t (l7 p (m,rc) (iK l t 4).2,js) 4).1.1,o,(iK l t 4).1,(rF p t (l7 p (m,rc) (iK l t 4).2,js) 4).2,(rF p t (l7 p (m,rc) (iK l t 4).2,js) 4).1.2)
def xp(p:Prog)(s:aO×List Entry): ∀l:List Int,(l7 p s l).2.length=s.2.length+l.length
 | []=>rfl
 |x::l=>by
  have:l7 p s (x::l)=l7 p (Cd p s x 0) l:=rfl;rw[this,xp p _ l];simp[Cd];omega
def Bc(p:Prog)(t:Nat)(s:(aO×List Entry)×List Int): ∀k,(rF p t s k).1.2.length<=s.1.2.length+k
 |0=>aaI _
 |k+1=>by
  rw[Ov];have:=Bc p t s k;unfold Ou;split
  ·simp[Cd];omega
  ·omega
def ID(p:Prog)(d:Int)(lay:Layout)(o:cS)(l:bX)(J:Nat)(js:List Int)(s:aO×List Entry)(h:bh)(k:Nat):Prop:=
 ∃(S:Nat->Prop) (T:Nat) (vB vC vL:V) (es:List V) (R:Nat),wD p d lay o l js h k 0 S T vB vC vL es s.1 R s.2 J
def ID.mono{p:Prog}{d:Int}{lay:Layout}{o:cS}{l:bX}{J:Nat}{js:List Int}{s:aO×List Entry}{h h':bh}{k k':Nat}(H:ID p d lay o l J js s h k)(hk:k<=k')(hh: ∀i,i<k->h' i=h i):ID p d lay o l J js s h' k':=by
 obtain⟨S,T,vB,vC,vL,es,R,⟨h1,h2,h3,h4,h5,h6,h7,h8,h9,zx⟩⟩:=H;have:=h2.lt;exact⟨S,T,vB,vC,vL,es,R,⟨by rw[hh _ h8.1,h1],h2.mono hk fun i hi=>hh i (this i hi),h3,h4,by rw[hh _ h8.2.1,h5],by rw[hh _ h8.2.2,h6],h7,⟨by omega,by omega,by omega⟩,h9,zx⟩⟩
def ID.a1s(H:ID p d lay o l J js s h k)(hd:d<=1099511627776)(t n:Int)(hn:0<=n/\n<=65535)(hc:s.2.length<=1000000):
  ∃h' k',cL X 210 [.ptr 0 0 0,t,.int .u16 n] h k=some (.dM [],h',k')/\ID p d lay o l J js (Cd p s t n) h' k'/\k<=k':=by
 obtain⟨S,T,vB,vC,vL,es,R,HR⟩:=H;obtain⟨v,h',k',e1,rfl,S',T',XS,XT,XU,Ae,R',RY,e3,_⟩:=aey .bad t n _ _ _ _ _ _ h k 0 S T vB vC vL es s.1 R s.2 J HR hd hn hc;exact⟨h',k',e1,⟨S',T',XS,XT,XU,Ae,R',RY⟩,e3⟩
def wD.ba8                 (H:wD p d lay o l js h k b S T vB vC vL es m R rc J) (hk:k<=k') (hl:js'.length=4)
  (hJ:h' J=some ⟨1,js'.map (V.int .i64),false⟩) (hh: ∀i,i<k->i≠J->h' i=h i):wD p d lay o l js' h' k' b S T vB vC vL es m R rc J:=by
 obtain⟨h1,h2,h3,h4,h5,h6,h7,h8,h9,zx⟩:=H;have:=h2.lt;exact⟨by rw[hh _ h8.1 h9.2.1,h1],h2.mono hk fun i hi=>hh i (this i hi) fun e=>zx.2.2 (e▸hi),h3,h4,by rw[hh _ h8.2.1 h9.2.2,h5],hJ,hl,⟨by omega,by omega,by omega⟩,h9,zx⟩
def ID.UF(H:ID p d lay o l J js s h k)(ho:uo o)(hl:jR l):alz p d lay (s.1,o,l,js,s.2) (.dM []) h k:=by
 obtain⟨S,T,vB,vC,vL,es,R,HR⟩:=H;exact⟨rfl,S,T,vB,vC,vL,es,R,J,HR,ho,hl⟩
def zj{l:bX}(h:jR l)(t:Int): ∀i,(iK l t i).2.length<=i
 |0=>by simp[DX]
 |i+1=>by
  have:=zj h t i;rw[JZ];simp only;split
  ·simp;omega
  ·omega
@[simp]def TU(aP:List Instr)(aN:List Int)(aQ:List (List Int))(aE:List Int)(aG:Int)(aJ:List Cell)(aK:List cy)(az:List Thread)(bk aX:List Int)(aY:List (List Int))(aM:List (List Canon))(aH:List fO)(aS:List Output)(bD:List Int)(bE:List (List Int))(cC:List Entry)(cz:List Int)(t d:Int)(HG:db ⟨aP,aN,aQ⟩ d ⟨⟨aE,aG⟩,⟨aJ,aK⟩,az⟩)(hd:d<=1099511627776)(ho:uo ⟨bk,aX,aY,⟨aM,aH⟩,aS⟩)(hl:jR ⟨bD,bE⟩)(hj:cz.length=4)(hrc:cC.length<=900010)(pn:0<=t/\t<4): ∃(m2:aO) (o2:cS) (l2:bX) (wC:List Int) (O9:List Entry),oF X [(0,16,65),(0,17,3),(0,7,112)] 139 18 ((KKJ aP aN aQ aE aG aJ aK az bk aX aY aM aH aS bD bE cC cz:V)) [t]=some (18,(KKJ aP aN aQ m2.layout.aD m2.layout.key m2.memory.cells m2.memory.lines m2.threads o2.clock o2.random o2.dp o2.files.data o2.files.opens o2.dG l2.owner l2.queue O9 wC:V),[],.dM [])/\db ⟨aP,aN,aQ⟩ d m2/\m2.layout=⟨aE,aG⟩/\uo o2/\jR l2/\wC.length=4/\Sl ⟨aP,aN,aQ⟩ ⟨⟨aE,aG⟩,⟨aJ,aK⟩,az⟩ ⟨bk,aX,aY,⟨aM,aH⟩,aS⟩ ⟨bD,bE⟩ cz cC t.toNat=(m2,o2,l2,wC,O9):=by
 have rE:az.length=4:=HG.len;obtain⟨⟨Iy,Iz⟩,nx,cu⟩: ∃a b,iK ⟨bD,bE⟩ t 4=(a,b):=⟨_,_,rfl⟩;have zy:=Ll bD bE t hl;have hnx:=zj hl t 4;have zR:=(C2 hl t 4).1;rw[cu]at zy hnx zR;simp only at zy hnx zR;obtain⟨tn,rfl⟩:=aaG pn.1;have tn4:tn<4:=by omega
 have bba:(tn:Int)<4:=by omega
 have main: ∃v h' k',cL X 139 [.ptr 0 0 0,.int .i64 tn] (ma X 139 18 ((KKJ aP aN aQ aE aG aJ aK az bk aX aY aM aH aS bD bE cC cz:V))) 4=some (v,h',k')/\alz ⟨aP,aN,aQ⟩ d ⟨aE,aG⟩ (Sl ⟨aP,aN,aQ⟩ ⟨⟨aE,aG⟩,⟨aJ,aK⟩,az⟩ ⟨bk,aX,aY,⟨aM,aH⟩,aS⟩ ⟨bD,bE⟩ cz cC tn) v h' k':=by
  obtain⟨s0,Mf⟩: ∃s0:aO×List Entry,(⟨⟨aE,aG⟩,⟨aJ,aK⟩,az⟩,cC)=s0:=⟨_,rfl⟩;have hex:Sl ⟨aP,aN,aQ⟩ ⟨⟨aE,aG⟩,⟨aJ,aK⟩,az⟩ ⟨bk,aX,aY,⟨aM,aH⟩,aS⟩ ⟨bD,bE⟩ cz cC tn=((rF ⟨aP,aN,aQ⟩ tn (l7 ⟨aP,aN,aQ⟩ s0 nx,cz) 4).1.1,⟨bk,aX,aY,⟨aM,aH⟩,aS⟩,⟨Iy,Iz⟩,(rF ⟨aP,aN,aQ⟩ tn (l7 ⟨aP,aN,aQ⟩ s0 nx,cz) 4).2,(rF ⟨aP,aN,aQ⟩ tn (l7 ⟨aP,aN,aQ⟩ s0 nx,cz) 4).1.2):=by
   unfold Sl;rw[cu,Mf]
  rw[hex];have brg:s0.2.length<=900010:=by rw[<-Mf];exact hrc
  refine aaB ?_;simp[rE,hj,zy];refine lS (fun i S=>(S.f 0= .ptr 0 0 0/\S.f 1= .int .i64 tn/\S.f 23= .sl false (nx.map (V.int .i64))/\S.f 24= .int .i64 nx.length/\S.f 25= .int .i64 i)/\ID ⟨aP,aN,aQ⟩ d ⟨aE,aG⟩ ⟨bk,aX,aY,⟨aM,aH⟩,aS⟩ ⟨Iy,Iz⟩ 2 cz (l7 ⟨aP,aN,aQ⟩ s0 (nx.take i)) S.h S.n) nx.length ?_ 0 (by omega) ?_
  ·rintro i S hi ⟨⟨f0,f1,f23,f24,f25⟩,HI⟩;by_cases gY:i<nx.length
   ·have bL:(i:Int)<nx.length:=by omega
    obtain⟨h2,k2,e2,HI2,xX⟩:=(HI.mono (k':=S.n+7) (h':=S.h) (by omega) fun _ _=>rfl).a1s hd (nx[i]) 0 (by omega) (by rw[xp];simp;omega);have hw:IntKind.i64.wrap ((i:Int)+1)=i+1:=wrap_i64 (by omega);simp[f0,f1,f23,f24,f25,gY,bL,e2,hw];rw[WU _ _ gY];exact HI2.mono (by omega) fun _ _=>rfl
   ·have bL: ¬(i:Int)<nx.length:=by omega
    have xy:i=nx.length:=by omega
    rw[xy,abi]at HI;have HI0:=HI;obtain⟨S0,T,vB,vC,vL,es,R,HR⟩:=HI0;have hb:=HR.box;unfold zX at hb;have Af:=HR.xE;simp[f0,f24,f25,bL,hb];refine lS (fun i S=>(S.f 0= .ptr 0 0 0/\S.f 1= .int .i64 tn/\S.f 36= .cu 2 0 4/\S.f 37= .int .i64 4/\S.f 38= .int .i64 i)/\ID ⟨aP,aN,aQ⟩ d ⟨aE,aG⟩ ⟨bk,aX,aY,⟨aM,aH⟩,aS⟩ ⟨Iy,Iz⟩ 2 (rF ⟨aP,aN,aQ⟩ tn (l7 ⟨aP,aN,aQ⟩ s0 nx,cz) i).2 (rF ⟨aP,aN,aQ⟩ tn (l7 ⟨aP,aN,aQ⟩ s0 nx,cz) i).1 S.h S.n) 4 ?_ 0 (by omega) ?_
    ·rintro u S2 hu ⟨⟨f0,f1,f36,f37,f38⟩,HJ⟩;have FI:=Ov ⟨aP,aN,aQ⟩ tn (l7 ⟨aP,aN,aQ⟩ s0 nx,cz) u;have tH:=Bc ⟨aP,aN,aQ⟩ tn (l7 ⟨aP,aN,aQ⟩ s0 nx,cz) u;rw[xp]at tH;by_cases gY:u<4
     case neg=>
      have bL: ¬(u:Int)<4:=by omega
      have hu4:u=4:=by omega
      subst hu4;simp[f37,f38];exact(HJ.mono (by omega) fun _ _=>rfl).UF ho zR
     obtain⟨⟨⟨m,O9⟩,wC⟩,kD⟩: ∃z,rF ⟨aP,aN,aQ⟩ tn (l7 ⟨aP,aN,aQ⟩ s0 nx,cz) u=z:=⟨_,rfl⟩;rw[kD]at HJ FI tH;simp only at HJ tH;obtain⟨S3,T,vB,vC,vL,es,R,HR⟩:=id HJ;simp only at HR;have jl:=HR.Sh;have hj3:=HR.xE;have bL:(u:Int)<4:=by omega
     have hw:IntKind.i64.wrap ((u:Int)+1)=u+1:=wrap_i64 (by omega);have SH:u<wC.length:=by omega
     by_cases hju:wC[u]=tn
     case neg=>
      simp[f0,f1,f36,f37,f38,gY,bL,hj3,jl,hju,hw];rw[FI];unfold Ou;rw[if_neg (by simp only[List.getD,aaJ SH,abR];exact hju)];exact HJ.mono (by omega) fun _ _=>rfl
     have bbc:=eq_true hju;have a1u:cg m tn=m.threads[tn]'(by have:=HR.own.ak0;omega):=iS _;have Kp:Ou ⟨aP,aN,aQ⟩ tn ((m,O9),wC) u=(Cd ⟨aP,aN,aQ⟩ (m,O9) u (cg m tn).code,wC.set u (-1)):=if_pos (by simp only[List.getD,aaJ SH,abR];exact hju);have tq:=HR.own.len;have tw:=HR.own.ak0;have hT:=HR.own.row;have hb:=HR.box;unfold zX at hb;obtain⟨vR,OY⟩:=HR.own.ate tn (by omega) (by omega);obtain⟨⟨z1,z2,z3,z4,z5,z6,z7,z8⟩,hz⟩: ∃z,m.threads[tn]'(by omega)=z:=⟨_,rfl⟩;have Uy:=(HR.IB.pg tn (by omega)).code;have aer:rF ⟨aP,aN,aQ⟩ tn (l7 ⟨aP,aN,aQ⟩ s0 nx,cz) (u+1)=(Cd ⟨aP,aN,aQ⟩ (m,O9) u z8,wC.set u (-1)):=by rw[FI,Kp,a1u,hz]
     rw[hz]at OY Uy;simp only at OY Uy;have etn:tn<es.length:=by omega
     obtain⟨h2,k2,e2,HI2,xX⟩:=(HJ.mono (k':=S2.n+21) (h':=S2.h) (by omega) fun _ _=>rfl).a1s hd u z8 (by omega) (by simp only;omega);obtain⟨S4,T4,vB4,vC4,vL4,es4,R4,HR4⟩:=id HI2;have hb4:=HR4.box;unfold zX at hb4;have hj4:=HR4.xE;simp[f0,f1,f36,f37,f38,gY,bL,hj3,jl,bbc,hw,hT,hb,OY,tq,tn4,bba,e2,hb4,hj4];rw[aer];exact⟨S4,T4,vB4,vC4,vL4,es4,R4,HR4.ba8 (by omega) (by simp[jl]) (by simp[aR]) (fun i hi hiJ=>by simp[aR,hiJ])⟩
    ·simp[f0,f1];exact HI.mono (by omega) fun _ _=>rfl
  ·simp;rw[<-Mf];exact⟨_,3,_,_,_,_,1,⟨by simp[aR,zX,l7],kJ.flat (by simp[aR,l7]) rE (by omega),HG,rfl,by simp[aR,l7],by simp[aR],hj,by omega,by omega,by omega⟩⟩
 obtain⟨v,h',k',e,rfl,S3,T3,vB3,vC3,vL3,es3,R3,J3,HR,ho3,hl3⟩:=main;refine⟨_,_,_,_,_,?_,HR.IB,HR.lay,ho3,hl3,HR.Sh,rfl⟩;unfold oF;rw[show 1+(X.fl 139).length=4 from rfl,e];simp only[HR.back];rfl
end Go.Proofs.YtdngefmliibcgaaGreat
