/- part -/
import Derived.Test.YtdngefmliibcgaaGreatV03
set_option linter.all false
set_option maxRecDepth 20000
set_option maxHeartbeats 20000000
namespace Go.Proofs.YtdngefmliibcgaaGreat
open Go Go.Abs Go.Abs.kI Qf
variable  {h h':bh}{k b C L k' o a i r:Nat}{ids:Nat->Nat}{vB vK vT:V}{m:aF}{l xs:List Cell}{c:Cell}{B:Nat->Prop}
def kD.eU(H:kD h k b C L ids vB vK vT m)(hk:k<=k')(hb:h' b=h b)(hC:h' C=h C)(hL:h' L=h L)(hi: ∀j,j<4->h' (ids j)=h (ids j)):
  kD h' k' b C L ids vB vK vT m:=by
 obtain⟨h1,⟨h2,h3,h4⟩,h5,h6,h7,h8,h9⟩:=H;have hl:=h9.lines;refine⟨by rw[hb,h1],⟨by rw[hC,h2],by rw[hL,h3],fun i g=> ?_⟩,h5,h6,h7,⟨by omega,by omega,by omega,fun i hi=>by have:=h8.2.2.2 i hi;omega⟩,h9⟩;rw[hi i (by omega),h4 i g]
def kD.mono(H:kD h k b C L ids vB vK vT m)(hk:k<=k')(hh: ∀i,i<k->h' i=h i):kD h' k' b C L ids vB vK vT m:=
 H.eU hk (hh _ H.lt.1) (hh _ H.lt.2.1) (hh _ H.lt.2.2.1) fun j hj=>hh _ (H.lt.2.2.2 j hj)
def set_cells(h:gm l=true)(hc:oA c=true):gm (l.set o c)=true:=by
 unfold gm at h⊢;rw[aaP]at h⊢;intro x hx;rcases aaX hx with hx|hx
 ·exact h x hx
 ·rw[hx];exact hc
def GM(hM:ud m)(ha:a<512)(hc:oA c=true):ud (mA m a c):=by
 have hf:=pZ hM ha;obtain⟨ht,h4⟩:=si hM ha;have hr:a/4 % 4<(dx m a).lines.length:=by rw[hf.lines];omega
 rw[fJ hr]at ht h4;unfold mA;rw[fJ hr];refine⟨hf.len,by simp[hf.lines],hf.cells,fun i hi=> ?_⟩;have oy:i<(dx m a).lines.length:=by simpa using hi
 by_cases he:a/4 % 4=i
 ·subst he;simp only[aco];have hl:=hf.line _ hr;refine⟨fun e=> ?_,fun _=>⟨?_,?_,?_,?_⟩,set_cells hl.cells hc⟩
  ·simp only at e;omega
  ·simp only;omega
  ·simp only;omega
  ·simp only;omega
  ·simp only[aaN];exact h4
 ·simp only[abU he];exact hf.line i oy
@[simp]def at3(m:V)(addr:Int)(h:bh)(k b C L:Nat)(ids:Nat->Nat)(vB vK vT:V)(mm:aF)(a:Nat)(H:kD h k b C L ids vB vK vT mm)(ha:a<512): ∃h' k' iJ,cL X 273 [.ptr b 0 2,(a:Int)] h k=some ((m7 mm a).e,h',k')/\kD h' k' b C L iJ vB vK vT (dx mm a)/\k<=k'/\(∀j,j<4->iJ j=ids j\/k<=iJ j)/\(∀i,i<k->i≠C->i≠L->(∀j,j<4->i≠ids j)->h' i=h i):=by
 have H1:kD (aR h k (some ⟨2,[KKo 0 0],true⟩)) (k+12) b C L ids vB vK vT mm:=H.mono (by omega) (fun i hi=>by simp[aR];intro e;omega);obtain⟨h1,k1,iv,e1,G,EG,fa,nU⟩:=GL H1 ha;obtain⟨r,hr⟩: ∃r:Nat,a/4 % 4=r:=⟨_,rfl⟩;obtain⟨o,ho⟩: ∃o:Nat,a % 4=o:=⟨_,rfl⟩;have v8:(a:Int).tmod 4=o:=by rw[aaK (by omega)];omega
 have wW:=si H.mem ha;have hf:=pZ H.mem ha;have qH:r<(dx mm a).lines.length:=by rw[hf.lines];omega
 rw[hr]at wW e1;rw[fJ qH]at wW;have jX:=hf.lines;have hL:=G.at_.lines;have H6:=G.at_.line r qH;have hg:=jN (ids:=iv) qH;have hle:(fW iv (dx mm a).lines).length=4:=by rw[jh,jX]
 have h4:=wW.2;have Ez:r<4:=by omega
 have ho4:o<4:=by omega
 have Sd:(o:Int)<4:=by omega
 have ho5:o<((dx mm a).lines[r]).cells.length:=by omega
 have v7:h1 k=some ⟨2,[KKo 0 0],true⟩:=by
  rw[nU k (by omega) (by have:=H.lt.2.1;omega) (by have:=H.lt.2.2.1;omega) (fun j hj=>by have:=H.lt.2.2.2 j hj;omega)];simp[aR]
 have hlm:m7 mm a=((dx mm a).lines[r]).cells[o]:=by
  unfold m7;rw[hr,ho,fJ qH];simp[List.getD,ho5]
 obtain⟨v,h',n',e2,g1,g2,g3⟩:=bC (X:=X) (g:=273) (args:=[.ptr b 0 2,(a:Int)]) (h:=h) (k:=k) (K:=fun v h' n'=>v=(m7 mm a).e/\h'=aR h1 k (some ⟨2,[(m7 mm a).e],true⟩)/\n'=k1) Tryz.func273 rfl rfl (by
  simp[aaE,e1,v8,hL,H6,hg,hle,h4,Ez,ho4,Sd,v7,hlm];exact⟨rfl,rfl⟩)
 subst g1 g2 g3;have un: ∀i,i≠k->aR h1 k (some ⟨2,[(m7 mm a).e],true⟩) i=h1 i:=fun i hi=>by simp[aR,hi]
 refine⟨_,_,iv,e2,G.eU (aaI _) (un _ (by have:=H.lt.1;omega)) (un _ (by have:=H.lt.2.1;omega)) (un _ (by have:=H.lt.2.2.1;omega)) (fun j hj=>un _ ?_),by omega,fun j hj=> ?_,fun i hi hC II uj=> ?_⟩
 ·rcases fa j hj with e|e
  ·rw[e];have:=H.lt.2.2.2 j hj;omega
  ·omega
 ·rcases fa j hj with e|e
  ·exact .inl e
  ·exact .inr (by omega)
 ·rw[un _ (by omega),nU i (by omega) hC II uj];simp[aR];intro e;omega
@[simp]def T6(m:V)(addr ey dp:Int)(h:bh)(k b C L:Nat)(ids:Nat->Nat)(vB vK vT:V)(mm:aF)(a:Nat)(cc:Cell)(H:kD h k b C L ids vB vK vT mm)(ha:a<512)(s9:oA cc=true): ∃h' k' iJ,cL X 251 [.ptr b 0 2,(a:Int),cc.e] h k=some (.dP [],h',k')/\kD h' k' b C L iJ vB vK vT (mA mm a cc)/\k<=k'/\(∀j,j<4->iJ j=ids j\/k<=iJ j)/\(∀i,i<k->i≠C->i≠L->(∀j,j<4->i≠ids j)->h' i=h i):=by
 have H1:kD (aR h k (some ⟨2,[cc.e],true⟩)) (k+5) b C L ids vB vK vT mm:=H.mono (by omega) (fun i hi=>by simp[aR];intro e;omega);obtain⟨h1,k1,iv,e1,G,EG,fa,nU⟩:=GL H1 ha;obtain⟨r,hr⟩: ∃r:Nat,a/4 % 4=r:=⟨_,rfl⟩;obtain⟨o,ho⟩: ∃o:Nat,a % 4=o:=⟨_,rfl⟩;have v8:(a:Int).tmod 4=o:=by rw[aaK (by omega)];omega
 have wW:=si H.mem ha;have hf:=pZ H.mem ha;have qH:r<(dx mm a).lines.length:=by rw[hf.lines];omega
 rw[hr]at wW e1;rw[fJ qH]at wW;have jX:=hf.lines;have hL:=G.at_.lines;have H6:=G.at_.line r qH;have hg:=jN (ids:=iv) qH;have hle:(fW iv (dx mm a).lines).length=4:=by rw[jh,jX]
 have h4:=wW.2;have Ez:r<4:=by omega
 have ho4:o<4:=by omega
 have Sd:(o:Int)<4:=by omega
 have ho5:o<((dx mm a).lines[r]).cells.length:=by omega
 have v7:h1 k=some ⟨2,[cc.e],true⟩:=by
  rw[nU k (by omega) (by have:=H.lt.2.1;omega) (by have:=H.lt.2.2.1;omega) (fun j hj=>by have:=H.lt.2.2.2 j hj;omega)];simp[aR]
 have Fg:=G.sep.li r Ez;have qx: ¬L=iv r:=fun e=>Fg e.symm;obtain⟨v,h',n',e2,g1,g2,g3⟩:=bC (X:=X) (g:=251) (args:=[.ptr b 0 2,(a:Int),cc.e]) (h:=h) (k:=k) (K:=fun v h' n'=>v= .dP []/\h'=aR (aR h1 (iv r) (some ⟨2,(((dx mm a).lines[r]).cells.set o cc).map Cell.e,false⟩)) L (some ⟨3,(fW iv (dx mm a).lines).set r ((KKt ((dx mm a).lines[r]).tag true (.cx (iv r) 0 4):V)),true⟩)/\n'=k1+13) Tryz.func251 rfl rfl (by
  simp[aaE,e1,v8,hL,H6,hg,hle,h4,Ez,ho4,Sd,v7,qx];exact⟨rfl,fun _=>rfl⟩)
 subst g1 g2 g3;have kH:mA mm a cc=⟨(dx mm a).cells,(dx mm a).lines.set r ⟨((dx mm a).lines[r]).tag,true,((dx mm a).lines[r]).cells.set o cc⟩⟩:=by
  unfold mA;rw[hr,ho,fJ qH]
 have hsm:ud (mA mm a cc):=GM H.mem ha s9;have u1: ∀{α:Type} (f:Nat->α) (i:Nat) (v:α),aR f i v i=v:=fun f i v=>by simp[aR]
 have u2: ∀{α:Type} (f:Nat->α) (i j:Nat) (v:α),j≠i->aR f i v j=f j:=fun f i j v kz=>by simp[aR,kz]
 have hic:=G.sep.ci r Ez;refine⟨_,_,iv,e2,⟨?_,⟨?_,?_,fun i hi=> ?_⟩,G.sep,G.bl,G.bi,⟨?_,?_,?_,fun i hi=> ?_⟩,hsm⟩,by omega,fun j hj=> ?_,fun i hi hC II uj=> ?_⟩
 ·rw[u2 _ _ _ _ G.bl.1,u2 _ _ _ _ (fun e=>G.bi r Ez e.symm),G.box]
 ·rw[u2 _ _ _ _ G.sep.cl,u2 _ _ _ _ (fun e=>hic e.symm),G.at_.cells,kH]
 ·rw[u1,kH];have lh:=yU (ids:=iv) (x:=⟨((dx mm a).lines[r]).tag,true,((dx mm a).lines[r]).cells.set o cc⟩) qH;simp only[aaN,h4]at lh;rw[lh]
 ·rw[kH]at hi;simp only[aaN]at hi;have yd:i<4:=by omega
  rw[u2 _ _ _ _ (G.sep.li i yd)];by_cases he:r=i
  ·subst he;rw[u1];simp[kH]
  ·rw[u2 _ _ _ _ (G.sep.ii i r yd Ez (fun e=>he e.symm)),G.at_.line i hi];simp[kH,abU he]
 ·have:=G.lt.1;omega
 ·have:=G.lt.2.1;omega
 ·have:=G.lt.2.2.1;omega
 ·have:=G.lt.2.2.2 i hi;omega
 ·rcases fa j hj with e|e
  ·exact .inl e
  ·exact .inr (by omega)
 ·have kz:i≠iv r:=by
   rcases fa r Ez with e|e
   ·rw[e];exact uj r Ez
   ·omega
  rw[u2 _ _ _ _ II,u2 _ _ _ _ kz,nU i (by omega) hC II uj];simp[aR];intro e;omega
@[simp]def Lj(m:V)(i:Int)(h:bh)(b C L k r:Nat)(ids:Nat->Nat)(vB vK vT:V)(mm:aF)(H:kD h k b C L ids vB vK vT mm)(hr:r<mm.lines.length)(hx:(mm.lines[r]).iW=false):cL X 294 [.ptr b 0 2,(r:Int)] h k=some (.dP [],aR h (k+7) (some ⟨3,[KKt (mm.lines[r]).tag (mm.lines[r]).iW (.cx (ids r) 0 (mm.lines[r]).cells.length)],true⟩),k+28):=by
 have hl:=H.mem.lines;have uF:r<4:=by omega
 have CQ:(r:Int)<4:=by omega
 have hb:=H.box;have hL:=H.at_.lines;have hg:=jN (ids:=ids) hr;have jX:(fW ids mm.lines).length=4:=by rw[jh,hl]
 obtain⟨v,h',n',e1,e2,e3,e4⟩:=bC (X:=X) (g:=294) (args:=[.ptr b 0 2,(r:Int)]) (h:=h) (k:=k) (K:=fun v h' n'=>v= .dP []/\h'=aR h (k+7) (some ⟨3,[KKt (mm.lines[r]).tag (mm.lines[r]).iW (.cx (ids r) 0 (mm.lines[r]).cells.length)],true⟩)/\n'=k+28) Tryz.func294 rfl rfl (by
  simp[aaE,hb,uF,CQ,hL,hg,jX,hx,sy])
 rw[e1,e2,e3,e4]
@[simp]def Lk(m:V)(i:Int)(h:bh)(b C L k r T:Nat)(ids:Nat->Nat)(vB vK vT:V)(mm:aF)(H:kD h k b C L ids vB vK vT mm)(hr:r<mm.lines.length)(hx:(mm.lines[r]).iW=true)(hT:(mm.lines[r]).tag=(T:Int)/\T<128)(h4:(mm.lines[r]).cells.length=4):cL X 294 [.ptr b 0 2,(r:Int)] h k=some (.dP [],aR (aR h (k+7) (some ⟨3,[KKt (mm.lines[r]).tag (mm.lines[r]).iW (.cx (ids r) 0 (mm.lines[r]).cells.length)],true⟩)) C (some ⟨2,(nm mm.cells (T*4) (mm.lines[r]).cells).map Cell.e,false⟩),k+39):=by
 have hl:=H.mem.lines;have hc:=H.mem.len;have uF:r<4:=by omega
 have CQ:(r:Int)<4:=by omega
 have hb:=H.box;have hL:=H.at_.lines;have hC:=H.at_.cells;have H6:=H.at_.line r hr;have hg:=jN (ids:=ids) hr;have jX:(fW ids mm.lines).length=4:=by rw[jh,hl]
 obtain⟨s,hs⟩: ∃s:Nat,T*4=s:=⟨_,rfl⟩;rw[hs];have hTt:=hT.1;have hT2:=hT.2;have DM:IntKind.i64.wrap ((T:Int)*4)=(s:Int):=by rw[wrap_i64 (by omega)];omega
 have bam:=mZ T (by omega);have ati:IntKind.i64.wrap (((T:Int)+1)*4)=(s:Int)+4:=by rw[wrap_i64 (by omega)];omega
 have hle:(s:Int)+4<=512:=by omega
 have hs5:s<=512:=by omega
 have at1:(s:Int)<=512:=by omega
 have hsm:min 4 (512-s)=4:=by omega
 have Yn:s+(512-s)<=512:=by omega
 have ady:=GJ (l:=mm.cells) (k:=s) h4;have e4:List.take 4 (List.map Cell.e (mm.lines[r]).cells)=List.map Cell.e (mm.lines[r]).cells:=aZ (by simp[h4]);rw[e4,acC]at ady;have gZ:=H.lt;have q0: ¬b=k+7:=by omega
 have q1: ¬C=k+7:=by omega
 have q2: ¬ids r=k+7:=by have:=gZ.2.2.2 r uF;omega
 have q3: ¬L=k+7:=by omega
 have q4: ¬k+7=C:=by omega
 have hxc: ∀x∈ (mm.lines[r]).cells.map Cell.e,x.cells.length=2:=fun x hx=>by
  simp only[adC]at hx;obtain⟨c,_,rfl⟩:=hx;rfl
 obtain⟨v,h',n',e1,e2,e3,e5⟩:=bC (X:=X) (g:=294) (args:=[.ptr b 0 2,(r:Int)]) (h:=h) (k:=k) (K:=fun v h' n'=>v= .dP []/\h'=aR (aR h (k+7) (some ⟨3,[KKt (mm.lines[r]).tag (mm.lines[r]).iW (.cx (ids r) 0 (mm.lines[r]).cells.length)],true⟩)) C (some ⟨2,(nm mm.cells s (mm.lines[r]).cells).map Cell.e,false⟩)/\n'=k+39) Tryz.func294 rfl rfl (by
  simp[aaE,hb,uF,CQ,hL,hC,H6,hg,jX,hx,hTt,h4,hc,DM,bam,ati,hle,hs5,at1,hsm,e4,ady,q0,q1,q2,sy])
 rw[e1,e2,e3,e5]
@[simp]def Lm(m:V)(addr:Int)(h:bh)(b C L k a:Nat)(ids:Nat->Nat)(vB vK vT:V)(mm:aF)(H:kD h k b C L ids vB vK vT mm)(ha:a<512)(ht:(dg mm (a/4 % 4)).tag=((a/4:Nat):Int)):cL X 268 [.ptr b 0 2,(a:Int)] h k=some (.dP [.ptr L (a/4 % 4) 0,((a % 4:Nat):Int),.bool true],h,k+64):=by
 obtain⟨n,hn⟩: ∃n:Nat,a/4=n:=⟨_,rfl⟩;rw[hn]at ht⊢;obtain⟨r,hr⟩: ∃r:Nat,n % 4=r:=⟨_,rfl⟩;rw[hr]at ht⊢;obtain⟨o,ho⟩: ∃o:Nat,a % 4=o:=⟨_,rfl⟩;rw[ho];have hl:=H.mem.lines;have hd:(a:Int).tdiv 4=n:=by rw[abD (by omega)];omega
 have hw:IntKind.i64.wrap (n:Int)=n:=wrap_i64 (by omega);have sV:(n:Int).tmod 4=r:=by rw[aaK (by omega)];omega
 have v8:(a:Int).tmod 4=o:=by rw[aaK (by omega)];omega
 have h1:r<mm.lines.length:=by omega
 have uF:r<4:=by omega
 have CQ:(r:Int)<4:=by omega
 have a0: ¬(a:Int)<0:=by omega
 have a5: ¬(512:Int)<=(a:Int):=by omega
 have a6: ¬512<=a:=by omega
 have hb:=H.box;have hL:=H.at_.lines;have hg:=jN (ids:=ids) h1;have jX:(fW ids mm.lines).length=4:=by rw[jh,hl]
 rw[fJ h1]at ht;have h4:=((H.mem.line r h1).some (by omega)).2.2.2;obtain⟨v,h',n',e1,e2,e3,e4⟩:=bC (X:=X) (g:=268) (args:=[.ptr b 0 2,(a:Int)]) (h:=h) (k:=k) (K:=fun v h' n'=>v= .dP [.ptr L r 0,(o:Int),.bool true]/\h'=h/\n'=k+64) Tryz.func268 rfl rfl (by
  simp[aaE,hb,hd,hw,sV,v8,uF,CQ,a0,a5,hL,hg,jX,ht,h4])
 rw[e1,e2,e3,e4]
@[simp]def Ar(m:V)(addr:Int)(h:bh)(b C L k a:Nat)(cs:List Cell)(ids:Nat->Nat)(vB vK vT:V)(mm:aF)(H:kD h k b C L ids vB vK vT mm)(AF:cs.length=512)(ha:a<512)(ht: ¬(dg mm (a/4 % 4)).tag=((a/4:Nat):Int)): ∀(h1:bh) (k1:Nat),cL X 294 [.ptr b 0 2,((a/4 % 4:Nat):Int)] h (k+56)=some (.dP [],h1,k1)->k+56<=k1->h1 b=h b->h1 L=h L->h1 C=some ⟨2,cs.map Cell.e,false⟩->cL X 268 [.ptr b 0 2,(a:Int)] h k=some (.dP [.ptr L (a/4 % 4) 0,((a % 4:Nat):Int),.bool true],aR (aR h1 (k1+16) (some ⟨2,((cs.drop (a/4*4)).take 4).map Cell.e,false⟩)) L (some ⟨3,(fW ids mm.lines).set (a/4 % 4) ((KKt ((a/4:Nat):Int) false (.cx (k1+16) 0 4):V)),true⟩),k1+31):=by
 intro uF k1 hB EG PX hL1 hC1;obtain⟨n,hn⟩: ∃n:Nat,a/4=n:=⟨_,rfl⟩;rw[hn]at ht hB⊢;obtain⟨r,hr⟩: ∃r:Nat,n % 4=r:=⟨_,rfl⟩;rw[hr]at ht hB⊢;obtain⟨o,ho⟩: ∃o:Nat,a % 4=o:=⟨_,rfl⟩;rw[ho];obtain⟨p,hp⟩: ∃p:Nat,n*4=p:=⟨_,rfl⟩;rw[hp];obtain⟨q,hq⟩: ∃q:Nat,p+4=q:=⟨_,rfl⟩;have hl:=H.mem.lines;have hd:(a:Int).tdiv 4=n:=by rw[abD (by omega)];omega
 have hw:IntKind.i64.wrap (n:Int)=n:=wrap_i64 (by omega);have WB:IntKind.i64.wrap ((n:Int)*4)=(p:Int):=by rw[wrap_i64 (by omega)];omega
 have sU:=mZ n (by omega);have hw5:IntKind.i64.wrap (((n:Int)+1)*4)=(q:Int):=by rw[wrap_i64 (by omega)];omega
 have hqp:q-p=4:=by omega
 have p4:p+4<=512:=by omega
 have hq5:q<=512:=by omega
 have WC:(q:Int)<=512:=by omega
 have P4:p<=q:=by omega
 have lS:min 4 (512-p)=4:=by omega
 have jV: ∀x∈List.take 4 (List.drop p (List.map Cell.e cs)),x.cells.length=2:=fun x hx=>by
  have:=abB (aaS hx);simp only[adC]at this;obtain⟨c,_,rfl⟩:=this;rfl
 have sV:(n:Int).tmod 4=r:=by rw[aaK (by omega)];omega
 have v8:(a:Int).tmod 4=o:=by rw[aaK (by omega)];omega
 have h1:r<mm.lines.length:=by omega
 have h1l:r<4:=by omega
 have CQ:(r:Int)<4:=by omega
 have a0: ¬(a:Int)<0:=by omega
 have a5: ¬(512:Int)<=(a:Int):=by omega
 have a6: ¬512<=a:=by omega
 have hb:=H.box;have hL:=H.at_.lines;rw[hb]at PX;rw[hL]at hL1;have hg:=jN (ids:=ids) h1;have jX:(fW ids mm.lines).length=4:=by rw[jh,hl]
 rw[fJ h1]at ht;have gZ:=H.lt;have wM:=H.bl.1;have pS:=H.sep.cl;have a06: ¬L=b:=fun e=>wM e.symm;have UX: ¬L=C:=fun e=>pS e.symm;have q1: ¬b=k1+16:=by omega
 have q2: ¬C=k1+16:=by omega
 have q3: ¬L=k1+16:=by omega
 have q4: ¬k1+16=L:=by omega
 obtain⟨v,h',n',e1,e2,e3,e4⟩:=bC (X:=X) (g:=268) (args:=[.ptr b 0 2,(a:Int)]) (h:=h) (k:=k) (K:=fun v h' n'=>v= .dP [.ptr L r 0,(o:Int),.bool true]/\h'=aR (aR uF (k1+16) (some ⟨2,((cs.drop p).take 4).map Cell.e,false⟩)) L (some ⟨3,(fW ids mm.lines).set r ((KKt (n:Int) false (.cx (k1+16) 0 4):V)),true⟩)/\n'=k1+31) Tryz.func268 rfl rfl (by
  simp[aaE,hb,hB,PX,hL1,hC1,AF,hd,hw,sU,WB,hw5,sV,v8,h1l,CQ,a0,a5,hL,hg,jX,ht,hqp,p4,WC,P4,lS,wM,q1,q3];exact jV)
 rw[e1,e2,e3,e4]
def JX(H:kD h k b C L ids vB vK vT m)(ha:a<512)(ht: ¬(dg m (a/4 % 4)).tag=((a/4:Nat):Int)):
  ∀(h1:bh) (q:Nat),k<=q->h1 C=some ⟨2,(kV m (a/4 % 4)).map Cell.e,false⟩->(∀i,i<k->i≠C->h1 i=h i)->
    kD (aR (aR h1 q (some ⟨2,(((kV m (a/4 % 4)).drop (a/4*4)).take 4).map Cell.e,false⟩)) L (some ⟨3,(fW ids m.lines).set (a/4 % 4) ((KKt ((a/4:Nat):Int) false (.cx q 0 4):V)),true⟩)) (q+6) b C L (aR ids (a/4 % 4) q) vB vK vT (dx m a)/\
    (∀j,j<4->aR ids (a/4 % 4) q j=ids j\/k<=aR ids (a/4 % 4) q j)/\
    (∀i,i<k->i≠C->i≠L->(∀j,j<4->i≠ids j)->aR (aR h1 q (some ⟨2,(((kV m (a/4 % 4)).drop (a/4*4)).take 4).map Cell.e,false⟩)) L (some ⟨3,(fW ids m.lines).set (a/4 % 4) ((KKt ((a/4:Nat):Int) false (.cx q 0 4):V)),true⟩) i=h i):=by
 obtain⟨hb,hA,hS,wM,hbi,gZ,hM⟩:=H;have hl:=hM.lines;have Ez:a/4 % 4<4:=by omega
 have hr:a/4 % 4<m.lines.length:=by omega
 have ef:dx m a=⟨kV m (a/4 % 4),m.lines.set (a/4 % 4) ⟨((a/4:Nat):Int),false,((kV m (a/4 % 4)).drop (a/4*4)).take 4⟩⟩:=by unfold dx;rw[if_neg ht]
 obtain⟨b1,b2⟩:=EU hM Ez;have adz:(((kV m (a/4 % 4)).drop (a/4*4)).take 4).length=4:=by simp only[abR,adX,b1];omega
 have hfm:=pZ hM ha;intro h1 q hq hC nU;rw[ef]at hfm⊢;have lh:=AZ (ids:=ids) (n:=q) (x:=⟨((a/4:Nat):Int),false,((kV m (a/4 % 4)).drop (a/4*4)).take 4⟩) hr;simp only[adz]at lh;have u1: ∀{α:Type} (f:Nat->α) (i:Nat) (v:α),aR f i v i=v:=fun f i v=>by simp[aR]
 have u2: ∀{α:Type} (f:Nat->α) (i j:Nat) (v:α),j≠i->aR f i v j=f j:=fun f i j v kz=>by simp[aR,kz]
 refine⟨⟨?_,⟨?_,?_,fun i hi=> ?_⟩,⟨hS.cl,fun i hi=> ?_,fun i hi=> ?_,fun i j hi hj mj=> ?_⟩,wM,fun i hi=> ?_,⟨by omega,by omega,by omega,fun i hi=> ?_⟩,hfm⟩,fun j hj=> ?_,fun i Jc hiC hiL mj=> ?_⟩
 ·rw[u2 _ _ _ _ wM.1,u2 _ _ _ _ (by omega),nU b gZ.1 wM.2,hb]
 ·rw[u2 _ _ _ _ hS.cl,u2 _ _ _ _ (by omega),hC]
 ·rw[u1,lh]
 ·simp only[aaN]at hi;by_cases he:a/4 % 4=i
  ·subst he;rw[u1,u2 _ _ _ _ (by omega),u1];simp
  ·rw[u2 _ _ _ _ (aaU he),u2 _ _ _ _ (hS.li i (by omega)),u2 _ _ _ _ (by have:=gZ.2.2.2 i (by omega);omega),nU _ (gZ.2.2.2 i (by omega)) (hS.ci i (by omega)),hA.line i hi];simp[abU he]
 ·by_cases he:a/4 % 4=i
  ·subst he;rw[u1];omega
  ·rw[u2 _ _ _ _ (aaU he)];exact hS.ci i hi
 ·by_cases he:a/4 % 4=i
  ·subst he;rw[u1];omega
  ·rw[u2 _ _ _ _ (aaU he)];exact hS.li i hi
 ·by_cases he:a/4 % 4=i
  ·subst he;rw[u1,u2 _ _ _ _ (aaU mj)];have:=gZ.2.2.2 j hj;omega
  ·rw[u2 _ _ _ _ (aaU he)];by_cases X4:a/4 % 4=j
   ·subst X4;rw[u1];have:=gZ.2.2.2 i hi;omega
   ·rw[u2 _ _ _ _ (aaU X4)];exact hS.ii i j hi hj mj
 ·by_cases he:a/4 % 4=i
  ·subst he;rw[u1];omega
  ·rw[u2 _ _ _ _ (aaU he)];exact hbi i hi
 ·by_cases he:a/4 % 4=i
  ·subst he;rw[u1];omega
  ·rw[u2 _ _ _ _ (aaU he)];have:=gZ.2.2.2 i hi;omega
 ·by_cases he:a/4 % 4=j
  ·subst he;rw[u1];exact .inr hq
  ·rw[u2 _ _ _ _ (aaU he)];exact .inl rfl
 ·rw[u2 _ _ _ _ hiL,u2 _ _ _ _ (by omega),nU i Jc hiC]
def DV(H:kD h k b C L ids vB vK vT m)(ha:a<512):
  ∃h' k' iJ,cL X 268 [.ptr b 0 2,(a:Int)] h k=some (.dP [.ptr L (a/4 % 4) 0,((a % 4:Nat):Int),.bool true],h',k')/\kD h' k' b C L iJ vB vK vT (dx m a)/\k<=k'/\
   (∀j,j<4->iJ j=ids j\/k<=iJ j)/\(∀i,i<k->i≠C->i≠L->(∀j,j<4->i≠ids j)->h' i=h i):=by
 have hl:=H.mem.lines;have Ez:a/4 % 4<4:=by omega
 have hr:a/4 % 4<m.lines.length:=by omega
 by_cases ht:(dg m (a/4 % 4)).tag=((a/4:Nat):Int)
 ·have e:=Lm .bad 0 h b C L k a ids vB vK vT m H ha ht;have ef:dx m a=m:=by unfold dx;rw[if_pos ht]
  exact⟨h,k+64,ids,e,by rw[ef];exact H.mono (by omega) (fun _ _=>rfl),by omega,fun j hj=> .inl rfl,fun i _ _ _ _=>rfl⟩
 ·obtain⟨b1,b2⟩:=EU H.mem Ez;have H2:kD h (k+56) b C L ids vB vK vT m:=H.mono (by omega) (fun _ _=>rfl);have u2: ∀{α:Type} (f:Nat->α) (i j:Nat) (v:α),j≠i->aR f i v j=f j:=fun f i j v kz=>by simp[aR,kz]
  have gZ:=H.lt;cases hx:(dg m (a/4 % 4)).iW with
  |false=>
   have eb:kV m (a/4 % 4)=m.cells:=by unfold kV;rw[hx];simp
   rw[fJ hr]at hx;have eB:=Lj .bad 0 h b C L (k+56) (a/4 % 4) ids vB vK vT m H2 hr hx;have e:=Ar .bad 0 h b C L k a (kV m (a/4 % 4)) ids vB vK vT m H b1 ha ht _ _ eB (by omega) (u2 _ _ _ _ (by omega)) (u2 _ _ _ _ (by omega)) (by rw[u2 _ _ _ _ (by omega),eb];exact H.at_.cells);obtain⟨f1,f2,f3⟩:=JX H ha ht (aR h (k+56+7) (some ⟨3,[KKt (m.lines[a/4 % 4]).tag (m.lines[a/4 % 4]).iW (.cx (ids (a/4 % 4)) 0 (m.lines[a/4 % 4]).cells.length)],true⟩)) (k+56+28+16) (by omega) (by rw[u2 _ _ _ _ (by omega),eb];exact H.at_.cells) (fun i hi _=>u2 _ _ _ _ (by omega));exact⟨_,_,_,e,f1.mono (by omega) (fun _ _=>rfl),by omega,f2,f3⟩
  |true=>
   have rI:=hx;rw[fJ hr]at hx;have ya:=H.mem.line _ hr;have hn:(m.lines[a/4 % 4]).tag≠ -1:=fun e=>by rw[(ya.none e).1]at hx;cases hx
   obtain⟨g1,g2,g3,g4⟩:=ya.some hn;have eb:kV m (a/4 % 4)=nm m.cells ((m.lines[a/4 % 4]).tag.toNat*4) (m.lines[a/4 % 4]).cells:=by
    unfold kV;rw[rI,if_pos rfl,fJ hr]
   have eB:=Lk .bad 0 h b C L (k+56) (a/4 % 4) (m.lines[a/4 % 4]).tag.toNat ids vB vK vT m H2 hr hx ⟨by omega,by omega⟩ g4;have hbC:=H.bl.2;have hLC:L≠C:=fun e=>H.sep.cl e.symm;have e:=Ar .bad 0 h b C L k a (kV m (a/4 % 4)) ids vB vK vT m H b1 ha ht _ _ eB (by omega) (by rw[u2 _ _ _ _ hbC,u2 _ _ _ _ (by omega)]) (by rw[u2 _ _ _ _ hLC,u2 _ _ _ _ (by omega)]) (by rw[eb];simp[aR]);obtain⟨f1,f2,f3⟩:=JX H ha ht (aR (aR h (k+56+7) (some ⟨3,[KKt (m.lines[a/4 % 4]).tag (m.lines[a/4 % 4]).iW (.cx (ids (a/4 % 4)) 0 (m.lines[a/4 % 4]).cells.length)],true⟩)) C (some ⟨2,(nm m.cells ((m.lines[a/4 % 4]).tag.toNat*4) (m.lines[a/4 % 4]).cells).map Cell.e,false⟩)) (k+56+39+16) (by omega) (by rw[eb];simp[aR]) (fun i hi kz=>by rw[u2 _ _ _ _ kz,u2 _ _ _ _ (by omega)]);exact⟨_,_,_,e,f1.mono (by omega) (fun _ _=>rfl),by omega,f2,f3⟩
@[simp]def at6(m:V)(addr:Int)(h:bh)(k b C L:Nat)(ids:Nat->Nat)(vB vK vT:V)(mm:aF)(a:Nat)(H:kD h k b C L ids vB vK vT mm)(ha:a<512): ∃h' k' iJ,cL X 292 [.ptr b 0 2,(a:Int)] h k=some (.dP [(m7 mm a).e,.bool true],h',k')/\kD h' k' b C L iJ vB vK vT (dx mm a)/\k<=k'/\(∀j,j<4->iJ j=ids j\/k<=iJ j)/\(∀i,i<k->i≠C->i≠L->(∀j,j<4->i≠ids j)->h' i=h i):=by
 have H1:kD (aR h k (some ⟨2,[KKo 0 0],true⟩)) (k+12) b C L ids vB vK vT mm:=H.mono (by omega) (fun i hi=>by simp[aR];intro e;omega);obtain⟨h1,k1,iv,e1,G,EG,fa,nU⟩:=DV H1 ha;obtain⟨r,hr⟩: ∃r:Nat,a/4 % 4=r:=⟨_,rfl⟩;obtain⟨o,ho⟩: ∃o:Nat,a % 4=o:=⟨_,rfl⟩;have v8:(a:Int).tmod 4=o:=by rw[aaK (by omega)];omega
 have wW:=si H.mem ha;have hf:=pZ H.mem ha;have qH:r<(dx mm a).lines.length:=by rw[hf.lines];omega
 rw[hr]at wW;rw[hr,ho]at e1;rw[fJ qH]at wW;have jX:=hf.lines;have hL:=G.at_.lines;have H6:=G.at_.line r qH;have hg:=jN (ids:=iv) qH;have hle:(fW iv (dx mm a).lines).length=4:=by rw[jh,jX]
 have h4:=wW.2;have Ez:r<4:=by omega
 have ho4:o<4:=by omega
 have Sd:(o:Int)<4:=by omega
 have ho5:o<((dx mm a).lines[r]).cells.length:=by omega
 have v7:h1 k=some ⟨2,[KKo 0 0],true⟩:=by
  rw[nU k (by omega) (by have:=H.lt.2.1;omega) (by have:=H.lt.2.2.1;omega) (fun j hj=>by have:=H.lt.2.2.2 j hj;omega)];simp[aR]
 have hlm:m7 mm a=((dx mm a).lines[r]).cells[o]:=by
  unfold m7;rw[hr,ho,fJ qH];simp[List.getD,ho5]
 obtain⟨v,h',n',e2,g1,g2,g3⟩:=bC (X:=X) (g:=292) (args:=[.ptr b 0 2,(a:Int)]) (h:=h) (k:=k) (K:=fun v h' n'=>v= .dP [(m7 mm a).e,.bool true]/\h'=aR h1 k (some ⟨2,[(m7 mm a).e],true⟩)/\n'=k1+11) Tryz.func292 rfl rfl (by
  simp[aaE,e1,hL,H6,hg,hle,h4,Ez,ho4,Sd,v7,hlm];exact⟨rfl,rfl⟩)
 subst g1 g2 g3;have un: ∀i,i≠k->aR h1 k (some ⟨2,[(m7 mm a).e],true⟩) i=h1 i:=fun i hi=>by simp[aR,hi]
 refine⟨_,_,iv,e2,G.eU (by omega) (un _ (by have:=H.lt.1;omega)) (un _ (by have:=H.lt.2.1;omega)) (un _ (by have:=H.lt.2.2.1;omega)) (fun j hj=>un _ ?_),by omega,fun j hj=> ?_,fun i hi hC II uj=> ?_⟩
 ·rcases fa j hj with e|e
  ·rw[e];have:=H.lt.2.2.2 j hj;omega
  ·omega
 ·rcases fa j hj with e|e
  ·exact .inl e
  ·exact .inr (by omega)
 ·rw[un _ (by omega),nU i (by omega) hC II uj];simp[aR];intro e;omega
@[simp]def alb(m:V)(addr ey dp:Int)(h:bh)(k b C L:Nat)(ids:Nat->Nat)(vB vK vT:V)(mm:aF)(a:Nat)(cc:Cell)(H:kD h k b C L ids vB vK vT mm)(ha:a<512)(s9:oA cc=true): ∃h' k' iJ,cL X 237 [.ptr b 0 2,(a:Int),cc.e] h k=some (.bool true,h',k')/\kD h' k' b C L iJ vB vK vT (mA mm a cc)/\k<=k'/\(∀j,j<4->iJ j=ids j\/k<=iJ j)/\(∀i,i<k->i≠C->i≠L->(∀j,j<4->i≠ids j)->h' i=h i):=by
 have H1:kD (aR h k (some ⟨2,[cc.e],true⟩)) (k+12) b C L ids vB vK vT mm:=H.mono (by omega) (fun i hi=>by simp[aR];intro e;omega);obtain⟨h1,k1,iv,e1,G,EG,fa,nU⟩:=DV H1 ha;obtain⟨r,hr⟩: ∃r:Nat,a/4 % 4=r:=⟨_,rfl⟩;obtain⟨o,ho⟩: ∃o:Nat,a % 4=o:=⟨_,rfl⟩;have v8:(a:Int).tmod 4=o:=by rw[aaK (by omega)];omega
 have wW:=si H.mem ha;have hf:=pZ H.mem ha;have qH:r<(dx mm a).lines.length:=by rw[hf.lines];omega
 rw[hr]at wW;rw[hr,ho]at e1;rw[fJ qH]at wW;have jX:=hf.lines;have hL:=G.at_.lines;have H6:=G.at_.line r qH;have hg:=jN (ids:=iv) qH;have hle:(fW iv (dx mm a).lines).length=4:=by rw[jh,jX]
 have h4:=wW.2;have Ez:r<4:=by omega
 have ho4:o<4:=by omega
 have Sd:(o:Int)<4:=by omega
 have ho5:o<((dx mm a).lines[r]).cells.length:=by omega
 have v7:h1 k=some ⟨2,[cc.e],true⟩:=by
  rw[nU k (by omega) (by have:=H.lt.2.1;omega) (by have:=H.lt.2.2.1;omega) (fun j hj=>by have:=H.lt.2.2.2 j hj;omega)];simp[aR]
 have Fg:=G.sep.li r Ez;have qx: ¬L=iv r:=fun e=>Fg e.symm;obtain⟨v,h',n',e2,g1,g2,g3⟩:=bC (X:=X) (g:=237) (args:=[.ptr b 0 2,(a:Int),cc.e]) (h:=h) (k:=k) (K:=fun v h' n'=>v= .bool true/\h'=aR (aR h1 (iv r) (some ⟨2,(((dx mm a).lines[r]).cells.set o cc).map Cell.e,false⟩)) L (some ⟨3,(fW iv (dx mm a).lines).set r ((KKt ((dx mm a).lines[r]).tag true (.cx (iv r) 0 4):V)),true⟩)/\n'=k1+15) Tryz.func237 rfl rfl (by
  simp[aaE,e1,hL,H6,hg,hle,h4,Ez,ho4,Sd,v7,qx];exact⟨rfl,fun _=>rfl⟩)
 subst g1 g2 g3;have kH:mA mm a cc=⟨(dx mm a).cells,(dx mm a).lines.set r ⟨((dx mm a).lines[r]).tag,true,((dx mm a).lines[r]).cells.set o cc⟩⟩:=by
  unfold mA;rw[hr,ho,fJ qH]
 have hsm:ud (mA mm a cc):=GM H.mem ha s9;have u1: ∀{α:Type} (f:Nat->α) (i:Nat) (v:α),aR f i v i=v:=fun f i v=>by simp[aR]
 have u2: ∀{α:Type} (f:Nat->α) (i j:Nat) (v:α),j≠i->aR f i v j=f j:=fun f i j v kz=>by simp[aR,kz]
 have hic:=G.sep.ci r Ez;refine⟨_,_,iv,e2,⟨?_,⟨?_,?_,fun i hi=> ?_⟩,G.sep,G.bl,G.bi,⟨?_,?_,?_,fun i hi=> ?_⟩,hsm⟩,by omega,fun j hj=> ?_,fun i hi hC II uj=> ?_⟩
 ·rw[u2 _ _ _ _ G.bl.1,u2 _ _ _ _ (fun e=>G.bi r Ez e.symm),G.box]
 ·rw[u2 _ _ _ _ G.sep.cl,u2 _ _ _ _ (fun e=>hic e.symm),G.at_.cells,kH]
 ·rw[u1,kH];have lh:=yU (ids:=iv) (x:=⟨((dx mm a).lines[r]).tag,true,((dx mm a).lines[r]).cells.set o cc⟩) qH;simp only[aaN,h4]at lh;rw[lh]
 ·rw[kH]at hi;simp only[aaN]at hi;have yd:i<4:=by omega
  rw[u2 _ _ _ _ (G.sep.li i yd)];by_cases he:r=i
  ·subst he;rw[u1];simp[kH]
  ·rw[u2 _ _ _ _ (G.sep.ii i r yd Ez (fun e=>he e.symm)),G.at_.line i hi];simp[kH,abU he]
 ·have:=G.lt.1;omega
 ·have:=G.lt.2.1;omega
 ·have:=G.lt.2.2.1;omega
 ·have:=G.lt.2.2.2 i hi;omega
 ·rcases fa j hj with e|e
  ·exact .inl e
  ·exact .inr (by omega)
 ·have kz:i≠iv r:=by
   rcases fa r Ez with e|e
   ·rw[e];exact uj r Ez
   ·omega
  rw[u2 _ _ _ _ II,u2 _ _ _ _ kz,nU i (by omega) hC II uj];simp[aR];intro e;omega
def Ab(B:Nat->Prop)(m:aF):Prop:= ∀r,r<4-> ∀t:Nat,(dg m r).tag=(t:Int)-> ∀o,o<4->((dg m r).iW=false\/B (t*4+o))->(dg m r).cells.getD o ⟨0,0⟩=m.cells.getD (t*4+o) ⟨0,0⟩
def Se(h:k+xs.length<=l.length):(nm l k xs).getD i ⟨0,0⟩=if k<=i/\i<k+xs.length then xs.getD (i-k) ⟨0,0⟩ else l.getD i ⟨0,0⟩:=by
 have hk:(l.take k).length=k:=by simp;omega
 unfold nm;simp only[aaQ];rw[acC];by_cases h1:i<k
 ·rw[aaW (by omega),if_neg (by omega),adI h1]
 ·rw[aaO (by omega),hk];by_cases h2:i<k+xs.length
  ·rw[if_pos (by omega),aaW (by omega)]
  ·rw[if_neg (by omega),aaO (by omega),abX];congr 2;omega
def Og{c:List Cell}{l:List cw}{x:cw}(hr:r<l.length):dg ⟨c,l.set r x⟩ i=if r=i then x else dg ⟨c,l⟩ i:=by
 unfold dg;simp only[aaQ,abN];by_cases e:r=i
 ·subst e;simp[hr]
 ·simp[e]
def GN(c c':List Cell)(l:List cw)(i:Nat):dg ⟨c,l⟩ i=dg ⟨c',l⟩ i:=rfl
def Sf(hM:ud m)(hr:r<4):ada r (dg m r):=by
 have h1:r<m.lines.length:=by rw[hM.lines];exact hr
 rw[fJ h1];exact hM.line r h1
def ad1(hM:ud m)(hr:r<4)(i:Nat):(kV m r).getD i ⟨0,0⟩=if(dg m r).iW=true/\(dg m r).tag=((i/4:Nat):Int) then(dg m r).cells.getD (i % 4) ⟨0,0⟩ else m.cells.getD i ⟨0,0⟩:=by
 unfold kV;by_cases hd:(dg m r).iW=true
 ·have hl:=Sf hM hr;have hn:(dg m r).tag≠ -1:=fun e=>by rw[(hl.none e).1]at hd;cases hd
  obtain⟨g1,g2,g3,g4⟩:=hl.some hn;obtain⟨t,ht⟩:=aaG g1;rw[if_pos hd,Se (by rw[hM.len,g4];omega),g4,ht];simp only[aaH,hd,true_and];by_cases e:t*4<=i/\i<t*4+4
  ·have e2:t=i/4:=by omega
   rw[if_pos e,if_pos (by rw[e2])];congr 1;omega
  ·rw[if_neg e,if_neg (by omega)]
 ·rw[if_neg hd,if_neg (by simp[hd])]
def JY(hM:ud m)(hC:Ab B m)(ha:a<512):Ab B (dx m a):=by
 have h4:m.lines.length=4:=hM.lines;unfold dx;by_cases hit:(dg m (a/4 % 4)).tag=((a/4:Nat):Int)
 ·rw[if_pos hit];exact hC
 rw[if_neg hit];have bg:=ad1 hM (r:=a/4 % 4) (by omega);intro r hr t ht o ho hb;rw[Og (by omega)]at ht hb⊢;by_cases e:a/4 % 4=r
 ·rw[if_pos e]at ht hb⊢;simp only at ht;have et:a/4=t:=by omega
  rw[et];simp only[aaQ];rw[adI ho,abX]
 ·rw[if_neg e,GN _ m.cells]at ht hb⊢;have h1:=hC r hr t ht o ho hb;show _=(kV m (a/4 % 4)).getD (t*4+o) ⟨0,0⟩;rw[bg,if_neg]
  ·exact h1
  ·intro g;have hl:=Sf hM (r:=a/4 % 4) (by omega);have hn:(dg m (a/4 % 4)).tag≠ -1:=by rw[g.2];omega
   have q:=(hl.some hn).2.2.1;rw[g.2]at q;have ya:=Sf hM hr;have hn2:(dg m r).tag≠ -1:=by rw[ht];omega
   have q2:=(ya.some hn2).2.2.1;rw[ht]at q2;omega
def ad2(a:Nat)(c:Cell):mA m a c=⟨(dx m a).cells,(dx m a).lines.set (a/4 % 4) ⟨(dg (dx m a) (a/4 % 4)).tag,true,(dg (dx m a) (a/4 % 4)).cells.set (a % 4) c⟩⟩:=rfl
def JZ(hM:ud m)(hC:Ab B m)(ha:a<512)(hB: ¬B a)(c:Cell):Ab B (mA m a c):=by
 have hf:=pZ hM ha;have hc:=JY hM hC ha;have h4:(dx m a).lines.length=4:=hf.lines;obtain⟨t1,t2⟩:=si hM ha;rw[ad2];intro r hr t ht o ho hb;rw[Og (by omega)]at ht hb⊢;by_cases e:a/4 % 4=r
 ·rw[if_pos e]at ht hb⊢;simp only at ht;have et:a/4=t:=by rw[t1]at ht;omega
  rcases hb with hb|hb
  ·cases hb
  have Lc:a % 4≠o:=fun g=>hB (by rw[show a=t*4+o by omega];exact hb);rw[aaQ,adw Lc,<-List.getD_eq_getElem?_getD];have:=hc (a/4 % 4) (by omega) t (by rw[t1,et]) o ho (.inr hb);exact this
 ·rw[if_neg e,GN _ (dx m a).cells]at ht hb⊢;exact hc r hr t ht o ho hb
def J1(B:Nat->Prop)(c:List Cell):Ab B ⟨c,cm⟩:=fun r hr t ht=>by
 have:(dg ⟨c,cm⟩ r).tag= -1:=by
  have:r=0\/r=1\/r=2\/r=3:=by omega
  rcases this with rfl|rfl|rfl|rfl<;>rfl
 rw[this]at ht;omega
def GO(aD an:List Int)(a:Nat):Prop:=(resolve aD an (a:Int)).2=false
end Go.Proofs.YtdngefmliibcgaaGreat
