/- Part of a proof: F4. -/
import Derived.Test.YtdngefmliibcgaaGreatM14
set_option linter.all false
set_option maxRecDepth 20000
set_option maxHeartbeats 20000000
namespace Go.Proofs.YtdngefmliibcgaaGreat
open Go Go.Abs Go.Abs.kX Qf
variable  {h h':bh}{k b C L k' o a i r:Nat}{ids:Nat->Nat}{vB vK vT:V}{m:aF}{l xs:List Cell}{c:Cell}{B:Nat->Prop}
def kz.eU(H:kz h k b C L ids vB vK vT m)(hk:k<=k')(hb:h' b=h b)(hC:h' C=h C)(hL:h' L=h L)(hi: ∀j,j<4->h' (ids j)=h (ids j)):
  kz h' k' b C L ids vB vK vT m:=by
 obtain⟨h1,⟨h2,h3,h4⟩,h5,h6,h7,h8,h9⟩:=H;have hl:=h9.lines;refine⟨by rw[hb,h1],⟨by rw[hC,h2],by rw[hL,h3],fun i g=> ?_⟩,h5,h6,h7,⟨by omega,by omega,by omega,fun i hi=>by have:=h8.2.2.2 i hi;omega⟩,h9⟩;rw[hi i (by omega),h4 i g]
def kz.mono(H:kz h k b C L ids vB vK vT m)(hk:k<=k')(hh: ∀i,i<k->h' i=h i):kz h' k' b C L ids vB vK vT m:=
 H.eU hk (hh _ H.lt.1) (hh _ H.lt.2.1) (hh _ H.lt.2.2.1) fun j hj=>hh _ (H.lt.2.2.2 j hj)
def set_cells(h:gd l=true)(hc:oG c=true):gd (l.set o c)=true:=by
 unfold gd at h⊢;rw[aaP]at h⊢;intro x hx;rcases aaX hx with hx|hx
 ·exact h x hx
 ·rw[hx];exact hc
def Gs(hM:uf m)(ha:a<512)(hc:oG c=true):uf (mE m a c):=by
 have hf:=qk hM ha;obtain⟨ht,h4⟩:=sd hM ha;have hr:a/4 % 4<(dr m a).lines.length:=by rw[hf.lines];omega
 rw[iq hr]at ht h4;unfold mE;rw[iq hr];refine⟨hf.len,by simp[hf.lines],hf.cells,fun i hi=> ?_⟩;have oE:i<(dr m a).lines.length:=by simpa using hi
 by_cases he:a/4 % 4=i
 ·subst he;simp only[abY];have hl:=hf.line _ hr;refine⟨fun e=> ?_,fun _=>⟨?_,?_,?_,?_⟩,set_cells hl.cells hc⟩
  ·simp only at e;omega
  ·simp only;omega
  ·simp only;omega
  ·simp only;omega
  ·simp only[aaN];exact h4
 ·simp only[abQ he];exact hf.line i oE
@[simp]def as2(m:V)(addr:Int)(h:bh)(k b C L:Nat)(ids:Nat->Nat)(vB vK vT:V)(mm:aF)(a:Nat)(H:kz h k b C L ids vB vK vT mm)(ha:a<512): ∃h' k' iI,cL X 273 [.ptr b 0 2,(a:Int)] h k=some ((nf mm a).e,h',k')/\kz h' k' b C L iI vB vK vT (dr mm a)/\k<=k'/\(∀j,j<4->iI j=ids j\/k<=iI j)/\(∀i,i<k->i≠C->i≠L->(∀j,j<4->i≠ids j)->h' i=h i):=by
 have H1:kz (aR h k (some ⟨2,[KKo 0 0],true⟩)) (k+12) b C L ids vB vK vT mm:=H.mono (by omega) (fun i hi=>by simp[aR];intro e;omega);obtain⟨h1,k1,iv,e1,G,Eo,fg,ot⟩:=Gq H1 ha;obtain⟨r,hr⟩: ∃r:Nat,a/4 % 4=r:=⟨_,rfl⟩;obtain⟨o,ho⟩: ∃o:Nat,a % 4=o:=⟨_,rfl⟩;have vW:(a:Int).tmod 4=o:=by rw[aaK (by omega)];omega
 have wO:=sd H.mem ha;have hf:=qk H.mem ha;have qJ:r<(dr mm a).lines.length:=by rw[hf.lines];omega
 rw[hr]at wO e1;rw[iq qJ]at wO;have jV:=hf.lines;have hL:=G.at_.lines;have Hr:=G.at_.line r qJ;have hg:=jM (ids:=iv) qJ;have hle:(fU iv (dr mm a).lines).length=4:=by rw[jh,jV]
 have h4:=wO.2;have Eg:r<4:=by omega
 have ho4:o<4:=by omega
 have RA:(o:Int)<4:=by omega
 have ho5:o<((dr mm a).lines[r]).cells.length:=by omega
 have xz:h1 k=some ⟨2,[KKo 0 0],true⟩:=by
  rw[ot k (by omega) (by have:=H.lt.2.1;omega) (by have:=H.lt.2.2.1;omega) (fun j hj=>by have:=H.lt.2.2.2 j hj;omega)];simp[aR]
 have hlm:nf mm a=((dr mm a).lines[r]).cells[o]:=by
  unfold nf;rw[hr,ho,iq qJ];simp[List.getD,ho5]
 obtain⟨v,h',n',e2,g1,g2,g3⟩:=bC (X:=X) (g:=273) (args:=[.ptr b 0 2,(a:Int)]) (h:=h) (k:=k) (K:=fun v h' n'=>v=(nf mm a).e/\h'=aR h1 k (some ⟨2,[(nf mm a).e],true⟩)/\n'=k1) Tryz.func273 rfl rfl (by
  simp[aaE,e1,vW,hL,Hr,hg,hle,h4,Eg,ho4,RA,xz,hlm];exact⟨rfl,rfl⟩)
 subst g1 g2 g3;have un: ∀i,i≠k->aR h1 k (some ⟨2,[(nf mm a).e],true⟩) i=h1 i:=fun i hi=>by simp[aR,hi]
 refine⟨_,_,iv,e2,G.eU (aaI _) (un _ (by have:=H.lt.1;omega)) (un _ (by have:=H.lt.2.1;omega)) (un _ (by have:=H.lt.2.2.1;omega)) (fun j hj=>un _ ?_),by omega,fun j hj=> ?_,fun i hi hC Io uk=> ?_⟩
 ·rcases fg j hj with e|e
  ·rw[e];have:=H.lt.2.2.2 j hj;omega
  ·omega
 ·rcases fg j hj with e|e
  ·exact .inl e
  ·exact .inr (by omega)
 ·rw[un _ (by omega),ot i (by omega) hC Io uk];simp[aR];intro e;omega
@[simp]def Tv(m:V)(addr ey dm:Int)(h:bh)(k b C L:Nat)(ids:Nat->Nat)(vB vK vT:V)(mm:aF)(a:Nat)(cc:Cell)(H:kz h k b C L ids vB vK vT mm)(ha:a<512)(s7:oG cc=true): ∃h' k' iI,cL X 251 [.ptr b 0 2,(a:Int),cc.e] h k=some (.dM [],h',k')/\kz h' k' b C L iI vB vK vT (mE mm a cc)/\k<=k'/\(∀j,j<4->iI j=ids j\/k<=iI j)/\(∀i,i<k->i≠C->i≠L->(∀j,j<4->i≠ids j)->h' i=h i):=by
 have H1:kz (aR h k (some ⟨2,[cc.e],true⟩)) (k+5) b C L ids vB vK vT mm:=H.mono (by omega) (fun i hi=>by simp[aR];intro e;omega);obtain⟨h1,k1,iv,e1,G,Eo,fg,ot⟩:=Gq H1 ha;obtain⟨r,hr⟩: ∃r:Nat,a/4 % 4=r:=⟨_,rfl⟩;obtain⟨o,ho⟩: ∃o:Nat,a % 4=o:=⟨_,rfl⟩;have vW:(a:Int).tmod 4=o:=by rw[aaK (by omega)];omega
 have wO:=sd H.mem ha;have hf:=qk H.mem ha;have qJ:r<(dr mm a).lines.length:=by rw[hf.lines];omega
 rw[hr]at wO e1;rw[iq qJ]at wO;have jV:=hf.lines;have hL:=G.at_.lines;have Hr:=G.at_.line r qJ;have hg:=jM (ids:=iv) qJ;have hle:(fU iv (dr mm a).lines).length=4:=by rw[jh,jV]
 have h4:=wO.2;have Eg:r<4:=by omega
 have ho4:o<4:=by omega
 have RA:(o:Int)<4:=by omega
 have ho5:o<((dr mm a).lines[r]).cells.length:=by omega
 have xz:h1 k=some ⟨2,[cc.e],true⟩:=by
  rw[ot k (by omega) (by have:=H.lt.2.1;omega) (by have:=H.lt.2.2.1;omega) (fun j hj=>by have:=H.lt.2.2.2 j hj;omega)];simp[aR]
 have EV:=G.sep.li r Eg;have qy: ¬L=iv r:=fun e=>EV e.symm;obtain⟨v,h',n',e2,g1,g2,g3⟩:=bC (X:=X) (g:=251) (args:=[.ptr b 0 2,(a:Int),cc.e]) (h:=h) (k:=k) (K:=fun v h' n'=>v= .dM []/\h'=aR (aR h1 (iv r) (some ⟨2,(((dr mm a).lines[r]).cells.set o cc).map Cell.e,false⟩)) L (some ⟨3,(fU iv (dr mm a).lines).set r ((KKt ((dr mm a).lines[r]).tag true (.cu (iv r) 0 4):V)),true⟩)/\n'=k1+13) Tryz.func251 rfl rfl (by
  simp[aaE,e1,vW,hL,Hr,hg,hle,h4,Eg,ho4,RA,xz,qy];exact⟨rfl,fun _=>rfl⟩)
 subst g1 g2 g3;have kD:mE mm a cc=⟨(dr mm a).cells,(dr mm a).lines.set r ⟨((dr mm a).lines[r]).tag,true,((dr mm a).lines[r]).cells.set o cc⟩⟩:=by
  unfold mE;rw[hr,ho,iq qJ]
 have hsm:uf (mE mm a cc):=Gs H.mem ha s7;have u1: ∀{α:Type} (f:Nat->α) (i:Nat) (v:α),aR f i v i=v:=fun f i v=>by simp[aR]
 have u2: ∀{α:Type} (f:Nat->α) (i j:Nat) (v:α),j≠i->aR f i v j=f j:=fun f i j v kC=>by simp[aR,kC]
 have hic:=G.sep.ci r Eg;refine⟨_,_,iv,e2,⟨?_,⟨?_,?_,fun i hi=> ?_⟩,G.sep,G.bl,G.bi,⟨?_,?_,?_,fun i hi=> ?_⟩,hsm⟩,by omega,fun j hj=> ?_,fun i hi hC Io uk=> ?_⟩
 ·rw[u2 _ _ _ _ G.bl.1,u2 _ _ _ _ (fun e=>G.bi r Eg e.symm),G.box]
 ·rw[u2 _ _ _ _ G.sep.cl,u2 _ _ _ _ (fun e=>hic e.symm),G.at_.cells,kD]
 ·rw[u1,kD];have lb:=yM (ids:=iv) (x:=⟨((dr mm a).lines[r]).tag,true,((dr mm a).lines[r]).cells.set o cc⟩) qJ;simp only[aaN,h4]at lb;rw[lb]
 ·rw[kD]at hi;simp only[aaN]at hi;have xY:i<4:=by omega
  rw[u2 _ _ _ _ (G.sep.li i xY)];by_cases he:r=i
  ·subst he;rw[u1];simp[kD]
  ·rw[u2 _ _ _ _ (G.sep.ii i r xY Eg (fun e=>he e.symm)),G.at_.line i hi];simp[kD,abQ he]
 ·have:=G.lt.1;omega
 ·have:=G.lt.2.1;omega
 ·have:=G.lt.2.2.1;omega
 ·have:=G.lt.2.2.2 i hi;omega
 ·rcases fg j hj with e|e
  ·exact .inl e
  ·exact .inr (by omega)
 ·have kC:i≠iv r:=by
   rcases fg r Eg with e|e
   ·rw[e];exact uk r Eg
   ·omega
  rw[u2 _ _ _ _ Io,u2 _ _ _ _ kC,ot i (by omega) hC Io uk];simp[aR];intro e;omega
@[simp]def KY(m:V)(i:Int)(h:bh)(b C L k r:Nat)(ids:Nat->Nat)(vB vK vT:V)(mm:aF)(H:kz h k b C L ids vB vK vT mm)(hr:r<mm.lines.length)(hx:(mm.lines[r]).iW=false):cL X 294 [.ptr b 0 2,(r:Int)] h k=some (.dM [],aR h (k+7) (some ⟨3,[KKt (mm.lines[r]).tag (mm.lines[r]).iW (.cu (ids r) 0 (mm.lines[r]).cells.length)],true⟩),k+28):=by
 have hl:=H.mem.lines;have uE:r<4:=by omega
 have CH:(r:Int)<4:=by omega
 have hb:=H.box;have hL:=H.at_.lines;have hg:=jM (ids:=ids) hr;have jV:(fU ids mm.lines).length=4:=by rw[jh,hl]
 obtain⟨v,h',n',e1,e2,e3,e4⟩:=bC (X:=X) (g:=294) (args:=[.ptr b 0 2,(r:Int)]) (h:=h) (k:=k) (K:=fun v h' n'=>v= .dM []/\h'=aR h (k+7) (some ⟨3,[KKt (mm.lines[r]).tag (mm.lines[r]).iW (.cu (ids r) 0 (mm.lines[r]).cells.length)],true⟩)/\n'=k+28) Tryz.func294 rfl rfl (by
  simp[aaE,hb,uE,CH,hL,hg,jV,hx,sy])
 rw[e1,e2,e3,e4]
@[simp]def KZ(m:V)(i:Int)(h:bh)(b C L k r T:Nat)(ids:Nat->Nat)(vB vK vT:V)(mm:aF)(H:kz h k b C L ids vB vK vT mm)(hr:r<mm.lines.length)(hx:(mm.lines[r]).iW=true)(hT:(mm.lines[r]).tag=(T:Int)/\T<128)(h4:(mm.lines[r]).cells.length=4):cL X 294 [.ptr b 0 2,(r:Int)] h k=some (.dM [],aR (aR h (k+7) (some ⟨3,[KKt (mm.lines[r]).tag (mm.lines[r]).iW (.cu (ids r) 0 (mm.lines[r]).cells.length)],true⟩)) C (some ⟨2,(nw mm.cells (T*4) (mm.lines[r]).cells).map Cell.e,false⟩),k+39):=by
 have hl:=H.mem.lines;have hc:=H.mem.len;have uE:r<4:=by omega
 have CH:(r:Int)<4:=by omega
 have hb:=H.box;have hL:=H.at_.lines;have hC:=H.at_.cells;have Hr:=H.at_.line r hr;have hg:=jM (ids:=ids) hr;have jV:(fU ids mm.lines).length=4:=by rw[jh,hl]
 obtain⟨s,hs⟩: ∃s:Nat,T*4=s:=⟨_,rfl⟩;rw[hs];have hTt:=hT.1;have hT2:=hT.2;have Dx:IntKind.i64.wrap ((T:Int)*4)=(s:Int):=by rw[wrap_i64 (by omega)];omega
 have a8y:=nd T (by omega);have asf:IntKind.i64.wrap (((T:Int)+1)*4)=(s:Int)+4:=by rw[wrap_i64 (by omega)];omega
 have hle:(s:Int)+4<=512:=by omega
 have hs5:s<=512:=by omega
 have as0:(s:Int)<=512:=by omega
 have hsm:min 4 (512-s)=4:=by omega
 have XP:s+(512-s)<=512:=by omega
 have acu:=Gn (l:=mm.cells) (k:=s) h4;have e4:List.take 4 (List.map Cell.e (mm.lines[r]).cells)=List.map Cell.e (mm.lines[r]).cells:=aZ (by simp[h4]);rw[e4,acr]at acu;have gY:=H.lt;have q0: ¬b=k+7:=by omega
 have q1: ¬C=k+7:=by omega
 have q2: ¬ids r=k+7:=by have:=gY.2.2.2 r uE;omega
 have q3: ¬L=k+7:=by omega
 have q4: ¬k+7=C:=by omega
 have hxc: ∀x∈ (mm.lines[r]).cells.map Cell.e,x.cells.length=2:=fun x hx=>by
  simp only[adB]at hx;obtain⟨c,_,rfl⟩:=hx;rfl
 obtain⟨v,h',n',e1,e2,e3,e5⟩:=bC (X:=X) (g:=294) (args:=[.ptr b 0 2,(r:Int)]) (h:=h) (k:=k) (K:=fun v h' n'=>v= .dM []/\h'=aR (aR h (k+7) (some ⟨3,[KKt (mm.lines[r]).tag (mm.lines[r]).iW (.cu (ids r) 0 (mm.lines[r]).cells.length)],true⟩)) C (some ⟨2,(nw mm.cells s (mm.lines[r]).cells).map Cell.e,false⟩)/\n'=k+39) Tryz.func294 rfl rfl (by
  simp[aaE,hb,uE,CH,hL,hC,Hr,hg,jV,hx,hTt,h4,hc,Dx,a8y,asf,hle,hs5,as0,hsm,e4,acu,q0,q1,q2,sy])
 rw[e1,e2,e3,e5]
@[simp]def K0(m:V)(addr:Int)(h:bh)(b C L k a:Nat)(ids:Nat->Nat)(vB vK vT:V)(mm:aF)(H:kz h k b C L ids vB vK vT mm)(ha:a<512)(ht:(dZ mm (a/4 % 4)).tag=((a/4:Nat):Int)):cL X 268 [.ptr b 0 2,(a:Int)] h k=some (.dM [.ptr L (a/4 % 4) 0,((a % 4:Nat):Int),.bool true],h,k+64):=by
 obtain⟨n,hn⟩: ∃n:Nat,a/4=n:=⟨_,rfl⟩;rw[hn]at ht⊢;obtain⟨r,hr⟩: ∃r:Nat,n % 4=r:=⟨_,rfl⟩;rw[hr]at ht⊢;obtain⟨o,ho⟩: ∃o:Nat,a % 4=o:=⟨_,rfl⟩;rw[ho];have hl:=H.mem.lines;have hd:(a:Int).tdiv 4=n:=by rw[abD (by omega)];omega
 have hw:IntKind.i64.wrap (n:Int)=n:=wrap_i64 (by omega);have sT:(n:Int).tmod 4=r:=by rw[aaK (by omega)];omega
 have vW:(a:Int).tmod 4=o:=by rw[aaK (by omega)];omega
 have h1:r<mm.lines.length:=by omega
 have uE:r<4:=by omega
 have CH:(r:Int)<4:=by omega
 have a0: ¬(a:Int)<0:=by omega
 have a5: ¬(512:Int)<=(a:Int):=by omega
 have a6: ¬512<=a:=by omega
 have hb:=H.box;have hL:=H.at_.lines;have hg:=jM (ids:=ids) h1;have jV:(fU ids mm.lines).length=4:=by rw[jh,hl]
 rw[iq h1]at ht;have h4:=((H.mem.line r h1).some (by omega)).2.2.2;obtain⟨v,h',n',e1,e2,e3,e4⟩:=bC (X:=X) (g:=268) (args:=[.ptr b 0 2,(a:Int)]) (h:=h) (k:=k) (K:=fun v h' n'=>v= .dM [.ptr L r 0,(o:Int),.bool true]/\h'=h/\n'=k+64) Tryz.func268 rfl rfl (by
  simp[aaE,hb,hd,hw,sT,vW,uE,CH,a0,a5,hL,hg,jV,ht,h4])
 rw[e1,e2,e3,e4]
@[simp]def Am(m:V)(addr:Int)(h:bh)(b C L k a:Nat)(cs:List Cell)(ids:Nat->Nat)(vB vK vT:V)(mm:aF)(H:kz h k b C L ids vB vK vT mm)(Az:cs.length=512)(ha:a<512)(ht: ¬(dZ mm (a/4 % 4)).tag=((a/4:Nat):Int)): ∀(h1:bh) (k1:Nat),cL X 294 [.ptr b 0 2,((a/4 % 4:Nat):Int)] h (k+56)=some (.dM [],h1,k1)->k+56<=k1->h1 b=h b->h1 L=h L->h1 C=some ⟨2,cs.map Cell.e,false⟩->cL X 268 [.ptr b 0 2,(a:Int)] h k=some (.dM [.ptr L (a/4 % 4) 0,((a % 4:Nat):Int),.bool true],aR (aR h1 (k1+16) (some ⟨2,((cs.drop (a/4*4)).take 4).map Cell.e,false⟩)) L (some ⟨3,(fU ids mm.lines).set (a/4 % 4) ((KKt ((a/4:Nat):Int) false (.cu (k1+16) 0 4):V)),true⟩),k1+31):=by
 intro uE k1 hB Eo Ps hL1 hC1;obtain⟨n,hn⟩: ∃n:Nat,a/4=n:=⟨_,rfl⟩;rw[hn]at ht hB⊢;obtain⟨r,hr⟩: ∃r:Nat,n % 4=r:=⟨_,rfl⟩;rw[hr]at ht hB⊢;obtain⟨o,ho⟩: ∃o:Nat,a % 4=o:=⟨_,rfl⟩;rw[ho];obtain⟨p,hp⟩: ∃p:Nat,n*4=p:=⟨_,rfl⟩;rw[hp];obtain⟨q,hq⟩: ∃q:Nat,p+4=q:=⟨_,rfl⟩;have hl:=H.mem.lines;have hd:(a:Int).tdiv 4=n:=by rw[abD (by omega)];omega
 have hw:IntKind.i64.wrap (n:Int)=n:=wrap_i64 (by omega);have V9:IntKind.i64.wrap ((n:Int)*4)=(p:Int):=by rw[wrap_i64 (by omega)];omega
 have tz:=nd n (by omega);have hw5:IntKind.i64.wrap (((n:Int)+1)*4)=(q:Int):=by rw[wrap_i64 (by omega)];omega
 have hqp:q-p=4:=by omega
 have p4:p+4<=512:=by omega
 have hq5:q<=512:=by omega
 have Wa:(q:Int)<=512:=by omega
 have Pz:p<=q:=by omega
 have lO:min 4 (512-p)=4:=by omega
 have m8: ∀x∈List.take 4 (List.drop p (List.map Cell.e cs)),x.cells.length=2:=fun x hx=>by
  have:=abh (aaS hx);simp only[adB]at this;obtain⟨c,_,rfl⟩:=this;rfl
 have sT:(n:Int).tmod 4=r:=by rw[aaK (by omega)];omega
 have vW:(a:Int).tmod 4=o:=by rw[aaK (by omega)];omega
 have h1:r<mm.lines.length:=by omega
 have h1l:r<4:=by omega
 have CH:(r:Int)<4:=by omega
 have a0: ¬(a:Int)<0:=by omega
 have a5: ¬(512:Int)<=(a:Int):=by omega
 have a6: ¬512<=a:=by omega
 have hb:=H.box;have hL:=H.at_.lines;rw[hb]at Ps;rw[hL]at hL1;have hg:=jM (ids:=ids) h1;have jV:(fU ids mm.lines).length=4:=by rw[jh,hl]
 rw[iq h1]at ht;have gY:=H.lt;have wF:=H.bl.1;have pW:=H.sep.cl;have azr: ¬L=b:=fun e=>wF e.symm;have Uw: ¬L=C:=fun e=>pW e.symm;have q1: ¬b=k1+16:=by omega
 have q2: ¬C=k1+16:=by omega
 have q3: ¬L=k1+16:=by omega
 have q4: ¬k1+16=L:=by omega
 obtain⟨v,h',n',e1,e2,e3,e4⟩:=bC (X:=X) (g:=268) (args:=[.ptr b 0 2,(a:Int)]) (h:=h) (k:=k) (K:=fun v h' n'=>v= .dM [.ptr L r 0,(o:Int),.bool true]/\h'=aR (aR uE (k1+16) (some ⟨2,((cs.drop p).take 4).map Cell.e,false⟩)) L (some ⟨3,(fU ids mm.lines).set r ((KKt (n:Int) false (.cu (k1+16) 0 4):V)),true⟩)/\n'=k1+31) Tryz.func268 rfl rfl (by
  simp[aaE,hb,hB,Ps,hL1,hC1,Az,hd,hw,tz,V9,hw5,sT,vW,h1l,CH,a0,a5,hL,hg,jV,ht,hqp,p4,Wa,Pz,lO,wF,q1,q3];exact m8)
 rw[e1,e2,e3,e4]
def JB(H:kz h k b C L ids vB vK vT m)(ha:a<512)(ht: ¬(dZ m (a/4 % 4)).tag=((a/4:Nat):Int)):
  ∀(h1:bh) (q:Nat),k<=q->h1 C=some ⟨2,(kS m (a/4 % 4)).map Cell.e,false⟩->(∀i,i<k->i≠C->h1 i=h i)->
    kz (aR (aR h1 q (some ⟨2,(((kS m (a/4 % 4)).drop (a/4*4)).take 4).map Cell.e,false⟩)) L (some ⟨3,(fU ids m.lines).set (a/4 % 4) ((KKt ((a/4:Nat):Int) false (.cu q 0 4):V)),true⟩)) (q+6) b C L (aR ids (a/4 % 4) q) vB vK vT (dr m a)/\
    (∀j,j<4->aR ids (a/4 % 4) q j=ids j\/k<=aR ids (a/4 % 4) q j)/\
    (∀i,i<k->i≠C->i≠L->(∀j,j<4->i≠ids j)->aR (aR h1 q (some ⟨2,(((kS m (a/4 % 4)).drop (a/4*4)).take 4).map Cell.e,false⟩)) L (some ⟨3,(fU ids m.lines).set (a/4 % 4) ((KKt ((a/4:Nat):Int) false (.cu q 0 4):V)),true⟩) i=h i):=by
 obtain⟨hb,hA,hS,wF,hbi,gY,hM⟩:=H;have hl:=hM.lines;have Eg:a/4 % 4<4:=by omega
 have hr:a/4 % 4<m.lines.length:=by omega
 have ef:dr m a=⟨kS m (a/4 % 4),m.lines.set (a/4 % 4) ⟨((a/4:Nat):Int),false,((kS m (a/4 % 4)).drop (a/4*4)).take 4⟩⟩:=by unfold dr;rw[if_neg ht]
 obtain⟨b1,b2⟩:=EB hM Eg;have acv:(((kS m (a/4 % 4)).drop (a/4*4)).take 4).length=4:=by simp only[abN,adV,b1];omega
 have hfm:=qk hM ha;intro h1 q hq hC ot;rw[ef]at hfm⊢;have lb:=AU (ids:=ids) (n:=q) (x:=⟨((a/4:Nat):Int),false,((kS m (a/4 % 4)).drop (a/4*4)).take 4⟩) hr;simp only[acv]at lb;have u1: ∀{α:Type} (f:Nat->α) (i:Nat) (v:α),aR f i v i=v:=fun f i v=>by simp[aR]
 have u2: ∀{α:Type} (f:Nat->α) (i j:Nat) (v:α),j≠i->aR f i v j=f j:=fun f i j v kC=>by simp[aR,kC]
 refine⟨⟨?_,⟨?_,?_,fun i hi=> ?_⟩,⟨hS.cl,fun i hi=> ?_,fun i hi=> ?_,fun i j hi hj mz=> ?_⟩,wF,fun i hi=> ?_,⟨by omega,by omega,by omega,fun i hi=> ?_⟩,hfm⟩,fun j hj=> ?_,fun i IN hiC hiL mz=> ?_⟩
 ·rw[u2 _ _ _ _ wF.1,u2 _ _ _ _ (by omega),ot b gY.1 wF.2,hb]
 ·rw[u2 _ _ _ _ hS.cl,u2 _ _ _ _ (by omega),hC]
 ·rw[u1,lb]
 ·simp only[aaN]at hi;by_cases he:a/4 % 4=i
  ·subst he;rw[u1,u2 _ _ _ _ (by omega),u1];simp
  ·rw[u2 _ _ _ _ (aaW he),u2 _ _ _ _ (hS.li i (by omega)),u2 _ _ _ _ (by have:=gY.2.2.2 i (by omega);omega),ot _ (gY.2.2.2 i (by omega)) (hS.ci i (by omega)),hA.line i hi];simp[abQ he]
 ·by_cases he:a/4 % 4=i
  ·subst he;rw[u1];omega
  ·rw[u2 _ _ _ _ (aaW he)];exact hS.ci i hi
 ·by_cases he:a/4 % 4=i
  ·subst he;rw[u1];omega
  ·rw[u2 _ _ _ _ (aaW he)];exact hS.li i hi
 ·by_cases he:a/4 % 4=i
  ·subst he;rw[u1,u2 _ _ _ _ (aaW mz)];have:=gY.2.2.2 j hj;omega
  ·rw[u2 _ _ _ _ (aaW he)];by_cases Xw:a/4 % 4=j
   ·subst Xw;rw[u1];have:=gY.2.2.2 i hi;omega
   ·rw[u2 _ _ _ _ (aaW Xw)];exact hS.ii i j hi hj mz
 ·by_cases he:a/4 % 4=i
  ·subst he;rw[u1];omega
  ·rw[u2 _ _ _ _ (aaW he)];exact hbi i hi
 ·by_cases he:a/4 % 4=i
  ·subst he;rw[u1];omega
  ·rw[u2 _ _ _ _ (aaW he)];have:=gY.2.2.2 i hi;omega
 ·by_cases he:a/4 % 4=j
  ·subst he;rw[u1];exact .inr hq
  ·rw[u2 _ _ _ _ (aaW he)];exact .inl rfl
 ·rw[u2 _ _ _ _ hiL,u2 _ _ _ _ (by omega),ot i IN hiC]
def DG(H:kz h k b C L ids vB vK vT m)(ha:a<512):
  ∃h' k' iI,cL X 268 [.ptr b 0 2,(a:Int)] h k=some (.dM [.ptr L (a/4 % 4) 0,((a % 4:Nat):Int),.bool true],h',k')/\kz h' k' b C L iI vB vK vT (dr m a)/\k<=k'/\
   (∀j,j<4->iI j=ids j\/k<=iI j)/\(∀i,i<k->i≠C->i≠L->(∀j,j<4->i≠ids j)->h' i=h i):=by
 have hl:=H.mem.lines;have Eg:a/4 % 4<4:=by omega
 have hr:a/4 % 4<m.lines.length:=by omega
 by_cases ht:(dZ m (a/4 % 4)).tag=((a/4:Nat):Int)
 ·have e:=K0 .bad 0 h b C L k a ids vB vK vT m H ha ht;have ef:dr m a=m:=by unfold dr;rw[if_pos ht]
  exact⟨h,k+64,ids,e,by rw[ef];exact H.mono (by omega) (fun _ _=>rfl),by omega,fun j hj=> .inl rfl,fun i _ _ _ _=>rfl⟩
 ·obtain⟨b1,b2⟩:=EB H.mem Eg;have H2:kz h (k+56) b C L ids vB vK vT m:=H.mono (by omega) (fun _ _=>rfl);have u2: ∀{α:Type} (f:Nat->α) (i j:Nat) (v:α),j≠i->aR f i v j=f j:=fun f i j v kC=>by simp[aR,kC]
  have gY:=H.lt;cases hx:(dZ m (a/4 % 4)).iW with
  |false=>
   have eb:kS m (a/4 % 4)=m.cells:=by unfold kS;rw[hx];simp
   rw[iq hr]at hx;have eB:=KY .bad 0 h b C L (k+56) (a/4 % 4) ids vB vK vT m H2 hr hx;have e:=Am .bad 0 h b C L k a (kS m (a/4 % 4)) ids vB vK vT m H b1 ha ht _ _ eB (by omega) (u2 _ _ _ _ (by omega)) (u2 _ _ _ _ (by omega)) (by rw[u2 _ _ _ _ (by omega),eb];exact H.at_.cells);obtain⟨f1,f2,f3⟩:=JB H ha ht (aR h (k+56+7) (some ⟨3,[KKt (m.lines[a/4 % 4]).tag (m.lines[a/4 % 4]).iW (.cu (ids (a/4 % 4)) 0 (m.lines[a/4 % 4]).cells.length)],true⟩)) (k+56+28+16) (by omega) (by rw[u2 _ _ _ _ (by omega),eb];exact H.at_.cells) (fun i hi _=>u2 _ _ _ _ (by omega));exact⟨_,_,_,e,f1.mono (by omega) (fun _ _=>rfl),by omega,f2,f3⟩
  |true=>
   have rI:=hx;rw[iq hr]at hx;have zR:=H.mem.line _ hr;have hn:(m.lines[a/4 % 4]).tag≠ -1:=fun e=>by rw[(zR.none e).1]at hx;cases hx
   obtain⟨g1,g2,g3,g4⟩:=zR.some hn;have eb:kS m (a/4 % 4)=nw m.cells ((m.lines[a/4 % 4]).tag.toNat*4) (m.lines[a/4 % 4]).cells:=by
    unfold kS;rw[rI,if_pos rfl,iq hr]
   have eB:=KZ .bad 0 h b C L (k+56) (a/4 % 4) (m.lines[a/4 % 4]).tag.toNat ids vB vK vT m H2 hr hx ⟨by omega,by omega⟩ g4;have hbC:=H.bl.2;have hLC:L≠C:=fun e=>H.sep.cl e.symm;have e:=Am .bad 0 h b C L k a (kS m (a/4 % 4)) ids vB vK vT m H b1 ha ht _ _ eB (by omega) (by rw[u2 _ _ _ _ hbC,u2 _ _ _ _ (by omega)]) (by rw[u2 _ _ _ _ hLC,u2 _ _ _ _ (by omega)]) (by rw[eb];simp[aR]);obtain⟨f1,f2,f3⟩:=JB H ha ht (aR (aR h (k+56+7) (some ⟨3,[KKt (m.lines[a/4 % 4]).tag (m.lines[a/4 % 4]).iW (.cu (ids (a/4 % 4)) 0 (m.lines[a/4 % 4]).cells.length)],true⟩)) C (some ⟨2,(nw m.cells ((m.lines[a/4 % 4]).tag.toNat*4) (m.lines[a/4 % 4]).cells).map Cell.e,false⟩)) (k+56+39+16) (by omega) (by rw[eb];simp[aR]) (fun i hi kC=>by rw[u2 _ _ _ _ kC,u2 _ _ _ _ (by omega)]);exact⟨_,_,_,e,f1.mono (by omega) (fun _ _=>rfl),by omega,f2,f3⟩
@[simp]def as5(m:V)(addr:Int)(h:bh)(k b C L:Nat)(ids:Nat->Nat)(vB vK vT:V)(mm:aF)(a:Nat)(H:kz h k b C L ids vB vK vT mm)(ha:a<512): ∃h' k' iI,cL X 292 [.ptr b 0 2,(a:Int)] h k=some (.dM [(nf mm a).e,.bool true],h',k')/\kz h' k' b C L iI vB vK vT (dr mm a)/\k<=k'/\(∀j,j<4->iI j=ids j\/k<=iI j)/\(∀i,i<k->i≠C->i≠L->(∀j,j<4->i≠ids j)->h' i=h i):=by
 have H1:kz (aR h k (some ⟨2,[KKo 0 0],true⟩)) (k+12) b C L ids vB vK vT mm:=H.mono (by omega) (fun i hi=>by simp[aR];intro e;omega);obtain⟨h1,k1,iv,e1,G,Eo,fg,ot⟩:=DG H1 ha;obtain⟨r,hr⟩: ∃r:Nat,a/4 % 4=r:=⟨_,rfl⟩;obtain⟨o,ho⟩: ∃o:Nat,a % 4=o:=⟨_,rfl⟩;have vW:(a:Int).tmod 4=o:=by rw[aaK (by omega)];omega
 have wO:=sd H.mem ha;have hf:=qk H.mem ha;have qJ:r<(dr mm a).lines.length:=by rw[hf.lines];omega
 rw[hr]at wO;rw[hr,ho]at e1;rw[iq qJ]at wO;have jV:=hf.lines;have hL:=G.at_.lines;have Hr:=G.at_.line r qJ;have hg:=jM (ids:=iv) qJ;have hle:(fU iv (dr mm a).lines).length=4:=by rw[jh,jV]
 have h4:=wO.2;have Eg:r<4:=by omega
 have ho4:o<4:=by omega
 have RA:(o:Int)<4:=by omega
 have ho5:o<((dr mm a).lines[r]).cells.length:=by omega
 have xz:h1 k=some ⟨2,[KKo 0 0],true⟩:=by
  rw[ot k (by omega) (by have:=H.lt.2.1;omega) (by have:=H.lt.2.2.1;omega) (fun j hj=>by have:=H.lt.2.2.2 j hj;omega)];simp[aR]
 have hlm:nf mm a=((dr mm a).lines[r]).cells[o]:=by
  unfold nf;rw[hr,ho,iq qJ];simp[List.getD,ho5]
 obtain⟨v,h',n',e2,g1,g2,g3⟩:=bC (X:=X) (g:=292) (args:=[.ptr b 0 2,(a:Int)]) (h:=h) (k:=k) (K:=fun v h' n'=>v= .dM [(nf mm a).e,.bool true]/\h'=aR h1 k (some ⟨2,[(nf mm a).e],true⟩)/\n'=k1+11) Tryz.func292 rfl rfl (by
  simp[aaE,e1,hL,Hr,hg,hle,h4,Eg,ho4,RA,xz,hlm];exact⟨rfl,rfl⟩)
 subst g1 g2 g3;have un: ∀i,i≠k->aR h1 k (some ⟨2,[(nf mm a).e],true⟩) i=h1 i:=fun i hi=>by simp[aR,hi]
 refine⟨_,_,iv,e2,G.eU (by omega) (un _ (by have:=H.lt.1;omega)) (un _ (by have:=H.lt.2.1;omega)) (un _ (by have:=H.lt.2.2.1;omega)) (fun j hj=>un _ ?_),by omega,fun j hj=> ?_,fun i hi hC Io uk=> ?_⟩
 ·rcases fg j hj with e|e
  ·rw[e];have:=H.lt.2.2.2 j hj;omega
  ·omega
 ·rcases fg j hj with e|e
  ·exact .inl e
  ·exact .inr (by omega)
 ·rw[un _ (by omega),ot i (by omega) hC Io uk];simp[aR];intro e;omega
@[simp]def ake(m:V)(addr ey dm:Int)(h:bh)(k b C L:Nat)(ids:Nat->Nat)(vB vK vT:V)(mm:aF)(a:Nat)(cc:Cell)(H:kz h k b C L ids vB vK vT mm)(ha:a<512)(s7:oG cc=true): ∃h' k' iI,cL X 237 [.ptr b 0 2,(a:Int),cc.e] h k=some (.bool true,h',k')/\kz h' k' b C L iI vB vK vT (mE mm a cc)/\k<=k'/\(∀j,j<4->iI j=ids j\/k<=iI j)/\(∀i,i<k->i≠C->i≠L->(∀j,j<4->i≠ids j)->h' i=h i):=by
 have H1:kz (aR h k (some ⟨2,[cc.e],true⟩)) (k+12) b C L ids vB vK vT mm:=H.mono (by omega) (fun i hi=>by simp[aR];intro e;omega);obtain⟨h1,k1,iv,e1,G,Eo,fg,ot⟩:=DG H1 ha;obtain⟨r,hr⟩: ∃r:Nat,a/4 % 4=r:=⟨_,rfl⟩;obtain⟨o,ho⟩: ∃o:Nat,a % 4=o:=⟨_,rfl⟩;have vW:(a:Int).tmod 4=o:=by rw[aaK (by omega)];omega
 have wO:=sd H.mem ha;have hf:=qk H.mem ha;have qJ:r<(dr mm a).lines.length:=by rw[hf.lines];omega
 rw[hr]at wO;rw[hr,ho]at e1;rw[iq qJ]at wO;have jV:=hf.lines;have hL:=G.at_.lines;have Hr:=G.at_.line r qJ;have hg:=jM (ids:=iv) qJ;have hle:(fU iv (dr mm a).lines).length=4:=by rw[jh,jV]
 have h4:=wO.2;have Eg:r<4:=by omega
 have ho4:o<4:=by omega
 have RA:(o:Int)<4:=by omega
 have ho5:o<((dr mm a).lines[r]).cells.length:=by omega
 have xz:h1 k=some ⟨2,[cc.e],true⟩:=by
  rw[ot k (by omega) (by have:=H.lt.2.1;omega) (by have:=H.lt.2.2.1;omega) (fun j hj=>by have:=H.lt.2.2.2 j hj;omega)];simp[aR]
 have EV:=G.sep.li r Eg;have qy: ¬L=iv r:=fun e=>EV e.symm;obtain⟨v,h',n',e2,g1,g2,g3⟩:=bC (X:=X) (g:=237) (args:=[.ptr b 0 2,(a:Int),cc.e]) (h:=h) (k:=k) (K:=fun v h' n'=>v= .bool true/\h'=aR (aR h1 (iv r) (some ⟨2,(((dr mm a).lines[r]).cells.set o cc).map Cell.e,false⟩)) L (some ⟨3,(fU iv (dr mm a).lines).set r ((KKt ((dr mm a).lines[r]).tag true (.cu (iv r) 0 4):V)),true⟩)/\n'=k1+15) Tryz.func237 rfl rfl (by
  simp[aaE,e1,hL,Hr,hg,hle,h4,Eg,ho4,RA,xz,qy];exact⟨rfl,fun _=>rfl⟩)
 subst g1 g2 g3;have kD:mE mm a cc=⟨(dr mm a).cells,(dr mm a).lines.set r ⟨((dr mm a).lines[r]).tag,true,((dr mm a).lines[r]).cells.set o cc⟩⟩:=by
  unfold mE;rw[hr,ho,iq qJ]
 have hsm:uf (mE mm a cc):=Gs H.mem ha s7;have u1: ∀{α:Type} (f:Nat->α) (i:Nat) (v:α),aR f i v i=v:=fun f i v=>by simp[aR]
 have u2: ∀{α:Type} (f:Nat->α) (i j:Nat) (v:α),j≠i->aR f i v j=f j:=fun f i j v kC=>by simp[aR,kC]
 have hic:=G.sep.ci r Eg;refine⟨_,_,iv,e2,⟨?_,⟨?_,?_,fun i hi=> ?_⟩,G.sep,G.bl,G.bi,⟨?_,?_,?_,fun i hi=> ?_⟩,hsm⟩,by omega,fun j hj=> ?_,fun i hi hC Io uk=> ?_⟩
 ·rw[u2 _ _ _ _ G.bl.1,u2 _ _ _ _ (fun e=>G.bi r Eg e.symm),G.box]
 ·rw[u2 _ _ _ _ G.sep.cl,u2 _ _ _ _ (fun e=>hic e.symm),G.at_.cells,kD]
 ·rw[u1,kD];have lb:=yM (ids:=iv) (x:=⟨((dr mm a).lines[r]).tag,true,((dr mm a).lines[r]).cells.set o cc⟩) qJ;simp only[aaN,h4]at lb;rw[lb]
 ·rw[kD]at hi;simp only[aaN]at hi;have xY:i<4:=by omega
  rw[u2 _ _ _ _ (G.sep.li i xY)];by_cases he:r=i
  ·subst he;rw[u1];simp[kD]
  ·rw[u2 _ _ _ _ (G.sep.ii i r xY Eg (fun e=>he e.symm)),G.at_.line i hi];simp[kD,abQ he]
 ·have:=G.lt.1;omega
 ·have:=G.lt.2.1;omega
 ·have:=G.lt.2.2.1;omega
 ·have:=G.lt.2.2.2 i hi;omega
 ·rcases fg j hj with e|e
  ·exact .inl e
  ·exact .inr (by omega)
 ·have kC:i≠iv r:=by
   rcases fg r Eg with e|e
   ·rw[e];exact uk r Eg
   ·omega
  rw[u2 _ _ _ _ Io,u2 _ _ _ _ kC,ot i (by omega) hC Io uk];simp[aR];intro e;omega
def zV(B:Nat->Prop)(m:aF):Prop:= ∀r,r<4-> ∀t:Nat,(dZ m r).tag=(t:Int)-> ∀o,o<4->((dZ m r).iW=false\/B (t*4+o))->(dZ m r).cells.getD o ⟨0,0⟩=m.cells.getD (t*4+o) ⟨0,0⟩
def RB(h:k+xs.length<=l.length):(nw l k xs).getD i ⟨0,0⟩=if k<=i/\i<k+xs.length then xs.getD (i-k) ⟨0,0⟩ else l.getD i ⟨0,0⟩:=by
 have hk:(l.take k).length=k:=by simp;omega
 unfold nw;simp only[aaQ];rw[acr];by_cases h1:i<k
 ·rw[aaV (by omega),if_neg (by omega),adG h1]
 ·rw[aaO (by omega),hk];by_cases h2:i<k+xs.length
  ·rw[if_pos (by omega),aaV (by omega)]
  ·rw[if_neg (by omega),aaO (by omega),abT];congr 2;omega
def NL{c:List Cell}{l:List cy}{x:cy}(hr:r<l.length):dZ ⟨c,l.set r x⟩ i=if r=i then x else dZ ⟨c,l⟩ i:=by
 unfold dZ;simp only[aaQ,abK];by_cases e:r=i
 ·subst e;simp[hr]
 ·simp[e]
def Gt(c c':List Cell)(l:List cy)(i:Nat):dZ ⟨c,l⟩ i=dZ ⟨c',l⟩ i:=rfl
def RC(hM:uf m)(hr:r<4):ab6 r (dZ m r):=by
 have h1:r<m.lines.length:=by rw[hM.lines];exact hr
 rw[iq h1];exact hM.line r h1
def acx(hM:uf m)(hr:r<4)(i:Nat):(kS m r).getD i ⟨0,0⟩=if(dZ m r).iW=true/\(dZ m r).tag=((i/4:Nat):Int) then(dZ m r).cells.getD (i % 4) ⟨0,0⟩ else m.cells.getD i ⟨0,0⟩:=by
 unfold kS;by_cases hd:(dZ m r).iW=true
 ·have hl:=RC hM hr;have hn:(dZ m r).tag≠ -1:=fun e=>by rw[(hl.none e).1]at hd;cases hd
  obtain⟨g1,g2,g3,g4⟩:=hl.some hn;obtain⟨t,ht⟩:=aaG g1;rw[if_pos hd,RB (by rw[hM.len,g4];omega),g4,ht];simp only[aaH,hd,true_and];by_cases e:t*4<=i/\i<t*4+4
  ·have e2:t=i/4:=by omega
   rw[if_pos e,if_pos (by rw[e2])];congr 1;omega
  ·rw[if_neg e,if_neg (by omega)]
 ·rw[if_neg hd,if_neg (by simp[hd])]
def JC(hM:uf m)(hC:zV B m)(ha:a<512):zV B (dr m a):=by
 have h4:m.lines.length=4:=hM.lines;unfold dr;by_cases hit:(dZ m (a/4 % 4)).tag=((a/4:Nat):Int)
 ·rw[if_pos hit];exact hC
 rw[if_neg hit];have bg:=acx hM (r:=a/4 % 4) (by omega);intro r hr t ht o ho hb;rw[NL (by omega)]at ht hb⊢;by_cases e:a/4 % 4=r
 ·rw[if_pos e]at ht hb⊢;simp only at ht;have et:a/4=t:=by omega
  rw[et];simp only[aaQ];rw[adG ho,abT]
 ·rw[if_neg e,Gt _ m.cells]at ht hb⊢;have h1:=hC r hr t ht o ho hb;show _=(kS m (a/4 % 4)).getD (t*4+o) ⟨0,0⟩;rw[bg,if_neg]
  ·exact h1
  ·intro g;have hl:=RC hM (r:=a/4 % 4) (by omega);have hn:(dZ m (a/4 % 4)).tag≠ -1:=by rw[g.2];omega
   have q:=(hl.some hn).2.2.1;rw[g.2]at q;have zR:=RC hM hr;have hn2:(dZ m r).tag≠ -1:=by rw[ht];omega
   have q2:=(zR.some hn2).2.2.1;rw[ht]at q2;omega
def acy(a:Nat)(c:Cell):mE m a c=⟨(dr m a).cells,(dr m a).lines.set (a/4 % 4) ⟨(dZ (dr m a) (a/4 % 4)).tag,true,(dZ (dr m a) (a/4 % 4)).cells.set (a % 4) c⟩⟩:=rfl
def JD(hM:uf m)(hC:zV B m)(ha:a<512)(hB: ¬B a)(c:Cell):zV B (mE m a c):=by
 have hf:=qk hM ha;have hc:=JC hM hC ha;have h4:(dr m a).lines.length=4:=hf.lines;obtain⟨t1,t2⟩:=sd hM ha;rw[acy];intro r hr t ht o ho hb;rw[NL (by omega)]at ht hb⊢;by_cases e:a/4 % 4=r
 ·rw[if_pos e]at ht hb⊢;simp only at ht;have et:a/4=t:=by rw[t1]at ht;omega
  rcases hb with hb|hb
  ·cases hb
  have KR:a % 4≠o:=fun g=>hB (by rw[show a=t*4+o by omega];exact hb);rw[aaQ,acZ KR,<-List.getD_eq_getElem?_getD];have:=hc (a/4 % 4) (by omega) t (by rw[t1,et]) o ho (.inr hb);exact this
 ·rw[if_neg e,Gt _ (dr m a).cells]at ht hb⊢;exact hc r hr t ht o ho hb
def JE(B:Nat->Prop)(c:List Cell):zV B ⟨c,cm⟩:=fun r hr t ht=>by
 have:(dZ ⟨c,cm⟩ r).tag= -1:=by
  have:r=0\/r=1\/r=2\/r=3:=by omega
  rcases this with rfl|rfl|rfl|rfl<;>rfl
 rw[this]at ht;omega
def Gu(aD an:List Int)(a:Nat):Prop:=(resolve aD an (a:Int)).2=false
end Go.Proofs.YtdngefmliibcgaaGreat
