/- Part of a proof: F2. -/
import Derived.Test.YtejohpnpnaljdaaGreatM03
import Derived.Test.YtejohpnpnaljdaaGreatM16
set_option linter.all false
set_option maxRecDepth 20000
set_option maxHeartbeats 20000000
namespace Go.Proofs.YtejohpnpnaljdaaGreat
open Go Go.Abs Go.Abs.lu
theorem pF{α:Type}(f:Nat->α)(a:Nat)(x y:α):aO (aO f a x) a y=aO f a y:=by
 funext i;unfold aO;split<;>rfl
theorem Iq{α:Type}(f:Nat->α)(a b:Nat)(x y:α)(h:a≠b):aO (aO f a x) b y=aO (aO f b y) a x:=by
 funext i;unfold aO;split<;>split<;>first|rfl|(exfalso;omega)
def Eu(ids:Nat->Nat)(i:Nat)(x:cx):V:= .agg [.int .i64 x.tag,.bool x.iw,.bU (ids i) 0 x.cells.length]
def dY(ids:Nat->Nat)(l:List cx):List V:=l.mapIdx (Eu ids)
theorem gX(ids:Nat->Nat)(l:List cx):(dY ids l).length=l.length:=by simp[dY]
theorem jn{ids:Nat->Nat}{l:List cx}{i:Nat}(h:i<l.length)(h':i<(dY ids l).length):(dY ids l)[i]= .agg [.int .i64 (l[i]).tag,.bool (l[i]).iw,.bU (ids i) 0 (l[i]).cells.length]:=by
 simp[dY,Eu]
theorem xd{ids:Nat->Nat}{l:List cx}{i n:Nat}{x:cx}(h:i<l.length):(dY ids l).set i (.agg [.int .i64 x.tag,.bool x.iw,.bU n 0 x.cells.length])=dY (aO ids i n) (l.set i x):=by
 apply List.ext_getElem?;intro j;unfold dY;rw[List.getElem?_set,List.getElem?_mapIdx,List.getElem?_mapIdx,List.getElem?_set];by_cases hj:i=j
 ·subst hj;simp[h,Eu,aO]
 ·rw[if_neg hj,if_neg hj];cases l[j]? with
  |none=>rfl
  |some y=>simp[Eu,aO,Ne.symm hj]
theorem Ae{ids:Nat->Nat}{l:List cx}{i:Nat}{x:cx}(h:i<l.length):(dY ids l).set i (.agg [.int .i64 x.tag,.bool x.iw,.bU (ids i) 0 x.cells.length])=dY ids (l.set i x):=by
 rw[xd h];congr 1;funext j;unfold aO;split
 ·rename_i e;rw[e]
 ·rfl
structure Ir (h:aY) (C L:Nat) (ids:Nat->Nat) (m:aK):Prop where
 cells:h C=some ⟨2,m.cells.map Cell.e,false⟩
 lines:h L=some ⟨3,dY ids m.lines,true⟩
 line: ∀i (g:i<m.lines.length),h (ids i)=some ⟨2,(m.lines[i]).cells.map Cell.e,false⟩
structure Lv (C L:Nat) (ids:Nat->Nat):Prop where
 cl:C≠L
 ci: ∀i,i<4->ids i≠C
 li: ∀i,i<4->ids i≠L
 ii: ∀i j,i<4->j<4->i≠j->ids i≠ids j
@[simp] theorem It(m:V)(addr:Int)(h:aY)(b C L k a:Nat)(ids:Nat->Nat)(vB vK vT:V)(mm:aK)(hb:h b=some ⟨5,[.agg [vB,vK,.bU C 0 512,.bU L 0 4,vT]],true⟩)(hA:Ir h C L ids mm)(hl:mm.lines.length=4)(ha:a<512)(ht:(mm.lines.getD (a/4 % 4) eQ).tag=((a/4:Nat):Int)):cy X 158 [.ptr b 0 2,(a:Int)] h k=some (.ptr L (a/4 % 4) 0,h,k+20):=by
 obtain⟨n,hn⟩: ∃n:Nat,a/4=n:=⟨_,rfl⟩;rw[hn]at ht⊢;obtain⟨r,hr⟩: ∃r:Nat,n % 4=r:=⟨_,rfl⟩;rw[hr]at ht⊢;have hd:(a:Int).tdiv 4=n:=by rw[Int.tdiv_eq_ediv_of_nonneg (by omega)];omega
 have hw:IntKind.i64.wrap (n:Int)=n:=wrap_i64 (by omega);have rX:(n:Int).tmod 4=r:=by rw[Int.tmod_eq_emod_of_nonneg (by omega)];omega
 have h1:r<mm.lines.length:=by omega
 have sV:r<4:=by omega
 have Be:(r:Int)<4:=by omega
 have hL:=hA.lines;have hg:=jn (ids:=ids) h1;have iU:(dY ids mm.lines).length=4:=by rw[gX,hl]
 simp[List.getD,h1]at ht;obtain⟨v,h',n',e1,e2,e3,e4⟩:=bu (X:=X) (g:=158) (args:=[.ptr b 0 2,.int .i64 (a:Int)]) (h:=h) (k:=k) (K:=fun v h' n'=>v= .ptr L r 0/\h'=h/\n'=k+20) Tryz.func158 rfl rfl (by
  simp-implicitDefEqProofs[Nat.add_assoc,hb,hd,hw,rX,sV,Be,hL,hg,iU,ht])
 rw[e1,e2,e3,e4]
@[simp] theorem DC(m:V)(addr:Int)(h:aY)(b C L k a:Nat)(ids:Nat->Nat)(vB vK vT:V)(mm:aK)(hb:h b=some ⟨5,[.agg [vB,vK,.bU C 0 512,.bU L 0 4,vT]],true⟩)(hA:Ir h C L ids mm)(mM:C≠L)(sW:b≠L)(hk:b<k/\C<k/\L<k)(hc:mm.cells.length=512)(hl:mm.lines.length=4)(ha:a<512)(ht: ¬(mm.lines.getD (a/4 % 4) eQ).tag=((a/4:Nat):Int))(hx:(mm.lines.getD (a/4 % 4) eQ).iw=false):cy X 158 [.ptr b 0 2,(a:Int)] h k=some (.ptr L (a/4 % 4) 0,aO (aO h (k+42) (some ⟨2,((mm.cells.drop (a/4*4)).take 4).map Cell.e,false⟩)) L (some ⟨3,(dY ids mm.lines).set (a/4 % 4) (.agg [.int .i64 ((a/4:Nat):Int),.bool false,.bU (k+42) 0 4]),true⟩),k+48):=by
 obtain⟨n,hn⟩: ∃n:Nat,a/4=n:=⟨_,rfl⟩;rw[hn]at ht hx⊢;obtain⟨r,hr⟩: ∃r:Nat,n % 4=r:=⟨_,rfl⟩;rw[hr]at ht hx⊢;have hd:(a:Int).tdiv 4=n:=by rw[Int.tdiv_eq_ediv_of_nonneg (by omega)];omega
 have hw:IntKind.i64.wrap (n:Int)=n:=wrap_i64 (by omega);obtain⟨p,hp⟩: ∃p:Nat,n*4=p:=⟨_,rfl⟩;rw[hp];obtain⟨q,hq⟩: ∃q:Nat,p+4=q:=⟨_,rfl⟩;have Pq:IntKind.i64.wrap ((n:Int)*4)=(p:Int):=by rw[wrap_i64 (by omega)];omega
 have tQ:=cS n (by omega);have hw5:IntKind.i64.wrap (((n:Int)+1)*4)=(q:Int):=by rw[wrap_i64 (by omega)];omega
 have hqp:q-p=4:=by omega
 have p4:p+4<=512:=by omega
 have hq5:q<=512:=by omega
 have Pr:(q:Int)<=512:=by omega
 have la:min 4 (512-p)=4:=by omega
 have kn: ∀x∈List.take 4 (List.drop p (List.map Cell.e mm.cells)),x.cells.length=2:=fun x hx=>by
  have:=List.mem_of_mem_drop (List.mem_of_mem_take hx);simp only[List.mem_map]at this;obtain⟨c,_,rfl⟩:=this;rfl
 have J6:p<=q:=by omega
 have rX:(n:Int).tmod 4=r:=by rw[Int.tmod_eq_emod_of_nonneg (by omega)];omega
 have h1:r<mm.lines.length:=by omega
 have sV:r<4:=by omega
 have Be:(r:Int)<4:=by omega
 have hL:=hA.lines;have hC:=hA.cells;have hg:=jn (ids:=ids) h1;have iU:(dY ids mm.lines).length=4:=by rw[gX,hl]
 simp[List.getD,h1]at ht hx;have amc: ¬L=b:=fun e=>sW e.symm;have Xb: ¬L=C:=fun e=>mM e.symm;have q1: ¬b=k+42:=by omega
 have q2: ¬C=k+42:=by omega
 have q3: ¬L=k+42:=by omega
 have q4: ¬k+42=L:=by omega
 obtain⟨v,h',n',e1,e2,e3,e4⟩:=bu (X:=X) (g:=158) (args:=[.ptr b 0 2,.int .i64 (a:Int)]) (h:=h) (k:=k) (K:=fun v h' n'=>v= .ptr L r 0/\h'=aO (aO h (k+42) (some ⟨2,((mm.cells.drop p).take 4).map Cell.e,false⟩)) L (some ⟨3,(dY ids mm.lines).set r (.agg [(n:Int),.bool false,.bU (k+42) 0 4]),true⟩)/\n'=k+48) Tryz.func158 rfl rfl (by
  simp-implicitDefEqProofs[Nat.add_assoc,hb,hd,hw,tQ,Pq,hw5,rX,sV,Be,hL,hC,hg,iU,ht,hx,hqp,p4,Pr,J6,hc,sW,mM,q3,la,pF];refine⟨kn,fun _=> ?_⟩;rw[Iq h L (k+42) _ _ q3,pF])
 rw[e1,e2,e3,e4]
def l9(l:List Cell)(k:Nat)(xs:List Cell):List Cell:=l.take k++xs++l.drop (k+xs.length)
theorem Ca{l xs:List Cell}{k:Nat}(h4:xs.length=4):(l.map Cell.e).take k++(xs.map Cell.e).take 4++(l.map Cell.e).drop (k+4)=(l9 l k xs).map Cell.e:=by
 unfold l9;have e:(xs.map Cell.e).take 4=xs.map Cell.e:=bn (by simp[h4]);rw[List.map_append,List.map_append,List.map_take,List.map_drop,h4,e]
theorem Cb{l xs:List Cell}{k:Nat}(h:k+xs.length<=l.length):(l9 l k xs).length=l.length:=by
 unfold l9;simp;omega
@[simp] theorem DD(m:V)(addr:Int)(h:aY)(b C L k a T:Nat)(ids:Nat->Nat)(vB vK vT:V)(mm:aK)(hb:h b=some ⟨5,[.agg [vB,vK,.bU C 0 512,.bU L 0 4,vT]],true⟩)(hA:Ir h C L ids mm)(hS:Lv C L ids)(sW:b≠L/\b≠C)(hk:b<k/\C<k/\L<k/\ ∀i,i<4->ids i<k)(hc:mm.cells.length=512)(hl:mm.lines.length=4)(ha:a<512)(ht: ¬(mm.lines.getD (a/4 % 4) eQ).tag=((a/4:Nat):Int))(hx:(mm.lines.getD (a/4 % 4) eQ).iw=true)(hT:(mm.lines.getD (a/4 % 4) eQ).tag=(T:Int)/\T<128)(h4:(mm.lines.getD (a/4 % 4) eQ).cells.length=4):cy X 158 [.ptr b 0 2,(a:Int)] h k=some (.ptr L (a/4 % 4) 0,aO (aO (aO h C (some ⟨2,(l9 mm.cells (T*4) (mm.lines.getD (a/4 % 4) eQ).cells).map Cell.e,false⟩)) (k+57) (some ⟨2,(((l9 mm.cells (T*4) (mm.lines.getD (a/4 % 4) eQ).cells).drop (a/4*4)).take 4).map Cell.e,false⟩)) L (some ⟨3,(dY ids mm.lines).set (a/4 % 4) (.agg [.int .i64 ((a/4:Nat):Int),.bool false,.bU (k+57) 0 4]),true⟩),k+63):=by
 obtain⟨n,hn⟩: ∃n:Nat,a/4=n:=⟨_,rfl⟩;rw[hn]at ht hx hT h4⊢;obtain⟨r,hr⟩: ∃r:Nat,n % 4=r:=⟨_,rfl⟩;rw[hr]at ht hx hT h4⊢;have hd:(a:Int).tdiv 4=n:=by rw[Int.tdiv_eq_ediv_of_nonneg (by omega)];omega
 have hw:IntKind.i64.wrap (n:Int)=n:=wrap_i64 (by omega);obtain⟨p,hp⟩: ∃p:Nat,n*4=p:=⟨_,rfl⟩;rw[hp];obtain⟨q,hq⟩: ∃q:Nat,p+4=q:=⟨_,rfl⟩;obtain⟨s,hs⟩: ∃s:Nat,T*4=s:=⟨_,rfl⟩;rw[hs];have Pq:IntKind.i64.wrap ((n:Int)*4)=(p:Int):=by rw[wrap_i64 (by omega)];omega
 have tQ:=cS n (by omega);have hw5:IntKind.i64.wrap (((n:Int)+1)*4)=(q:Int):=by rw[wrap_i64 (by omega)];omega
 have hT2:=hT.2;have Af:IntKind.i64.wrap ((T:Int)*4)=(s:Int):=by rw[wrap_i64 (by omega)];omega
 have hqp:q-p=4:=by omega
 have p4:p+4<=512:=by omega
 have hq5:q<=512:=by omega
 have Pr:(q:Int)<=512:=by omega
 have J6:p<=q:=by omega
 have hs5:s<=512:=by omega
 have afc:(s:Int)<=512:=by omega
 have hsm:min 4 (512-s)=4:=by omega
 have hs4:s+(512-s)<=512:=by omega
 have rX:(n:Int).tmod 4=r:=by rw[Int.tmod_eq_emod_of_nonneg (by omega)];omega
 have h1:r<mm.lines.length:=by omega
 have sV:r<4:=by omega
 have Be:(r:Int)<4:=by omega
 have hL:=hA.lines;have hC:=hA.cells;have C6:=hA.line r h1;have hg:=jn (ids:=ids) h1;have iU:(dY ids mm.lines).length=4:=by rw[gX,hl]
 have hgt:(mm.lines.getD r eQ)=mm.lines[r]:=by simp[List.getD,h1]
 rw[hgt]at ht hx hT h4⊢;have hTt:=hT.1;have htn: ¬(T:Int)=n:=by rw[<-hTt];exact ht
 have a6y: ¬T=n:=by omega
 have UM:=Ca (l:=mm.cells) (k:=s) h4;have hlen:=Cb (l:=mm.cells) (k:=s) (xs:=(mm.lines[r]).cells) (by omega);rw[hc]at hlen;have amc: ¬L=b:=fun e=>sW.1 e.symm;have a6z: ¬C=b:=fun e=>sW.2 e.symm;have aty:=sW.1;have Ps:=sW.2;have mM:=hS.cl;have Xb: ¬L=C:=fun e=>mM e.symm;have hic:=hS.ci r sV;have Bt:=hS.li r sV;have a60: ¬C=ids r:=fun e=>hic e.symm;have nu: ¬L=ids r:=fun e=>Bt e.symm;have q1: ¬b=k+57:=by omega
 have q2: ¬C=k+57:=by omega
 have q3: ¬L=k+57:=by omega
 have q4: ¬k+57=L:=by omega
 have q5: ¬k+57=C:=by omega
 have la:min 4 (512-p)=4:=by omega
 have hxc: ∀x∈ (mm.lines[r]).cells.map Cell.e,x.cells.length=2:=fun x hx=>by
  simp only[List.mem_map]at hx;obtain⟨c,_,rfl⟩:=hx;rfl
 have e4:List.take 4 (List.map Cell.e (mm.lines[r]).cells)=List.map Cell.e (mm.lines[r]).cells:=bn (by simp[h4]);rw[e4,List.append_assoc]at UM;have ayd:p+4<=s+(4+(508-s)):=by omega
 have kn: ∀x∈List.take 4 (List.drop p (List.map Cell.e (l9 mm.cells s (mm.lines[r]).cells))),x.cells.length=2:=fun x hx=>by
  have:=List.mem_of_mem_drop (List.mem_of_mem_take hx);simp only[List.mem_map]at this;obtain⟨c,_,rfl⟩:=this;rfl
 obtain⟨v,h',n',e1,e2,e3,e4⟩:=bu (X:=X) (g:=158) (args:=[.ptr b 0 2,.int .i64 (a:Int)]) (h:=h) (k:=k) (K:=fun v h' n'=>v= .ptr L r 0/\h'=aO (aO (aO h C (some ⟨2,(l9 mm.cells s (mm.lines[r]).cells).map Cell.e,false⟩)) (k+57) (some ⟨2,(((l9 mm.cells s (mm.lines[r]).cells).drop p).take 4).map Cell.e,false⟩)) L (some ⟨3,(dY ids mm.lines).set r (.agg [(n:Int),.bool false,.bU (k+57) 0 4]),true⟩)/\n'=k+63) Tryz.func158 rfl rfl (by
  simp-implicitDefEqProofs[Nat.add_assoc,hb,hd,hw,tQ,Pq,hw5,Af,rX,sV,Be,hL,hC,C6,hg,iU,hTt,htn,hx,h4,hqp,p4,Pr,J6,hs5,afc,hsm,hc,hlen,e4,UM,aty,Ps,mM,Xb,q3,la,pF];exact⟨kn,fun _=>by rw[Iq _ L (k+57) _ _ q3,pF]⟩)
 rw[e1,e2,e3,e4]
def iD(m:aK)(r:Nat):cx:=m.lines.getD r eQ
def jU(m:aK)(r:Nat):List Cell:=if(iD m r).iw=true then l9 m.cells ((iD m r).tag.toNat*4) (iD m r).cells else m.cells
def cU(m:aK)(a:Nat):aK:=
 if(iD m (a/4 % 4)).tag=((a/4:Nat):Int) then m else
  ⟨jU m (a/4 % 4),m.lines.set (a/4 % 4) ⟨((a/4:Nat):Int),false,((jU m (a/4 % 4)).drop (a/4*4)).take 4⟩⟩
def kX(m:aK)(a:Nat):Cell:=((iD (cU m a) (a/4 % 4)).cells.getD (a % 4) ⟨0,0⟩)
def mz(m:aK)(a:Nat)(c:Cell):aK:=
 ⟨(cU m a).cells,(cU m a).lines.set (a/4 % 4) ⟨(iD (cU m a) (a/4 % 4)).tag,true,(iD (cU m a) (a/4 % 4)).cells.set (a % 4) c⟩⟩
structure ja (h:aY) (k b C L:Nat) (ids:Nat->Nat) (vB vK vT:V) (m:aK):Prop where
 box:h b=some ⟨5,[.agg [vB,vK,.bU C 0 512,.bU L 0 4,vT]],true⟩
 at_:Ir h C L ids m
 sep:Lv C L ids
 bl:b≠L/\b≠C
 bi: ∀i,i<4->ids i≠b
 lt:b<k/\C<k/\L<k/\ ∀i,i<4->ids i<k
 mem:w9 m
theorem Lw{l:List Cell}{p:Nat}(h:eD l=true):eD ((l.drop p).take 4)=true:=by
 unfold eD at h⊢;rw[List.all_eq_true]at h⊢;exact fun x hx=>h x (List.mem_of_mem_drop (List.mem_of_mem_take hx))
theorem FL{l xs:List Cell}{p:Nat}(h:eD l=true)(hx:eD xs=true):eD (l9 l p xs)=true:=by
 unfold eD l9 at*;rw[List.all_eq_true]at h hx⊢;intro x hm;simp only[List.mem_append]at hm;rcases hm with(hm|hm)|hm
 ·exact h x (List.mem_of_mem_take hm)
 ·exact hx x hm
 ·exact h x (List.mem_of_mem_drop hm)
theorem fZ{m:aK}{r:Nat}(h:r<m.lines.length):iD m r=m.lines[r]:=by simp[iD,List.getD,h]
theorem Bf{m:aK}(hM:w9 m){r:Nat}(hr:r<4):(jU m r).length=512/\eD (jU m r)=true:=by
 have h1:r<m.lines.length:=by rw[hM.lines];exact hr
 unfold jU;split
 ·rename_i hd;rw[fZ h1]at hd⊢;have hl:=hM.line r h1;have hn:(m.lines[r]).tag≠ -1:=fun e=>by rw[(hl.none e).1]at hd;cases hd
  obtain⟨g1,g2,g3,g4⟩:=hl.some hn;refine⟨?_,FL hM.cells hl.cells⟩;rw[Cb (by rw[hM.len];omega),hM.len]
 ·exact⟨hM.len,hM.cells⟩
theorem oC{m:aK}(hM:w9 m){a:Nat}(ha:a<512):w9 (cU m a):=by
 unfold cU;split
 ·exact hM
 ·obtain⟨b1,b2⟩:=Bf hM (r:=a/4 % 4) (by omega);refine⟨b1,by simp[hM.lines],b2,fun i hi=> ?_⟩;have nf:i<m.lines.length:=by simpa using hi
  by_cases he:a/4 % 4=i
  ·subst he;simp only[List.getElem_set_self];refine⟨fun e=> ?_,fun _=>⟨?_,?_,?_,?_⟩,Lw b2⟩
   ·simp only at e;omega
   ·simp only;omega
   ·simp only;omega
   ·simp only;omega
   ·simp only[List.length_take,List.length_drop,b1];omega
  ·simp only[List.getElem_set_ne he];exact hM.line i nf
theorem qS{m:aK}(hM:w9 m){a:Nat}(ha:a<512):(iD (cU m a) (a/4 % 4)).tag=((a/4:Nat):Int)/\(iD (cU m a) (a/4 % 4)).cells.length=4:=by
 have hf:=oC hM ha;have h1:a/4 % 4<(cU m a).lines.length:=by rw[hf.lines];omega
 have ht:(iD (cU m a) (a/4 % 4)).tag=((a/4:Nat):Int):=by
  unfold cU;split
  ·assumption
  ·have h2:a/4 % 4<m.lines.length:=by rw[hM.lines];omega
   simp[iD,List.getD,h2]
 refine⟨ht,?_⟩;rw[fZ h1]at ht⊢;exact((hf.line _ h1).some (by omega)).2.2.2
theorem Cc{h:aY}{k b C L:Nat}{ids:Nat->Nat}{vB vK vT:V}{m:aK}(H:ja h k b C L ids vB vK vT m){a:Nat}(ha:a<512):
  ∃h' k' ft,cy X 158 [.ptr b 0 2,(a:Int)] h k=some (.ptr L (a/4 % 4) 0,h',k')/\ja h' k' b C L ft vB vK vT (cU m a)/\k<=k'/\
   (∀j,j<4->ft j=ids j\/k<=ft j)/\(∀i,i<k->i≠C->i≠L->(∀j,j<4->i≠ids j)->h' i=h i):=by
 obtain⟨hb,hA,hS,sW,hbi,eX,hM⟩:=H;have hl:=hM.lines;have AX:a/4 % 4<4:=by omega
 have hr:a/4 % 4<m.lines.length:=by omega
 by_cases ht:(iD m (a/4 % 4)).tag=((a/4:Nat):Int)
 ·have e:=It .bad 0 h b C L k a ids vB vK vT m hb hA hl ha ht;have ef:cU m a=m:=by unfold cU;rw[if_pos ht]
  exact⟨h,k+20,ids,e,⟨hb,by rw[ef];exact hA,hS,sW,hbi,⟨by omega,by omega,by omega,fun i hi=>by have:=eX.2.2.2 i hi;omega⟩,by rw[ef];exact hM⟩,by omega,fun j hj=> .inl rfl,fun i _ _ _ _=>rfl⟩
 ·have ef:cU m a=⟨jU m (a/4 % 4),m.lines.set (a/4 % 4) ⟨((a/4:Nat):Int),false,((jU m (a/4 % 4)).drop (a/4*4)).take 4⟩⟩:=by unfold cU;rw[if_neg ht]
  obtain⟨b1,b2⟩:=Bf hM AX;have UN:(((jU m (a/4 % 4)).drop (a/4*4)).take 4).length=4:=by simp only[List.length_take,List.length_drop,b1];omega
  have hfm:=oC hM ha;have fin: ∀(h1:aY) (q:Nat),k<=q->h1 C=some ⟨2,(jU m (a/4 % 4)).map Cell.e,false⟩->(∀i,i<k->i≠C->h1 i=h i)->
    ja (aO (aO h1 q (some ⟨2,(((jU m (a/4 % 4)).drop (a/4*4)).take 4).map Cell.e,false⟩)) L (some ⟨3,(dY ids m.lines).set (a/4 % 4) (.agg [.int .i64 ((a/4:Nat):Int),.bool false,.bU q 0 4]),true⟩)) (q+6) b C L (aO ids (a/4 % 4) q) vB vK vT (cU m a)/\
    (∀j,j<4->aO ids (a/4 % 4) q j=ids j\/k<=aO ids (a/4 % 4) q j)/\
    (∀i,i<k->i≠C->i≠L->(∀j,j<4->i≠ids j)->aO (aO h1 q (some ⟨2,(((jU m (a/4 % 4)).drop (a/4*4)).take 4).map Cell.e,false⟩)) L (some ⟨3,(dY ids m.lines).set (a/4 % 4) (.agg [.int .i64 ((a/4:Nat):Int),.bool false,.bU q 0 4]),true⟩) i=h i):=by
   intro h1 q hq hC lK;rw[ef]at hfm⊢;have jI:=xd (ids:=ids) (n:=q) (x:=⟨((a/4:Nat):Int),false,((jU m (a/4 % 4)).drop (a/4*4)).take 4⟩) hr;simp only[UN]at jI;have u1: ∀{α:Type} (f:Nat->α) (i:Nat) (v:α),aO f i v i=v:=fun f i v=>by simp[aO]
   have u2: ∀{α:Type} (f:Nat->α) (i j:Nat) (v:α),j≠i->aO f i v j=f j:=fun f i j v iK=>by simp[aO,iK]
   refine⟨⟨?_,⟨?_,?_,fun i hi=> ?_⟩,⟨hS.cl,fun i hi=> ?_,fun i hi=> ?_,fun i j hi hj jk=> ?_⟩,sW,fun i hi=> ?_,⟨by omega,by omega,by omega,fun i hi=> ?_⟩,hfm⟩,fun j hj=> ?_,fun i E6 hiC hiL jk=> ?_⟩
   ·rw[u2 _ _ _ _ sW.1,u2 _ _ _ _ (by omega),lK b eX.1 sW.2,hb]
   ·rw[u2 _ _ _ _ hS.cl,u2 _ _ _ _ (by omega),hC]
   ·rw[u1,jI]
   ·simp only[List.length_set]at hi;by_cases he:a/4 % 4=i
    ·subst he;rw[u1,u2 _ _ _ _ (by omega),u1];simp
    ·rw[u2 _ _ _ _ (Ne.symm he),u2 _ _ _ _ (hS.li i (by omega)),u2 _ _ _ _ (by have:=eX.2.2.2 i (by omega);omega),lK _ (eX.2.2.2 i (by omega)) (hS.ci i (by omega)),hA.line i hi];simp[List.getElem_set_ne he]
   ·by_cases he:a/4 % 4=i
    ·subst he;rw[u1];omega
    ·rw[u2 _ _ _ _ (Ne.symm he)];exact hS.ci i hi
   ·by_cases he:a/4 % 4=i
    ·subst he;rw[u1];omega
    ·rw[u2 _ _ _ _ (Ne.symm he)];exact hS.li i hi
   ·by_cases he:a/4 % 4=i
    ·subst he;rw[u1,u2 _ _ _ _ (Ne.symm jk)];have:=eX.2.2.2 j hj;omega
    ·rw[u2 _ _ _ _ (Ne.symm he)];by_cases MA:a/4 % 4=j
     ·subst MA;rw[u1];have:=eX.2.2.2 i hi;omega
     ·rw[u2 _ _ _ _ (Ne.symm MA)];exact hS.ii i j hi hj jk
   ·by_cases he:a/4 % 4=i
    ·subst he;rw[u1];omega
    ·rw[u2 _ _ _ _ (Ne.symm he)];exact hbi i hi
   ·by_cases he:a/4 % 4=i
    ·subst he;rw[u1];omega
    ·rw[u2 _ _ _ _ (Ne.symm he)];have:=eX.2.2.2 i hi;omega
   ·by_cases he:a/4 % 4=j
    ·subst he;rw[u1];exact .inr hq
    ·rw[u2 _ _ _ _ (Ne.symm he)];exact .inl rfl
   ·rw[u2 _ _ _ _ hiL,u2 _ _ _ _ (by omega),lK i E6 hiC]
  cases hx:(iD m (a/4 % 4)).iw with
  |false=>
   have e:=DC .bad 0 h b C L k a ids vB vK vT m hb hA hS.cl sW.1 ⟨eX.1,eX.2.1,eX.2.2.1⟩ hM.len hl ha ht hx;have eb:jU m (a/4 % 4)=m.cells:=by unfold jU;rw[hx];simp
   obtain⟨f1,f2,f3⟩:=fin h (k+42) (by omega) (by rw[eb];exact hA.cells) (fun i _ _=>rfl);rw[eb]at f1 f3;exact⟨_,_,_,e,f1,by omega,f2,f3⟩
  |true=>
   have wL:=hM.line _ hr;rw[fZ hr]at hx;have hn:(m.lines[a/4 % 4]).tag≠ -1:=fun e=>by rw[(wL.none e).1]at hx;cases hx
   obtain⟨g1,g2,g3,g4⟩:=wL.some hn;have WD:m.lines.getD (a/4 % 4) eQ=m.lines[a/4 % 4]:=by simp[List.getD,hr]
   have e:=DD .bad 0 h b C L k a (m.lines[a/4 % 4]).tag.toNat ids vB vK vT m hb hA hS sW eX hM.len hl ha ht (by rw[WD];exact hx) ⟨by rw[WD];omega,by omega⟩ (by rw[WD];exact g4);have eb:jU m (a/4 % 4)=l9 m.cells ((m.lines[a/4 % 4]).tag.toNat*4) (m.lines.getD (a/4 % 4) eQ).cells:=by
    unfold jU;rw[fZ hr,hx,if_pos rfl,WD]
   obtain⟨f1,f2,f3⟩:=fin (aO h C (some ⟨2,(jU m (a/4 % 4)).map Cell.e,false⟩)) (k+57) (by omega) (by simp[aO]) (fun i _ iK=>by simp[aO,iK]);rw[eb]at f1 f3;exact⟨_,_,_,e,f1,by omega,f2,f3⟩
theorem ja.dG{h:aY}{k b C L:Nat}{ids:Nat->Nat}{vB vK vT:V}{m:aK}(H:ja h k b C L ids vB vK vT m){h':aY}{k':Nat}(hk:k<=k')(hb:h' b=h b)(hC:h' C=h C)(hL:h' L=h L)(hi: ∀j,j<4->h' (ids j)=h (ids j)):
  ja h' k' b C L ids vB vK vT m:=by
 obtain⟨h1,⟨h2,h3,h4⟩,h5,h6,h7,h8,h9⟩:=H;have hl:=h9.lines;refine⟨by rw[hb,h1],⟨by rw[hC,h2],by rw[hL,h3],fun i g=> ?_⟩,h5,h6,h7,⟨by omega,by omega,by omega,fun i hi=>by have:=h8.2.2.2 i hi;omega⟩,h9⟩;rw[hi i (by omega),h4 i g]
theorem ja.mono{h:aY}{k b C L:Nat}{ids:Nat->Nat}{vB vK vT:V}{m:aK}(H:ja h k b C L ids vB vK vT m){h':aY}{k':Nat}(hk:k<=k')(hh: ∀i,i<k->h' i=h i):ja h' k' b C L ids vB vK vT m:=
 H.dG hk (hh _ H.lt.1) (hh _ H.lt.2.1) (hh _ H.lt.2.2.1) fun j hj=>hh _ (H.lt.2.2.2 j hj)
theorem Pt{l:List Cell}{o:Nat}{c:Cell}(h:eD l=true)(hc:l4 c=true):eD (l.set o c)=true:=by
 unfold eD at h⊢;rw[List.all_eq_true]at h⊢;intro x hx;rcases List.mem_or_eq_of_mem_set hx with hx|hx
 ·exact h x hx
 ·rw[hx];exact hc
theorem Cd{m:aK}(hM:w9 m){a:Nat}(ha:a<512){c:Cell}(hc:l4 c=true):w9 (mz m a c):=by
 have hf:=oC hM ha;obtain⟨ht,h4⟩:=qS hM ha;have hr:a/4 % 4<(cU m a).lines.length:=by rw[hf.lines];omega
 rw[fZ hr]at ht h4;unfold mz;rw[fZ hr];refine⟨hf.len,by simp[hf.lines],hf.cells,fun i hi=> ?_⟩;have nf:i<(cU m a).lines.length:=by simpa using hi
 by_cases he:a/4 % 4=i
 ·subst he;simp only[List.getElem_set_self];have hl:=hf.line _ hr;refine⟨fun e=> ?_,fun _=>⟨?_,?_,?_,?_⟩,Pt hl.cells hc⟩
  ·simp only at e;omega
  ·simp only;omega
  ·simp only;omega
  ·simp only;omega
  ·simp only[List.length_set];exact h4
 ·simp only[List.getElem_set_ne he];exact hf.line i nf
@[simp] theorem afe(m:V)(addr:Int)(h:aY)(k b C L:Nat)(ids:Nat->Nat)(vB vK vT:V)(mm:aK)(a:Nat)(H:ja h k b C L ids vB vK vT mm)(ha:a<512): ∃h' k' ft,cy X 115 [.ptr b 0 2,(a:Int)] h k=some ((kX mm a).e,h',k')/\ja h' k' b C L ft vB vK vT (cU mm a)/\k<=k'/\(∀j,j<4->ft j=ids j\/k<=ft j)/\(∀i,i<k->i≠C->i≠L->(∀j,j<4->i≠ids j)->h' i=h i):=by
 have H1:ja (aO h k (some ⟨2,[.agg [.int .u8 0,.int .u16 0]],true⟩)) (k+12) b C L ids vB vK vT mm:=H.mono (by omega) (fun i hi=>by simp[aO];intro e;omega);obtain⟨h1,k1,fg,e1,G,A5,dg,lK⟩:=Cc H1 ha;obtain⟨r,hr⟩: ∃r:Nat,a/4 % 4=r:=⟨_,rfl⟩;obtain⟨o,ho⟩: ∃o:Nat,a % 4=o:=⟨_,rfl⟩;have tO:(a:Int).tmod 4=o:=by rw[Int.tmod_eq_emod_of_nonneg (by omega)];omega
 have A4:=qS H.mem ha;have hf:=oC H.mem ha;have nN:r<(cU mm a).lines.length:=by rw[hf.lines];omega
 rw[hr]at A4 e1;rw[fZ nN]at A4;have iU:=hf.lines;have hL:=G.at_.lines;have C6:=G.at_.line r nN;have hg:=jn (ids:=fg) nN;have hle:(dY fg (cU mm a).lines).length=4:=by rw[gX,iU]
 have h4:=A4.2;have AX:r<4:=by omega
 have ho4:o<4:=by omega
 have Lx:(o:Int)<4:=by omega
 have ho5:o<((cU mm a).lines[r]).cells.length:=by omega
 have vr:h1 k=some ⟨2,[.agg [.int .u8 0,.int .u16 0]],true⟩:=by
  rw[lK k (by omega) (by have:=H.lt.2.1;omega) (by have:=H.lt.2.2.1;omega) (fun j hj=>by have:=H.lt.2.2.2 j hj;omega)];simp[aO]
 have hlm:kX mm a=((cU mm a).lines[r]).cells[o]:=by
  unfold kX;rw[hr,ho,fZ nN];simp[List.getD,ho5]
 obtain⟨v,h',n',e2,g1,g2,g3⟩:=bu (X:=X) (g:=115) (args:=[.ptr b 0 2,.int .i64 (a:Int)]) (h:=h) (k:=k) (K:=fun v h' n'=>v=(kX mm a).e/\h'=aO h1 k (some ⟨2,[(kX mm a).e],true⟩)/\n'=k1) Tryz.func115 rfl rfl (by
  simp-implicitDefEqProofs[Nat.add_assoc,e1,tO,hL,C6,hg,hle,h4,AX,ho4,Lx,vr,hlm];exact⟨rfl,rfl⟩)
 subst g1 g2 g3;have un: ∀i,i≠k->aO h1 k (some ⟨2,[(kX mm a).e],true⟩) i=h1 i:=fun i hi=>by simp[aO,hi]
 refine⟨_,_,fg,e2,G.dG (Nat.le_refl _) (un _ (by have:=H.lt.1;omega)) (un _ (by have:=H.lt.2.1;omega)) (un _ (by have:=H.lt.2.2.1;omega)) (fun j hj=>un _ ?_),by omega,fun j hj=> ?_,fun i hi hC DE qT=> ?_⟩
 ·rcases dg j hj with e|e
  ·rw[e];have:=H.lt.2.2.2 j hj;omega
  ·omega
 ·rcases dg j hj with e|e
  ·exact .inl e
  ·exact .inr (by omega)
 ·rw[un _ (by omega),lK i (by omega) hC DE qT];simp[aO];intro e;omega
@[simp] theorem M4(m:V)(addr fu dp:Int)(h:aY)(k b C L:Nat)(ids:Nat->Nat)(vB vK vT:V)(mm:aK)(a:Nat)(cc:Cell)(H:ja h k b C L ids vB vK vT mm)(ha:a<512)(tf:l4 cc=true): ∃h' k' ft,cy X 116 [.ptr b 0 2,.int .i64 (a:Int),cc.e] h k=some (.de [],h',k')/\ja h' k' b C L ft vB vK vT (mz mm a cc)/\k<=k'/\(∀j,j<4->ft j=ids j\/k<=ft j)/\(∀i,i<k->i≠C->i≠L->(∀j,j<4->i≠ids j)->h' i=h i):=by
 have H1:ja (aO h k (some ⟨2,[cc.e],true⟩)) (k+5) b C L ids vB vK vT mm:=H.mono (by omega) (fun i hi=>by simp[aO];intro e;omega);obtain⟨h1,k1,fg,e1,G,A5,dg,lK⟩:=Cc H1 ha;obtain⟨r,hr⟩: ∃r:Nat,a/4 % 4=r:=⟨_,rfl⟩;obtain⟨o,ho⟩: ∃o:Nat,a % 4=o:=⟨_,rfl⟩;have tO:(a:Int).tmod 4=o:=by rw[Int.tmod_eq_emod_of_nonneg (by omega)];omega
 have A4:=qS H.mem ha;have hf:=oC H.mem ha;have nN:r<(cU mm a).lines.length:=by rw[hf.lines];omega
 rw[hr]at A4 e1;rw[fZ nN]at A4;have iU:=hf.lines;have hL:=G.at_.lines;have C6:=G.at_.line r nN;have hg:=jn (ids:=fg) nN;have hle:(dY fg (cU mm a).lines).length=4:=by rw[gX,iU]
 have h4:=A4.2;have AX:r<4:=by omega
 have ho4:o<4:=by omega
 have Lx:(o:Int)<4:=by omega
 have ho5:o<((cU mm a).lines[r]).cells.length:=by omega
 have vr:h1 k=some ⟨2,[cc.e],true⟩:=by
  rw[lK k (by omega) (by have:=H.lt.2.1;omega) (by have:=H.lt.2.2.1;omega) (fun j hj=>by have:=H.lt.2.2.2 j hj;omega)];simp[aO]
 have Bt:=G.sep.li r AX;have nu: ¬L=fg r:=fun e=>Bt e.symm;obtain⟨v,h',n',e2,g1,g2,g3⟩:=bu (X:=X) (g:=116) (args:=[.ptr b 0 2,.int .i64 (a:Int),cc.e]) (h:=h) (k:=k) (K:=fun v h' n'=>v= .de []/\h'=aO (aO h1 (fg r) (some ⟨2,(((cU mm a).lines[r]).cells.set o cc).map Cell.e,false⟩)) L (some ⟨3,(dY fg (cU mm a).lines).set r (.agg [.int .i64 ((cU mm a).lines[r]).tag,.bool true,.bU (fg r) 0 4]),true⟩)/\n'=k1+13) Tryz.func116 rfl rfl (by
  simp-implicitDefEqProofs[Nat.add_assoc,e1,tO,hL,C6,hg,hle,h4,AX,ho4,Lx,vr,nu];exact⟨rfl,fun _=>rfl⟩)
 subst g1 g2 g3;have iZ:mz mm a cc=⟨(cU mm a).cells,(cU mm a).lines.set r ⟨((cU mm a).lines[r]).tag,true,((cU mm a).lines[r]).cells.set o cc⟩⟩:=by
  unfold mz;rw[hr,ho,fZ nN]
 have hsm:w9 (mz mm a cc):=Cd H.mem ha tf;have u1: ∀{α:Type} (f:Nat->α) (i:Nat) (v:α),aO f i v i=v:=fun f i v=>by simp[aO]
 have u2: ∀{α:Type} (f:Nat->α) (i j:Nat) (v:α),j≠i->aO f i v j=f j:=fun f i j v iK=>by simp[aO,iK]
 have hic:=G.sep.ci r AX;refine⟨_,_,fg,e2,⟨?_,⟨?_,?_,fun i hi=> ?_⟩,G.sep,G.bl,G.bi,⟨?_,?_,?_,fun i hi=> ?_⟩,hsm⟩,by omega,fun j hj=> ?_,fun i hi hC DE qT=> ?_⟩
 ·rw[u2 _ _ _ _ G.bl.1,u2 _ _ _ _ (fun e=>G.bi r AX e.symm),G.box]
 ·rw[u2 _ _ _ _ G.sep.cl,u2 _ _ _ _ (fun e=>hic e.symm),G.at_.cells,iZ]
 ·rw[u1,iZ];have jI:=Ae (ids:=fg) (x:=⟨((cU mm a).lines[r]).tag,true,((cU mm a).lines[r]).cells.set o cc⟩) nN;simp only[List.length_set,h4]at jI;rw[jI]
 ·rw[iZ]at hi;simp only[List.length_set]at hi;have uk:i<4:=by omega
  rw[u2 _ _ _ _ (G.sep.li i uk)];by_cases he:r=i
  ·subst he;rw[u1];simp[iZ]
  ·rw[u2 _ _ _ _ (G.sep.ii i r uk AX (fun e=>he e.symm)),G.at_.line i hi];simp[iZ,List.getElem_set_ne he]
 ·have:=G.lt.1;omega
 ·have:=G.lt.2.1;omega
 ·have:=G.lt.2.2.1;omega
 ·have:=G.lt.2.2.2 i hi;omega
 ·rcases dg j hj with e|e
  ·exact .inl e
  ·exact .inr (by omega)
 ·have iK:i≠fg r:=by
   rcases dg r AX with e|e
   ·rw[e];exact qT r AX
   ·omega
  rw[u2 _ _ _ _ DE,u2 _ _ _ _ iK,lK i (by omega) hC DE qT];simp[aO];intro e;omega
@[simp] theorem FM(m:V)(i:Int)(h:aY)(b C L k r:Nat)(ids:Nat->Nat)(vB vK vT:V)(mm:aK)(H:ja h k b C L ids vB vK vT mm)(hr:r<mm.lines.length)(hx:(mm.lines[r]).iw=false):cy X 206 [.ptr b 0 2,(r:Int)] h k=some (.de [],aO h (k+7) (some ⟨3,[.agg [.int .i64 (mm.lines[r]).tag,.bool (mm.lines[r]).iw,.bU (ids r) 0 (mm.lines[r]).cells.length]],true⟩),k+28):=by
 have hl:=H.mem.lines;have sV:r<4:=by omega
 have Be:(r:Int)<4:=by omega
 have hb:=H.box;have hL:=H.at_.lines;have hg:=jn (ids:=ids) hr;have iU:(dY ids mm.lines).length=4:=by rw[gX,hl]
 obtain⟨v,h',n',e1,e2,e3,e4⟩:=bu (X:=X) (g:=206) (args:=[.ptr b 0 2,.int .i64 (r:Int)]) (h:=h) (k:=k) (K:=fun v h' n'=>v= .de []/\h'=aO h (k+7) (some ⟨3,[.agg [.int .i64 (mm.lines[r]).tag,.bool (mm.lines[r]).iw,.bU (ids r) 0 (mm.lines[r]).cells.length]],true⟩)/\n'=k+28) Tryz.func206 rfl rfl (by
  simp-implicitDefEqProofs[Nat.add_assoc,hb,sV,Be,hL,hg,iU,hx,pF])
 rw[e1,e2,e3,e4]
@[simp] theorem FN(m:V)(i:Int)(h:aY)(b C L k r T:Nat)(ids:Nat->Nat)(vB vK vT:V)(mm:aK)(H:ja h k b C L ids vB vK vT mm)(hr:r<mm.lines.length)(hx:(mm.lines[r]).iw=true)(hT:(mm.lines[r]).tag=(T:Int)/\T<128)(h4:(mm.lines[r]).cells.length=4):cy X 206 [.ptr b 0 2,(r:Int)] h k=some (.de [],aO (aO h (k+7) (some ⟨3,[.agg [.int .i64 (mm.lines[r]).tag,.bool (mm.lines[r]).iw,.bU (ids r) 0 (mm.lines[r]).cells.length]],true⟩)) C (some ⟨2,(l9 mm.cells (T*4) (mm.lines[r]).cells).map Cell.e,false⟩),k+39):=by
 have hl:=H.mem.lines;have hc:=H.mem.len;have sV:r<4:=by omega
 have Be:(r:Int)<4:=by omega
 have hb:=H.box;have hL:=H.at_.lines;have hC:=H.at_.cells;have C6:=H.at_.line r hr;have hg:=jn (ids:=ids) hr;have iU:(dY ids mm.lines).length=4:=by rw[gX,hl]
 obtain⟨s,hs⟩: ∃s:Nat,T*4=s:=⟨_,rfl⟩;rw[hs];have hTt:=hT.1;have hT2:=hT.2;have Af:IntKind.i64.wrap ((T:Int)*4)=(s:Int):=by rw[wrap_i64 (by omega)];omega
 have atz:=cS T (by omega);have afh:IntKind.i64.wrap (((T:Int)+1)*4)=(s:Int)+4:=by rw[wrap_i64 (by omega)];omega
 have hle:(s:Int)+4<=512:=by omega
 have hs5:s<=512:=by omega
 have afc:(s:Int)<=512:=by omega
 have hsm:min 4 (512-s)=4:=by omega
 have hs4:s+(512-s)<=512:=by omega
 have UM:=Ca (l:=mm.cells) (k:=s) h4;have e4:List.take 4 (List.map Cell.e (mm.lines[r]).cells)=List.map Cell.e (mm.lines[r]).cells:=bn (by simp[h4]);rw[e4,List.append_assoc]at UM;have eX:=H.lt;have q0: ¬b=k+7:=by omega
 have q1: ¬C=k+7:=by omega
 have q2: ¬ids r=k+7:=by have:=eX.2.2.2 r sV;omega
 have q3: ¬L=k+7:=by omega
 have q4: ¬k+7=C:=by omega
 have hxc: ∀x∈ (mm.lines[r]).cells.map Cell.e,x.cells.length=2:=fun x hx=>by
  simp only[List.mem_map]at hx;obtain⟨c,_,rfl⟩:=hx;rfl
 obtain⟨v,h',n',e1,e2,e3,e5⟩:=bu (X:=X) (g:=206) (args:=[.ptr b 0 2,.int .i64 (r:Int)]) (h:=h) (k:=k) (K:=fun v h' n'=>v= .de []/\h'=aO (aO h (k+7) (some ⟨3,[.agg [.int .i64 (mm.lines[r]).tag,.bool (mm.lines[r]).iw,.bU (ids r) 0 (mm.lines[r]).cells.length]],true⟩)) C (some ⟨2,(l9 mm.cells s (mm.lines[r]).cells).map Cell.e,false⟩)/\n'=k+39) Tryz.func206 rfl rfl (by
  simp-implicitDefEqProofs[Nat.add_assoc,hb,sV,Be,hL,hC,C6,hg,iU,hx,hTt,h4,hc,Af,atz,afh,hle,hs5,afc,hsm,e4,UM,q0,q1,q2,pF])
 rw[e1,e2,e3,e5]
@[simp] theorem FO(m:V)(addr:Int)(h:aY)(b C L k a:Nat)(ids:Nat->Nat)(vB vK vT:V)(mm:aK)(H:ja h k b C L ids vB vK vT mm)(ha:a<512)(ht:(iD mm (a/4 % 4)).tag=((a/4:Nat):Int)):cy X 185 [.ptr b 0 2,(a:Int)] h k=some (.de [.ptr L (a/4 % 4) 0,.int .i64 ((a % 4:Nat):Int),.bool true],h,k+64):=by
 obtain⟨n,hn⟩: ∃n:Nat,a/4=n:=⟨_,rfl⟩;rw[hn]at ht⊢;obtain⟨r,hr⟩: ∃r:Nat,n % 4=r:=⟨_,rfl⟩;rw[hr]at ht⊢;obtain⟨o,ho⟩: ∃o:Nat,a % 4=o:=⟨_,rfl⟩;rw[ho];have hl:=H.mem.lines;have hd:(a:Int).tdiv 4=n:=by rw[Int.tdiv_eq_ediv_of_nonneg (by omega)];omega
 have hw:IntKind.i64.wrap (n:Int)=n:=wrap_i64 (by omega);have rX:(n:Int).tmod 4=r:=by rw[Int.tmod_eq_emod_of_nonneg (by omega)];omega
 have tO:(a:Int).tmod 4=o:=by rw[Int.tmod_eq_emod_of_nonneg (by omega)];omega
 have h1:r<mm.lines.length:=by omega
 have sV:r<4:=by omega
 have Be:(r:Int)<4:=by omega
 have a0: ¬(a:Int)<0:=by omega
 have a5: ¬(512:Int)<=(a:Int):=by omega
 have a6: ¬512<=a:=by omega
 have hb:=H.box;have hL:=H.at_.lines;have hg:=jn (ids:=ids) h1;have iU:(dY ids mm.lines).length=4:=by rw[gX,hl]
 rw[fZ h1]at ht;have h4:=((H.mem.line r h1).some (by omega)).2.2.2;obtain⟨v,h',n',e1,e2,e3,e4⟩:=bu (X:=X) (g:=185) (args:=[.ptr b 0 2,.int .i64 (a:Int)]) (h:=h) (k:=k) (K:=fun v h' n'=>v= .de [.ptr L r 0,(o:Int),.bool true]/\h'=h/\n'=k+64) Tryz.func185 rfl rfl (by
  simp-implicitDefEqProofs[Nat.add_assoc,hb,hd,hw,rX,tO,sV,Be,a0,a5,hL,hg,iU,ht,h4])
 rw[e1,e2,e3,e4]
@[simp] theorem wx(m:V)(addr:Int)(h:aY)(b C L k a:Nat)(cs:List Cell)(ids:Nat->Nat)(vB vK vT:V)(mm:aK)(H:ja h k b C L ids vB vK vT mm)(v7:cs.length=512)(ha:a<512)(ht: ¬(iD mm (a/4 % 4)).tag=((a/4:Nat):Int)): ∀(h1:aY) (k1:Nat),cy X 206 [.ptr b 0 2,.int .i64 ((a/4 % 4:Nat):Int)] h (k+56)=some (.de [],h1,k1)->k+56<=k1->h1 b=h b->h1 L=h L->h1 C=some ⟨2,cs.map Cell.e,false⟩->cy X 185 [.ptr b 0 2,(a:Int)] h k=some (.de [.ptr L (a/4 % 4) 0,.int .i64 ((a % 4:Nat):Int),.bool true],aO (aO h1 (k1+16) (some ⟨2,((cs.drop (a/4*4)).take 4).map Cell.e,false⟩)) L (some ⟨3,(dY ids mm.lines).set (a/4 % 4) (.agg [.int .i64 ((a/4:Nat):Int),.bool false,.bU (k1+16) 0 4]),true⟩),k1+31):=by
 intro sV k1 hB A5 Ys hL1 hC1;obtain⟨n,hn⟩: ∃n:Nat,a/4=n:=⟨_,rfl⟩;rw[hn]at ht hB⊢;obtain⟨r,hr⟩: ∃r:Nat,n % 4=r:=⟨_,rfl⟩;rw[hr]at ht hB⊢;obtain⟨o,ho⟩: ∃o:Nat,a % 4=o:=⟨_,rfl⟩;rw[ho];obtain⟨p,hp⟩: ∃p:Nat,n*4=p:=⟨_,rfl⟩;rw[hp];obtain⟨q,hq⟩: ∃q:Nat,p+4=q:=⟨_,rfl⟩;have hl:=H.mem.lines;have hd:(a:Int).tdiv 4=n:=by rw[Int.tdiv_eq_ediv_of_nonneg (by omega)];omega
 have hw:IntKind.i64.wrap (n:Int)=n:=wrap_i64 (by omega);have Pq:IntKind.i64.wrap ((n:Int)*4)=(p:Int):=by rw[wrap_i64 (by omega)];omega
 have tQ:=cS n (by omega);have hw5:IntKind.i64.wrap (((n:Int)+1)*4)=(q:Int):=by rw[wrap_i64 (by omega)];omega
 have hqp:q-p=4:=by omega
 have p4:p+4<=512:=by omega
 have hq5:q<=512:=by omega
 have Pr:(q:Int)<=512:=by omega
 have J6:p<=q:=by omega
 have la:min 4 (512-p)=4:=by omega
 have kn: ∀x∈List.take 4 (List.drop p (List.map Cell.e cs)),x.cells.length=2:=fun x hx=>by
  have:=List.mem_of_mem_drop (List.mem_of_mem_take hx);simp only[List.mem_map]at this;obtain⟨c,_,rfl⟩:=this;rfl
 have rX:(n:Int).tmod 4=r:=by rw[Int.tmod_eq_emod_of_nonneg (by omega)];omega
 have tO:(a:Int).tmod 4=o:=by rw[Int.tmod_eq_emod_of_nonneg (by omega)];omega
 have h1:r<mm.lines.length:=by omega
 have h1l:r<4:=by omega
 have Be:(r:Int)<4:=by omega
 have a0: ¬(a:Int)<0:=by omega
 have a5: ¬(512:Int)<=(a:Int):=by omega
 have a6: ¬512<=a:=by omega
 have hb:=H.box;have hL:=H.at_.lines;rw[hb]at Ys;rw[hL]at hL1;have hg:=jn (ids:=ids) h1;have iU:(dY ids mm.lines).length=4:=by rw[gX,hl]
 rw[fZ h1]at ht;have eX:=H.lt;have sW:=H.bl.1;have mM:=H.sep.cl;have amc: ¬L=b:=fun e=>sW e.symm;have Xb: ¬L=C:=fun e=>mM e.symm;have q1: ¬b=k1+16:=by omega
 have q2: ¬C=k1+16:=by omega
 have q3: ¬L=k1+16:=by omega
 have q4: ¬k1+16=L:=by omega
 obtain⟨v,h',n',e1,e2,e3,e4⟩:=bu (X:=X) (g:=185) (args:=[.ptr b 0 2,.int .i64 (a:Int)]) (h:=h) (k:=k) (K:=fun v h' n'=>v= .de [.ptr L r 0,(o:Int),.bool true]/\h'=aO (aO sV (k1+16) (some ⟨2,((cs.drop p).take 4).map Cell.e,false⟩)) L (some ⟨3,(dY ids mm.lines).set r (.agg [(n:Int),.bool false,.bU (k1+16) 0 4]),true⟩)/\n'=k1+31) Tryz.func185 rfl rfl (by
  simp-implicitDefEqProofs[Nat.add_assoc,hb,hB,Ys,hL1,hC1,v7,hd,hw,tQ,Pq,hw5,rX,tO,h1l,Be,a0,a5,hL,hg,iU,ht,hqp,p4,Pr,J6,la,sW,q1,q3];exact kn)
 rw[e1,e2,e3,e4]
theorem Ew{h:aY}{k b C L:Nat}{ids:Nat->Nat}{vB vK vT:V}{m:aK}(H:ja h k b C L ids vB vK vT m){a:Nat}(ha:a<512)(ht: ¬(iD m (a/4 % 4)).tag=((a/4:Nat):Int)):
  ∀(h1:aY) (q:Nat),k<=q->h1 C=some ⟨2,(jU m (a/4 % 4)).map Cell.e,false⟩->(∀i,i<k->i≠C->h1 i=h i)->
    ja (aO (aO h1 q (some ⟨2,(((jU m (a/4 % 4)).drop (a/4*4)).take 4).map Cell.e,false⟩)) L (some ⟨3,(dY ids m.lines).set (a/4 % 4) (.agg [.int .i64 ((a/4:Nat):Int),.bool false,.bU q 0 4]),true⟩)) (q+6) b C L (aO ids (a/4 % 4) q) vB vK vT (cU m a)/\
    (∀j,j<4->aO ids (a/4 % 4) q j=ids j\/k<=aO ids (a/4 % 4) q j)/\
    (∀i,i<k->i≠C->i≠L->(∀j,j<4->i≠ids j)->aO (aO h1 q (some ⟨2,(((jU m (a/4 % 4)).drop (a/4*4)).take 4).map Cell.e,false⟩)) L (some ⟨3,(dY ids m.lines).set (a/4 % 4) (.agg [.int .i64 ((a/4:Nat):Int),.bool false,.bU q 0 4]),true⟩) i=h i):=by
 obtain⟨hb,hA,hS,sW,hbi,eX,hM⟩:=H;have hl:=hM.lines;have AX:a/4 % 4<4:=by omega
 have hr:a/4 % 4<m.lines.length:=by omega
 have ef:cU m a=⟨jU m (a/4 % 4),m.lines.set (a/4 % 4) ⟨((a/4:Nat):Int),false,((jU m (a/4 % 4)).drop (a/4*4)).take 4⟩⟩:=by unfold cU;rw[if_neg ht]
 obtain⟨b1,b2⟩:=Bf hM AX;have UN:(((jU m (a/4 % 4)).drop (a/4*4)).take 4).length=4:=by simp only[List.length_take,List.length_drop,b1];omega
 have hfm:=oC hM ha;intro h1 q hq hC lK;rw[ef]at hfm⊢;have jI:=xd (ids:=ids) (n:=q) (x:=⟨((a/4:Nat):Int),false,((jU m (a/4 % 4)).drop (a/4*4)).take 4⟩) hr;simp only[UN]at jI;have u1: ∀{α:Type} (f:Nat->α) (i:Nat) (v:α),aO f i v i=v:=fun f i v=>by simp[aO]
 have u2: ∀{α:Type} (f:Nat->α) (i j:Nat) (v:α),j≠i->aO f i v j=f j:=fun f i j v iK=>by simp[aO,iK]
 refine⟨⟨?_,⟨?_,?_,fun i hi=> ?_⟩,⟨hS.cl,fun i hi=> ?_,fun i hi=> ?_,fun i j hi hj jk=> ?_⟩,sW,fun i hi=> ?_,⟨by omega,by omega,by omega,fun i hi=> ?_⟩,hfm⟩,fun j hj=> ?_,fun i E6 hiC hiL jk=> ?_⟩
 ·rw[u2 _ _ _ _ sW.1,u2 _ _ _ _ (by omega),lK b eX.1 sW.2,hb]
 ·rw[u2 _ _ _ _ hS.cl,u2 _ _ _ _ (by omega),hC]
 ·rw[u1,jI]
 ·simp only[List.length_set]at hi;by_cases he:a/4 % 4=i
  ·subst he;rw[u1,u2 _ _ _ _ (by omega),u1];simp
  ·rw[u2 _ _ _ _ (Ne.symm he),u2 _ _ _ _ (hS.li i (by omega)),u2 _ _ _ _ (by have:=eX.2.2.2 i (by omega);omega),lK _ (eX.2.2.2 i (by omega)) (hS.ci i (by omega)),hA.line i hi];simp[List.getElem_set_ne he]
 ·by_cases he:a/4 % 4=i
  ·subst he;rw[u1];omega
  ·rw[u2 _ _ _ _ (Ne.symm he)];exact hS.ci i hi
 ·by_cases he:a/4 % 4=i
  ·subst he;rw[u1];omega
  ·rw[u2 _ _ _ _ (Ne.symm he)];exact hS.li i hi
 ·by_cases he:a/4 % 4=i
  ·subst he;rw[u1,u2 _ _ _ _ (Ne.symm jk)];have:=eX.2.2.2 j hj;omega
  ·rw[u2 _ _ _ _ (Ne.symm he)];by_cases MA:a/4 % 4=j
   ·subst MA;rw[u1];have:=eX.2.2.2 i hi;omega
   ·rw[u2 _ _ _ _ (Ne.symm MA)];exact hS.ii i j hi hj jk
 ·by_cases he:a/4 % 4=i
  ·subst he;rw[u1];omega
  ·rw[u2 _ _ _ _ (Ne.symm he)];exact hbi i hi
 ·by_cases he:a/4 % 4=i
  ·subst he;rw[u1];omega
  ·rw[u2 _ _ _ _ (Ne.symm he)];have:=eX.2.2.2 i hi;omega
 ·by_cases he:a/4 % 4=j
  ·subst he;rw[u1];exact .inr hq
  ·rw[u2 _ _ _ _ (Ne.symm he)];exact .inl rfl
 ·rw[u2 _ _ _ _ hiL,u2 _ _ _ _ (by omega),lK i E6 hiC]
theorem Ag{h:aY}{k b C L:Nat}{ids:Nat->Nat}{vB vK vT:V}{m:aK}(H:ja h k b C L ids vB vK vT m){a:Nat}(ha:a<512):
  ∃h' k' ft,cy X 185 [.ptr b 0 2,(a:Int)] h k=some (.de [.ptr L (a/4 % 4) 0,.int .i64 ((a % 4:Nat):Int),.bool true],h',k')/\ja h' k' b C L ft vB vK vT (cU m a)/\k<=k'/\
   (∀j,j<4->ft j=ids j\/k<=ft j)/\(∀i,i<k->i≠C->i≠L->(∀j,j<4->i≠ids j)->h' i=h i):=by
 have hl:=H.mem.lines;have AX:a/4 % 4<4:=by omega
 have hr:a/4 % 4<m.lines.length:=by omega
 by_cases ht:(iD m (a/4 % 4)).tag=((a/4:Nat):Int)
 ·have e:=FO .bad 0 h b C L k a ids vB vK vT m H ha ht;have ef:cU m a=m:=by unfold cU;rw[if_pos ht]
  exact⟨h,k+64,ids,e,by rw[ef];exact H.mono (by omega) (fun _ _=>rfl),by omega,fun j hj=> .inl rfl,fun i _ _ _ _=>rfl⟩
 ·obtain⟨b1,b2⟩:=Bf H.mem AX;have H2:ja h (k+56) b C L ids vB vK vT m:=H.mono (by omega) (fun _ _=>rfl);have u2: ∀{α:Type} (f:Nat->α) (i j:Nat) (v:α),j≠i->aO f i v j=f j:=fun f i j v iK=>by simp[aO,iK]
  have eX:=H.lt;cases hx:(iD m (a/4 % 4)).iw with
  |false=>
   have eb:jU m (a/4 % 4)=m.cells:=by unfold jU;rw[hx];simp
   rw[fZ hr]at hx;have eB:=FM .bad 0 h b C L (k+56) (a/4 % 4) ids vB vK vT m H2 hr hx;have e:=wx .bad 0 h b C L k a (jU m (a/4 % 4)) ids vB vK vT m H b1 ha ht _ _ eB (by omega) (u2 _ _ _ _ (by omega)) (u2 _ _ _ _ (by omega)) (by rw[u2 _ _ _ _ (by omega),eb];exact H.at_.cells);obtain⟨f1,f2,f3⟩:=Ew H ha ht (aO h (k+56+7) (some ⟨3,[.agg [.int .i64 (m.lines[a/4 % 4]).tag,.bool (m.lines[a/4 % 4]).iw,.bU (ids (a/4 % 4)) 0 (m.lines[a/4 % 4]).cells.length]],true⟩)) (k+56+28+16) (by omega) (by rw[u2 _ _ _ _ (by omega),eb];exact H.at_.cells) (fun i hi _=>u2 _ _ _ _ (by omega));exact⟨_,_,_,e,f1.mono (by omega) (fun _ _=>rfl),by omega,f2,f3⟩
  |true=>
   have qz:=hx;rw[fZ hr]at hx;have wL:=H.mem.line _ hr;have hn:(m.lines[a/4 % 4]).tag≠ -1:=fun e=>by rw[(wL.none e).1]at hx;cases hx
   obtain⟨g1,g2,g3,g4⟩:=wL.some hn;have eb:jU m (a/4 % 4)=l9 m.cells ((m.lines[a/4 % 4]).tag.toNat*4) (m.lines[a/4 % 4]).cells:=by
    unfold jU;rw[qz,if_pos rfl,fZ hr]
   have eB:=FN .bad 0 h b C L (k+56) (a/4 % 4) (m.lines[a/4 % 4]).tag.toNat ids vB vK vT m H2 hr hx ⟨by omega,by omega⟩ g4;have hbC:=H.bl.2;have hLC:L≠C:=fun e=>H.sep.cl e.symm;have e:=wx .bad 0 h b C L k a (jU m (a/4 % 4)) ids vB vK vT m H b1 ha ht _ _ eB (by omega) (by rw[u2 _ _ _ _ hbC,u2 _ _ _ _ (by omega)]) (by rw[u2 _ _ _ _ hLC,u2 _ _ _ _ (by omega)]) (by rw[eb];simp[aO]);obtain⟨f1,f2,f3⟩:=Ew H ha ht (aO (aO h (k+56+7) (some ⟨3,[.agg [.int .i64 (m.lines[a/4 % 4]).tag,.bool (m.lines[a/4 % 4]).iw,.bU (ids (a/4 % 4)) 0 (m.lines[a/4 % 4]).cells.length]],true⟩)) C (some ⟨2,(l9 m.cells ((m.lines[a/4 % 4]).tag.toNat*4) (m.lines[a/4 % 4]).cells).map Cell.e,false⟩)) (k+56+39+16) (by omega) (by rw[eb];simp[aO]) (fun i hi iK=>by rw[u2 _ _ _ _ iK,u2 _ _ _ _ (by omega)]);exact⟨_,_,_,e,f1.mono (by omega) (fun _ _=>rfl),by omega,f2,f3⟩
@[simp] theorem afi(m:V)(addr:Int)(h:aY)(k b C L:Nat)(ids:Nat->Nat)(vB vK vT:V)(mm:aK)(a:Nat)(H:ja h k b C L ids vB vK vT mm)(ha:a<512): ∃h' k' ft,cy X 156 [.ptr b 0 2,(a:Int)] h k=some (.de [(kX mm a).e,.bool true],h',k')/\ja h' k' b C L ft vB vK vT (cU mm a)/\k<=k'/\(∀j,j<4->ft j=ids j\/k<=ft j)/\(∀i,i<k->i≠C->i≠L->(∀j,j<4->i≠ids j)->h' i=h i):=by
 have H1:ja (aO h k (some ⟨2,[.agg [.int .u8 0,.int .u16 0]],true⟩)) (k+12) b C L ids vB vK vT mm:=H.mono (by omega) (fun i hi=>by simp[aO];intro e;omega);obtain⟨h1,k1,fg,e1,G,A5,dg,lK⟩:=Ag H1 ha;obtain⟨r,hr⟩: ∃r:Nat,a/4 % 4=r:=⟨_,rfl⟩;obtain⟨o,ho⟩: ∃o:Nat,a % 4=o:=⟨_,rfl⟩;have tO:(a:Int).tmod 4=o:=by rw[Int.tmod_eq_emod_of_nonneg (by omega)];omega
 have A4:=qS H.mem ha;have hf:=oC H.mem ha;have nN:r<(cU mm a).lines.length:=by rw[hf.lines];omega
 rw[hr]at A4;rw[hr,ho]at e1;rw[fZ nN]at A4;have iU:=hf.lines;have hL:=G.at_.lines;have C6:=G.at_.line r nN;have hg:=jn (ids:=fg) nN;have hle:(dY fg (cU mm a).lines).length=4:=by rw[gX,iU]
 have h4:=A4.2;have AX:r<4:=by omega
 have ho4:o<4:=by omega
 have Lx:(o:Int)<4:=by omega
 have ho5:o<((cU mm a).lines[r]).cells.length:=by omega
 have vr:h1 k=some ⟨2,[.agg [.int .u8 0,.int .u16 0]],true⟩:=by
  rw[lK k (by omega) (by have:=H.lt.2.1;omega) (by have:=H.lt.2.2.1;omega) (fun j hj=>by have:=H.lt.2.2.2 j hj;omega)];simp[aO]
 have hlm:kX mm a=((cU mm a).lines[r]).cells[o]:=by
  unfold kX;rw[hr,ho,fZ nN];simp[List.getD,ho5]
 obtain⟨v,h',n',e2,g1,g2,g3⟩:=bu (X:=X) (g:=156) (args:=[.ptr b 0 2,.int .i64 (a:Int)]) (h:=h) (k:=k) (K:=fun v h' n'=>v= .de [(kX mm a).e,.bool true]/\h'=aO h1 k (some ⟨2,[(kX mm a).e],true⟩)/\n'=k1+11) Tryz.func156 rfl rfl (by
  simp-implicitDefEqProofs[Nat.add_assoc,e1,hL,C6,hg,hle,h4,AX,ho4,Lx,vr,hlm];exact⟨rfl,rfl⟩)
 subst g1 g2 g3;have un: ∀i,i≠k->aO h1 k (some ⟨2,[(kX mm a).e],true⟩) i=h1 i:=fun i hi=>by simp[aO,hi]
 refine⟨_,_,fg,e2,G.dG (by omega) (un _ (by have:=H.lt.1;omega)) (un _ (by have:=H.lt.2.1;omega)) (un _ (by have:=H.lt.2.2.1;omega)) (fun j hj=>un _ ?_),by omega,fun j hj=> ?_,fun i hi hC DE qT=> ?_⟩
 ·rcases dg j hj with e|e
  ·rw[e];have:=H.lt.2.2.2 j hj;omega
  ·omega
 ·rcases dg j hj with e|e
  ·exact .inl e
  ·exact .inr (by omega)
 ·rw[un _ (by omega),lK i (by omega) hC DE qT];simp[aO];intro e;omega
@[simp] theorem Yt(m:V)(addr fu dp:Int)(h:aY)(k b C L:Nat)(ids:Nat->Nat)(vB vK vT:V)(mm:aK)(a:Nat)(cc:Cell)(H:ja h k b C L ids vB vK vT mm)(ha:a<512)(tf:l4 cc=true): ∃h' k' ft,cy X 155 [.ptr b 0 2,.int .i64 (a:Int),cc.e] h k=some (.bool true,h',k')/\ja h' k' b C L ft vB vK vT (mz mm a cc)/\k<=k'/\(∀j,j<4->ft j=ids j\/k<=ft j)/\(∀i,i<k->i≠C->i≠L->(∀j,j<4->i≠ids j)->h' i=h i):=by
 have H1:ja (aO h k (some ⟨2,[cc.e],true⟩)) (k+12) b C L ids vB vK vT mm:=H.mono (by omega) (fun i hi=>by simp[aO];intro e;omega);obtain⟨h1,k1,fg,e1,G,A5,dg,lK⟩:=Ag H1 ha;obtain⟨r,hr⟩: ∃r:Nat,a/4 % 4=r:=⟨_,rfl⟩;obtain⟨o,ho⟩: ∃o:Nat,a % 4=o:=⟨_,rfl⟩;have tO:(a:Int).tmod 4=o:=by rw[Int.tmod_eq_emod_of_nonneg (by omega)];omega
 have A4:=qS H.mem ha;have hf:=oC H.mem ha;have nN:r<(cU mm a).lines.length:=by rw[hf.lines];omega
 rw[hr]at A4;rw[hr,ho]at e1;rw[fZ nN]at A4;have iU:=hf.lines;have hL:=G.at_.lines;have C6:=G.at_.line r nN;have hg:=jn (ids:=fg) nN;have hle:(dY fg (cU mm a).lines).length=4:=by rw[gX,iU]
 have h4:=A4.2;have AX:r<4:=by omega
 have ho4:o<4:=by omega
 have Lx:(o:Int)<4:=by omega
 have ho5:o<((cU mm a).lines[r]).cells.length:=by omega
 have vr:h1 k=some ⟨2,[cc.e],true⟩:=by
  rw[lK k (by omega) (by have:=H.lt.2.1;omega) (by have:=H.lt.2.2.1;omega) (fun j hj=>by have:=H.lt.2.2.2 j hj;omega)];simp[aO]
 have Bt:=G.sep.li r AX;have nu: ¬L=fg r:=fun e=>Bt e.symm;obtain⟨v,h',n',e2,g1,g2,g3⟩:=bu (X:=X) (g:=155) (args:=[.ptr b 0 2,.int .i64 (a:Int),cc.e]) (h:=h) (k:=k) (K:=fun v h' n'=>v= .bool true/\h'=aO (aO h1 (fg r) (some ⟨2,(((cU mm a).lines[r]).cells.set o cc).map Cell.e,false⟩)) L (some ⟨3,(dY fg (cU mm a).lines).set r (.agg [.int .i64 ((cU mm a).lines[r]).tag,.bool true,.bU (fg r) 0 4]),true⟩)/\n'=k1+15) Tryz.func155 rfl rfl (by
  simp-implicitDefEqProofs[Nat.add_assoc,e1,hL,C6,hg,hle,h4,AX,ho4,Lx,vr,nu];exact⟨rfl,fun _=>rfl⟩)
 subst g1 g2 g3;have iZ:mz mm a cc=⟨(cU mm a).cells,(cU mm a).lines.set r ⟨((cU mm a).lines[r]).tag,true,((cU mm a).lines[r]).cells.set o cc⟩⟩:=by
  unfold mz;rw[hr,ho,fZ nN]
 have hsm:w9 (mz mm a cc):=Cd H.mem ha tf;have u1: ∀{α:Type} (f:Nat->α) (i:Nat) (v:α),aO f i v i=v:=fun f i v=>by simp[aO]
 have u2: ∀{α:Type} (f:Nat->α) (i j:Nat) (v:α),j≠i->aO f i v j=f j:=fun f i j v iK=>by simp[aO,iK]
 have hic:=G.sep.ci r AX;refine⟨_,_,fg,e2,⟨?_,⟨?_,?_,fun i hi=> ?_⟩,G.sep,G.bl,G.bi,⟨?_,?_,?_,fun i hi=> ?_⟩,hsm⟩,by omega,fun j hj=> ?_,fun i hi hC DE qT=> ?_⟩
 ·rw[u2 _ _ _ _ G.bl.1,u2 _ _ _ _ (fun e=>G.bi r AX e.symm),G.box]
 ·rw[u2 _ _ _ _ G.sep.cl,u2 _ _ _ _ (fun e=>hic e.symm),G.at_.cells,iZ]
 ·rw[u1,iZ];have jI:=Ae (ids:=fg) (x:=⟨((cU mm a).lines[r]).tag,true,((cU mm a).lines[r]).cells.set o cc⟩) nN;simp only[List.length_set,h4]at jI;rw[jI]
 ·rw[iZ]at hi;simp only[List.length_set]at hi;have uk:i<4:=by omega
  rw[u2 _ _ _ _ (G.sep.li i uk)];by_cases he:r=i
  ·subst he;rw[u1];simp[iZ]
  ·rw[u2 _ _ _ _ (G.sep.ii i r uk AX (fun e=>he e.symm)),G.at_.line i hi];simp[iZ,List.getElem_set_ne he]
 ·have:=G.lt.1;omega
 ·have:=G.lt.2.1;omega
 ·have:=G.lt.2.2.1;omega
 ·have:=G.lt.2.2.2 i hi;omega
 ·rcases dg j hj with e|e
  ·exact .inl e
  ·exact .inr (by omega)
 ·have iK:i≠fg r:=by
   rcases dg r AX with e|e
   ·rw[e];exact qT r AX
   ·omega
  rw[u2 _ _ _ _ DE,u2 _ _ _ _ iK,lK i (by omega) hC DE qT];simp[aO];intro e;omega
def db(ids:Nat->Nat)(i:Nat)(x:Thread):V:= .agg [.int .i64 x.state,.bU (ids i) 0 x.bm.length,.int .i64 x.pc,.int .i64 x.count,.int .i64 x.bV,.int .i64 x.saved,.int .i64 x.dd,.int .u16 x.code]
def bZ(ids:Nat->Nat)(l:List Thread):List V:=l.mapIdx (db ids)
theorem ed(ids:Nat->Nat)(l:List Thread):(bZ ids l).length=l.length:=by simp[bZ]
theorem eF{ids:Nat->Nat}{l:List Thread}{i:Nat}(h:i<l.length)(h':i<(bZ ids l).length):(bZ ids l)[i]= .agg [.int .i64 (l[i]).state,.bU (ids i) 0 (l[i]).bm.length,.int .i64 (l[i]).pc,.int .i64 (l[i]).count,.int .i64 (l[i]).bV,.int .i64 (l[i]).saved,.int .i64 (l[i]).dd,.int .u16 (l[i]).code]:=by
 simp[bZ,db]
theorem gq{ids:Nat->Nat}{l:List Thread}{i:Nat}{x:Thread}(h:i<l.length):(bZ ids l).set i (db ids i x)=bZ ids (l.set i x):=by
 apply List.ext_getElem?;intro j;unfold bZ;rw[List.getElem?_set,List.getElem?_mapIdx,List.getElem?_mapIdx,List.getElem?_set];by_cases hj:i=j
 ·subst hj;simp[h]
 ·rw[if_neg hj,if_neg hj]
def gd(x:Thread)(why:Int):Thread:=⟨4,x.bm,x.pc,x.count,x.bV,x.saved,why,0⟩
@[simp] theorem UO(x:V)(why:Int)(h:aY)(k T t:Nat)(w:Int)(ids:Nat->Nat)(ts:List Thread)(hT:h T=some ⟨8,bZ ids ts,true⟩)(ht:t<ts.length):cy X 113 [.ptr T t 0,w] h k=some (.int .i64 2,aO h T (some ⟨8,bZ ids (ts.set t (gd ts[t] w)),true⟩),k+15):=by
 have hg:=eF (ids:=ids) ht;have iU:=ed ids ts;have jI:=gq (ids:=ids) (x:=gd ts[t] w) ht;obtain⟨v,h',n',e1,e2,e3,e4⟩:=bu (X:=X) (g:=113) (args:=[.ptr T t 0,.int .i64 w]) (h:=h) (k:=k) (K:=fun v h' n'=>v= .int .i64 2/\h'=aO h T (some ⟨8,(bZ ids ts).set t (db ids t (gd ts[t] w)),true⟩)/\n'=k+15) Tryz.func113 rfl rfl (by
  simp-implicitDefEqProofs[Nat.add_assoc,hT,ht,hg,iU,pF];rfl)
 rw[e1,e2,e3,e4,jI]
end Go.Proofs.YtejohpnpnaljdaaGreat
