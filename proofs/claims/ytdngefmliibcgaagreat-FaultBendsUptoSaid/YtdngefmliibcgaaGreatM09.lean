/- Part of a proof: F2. -/
import Derived.Test.YtdngefmliibcgaaGreatM03
import Derived.Test.YtdngefmliibcgaaGreatM05
set_option linter.all false
set_option maxRecDepth 20000
set_option maxHeartbeats 20000000
namespace Go.Proofs.YtdngefmliibcgaaGreat
open Go Go.Abs Go.Abs.fJ
theorem sb{α:Type}(f:Nat→α)(a:Nat)(x y:α):aS (aS f a x) a y=aS f a y:=by
 funext i;unfold aS;split<;>rfl
def AL(ids:Nat→Nat)(i:Nat)(x:bT):V:= .agg [.int .i64 x.tag,.bool x.eU,.bJ (ids i) 0 x.cells.length]
def dC(ids:Nat→Nat)(l:List bT):List V:=l.mapIdx (AL ids)
theorem fY(ids:Nat→Nat)(l:List bT):(dC ids l).length=l.length:=by simp[dC]
theorem iU{ids:Nat→Nat}{l:List bT}{i:Nat}(h:i<l.length)(h':i<(dC ids l).length):(dC ids l)[i]= .agg [.int .i64 (l[i]).tag,.bool (l[i]).eU,.bJ (ids i) 0 (l[i]).cells.length]:=by
 simp[dC,AL]
theorem yA{ids:Nat→Nat}{l:List bT}{i n:Nat}{x:bT}(h:i<l.length):(dC ids l).set i (.agg [.int .i64 x.tag,.bool x.eU,.bJ n 0 x.cells.length])=dC (aS ids i n) (l.set i x):=by
 apply List.ext_getElem?;intro j;unfold dC;rw[List.getElem?_set,List.getElem?_mapIdx,List.getElem?_mapIdx,List.getElem?_set];by_cases hj:i=j
 ·subst hj;simp[h,AL,aS]
 ·rw[if_neg hj,if_neg hj];cases l[j]? with
  |none=>rfl
  |some y=>simp[AL,aS,Ne.symm hj]
theorem vY{ids:Nat→Nat}{l:List bT}{i:Nat}{x:bT}(h:i<l.length):(dC ids l).set i (.agg [.int .i64 x.tag,.bool x.eU,.bJ (ids i) 0 x.cells.length])=dC ids (l.set i x):=by
 rw[yA h];congr 1;funext j;unfold aS;split
 ·rename_i e;rw[e]
 ·rfl
structure TD (h:aG) (C L:Nat) (ids:Nat→Nat) (m:aF):Prop where
 cells:h C=some ⟨2,m.cells.map Cell.enc,false⟩
 lines:h L=some ⟨3,dC ids m.lines,true⟩
 line: ∀i (g:i<m.lines.length),h (ids i)=some ⟨2,(m.lines[i]).cells.map Cell.enc,false⟩
structure Ol (C L:Nat) (ids:Nat→Nat):Prop where
 cl:C≠L
 ci: ∀i,i<4→ids i≠C
 li: ∀i,i<4→ids i≠L
 ii: ∀i j,i<4→j<4→i≠j→ids i≠ids j
def lz(l:List Cell)(k:Nat)(xs:List Cell):List Cell:=l.take k++xs++l.drop (k+xs.length)
theorem F3{l xs:List Cell}{k:Nat}(h4:xs.length=4):(l.map Cell.enc).take k++(xs.map Cell.enc).take 4++(l.map Cell.enc).drop (k+4)=(lz l k xs).map Cell.enc:=by
 unfold lz;have e:(xs.map Cell.enc).take 4=xs.map Cell.enc:=aQ (by simp[h4]);rw[List.map_append,List.map_append,List.map_take,List.map_drop,h4,e]
theorem F4{l xs:List Cell}{k:Nat}(h:k+xs.length≤l.length):(lz l k xs).length=l.length:=by
 unfold lz;simp;omega
def cf(m:aF)(r:Nat):bT:=m.lines.getD r j8
def jS(m:aF)(r:Nat):List Cell:=if(cf m r).eU=true then lz m.cells ((cf m r).tag.toNat*4) (cf m r).cells else m.cells
def cx(m:aF)(a:Nat):aF:=
 if(cf m (a/4 % 4)).tag=((a/4:Nat):Int) then m else
  ⟨jS m (a/4 % 4),m.lines.set (a/4 % 4) ⟨((a/4:Nat):Int),false,((jS m (a/4 % 4)).drop (a/4*4)).take 4⟩⟩
def na(m:aF)(a:Nat):Cell:=((cf (cx m a) (a/4 % 4)).cells.getD (a % 4) ⟨0,0⟩)
def mT(m:aF)(a:Nat)(c:Cell):aF:=
 ⟨(cx m a).cells,(cx m a).lines.set (a/4 % 4) ⟨(cf (cx m a) (a/4 % 4)).tag,true,(cf (cx m a) (a/4 % 4)).cells.set (a % 4) c⟩⟩
structure jr (h:aG) (k b C L:Nat) (ids:Nat→Nat) (vB vK vT:V) (m:aF):Prop where
 box:h b=some ⟨5,[.agg [vB,vK,.bJ C 0 512,.bJ L 0 4,vT]],true⟩
 at_:TD h C L ids m
 sep:Ol C L ids
 bl:b≠L∧b≠C
 bi: ∀i,i<4→ids i≠b
 lt:b<k∧C<k∧L<k∧ ∀i,i<4→ids i<k
 mem:qh m
theorem F5{l:List Cell}{p:Nat}(h:dr l=true):dr ((l.drop p).take 4)=true:=by
 unfold dr at h⊢;rw[List.all_eq_true]at h⊢;exact fun x hx=>h x (List.mem_of_mem_drop (List.mem_of_mem_take hx))
theorem BG{l xs:List Cell}{p:Nat}(h:dr l=true)(hx:dr xs=true):dr (lz l p xs)=true:=by
 unfold dr lz at*;rw[List.all_eq_true]at h hx⊢;intro x hm;simp only[List.mem_append]at hm;rcases hm with(hm|hm)|hm
 ·exact h x (List.mem_of_mem_take hm)
 ·exact hx x hm
 ·exact h x (List.mem_of_mem_drop hm)
theorem dZ{m:aF}{r:Nat}(h:r<m.lines.length):cf m r=m.lines[r]:=by simp[cf,List.getD,h]
theorem BH{m:aF}(hM:qh m){r:Nat}(hr:r<4):(jS m r).length=512∧dr (jS m r)=true:=by
 have h1:r<m.lines.length:=by rw[hM.lines];exact hr
 unfold jS;split
 ·rename_i hd;rw[dZ h1]at hd⊢;have hl:=hM.line r h1;have hn:(m.lines[r]).tag≠ -1:=fun e=>by rw[(hl.none e).1]at hd;cases hd
  obtain⟨g1,g2,g3,g4⟩:=hl.some hn;refine⟨?_,BG hM.cells hl.cells⟩;rw[F4 (by rw[hM.len];omega),hM.len]
 ·exact⟨hM.len,hM.cells⟩
theorem nY{m:aF}(hM:qh m){a:Nat}(ha:a<512):qh (cx m a):=by
 unfold cx;split
 ·exact hM
 ·obtain⟨b1,b2⟩:=BH hM (r:=a/4 % 4) (by omega);refine⟨b1,by simp[hM.lines],b2,fun i hi=> ?_⟩;have nh:i<m.lines.length:=by simpa using hi
  by_cases he:a/4 % 4=i
  ·subst he;simp only[List.getElem_set_self];refine⟨fun e=> ?_,fun _=>⟨?_,?_,?_,?_⟩,F5 b2⟩
   ·simp only at e;omega
   ·simp only;omega
   ·simp only;omega
   ·simp only;omega
   ·simp only[List.length_take,List.length_drop,b1];omega
  ·simp only[List.getElem_set_ne he];exact hM.line i nh
theorem qp{m:aF}(hM:qh m){a:Nat}(ha:a<512):(cf (cx m a) (a/4 % 4)).tag=((a/4:Nat):Int)∧(cf (cx m a) (a/4 % 4)).cells.length=4:=by
 have hf:=nY hM ha;have h1:a/4 % 4<(cx m a).lines.length:=by rw[hf.lines];omega
 have ht:(cf (cx m a) (a/4 % 4)).tag=((a/4:Nat):Int):=by
  unfold cx;split
  ·assumption
  ·have h2:a/4 % 4<m.lines.length:=by rw[hM.lines];omega
   simp[cf,List.getD,h2]
 refine⟨ht,?_⟩;rw[dZ h1]at ht⊢;exact((hf.line _ h1).some (by omega)).2.2.2
theorem jr.bZ{h:aG}{k b C L:Nat}{ids:Nat→Nat}{vB vK vT:V}{m:aF}(H:jr h k b C L ids vB vK vT m){h':aG}{k':Nat}(hk:k≤k')(hb:h' b=h b)(hC:h' C=h C)(hL:h' L=h L)(hi: ∀j,j<4→h' (ids j)=h (ids j)):
  jr h' k' b C L ids vB vK vT m:=by
 obtain⟨h1,⟨h2,h3,h4⟩,h5,h6,h7,h8,h9⟩:=H;have hl:=h9.lines;refine⟨by rw[hb,h1],⟨by rw[hC,h2],by rw[hL,h3],fun i g=> ?_⟩,h5,h6,h7,⟨by omega,by omega,by omega,fun i hi=>by have:=h8.2.2.2 i hi;omega⟩,h9⟩;rw[hi i (by omega),h4 i g]
theorem jr.mono{h:aG}{k b C L:Nat}{ids:Nat→Nat}{vB vK vT:V}{m:aF}(H:jr h k b C L ids vB vK vT m){h':aG}{k':Nat}(hk:k≤k')(hh: ∀i,i<k→h' i=h i):jr h' k' b C L ids vB vK vT m:=
 H.bZ hk (hh _ H.lt.1) (hh _ H.lt.2.1) (hh _ H.lt.2.2.1) fun j hj=>hh _ (H.lt.2.2.2 j hj)
theorem set_cells{l:List Cell}{o:Nat}{c:Cell}(h:dr l=true)(hc:lp c=true):dr (l.set o c)=true:=by
 unfold dr at h⊢;rw[List.all_eq_true]at h⊢;intro x hx;rcases List.mem_or_eq_of_mem_set hx with hx|hx
 ·exact h x hx
 ·rw[hx];exact hc
theorem DK{m:aF}(hM:qh m){a:Nat}(ha:a<512){c:Cell}(hc:lp c=true):qh (mT m a c):=by
 have hf:=nY hM ha;obtain⟨ht,h4⟩:=qp hM ha;have hr:a/4 % 4<(cx m a).lines.length:=by rw[hf.lines];omega
 rw[dZ hr]at ht h4;unfold mT;rw[dZ hr];refine⟨hf.len,by simp[hf.lines],hf.cells,fun i hi=> ?_⟩;have nh:i<(cx m a).lines.length:=by simpa using hi
 by_cases he:a/4 % 4=i
 ·subst he;simp only[List.getElem_set_self];have hl:=hf.line _ hr;refine⟨fun e=> ?_,fun _=>⟨?_,?_,?_,?_⟩,set_cells hl.cells hc⟩
  ·simp only at e;omega
  ·simp only;omega
  ·simp only;omega
  ·simp only;omega
  ·simp only[List.length_set];exact h4
 ·simp only[List.getElem_set_ne he];exact hf.line i nh
@[simp] theorem BI(m:V)(i:Int)(h:aG)(b C L k r:Nat)(ids:Nat→Nat)(vB vK vT:V)(mm:aF)(H:jr h k b C L ids vB vK vT mm)(hr:r<mm.lines.length)(hx:(mm.lines[r]).eU=false):bt X 294 [.ptr b 0 2,.int .i64 (r:Int)] h k=some (.cg [],aS h (k+7) (some ⟨3,[.agg [.int .i64 (mm.lines[r]).tag,.bool (mm.lines[r]).eU,.bJ (ids r) 0 (mm.lines[r]).cells.length]],true⟩),k+28):=by
 have hl:=H.mem.lines;have rQ:r<4:=by omega
 have KN:(r:Int)<4:=by omega
 have hb:=H.box;have hL:=H.at_.lines;have hg:=iU (ids:=ids) hr;have lM:(dC ids mm.lines).length=4:=by rw[fY,hl]
 obtain⟨v,h',n',e1,e2,e3,e4⟩:=bh (X:=X) (g:=294) (args:=[.ptr b 0 2,.int .i64 (r:Int)]) (h:=h) (k:=k) (K:=fun v h' n'=>v= .cg []∧h'=aS h (k+7) (some ⟨3,[.agg [.int .i64 (mm.lines[r]).tag,.bool (mm.lines[r]).eU,.bJ (ids r) 0 (mm.lines[r]).cells.length]],true⟩)∧n'=k+28) Tryz.func294 rfl rfl (by
  simp(maxSteps:=10000000) (maxDischargeDepth:=30) (implicitDefEqProofs:=false)[Nat.add_assoc,hb,rQ,KN,hL,hg,lM,hx,sb])
 rw[e1,e2,e3,e4]
@[simp] theorem BJ(m:V)(i:Int)(h:aG)(b C L k r T:Nat)(ids:Nat→Nat)(vB vK vT:V)(mm:aF)(H:jr h k b C L ids vB vK vT mm)(hr:r<mm.lines.length)(hx:(mm.lines[r]).eU=true)(hT:(mm.lines[r]).tag=(T:Int)∧T<128)(h4:(mm.lines[r]).cells.length=4):bt X 294 [.ptr b 0 2,.int .i64 (r:Int)] h k=some (.cg [],aS (aS h (k+7) (some ⟨3,[.agg [.int .i64 (mm.lines[r]).tag,.bool (mm.lines[r]).eU,.bJ (ids r) 0 (mm.lines[r]).cells.length]],true⟩)) C (some ⟨2,(lz mm.cells (T*4) (mm.lines[r]).cells).map Cell.enc,false⟩),k+39):=by
 have hl:=H.mem.lines;have hc:=H.mem.len;have rQ:r<4:=by omega
 have KN:(r:Int)<4:=by omega
 have hb:=H.box;have hL:=H.at_.lines;have hC:=H.at_.cells;have KG:=H.at_.line r hr;have hg:=iU (ids:=ids) hr;have lM:(dC ids mm.lines).length=4:=by rw[fY,hl]
 obtain⟨s,hs⟩: ∃s:Nat,T*4=s:=⟨_,rfl⟩;rw[hs];have hTt:=hT.1;have hT2:=hT.2;have hws:IntKind.i64.wrap ((T:Int)*4)=(s:Int):=by rw[wrap_i64 (by omega)];omega
 have afz:=dY T (by omega);have af0:IntKind.i64.wrap (((T:Int)+1)*4)=(s:Int)+4:=by rw[wrap_i64 (by omega)];omega
 have hle:(s:Int)+4≤512:=by omega
 have hs5:s≤512:=by omega
 have af1:(s:Int)≤512:=by omega
 have hsm:min 4 (512-s)=4:=by omega
 have hs4:s+(512-s)≤512:=by omega
 have ZD:=F3 (l:=mm.cells) (k:=s) h4;have e4:List.take 4 (List.map Cell.enc (mm.lines[r]).cells)=List.map Cell.enc (mm.lines[r]).cells:=aQ (by simp[h4]);rw[e4,List.append_assoc]at ZD;have jw:=H.lt;have q0: ¬b=k+7:=by omega
 have q1: ¬C=k+7:=by omega
 have q2: ¬ids r=k+7:=by have:=jw.2.2.2 r rQ;omega
 have q3: ¬L=k+7:=by omega
 have q4: ¬k+7=C:=by omega
 have Rf: ∀x∈ (mm.lines[r]).cells.map Cell.enc,x.cells.length=2:=fun x hx=>by
  simp only[List.mem_map]at hx;obtain⟨c,_,rfl⟩:=hx;rfl
 obtain⟨v,h',n',e1,e2,e3,e5⟩:=bh (X:=X) (g:=294) (args:=[.ptr b 0 2,.int .i64 (r:Int)]) (h:=h) (k:=k) (K:=fun v h' n'=>v= .cg []∧h'=aS (aS h (k+7) (some ⟨3,[.agg [.int .i64 (mm.lines[r]).tag,.bool (mm.lines[r]).eU,.bJ (ids r) 0 (mm.lines[r]).cells.length]],true⟩)) C (some ⟨2,(lz mm.cells s (mm.lines[r]).cells).map Cell.enc,false⟩)∧n'=k+39) Tryz.func294 rfl rfl (by
  simp(maxSteps:=10000000) (maxDischargeDepth:=30) (implicitDefEqProofs:=false)[Nat.add_assoc,hb,rQ,KN,hL,hC,KG,hg,lM,hx,hTt,h4,hc,hws,afz,af0,hle,hs5,af1,hsm,hs4,e4,ZD,q0,q1,q2,q3,q4,sb])
 rw[e1,e2,e3,e5]
@[simp] theorem BK(m:V)(addr:Int)(h:aG)(b C L k a:Nat)(ids:Nat→Nat)(vB vK vT:V)(mm:aF)(H:jr h k b C L ids vB vK vT mm)(ha:a<512)(ht:(cf mm (a/4 % 4)).tag=((a/4:Nat):Int)):bt X 268 [.ptr b 0 2,.int .i64 (a:Int)] h k=some (.cg [.ptr L (a/4 % 4) 0,.int .i64 ((a % 4:Nat):Int),.bool true],h,k+64):=by
 obtain⟨n,hn⟩: ∃n:Nat,a/4=n:=⟨_,rfl⟩;rw[hn]at ht⊢;obtain⟨r,hr⟩: ∃r:Nat,n % 4=r:=⟨_,rfl⟩;rw[hr]at ht⊢;obtain⟨o,ho⟩: ∃o:Nat,a % 4=o:=⟨_,rfl⟩;rw[ho];have hl:=H.mem.lines;have hd:(a:Int).tdiv 4=n:=by rw[Int.tdiv_eq_ediv_of_nonneg (by omega)];omega
 have hw:IntKind.i64.wrap (n:Int)=n:=wrap_i64 (by omega);have uM:(n:Int).tmod 4=r:=by rw[Int.tmod_eq_emod_of_nonneg (by omega)];omega
 have wN:(a:Int).tmod 4=o:=by rw[Int.tmod_eq_emod_of_nonneg (by omega)];omega
 have h1:r<mm.lines.length:=by omega
 have rQ:r<4:=by omega
 have KN:(r:Int)<4:=by omega
 have a0: ¬(a:Int)<0:=by omega
 have a5: ¬(512:Int)≤(a:Int):=by omega
 have a6: ¬512≤a:=by omega
 have hb:=H.box;have hL:=H.at_.lines;have hg:=iU (ids:=ids) h1;have lM:(dC ids mm.lines).length=4:=by rw[fY,hl]
 rw[dZ h1]at ht;have h4:=((H.mem.line r h1).some (by omega)).2.2.2;obtain⟨v,h',n',e1,e2,e3,e4⟩:=bh (X:=X) (g:=268) (args:=[.ptr b 0 2,.int .i64 (a:Int)]) (h:=h) (k:=k) (K:=fun v h' n'=>v= .cg [.ptr L r 0,.int .i64 (o:Int),.bool true]∧h'=h∧n'=k+64) Tryz.func268 rfl rfl (by
  simp(maxSteps:=10000000) (maxDischargeDepth:=30) (implicitDefEqProofs:=false)[Nat.add_assoc,hb,hd,hw,uM,wN,rQ,KN,a0,a5,a6,hL,hg,lM,ht,h4])
 rw[e1,e2,e3,e4]
@[simp] theorem sB(m:V)(addr:Int)(h:aG)(b C L k a:Nat)(cs:List Cell)(ids:Nat→Nat)(vB vK vT:V)(mm:aF)(H:jr h k b C L ids vB vK vT mm)(p0:cs.length=512)(ha:a<512)(ht: ¬(cf mm (a/4 % 4)).tag=((a/4:Nat):Int)): ∀(h1:aG) (k1:Nat),bt X 294 [.ptr b 0 2,.int .i64 ((a/4 % 4:Nat):Int)] h (k+56)=some (.cg [],h1,k1)→k+56≤k1→h1 b=h b→h1 L=h L→h1 C=some ⟨2,cs.map Cell.enc,false⟩→bt X 268 [.ptr b 0 2,.int .i64 (a:Int)] h k=some (.cg [.ptr L (a/4 % 4) 0,.int .i64 ((a % 4:Nat):Int),.bool true],aS (aS h1 (k1+16) (some ⟨2,((cs.drop (a/4*4)).take 4).map Cell.enc,false⟩)) L (some ⟨3,(dC ids mm.lines).set (a/4 % 4) (.agg [.int .i64 ((a/4:Nat):Int),.bool false,.bJ (k1+16) 0 4]),true⟩),k1+31):=by
 intro rQ k1 hB Sb La hL1 hC1;obtain⟨n,hn⟩: ∃n:Nat,a/4=n:=⟨_,rfl⟩;rw[hn]at ht hB⊢;obtain⟨r,hr⟩: ∃r:Nat,n % 4=r:=⟨_,rfl⟩;rw[hr]at ht hB⊢;obtain⟨o,ho⟩: ∃o:Nat,a % 4=o:=⟨_,rfl⟩;rw[ho];obtain⟨p,hp⟩: ∃p:Nat,n*4=p:=⟨_,rfl⟩;rw[hp];obtain⟨q,hq⟩: ∃q:Nat,p+4=q:=⟨_,rfl⟩;have hl:=H.mem.lines;have hd:(a:Int).tdiv 4=n:=by rw[Int.tdiv_eq_ediv_of_nonneg (by omega)];omega
 have hw:IntKind.i64.wrap (n:Int)=n:=wrap_i64 (by omega);have Zw:IntKind.i64.wrap ((n:Int)*4)=(p:Int):=by rw[wrap_i64 (by omega)];omega
 have xH:=dY n (by omega);have hw5:IntKind.i64.wrap (((n:Int)+1)*4)=(q:Int):=by rw[wrap_i64 (by omega)];omega
 have hqp:q-p=4:=by omega
 have p4:p+4≤512:=by omega
 have hq5:q≤512:=by omega
 have af3:(q:Int)≤512:=by omega
 have X0:p≤q:=by omega
 have sK:min 4 (512-p)=4:=by omega
 have iG: ∀x∈List.take 4 (List.drop p (List.map Cell.enc cs)),x.cells.length=2:=fun x hx=>by
  have:=List.mem_of_mem_drop (List.mem_of_mem_take hx);simp only[List.mem_map]at this;obtain⟨c,_,rfl⟩:=this;rfl
 have uM:(n:Int).tmod 4=r:=by rw[Int.tmod_eq_emod_of_nonneg (by omega)];omega
 have wN:(a:Int).tmod 4=o:=by rw[Int.tmod_eq_emod_of_nonneg (by omega)];omega
 have h1:r<mm.lines.length:=by omega
 have h1l:r<4:=by omega
 have KN:(r:Int)<4:=by omega
 have a0: ¬(a:Int)<0:=by omega
 have a5: ¬(512:Int)≤(a:Int):=by omega
 have a6: ¬512≤a:=by omega
 have hb:=H.box;have hL:=H.at_.lines;rw[hb]at La;rw[hL]at hL1;have hg:=iU (ids:=ids) h1;have lM:(dC ids mm.lines).length=4:=by rw[fY,hl]
 rw[dZ h1]at ht;have jw:=H.lt;have xD:=H.bl.1;have kf:=H.sep.cl;have af4: ¬L=b:=fun e=>xD e.symm;have R7: ¬L=C:=fun e=>kf e.symm;have q1: ¬b=k1+16:=by omega
 have q2: ¬C=k1+16:=by omega
 have q3: ¬L=k1+16:=by omega
 have q4: ¬k1+16=L:=by omega
 obtain⟨v,h',n',e1,e2,e3,e4⟩:=bh (X:=X) (g:=268) (args:=[.ptr b 0 2,.int .i64 (a:Int)]) (h:=h) (k:=k) (K:=fun v h' n'=>v= .cg [.ptr L r 0,.int .i64 (o:Int),.bool true]∧h'=aS (aS rQ (k1+16) (some ⟨2,((cs.drop p).take 4).map Cell.enc,false⟩)) L (some ⟨3,(dC ids mm.lines).set r (.agg [.int .i64 (n:Int),.bool false,.bJ (k1+16) 0 4]),true⟩)∧n'=k1+31) Tryz.func268 rfl rfl (by
  simp(maxSteps:=10000000) (maxDischargeDepth:=30) (implicitDefEqProofs:=false)[Nat.add_assoc,hb,hB,La,hL1,hC1,p0,hd,hw,xH,Zw,hw5,uM,wN,h1l,KN,a0,a5,a6,hL,hg,lM,ht,hqp,p4,hq5,af3,X0,sK,xD,af4,kf,R7,q1,q2,q3,q4,sb];exact iG)
 rw[e1,e2,e3,e4]
theorem AM{h:aG}{k b C L:Nat}{ids:Nat→Nat}{vB vK vT:V}{m:aF}(H:jr h k b C L ids vB vK vT m){a:Nat}(ha:a<512)(ht: ¬(cf m (a/4 % 4)).tag=((a/4:Nat):Int)):
  ∀(h1:aG) (q:Nat),k≤q→h1 C=some ⟨2,(jS m (a/4 % 4)).map Cell.enc,false⟩→(∀i,i<k→i≠C→h1 i=h i)→
    jr (aS (aS h1 q (some ⟨2,(((jS m (a/4 % 4)).drop (a/4*4)).take 4).map Cell.enc,false⟩)) L (some ⟨3,(dC ids m.lines).set (a/4 % 4) (.agg [.int .i64 ((a/4:Nat):Int),.bool false,.bJ q 0 4]),true⟩)) (q+6) b C L (aS ids (a/4 % 4) q) vB vK vT (cx m a)∧
    (∀j,j<4→aS ids (a/4 % 4) q j=ids j∨k≤aS ids (a/4 % 4) q j)∧
    (∀i,i<k→i≠C→i≠L→(∀j,j<4→i≠ids j)→aS (aS h1 q (some ⟨2,(((jS m (a/4 % 4)).drop (a/4*4)).take 4).map Cell.enc,false⟩)) L (some ⟨3,(dC ids m.lines).set (a/4 % 4) (.agg [.int .i64 ((a/4:Nat):Int),.bool false,.bJ q 0 4]),true⟩) i=h i):=by
 obtain⟨hb,hA,hS,xD,hbi,jw,hM⟩:=H;have hl:=hM.lines;have JT:a/4 % 4<4:=by omega
 have hr:a/4 % 4<m.lines.length:=by omega
 have ef:cx m a=⟨jS m (a/4 % 4),m.lines.set (a/4 % 4) ⟨((a/4:Nat):Int),false,((jS m (a/4 % 4)).drop (a/4*4)).take 4⟩⟩:=by unfold cx;rw[if_neg ht]
 obtain⟨b1,b2⟩:=BH hM JT;have ZE:(((jS m (a/4 % 4)).drop (a/4*4)).take 4).length=4:=by simp only[List.length_take,List.length_drop,b1];omega
 have hfm:=nY hM ha;intro h1 q hq hC mJ;rw[ef]at hfm⊢;have p7:=yA (ids:=ids) (n:=q) (x:=⟨((a/4:Nat):Int),false,((jS m (a/4 % 4)).drop (a/4*4)).take 4⟩) hr;simp only[ZE]at p7;have u1: ∀{α:Type} (f:Nat→α) (i:Nat) (v:α),aS f i v i=v:=fun f i v=>by simp[aS]
 have u2: ∀{α:Type} (f:Nat→α) (i j:Nat) (v:α),j≠i→aS f i v j=f j:=fun f i j v eZ=>by simp[aS,eZ]
 refine⟨⟨?_,⟨?_,?_,fun i hi=> ?_⟩,⟨hS.cl,fun i hi=> ?_,fun i hi=> ?_,fun i j hi hj mN=> ?_⟩,xD,fun i hi=> ?_,⟨by omega,by omega,by omega,fun i hi=> ?_⟩,hfm⟩,fun j hj=> ?_,fun i zX hiC hiL mN=> ?_⟩
 ·rw[u2 _ _ _ _ xD.1,u2 _ _ _ _ (by omega),mJ b jw.1 xD.2,hb]
 ·rw[u2 _ _ _ _ hS.cl,u2 _ _ _ _ (by omega),hC]
 ·rw[u1,p7]
 ·simp only[List.length_set]at hi;by_cases he:a/4 % 4=i
  ·subst he;rw[u1,u2 _ _ _ _ (by omega),u1];simp
  ·rw[u2 _ _ _ _ (Ne.symm he),u2 _ _ _ _ (hS.li i (by omega)),u2 _ _ _ _ (by have:=jw.2.2.2 i (by omega);omega),mJ _ (jw.2.2.2 i (by omega)) (hS.ci i (by omega)),hA.line i hi];simp[List.getElem_set_ne he]
 ·by_cases he:a/4 % 4=i
  ·subst he;rw[u1];omega
  ·rw[u2 _ _ _ _ (Ne.symm he)];exact hS.ci i hi
 ·by_cases he:a/4 % 4=i
  ·subst he;rw[u1];omega
  ·rw[u2 _ _ _ _ (Ne.symm he)];exact hS.li i hi
 ·by_cases he:a/4 % 4=i
  ·subst he;rw[u1,u2 _ _ _ _ (Ne.symm mN)];have:=jw.2.2.2 j hj;omega
  ·rw[u2 _ _ _ _ (Ne.symm he)];by_cases Lk:a/4 % 4=j
   ·subst Lk;rw[u1];have:=jw.2.2.2 i hi;omega
   ·rw[u2 _ _ _ _ (Ne.symm Lk)];exact hS.ii i j hi hj mN
 ·by_cases he:a/4 % 4=i
  ·subst he;rw[u1];omega
  ·rw[u2 _ _ _ _ (Ne.symm he)];exact hbi i hi
 ·by_cases he:a/4 % 4=i
  ·subst he;rw[u1];omega
  ·rw[u2 _ _ _ _ (Ne.symm he)];have:=jw.2.2.2 i hi;omega
 ·by_cases he:a/4 % 4=j
  ·subst he;rw[u1];exact .inr hq
  ·rw[u2 _ _ _ _ (Ne.symm he)];exact .inl rfl
 ·rw[u2 _ _ _ _ hiL,u2 _ _ _ _ (by omega),mJ i zX hiC]
theorem vZ{h:aG}{k b C L:Nat}{ids:Nat→Nat}{vB vK vT:V}{m:aF}(H:jr h k b C L ids vB vK vT m){a:Nat}(ha:a<512):
  ∃h' k' iC,bt X 268 [.ptr b 0 2,.int .i64 (a:Int)] h k=some (.cg [.ptr L (a/4 % 4) 0,.int .i64 ((a % 4:Nat):Int),.bool true],h',k')∧jr h' k' b C L iC vB vK vT (cx m a)∧k≤k'∧
   (∀j,j<4→iC j=ids j∨k≤iC j)∧(∀i,i<k→i≠C→i≠L→(∀j,j<4→i≠ids j)→h' i=h i):=by
 have hl:=H.mem.lines;have JT:a/4 % 4<4:=by omega
 have hr:a/4 % 4<m.lines.length:=by omega
 by_cases ht:(cf m (a/4 % 4)).tag=((a/4:Nat):Int)
 ·have e:=BK .bad 0 h b C L k a ids vB vK vT m H ha ht;have ef:cx m a=m:=by unfold cx;rw[if_pos ht]
  exact⟨h,k+64,ids,e,by rw[ef];exact H.mono (by omega) (fun _ _=>rfl),by omega,fun j hj=> .inl rfl,fun i _ _ _ _=>rfl⟩
 ·obtain⟨b1,b2⟩:=BH H.mem JT;have H2:jr h (k+56) b C L ids vB vK vT m:=H.mono (by omega) (fun _ _=>rfl);have u2: ∀{α:Type} (f:Nat→α) (i j:Nat) (v:α),j≠i→aS f i v j=f j:=fun f i j v eZ=>by simp[aS,eZ]
  have jw:=H.lt;cases hx:(cf m (a/4 % 4)).eU with
  |false=>
   have eb:jS m (a/4 % 4)=m.cells:=by unfold jS;rw[hx];simp
   rw[dZ hr]at hx;have eB:=BI .bad 0 h b C L (k+56) (a/4 % 4) ids vB vK vT m H2 hr hx;have e:=sB .bad 0 h b C L k a (jS m (a/4 % 4)) ids vB vK vT m H b1 ha ht _ _ eB (by omega) (u2 _ _ _ _ (by omega)) (u2 _ _ _ _ (by omega)) (by rw[u2 _ _ _ _ (by omega),eb];exact H.at_.cells);obtain⟨f1,f2,f3⟩:=AM H ha ht (aS h (k+56+7) (some ⟨3,[.agg [.int .i64 (m.lines[a/4 % 4]).tag,.bool (m.lines[a/4 % 4]).eU,.bJ (ids (a/4 % 4)) 0 (m.lines[a/4 % 4]).cells.length]],true⟩)) (k+56+28+16) (by omega) (by rw[u2 _ _ _ _ (by omega),eb];exact H.at_.cells) (fun i hi _=>u2 _ _ _ _ (by omega));exact⟨_,_,_,e,f1.mono (by omega) (fun _ _=>rfl),by omega,f2,f3⟩
  |true=>
   have v7:=hx;rw[dZ hr]at hx;have KD:=H.mem.line _ hr;have hn:(m.lines[a/4 % 4]).tag≠ -1:=fun e=>by rw[(KD.none e).1]at hx;cases hx
   obtain⟨g1,g2,g3,g4⟩:=KD.some hn;have eb:jS m (a/4 % 4)=lz m.cells ((m.lines[a/4 % 4]).tag.toNat*4) (m.lines[a/4 % 4]).cells:=by
    unfold jS;rw[v7,if_pos rfl,dZ hr]
   have eB:=BJ .bad 0 h b C L (k+56) (a/4 % 4) (m.lines[a/4 % 4]).tag.toNat ids vB vK vT m H2 hr hx ⟨by omega,by omega⟩ g4;have hbC:=H.bl.2;have hLC:L≠C:=fun e=>H.sep.cl e.symm;have e:=sB .bad 0 h b C L k a (jS m (a/4 % 4)) ids vB vK vT m H b1 ha ht _ _ eB (by omega) (by rw[u2 _ _ _ _ hbC,u2 _ _ _ _ (by omega)]) (by rw[u2 _ _ _ _ hLC,u2 _ _ _ _ (by omega)]) (by rw[eb];simp[aS]);obtain⟨f1,f2,f3⟩:=AM H ha ht (aS (aS h (k+56+7) (some ⟨3,[.agg [.int .i64 (m.lines[a/4 % 4]).tag,.bool (m.lines[a/4 % 4]).eU,.bJ (ids (a/4 % 4)) 0 (m.lines[a/4 % 4]).cells.length]],true⟩)) C (some ⟨2,(lz m.cells ((m.lines[a/4 % 4]).tag.toNat*4) (m.lines[a/4 % 4]).cells).map Cell.enc,false⟩)) (k+56+39+16) (by omega) (by rw[eb];simp[aS]) (fun i hi eZ=>by rw[u2 _ _ _ _ eZ,u2 _ _ _ _ (by omega)]);exact⟨_,_,_,e,f1.mono (by omega) (fun _ _=>rfl),by omega,f2,f3⟩
@[simp] theorem VP(m:V)(addr:Int)(h:aG)(k b C L:Nat)(ids:Nat→Nat)(vB vK vT:V)(mm:aF)(a:Nat)(H:jr h k b C L ids vB vK vT mm)(ha:a<512): ∃h' k' iC,bt X 292 [.ptr b 0 2,.int .i64 (a:Int)] h k=some (.cg [(na mm a).enc,.bool true],h',k')∧jr h' k' b C L iC vB vK vT (cx mm a)∧k≤k'∧(∀j,j<4→iC j=ids j∨k≤iC j)∧(∀i,i<k→i≠C→i≠L→(∀j,j<4→i≠ids j)→h' i=h i):=by
 have H1:jr (aS h k (some ⟨2,[.agg [.int .u8 0,.int .u16 0]],true⟩)) (k+12) b C L ids vB vK vT mm:=H.mono (by omega) (fun i hi=>by simp[aS];intro e;omega);obtain⟨h1,k1,ir,e1,G,Sb,bV,mJ⟩:=vZ H1 ha;obtain⟨r,hr⟩: ∃r:Nat,a/4 % 4=r:=⟨_,rfl⟩;obtain⟨o,ho⟩: ∃o:Nat,a % 4=o:=⟨_,rfl⟩;have wN:(a:Int).tmod 4=o:=by rw[Int.tmod_eq_emod_of_nonneg (by omega)];omega
 have sH:=qp H.mem ha;have hf:=nY H.mem ha;have JU:r<(cx mm a).lines.length:=by rw[hf.lines];omega
 rw[hr]at sH;rw[hr,ho]at e1;rw[dZ JU]at sH;have lM:=hf.lines;have hL:=G.at_.lines;have KG:=G.at_.line r JU;have hg:=iU (ids:=ir) JU;have hle:(dC ir (cx mm a).lines).length=4:=by rw[fY,lM]
 have h4:=sH.2;have JT:r<4:=by omega
 have ho4:o<4:=by omega
 have VQ:(o:Int)<4:=by omega
 have ho5:o<((cx mm a).lines[r]).cells.length:=by omega
 have tT:h1 k=some ⟨2,[.agg [.int .u8 0,.int .u16 0]],true⟩:=by
  rw[mJ k (by omega) (by have:=H.lt.2.1;omega) (by have:=H.lt.2.2.1;omega) (fun j hj=>by have:=H.lt.2.2.2 j hj;omega)];simp[aS]
 have hlm:na mm a=((cx mm a).lines[r]).cells[o]:=by
  unfold na;rw[hr,ho,dZ JU];simp[List.getD,ho5]
 obtain⟨v,h',n',e2,g1,g2,g3⟩:=bh (X:=X) (g:=292) (args:=[.ptr b 0 2,.int .i64 (a:Int)]) (h:=h) (k:=k) (K:=fun v h' n'=>v= .cg [(na mm a).enc,.bool true]∧h'=aS h1 k (some ⟨2,[(na mm a).enc],true⟩)∧n'=k1+11) Tryz.func292 rfl rfl (by
  simp(maxSteps:=10000000) (maxDischargeDepth:=30) (implicitDefEqProofs:=false)[Nat.add_assoc,e1,wN,hL,KG,hg,hle,h4,JT,ho4,VQ,ho5,tT,hlm];exact⟨rfl,rfl⟩)
 subst g1 g2 g3;have un: ∀i,i≠k→aS h1 k (some ⟨2,[(na mm a).enc],true⟩) i=h1 i:=fun i hi=>by simp[aS,hi]
 refine⟨_,_,ir,e2,G.bZ (by omega) (un _ (by have:=H.lt.1;omega)) (un _ (by have:=H.lt.2.1;omega)) (un _ (by have:=H.lt.2.2.1;omega)) (fun j hj=>un _ ?_),by omega,fun j hj=> ?_,fun i hi hC KU wH=> ?_⟩
 ·rcases bV j hj with e|e
  ·rw[e];have:=H.lt.2.2.2 j hj;omega
  ·omega
 ·rcases bV j hj with e|e
  ·exact .inl e
  ·exact .inr (by omega)
 ·rw[un _ (by omega),mJ i (by omega) hC KU wH];simp[aS];intro e;omega
@[simp] theorem Rg(m:V)(addr dy cS:Int)(h:aG)(k b C L:Nat)(ids:Nat→Nat)(vB vK vT:V)(mm:aF)(a:Nat)(cc:Cell)(H:jr h k b C L ids vB vK vT mm)(ha:a<512)(sM:lp cc=true): ∃h' k' iC,bt X 237 [.ptr b 0 2,.int .i64 (a:Int),cc.enc] h k=some (.bool true,h',k')∧jr h' k' b C L iC vB vK vT (mT mm a cc)∧k≤k'∧(∀j,j<4→iC j=ids j∨k≤iC j)∧(∀i,i<k→i≠C→i≠L→(∀j,j<4→i≠ids j)→h' i=h i):=by
 have H1:jr (aS h k (some ⟨2,[cc.enc],true⟩)) (k+12) b C L ids vB vK vT mm:=H.mono (by omega) (fun i hi=>by simp[aS];intro e;omega);obtain⟨h1,k1,ir,e1,G,Sb,bV,mJ⟩:=vZ H1 ha;obtain⟨r,hr⟩: ∃r:Nat,a/4 % 4=r:=⟨_,rfl⟩;obtain⟨o,ho⟩: ∃o:Nat,a % 4=o:=⟨_,rfl⟩;have wN:(a:Int).tmod 4=o:=by rw[Int.tmod_eq_emod_of_nonneg (by omega)];omega
 have sH:=qp H.mem ha;have hf:=nY H.mem ha;have JU:r<(cx mm a).lines.length:=by rw[hf.lines];omega
 rw[hr]at sH;rw[hr,ho]at e1;rw[dZ JU]at sH;have lM:=hf.lines;have hL:=G.at_.lines;have KG:=G.at_.line r JU;have hg:=iU (ids:=ir) JU;have hle:(dC ir (cx mm a).lines).length=4:=by rw[fY,lM]
 have h4:=sH.2;have JT:r<4:=by omega
 have ho4:o<4:=by omega
 have VQ:(o:Int)<4:=by omega
 have ho5:o<((cx mm a).lines[r]).cells.length:=by omega
 have tT:h1 k=some ⟨2,[cc.enc],true⟩:=by
  rw[mJ k (by omega) (by have:=H.lt.2.1;omega) (by have:=H.lt.2.2.1;omega) (fun j hj=>by have:=H.lt.2.2.2 j hj;omega)];simp[aS]
 have Kw:=G.sep.li r JT;have af8: ¬L=ir r:=fun e=>Kw e.symm;obtain⟨v,h',n',e2,g1,g2,g3⟩:=bh (X:=X) (g:=237) (args:=[.ptr b 0 2,.int .i64 (a:Int),cc.enc]) (h:=h) (k:=k) (K:=fun v h' n'=>v= .bool true∧h'=aS (aS h1 (ir r) (some ⟨2,(((cx mm a).lines[r]).cells.set o cc).map Cell.enc,false⟩)) L (some ⟨3,(dC ir (cx mm a).lines).set r (.agg [.int .i64 ((cx mm a).lines[r]).tag,.bool true,.bJ (ir r) 0 4]),true⟩)∧n'=k1+15) Tryz.func237 rfl rfl (by
  simp(maxSteps:=10000000) (maxDischargeDepth:=30) (implicitDefEqProofs:=false)[Nat.add_assoc,e1,wN,hL,KG,hg,hle,h4,JT,ho4,VQ,ho5,tT,Kw,af8];exact⟨rfl,fun _=>rfl⟩)
 subst g1 g2 g3;have gr:mT mm a cc=⟨(cx mm a).cells,(cx mm a).lines.set r ⟨((cx mm a).lines[r]).tag,true,((cx mm a).lines[r]).cells.set o cc⟩⟩:=by
  unfold mT;rw[hr,ho,dZ JU]
 have hsm:qh (mT mm a cc):=DK H.mem ha sM;have u1: ∀{α:Type} (f:Nat→α) (i:Nat) (v:α),aS f i v i=v:=fun f i v=>by simp[aS]
 have u2: ∀{α:Type} (f:Nat→α) (i j:Nat) (v:α),j≠i→aS f i v j=f j:=fun f i j v eZ=>by simp[aS,eZ]
 have ZF:=G.sep.ci r JT;refine⟨_,_,ir,e2,⟨?_,⟨?_,?_,fun i hi=> ?_⟩,G.sep,G.bl,G.bi,⟨?_,?_,?_,fun i hi=> ?_⟩,hsm⟩,by omega,fun j hj=> ?_,fun i hi hC KU wH=> ?_⟩
 ·rw[u2 _ _ _ _ G.bl.1,u2 _ _ _ _ (fun e=>G.bi r JT e.symm),G.box]
 ·rw[u2 _ _ _ _ G.sep.cl,u2 _ _ _ _ (fun e=>ZF e.symm),G.at_.cells,gr]
 ·rw[u1,gr];have p7:=vY (ids:=ir) (x:=⟨((cx mm a).lines[r]).tag,true,((cx mm a).lines[r]).cells.set o cc⟩) JU;simp only[List.length_set,h4]at p7;rw[p7]
 ·rw[gr]at hi;simp only[List.length_set]at hi;have yB:i<4:=by omega
  rw[u2 _ _ _ _ (G.sep.li i yB)];by_cases he:r=i
  ·subst he;rw[u1];simp[gr]
  ·rw[u2 _ _ _ _ (G.sep.ii i r yB JT (fun e=>he e.symm)),G.at_.line i hi];simp[gr,List.getElem_set_ne he]
 ·have:=G.lt.1;omega
 ·have:=G.lt.2.1;omega
 ·have:=G.lt.2.2.1;omega
 ·have:=G.lt.2.2.2 i hi;omega
 ·rcases bV j hj with e|e
  ·exact .inl e
  ·exact .inr (by omega)
 ·have eZ:i≠ir r:=by
   rcases bV r JT with e|e
   ·rw[e];exact wH r JT
   ·omega
  rw[u2 _ _ _ _ KU,u2 _ _ _ _ eZ,mJ i (by omega) hC KU wH];simp[aS];intro e;omega
def dw(ids:Nat→Nat)(i:Nat)(x:Thread):V:= .agg [.int .i64 x.state,.bJ (ids i) 0 x.aO.length,.int .i64 x.pc,.int .i64 x.count,.int .i64 x.bK,.int .i64 x.saved,.int .i64 x.cz,.int .u16 x.code]
def bo(ids:Nat→Nat)(l:List Thread):List V:=l.mapIdx (dw ids)
theorem ey(ids:Nat→Nat)(l:List Thread):(bo ids l).length=l.length:=by simp[bo]
theorem iD{ids:Nat→Nat}{l:List Thread}{i:Nat}(h:i<l.length)(h':i<(bo ids l).length):(bo ids l)[i]= .agg [.int .i64 (l[i]).state,.bJ (ids i) 0 (l[i]).aO.length,.int .i64 (l[i]).pc,.int .i64 (l[i]).count,.int .i64 (l[i]).bK,.int .i64 (l[i]).saved,.int .i64 (l[i]).cz,.int .u16 (l[i]).code]:=by
 simp[bo,dw]
theorem iu{ids:Nat→Nat}{l:List Thread}{i:Nat}{x:Thread}(h:i<l.length):(bo ids l).set i (dw ids i x)=bo ids (l.set i x):=by
 apply List.ext_getElem?;intro j;unfold bo;rw[List.getElem?_set,List.getElem?_mapIdx,List.getElem?_mapIdx,List.getElem?_set];by_cases hj:i=j
 ·subst hj;simp[h]
 ·rw[if_neg hj,if_neg hj]
def fU(x:Thread)(why:Int):Thread:=⟨4,x.aO,x.pc,x.count,x.bK,x.saved,why,0⟩
end Go.Proofs.YtdngefmliibcgaaGreat
