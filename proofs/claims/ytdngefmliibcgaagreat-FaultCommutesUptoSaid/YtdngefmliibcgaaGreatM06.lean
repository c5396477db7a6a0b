/- Part of a proof: engine A15. -/
import Derived.Test.YtdngefmliibcgaaGreatM04
import Derived.Laws.BytesString
import Derived.Lib.ConvBytes
set_option linter.all false
set_option maxRecDepth 20000
set_option maxHeartbeats 20000000
namespace Go.Abs
open Go
variable  {k1 k2 eU kp kx:Bool}{ob:Ob}{α:Type}{args:Array Operand}
section
variable {w w':World} {I I':Nat->Prop} {σ σ':jt} {h:bh}
theorem zr(hk:k1=true->k2=true):Ext w I (my k1 σ) w I (my k2 σ):=by
 cases k1
 ·cases k2
  ·exact .refl _ _ _
  ·exact Ext.free
 ·rw[hk rfl];exact .refl _ _ _
theorem Ext.heap(hh:w'.heap=w.heap):Ext w I σ w' I σ:=
 ⟨fun b _=>by rw[hh],fun b c el fz h=>⟨c,fz,by grind,rfl⟩,fun _ h=>h,fun _ _ h=>h⟩
theorem Step.drew(R:Rel w I σ h)(n:Nat):Step w I σ h n w.drew I σ h n:=
 ⟨Ext.heap rfl,R.eU (Ext.heap rfl) (fun b hb=>R.ed b hb) (fun b hb=>⟨rfl,(R.owned hb).1⟩) (fun _ _=>rfl),rfl,rfl,rfl,aaI _,fun _ _ _=>rfl,fun _ hb=> .inr hb,fun _ hb=> .inl hb,aaI _,fun _ _=>rfl,fun _ _ hn=>hn⟩
theorem Step.kill(R:Rel w I σ h)(id n:Nat):Step w I σ h n w I σ (aR h id none) n:=
 ⟨.refl _ _ _,R.kill id,rfl,rfl,rfl,aaI _,fun _ _ _=>rfl,fun _ hb=> .inr hb.Pp,fun _ hb=> .inl hb,aaI _,fun _ _=>rfl,fun i _ hn=>by grind [aR]⟩
theorem Step.nil(R:Rel w I σ h){n k:Nat}(hn:h n=none)(hs:σ n=none):Step w I σ h n w I σ (aR h n (some ⟨k,[],eU⟩)) (n+1):=
 ⟨.refl _ _ _,R.X4 hn hs,rfl,rfl,rfl,aaI _,fun _ _ _=>rfl,fun b hb=>by
  obtain⟨id,ob,o,k',h1,h2⟩:=hb;by_cases e:id=n
  ·grind
  ·exact .inr ⟨id,ob,o,k',by grind [aR],h2⟩,fun _ hb=> .inl hb,by omega,fun _ _=>rfl,fun id fg LX=>by grind [aR]⟩
theorem Step.aql (R:Rel w I σ h) {id n b o s:Nat}   (gG:h id=some ob) (mX:σ id=some (b,o,ob.k)) (hn:h n=none) (hs:σ n=none) (hk:ob.eU=true->kp=true) {c:Array Value} {el:TypeId}
  (hb:kN w b c el) (hle:o+ob.es.length*ob.k<=c.size) (fV:dK w I (my ob.eU σ) ob.es ob.k b o) (rK:s<=ob.es.length):
  Step w I σ h n w I (aR σ n (some (b,o+s*ob.k,ob.k))) (aR (aR h id none) n (some ⟨ob.k,ob.es.drop s,kp⟩)) (n+1):=by
 have rV:jk σ h b:=⟨id,ob,o,ob.k,gG,mX⟩;have kC:n≠id:=fun e=>by grind
 have OW:aR h id none n=none:=by simp[aR,kC,hn]
 have HY:=fV.SF s (ob.es.length-s);rw[aZ (by simp)]at HY;have E:Ext w I σ w I (aR σ n (some (b,o+s*ob.k,ob.k))):=Ext.Ul hs;have sY:o+s*ob.k+(ob.es.drop s).length*ob.k<=c.size:=by
  have:s*ob.k+(ob.es.length-s)*ob.k=ob.es.length*ob.k:=by rw[<-Nat.add_mul];congr 1;omega
  simp;omega
 have R1:=(R.kill id).X3 (n:=n) (b:=b) (o:=o+s*ob.k) (k:=ob.k) (es:=ob.es.drop s) (eU:=kp) OW hs hb (R.owned rV).1 (R.Kl gG mX) sY
  ((HY.nZ (E.qX ob.eU) rfl).nZ (zr hk) rfl)
 refine⟨E,R1,rfl,rfl,rfl,aaI _,fun _ _ _=>rfl,fun b' wL=> ?_,fun _ hb=> .inl hb,by omega,fun i hi=>by grind [aR],fun i hi xy=>by grind [aR]⟩;obtain⟨i,oK,o',k',h1,h2⟩:=wL;by_cases e:i=n
 ·grind [aR]
 ·have uE:aR h id none i=some oK:=by simpa[aR,e] using h1
  have OT:σ i=some (b',o',k'):=by simpa[aR,e] using h2
  exact .inr (jk.Pp ⟨i,oK,o',k',uE,OT⟩)
theorem SN {P:Program} {tx:TypeId} (hk:(∃e',P.underlying tx=some (.slice e'))\/P.underlying tx=some .string) (R:Rel w I σ h) {x:V} {u:Value} {xs:List V}  (hr:dB w I σ x u) (he:elems h x=some (xs,kx))
  {k:Nat} (hl: ∀e∈xs,e.cells.length=k) (mX: ∀id s l,x= .cu id s l-> ∃ob,h id=some ob/\(xs≠ []->ob.k=k)):
  ∃news,Src P k tx u xs.length news w/\fP w I (my kx σ) (flat xs) news:=by
 have mk: ∀{ad:Addr} {cap:Nat} {b o:Nat} {τ:jt},ad=⟨b,o,none⟩->dK w I τ xs k b o-> ∃news,Src P k tx (.slice (some ad) xs.length cap) xs.length news w/\fP w I τ (flat xs) news:=by
  intro ad cap b o τ had fV;subst had;obtain⟨us,h1,h2,h3⟩:=sD fV;refine⟨us,⟨hk,fun _=>rfl,run_firstCells_some w k xs.length _ _ cap us h1 (fun j v hv=>by rw[qv];grind),run_firstCells_some w.drew k xs.length _ _ cap us h1 (fun j v hv=>by rw[qv];simp_all),h1,h3.ap9⟩,h3⟩
 have mk0: ∀{ad:Option Addr} {cap:Nat},xs=[]-> ∃news,Src P k tx (.slice ad 0 cap) xs.length news w/\fP w I (my kx σ) (flat xs) news:=by
  intro ad cap h0;subst h0;refine⟨[],⟨hk,fun _=>rfl,?_,?_,by simp,by simp⟩,by simp[flat,fP]⟩
  ·cases ad<;>simp[Builtin.firstCells,loadCells,loadCellsFrom]
  ·cases ad<;>simp[Builtin.firstCells,loadCells,loadCellsFrom]
 cases x with
 |sl c es=>
  simp only[elems,aA,bM]at he;obtain⟨rfl,rfl⟩:=he;obtain⟨ad,cap,rfl,_,_,_,h4⟩:=hr;rcases h4 with h4|⟨b,o,k',rfl,hI,fV⟩
  ·simp_all
  ·by_cases h0:es=[]
   ·simp_all
   ·have xz:k'=k:=by
     obtain⟨e,he⟩:=acF es h0;rw[<-fV.lens e he];exact hl e he
    subst xz;exact mk rfl fV
 |cu id s l=>
  obtain⟨ob,gG,xz⟩:=mX id s l rfl;simp only[elems,gG]at he;split at he
  ·obtain⟨rfl,rfl⟩:=he;have Dk:((ob.es.drop s).take l).length=l:=by simp;omega
   obtain⟨ad,cap,rfl,h1,_,h3⟩:=hr;by_cases h0:l=0
   ·simp_all
   ·rcases h3 with h3|⟨b,o,k',c,el,fz,hs,rfl,_⟩
    ·omega
    ·have hi:ob.es[s]?=some (ob.es[s]'(by omega)):=by simp
     obtain⟨b',o',c',Pm,oM,_,_,_,fV⟩:=R.at gG hi;rw[hs]at oM;obtain⟨rfl,rfl,rfl⟩:=oM;have kC:(ob.es.drop s).take l≠ []:=by intro hh;rw[hh]at Dk;simp at Dk;omega
     have hko:=xz kC;have HY:=fV.SF s l
     simp_all
  grind
 |str s=>
  obtain⟨rfl,rfl⟩:=he;obtain⟨bs,rfl,rfl⟩:=sq hr;have sY:bs.data.toList.length=bs.size:=abU;by_cases h0:bs.data.toList=[]
  ·rw[h0];have hz:bs.size=0:=by rw[<-sY,h0];rfl
   have hex:bs.extract 0 0=ByteArray.empty:=by
    apply ByteArray.ext;simp
   refine⟨[],⟨hk,fun _=>by simp[Builtin.lenOf,hz],?_,?_,by simp,by simp⟩,by simp[flat,fP]⟩
   ·simp[Builtin.firstCells]
   ·simp[Builtin.firstCells]
  ·have Eo:k=1:=by
    obtain⟨e,he⟩:=acF _ h0;have:=hl (.int .u8 e.toNat) (List.mem_map.2 ⟨e,he,rfl⟩);simpa[V.cells] using this.symm
   subst Eo;refine⟨byteCells bs,⟨hk,fun _=>by simp[Builtin.lenOf,sY],?_,?_,?_,?_⟩,?_⟩
   ·rw[abF,sY];exact firstCells_string bs w
   ·rw[abF,sY];exact firstCells_string bs w.drew
   ·rw[byteCells_length,abF,sY,Nat.mul_one]
   ·intro u hu;obtain⟨_,_,rfl⟩:=List.mem_map.1 hu;rfl
   ·rw[dL];have wO:flat (bs.data.toList.map fun b=>V.int .u8 b.toNat)=bs.data.toList.map fun b=>V.int .u8 b.toNat:=by
     generalize bs.data.toList=l;induction l with
     |nil=>rfl
     |cons b l ih=>rw[aaU,rX,ih];rfl
    rw[wO];refine⟨by rw[byteCells_length,abF,sY],fun j c u hc hu=> ?_⟩;unfold byteCells at hu;rw[abm]at hc hu;cases hb:bs.data.toList[j]? with
    |none=>grind
    |some b=>
     simp only[hb,abZ,aA]at hc hu;subst hc;subst hu;exact⟨rfl,by simp[dB]⟩
 |_=>simp[elems]at he
theorem sQ{P:Program}(t tx ty e:TypeId)(i:TypeInfo)(ht:P.underlying t=some (.slice e))(hi:P.info? e=some i)(base:Option Addr)(Fg Ma:Nat)(hle:Fg<=Ma)(x:Value)(hs:Src P i.size tx x 0 [] w):
  (Builtin.append_ #[t,tx] ty #[.slice base Fg Ma,x]).run P w= .ok (.slice base Fg Ma) w:=by
 have hc:=hs.cells;cases base<;>rcases hs.kind with⟨e',hk⟩|hk<;>simp[Builtin.append_,run_underlying ht,run_underlying hk,sizeOf,typeInfo,hi,hs.len,hle,hc,storeCells]
theorem HZ {P:Program} (t tx ty e:TypeId) (i:TypeInfo) (ht:P.underlying t=some (.slice e)) (hi:P.info? e=some i) {b p Fg Ma:Nat} {x:Value} {n:Nat} {news:List Value} (hs:Src P i.size tx x n news w)
  (Mb:Fg+n<=Ma) {c:Array Value} {el:TypeId} (hb:kN w b c el) (vV:p+Fg*i.size+news.length<=c.size):
  (Builtin.append_ #[t,tx] ty #[.slice (some ⟨b,p,none⟩) Fg Ma,x]).run P w= .ok (.slice (some ⟨b,p,none⟩) (Fg+n) Ma) (w.setRow b (rW c (p+Fg*i.size) news)):=by
 have kD:=wN (P:=P) (b:=b) (p:=p+Fg*i.size) news 0 c w hb (by omega) fun v hv=>hs.one v (by omega);rcases hs.kind with⟨e',hk⟩|hk<;>simp[Builtin.append_,run_underlying ht,run_underlying hk,sizeOf,typeInfo,hi,hs.len,Mb,hs.cells,Addr.add_lit,kD,rW]
end
section
variable {w:World} {I:Nat->Prop} {σ:jt} {h:bh}
structure Ye (w:World) (I:Nat->Prop) (σ:jt) (id s l:Nat) (ob:Ob) (ad:Option Addr) (cap:Nat):Prop where
 le:l<=cap
 max:cap<=maxLen
 place:cap=0\/ ∃b o c el,σ id=some (b,o,ob.k)/\ad=some ⟨b,o+s*ob.k,none⟩/\kN w b c el/\o+ob.es.length*ob.k<=c.size/\o+(s+cap)*ob.k<=c.size/\dK w I (my ob.eU σ) ob.es ob.k b o
theorem Mc(R:Rel w I σ h){id s l:Nat}{u:Value}(hr:dB w I σ (.cu id s l) u)(gG:h id=some ob): ∃ad cap,u= .slice ad l cap/\Ye w I σ id s l ob ad cap:=by
 obtain⟨ad,cap,rfl,h1,h2,h3⟩:=hr;refine⟨ad,cap,rfl,h1,h2,?_⟩;rcases h3 with h3|⟨b,o,k,c,el,fz,hs,ha,hb,hle⟩
 ·omega
 ·rcases R.obj id ob gG with⟨_,hn⟩|⟨b',o',c',Pm,oM,hi,wL,D0,fV⟩
  ·grind
  ·rw[hs]at oM;obtain⟨rfl,rfl,rfl⟩:=oM;obtain⟨fz',D4⟩:=wL.at;rw[hb]at D4;obtain⟨rfl,rfl,rfl⟩:=D4;exact .inr ⟨b,o,c,el,hs,ha,wL,D0,hle,fV⟩
theorem Ye.tu{P:Program}{id s l cap:Nat}{ob:Ob}{ad:Option Addr}(B:Ye w I σ id s l ob ad cap)(rK:s+l<=ob.es.length):
  ∃tu:List Value,tu.length=l*ob.k/\fP w I (my ob.eU σ) (flat ((ob.es.drop s).take l)) tu/\(Builtin.firstCells ob.k l (.slice ad l cap)).run P w.drew= .ok tu.toArray w.drew:=by
 have hl:=B.le;by_cases h0:l=0
 ·subst h0;refine⟨[],by simp,by simp[flat,fP],?_⟩;cases ad<;>simp[Builtin.firstCells,loadCells,loadCellsFrom]
 ·rcases B.place with hp|⟨b,o,c,el,hs,rfl,hb,hle,aqm,fV⟩
  ·omega
  ·obtain⟨us,h1,h2,h3⟩:=sD (fV.SF s l);have Xs:((ob.es.drop s).take l).length=l:=by simp;omega
   rw[Xs]at h1;exact⟨us,h1,h3,run_firstCells_some w.drew ob.k l _ _ cap us h1 (fun j v hv=>by rw[qv];simp_all)⟩
theorem Fh{z:Array Value}(n:Nat):(Builtin.zeroCells z n).size=n*z.size:=by
 have:=size_madeCells z (n*z.size);simp[Builtin.zeroCells]
theorem Pt(tu news:List Value)(z:Array Value)(g n k:Nat)(hz:z.size=k)(ho:(tu++news).length=n*k)(hg:n<=g):
  ((tu++news).toArray++Builtin.zeroCells z (g-n)).size=g*k:=by
 rw[Array.size_append,Fh,hz];have:n*k+(g-n)*k=g*k:=by rw[<-Nat.add_mul];congr 1;omega
 grind
theorem Fi {P:Program} {t tx ty e:TypeId} {x:TI} (ht:P.underlying t=some (.slice e)) (T:mo P e x) {ad:Option Addr} {l cap:Nat} {tu news:List Value} {u:Value} {n:Nat}
  (hold:(Builtin.firstCells x.size l (.slice ad l cap)).run P w.drew= .ok tu.toArray w.drew) (hol:tu.length=l*x.size) (hs:Src P x.size tx u n news w) (hg:cap<l+n) (vV:(l+n)*x.bytes<=2^47) (Yf:l+n<=2^62):
  ∃(c:Array Value) (g:Nat),(Builtin.append_ #[t,tx] ty #[.slice ad l cap,u]).run P w= .ok (.slice (some ⟨w.heap.size,0,none⟩) (l+n) g) (w.drew.alloc (.cells c e))/\l+n<=g/\g<=maxLen/\g*x.size<=c.size/\
   (∀(j:Nat) v,(tu++news)[j]?=some v->c[j]?=some v):=by
 obtain⟨i,z,hi,Uz,hib,hz,hzb⟩:=T.info;have Uy:=zero_cells (w:=w) (I:=fun _=>False) (σ:=fy) T hzb;have L8:z.cells.size=x.size:=by
  have:=((dL _ _).1 Uy).1;rw[T.X5]at this;simpa using this.symm
 have kn:=run_append_grow_src (w:=w) t tx ty e i z ht hi hz ad l cap tu (by grind) u n news (by grind) hg (by omega)
  (by have:=growslice_fits (bytes:=i.bytes) hg (by grind);omega)
 have hge:=grownCap_ge w (l+n) cap e;have hle:=grownCap_le_maxLen w (l+n) cap e (by simp only[maxLen];omega);have hlen:(tu++news).length=(l+n)*x.size:=by rw[aaY,hol,hs.newsLen,acA]
 refine⟨_,_,kn,hge,hle,?_,?_⟩
 ·rw[Pt tu news z.cells _ _ _ L8 hlen hge];omega
 grind
variable {P:Program} {t tx ty e:TypeId} {x:TI} {n:Nat} {xs:List V} {news:List Value} {y:Value}
theorem ye (R:Rel w I σ h) (ht:P.underlying t=some (.slice e)) (T:mo P e x) {u:Value} (hb:dB w I σ (.sl true []) u)  (Yg:kx=true->kp=true) (hk: ∀v∈xs,v.cells.length=x.size)
  (hs:Src P x.size tx y xs.length news w) (hr:fP w I (my kx σ) (flat xs) news) (hn:h n=none) (ve:σ n=none) (vV:xs.length*x.bytes<=2^47) (Yf:xs.length<=2^62):
  ∃v w' σ',(Builtin.append_ #[t,tx] ty #[u,y]).run P w= .ok v w'/\Step w I σ h n w' I σ' (aR h n (some ⟨x.size,xs,kp⟩)) (n+1)/\dB w' I σ' (.cu n 0 xs.length) v:=by
 obtain⟨ad,cap,rfl,_,_,hc,_⟩:=hb;have IY:cap=0:=by simpa using hc
 subst IY;obtain⟨i,z,hi,Uz,hib,hz,hzb⟩:=T.info;by_cases h0:xs=[]
 ·subst h0;have xA:news=[]:=by
   have:=hs.newsLen;simp at this;exact this
  subst xA;refine⟨_,w,σ,sQ t tx ty e i ht hi ad 0 0 (aaI _) y (by grind),Step.nil R hn ve,?_⟩;exact⟨ad,0,rfl,by simp,by omega,.inl rfl⟩
 ·have L2:0<xs.length:=List.length_pos_iff.2 h0;obtain⟨c,g,kn,hge,hle,sY,Az⟩:=Fi ht T (ad:=ad) (l:=0) (cap:=0) (tu:=[]) (ty:=ty) (by cases ad<;>simp[Builtin.firstCells,loadCells,loadCellsFrom]) (by simp) hs (by omega) (by grind) (by omega);simp only[acN,aeQ]at kn hge Az;refine⟨_,_,_,kn,(Step.drew R n).trans (yd (Step.drew R n).rel c hn ve hk (us:=news) ?_ Az),?_⟩
  ·exact(fP.ext' _ _ ((Ext.heap rfl:Ext w I (my kx σ) w.drew I (my kx σ)).trans (zr Yg)) hr)
  ·have:=Bs w.drew I σ (n:=n) (k:=x.size) (l:=xs.length) (cap:=g) (c:=c) (el:=e) hge hle sY;simpa using this
theorem Pu (R:Rel w I σ h) (ht:P.underlying t=some (.slice e)) (T:mo P e x) {u:Value} {es:List V} (hb:dB w I σ (.sl true es) u) (hke: ∀v∈es,v.cells.length=x.size) (hk: ∀v∈xs,v.cells.length=x.size)
  (hs:Src P x.size tx y xs.length news w) (hr:fP w I (my false σ) (flat xs) news) (n:Nat) (vV:(es.length+xs.length)*x.bytes<=2^47) (Yf:es.length+xs.length<=2^62):
  ∃v w' I',(Builtin.append_ #[t,tx] ty #[u,y]).run P w= .ok v w'/\Step w I σ h n w' I' σ h n/\dB w' I' σ (.sl false (es++xs)) v:=by
 obtain⟨ad,cap,rfl,h1,h2,hc,h4⟩:=hb;have IY:cap=es.length:=by simpa using hc
 subst IY;obtain⟨i,z,hi,Uz,hib,hz,hzb⟩:=T.info;by_cases h0:xs=[]
 ·subst h0;have xA:news=[]:=by
   have:=hs.newsLen;simp at this;exact this
  subst xA;refine⟨_,w,I,sQ t tx ty e i ht hi ad es.length es.length (aaI _) y (by grind),Step.refl R n,?_⟩;rw[acU];exact⟨ad,es.length,rfl,h1,h2,fun hh=>(by omega),h4⟩
 ·have L2:0<xs.length:=List.length_pos_iff.2 h0;have hold: ∃tu:List Value,tu.length=es.length*x.size/\fP w I fy (flat es) tu/\(Builtin.firstCells x.size es.length (.slice ad es.length es.length)).run P w.drew= .ok tu.toArray w.drew:=by
   by_cases he:es=[]
   ·subst he;refine⟨[],by simp,by simp[flat,fP],?_⟩;cases ad<;>simp[Builtin.firstCells,loadCells,loadCellsFrom]
   ·rcases h4 with h4|⟨b,o,k',rfl,hI,fV⟩
    ·grind
    ·have xz:k'=x.size:=by
      obtain⟨v,hv⟩:=acF es he;rw[<-fV.lens v hv];exact hke v hv
     subst xz;obtain⟨us,h1,h2,h3⟩:=sD fV;exact⟨us,h1,h3,run_firstCells_some w.drew _ _ _ _ _ us h1 (fun j v hv=>by rw[qv];simp_all)⟩
  obtain⟨tu,hol,Yh,hof⟩:=hold;obtain⟨c,g,kn,hge,hle,sY,Az⟩:=Fi ht T (ty:=ty) hof hol hs (by omega) vV Yf;have st:=(Step.drew R n).trans (Kq (Step.drew R n).rel c e n);refine⟨_,_,_,kn,st,?_⟩;refine⟨_,g,by grind,by grind,hle,fun hh=>(by grind),.inr ⟨w.heap.size,0,x.size,rfl,.inr rfl,?_⟩⟩;refine tV st.ext.Ke (us:=tu++news) (fun v hv=> ?_) (by rw[sC];exact Yh.append hr) (fun j v hv=> ?_)
  ·grind
  ·have:(w.drew.alloc (.cells c e)).heap[w.heap.size]?=some (.cells c e):=aqb w.drew (.cells c e);rw[cell_of_row _ _ _ _ _ _ this]
   grind
theorem Pv (R:Rel w I σ h) (ht:P.underlying t=some (.slice e)) (T:mo P e x) {id s l:Nat}  {u:Value} (hb:dB w I σ (.cu id s l) u) (gG:h id=some ob) (lj:ob.k=x.size) (rK:s+l<=ob.es.length)
   (Yg:kx=true->kp=true) (hkb:ob.eU=true->kp=true) (hk: ∀v∈xs,v.cells.length=x.size)
  (hs:Src P x.size tx y xs.length news w) (hr:fP w I (my kx σ) (flat xs) news) (hn:h n=none) (ve:σ n=none) (vV:(l+xs.length)*x.bytes<=2^47) (Yf:l+xs.length<=2^62):
  ∃v w' σ',(Builtin.append_ #[t,tx] ty #[u,y]).run P w= .ok v w'/\Step w I σ h n w' I σ' (aR (aR h id none) n (some ⟨x.size,(ob.es.drop s).take l++xs,kp⟩)) (n+1)/\dB w' I σ' (.cu n 0 (l+xs.length)) v:=by
 obtain⟨ad,cap,rfl,B⟩:=Mc R hb gG;obtain⟨i,z,hi,Uz,hib,hz,hzb⟩:=T.info;have hle:=B.le;have kC:n≠id:=fun e=>by grind
 have OW:aR h id none n=none:=by simp[aR,kC,hn]
 by_cases hg:cap<l+xs.length
 ·obtain⟨tu,hol,Yh,hof⟩:=B.tu (P:=P) rK;rw[lj]at hol hof;obtain⟨c,g,kn,hge,a6e,sY,Az⟩:=Fi ht T (ty:=ty) hof hol hs hg vV Yf;have s1:=(Step.kill R id n).trans (Step.drew (R.kill id) n);have IZ: ∀v∈ (ob.es.drop s).take l++xs,v.cells.length=x.size:=by
   intro v hv;rcases List.mem_append.1 hv with hv|hv
   ·rcases B.place with hp|⟨b,o,c,el,_,_,_,_,_,fV⟩
    ·simp_all
    ·rw[<-lj];exact fV.lens v (abh (aaS hv))
   ·grind
  have hE: ∀{kk:Bool},(kk=true->kp=true)->Ext w I (my kk σ) w.drew I (my kp σ):=fun hh=>(Ext.heap rfl:Ext w I (my _ σ) w.drew I (my _ σ)).trans (zr hh);refine⟨_,_,_,kn,s1.trans (yd s1.rel c OW ve IZ (us:=tu++news) ?_ Az),?_⟩
  ·rw[sC];exact(fP.ext' _ _ (hE hkb) Yh).append (fP.ext' _ _ (hE Yg) hr)
  ·have:=Bs w.drew I σ (n:=n) (k:=x.size) (l:=l+xs.length) (cap:=g) (c:=c) (el:=e) hge a6e sY
   simp_all
 ·have Mb:l+xs.length<=cap:=by omega
  rcases B.place with hp|⟨b,o,c,el,mX,rfl,wF,aqn,aqm,fV⟩
  ·subst hp;have h0:xs=[]:=abP (by omega);have Hr:l=0:=by omega
   subst h0;subst Hr;have xA:news=[]:=by
    have:=hs.newsLen;simp at this;exact this
   subst xA;refine⟨_,w,σ,sQ t tx ty e i ht hi ad 0 0 (aaI _) y (by grind),?_,?_⟩
   ·have:=(Step.kill R id n).trans (Step.nil (R.kill id) (k:=x.size) (eU:=kp) OW ve)
    grind
   ·exact⟨ad,0,rfl,by simp,by omega,.inl rfl⟩
  ·
   have Az:news.length=xs.length*x.size:=hs.newsLen;have hmul:(s+cap)*ob.k=s*ob.k+cap*ob.k:=acA ..;have amu:(l+xs.length)*ob.k<=cap*ob.k:=abM _ Mb;rw[acA]at amu;have bcs:(s+l)*ob.k=s*ob.k+l*ob.k:=acA ..;have xD:o+(s+l)*ob.k+news.length<=c.size:=by rw[Az,<-lj];omega
   have kn:=HZ (w:=w) (P:=P) t tx ty e i ht hi (b:=b) (p:=o+s*ob.k) (Fg:=l) (Ma:=cap) (x:=y) (n:=xs.length) (news:=news) (by grind) Mb wF
    (by grind)
   rw[Uz,<-lj,show o+s*ob.k+l*ob.k=o+(s+l)*ob.k by omega]at kn;have hI: ¬I b:=(R.owned ⟨id,ob,o,ob.k,gG,mX⟩).1;have E:Ext w I σ (w.setRow b (rW c (o+(s+l)*ob.k) news)) I σ:=Ext.setRow hI wF (oL xD);have lb:kN _ b (rW c (o+(s+l)*ob.k) news) el:=wF.set (oL xD);have HY:=fV.SF 0 (s+l);simp only[aeI,aeE,adQ]at HY;obtain⟨us,SH,huc,hur⟩:=sD HY;have np:(ob.es.take (s+l)).length=s+l:=by simp;omega
   rw[np]at SH;have ya:dK (w.setRow b (rW c (o+(s+l)*ob.k) news)) I (my kp σ) (ob.es.take (s+l)++xs) ob.k b o:=by
    refine tV (E.qX kp) (us:=us++news) (fun v hv=> ?_) ?_ (fun j v hv=> ?_)
    ·rcases List.mem_append.1 hv with hv|hv
     ·exact fV.lens v (aaS hv)
     grind
    ·rw[sC];exact(fP.ext' _ _ (zr hkb) hur).append (fP.ext' _ _ (zr Yg) hr)
    ·rw[lb.cell,vU xD];by_cases hj:j<us.length
     ·rw[aaV hj]at hv;rw[if_neg (by omega)];have:=huc j v hv;rwa[wF.cell]at this
     ·have tH:=(List.getElem?_eq_some_iff.1 hv).1;rw[aaY]at tH;rw[aaO (by omega)]at hv;rw[if_pos (by omega),show o+j-(o+(s+l)*ob.k)=j-us.length by omega];exact hv
   have aw0:o+(ob.es.take (s+l)++xs).length*ob.k<=c.size:=by
    rw[aaY,np,acA];rw[Az,<-lj]at xD;omega
   have s1:=R.write (eU:=kp) gG mX wF (oL xD) aw0 ya n;have a6f:aR h id (some (⟨ob.k,ob.es.take (s+l)++xs,kp⟩:Ob)) id=some ⟨ob.k,ob.es.take (s+l)++xs,kp⟩:=by simp[aR]
   have Bt:aR h id (some (⟨ob.k,ob.es.take (s+l)++xs,kp⟩:Ob)) n=none:=by simp[aR,kC,hn]
   have s2:=Step.aql s1.rel (n:=n) (s:=s) (kp:=kp) a6f mX Bt ve (fun hh=>hh) lb (by rw[oL xD];exact aw0) ya (by rw[aaY,np];omega);have s3:=s1.trans s2;have aw1:(ob.es.take (s+l)++xs).drop s=(ob.es.drop s).take l++xs:=by
    rw[List.drop_append_of_le_length (by rw[np];omega),aeG];congr 2;omega
   refine⟨_,_,aR σ n (some (b,o+s*ob.k,ob.k)),kn,?_,?_⟩
   ·have UC:aR (aR h id (some (⟨ob.k,ob.es.take (s+l)++xs,kp⟩:Ob))) id none=aR h id none:=by
     funext q;simp only[aR];split<;>rfl
    rw[UC,aw1]at s3;rw[<-lj];exact s3
   ·simp only[dB];obtain⟨fz,aw2⟩:=lb.at;exact⟨_,cap,rfl,Mb,B.max,.inr ⟨b,o+s*ob.k,ob.k,_,el,fz,by simp[aR],by simp,aw2,by rw[oL xD,acN];omega⟩⟩
theorem Kr{v:V}{xs:List V}(he:elems h v=some (xs,kx))(R:Rel w I σ h){k:Nat}(hl: ∀e∈xs,e.cells.length=k): ∀id s l,v= .cu id s l-> ∃ob,h id=some ob/\(xs≠ []->ob.k=k):=by
 rintro id s l rfl;simp only[elems]at he;cases gG:h id with
 |none=>grind
 |some ob=>
  refine⟨ob,rfl,fun kC=> ?_⟩;simp only[gG]at he;split at he
  ·obtain⟨rfl,rfl⟩:=he;obtain⟨v,hv⟩:=acF _ kC;rw[<-hl v hv];have hm:=abh (aaS hv);obtain⟨i,hi⟩:=aei hm;obtain⟨b',o',c',Pm,_,_,_,_,fV⟩:=R.at gG hi;exact(fV.lens v hm).symm
  grind
theorem amv{a:Array α}{x y:α}(h:a.toList=[x,y]):a= #[x,y]:=by grind
theorem Yi{a:Array α}{x y:α}{r:List α}(h:a.toList=x::y::r):a[0]?=some x/\a[1]?=some y:=by
 rw[<-Array.getElem?_toList,<-Array.getElem?_toList,h];simp
theorem Pw{mM:Array TypeId}{t u:TypeId}{r:List TypeId}(ht:mM.toList=t::u::r)(ty:TypeId)(args:Array Value):Builtin.append_ mM ty args=Builtin.append_ #[t,u] ty args:=by
 simp[Builtin.append_,Yi ht]
theorem Yj{mM:Array TypeId}{t u:TypeId}{r:List TypeId}(ht:mM.toList=t::u::r)(ty:TypeId)(args:Array Value):Builtin.copy_ mM ty args=Builtin.copy_ #[t,u] ty args:=by
 simp[Builtin.copy_,Yi ht]
end
section
variable {X:Env} {o:Oper} {a:Act} {w:World} {I:Nat->Prop} {σ:jt} {S S1:St}
theorem Ep{xs:List V}{k:Nat}(h:(xs.all fun v=>v.cells.length==k)=true): ∀v∈xs,v.cells.length=k:=by grind
theorem Px  {mM:Array TypeId} (ho:o.op= .call ⟨.builtin .append,args,mM⟩) {t u:TypeId} {r:List TypeId} (hty:mM.toList=t::u::r)
  (hu:X.P.underlying t=some (.slice (X.ti t).elem)) (T:mo X.P (X.ti t).elem (X.ti (X.ti t).elem)) (a6g:((∃e',X.P.underlying u=some (.slice e'))\/X.P.underlying u=some .string)\/(X.ti u).kind.isSome=true)
  (R:Rel w I σ S.h) (F:jv w I σ S.f a) (hx:oq o) (hn:S.h S.n=none) (ve:σ S.n=none) (bY:FuncId) {v0:V} {Xu:bh} {nn0:Nat} (he:cI X bY o S.ev S.h S.n=some (v0,Xu,nn0)) (qR:S1=({S with h:=Xu,n:=nn0}:St).set o.dst v0):Out X o a w I σ S S1:=by
 have OX:mM.getD 0 0=t:=by
  have:=(Yi hty).1;simp[abB,this]
 have ht1:mM.getD 1 0=u:=by
  have:=(Yi hty).2;simp[abB,this]
 simp only[cI,ho,OX,ht1]at he;split at he
 case h_2=>grind
 rename_i s x jK;cases wG:args.toList with
 |nil=>grind
 |cons p q=>
 cases q with
 |nil=>grind
 |cons q q2=>
 cases q2 with
 |cons _ _=>grind
 |nil=>
 simp only[wG,aaU,abI,acg,and_true]at jK;obtain⟨rfl,rfl⟩:=jK;have Ax:=amv wG;have r1:dB w I σ (S.ev p) (a.eval p):=fj (S:=S) F (hx p (by simp[ho,Op.operands,Call.operands,Ax]));have r2:dB w I σ (S.ev q) (a.eval q):=fj (S:=S) F (hx q (by simp[ho,Op.operands,Call.operands,Ax]));have kn: ∀{v:Value} {w':World},(Builtin.append_ #[t,u] o.type #[a.eval p,a.eval q]).run X.P w= .ok v w'->(execOp a.eval o).run X.P w= .ok (.value v) w':=by
  intro v w' hh;simp[execOp,ho,Ax,resolve,invoke,builtin,Pw hty,hh]
 cases Xv:elems S.h (S.ev p) with
 |none=>grind
 |some y1=>
 obtain⟨es,kb⟩:=y1;cases Xw:elems S.h (S.ev q) with
 |none=>grind
 |some y2=>
 obtain⟨xs,kx⟩:=y2;simp only[Xv,Xw]at he;split at he
 ·grind
 rename_i Er;simp only[abX,aaF,aaZ,not_or,not_and,acO]at Er;obtain⟨⟨Er,hlen⟩,bgq⟩:=Er;have huk:=a6g.resolve_right (by omega);have Dk:=Ep hlen;split at he
 case isFalse=>grind
 rename_i vV;have hkb:kb=true->X.fX bY (X.ti t).elem=true:=fun h=>Er (.inl h);have Yg:kx=true->X.fX bY (X.ti t).elem=true:=fun h=>Er (.inr h);obtain⟨news,E4,hnr⟩:=SN huk R r2 Xw Dk (Kr Xw R Dk);split at he
 ·
  rename_i hp;obtain⟨rfl,rfl,rfl⟩:=he;subst qR;rw[hp]at r1;have h0:es=[]:=by rw[hp]at Xv;simp only[elems,aA,bM]at Xv;exact Xv.1.symm
  subst h0;obtain⟨v,w',σ',h1,h2,h3⟩:=ye (ty:=o.type) R hu T r1 Yg Dk E4 hnr hn ve (by grind) (by omega);refine⟨_,w',I,σ',v,_,kn h1,.inl rfl,?_,rN _ _ _ _ rfl,h3⟩;rw[fm,gZ];omega
 ·rename_i Ae kC hp;split at he
  ·grind
  rename_i D7;simp only[abX,aaZ,not_or,aeK,acO]at D7;obtain⟨rfl,rfl,rfl⟩:=he;subst qR;rw[hp]at r1;have h0:es=Ae/\kb=false:=by rw[hp]at Xv;simp only[elems,aA,bM]at Xv;exact⟨Xv.1.symm,Xv.2.symm⟩
  obtain⟨rfl,_⟩:=h0;rw[D7.1]at hnr;obtain⟨v,w',I',h1,h2,h3⟩:=Pu (ty:=o.type) R hu T r1 (Ep D7.2) Dk E4 hnr S.n vV.1 vV.2;refine⟨_,w',I',σ,v,_,kn h1,.inl rfl,?_,rfl,h3⟩;rw[fm,gZ];omega
 ·rename_i id s l hp;split at he
  case h_2=>grind
  rename_i ob gG;split at he
  case isFalse=>grind
  rename_i hk;obtain⟨rfl,rfl,rfl⟩:=he;subst qR;rw[hp]at r1;rw[hp]at Xv;simp only[elems,gG]at Xv;split at Xv
  case isFalse=>grind
  rename_i rK;obtain⟨rfl,rfl⟩:=Xv;have ahv:((ob.es.drop s).take l).length=l:=by simp;omega
  rw[ahv]at vV⊢;obtain⟨v,w',σ',h1,h2,h3⟩:=Pv (ty:=o.type) R hu T r1 gG hk rK Yg hkb Dk E4 hnr hn ve vV.1 vV.2;refine⟨_,w',I,σ',v,_,kn h1,.inl rfl,?_,rN _ _ _ _ rfl,h3⟩;rw[fm,gZ];omega
 grind
theorem I3 {P:Program} {h:bh} (R:Rel w I σ h) {x:V} {u:Value} {xs:List V}  (hr:dB w I σ x u) (he:elems h x=some (xs,kx)) (H5:x.isStr=false)
  {k:Nat} (hl: ∀e∈xs,e.cells.length=k) (m:Nat) (hm:m<=xs.length):
  (∀w',(Builtin.lenOf u).run P w'= .ok xs.length w')/\ ∃news:List Value,news.length=m*k/\(Builtin.firstCells k m u).run P w= .ok news.toArray w/\fP w I (my kx σ) (flat (xs.take m)) news:=by
 have mk: ∀{ad:Addr} {n cap:Nat} {b o:Nat} {τ:jt},ad=⟨b,o,none⟩->dK w I τ xs k b o-> ∃news:List Value,news.length=m*k/\(Builtin.firstCells k m (.slice (some ad) n cap)).run P w= .ok news.toArray w/\fP w I τ (flat (xs.take m)) news:=by
  intro ad n cap b o τ had fV;subst had;have hs:=fV.SF 0 m;simp only[aeI,aeE,adQ]at hs;obtain⟨us,h1,h2,h3⟩:=sD hs;have:(xs.take m).length=m:=by simp;omega
  rw[this]at h1;exact⟨us,h1,run_firstCells_some w k m _ _ cap us h1 (fun j v hv=>by rw[qv];grind),h3⟩
 have mk0: ∀{ad:Option Addr} {n cap:Nat},xs=[]-> ∃news:List Value,news.length=m*k/\(Builtin.firstCells k m (.slice ad n cap)).run P w= .ok news.toArray w/\fP w I (my kx σ) (flat (xs.take m)) news:=by
  intro ad n cap h0;subst h0;have:m=0:=by simpa using hm
  subst this;refine⟨[],by simp,?_,by simp[flat,fP]⟩;cases ad<;>simp[Builtin.firstCells,loadCells,loadCellsFrom]
 cases x with
 |sl c es=>
  simp only[elems,aA,bM]at he;obtain⟨rfl,rfl⟩:=he;obtain⟨ad,cap,rfl,_,_,_,h4⟩:=hr;refine⟨fun w'=>by simp[Builtin.lenOf],?_⟩;rcases h4 with h4|⟨b,o,k',rfl,hI,fV⟩
  ·exact mk0 h4
  ·by_cases h0:es=[]
   ·exact mk0 h0
   ·have xz:k'=k:=by
     obtain⟨e,he⟩:=acF es h0;rw[<-fV.lens e he];exact hl e he
    subst xz;exact mk rfl fV
 |cu id s l=>
  have hso:=Kr (h:=h) (v:= .cu id s l) he R hl id s l rfl;obtain⟨ob,gG,hko⟩:=hso;simp only[elems,gG]at he;split at he
  case isFalse=>grind
  obtain⟨rfl,rfl⟩:=he;obtain⟨ad,cap,rfl,B⟩:=Mc R hr gG;have Xs:((ob.es.drop s).take l).length=l:=by simp;omega
  refine⟨fun w'=>by rw[Xs];simp[Builtin.lenOf],?_⟩;by_cases h0:(ob.es.drop s).take l=[]
  ·exact mk0 h0
  ·rcases B.place with hp|⟨b,o,c,el,hs,rfl,hb,hle,aqm,fV⟩
   ·exfalso;have:=B.le
    simp_all
   ·have qT:=hko h0;have:=fV.SF s l
    simp_all
 |str s=>cases H5
 |_=>simp[elems]at he
theorem Yk  {mM:Array TypeId} (ho:o.op= .call ⟨.builtin .copy,args,mM⟩) {t u:TypeId} {r:List TypeId} (hty:mM.toList=t::u::r)
  (hu:X.P.underlying t=some (.slice (X.ti t).elem)) (T:mo X.P (X.ti t).elem (X.ti (X.ti t).elem))
  (R:Rel w I σ S.h) (F:jv w I σ S.f a) (hx:oq o) (bY:FuncId) {v0:V} {Xu:bh} {nn0:Nat} (he:cI X bY o S.ev S.h S.n=some (v0,Xu,nn0)) (qR:S1=({S with h:=Xu,n:=nn0}:St).set o.dst v0):Out X o a w I σ S S1:=by
 have OX:mM.getD 0 0=t:=by
  have:=(Yi hty).1;simp[abB,this]
 simp only[cI,ho,OX]at he;split at he
 case h_2=>grind
 rename_i id s l x jK;cases wG:args.toList with
 |nil=>grind
 |cons p q=>
 cases q with
 |nil=>grind
 |cons q q2=>
 cases q2 with
 |cons _ _=>grind
 |nil=>
 simp only[wG,aaU,abI,acg,and_true]at jK;obtain⟨hp,rfl⟩:=jK;have Ax:=amv wG;have r1:dB w I σ (S.ev p) (a.eval p):=fj (S:=S) F (hx p (by simp[ho,Op.operands,Call.operands,Ax]));have r2:dB w I σ (S.ev q) (a.eval q):=fj (S:=S) F (hx q (by simp[ho,Op.operands,Call.operands,Ax]));rw[hp]at r1;cases gG:S.h id with
 |none=>grind
 |some ob=>
 cases Xw:elems S.h (S.ev q) with
 |none=>grind
 |some y2=>
 obtain⟨xs,kx⟩:=y2;simp only[gG,Xw]at he;split at he
 ·grind
 rename_i Er;simp only[abX,aaF,aaZ,not_or,not_and,acO,aeK]at Er;obtain⟨⟨H5,Yg⟩,hlen⟩:=Er;have Dk:=Ep hlen;split at he
 case isFalse=>grind
 rename_i vV;obtain⟨rfl,rfl,rfl⟩:=he;subst qR;obtain⟨Xs,news,Yl,hfc,hnr⟩:=I3 (P:=X.P) R r2 Xw H5 Dk (min xs.length l) (Nat.min_le_left _ _);obtain⟨ad,cap,hpv,B⟩:=Mc R r1 gG;have kn: ∀{v:Value} {w':World},(Builtin.copy_ #[t,u] o.type #[a.eval p,a.eval q]).run X.P w= .ok v w'->(execOp a.eval o).run X.P w= .ok (.value v) w':=by
  intro v w' hh;simp[execOp,ho,Ax,resolve,invoke,builtin,Yj hty,hh]
 have lO:Nat.min xs.length l=min xs.length l:=rfl;have sY:=run_sizeOf T w;by_cases h0:min xs.length l=0
 ·refine⟨.value (.int .i64 ((min xs.length l:Nat):Int)),w,I,σ,_,.int .i64 ((min xs.length l:Nat):Int),?_,.inl rfl,?_,rN _ _ _ _ rfl,by simp[dB]⟩
  ·have xA:news=[]:=by
    rw[h0]at Yl;simpa using Yl
   subst xA;rw[h0]at hfc⊢;apply kn;cases ad with
   |none=>simp[Builtin.copy_,run_underlying hu,hpv,Xs,lO,h0,sY,<-vV.2,hfc,goInt]
   |some ad=>simp[Builtin.copy_,run_underlying hu,hpv,Xs,lO,h0,sY,<-vV.2,hfc,goInt,storeCells]
  ·rw[fm,gZ];have:aR S.h id (some {ob with es:=ob.es.take s++xs.take (min xs.length l)++ob.es.drop (s+min xs.length l)})=S.h:=by
    funext i;simp only[aR,h0,List.take_zero,acU,adQ,List.take_append_drop];split
    ·rename_i e;subst e;exact gG.symm
    ·rfl
   rw[this];exact Step.refl R _
 ·have hle:=B.le;rcases B.place with hp0|⟨b,of,c,el,mX,rfl,wF,aqn,aqm,fV⟩
  ·omega
  ·generalize hm:min xs.length l=m at*;have tw:m<=l:=by omega
   have hI: ¬I b:=(R.owned ⟨id,ob,of,ob.k,gG,mX⟩).1;have hmul:(s+l)*ob.k<=ob.es.length*ob.k:=abM _ vV.1;have amu:m*ob.k<=l*ob.k:=abM _ tw;rw[acA]at hmul;have xD:of+s*ob.k+news.length<=c.size:=by rw[Yl];omega
   have E:Ext w I σ (w.setRow b (rW c (of+s*ob.k) news)) I σ:=Ext.setRow hI wF (oL xD);have lb:kN _ b (rW c (of+s*ob.k) news) el:=wF.set (oL xD);have kD:=wN (P:=X.P) (b:=b) (p:=of+s*ob.k) news 0 c w wF (by omega) fun v hv=>hnr.ap9 v (by omega);have ya:dK (w.setRow b (rW c (of+s*ob.k) news)) I (my ob.eU σ) (ob.es.take s++xs.take m++ob.es.drop (s+m)) ob.k b of:=by
    have hA:=fV.SF 0 s;simp only[aeI,aeE,adQ]at hA;obtain⟨ua,a6i,a6j,a6k⟩:=sD hA;have hC:=fV.SF (s+m) (ob.es.length-(s+m));rw[aZ (by simp)]at hC;obtain⟨uc,a6l,a6m,a6n⟩:=sD hC;have np:(ob.es.take s).length=s:=by simp;omega
    have Py:(ob.es.drop (s+m)).length=ob.es.length-(s+m):=by simp
    rw[np]at a6i;rw[Py]at a6l;have Ym:(s+m)*ob.k=s*ob.k+m*ob.k:=acA ..;refine tV (E.qX ob.eU) (us:=ua++news++uc) (fun v hv=> ?_) ?_ (fun j v hv=> ?_)
    ·rcases List.mem_append.1 hv with hv|hv
     ·rcases List.mem_append.1 hv with hv|hv
      ·exact fV.lens v (aaS hv)
      grind
     ·exact fV.lens v (abh hv)
    ·rw[sC,sC];exact(a6k.append (fP.ext' _ _ (zr Yg) hnr)).append a6n
    ·rw[lb.cell,vU xD];have tH:=(List.getElem?_eq_some_iff.1 hv).1;by_cases hj:j<ua.length
     ·rw[acr,aaV hj]at hv;rw[if_neg (by omega)];have:=a6j j v hv;rwa[wF.cell]at this
     ·by_cases Af:j<(ua++news).length
      ·rw[aaV Af,aaO (by omega)]at hv;rw[aaY]at Af;rw[if_pos (by omega),show of+j-(of+s*ob.k)=j-ua.length by omega];exact hv
      ·rw[aaO (by omega),aaY]at hv;rw[aaY]at Af;rw[if_neg (by omega)];have:=a6m _ v hv;rw[wF.cell]at this;rwa[show of+(s+m)*ob.k+(j-(ua.length+news.length))=of+j by omega]at this
   have Yn:(ob.es.take s++xs.take m++ob.es.drop (s+m)).length=ob.es.length:=by simp;omega
   have s1:=R.write (eU:=ob.eU) gG mX wF (oL xD) (by rw[Yn];exact aqn) ya S.n;refine⟨.value (.int .i64 ((m:Nat):Int)),w.setRow b (rW c (of+s*ob.k) news),I,σ,_,.int .i64 ((m:Nat):Int),?_,.inl rfl,?_,rN _ _ _ _ rfl,by simp[dB]⟩
   rotate_left
   ·rw[fm,gZ];exact s1
   ·apply kn;simp[Builtin.copy_,run_underlying hu,hpv,Xs,lO,sY,<-vV.2,hfc,goInt,kD,rW]
theorem Bu: ∀{xs:List V} {s:List UInt8},bytesOf xs=some s-> ∃ns:List Int,xs=ns.map (V.int .u8)/\s=ns.map fun n=>UInt8.ofNat n.toNat
 | [],s,h=>by
  simp only[bytesOf,abI,cF,aA]at h
  simp_all
 |x::xs,s,h=>by
  unfold bytesOf at h;simp only[aaU]at h;cases hx:byteOf x with
  |none=>simp[hx,cF]at h
  |some b=>
   simp only[hx,cF]at h;split at h
   case h_2=>cases h
   rename_i l hl;simp only[aA]at h;subst h;obtain⟨ns,rfl,rfl⟩:=Bu (xs:=xs) hl;unfold byteOf at hx;split at hx
   ·rename_i n;simp only[aA]at hx;subst hx;exact⟨n::ns,rfl,rfl⟩
   grind
theorem Cq: ∀ns:List Int,flat (ns.map (V.int .u8))=ns.map (V.int .u8)
 | []=>rfl
 |n::ns=>by
  have:=Cq ns;simp only[flat,aaU,List.flatMap_cons,V.cells]at this⊢
  grind
theorem foldl_push(ns:List Int): ∀s:ByteArray,(ns.foldl (fun r n=>r.push (UInt8.ofNat n.toNat)) s).data.toList=s.data.toList++ns.map fun n=>UInt8.ofNat n.toNat:=by
 induction ns with
 |nil=>grind
 |cons n ns ih=>simp_all
theorem UD {P:Program} {h:bh} (R:Rel w I σ h) {x:V} {u:Value} {xs:List V}  {s:List UInt8} (hr:dB w I σ x u) (he:elems h x=some (xs,kx)) (H5:x.isStr=false) (hb:bytesOf xs=some s)
  {src dst e:TypeId} (hs:P.underlying src=some (.slice e)) (hue:P.underlying e=some (.int .u8)) (hd:P.underlying dst=some .string): ∃y:ByteArray,(convert src dst u).run P w= .ok (.string y) w/\y.data.toList=s:=by
 obtain⟨ns,rfl,rfl⟩:=Bu hb;have hl: ∀e∈ns.map (V.int .u8),e.cells.length=1:=by
  intro e he;obtain⟨n,_,rfl⟩:=List.mem_map.1 he;rfl
 obtain⟨h1,news,h2,h3,h4⟩:=I3 (P:=P) R hr he H5 hl ns.length (by simp);rw[aZ (by simp),Cq]at h4;have xA:news=ns.map (Value.int .u8):=by
  rw[dL]at h4;refine abA fun j=> ?_;by_cases hj:j<ns.length
  ·have Bv:j<news.length:=by omega
   have:=(h4.2 j (V.int .u8 ns[j]) news[j] (by grind) (aaJ Bv)).2;rw[aaJ Bv,this];grind
  ·grind
 subst xA;have hu: ∃ad cap,u= .slice ad ns.length cap:=by
  cases x with
  |sl c es=>
   obtain⟨rfl,_⟩:=he;obtain⟨ad,cap,rfl,_⟩:=hr
   grind
  |cu id st l=>
   obtain⟨ad,cap,rfl,_⟩:=hr;have:=h1 w;simp[Builtin.lenOf]at this
   grind
  |str s=>cases H5
  |_=>simp[elems]at he
 obtain⟨ad,cap,rfl⟩:=hu;rw[run_convert_bytes_string w src dst e ad _ cap hs hue hd];cases ad with
 |none=>
  have:ns=[]:=by
   simp[Builtin.firstCells]at h3;exact h3
  subst this;exact⟨.empty,by simp[Conv.bytesToString],rfl⟩
 |some a=>
  refine⟨_,run_bytesToString w a _ cap ns ?_,?_⟩
  ·simpa[Builtin.firstCells] using h3
  ·rw[foldl_push];rfl
theorem UE {s d:TypeId} {x:Operand} {es:List V}  {bs:List UInt8} (ho:o.op= .convert s d x) {e:TypeId} (hs:X.P.underlying s=some (.slice e)) (hue:X.P.underlying e=some (.int .u8)) (hd:X.P.underlying d=some .string)
  (R:Rel w I σ S.h) (F:jv w I σ S.f a) (hx:oq o) (he:elems S.h (S.ev x)=some (es,kx)) (H5:(S.ev x).isStr=false) (hb:bytesOf es=some bs) (qR:S1=S.set o.dst (.str bs)):Out X o a w I σ S S1:=by
 have h1:dB w I σ (S.ev x) (a.eval x):=fj (S:=S) F (hx x (by simp[ho,Op.operands]));obtain⟨y,hy,rfl⟩:=UD R h1 he H5 hb hs hue hd;exact Out.pure (u:= .string y) R (by simp[execOp,ho,hy]) (by exact⟨y,rfl,rfl⟩) qR
theorem new_at {h:bh} (R:Rel w I σ h) {w2:World} {n k:Nat} {es:List V}  {us:List Value} {c:Array Value} {el:TypeId} (hz:w2.heap.size=w.heap.size+1) (hold: ∀b,b<w.heap.size->w2.heap[b]?=w.heap[b]?)
  (hat:kN w2 w.heap.size c el) (h1:w2.os=w.os) (h2:w2.tape=w.tape) (h3:w2.output=w.output) (hn:h n=none) (hs:σ n=none)
  (hk: ∀e∈es,e.cells.length=k) (hr:fP w I (my eU σ) (flat es) us) (hc: ∀(j:Nat) u,us[j]?=some u->c[j]?=some u):
  Step w I σ h n w2 I (aR σ n (some (w.heap.size,0,k))) (aR h n (some ⟨k,es,eU⟩)) (n+1):=by
 have hlen:us.length=es.length*k:=by rw[<-((dL _ _).1 hr).1,o5 hk]
 have hle:es.length*k<=c.size:=by
  by_cases h0:us.length=0
  ·omega
  ·have awx:us[us.length-1]?=some (us[us.length-1]'(by omega)):=by simp
   grind
 have E0:Ext w I σ w2 I σ:=
  ⟨fun b hb=>hold b (R.ed b hb),fun b c el fz h=>⟨c,fz,by grind,rfl⟩,fun _ h=>h,fun _ _ h=>h⟩
 have E:Ext w I σ w2 I (aR σ n (some (w.heap.size,0,k))):=E0.trans (Ext.Ul hs);have R0:Rel w2 I σ h:=R.eU E0 (fun b hb=>by have:=R.ed b hb;omega) (fun b hb=>by
  obtain⟨hi,c,el,hh⟩:=R.owned hb;exact⟨hold b hh.lt,hi⟩) (fun _ _=>rfl)
 have hnI: ¬I w.heap.size:=fun hi=>by have:=R.ed _ hi;omega
 have hnO: ¬jk σ h w.heap.size:=fun ho=>by
  obtain⟨_,c',Pm,hh⟩:=R.owned ho;have:=hh.lt;omega
 have fV:dK w2 I (my eU (aR σ n (some (w.heap.size,0,k)))) es k w.heap.size 0:=tV (E.qX eU) hk hr fun j u hu=>by
  rw[hat.cell]
  grind
 have R1:=R0.X3 (n:=n) (b:=w.heap.size) (o:=0) (k:=k) (es:=es) (eU:=eU) hn hs hat hnI hnO (by omega) fV;refine⟨E,R1,h1,h2,h3,by omega,fun b hb _=>hold b hb,fun b hb=> ?_,fun _ hb=> .inl hb,by omega,fun id fg=>by grind [aR],fun id fg LX=>by grind [aR]⟩;obtain⟨id,ob,o,k',h1,h2⟩:=hb;by_cases e:id=n
 ·grind [aR]
 ·right;exact⟨id,ob,o,k',by grind [aR],by grind [aR]⟩
theorem Md {s d:TypeId} {x:Operand} {bs:List UInt8} (ho:o.op= .convert s d x) (E4:(X.P.underlying s).isSome=true) (hd:X.P.underlying d=some (.slice (X.ti d).elem)) (T:mo X.P (X.ti d).elem (X.ti (X.ti d).elem))
  (hk:(X.ti (X.ti d).elem).kind=some .u8) (R:Rel w I σ S.h) (F:jv w I σ S.f a) (hx:oq o) (hn:S.h S.n=none) (ve:σ S.n=none) (he:S.ev x= .str bs) (hl:bs.length<=2^62)
  (hs:S1=(S.new ⟨1,bs.map fun c=> .int .u8 c.toNat,false⟩).set o.dst (.cu S.n 0 bs.length)):Out X o a w I σ S S1:=by
 subst hs;have h1:dB w I σ (S.ev x) (a.eval x):=fj (S:=S) F (hx x (by simp[ho,Op.operands]));rw[he]at h1;obtain⟨y,hu,rfl⟩:=h1;obtain⟨ds,hds⟩:=Option.isSome_iff_exists.1 E4;obtain⟨e,hue,hb⟩:=T.und;have hde:e= .int .u8:=by
  cases e<;>simp_all [Aa]
 subst hde;have kn:=Lib.run_convert_string_bytes (P:=X.P) w s d (X.ti d).elem y hds hd hue;have hy:y.data.toList.length=y.size:=by rw[abU];rfl
 have hold: ∀b,b<w.heap.size->(Lib.bytesWorld w (X.ti d).elem y).heap[b]?=w.heap[b]?:=fun b hb=>Lib.bytesWorld_at_old w _ y b hb;have EX:=Lib.bytesWorld_at_new w (X.ti d).elem y;have hat:kN (Lib.bytesWorld w (X.ti d).elem y) w.heap.size (Lib.bytesCells w (X.ti d).elem y) (X.ti d).elem:=⟨_,EX,.inr (aaI _)⟩;have wO:flat (y.data.toList.map fun c=>V.int .u8 c.toNat)=y.data.toList.map fun c=>V.int .u8 c.toNat:=by
  have:=Cq (y.data.toList.map fun c=>(c.toNat:Int));simpa[adz,Function.comp_def] using this
 have m8: ∀e∈ (y.data.toList.map fun c=>V.int .u8 c.toNat),e.cells.length=1:=by
  intro e he;obtain⟨n,_,rfl⟩:=List.mem_map.1 he;rfl
 have mQ:fP w I (my false σ) (flat (y.data.toList.map fun c=>V.int .u8 c.toNat)) (y.data.toList.map fun c=>Value.int .u8 c.toNat):=by
  rw[wO,dL];refine⟨by simp,fun j c u hc hu=> ?_⟩;simp only[abm,Option.map_eq_some_iff]at hc hu;obtain⟨b,hb,rfl⟩:=hc;obtain⟨b',wL,rfl⟩:=hu;rw[hb]at wL;cases wL;exact⟨rfl,by simp[dB]⟩
 have Fj: ∀(j:Nat) u,(y.data.toList.map fun c=>Value.int .u8 c.toNat)[j]?=some u->(Lib.bytesCells w (X.ti d).elem y)[j]?=some u:=by
  intro j u hu;have hj:=(List.getElem?_eq_some_iff.1 hu).1;simp only[abF,hy]at hj;rw[<-hu];unfold Lib.bytesCells;rw[Array.getElem?_append_left (by grind)];simp
 refine⟨_,Lib.bytesWorld w (X.ti d).elem y,I,aR σ S.n (some (w.heap.size,0,1)),.slice (some ⟨w.heap.size,0,none⟩) y.size (grownCap w y.size 0 (X.ti d).elem),.cu S.n 0 y.data.toList.length,by simp[execOp,ho,hu,kn],.inl rfl,?_,rN _ _ _ _ rfl,?_⟩
 ·rw[fm,gZ];exact new_at R (Lib.bytesWorld_size w _ y) hold hat rfl rfl rfl hn ve m8 mQ Fj
 ·refine⟨_,_,by rw[hy],by exact grownCap_ge w _ 0 _,grownCap_le_maxLen w _ 0 _ (by simp only[maxLen];omega),.inr ⟨w.heap.size,0,1,_,_,_,by simp[aR],by simp,EX,?_⟩⟩;have sY:y.data.size=y.size:=rfl;unfold Lib.bytesCells
  grind
end
section
variable {X:Env} {o:Oper} {a:Act} {w:World} {I:Nat->Prop} {σ:jt} {S S1:St}
theorem lP{t:TypeId}(h:tB X t=true):mo X.P t (X.ti t):=a51 h
theorem H6 {t:TypeId} {x:Operand} (ho:o.op= .slice t x none none none) (R:Rel w I σ S.h) (F:jv w I σ S.f a) (hx:oq o)
  {m:Nat} (hu:X.P.underlying t=some (.array m (X.ti t).elem)) (T:mo X.P (X.ti t).elem (X.ti (X.ti t).elem)) {id:Nat}  {e:V} (he:S.ev x= .ptr id 0 0) (gG:S.h id=some ob) (IZ:ob.es=[e])
  (a6o:e.cells.all V.oX=true) (hlen:e.cells.length=m) (sY:(X.ti (X.ti t).elem).size=1) (hm:0<m) (vW:m<=1000) (hs:S1=({S with h:=aR S.h id none}:St).set o.dst (.sl true e.cells)):Out X o a w I σ S S1:=by
 have h1:dB w I σ (S.ev x) (a.eval x):=fj (S:=S) F (hx x (by simp[ho,Op.operands]));rw[he]at h1;obtain⟨b,of,k,mX,hv⟩:=h1;rcases R.obj id ob gG with⟨hn,_⟩|⟨b',o',c,el,oM,hi,hh,hle,hr⟩
 ·grind
 rw[oM]at mX;simp only[aA,bM]at mX;rw[IZ,kM]at hr;obtain⟨hk,hc,_⟩:=hr;have Aw: ∀i y,aR S.h id none i=some y->S.h i=some y:=fun i y hi=>by grind [aR]
 have st:=IQ R Aw S.n;have aw3:ahn I σ S.h (aR S.h id none) b':= .inr ⟨⟨id,ob,o',ob.k,gG,oM⟩,R.Kl gG oM⟩;subst hs;have kn:(execOp a.eval o).run X.P w= .ok (.value (.slice (some ⟨b',o',none⟩) m m)) w:=by
  simp[execOp,ho,hv,Instr.sliceAt,run_underlying hu,Instr.sliceBounds,Instr.sureAddr,run_sizeOf T,sY,qv]
 refine⟨_,w,ahn I σ S.h (aR S.h id none),σ,_,.sl true e.cells,kn,.inl rfl,?_,rN _ _ _ _ rfl,?_⟩
 ·rw[fm,gZ];omega
 ·refine⟨_,_,by grind,by omega,by simp only[maxLen];omega,fun _=>hlen.symm,.inr ⟨b',o',1,rfl,aw3,?_⟩⟩;rw[lN];intro i v hi;have hv0:v.oX=true:=List.all_eq_true.1 a6o v (aaT hi);have pW:v.cells=[v]:=by
   cases v<;>first|rfl|(simp[V.oX]at hv0)
  refine⟨by grind,?_⟩;rw[pW];intro j y hj;cases j with
  |succ j=>grind
  |zero=>
   simp only[adN,aA]at hj;subst hj;obtain⟨u,g1,g2,g3⟩:=hc i v hi;refine⟨u,by grind,g2,?_⟩;have g4:dB w I fy v u:=tU (σ:=my ob.eU σ) hv0 g3;exact g4.ext st.ext.Ke
theorem aqp{nt:Nat}(hB:Ur X nt o=true)(R:Rel w I σ S.h)(F:jv w I σ S.f a)(hn:S.h S.n=none)(ve:σ S.n=none)(bY:FuncId)(he:ahi X bY o S=some S1):Out X o a w I σ S S1:=by
 unfold ahi at he;split at he
 case h_2=>grind
 rename_i v0 Xu nn0 IY;have qR:S1=({S with h:=Xu,n:=nn0}:St).set o.dst v0:=by simpa using he.symm
 have he:=IY;unfold Ur at hB;rw[aaF,aaF]at hB;obtain⟨⟨_,hx⟩,hB⟩:=hB;have hx:oq o:=fun x hm=>List.all_eq_true.1 hx x hm;cases jJ:o.op with
 |move x=>
  simp only[cI,jJ,aA,bM]at he;obtain⟨rfl,rfl,rfl⟩:=he;exact L0 (.inl jJ) R F hx qR
 |assign x=>
  simp only[cI,jJ,aA,bM]at he;obtain⟨rfl,rfl,rfl⟩:=he;exact L0 (.inr jJ) R F hx qR
 |pick c p q=>
  simp only[cI,jJ]at he;split at he
  ·rename_i t hc;obtain⟨rfl,rfl,rfl⟩:=he;exact X7 jJ R F hx hc qR
  grind
 |alloc t=>
  simp only[cI,jJ,aA,bM]at he;obtain⟨rfl,rfl,rfl⟩:=he;simp only[jJ]at hB;exact Us jJ (lP hB) R hn ve qR
 |box t x=>
  simp only[cI,jJ]at he;split at he
  ·rename_i hf;obtain⟨rfl,rfl,rfl⟩:=he;exact ahm jJ R F hx hn ve hf qR
  grind
 |build t ps=>
  simp only[cI,jJ]at he;simp only[jJ,aaF,abX,beq_iff_eq]at hB;have T:=lP hB.1;have hTe:(X.ti t).arr=none\/mo X.P (X.ti t).elem (X.ti (X.ti t).elem):=hB.2.imp_right lP;split at he
  ·rename_i ha;split at he
   ·grind
   ·rename_i hf0;split at he
    ·rename_i cs hf;obtain⟨rfl,rfl,rfl⟩:=he;exact IW jJ T hTe R F hx (.inl ⟨ha,hf,hf0⟩) qR
    grind
  ·rename_i m ha;split at he
   ·rename_i cs hf;obtain⟨rfl,rfl,rfl⟩:=he;exact IW jJ T hTe R F hx (.inr ⟨m,ha,hf⟩) qR
   grind
 |buildSlice t n ps=>
  simp only[cI,jJ]at he;simp only[jJ,aaF,decide_eq_true_eq]at hB;obtain⟨⟨h1,h2⟩,h3⟩:=hB;split at he
  ·split at he
   ·rename_i es hf;obtain⟨rfl,rfl,rfl⟩:=he;exact zS jJ (lE h1) (lP h2) h3 R F hx hn ve hf qR
   grind
  ·split at he
   ·split at he
    case h_2=>grind
    rename_i l h hg;split at he
    case h_2=>grind
    rename_i es hf;obtain⟨rfl,rfl,rfl⟩:=he;exact tX (th:=false) jJ (lE h1) (lP h2) h3 R F hx hn ve (Ff hg) hf (by grind)
   split at he
   ·rename_i l h hg;split at he
    ·rename_i es hf;split at he
     ·obtain⟨rfl,rfl,rfl⟩:=he;exact tX (th:=true) jJ (lE h1) (lP h2) h3 R F hx hn ve hg hf (by exact qR)
     ·obtain⟨rfl,rfl,rfl⟩:=he;exact tX (th:=false) jJ (lE h1) (lP h2) h3 R F hx hn ve hg hf (by grind)
    grind
   grind
 |load t x=>
  simp only[cI,jJ]at he;simp only[jJ]at hB;split at he
  ·rename_i id i f hp;split at he
   ·rename_i ob gG;split at he
    ·rename_i e hi;split at he
     ·rename_i v hv;obtain⟨rfl,rfl,rfl⟩:=he;exact Ki jJ (lP hB) R F hx hp gG hi hv qR
     grind
    grind
   grind
  ·rename_i cs hp;split at he
   ·rename_i v hv;obtain⟨rfl,rfl,rfl⟩:=he;exact Kj jJ (lP hB) R F hx hp hv qR
   grind
  grind
 |store t x y=>
  simp only[cI,jJ]at he;simp only[jJ,aaF,beq_iff_eq]at hB;split at he
  ·rename_i id i f hp;split at he
   ·rename_i Hq h0;split at he
    ·rename_i v h hg;split at he
     ·rename_i ob gG;split at he
      ·rename_i e hi;split at he
       ·rename_i hf;obtain⟨rfl,rfl,rfl⟩:=he;exact Uu jJ (lP hB.1) R F hx hp h0 hg gG hi hf hB.2 (by rw[qR,hB.2];rfl)
       grind
      grind
     grind
    grind
   grind
  grind
 |nilCheck x=>
  simp only[cI,jJ]at he;split at he
  ·rename_i id i f hp;obtain⟨rfl,rfl,rfl⟩:=he;exact wP jJ R F hx (.inl ⟨id,i,f,hp⟩) (by simp_all)
  ·rename_i cs hp;obtain⟨rfl,rfl,rfl⟩:=he;exact wP jJ R F hx (.inr (.inl ⟨cs,hp⟩)) (by simp_all)
  ·rename_i g p q hp;obtain⟨rfl,rfl,rfl⟩:=he;exact wP jJ R F hx (.inr (.inr ⟨g,p,q,hp⟩)) (by simp_all)
  grind
 |binOp op t x y ty=>
  simp only[cI,jJ]at he;simp only[jJ]at hB;split at he
  ·rename_i v hv;obtain⟨rfl,rfl,rfl⟩:=he;refine Uv jJ (fun h=> ?_) R F hx hv qR
   grind
  ·cases he
 |unOp op t x=>
  simp only[cI,jJ]at he;split at he
  ·rename_i v hv;simp only[aA,bM]at he;obtain⟨rfl,rfl,rfl⟩:=he;exact Ya jJ R F hx hv qR
  ·cases he
 |convert s d x=>
  simp only[cI,jJ]at he;simp only[jJ,aaF]at hB;split at he
  ·rename_i k k' n hk hv;simp only[aA,bM]at he;obtain⟨rfl,rfl,rfl⟩:=he;exact L4 jJ (lP hB.1.1.1) hB.1.1.2 R F hx hk hv qR
  ·rename_i v hk hv;split at he
   case isFalse=>
    obtain⟨Ps,D4,s1,hv1,hl,rfl,rfl,rfl⟩:=tO he;have hB3:=hB.2;have hk0:(X.ti d).kind=none:=by assumption
    simp only[Ps,D4,hk0,beq_self_eq_true,adY,Bool.or_false,aeJ,Option.isSome_none,aaF]at hB3;exact Md jJ hB.1.1.2 (lE hB3.1) (lP hB3.2) D4 R F hx hn ve hv1 hl qR
   rename_i kD;split at he
   case h_2=>cases he
   rename_i es kx tq;split at he
   case h_2=>cases he
   rename_i bs Xr;simp only[aA,bM]at he;obtain⟨rfl,rfl,rfl⟩:=he;have Lx:=hB.1.2;simp only[kD.1,adY,aeJ,aaF]at Lx;have hd:X.P.underlying d=some .string:=by
    have:=Lx.1;split at this
    ·assumption
    ·cases this
   obtain⟨e,hse,hue⟩: ∃e,X.P.underlying s=some (.slice e)/\X.P.underlying e=some (.int .u8):=by
    have:=Lx.2;split at this
    ·rename_i e h1;split at this
     ·rename_i h2;exact⟨e,h1,h2⟩
     ·cases this
    ·cases this
   exact UE jJ hse hue hd R F hx tq kD.2 Xr qR
  ·cases he
 |makeFunc c p q=>
  cases c with
  |func g=>
   simp only[cI,jJ,aA,bM]at he;obtain⟨rfl,rfl,rfl⟩:=he;exact Km jJ R F hx qR
  |_=>simp[cI,jJ]at he
 |makeSlice t l c=>
  simp only[cI,jJ]at he;simp only[jJ,aaF]at hB;split at he
  ·rename_i n m hl hc;split at he
   ·rename_i hb;simp only[aA,bM]at he;obtain⟨rfl,rfl,rfl⟩:=he;exact HX jJ (lE hB.1) (lP hB.2) R F hx hn ve hl hc hb qR
   ·cases he
  ·cases he
 |slice t x lo hi mx=>
  simp only[cI,jJ]at he;simp only[jJ]at hB;split at he
  case isFalse=>cases he
  rename_i wQ;split at he
  ·
   rename_i c es hv;have H5:(X.ti t).isStr=false:=by rw[<-wQ.1,hv];rfl
   have hu:X.P.underlying t=some (.slice (X.ti t).elem)/\tB X (X.ti t).elem=true:=by
    split at hB
    ·rename_i e hu;simp only[aaF,beq_iff_eq]at hB;obtain⟨⟨⟨_,rfl⟩,h3⟩,_⟩:=hB;exact⟨hu,h3⟩
    ·rw[H5]at hB;simp at hB
    ·have:=wQ.2;rw[hv]at this;simp only[V.Bk]at this;simp at hB;simp_all
    ·cases hB
   split at he
   case isFalse=>cases he
   rename_i m8;cases mx with
   |none=>
    simp only at he;split at he
    ·rename_i l h hb;simp only[aA,bM]at he;obtain⟨rfl,rfl,rfl⟩:=he;exact Ko jJ R F hx hu.1 (lP hu.2) hv m8 hb qR
    ·cases he
   |some m=>
    simp only at he;split at he
    ·rename_i k1 p k2 q hm hh;split at he
     ·rename_i Pz;subst Pz;split at he
      ·rename_i l h hb;simp only[aA,bM]at he;obtain⟨rfl,rfl,rfl⟩:=he;exact HQ jJ R F hx hu.1 (lP hu.2) hv m8 hm hh hb qR
      ·cases he
     ·cases he
    ·cases he
  ·rename_i id s n hv;have H5:(X.ti t).isStr=false:=by rw[<-wQ.1,hv];rfl
   have hu:X.P.underlying t=some (.slice (X.ti t).elem)/\tB X (X.ti t).elem=true:=by
    split at hB
    ·rename_i e hu;simp only[aaF,beq_iff_eq]at hB;obtain⟨⟨⟨_,rfl⟩,h3⟩,_⟩:=hB;exact⟨hu,h3⟩
    ·rw[H5]at hB;simp at hB
    ·have:=wQ.2;rw[hv]at this;simp only[V.Bk]at this;simp at hB;simp_all
    ·cases hB
   split at he
   ·rename_i ob gG;split at he
    case isFalse=>cases he
    rename_i hk;split at he
    ·rename_i l h hb;simp only[aA,bM]at he;obtain⟨rfl,rfl,rfl⟩:=he;exact HU jJ R F hx hu.1 (lP hu.2) hv gG hk hb qR
    ·cases he
   ·rename_i m ob gG;split at he
    case isFalse=>cases he
    rename_i hk;split at he
    ·rename_i k1 p k2 q hm hh;split at he
     ·rename_i Pz;subst Pz;split at he
      ·rename_i l h hb;simp only[aA,bM]at he;obtain⟨rfl,rfl,rfl⟩:=he;exact E8 jJ R F hx hu.1 (lP hu.2) hv gG hk hm hh hb qR
      ·cases he
     ·cases he
    ·cases he
   ·cases he
  ·rename_i s hv;have H5:(X.ti t).isStr=true:=by rw[<-wQ.1,hv];rfl
   have hu:X.P.underlying t=some .string:=by
    split at hB
    ·rename_i e hu;rw[H5]at hB;simp at hB
    ·rename_i hu;exact hu
    ·rw[H5]at hB;simp at hB
    ·cases hB
   cases mx with
   |none=>
    simp only at he;split at he
    ·rename_i l h hb;simp only[aA,bM]at he;obtain⟨rfl,rfl,rfl⟩:=he;exact HW jJ R F hx hu hv hb qR
    ·cases he
   |some m=>cases he
  ·rename_i id hv;split at he
   case h_2=>cases he
   rename_i m ob ham gG;split at he
   case h_2=>cases he
   rename_i e IZ;split at he
   case isFalse=>cases he
   rename_i hc;simp only[aA,bM]at he;obtain⟨rfl,rfl,rfl⟩:=he;have H5:(X.ti t).isStr=false:=by rw[<-wQ.1,hv];rfl
   have hu:X.P.underlying t=some (.array m (X.ti t).elem)/\tB X (X.ti t).elem=true/\m<=1000:=by
    split at hB
    ·simp only[aaF,beq_iff_eq]at hB;rw[ham]at hB;simp at hB
    ·rw[H5]at hB;simp at hB
    ·rename_i n e' hu;simp only[aaF,beq_iff_eq,decide_eq_true_eq]at hB;obtain⟨⟨⟨⟨_,h2⟩,h3⟩,h4⟩,h5⟩:=hB;rw[ham]at h2;simp only[aA]at h2;subst h2;subst h3;exact⟨hu,h4,h5⟩
    ·cases hB
   exact H6 jJ R F hx hu.1 (lP hu.2.1) hv gG IZ hc.1 hc.2.1 hc.2.2.1 hc.2.2.2 hu.2.2 qR
  ·cases he
 |fieldAddr t x i=>
  simp only[cI,jJ]at he;simp only[jJ]at hB;split at he
  ·rename_i off k hf;split at he
   ·rename_i id j f hv;simp only[aA,bM]at he;obtain⟨rfl,rfl,rfl⟩:=he;exact Ab jJ (lP hB) R F hx hf (.inl ⟨id,j,f,hv,rfl⟩) qR
   ·rename_i cs hv;simp only[aA,bM]at he;obtain⟨rfl,rfl,rfl⟩:=he;exact Ab jJ (lP hB) R F hx hf (.inr ⟨cs,hv,rfl⟩) qR
   ·cases he
  ·cases he
 |indexAddr t x ix=>
  simp only[cI,jJ]at he;simp only[jJ,aaF,abX,beq_iff_eq,bne_iff_ne]at hB;split at he
  ·rename_i k n hi;split at he
   ·rename_i c es hv;split at he
    ·rename_i h0;split at he
     ·rename_i e hg;split at he
      ·rename_i hk;simp only[aA,bM]at he;obtain⟨rfl,rfl,rfl⟩:=he;rcases hB.1 with hb|hb
       ·exact Kn jJ (lE hb.2) (lP hB.2) R F hx hv hi h0.1 hg hk qR
       ·exact absurd h0.2 hb.2
      ·cases he
     ·cases he
    ·cases he
   ·rename_i id s l hv;split at he
    ·rename_i h0;split at he
     ·rename_i ob hg;split at he
      ·rename_i hk;simp only[aA,bM]at he;obtain⟨rfl,rfl,rfl⟩:=he;rcases hB.1 with hb|hb
       ·exact HF jJ (lE hb.2) (lP hB.2) R F hx hv hi h0.1 hg hk qR
       ·exact absurd h0.2 hb.2
      ·cases he
     ·cases he
    ·cases he
   ·rename_i id j f hv;split at he
    ·rename_i m hm;split at he
     ·rename_i h0;simp only[aA,bM]at he;obtain⟨rfl,rfl,rfl⟩:=he;rcases hB.1 with hb|hb
      ·rw[hm]at hb;exact absurd hb.1 (by simp)
      ·exact HK jJ (lP hb.1) (lP hB.2) R F hx hv hi hm h0 qR
     ·cases he
    ·cases he
   ·cases he
  ·cases he
 |index t x ix=>
  simp only[cI,jJ]at he;simp only[jJ,aaF,abX,beq_iff_eq,bne_iff_ne]at hB;obtain⟨⟨h1,h2⟩,h3⟩:=hB;split at he
  ·rename_i k n hi;split at he
   ·rename_i s hv;split at he
    ·rename_i h0;split at he
     ·rename_i b hg;simp only[aA,bM]at he;obtain⟨rfl,rfl,rfl⟩:=he;have hu:X.P.underlying t=some .string:=by
       rcases h3 with h3|h3
       ·exact absurd h0.2 h3
       ·split at h3
        ·assumption
        ·cases h3
      exact HN jJ hu R F hx hv hi h0.1 hg qR
     ·cases he
    ·cases he
   ·rename_i cs hv;split at he
    ·rename_i m hm;split at he
     ·rename_i h0;split at he
      ·rename_i v hvv;simp only[aA,bM]at he;obtain⟨rfl,rfl,rfl⟩:=he;have hTe:tB X (X.ti t).elem=true:=by
        rcases h2 with h2|h2
        ·rw[hm]at h2;cases h2
        ·exact h2
       exact HL jJ (lP h1) (lP hTe) R F hx hv hi hm h0 hvv qR
      ·cases he
     ·cases he
    ·cases he
   ·cases he
  ·cases he
 |field t x f=>
  simp only[cI,jJ]at he;simp only[jJ,aaF]at hB;obtain⟨hT,hB⟩:=hB;split at he
  ·rename_i cs hv;split at he
   ·rename_i k z hk;split at he
    ·rename_i v hp;simp only[aA,bM]at he;obtain⟨rfl,rfl,rfl⟩:=he;split at hB
     ·rename_i fs hu;split at hB
      ·rename_i fd k' z' hf qT;rw[hk]at qT;simp only[aA,bM]at qT;simp only[aaF,beq_iff_eq]at hB;obtain⟨e1,e2⟩:=hB;exact Ux jJ hu hf (by rw[e1];exact lP hT) R F hx hv (by rw[e1,e2,<-qT.1];exact hp) qR
      ·cases hB
     ·cases hB
    ·cases he
   ·cases he
  ·cases he
 |extract x i=>
  simp only[cI,jJ]at he;split at he
  ·rename_i vs hv;split at he
   ·rename_i v hi;simp only[aA,bM]at he;obtain⟨rfl,rfl,rfl⟩:=he;exact L5 jJ R F hx hv hi qR
   ·cases he
  ·cases he
 |call c=>
  obtain⟨UF,args,mM⟩:=c;cases UF with
  |builtin b=>
   cases b with
   |len=>
    simp only[cI,jJ]at he;simp only[jJ,aaF]at hB;split at he
    ·rename_i x jK;cases wG:args.toList with
     |nil=>simp[wG]at jK
     |cons p q=>
     cases q with
     |cons _ _=>simp[wG]at jK
     |nil=>
     simp only[wG,aaU,abI,acg,and_true]at jK;subst jK;cases np:mM.toList with
     |nil=>simp[np]at hB
     |cons t r=>
     have OX:mM[0]?=some t:=by rw[<-Array.getElem?_toList,np];rfl
     have htd:mM.getD 0 0=t:=by simp[abB,OX]
     rw[htd]at he;split at he
     ·rename_i kD;split at he
      ·rename_i n hl;simp only[aA,bM]at he;obtain⟨rfl,rfl,rfl⟩:=he;refine ahq jJ wG OX ?_ R F hx kD hl qR;have Lx:=hB.2;simp only[np]at Lx;split at Lx
       ·rename_i e hu;exact .inl ⟨⟨e,hu⟩,by simpa using Lx⟩
       ·rename_i hu;exact .inr ⟨hu,Lx⟩
       ·cases Lx
      ·cases he
     ·cases he
    ·cases he
   |min=>
    simp only[cI,jJ]at he;split at he
    ·rename_i k p k' q jK;split at he
     ·rename_i hk;subst hk;simp only[aA,bM]at he;obtain⟨rfl,rfl,rfl⟩:=he;cases wG:args.toList with
      |nil=>simp[wG]at jK
      |cons p q=>
      cases q with
      |nil=>simp[wG]at jK
      |cons q q2=>
      cases q2 with
      |cons _ _=>simp[wG]at jK
      |nil=>
      simp only[wG,aaU,abI,acg,and_true]at jK;exact SM false jJ wG R F hx jK.1 jK.2 (by simpa using qR)
     ·cases he
    ·cases he
   |max=>
    simp only[cI,jJ]at he;split at he
    ·rename_i k p k' q jK;split at he
     ·rename_i hk;subst hk;simp only[aA,bM]at he;obtain⟨rfl,rfl,rfl⟩:=he;cases wG:args.toList with
      |nil=>simp[wG]at jK
      |cons p q=>
      cases q with
      |nil=>simp[wG]at jK
      |cons q q2=>
      cases q2 with
      |cons _ _=>simp[wG]at jK
      |nil=>
      simp only[wG,aaU,abI,acg,and_true]at jK;exact SM true jJ wG R F hx jK.1 jK.2 (by simpa using qR)
     ·cases he
    ·cases he
   |append=>
    simp only[jJ,aaF]at hB;cases np:mM.toList with
    |nil=>simp[np]at hB
    |cons t r=>
    cases r with
    |nil=>simp[np]at hB
    |cons u r=>
    have Lx:=hB.2;simp only[np,aaF]at Lx;refine Px jJ np (lE Lx.1.1) (lP Lx.1.2) ?_ R F hx hn ve bY IY qR;have h3:=Lx.2;split at h3
    ·rename_i e hu;exact .inl (.inl ⟨e,hu⟩)
    ·rename_i hu;exact .inl (.inr hu)
    ·exact .inr h3
   |copy=>
    simp only[jJ,aaF]at hB;cases np:mM.toList with
    |nil=>simp[np]at hB
    |cons t r=>
    cases r with
    |nil=>simp[np]at hB
    |cons u r=>
    have Lx:=hB.2;simp only[np,aaF]at Lx;exact Yk jJ np (lE Lx.1.1) (lP Lx.1.2) R F hx bY IY qR
   |_=>simp[cI,jJ]at he
  |_=>simp[cI,jJ]at he
 |_=>simp[cI,jJ]at he
end
def lG{α β:Type}(f:α->Option β): ∀{l:List α} {r:List β},cF (l.map f)=some r->l.length=r.length/\ ∀(j:Nat) x y,l[j]?=some x->r[j]?=some y->f x=some y
 | [],r,h=>by
  simp only[abI,cF,aA]at h
  grind
 |x::l,r,h=>by
  simp only[aaU]at h;cases hx:f x with
  |none=>simp[cF,hx]at h
  |some y=>
   simp only[cF,hx]at h;split at h
   ·rename_i l' hl;simp only[aA]at h;subst h;obtain⟨h1,h2⟩:=lG f hl
    grind
   grind
section
variable {w:World} {I J:Nat->Prop} {σ:jt} {h:bh}
theorem rY{d:Nat}{cs:List V}{v':V}(ht:cx h (d+1) (.agg cs)=some v'): ∃l,v'= .agg l/\cF (cs.map (cx h d))=some l:=by
 simp only[cx]at ht
 grind
theorem zt{d:Nat}{cs:List V}{v':V}(ht:cx h (d+1) (.dM cs)=some v'): ∃l,v'= .dM l/\cF (cs.map (cx h d))=some l:=by
 simp only[cx]at ht
 grind
theorem zu{d:Nat}{v v':V}(ht:cx h d v=some v')(hv: ∀cs,v≠ .agg cs): ∀cs,v'≠ .agg cs:=by
 intro cs e;subst e;cases v with
 |agg rS=>grind
 |dM rS=>
  cases d with
  |zero=>simp[cx]at ht
  |succ d=>obtain⟨l,h1,_⟩:=zt ht;grind
 |cu id s l=>
  cases d with
  |zero=>simp[cx]at ht
  |succ d=>
   simp only[cx]at ht
   grind
 |fn g a b=>cases a<;>cases b<;>cases d<;>simp[cx]at ht
 |_=>cases d<;>simp[cx]at ht
theorem mH{v:V}(hv: ∀cs,v≠ .agg cs):v.cells=[v]:=by
 cases v with
 |agg cs=>grind
 |_=>rfl
theorem Me: ∀{d:Nat} {v v':V},cx h d v=some v'->cx h (d+1) v=some v'
 |0,v,v',ht=>by
  cases v with
  |fn g a b=>cases a<;>cases b<;>simp_all [cx]
  |_=>first|(simp[cx]at ht;done)|(simpa[cx] using ht)
 |d+1,v,v',ht=>by
  have key: ∀{cs l:List V},cF (cs.map (cx h d))=some l->cF (cs.map (cx h (d+1)))=some l:=by
   intro cs;induction cs with
   |nil=>grind
   |cons c cs ih=>
    intro l hl;simp only[aaU]at hl⊢;cases hc:cx h d c with
    |none=>simp[hc,cF]at hl
    |some c'=>
     simp only[hc,cF]at hl;split at hl
     ·rename_i l' Ac;simp only[cF,Me hc,ih Ac];omega
     grind
  cases v with
  |agg cs=>
   obtain⟨l,rfl,hl⟩:=rY ht;rw[cx]
   grind
  |dM cs=>
   obtain⟨l,rfl,hl⟩:=zt ht;rw[cx]
   grind
  |cu id s l=>
   rw[cx]at ht⊢
   grind
  |fn g a b=>cases a<;>cases b<;>simp_all [cx]
  |_=>first|(simp[cx]at ht;done)|(simpa[cx] using ht)
theorem uH(R:Rel w I σ h)(Ut: ∀b,I b->J b)(hJ: ∀b,jk σ h b->J b): ∀(d:Nat) (v v':V) (u:Value),cx h d v=some v'->dB w I σ v u->dB w J fy v' u:=by
 have EJ:Ext w I fy w J fy:=⟨fun _ _=>rfl,fun _ c _ fz hh=>⟨c,fz,hh,rfl⟩,Ut,fun _ _ hh=>hh⟩;intro d;induction d with
 |zero=>
  intro v v' u ht hr;have hv:v.oX=true/\v'=v:=by
   cases v with
   |fn g a b=>cases a<;>cases b<;>simp[cx]at ht⊢ <;>simp_all [V.oX]
   |_=>simp[cx]at ht⊢ <;>simp_all [V.oX]
  rw[hv.2];exact(tU hv.1 hr).ext EJ
 |succ d ih=>
  intro v v' u ht hr;by_cases hi:v.oX=true
  ·have hv:v'=v:=by
    cases v with
    |fn g a b=>cases a<;>cases b<;>simp[cx]at ht⊢ <;>simp_all [V.oX]
    |_=>first|(simp[cx]at ht⊢;simp_all [V.oX];done)|(simp[V.oX]at hi)
   rw[hv];exact(tU hi hr).ext EJ
  ·cases v with
   |agg cs=>
    obtain⟨l,rfl,hl⟩:=rY ht;obtain⟨h1,h2⟩:=lG _ hl;obtain⟨us,rfl,hc⟩:=hr;rw[dL]at hc;refine⟨us,rfl,?_⟩;rw[dL];refine⟨by omega,fun j c' u' Bq hu'=> ?_⟩
    grind
   |dM cs=>
    obtain⟨l,rfl,hl⟩:=zt ht;obtain⟨h1,h2⟩:=lG _ hl;obtain⟨us,rfl,hc⟩:=hr;rw[mP]at hc;refine⟨us,rfl,?_⟩;rw[mP];refine⟨by omega,fun j c' u' Bq hu'=> ?_⟩;have hj:j<cs.length:=by rw[h1];exact(List.getElem?_eq_some_iff.1 Bq).1
    have xQ:cs[j]?=some cs[j]:=by simp
    grind
   |cu id s l=>
    simp only[cx]at ht;cases gG:h id with
    |none=>grind
    |some ob=>
    simp only[gG]at ht;split at ht
    case isFalse=>grind
    rename_i rK;have aw5: ∀b o k,σ id=some (b,o,k)->J b:=fun b o k hs=>hJ b ⟨id,ob,o,k,gG,hs⟩;by_cases hk:ob.eU=true
    ·simp only[hk,if_true]at ht;split at ht
     case h_2=>grind
     rename_i Ae hl;simp only[aA]at ht;subst ht;obtain⟨h1,h2⟩:=lG _ hl;have hlen:((ob.es.drop s).take l).length=l:=by simp;omega
     obtain⟨ad,cap,rfl,B⟩:=Mc R hr gG;refine⟨ad,cap,by grind,by rw[<-h1,hlen];exact B.le,B.max,fun hh=>(by grind),?_⟩;rcases B.place with hp|⟨b,o,c,el,hs,had,hb,_,_,fV⟩
     ·left;have:=B.le
      simp_all
     ·right;refine⟨b,o+s*ob.k,ob.k,had,aw5 b o ob.k hs,?_⟩;have HY:=fV.SF s l;rw[hk]at HY;rw[lN]at HY⊢;intro i e' oE;have EV:i<((ob.es.drop s).take l).length:=by rw[h1];exact(List.getElem?_eq_some_iff.1 oE).1
      have hie:((ob.es.drop s).take l)[i]?=some ((ob.es.drop s).take l)[i]:=aaJ EV;have hte:=h2 i _ _ hie oE;obtain⟨pW,yf⟩:=HY i _ hie;generalize ((ob.es.drop s).take l)[i]=e at hte pW yf;by_cases hag: ∃cs,e= .agg cs
      ·obtain⟨cs,rfl⟩:=hag;cases d with
       |zero=>simp[cx]at hte
       |succ d=>
        obtain⟨rS,rfl,Ac⟩:=rY hte;obtain⟨g1,g2⟩:=lG _ Ac;refine⟨by simpa[V.cells,<-g1] using pW,fun j c' Bv=> ?_⟩;have tH:j<cs.length:=by rw[g1];exact(List.getElem?_eq_some_iff.1 Bv).1
        have hjc:cs[j]?=some cs[j]:=by simp
        obtain⟨u,Xp,Xq,Yd⟩:=yf j _ hjc;refine⟨u,Xp,Xq,?_⟩;have Yo:cx h (d+1) cs[j]=some c':=by
         have:=g2 j _ _ hjc Bv;exact Me this
        exact ih _ _ _ Yo Yd
      ·have kC: ∀cs,e≠ .agg cs:=fun cs hh=>hag ⟨cs,hh⟩;have aqs:=zu hte kC;rw[mH kC]at pW yf;rw[mH aqs];refine⟨pW,fun j c' Bv=> ?_⟩;cases j with
       |zero=>
        simp at Bv;subst Bv;obtain⟨u,Xp,Xq,Yd⟩:=yf 0 e (by simp);exact⟨u,Xp,Xq,ih _ _ _ hte Yd⟩
       |succ j=>grind
    ·simp only[hk,aaM,if_false,aA]at ht;subst ht;exact SJ R hr gG (by grind) rK Ut aw5
   |fn g a b=>cases a<;>cases b<;>simp_all [cx,V.oX]
   |_=>first|(simp[V.oX]at hi;done)|(simp[cx]at ht)
end
end Go.Abs
