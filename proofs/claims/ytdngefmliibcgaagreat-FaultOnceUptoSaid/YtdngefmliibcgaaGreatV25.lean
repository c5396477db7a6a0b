/- part -/
import Derived.Test.YtdngefmliibcgaaGreatV24
import Derived.Laws.BytesString
import Derived.Lib.ConvBytes
set_option linter.all false
set_option maxRecDepth 20000
set_option maxHeartbeats 20000000
namespace Go.Abs
open Go
variable  {k1 k2 eU kp kx:Bool}{ob:Ob}{α:Type}{args:Array Operand}
section
variable {w w':World} {I I':Nat->Prop} {σ σ':ju} {h:bh}
theorem zB(hk:k1=true->k2=true):Ext w I (mu k1 σ) w I (mu k2 σ):=by
 cases k1
 ·cases k2
  ·exact .refl _ _ _
  ·exact Ext.free
 ·rw[hk rfl];exact .refl _ _ _
theorem Ext.heap(hh:w'.heap=w.heap):Ext w I σ w' I σ:=
 ⟨fun b _=>by rw[hh],fun b c el fz h=>⟨c,fz,by grind,rfl⟩,fun _ h=>h,fun _ _ h=>h⟩
theorem Step.drew(R:Rel w I σ h)(n:Nat):Step w I σ h n w.drew I σ h n:=
 ⟨Ext.heap rfl,R.eU (Ext.heap rfl) (fun b hb=>R.eu b hb) (fun b hb=>⟨rfl,(R.owned hb).1⟩) (fun _ _=>rfl),rfl,rfl,rfl,aaI _,fun _ _ _=>rfl,fun _ hb=> .inr hb,fun _ hb=> .inl hb,aaI _,fun _ _=>rfl,fun _ _ hn=>hn⟩
theorem Step.kill(R:Rel w I σ h)(id n:Nat):Step w I σ h n w I σ (aR h id none) n:=
 ⟨.refl _ _ _,R.kill id,rfl,rfl,rfl,aaI _,fun _ _ _=>rfl,fun _ hb=> .inr hb.PU,fun _ hb=> .inl hb,aaI _,fun _ _=>rfl,fun i _ hn=>by grind [aR]⟩
theorem Step.nil(R:Rel w I σ h){n k:Nat}(hn:h n=none)(hs:σ n=none):Step w I σ h n w I σ (aR h n (some ⟨k,[],eU⟩)) (n+1):=
 ⟨.refl _ _ _,R.YC hn hs,rfl,rfl,rfl,aaI _,fun _ _ _=>rfl,fun b hb=>by
  obtain⟨id,ob,o,k',h1,h2⟩:=hb;by_cases e:id=n
  ·grind
  ·exact .inr ⟨id,ob,o,k',by grind [aR],h2⟩,fun _ hb=> .inl hb,by omega,fun _ _=>rfl,fun id fa Mq=>by grind [aR]⟩
theorem Step.aro (R:Rel w I σ h) {id n b o s:Nat}   (gG:h id=some ob) (mQ:σ id=some (b,o,ob.k)) (hn:h n=none) (hs:σ n=none) (hk:ob.eU=true->kp=true) {c:Array Value} {el:TypeId}
  (hb:kQ w b c el) (hle:o+ob.es.length*ob.k<=c.size) (fX:dN w I (mu ob.eU σ) ob.es ob.k b o) (rK:s<=ob.es.length):
  Step w I σ h n w I (aR σ n (some (b,o+s*ob.k,ob.k))) (aR (aR h id none) n (some ⟨ob.k,ob.es.drop s,kp⟩)) (n+1):=by
 have rV:jk σ h b:=⟨id,ob,o,ob.k,gG,mQ⟩;have kz:n≠id:=fun e=>by grind
 have Ps:aR h id none n=none:=by simp[aR,kz,hn]
 have Ir:=fX.Tg s (ob.es.length-s);rw[aZ (by simp)]at Ir;have E:Ext w I σ w I (aR σ n (some (b,o+s*ob.k,ob.k))):=Ext.UL hs;have s7:o+s*ob.k+(ob.es.drop s).length*ob.k<=c.size:=by
  have:s*ob.k+(ob.es.length-s)*ob.k=ob.es.length*ob.k:=by rw[<-Nat.add_mul];congr 1;omega
  simp;omega
 have R1:=(R.kill id).YB (n:=n) (b:=b) (o:=o+s*ob.k) (k:=ob.k) (es:=ob.es.drop s) (eU:=kp) Ps hs hb (R.owned rV).1 (R.KG gG mQ) s7
  ((Ir.nO (E.qX ob.eU) rfl).nO (zB hk) rfl)
 refine⟨E,R1,rfl,rfl,rfl,aaI _,fun _ _ _=>rfl,fun b' wT=> ?_,fun _ hb=> .inl hb,by omega,fun i hi=>by grind [aR],fun i hi wL=>by grind [aR]⟩;obtain⟨i,oE,o',k',h1,h2⟩:=wT;by_cases e:i=n
 ·grind [aR]
 ·have uF:aR h id none i=some oE:=by simpa[aR,e] using h1
  have Pp:σ i=some (b',o',k'):=by simpa[aR,e] using h2
  exact .inr (jk.PU ⟨i,oE,o',k',uF,Pp⟩)
theorem Tn {P:Program} {tx:TypeId} (hk:(∃e',P.underlying tx=some (.slice e'))\/P.underlying tx=some .string) (R:Rel w I σ h) {x:V} {u:Value} {xs:List V}  (hr:dD w I σ x u) (he:elems h x=some (xs,kx))
  {k:Nat} (hl: ∀e∈xs,e.cells.length=k) (mQ: ∀id s l,x= .cx id s l-> ∃ob,h id=some ob/\(xs≠ []->ob.k=k)):
  ∃news,Src P k tx u xs.length news w/\fR w I (mu kx σ) (flat xs) news:=by
 have mk: ∀{ad:Addr} {cap:Nat} {b o:Nat} {τ:ju},ad=⟨b,o,none⟩->dN w I τ xs k b o-> ∃news,Src P k tx (.slice (some ad) xs.length cap) xs.length news w/\fR w I τ (flat xs) news:=by
  intro ad cap b o τ had fX;subst had;obtain⟨us,h1,h2,h3⟩:=sD fX;refine⟨us,⟨hk,fun _=>rfl,run_firstCells_some w k xs.length _ _ cap us h1 (fun j v hv=>by rw[qu];grind),run_firstCells_some w.drew k xs.length _ _ cap us h1 (fun j v hv=>by rw[qu];simp_all),h1,h3.ara⟩,h3⟩
 have mk0: ∀{ad:Option Addr} {cap:Nat},xs=[]-> ∃news,Src P k tx (.slice ad 0 cap) xs.length news w/\fR w I (mu kx σ) (flat xs) news:=by
  intro ad cap h0;subst h0;refine⟨[],⟨hk,fun _=>rfl,?_,?_,by simp,by simp⟩,by simp[flat,fR]⟩
  ·cases ad<;>simp[Builtin.firstCells,loadCells,loadCellsFrom]
  ·cases ad<;>simp[Builtin.firstCells,loadCells,loadCellsFrom]
 cases x with
 |sl c es=>
  simp only[elems,aA,bM]at he;obtain⟨rfl,rfl⟩:=he;obtain⟨ad,cap,rfl,_,_,_,h4⟩:=hr;rcases h4 with h4|⟨b,o,k',rfl,hI,fX⟩
  ·simp_all
  ·by_cases h0:es=[]
   ·simp_all
   ·have v7:k'=k:=by
     obtain⟨e,he⟩:=acI es h0;rw[<-fX.lens e he];exact hl e he
    subst v7;exact mk rfl fX
 |cx id s l=>
  obtain⟨ob,gG,v7⟩:=mQ id s l rfl;simp only[elems,gG]at he;split at he
  ·obtain⟨rfl,rfl⟩:=he;have DB:((ob.es.drop s).take l).length=l:=by simp;omega
   obtain⟨ad,cap,rfl,h1,_,h3⟩:=hr;by_cases h0:l=0
   ·simp_all
   ·rcases h3 with h3|⟨b,o,k',c,el,fz,hs,rfl,_⟩
    ·omega
    ·have hi:ob.es[s]?=some (ob.es[s]'(by omega)):=by simp
     obtain⟨b',o',c',PR,oG,_,_,_,fX⟩:=R.at gG hi;rw[hs]at oG;obtain⟨rfl,rfl,rfl⟩:=oG;have kz:(ob.es.drop s).take l≠ []:=by intro hh;rw[hh]at DB;simp at DB;omega
     have hko:=v7 kz;have Ir:=fX.Tg s l
     simp_all
  grind
 |str s=>
  obtain⟨rfl,rfl⟩:=he;obtain⟨bs,rfl,rfl⟩:=su hr;have s7:bs.data.toList.length=bs.size:=abZ;by_cases h0:bs.data.toList=[]
  ·rw[h0];have hz:bs.size=0:=by rw[<-s7,h0];rfl
   have hex:bs.extract 0 0=ByteArray.empty:=by
    apply ByteArray.ext;simp
   refine⟨[],⟨hk,fun _=>by simp[Builtin.lenOf,hz],?_,?_,by simp,by simp⟩,by simp[flat,fR]⟩
   ·simp[Builtin.firstCells]
   ·simp[Builtin.firstCells]
  ·have EG:k=1:=by
    obtain⟨e,he⟩:=acI _ h0;have:=hl (.int .u8 e.toNat) (List.mem_map.2 ⟨e,he,rfl⟩);simpa[V.cells] using this.symm
   subst EG;refine⟨byteCells bs,⟨hk,fun _=>by simp[Builtin.lenOf,s7],?_,?_,?_,?_⟩,?_⟩
   ·rw[abJ,s7];exact firstCells_string bs w
   ·rw[abJ,s7];exact firstCells_string bs w.drew
   ·rw[byteCells_length,abJ,s7,Nat.mul_one]
   ·intro u hu;obtain⟨_,_,rfl⟩:=List.mem_map.1 hu;rfl
   ·rw[dO];have wW:flat (bs.data.toList.map fun b=>V.int .u8 b.toNat)=bs.data.toList.map fun b=>V.int .u8 b.toNat:=by
     generalize bs.data.toList=l;induction l with
     |nil=>rfl
     |cons b l ih=>rw[aaV,rX,ih];rfl
    rw[wW];refine⟨by rw[byteCells_length,abJ,s7],fun j c u hc hu=> ?_⟩;unfold byteCells at hu;rw[abG]at hc hu;cases hb:bs.data.toList[j]? with
    |none=>grind
    |some b=>
     simp only[hb,acq,aA]at hc hu;subst hc;subst hu;exact⟨rfl,by simp[dD]⟩
 |_=>simp[elems]at he
theorem sT{P:Program}(t tx ty e:TypeId)(i:TypeInfo)(ht:P.underlying t=some (.slice e))(hi:P.info? e=some i)(base:Option Addr)(FA MD:Nat)(hle:FA<=MD)(x:Value)(hs:Src P i.size tx x 0 [] w):
  (Builtin.append_ #[t,tx] ty #[.slice base FA MD,x]).run P w= .ok (.slice base FA MD) w:=by
 have hc:=hs.cells;cases base<;>rcases hs.kind with⟨e',hk⟩|hk<;>simp[Builtin.append_,run_underlying ht,run_underlying hk,sizeOf,typeInfo,hi,hs.len,hle,hc,storeCells]
theorem It {P:Program} (t tx ty e:TypeId) (i:TypeInfo) (ht:P.underlying t=some (.slice e)) (hi:P.info? e=some i) {b p FA MD:Nat} {x:Value} {n:Nat} {news:List Value} (hs:Src P i.size tx x n news w)
  (ME:FA+n<=MD) {c:Array Value} {el:TypeId} (hb:kQ w b c el) (v5:p+FA*i.size+news.length<=c.size):
  (Builtin.append_ #[t,tx] ty #[.slice (some ⟨b,p,none⟩) FA MD,x]).run P w= .ok (.slice (some ⟨b,p,none⟩) (FA+n) MD) (w.setRow b (rW c (p+FA*i.size) news)):=by
 have kH:=wV (P:=P) (b:=b) (p:=p+FA*i.size) news 0 c w hb (by omega) fun v hv=>hs.one v (by omega);rcases hs.kind with⟨e',hk⟩|hk<;>simp[Builtin.append_,run_underlying ht,run_underlying hk,sizeOf,typeInfo,hi,hs.len,ME,hs.cells,Addr.add_lit,kH,rW]
end
section
variable {w:World} {I:Nat->Prop} {σ:ju} {h:bh}
structure YM (w:World) (I:Nat->Prop) (σ:ju) (id s l:Nat) (ob:Ob) (ad:Option Addr) (cap:Nat):Prop where
 le:l<=cap
 max:cap<=maxLen
 place:cap=0\/ ∃b o c el,σ id=some (b,o,ob.k)/\ad=some ⟨b,o+s*ob.k,none⟩/\kQ w b c el/\o+ob.es.length*ob.k<=c.size/\o+(s+cap)*ob.k<=c.size/\dN w I (mu ob.eU σ) ob.es ob.k b o
theorem MF(R:Rel w I σ h){id s l:Nat}{u:Value}(hr:dD w I σ (.cx id s l) u)(gG:h id=some ob): ∃ad cap,u= .slice ad l cap/\YM w I σ id s l ob ad cap:=by
 obtain⟨ad,cap,rfl,h1,h2,h3⟩:=hr;refine⟨ad,cap,rfl,h1,h2,?_⟩;rcases h3 with h3|⟨b,o,k,c,el,fz,hs,ha,hb,hle⟩
 ·omega
 ·rcases R.obj id ob gG with⟨_,hn⟩|⟨b',o',c',PR,oG,hi,wT,Ei,fX⟩
  ·grind
  ·rw[hs]at oG;obtain⟨rfl,rfl,rfl⟩:=oG;obtain⟨fz',Bn⟩:=wT.at;rw[hb]at Bn;obtain⟨rfl,rfl,rfl⟩:=Bn;exact .inr ⟨b,o,c,el,hs,ha,wT,Ei,hle,fX⟩
theorem YM.tz{P:Program}{id s l cap:Nat}{ob:Ob}{ad:Option Addr}(B:YM w I σ id s l ob ad cap)(rK:s+l<=ob.es.length):
  ∃tz:List Value,tz.length=l*ob.k/\fR w I (mu ob.eU σ) (flat ((ob.es.drop s).take l)) tz/\(Builtin.firstCells ob.k l (.slice ad l cap)).run P w.drew= .ok tz.toArray w.drew:=by
 have hl:=B.le;by_cases h0:l=0
 ·subst h0;refine⟨[],by simp,by simp[flat,fR],?_⟩;cases ad<;>simp[Builtin.firstCells,loadCells,loadCellsFrom]
 ·rcases B.place with hp|⟨b,o,c,el,hs,rfl,hb,hle,arp,fX⟩
  ·omega
  ·obtain⟨us,h1,h2,h3⟩:=sD (fX.Tg s l);have Pt:((ob.es.drop s).take l).length=l:=by simp;omega
   rw[Pt]at h1;exact⟨us,h1,h3,run_firstCells_some w.drew ob.k l _ _ cap us h1 (fun j v hv=>by rw[qu];simp_all)⟩
theorem FB{z:Array Value}(n:Nat):(Builtin.zeroCells z n).size=n*z.size:=by
 have:=size_madeCells z (n*z.size);simp[Builtin.zeroCells]
theorem PY(tz news:List Value)(z:Array Value)(g n k:Nat)(hz:z.size=k)(ho:(tz++news).length=n*k)(hg:n<=g):
  ((tz++news).toArray++Builtin.zeroCells z (g-n)).size=g*k:=by
 rw[Array.size_append,FB,hz];have:n*k+(g-n)*k=g*k:=by rw[<-Nat.add_mul];congr 1;omega
 grind
theorem FC {P:Program} {t tx ty e:TypeId} {x:TI} (ht:P.underlying t=some (.slice e)) (T:mh P e x) {ad:Option Addr} {l cap:Nat} {tz news:List Value} {u:Value} {n:Nat}
  (hold:(Builtin.firstCells x.size l (.slice ad l cap)).run P w.drew= .ok tz.toArray w.drew) (hol:tz.length=l*x.size) (hs:Src P x.size tx u n news w) (hg:cap<l+n) (v5:(l+n)*x.bytes<=2^47) (YN:l+n<=2^62):
  ∃(c:Array Value) (g:Nat),(Builtin.append_ #[t,tx] ty #[.slice ad l cap,u]).run P w= .ok (.slice (some ⟨w.heap.size,0,none⟩) (l+n) g) (w.drew.alloc (.cells c e))/\l+n<=g/\g<=maxLen/\g*x.size<=c.size/\
   (∀(j:Nat) v,(tz++news)[j]?=some v->c[j]?=some v):=by
 obtain⟨i,z,hi,U0,X0,hz,hzb⟩:=T.info;have UZ:=zero_cells (w:=w) (I:=fun _=>False) (σ:=fv) T hzb;have MA:z.cells.size=x.size:=by
  have:=((dO _ _).1 UZ).1;rw[T.YD]at this;simpa using this.symm
 have kr:=run_append_grow_src (w:=w) t tx ty e i z ht hi hz ad l cap tz (by grind) u n news (by grind) hg (by omega)
  (by have:=growslice_fits (bytes:=i.bytes) hg (by grind);omega)
 have hge:=grownCap_ge w (l+n) cap e;have hle:=grownCap_le_maxLen w (l+n) cap e (by simp only[maxLen];omega);have hlen:(tz++news).length=(l+n)*x.size:=by rw[aaY,hol,hs.newsLen,acE]
 refine⟨_,_,kr,hge,hle,?_,?_⟩
 ·rw[PY tz news z.cells _ _ _ MA hlen hge];omega
 grind
variable {P:Program} {t tx ty e:TypeId} {x:TI} {n:Nat} {xs:List V} {news:List Value} {y:Value}
theorem ym (R:Rel w I σ h) (ht:P.underlying t=some (.slice e)) (T:mh P e x) {u:Value} (hb:dD w I σ (.sl true []) u)  (YO:kx=true->kp=true) (hk: ∀v∈xs,v.cells.length=x.size)
  (hs:Src P x.size tx y xs.length news w) (hr:fR w I (mu kx σ) (flat xs) news) (hn:h n=none) (vk:σ n=none) (v5:xs.length*x.bytes<=2^47) (YN:xs.length<=2^62):
  ∃v w' σ',(Builtin.append_ #[t,tx] ty #[u,y]).run P w= .ok v w'/\Step w I σ h n w' I σ' (aR h n (some ⟨x.size,xs,kp⟩)) (n+1)/\dD w' I σ' (.cx n 0 xs.length) v:=by
 obtain⟨ad,cap,rfl,_,_,hc,_⟩:=hb;have Jl:cap=0:=by simpa using hc
 subst Jl;obtain⟨i,z,hi,U0,X0,hz,hzb⟩:=T.info;by_cases h0:xs=[]
 ·subst h0;have xJ:news=[]:=by
   have:=hs.newsLen;simp at this;exact this
  subst xJ;refine⟨_,w,σ,sT t tx ty e i ht hi ad 0 0 (aaI _) y (by grind),Step.nil R hn vk,?_⟩;exact⟨ad,0,rfl,by simp,by omega,.inl rfl⟩
 ·have Mu:0<xs.length:=List.length_pos_iff.2 h0;obtain⟨c,g,kr,hge,hle,s7,AF⟩:=FC ht T (ad:=ad) (l:=0) (cap:=0) (tz:=[]) (ty:=ty) (by cases ad<;>simp[Builtin.firstCells,loadCells,loadCellsFrom]) (by simp) hs (by omega) (by grind) (by omega);simp only[acL,aeV]at kr hge AF;refine⟨_,_,_,kr,(Step.drew R n).trans (yl (Step.drew R n).rel c hn vk hk (us:=news) ?_ AF),?_⟩
  ·exact(fR.ext' _ _ ((Ext.heap rfl:Ext w I (mu kx σ) w.drew I (mu kx σ)).trans (zB YO)) hr)
  ·have:=By w.drew I σ (n:=n) (k:=x.size) (l:=xs.length) (cap:=g) (c:=c) (el:=e) hge hle s7;simpa using this
theorem PZ (R:Rel w I σ h) (ht:P.underlying t=some (.slice e)) (T:mh P e x) {u:Value} {es:List V} (hb:dD w I σ (.sl true es) u) (hke: ∀v∈es,v.cells.length=x.size) (hk: ∀v∈xs,v.cells.length=x.size)
  (hs:Src P x.size tx y xs.length news w) (hr:fR w I (mu false σ) (flat xs) news) (n:Nat) (v5:(es.length+xs.length)*x.bytes<=2^47) (YN:es.length+xs.length<=2^62):
  ∃v w' I',(Builtin.append_ #[t,tx] ty #[u,y]).run P w= .ok v w'/\Step w I σ h n w' I' σ h n/\dD w' I' σ (.sl false (es++xs)) v:=by
 obtain⟨ad,cap,rfl,h1,h2,hc,h4⟩:=hb;have Jl:cap=es.length:=by simpa using hc
 subst Jl;obtain⟨i,z,hi,U0,X0,hz,hzb⟩:=T.info;by_cases h0:xs=[]
 ·subst h0;have xJ:news=[]:=by
   have:=hs.newsLen;simp at this;exact this
  subst xJ;refine⟨_,w,I,sT t tx ty e i ht hi ad es.length es.length (aaI _) y (by grind),Step.refl R n,?_⟩;rw[acX];exact⟨ad,es.length,rfl,h1,h2,fun hh=>(by omega),h4⟩
 ·have Mu:0<xs.length:=List.length_pos_iff.2 h0;have hold: ∃tz:List Value,tz.length=es.length*x.size/\fR w I fv (flat es) tz/\(Builtin.firstCells x.size es.length (.slice ad es.length es.length)).run P w.drew= .ok tz.toArray w.drew:=by
   by_cases he:es=[]
   ·subst he;refine⟨[],by simp,by simp[flat,fR],?_⟩;cases ad<;>simp[Builtin.firstCells,loadCells,loadCellsFrom]
   ·rcases h4 with h4|⟨b,o,k',rfl,hI,fX⟩
    ·grind
    ·have v7:k'=x.size:=by
      obtain⟨v,hv⟩:=acI es he;rw[<-fX.lens v hv];exact hke v hv
     subst v7;obtain⟨us,h1,h2,h3⟩:=sD fX;exact⟨us,h1,h3,run_firstCells_some w.drew _ _ _ _ _ us h1 (fun j v hv=>by rw[qu];simp_all)⟩
  obtain⟨tz,hol,YP,hof⟩:=hold;obtain⟨c,g,kr,hge,hle,s7,AF⟩:=FC ht T (ty:=ty) hof hol hs (by omega) v5 YN;have st:=(Step.drew R n).trans (KL (Step.drew R n).rel c e n);refine⟨_,_,_,kr,st,?_⟩;refine⟨_,g,by grind,by grind,hle,fun hh=>(by grind),.inr ⟨w.heap.size,0,x.size,rfl,.inr rfl,?_⟩⟩;refine tV st.ext.Kz (us:=tz++news) (fun v hv=> ?_) (by rw[sC];exact YP.append hr) (fun j v hv=> ?_)
  ·grind
  ·have:(w.drew.alloc (.cells c e)).heap[w.heap.size]?=some (.cells c e):=arc w.drew (.cells c e);rw[cell_of_row _ _ _ _ _ _ this]
   grind
theorem P0 (R:Rel w I σ h) (ht:P.underlying t=some (.slice e)) (T:mh P e x) {id s l:Nat}  {u:Value} (hb:dD w I σ (.cx id s l) u) (gG:h id=some ob) (ln:ob.k=x.size) (rK:s+l<=ob.es.length)
   (YO:kx=true->kp=true) (U3:ob.eU=true->kp=true) (hk: ∀v∈xs,v.cells.length=x.size)
  (hs:Src P x.size tx y xs.length news w) (hr:fR w I (mu kx σ) (flat xs) news) (hn:h n=none) (vk:σ n=none) (v5:(l+xs.length)*x.bytes<=2^47) (YN:l+xs.length<=2^62):
  ∃v w' σ',(Builtin.append_ #[t,tx] ty #[u,y]).run P w= .ok v w'/\Step w I σ h n w' I σ' (aR (aR h id none) n (some ⟨x.size,(ob.es.drop s).take l++xs,kp⟩)) (n+1)/\dD w' I σ' (.cx n 0 (l+xs.length)) v:=by
 obtain⟨ad,cap,rfl,B⟩:=MF R hb gG;obtain⟨i,z,hi,U0,X0,hz,hzb⟩:=T.info;have hle:=B.le;have kz:n≠id:=fun e=>by grind
 have Ps:aR h id none n=none:=by simp[aR,kz,hn]
 by_cases hg:cap<l+xs.length
 ·obtain⟨tz,hol,YP,hof⟩:=B.tz (P:=P) rK;rw[ln]at hol hof;obtain⟨c,g,kr,hge,a70,s7,AF⟩:=FC ht T (ty:=ty) hof hol hs hg v5 YN;have s1:=(Step.kill R id n).trans (Step.drew (R.kill id) n);have Jm: ∀v∈ (ob.es.drop s).take l++xs,v.cells.length=x.size:=by
   intro v hv;rcases List.mem_append.1 hv with hv|hv
   ·rcases B.place with hp|⟨b,o,c,el,_,_,_,_,_,fX⟩
    ·simp_all
    ·rw[<-ln];exact fX.lens v (abB (aaS hv))
   ·grind
  have hE: ∀{kk:Bool},(kk=true->kp=true)->Ext w I (mu kk σ) w.drew I (mu kp σ):=fun hh=>(Ext.heap rfl:Ext w I (mu _ σ) w.drew I (mu _ σ)).trans (zB hh);refine⟨_,_,_,kr,s1.trans (yl s1.rel c Ps vk Jm (us:=tz++news) ?_ AF),?_⟩
  ·rw[sC];exact(fR.ext' _ _ (hE U3) YP).append (fR.ext' _ _ (hE YO) hr)
  ·have:=By w.drew I σ (n:=n) (k:=x.size) (l:=l+xs.length) (cap:=g) (c:=c) (el:=e) hge a70 s7
   simp_all
 ·have ME:l+xs.length<=cap:=by omega
  rcases B.place with hp|⟨b,o,c,el,mQ,rfl,wM,arq,arp,fX⟩
  ·subst hp;have h0:xs=[]:=abT (by omega);have H6:l=0:=by omega
   subst h0;subst H6;have xJ:news=[]:=by
    have:=hs.newsLen;simp at this;exact this
   subst xJ;refine⟨_,w,σ,sT t tx ty e i ht hi ad 0 0 (aaI _) y (by grind),?_,?_⟩
   ·have:=(Step.kill R id n).trans (Step.nil (R.kill id) (k:=x.size) (eU:=kp) Ps vk)
    grind
   ·exact⟨ad,0,rfl,by simp,by omega,.inl rfl⟩
  ·
   have AF:news.length=xs.length*x.size:=hs.newsLen;have hmul:(s+cap)*ob.k=s*ob.k+cap*ob.k:=acE ..;have an0:(l+xs.length)*ob.k<=cap*ob.k:=abQ _ ME;rw[acE]at an0;have ben:(s+l)*ob.k=s*ob.k+l*ob.k:=acE ..;have xK:o+(s+l)*ob.k+news.length<=c.size:=by rw[AF,<-ln];omega
   have kr:=It (w:=w) (P:=P) t tx ty e i ht hi (b:=b) (p:=o+s*ob.k) (FA:=l) (MD:=cap) (x:=y) (n:=xs.length) (news:=news) (by grind) ME wM
    (by grind)
   rw[U0,<-ln,show o+s*ob.k+l*ob.k=o+(s+l)*ob.k by omega]at kr;have hI: ¬I b:=(R.owned ⟨id,ob,o,ob.k,gG,mQ⟩).1;have E:Ext w I σ (w.setRow b (rW c (o+(s+l)*ob.k) news)) I σ:=Ext.setRow hI wM (oF xK);have lh:kQ _ b (rW c (o+(s+l)*ob.k) news) el:=wM.set (oF xK);have Ir:=fX.Tg 0 (s+l);simp only[aeN,aeK,adU]at Ir;obtain⟨us,Th,huc,hur⟩:=sD Ir;have nd:(ob.es.take (s+l)).length=s+l:=by simp;omega
   rw[nd]at Th;have yi:dN (w.setRow b (rW c (o+(s+l)*ob.k) news)) I (mu kp σ) (ob.es.take (s+l)++xs) ob.k b o:=by
    refine tV (E.qX kp) (us:=us++news) (fun v hv=> ?_) ?_ (fun j v hv=> ?_)
    ·rcases List.mem_append.1 hv with hv|hv
     ·exact fX.lens v (aaS hv)
     grind
    ·rw[sC];exact(fR.ext' _ _ (zB U3) hur).append (fR.ext' _ _ (zB YO) hr)
    ·rw[lh.cell,vZ xK];by_cases hj:j<us.length
     ·rw[aaW hj]at hv;rw[if_neg (by omega)];have:=huc j v hv;rwa[wM.cell]at this
     ·have tI:=(List.getElem?_eq_some_iff.1 hv).1;rw[aaY]at tI;rw[aaO (by omega)]at hv;rw[if_pos (by omega),show o+j-(o+(s+l)*ob.k)=j-us.length by omega];exact hv
   have ayg:o+(ob.es.take (s+l)++xs).length*ob.k<=c.size:=by
    rw[aaY,nd,acE];rw[AF,<-ln]at xK;omega
   have s1:=R.write (eU:=kp) gG mQ wM (oF xK) ayg yi n;have a71:aR h id (some (⟨ob.k,ob.es.take (s+l)++xs,kp⟩:Ob)) id=some ⟨ob.k,ob.es.take (s+l)++xs,kp⟩:=by simp[aR]
   have Bz:aR h id (some (⟨ob.k,ob.es.take (s+l)++xs,kp⟩:Ob)) n=none:=by simp[aR,kz,hn]
   have s2:=Step.aro s1.rel (n:=n) (s:=s) (kp:=kp) a71 mQ Bz vk (fun hh=>hh) lh (by rw[oF xK];exact ayg) yi (by rw[aaY,nd];omega);have s3:=s1.trans s2;have ayh:(ob.es.take (s+l)++xs).drop s=(ob.es.drop s).take l++xs:=by
    rw[List.drop_append_of_le_length (by rw[nd];omega),aeL];congr 2;omega
   refine⟨_,_,aR σ n (some (b,o+s*ob.k,ob.k)),kr,?_,?_⟩
   ·have U4:aR (aR h id (some (⟨ob.k,ob.es.take (s+l)++xs,kp⟩:Ob))) id none=aR h id none:=by
     funext q;simp only[aR];split<;>rfl
    rw[U4,ayh]at s3;rw[<-ln];exact s3
   ·simp only[dD];obtain⟨fz,ayi⟩:=lh.at;exact⟨_,cap,rfl,ME,B.max,.inr ⟨b,o+s*ob.k,ob.k,_,el,fz,by simp[aR],by simp,ayi,by rw[oF xK,acL];omega⟩⟩
theorem KM{v:V}{xs:List V}(he:elems h v=some (xs,kx))(R:Rel w I σ h){k:Nat}(hl: ∀e∈xs,e.cells.length=k): ∀id s l,v= .cx id s l-> ∃ob,h id=some ob/\(xs≠ []->ob.k=k):=by
 rintro id s l rfl;simp only[elems]at he;cases gG:h id with
 |none=>grind
 |some ob=>
  refine⟨ob,rfl,fun kz=> ?_⟩;simp only[gG]at he;split at he
  ·obtain⟨rfl,rfl⟩:=he;obtain⟨v,hv⟩:=acI _ kz;rw[<-hl v hv];have hm:=abB (aaS hv);obtain⟨i,hi⟩:=aeC hm;obtain⟨b',o',c',PR,_,_,_,_,fX⟩:=R.at gG hi;exact(fX.lens v hm).symm
  grind
theorem an1{a:Array α}{x y:α}(h:a.toList=[x,y]):a= #[x,y]:=by grind
theorem YQ{a:Array α}{x y:α}{r:List α}(h:a.toList=x::y::r):a[0]?=some x/\a[1]?=some y:=by
 rw[<-Array.getElem?_toList,<-Array.getElem?_toList,h];simp
theorem P1{mH:Array TypeId}{t u:TypeId}{r:List TypeId}(ht:mH.toList=t::u::r)(ty:TypeId)(args:Array Value):Builtin.append_ mH ty args=Builtin.append_ #[t,u] ty args:=by
 simp[Builtin.append_,YQ ht]
theorem YR{mH:Array TypeId}{t u:TypeId}{r:List TypeId}(ht:mH.toList=t::u::r)(ty:TypeId)(args:Array Value):Builtin.copy_ mH ty args=Builtin.copy_ #[t,u] ty args:=by
 simp[Builtin.copy_,YQ ht]
end
section
variable {X:Env} {o:Oper} {a:Act} {w:World} {I:Nat->Prop} {σ:ju} {S S1:St}
theorem EH{xs:List V}{k:Nat}(h:(xs.all fun v=>v.cells.length==k)=true): ∀v∈xs,v.cells.length=k:=by grind
theorem P2  {mH:Array TypeId} (ho:o.op= .call ⟨.builtin .append,args,mH⟩) {t u:TypeId} {r:List TypeId} (hty:mH.toList=t::u::r)
  (hu:X.P.underlying t=some (.slice (X.ti t).elem)) (T:mh X.P (X.ti t).elem (X.ti (X.ti t).elem)) (a72:((∃e',X.P.underlying u=some (.slice e'))\/X.P.underlying u=some .string)\/(X.ti u).kind.isSome=true)
  (R:Rel w I σ S.h) (F:jw w I σ S.f a) (hx:nP o) (hn:S.h S.n=none) (vk:σ S.n=none) (bZ:FuncId) {v0:V} {X2:bh} {nn0:Nat} (he:cI X bZ o S.ev S.h S.n=some (v0,X2,nn0)) (qQ:S1=({S with h:=X2,n:=nn0}:St).set o.dst v0):Out X o a w I σ S S1:=by
 have Pu:mH.getD 0 0=t:=by
  have:=(YQ hty).1;simp[abH,this]
 have ht1:mH.getD 1 0=u:=by
  have:=(YQ hty).2;simp[abH,this]
 simp only[cI,ho,Pu,ht1]at he;split at he
 case h_2=>grind
 rename_i s x jL;cases wN:args.toList with
 |nil=>grind
 |cons p q=>
 cases q with
 |nil=>grind
 |cons q q2=>
 cases q2 with
 |cons _ _=>grind
 |nil=>
 simp only[wN,aaV,abM,acA,and_true]at jL;obtain⟨rfl,rfl⟩:=jL;have AD:=an1 wN;have r1:dD w I σ (S.ev p) (a.eval p):=fj (S:=S) F (hx p (by simp[ho,Op.operands,Call.operands,AD]));have r2:dD w I σ (S.ev q) (a.eval q):=fj (S:=S) F (hx q (by simp[ho,Op.operands,Call.operands,AD]));have kr: ∀{v:Value} {w':World},(Builtin.append_ #[t,u] o.type #[a.eval p,a.eval q]).run X.P w= .ok v w'->(execOp a.eval o).run X.P w= .ok (.value v) w':=by
  intro v w' hh;simp[execOp,ho,AD,resolve,invoke,builtin,P1 hty,hh]
 cases X3:elems S.h (S.ev p) with
 |none=>grind
 |some y1=>
 obtain⟨es,kb⟩:=y1;cases X4:elems S.h (S.ev q) with
 |none=>grind
 |some y2=>
 obtain⟨xs,kx⟩:=y2;simp only[X3,X4]at he;split at he
 ·grind
 rename_i EK;simp only[acm,aaF,aaZ,not_or,not_and,acQ]at EK;obtain⟨⟨EK,hlen⟩,bij⟩:=EK;have huk:=a72.resolve_right (by omega);have DB:=EH hlen;split at he
 case isFalse=>grind
 rename_i v5;have U3:kb=true->X.fZ bZ (X.ti t).elem=true:=fun h=>EK (.inl h);have YO:kx=true->X.fZ bZ (X.ti t).elem=true:=fun h=>EK (.inr h);obtain⟨news,Fm,hnr⟩:=Tn huk R r2 X4 DB (KM X4 R DB);split at he
 ·
  rename_i hp;obtain⟨rfl,rfl,rfl⟩:=he;subst qQ;rw[hp]at r1;have h0:es=[]:=by rw[hp]at X3;simp only[elems,aA,bM]at X3;exact X3.1.symm
  subst h0;obtain⟨v,w',σ',h1,h2,h3⟩:=ym (ty:=o.type) R hu T r1 YO DB Fm hnr hn vk (by grind) (by omega);refine⟨_,w',I,σ',v,_,kr h1,.inl rfl,?_,rN _ _ _ _ rfl,h3⟩;rw[fm,hX];omega
 ·rename_i Aj kz hp;split at he
  ·grind
  rename_i En;simp only[acm,aaZ,not_or,aeU,acQ]at En;obtain⟨rfl,rfl,rfl⟩:=he;subst qQ;rw[hp]at r1;have h0:es=Aj/\kb=false:=by rw[hp]at X3;simp only[elems,aA,bM]at X3;exact⟨X3.1.symm,X3.2.symm⟩
  obtain⟨rfl,_⟩:=h0;rw[En.1]at hnr;obtain⟨v,w',I',h1,h2,h3⟩:=PZ (ty:=o.type) R hu T r1 (EH En.2) DB Fm hnr S.n v5.1 v5.2;refine⟨_,w',I',σ,v,_,kr h1,.inl rfl,?_,rfl,h3⟩;rw[fm,hX];omega
 ·rename_i id s l hp;split at he
  case h_2=>grind
  rename_i ob gG;split at he
  case isFalse=>grind
  rename_i hk;obtain⟨rfl,rfl,rfl⟩:=he;subst qQ;rw[hp]at r1;rw[hp]at X3;simp only[elems,gG]at X3;split at X3
  case isFalse=>grind
  rename_i rK;obtain⟨rfl,rfl⟩:=X3;have ait:((ob.es.drop s).take l).length=l:=by simp;omega
  rw[ait]at v5⊢;obtain⟨v,w',σ',h1,h2,h3⟩:=P0 (ty:=o.type) R hu T r1 gG hk rK YO U3 DB Fm hnr hn vk v5.1 v5.2;refine⟨_,w',I,σ',v,_,kr h1,.inl rfl,?_,rN _ _ _ _ rfl,h3⟩;rw[fm,hX];omega
 grind
theorem Jn {P:Program} {h:bh} (R:Rel w I σ h) {x:V} {u:Value} {xs:List V}  (hr:dD w I σ x u) (he:elems h x=some (xs,kx)) (Iu:x.isStr=false)
  {k:Nat} (hl: ∀e∈xs,e.cells.length=k) (m:Nat) (hm:m<=xs.length):
  (∀w',(Builtin.lenOf u).run P w'= .ok xs.length w')/\ ∃news:List Value,news.length=m*k/\(Builtin.firstCells k m u).run P w= .ok news.toArray w/\fR w I (mu kx σ) (flat (xs.take m)) news:=by
 have mk: ∀{ad:Addr} {n cap:Nat} {b o:Nat} {τ:ju},ad=⟨b,o,none⟩->dN w I τ xs k b o-> ∃news:List Value,news.length=m*k/\(Builtin.firstCells k m (.slice (some ad) n cap)).run P w= .ok news.toArray w/\fR w I τ (flat (xs.take m)) news:=by
  intro ad n cap b o τ had fX;subst had;have hs:=fX.Tg 0 m;simp only[aeN,aeK,adU]at hs;obtain⟨us,h1,h2,h3⟩:=sD hs;have:(xs.take m).length=m:=by simp;omega
  rw[this]at h1;exact⟨us,h1,run_firstCells_some w k m _ _ cap us h1 (fun j v hv=>by rw[qu];grind),h3⟩
 have mk0: ∀{ad:Option Addr} {n cap:Nat},xs=[]-> ∃news:List Value,news.length=m*k/\(Builtin.firstCells k m (.slice ad n cap)).run P w= .ok news.toArray w/\fR w I (mu kx σ) (flat (xs.take m)) news:=by
  intro ad n cap h0;subst h0;have:m=0:=by simpa using hm
  subst this;refine⟨[],by simp,?_,by simp[flat,fR]⟩;cases ad<;>simp[Builtin.firstCells,loadCells,loadCellsFrom]
 cases x with
 |sl c es=>
  simp only[elems,aA,bM]at he;obtain⟨rfl,rfl⟩:=he;obtain⟨ad,cap,rfl,_,_,_,h4⟩:=hr;refine⟨fun w'=>by simp[Builtin.lenOf],?_⟩;rcases h4 with h4|⟨b,o,k',rfl,hI,fX⟩
  ·exact mk0 h4
  ·by_cases h0:es=[]
   ·exact mk0 h0
   ·have v7:k'=k:=by
     obtain⟨e,he⟩:=acI es h0;rw[<-fX.lens e he];exact hl e he
    subst v7;exact mk rfl fX
 |cx id s l=>
  have hso:=KM (h:=h) (v:= .cx id s l) he R hl id s l rfl;obtain⟨ob,gG,hko⟩:=hso;simp only[elems,gG]at he;split at he
  case isFalse=>grind
  obtain⟨rfl,rfl⟩:=he;obtain⟨ad,cap,rfl,B⟩:=MF R hr gG;have Pt:((ob.es.drop s).take l).length=l:=by simp;omega
  refine⟨fun w'=>by rw[Pt];simp[Builtin.lenOf],?_⟩;by_cases h0:(ob.es.drop s).take l=[]
  ·exact mk0 h0
  ·rcases B.place with hp|⟨b,o,c,el,hs,rfl,hb,hle,arp,fX⟩
   ·exfalso;have:=B.le
    simp_all
   ·have qT:=hko h0;have:=fX.Tg s l
    simp_all
 |str s=>cases Iu
 |_=>simp[elems]at he
theorem YS  {mH:Array TypeId} (ho:o.op= .call ⟨.builtin .copy,args,mH⟩) {t u:TypeId} {r:List TypeId} (hty:mH.toList=t::u::r)
  (hu:X.P.underlying t=some (.slice (X.ti t).elem)) (T:mh X.P (X.ti t).elem (X.ti (X.ti t).elem))
  (R:Rel w I σ S.h) (F:jw w I σ S.f a) (hx:nP o) (bZ:FuncId) {v0:V} {X2:bh} {nn0:Nat} (he:cI X bZ o S.ev S.h S.n=some (v0,X2,nn0)) (qQ:S1=({S with h:=X2,n:=nn0}:St).set o.dst v0):Out X o a w I σ S S1:=by
 have Pu:mH.getD 0 0=t:=by
  have:=(YQ hty).1;simp[abH,this]
 simp only[cI,ho,Pu]at he;split at he
 case h_2=>grind
 rename_i id s l x jL;cases wN:args.toList with
 |nil=>grind
 |cons p q=>
 cases q with
 |nil=>grind
 |cons q q2=>
 cases q2 with
 |cons _ _=>grind
 |nil=>
 simp only[wN,aaV,abM,acA,and_true]at jL;obtain⟨hp,rfl⟩:=jL;have AD:=an1 wN;have r1:dD w I σ (S.ev p) (a.eval p):=fj (S:=S) F (hx p (by simp[ho,Op.operands,Call.operands,AD]));have r2:dD w I σ (S.ev q) (a.eval q):=fj (S:=S) F (hx q (by simp[ho,Op.operands,Call.operands,AD]));rw[hp]at r1;cases gG:S.h id with
 |none=>grind
 |some ob=>
 cases X4:elems S.h (S.ev q) with
 |none=>grind
 |some y2=>
 obtain⟨xs,kx⟩:=y2;simp only[gG,X4]at he;split at he
 ·grind
 rename_i EK;simp only[acm,aaF,aaZ,not_or,not_and,acQ,aeU]at EK;obtain⟨⟨Iu,YO⟩,hlen⟩:=EK;have DB:=EH hlen;split at he
 case isFalse=>grind
 rename_i v5;obtain⟨rfl,rfl,rfl⟩:=he;subst qQ;obtain⟨Pt,news,YT,hfc,hnr⟩:=Jn (P:=X.P) R r2 X4 Iu DB (min xs.length l) (Nat.min_le_left _ _);obtain⟨ad,cap,hpv,B⟩:=MF R r1 gG;have kr: ∀{v:Value} {w':World},(Builtin.copy_ #[t,u] o.type #[a.eval p,a.eval q]).run X.P w= .ok v w'->(execOp a.eval o).run X.P w= .ok (.value v) w':=by
  intro v w' hh;simp[execOp,ho,AD,resolve,invoke,builtin,YR hty,hh]
 have lS:Nat.min xs.length l=min xs.length l:=rfl;have s7:=run_sizeOf T w;by_cases h0:min xs.length l=0
 ·refine⟨.value (.int .i64 ((min xs.length l:Nat):Int)),w,I,σ,_,.int .i64 ((min xs.length l:Nat):Int),?_,.inl rfl,?_,rN _ _ _ _ rfl,by simp[dD]⟩
  ·have xJ:news=[]:=by
    rw[h0]at YT;simpa using YT
   subst xJ;rw[h0]at hfc⊢;apply kr;cases ad with
   |none=>simp[Builtin.copy_,run_underlying hu,hpv,Pt,lS,h0,s7,<-v5.2,hfc,goInt]
   |some ad=>simp[Builtin.copy_,run_underlying hu,hpv,Pt,lS,h0,s7,<-v5.2,hfc,goInt,storeCells]
  ·rw[fm,hX];have:aR S.h id (some {ob with es:=ob.es.take s++xs.take (min xs.length l)++ob.es.drop (s+min xs.length l)})=S.h:=by
    funext i;simp only[aR,h0,List.take_zero,acX,adU,List.take_append_drop];split
    ·rename_i e;subst e;exact gG.symm
    ·rfl
   rw[this];exact Step.refl R _
 ·have hle:=B.le;rcases B.place with hp0|⟨b,of,c,el,mQ,rfl,wM,arq,arp,fX⟩
  ·omega
  ·generalize hm:min xs.length l=m at*;have sE:m<=l:=by omega
   have hI: ¬I b:=(R.owned ⟨id,ob,of,ob.k,gG,mQ⟩).1;have hmul:(s+l)*ob.k<=ob.es.length*ob.k:=abQ _ v5.1;have an0:m*ob.k<=l*ob.k:=abQ _ sE;rw[acE]at hmul;have xK:of+s*ob.k+news.length<=c.size:=by rw[YT];omega
   have E:Ext w I σ (w.setRow b (rW c (of+s*ob.k) news)) I σ:=Ext.setRow hI wM (oF xK);have lh:kQ _ b (rW c (of+s*ob.k) news) el:=wM.set (oF xK);have kH:=wV (P:=X.P) (b:=b) (p:=of+s*ob.k) news 0 c w wM (by omega) fun v hv=>hnr.ara v (by omega);have yi:dN (w.setRow b (rW c (of+s*ob.k) news)) I (mu ob.eU σ) (ob.es.take s++xs.take m++ob.es.drop (s+m)) ob.k b of:=by
    have hA:=fX.Tg 0 s;simp only[aeN,aeK,adU]at hA;obtain⟨ua,a74,a75,a76⟩:=sD hA;have hC:=fX.Tg (s+m) (ob.es.length-(s+m));rw[aZ (by simp)]at hC;obtain⟨uc,a77,a78,a79⟩:=sD hC;have nd:(ob.es.take s).length=s:=by simp;omega
    have P3:(ob.es.drop (s+m)).length=ob.es.length-(s+m):=by simp
    rw[nd]at a74;rw[P3]at a77;have YU:(s+m)*ob.k=s*ob.k+m*ob.k:=acE ..;refine tV (E.qX ob.eU) (us:=ua++news++uc) (fun v hv=> ?_) ?_ (fun j v hv=> ?_)
    ·rcases List.mem_append.1 hv with hv|hv
     ·rcases List.mem_append.1 hv with hv|hv
      ·exact fX.lens v (aaS hv)
      grind
     ·exact fX.lens v (abB hv)
    ·rw[sC,sC];exact(a76.append (fR.ext' _ _ (zB YO) hnr)).append a79
    ·rw[lh.cell,vZ xK];have tI:=(List.getElem?_eq_some_iff.1 hv).1;by_cases hj:j<ua.length
     ·rw[acC,aaW hj]at hv;rw[if_neg (by omega)];have:=a75 j v hv;rwa[wM.cell]at this
     ·by_cases yb:j<(ua++news).length
      ·rw[aaW yb,aaO (by omega)]at hv;rw[aaY]at yb;rw[if_pos (by omega),show of+j-(of+s*ob.k)=j-ua.length by omega];exact hv
      ·rw[aaO (by omega),aaY]at hv;rw[aaY]at yb;rw[if_neg (by omega)];have:=a78 _ v hv;rw[wM.cell]at this;rwa[show of+(s+m)*ob.k+(j-(ua.length+news.length))=of+j by omega]at this
   have YV:(ob.es.take s++xs.take m++ob.es.drop (s+m)).length=ob.es.length:=by simp;omega
   have s1:=R.write (eU:=ob.eU) gG mQ wM (oF xK) (by rw[YV];exact arq) yi S.n;refine⟨.value (.int .i64 ((m:Nat):Int)),w.setRow b (rW c (of+s*ob.k) news),I,σ,_,.int .i64 ((m:Nat):Int),?_,.inl rfl,?_,rN _ _ _ _ rfl,by simp[dD]⟩
   rotate_left
   ·rw[fm,hX];exact s1
   ·apply kr;simp[Builtin.copy_,run_underlying hu,hpv,Pt,lS,s7,<-v5.2,hfc,goInt,kH,rW]
theorem BA: ∀{xs:List V} {s:List UInt8},bytesOf xs=some s-> ∃ns:List Int,xs=ns.map (V.int .u8)/\s=ns.map fun n=>UInt8.ofNat n.toNat
 | [],s,h=>by
  simp only[bytesOf,abM,cF,aA]at h
  simp_all
 |x::xs,s,h=>by
  unfold bytesOf at h;simp only[aaV]at h;cases hx:byteOf x with
  |none=>simp[hx,cF]at h
  |some b=>
   simp only[hx,cF]at h;split at h
   case h_2=>cases h
   rename_i l hl;simp only[aA]at h;subst h;obtain⟨ns,rfl,rfl⟩:=BA (xs:=xs) hl;unfold byteOf at hx;split at hx
   ·rename_i n;simp only[aA]at hx;subst hx;exact⟨n::ns,rfl,rfl⟩
   grind
theorem Cy: ∀ns:List Int,flat (ns.map (V.int .u8))=ns.map (V.int .u8)
 | []=>rfl
 |n::ns=>by
  have:=Cy ns;simp only[flat,aaV,List.flatMap_cons,V.cells]at this⊢
  grind
theorem foldl_push(ns:List Int): ∀s:ByteArray,(ns.foldl (fun r n=>r.push (UInt8.ofNat n.toNat)) s).data.toList=s.data.toList++ns.map fun n=>UInt8.ofNat n.toNat:=by
 induction ns with
 |nil=>grind
 |cons n ns ih=>simp_all
theorem U5 {P:Program} {h:bh} (R:Rel w I σ h) {x:V} {u:Value} {xs:List V}  {s:List UInt8} (hr:dD w I σ x u) (he:elems h x=some (xs,kx)) (Iu:x.isStr=false) (hb:bytesOf xs=some s)
  {src dst e:TypeId} (hs:P.underlying src=some (.slice e)) (hue:P.underlying e=some (.int .u8)) (hd:P.underlying dst=some .string): ∃y:ByteArray,(convert src dst u).run P w= .ok (.string y) w/\y.data.toList=s:=by
 obtain⟨ns,rfl,rfl⟩:=BA hb;have hl: ∀e∈ns.map (V.int .u8),e.cells.length=1:=by
  intro e he;obtain⟨n,_,rfl⟩:=List.mem_map.1 he;rfl
 obtain⟨h1,news,h2,h3,h4⟩:=Jn (P:=P) R hr he Iu hl ns.length (by simp);rw[aZ (by simp),Cy]at h4;have xJ:news=ns.map (Value.int .u8):=by
  rw[dO]at h4;refine abF fun j=> ?_;by_cases hj:j<ns.length
  ·have BB:j<news.length:=by omega
   have:=(h4.2 j (V.int .u8 ns[j]) news[j] (by grind) (aaJ BB)).2;rw[aaJ BB,this];grind
  ·grind
 subst xJ;have hu: ∃ad cap,u= .slice ad ns.length cap:=by
  cases x with
  |sl c es=>
   obtain⟨rfl,_⟩:=he;obtain⟨ad,cap,rfl,_⟩:=hr
   grind
  |cx id st l=>
   obtain⟨ad,cap,rfl,_⟩:=hr;have:=h1 w;simp[Builtin.lenOf]at this
   grind
  |str s=>cases Iu
  |_=>simp[elems]at he
 obtain⟨ad,cap,rfl⟩:=hu;rw[run_convert_bytes_string w src dst e ad _ cap hs hue hd];cases ad with
 |none=>
  have:ns=[]:=by
   simp[Builtin.firstCells]at h3;exact h3
  subst this;exact⟨.empty,by simp[Conv.bytesToString],rfl⟩
 |some a=>
  refine⟨_,run_bytesToString w a _ cap ns ?_,?_⟩
  ·simpa[Builtin.firstCells] using h3
  ·rw[foldl_push];rfl
theorem U6 {s d:TypeId} {x:Operand} {es:List V}  {bs:List UInt8} (ho:o.op= .convert s d x) {e:TypeId} (hs:X.P.underlying s=some (.slice e)) (hue:X.P.underlying e=some (.int .u8)) (hd:X.P.underlying d=some .string)
  (R:Rel w I σ S.h) (F:jw w I σ S.f a) (hx:nP o) (he:elems S.h (S.ev x)=some (es,kx)) (Iu:(S.ev x).isStr=false) (hb:bytesOf es=some bs) (qQ:S1=S.set o.dst (.str bs)):Out X o a w I σ S S1:=by
 have h1:dD w I σ (S.ev x) (a.eval x):=fj (S:=S) F (hx x (by simp[ho,Op.operands]));obtain⟨y,hy,rfl⟩:=U5 R h1 he Iu hb hs hue hd;exact Out.pure (u:= .string y) R (by simp[execOp,ho,hy]) (by exact⟨y,rfl,rfl⟩) qQ
theorem new_at {h:bh} (R:Rel w I σ h) {w2:World} {n k:Nat} {es:List V}  {us:List Value} {c:Array Value} {el:TypeId} (hz:w2.heap.size=w.heap.size+1) (hold: ∀b,b<w.heap.size->w2.heap[b]?=w.heap[b]?)
  (hat:kQ w2 w.heap.size c el) (h1:w2.os=w.os) (h2:w2.tape=w.tape) (h3:w2.output=w.output) (hn:h n=none) (hs:σ n=none)
  (hk: ∀e∈es,e.cells.length=k) (hr:fR w I (mu eU σ) (flat es) us) (hc: ∀(j:Nat) u,us[j]?=some u->c[j]?=some u):
  Step w I σ h n w2 I (aR σ n (some (w.heap.size,0,k))) (aR h n (some ⟨k,es,eU⟩)) (n+1):=by
 have hlen:us.length=es.length*k:=by rw[<-((dO _ _).1 hr).1,oX hk]
 have hle:es.length*k<=c.size:=by
  by_cases h0:us.length=0
  ·omega
  ·have ayd:us[us.length-1]?=some (us[us.length-1]'(by omega)):=by simp
   grind
 have E0:Ext w I σ w2 I σ:=
  ⟨fun b hb=>hold b (R.eu b hb),fun b c el fz h=>⟨c,fz,by grind,rfl⟩,fun _ h=>h,fun _ _ h=>h⟩
 have E:Ext w I σ w2 I (aR σ n (some (w.heap.size,0,k))):=E0.trans (Ext.UL hs);have R0:Rel w2 I σ h:=R.eU E0 (fun b hb=>by have:=R.eu b hb;omega) (fun b hb=>by
  obtain⟨hi,c,el,hh⟩:=R.owned hb;exact⟨hold b hh.lt,hi⟩) (fun _ _=>rfl)
 have hnI: ¬I w.heap.size:=fun hi=>by have:=R.eu _ hi;omega
 have hnO: ¬jk σ h w.heap.size:=fun ho=>by
  obtain⟨_,c',PR,hh⟩:=R.owned ho;have:=hh.lt;omega
 have fX:dN w2 I (mu eU (aR σ n (some (w.heap.size,0,k)))) es k w.heap.size 0:=tV (E.qX eU) hk hr fun j u hu=>by
  rw[hat.cell]
  grind
 have R1:=R0.YB (n:=n) (b:=w.heap.size) (o:=0) (k:=k) (es:=es) (eU:=eU) hn hs hat hnI hnO (by omega) fX;refine⟨E,R1,h1,h2,h3,by omega,fun b hb _=>hold b hb,fun b hb=> ?_,fun _ hb=> .inl hb,by omega,fun id fa=>by grind [aR],fun id fa Mq=>by grind [aR]⟩;obtain⟨id,ob,o,k',h1,h2⟩:=hb;by_cases e:id=n
 ·grind [aR]
 ·right;exact⟨id,ob,o,k',by grind [aR],by grind [aR]⟩
theorem MH {s d:TypeId} {x:Operand} {bs:List UInt8} (ho:o.op= .convert s d x) (Fm:(X.P.underlying s).isSome=true) (hd:X.P.underlying d=some (.slice (X.ti d).elem)) (T:mh X.P (X.ti d).elem (X.ti (X.ti d).elem))
  (hk:(X.ti (X.ti d).elem).kind=some .u8) (R:Rel w I σ S.h) (F:jw w I σ S.f a) (hx:nP o) (hn:S.h S.n=none) (vk:σ S.n=none) (he:S.ev x= .str bs) (hl:bs.length<=2^62)
  (hs:S1=(S.new ⟨1,bs.map fun c=> .int .u8 c.toNat,false⟩).set o.dst (.cx S.n 0 bs.length)):Out X o a w I σ S S1:=by
 subst hs;have h1:dD w I σ (S.ev x) (a.eval x):=fj (S:=S) F (hx x (by simp[ho,Op.operands]));rw[he]at h1;obtain⟨y,hu,rfl⟩:=h1;obtain⟨ds,hds⟩:=Option.isSome_iff_exists.1 Fm;obtain⟨e,hue,hb⟩:=T.und;have hde:e= .int .u8:=by
  cases e<;>simp_all [Af]
 subst hde;have kr:=Lib.run_convert_string_bytes (P:=X.P) w s d (X.ti d).elem y hds hd hue;have hy:y.data.toList.length=y.size:=by rw[abZ];rfl
 have hold: ∀b,b<w.heap.size->(Lib.bytesWorld w (X.ti d).elem y).heap[b]?=w.heap[b]?:=fun b hb=>Lib.bytesWorld_at_old w _ y b hb;have Fi:=Lib.bytesWorld_at_new w (X.ti d).elem y;have hat:kQ (Lib.bytesWorld w (X.ti d).elem y) w.heap.size (Lib.bytesCells w (X.ti d).elem y) (X.ti d).elem:=⟨_,Fi,.inr (aaI _)⟩;have wW:flat (y.data.toList.map fun c=>V.int .u8 c.toNat)=y.data.toList.map fun c=>V.int .u8 c.toNat:=by
  have:=Cy (y.data.toList.map fun c=>(c.toNat:Int));simpa[adB,Function.comp_def] using this
 have jV: ∀e∈ (y.data.toList.map fun c=>V.int .u8 c.toNat),e.cells.length=1:=by
  intro e he;obtain⟨n,_,rfl⟩:=List.mem_map.1 he;rfl
 have mK:fR w I (mu false σ) (flat (y.data.toList.map fun c=>V.int .u8 c.toNat)) (y.data.toList.map fun c=>Value.int .u8 c.toNat):=by
  rw[wW,dO];refine⟨by simp,fun j c u hc hu=> ?_⟩;simp only[abG,Option.map_eq_some_iff]at hc hu;obtain⟨b,hb,rfl⟩:=hc;obtain⟨b',wT,rfl⟩:=hu;rw[hb]at wT;cases wT;exact⟨rfl,by simp[dD]⟩
 have FD: ∀(j:Nat) u,(y.data.toList.map fun c=>Value.int .u8 c.toNat)[j]?=some u->(Lib.bytesCells w (X.ti d).elem y)[j]?=some u:=by
  intro j u hu;have hj:=(List.getElem?_eq_some_iff.1 hu).1;simp only[abJ,hy]at hj;rw[<-hu];unfold Lib.bytesCells;rw[Array.getElem?_append_left (by grind)];simp
 refine⟨_,Lib.bytesWorld w (X.ti d).elem y,I,aR σ S.n (some (w.heap.size,0,1)),.slice (some ⟨w.heap.size,0,none⟩) y.size (grownCap w y.size 0 (X.ti d).elem),.cx S.n 0 y.data.toList.length,by simp[execOp,ho,hu,kr],.inl rfl,?_,rN _ _ _ _ rfl,?_⟩
 ·rw[fm,hX];exact new_at R (Lib.bytesWorld_size w _ y) hold hat rfl rfl rfl hn vk jV mK FD
 ·refine⟨_,_,by rw[hy],by exact grownCap_ge w _ 0 _,grownCap_le_maxLen w _ 0 _ (by simp only[maxLen];omega),.inr ⟨w.heap.size,0,1,_,_,_,by simp[aR],by simp,Fi,?_⟩⟩;have s7:y.data.size=y.size:=rfl;unfold Lib.bytesCells
  grind
end
section
variable {X:Env} {o:Oper} {a:Act} {w:World} {I:Nat->Prop} {σ:ju} {S S1:St}
theorem lU{t:TypeId}(h:tB X t=true):mh X.P t (X.ti t):=a7n h
theorem Iv {t:TypeId} {x:Operand} (ho:o.op= .slice t x none none none) (R:Rel w I σ S.h) (F:jw w I σ S.f a) (hx:nP o)
  {m:Nat} (hu:X.P.underlying t=some (.array m (X.ti t).elem)) (T:mh X.P (X.ti t).elem (X.ti (X.ti t).elem)) {id:Nat}  {e:V} (he:S.ev x= .ptr id 0 0) (gG:S.h id=some ob) (Jm:ob.es=[e])
  (a8a:e.cells.all V.oU=true) (hlen:e.cells.length=m) (s7:(X.ti (X.ti t).elem).size=1) (hm:0<m) (v8:m<=1000) (hs:S1=({S with h:=aR S.h id none}:St).set o.dst (.sl true e.cells)):Out X o a w I σ S S1:=by
 have h1:dD w I σ (S.ev x) (a.eval x):=fj (S:=S) F (hx x (by simp[ho,Op.operands]));rw[he]at h1;obtain⟨b,of,k,mQ,hv⟩:=h1;rcases R.obj id ob gG with⟨hn,_⟩|⟨b',o',c,el,oG,hi,hh,hle,hr⟩
 ·grind
 rw[oG]at mQ;simp only[aA,bM]at mQ;rw[Jm,kP]at hr;obtain⟨hk,hc,_⟩:=hr;have AB: ∀i y,aR S.h id none i=some y->S.h i=some y:=fun i y hi=>by grind [aR]
 have st:=Je R AB S.n;have ayj:aim I σ S.h (aR S.h id none) b':= .inr ⟨⟨id,ob,o',ob.k,gG,oG⟩,R.KG gG oG⟩;subst hs;have kr:(execOp a.eval o).run X.P w= .ok (.value (.slice (some ⟨b',o',none⟩) m m)) w:=by
  simp[execOp,ho,hv,Instr.sliceAt,run_underlying hu,Instr.sliceBounds,Instr.sureAddr,run_sizeOf T,s7,qu]
 refine⟨_,w,aim I σ S.h (aR S.h id none),σ,_,.sl true e.cells,kr,.inl rfl,?_,rN _ _ _ _ rfl,?_⟩
 ·rw[fm,hX];omega
 ·refine⟨_,_,by grind,by omega,by simp only[maxLen];omega,fun _=>hlen.symm,.inr ⟨b',o',1,rfl,ayj,?_⟩⟩;rw[lQ];intro i v hi;have hv0:v.oU=true:=List.all_eq_true.1 a8a v (aaT hi);have pS:v.cells=[v]:=by
   cases v<;>first|rfl|(simp[V.oU]at hv0)
  refine⟨by grind,?_⟩;rw[pS];intro j y hj;cases j with
  |succ j=>grind
  |zero=>
   simp only[adR,aA]at hj;subst hj;obtain⟨u,g1,g2,g3⟩:=hc i v hi;refine⟨u,by grind,g2,?_⟩;have g4:dD w I fv v u:=tU (σ:=mu ob.eU σ) hv0 g3;exact g4.ext st.ext.Kz
theorem art{nt:Nat}(hB:UR X nt o=true)(R:Rel w I σ S.h)(F:jw w I σ S.f a)(hn:S.h S.n=none)(vk:σ S.n=none)(bZ:FuncId)(he:aih X bZ o S=some S1):Out X o a w I σ S S1:=by
 unfold aih at he;split at he
 case h_2=>grind
 rename_i v0 X2 nn0 Jl;have qQ:S1=({S with h:=X2,n:=nn0}:St).set o.dst v0:=by simpa using he.symm
 have he:=Jl;unfold UR at hB;rw[aaF,aaF]at hB;obtain⟨⟨_,hx⟩,hB⟩:=hB;have hx:nP o:=fun x hm=>List.all_eq_true.1 hx x hm;cases jK:o.op with
 |move x=>
  simp only[cI,jK,aA,bM]at he;obtain⟨rfl,rfl,rfl⟩:=he;exact Mt (.inl jK) R F hx qQ
 |assign x=>
  simp only[cI,jK,aA,bM]at he;obtain⟨rfl,rfl,rfl⟩:=he;exact Mt (.inr jK) R F hx qQ
 |pick c p q=>
  simp only[cI,jK]at he;split at he
  ·rename_i t hc;obtain⟨rfl,rfl,rfl⟩:=he;exact YF jK R F hx hc qQ
  grind
 |alloc t=>
  simp only[cI,jK,aA,bM]at he;obtain⟨rfl,rfl,rfl⟩:=he;simp only[jK]at hB;exact US jK (lU hB) R hn vk qQ
 |box t x=>
  simp only[cI,jK]at he;split at he
  ·rename_i hf;obtain⟨rfl,rfl,rfl⟩:=he;exact ail jK R F hx hn vk hf qQ
  grind
 |build t ps=>
  simp only[cI,jK]at he;simp only[jK,aaF,acm,beq_iff_eq]at hB;have T:=lU hB.1;have hTe:(X.ti t).arr=none\/mh X.P (X.ti t).elem (X.ti (X.ti t).elem):=hB.2.imp_right lU;split at he
  ·rename_i ha;split at he
   ·grind
   ·rename_i hf0;split at he
    ·rename_i cs hf;obtain⟨rfl,rfl,rfl⟩:=he;exact Jj jK T hTe R F hx (.inl ⟨ha,hf,hf0⟩) qQ
    grind
  ·rename_i m ha;split at he
   ·rename_i cs hf;obtain⟨rfl,rfl,rfl⟩:=he;exact Jj jK T hTe R F hx (.inr ⟨m,ha,hf⟩) qQ
   grind
 |buildSlice t n ps=>
  simp only[cI,jK]at he;simp only[jK,aaF,decide_eq_true_eq]at hB;obtain⟨⟨h1,h2⟩,h3⟩:=hB;split at he
  ·split at he
   ·rename_i es hf;obtain⟨rfl,rfl,rfl⟩:=he;exact zZ jK (lI h1) (lU h2) h3 R F hx hn vk hf qQ
   grind
  ·split at he
   ·split at he
    case h_2=>grind
    rename_i l h hg;split at he
    case h_2=>grind
    rename_i es hf;obtain⟨rfl,rfl,rfl⟩:=he;exact tX (th:=false) jK (lI h1) (lU h2) h3 R F hx hn vk (Fz hg) hf (by grind)
   split at he
   ·rename_i l h hg;split at he
    ·rename_i es hf;split at he
     ·obtain⟨rfl,rfl,rfl⟩:=he;exact tX (th:=true) jK (lI h1) (lU h2) h3 R F hx hn vk hg hf (by exact qQ)
     ·obtain⟨rfl,rfl,rfl⟩:=he;exact tX (th:=false) jK (lI h1) (lU h2) h3 R F hx hn vk hg hf (by grind)
    grind
   grind
 |load t x=>
  simp only[cI,jK]at he;simp only[jK]at hB;split at he
  ·rename_i id i f hp;split at he
   ·rename_i ob gG;split at he
    ·rename_i e hi;split at he
     ·rename_i v hv;obtain⟨rfl,rfl,rfl⟩:=he;exact KD jK (lU hB) R F hx hp gG hi hv qQ
     grind
    grind
   grind
  ·rename_i cs hp;split at he
   ·rename_i v hv;obtain⟨rfl,rfl,rfl⟩:=he;exact KE jK (lU hB) R F hx hp hv qQ
   grind
  grind
 |store t x y=>
  simp only[cI,jK]at he;simp only[jK,aaF,beq_iff_eq]at hB;split at he
  ·rename_i id i f hp;split at he
   ·rename_i H5 h0;split at he
    ·rename_i v h hg;split at he
     ·rename_i ob gG;split at he
      ·rename_i e hi;split at he
       ·rename_i hf;obtain⟨rfl,rfl,rfl⟩:=he;exact UU jK (lU hB.1) R F hx hp h0 hg gG hi hf hB.2 (by rw[qQ,hB.2];rfl)
       grind
      grind
     grind
    grind
   grind
  grind
 |nilCheck x=>
  simp only[cI,jK]at he;split at he
  ·rename_i id i f hp;obtain⟨rfl,rfl,rfl⟩:=he;exact wX jK R F hx (.inl ⟨id,i,f,hp⟩) (by simp_all)
  ·rename_i cs hp;obtain⟨rfl,rfl,rfl⟩:=he;exact wX jK R F hx (.inr (.inl ⟨cs,hp⟩)) (by simp_all)
  ·rename_i g p q hp;obtain⟨rfl,rfl,rfl⟩:=he;exact wX jK R F hx (.inr (.inr ⟨g,p,q,hp⟩)) (by simp_all)
  grind
 |binOp op t x y ty=>
  simp only[cI,jK]at he;simp only[jK]at hB;split at he
  ·rename_i v hv;obtain⟨rfl,rfl,rfl⟩:=he;refine UW jK (fun h=> ?_) R F hx hv qQ
   grind
  ·cases he
 |unOp op t x=>
  simp only[cI,jK]at he;split at he
  ·rename_i v hv;simp only[aA,bM]at he;obtain⟨rfl,rfl,rfl⟩:=he;exact YI jK R F hx hv qQ
  ·cases he
 |convert s d x=>
  simp only[cI,jK]at he;simp only[jK,aaF]at hB;split at he
  ·rename_i k k' n hk hv;simp only[aA,bM]at he;obtain⟨rfl,rfl,rfl⟩:=he;exact Mw jK (lU hB.1.1.1) hB.1.1.2 R F hx hk hv qQ
  ·rename_i v hk hv;split at he
   case isFalse=>
    obtain⟨PX,Bn,s1,hv1,hl,rfl,rfl,rfl⟩:=tO he;have hB3:=hB.2;have hk0:(X.ti d).kind=none:=by assumption
    simp only[PX,Bn,hk0,beq_self_eq_true,aeB,Bool.or_false,aeO,Option.isSome_none,aaF]at hB3;exact MH jK hB.1.1.2 (lI hB3.1) (lU hB3.2) Bn R F hx hn vk hv1 hl qQ
   rename_i kH;split at he
   case h_2=>cases he
   rename_i es kx tw;split at he
   case h_2=>cases he
   rename_i bs XZ;simp only[aA,bM]at he;obtain⟨rfl,rfl,rfl⟩:=he;have L0:=hB.1.2;simp only[kH.1,aeB,aeO,aaF]at L0;have hd:X.P.underlying d=some .string:=by
    have:=L0.1;split at this
    ·assumption
    ·cases this
   obtain⟨e,hse,hue⟩: ∃e,X.P.underlying s=some (.slice e)/\X.P.underlying e=some (.int .u8):=by
    have:=L0.2;split at this
    ·rename_i e h1;split at this
     ·rename_i h2;exact⟨e,h1,h2⟩
     ·cases this
    ·cases this
   exact U6 jK hse hue hd R F hx tw kH.2 XZ qQ
  ·cases he
 |makeFunc c p q=>
  cases c with
  |func g=>
   simp only[cI,jK,aA,bM]at he;obtain⟨rfl,rfl,rfl⟩:=he;exact KH jK R F hx qQ
  |_=>simp[cI,jK]at he
 |makeSlice t l c=>
  simp only[cI,jK]at he;simp only[jK,aaF]at hB;split at he
  ·rename_i n m hl hc;split at he
   ·rename_i hb;simp only[aA,bM]at he;obtain⟨rfl,rfl,rfl⟩:=he;exact Iq jK (lI hB.1) (lU hB.2) R F hx hn vk hl hc hb qQ
   ·cases he
  ·cases he
 |slice t x lo hi mx=>
  simp only[cI,jK]at he;simp only[jK]at hB;split at he
  case isFalse=>cases he
  rename_i wY;split at he
  ·
   rename_i c es hv;have Iu:(X.ti t).isStr=false:=by rw[<-wY.1,hv];rfl
   have hu:X.P.underlying t=some (.slice (X.ti t).elem)/\tB X (X.ti t).elem=true:=by
    split at hB
    ·rename_i e hu;simp only[aaF,beq_iff_eq]at hB;obtain⟨⟨⟨_,rfl⟩,h3⟩,_⟩:=hB;exact⟨hu,h3⟩
    ·rw[Iu]at hB;simp at hB
    ·have:=wY.2;rw[hv]at this;simp only[V.Br]at this;simp at hB;simp_all
    ·cases hB
   split at he
   case isFalse=>cases he
   rename_i jV;cases mx with
   |none=>
    simp only at he;split at he
    ·rename_i l h hb;simp only[aA,bM]at he;obtain⟨rfl,rfl,rfl⟩:=he;exact KJ jK R F hx hu.1 (lU hu.2) hv jV hb qQ
    ·cases he
   |some m=>
    simp only at he;split at he
    ·rename_i k1 p k2 q hm hh;split at he
     ·rename_i P4;subst P4;split at he
      ·rename_i l h hb;simp only[aA,bM]at he;obtain⟨rfl,rfl,rfl⟩:=he;exact Im jK R F hx hu.1 (lU hu.2) hv jV hm hh hb qQ
      ·cases he
     ·cases he
    ·cases he
  ·rename_i id s n hv;have Iu:(X.ti t).isStr=false:=by rw[<-wY.1,hv];rfl
   have hu:X.P.underlying t=some (.slice (X.ti t).elem)/\tB X (X.ti t).elem=true:=by
    split at hB
    ·rename_i e hu;simp only[aaF,beq_iff_eq]at hB;obtain⟨⟨⟨_,rfl⟩,h3⟩,_⟩:=hB;exact⟨hu,h3⟩
    ·rw[Iu]at hB;simp at hB
    ·have:=wY.2;rw[hv]at this;simp only[V.Br]at this;simp at hB;simp_all
    ·cases hB
   split at he
   ·rename_i ob gG;split at he
    case isFalse=>cases he
    rename_i hk;split at he
    ·rename_i l h hb;simp only[aA,bM]at he;obtain⟨rfl,rfl,rfl⟩:=he;exact Io jK R F hx hu.1 (lU hu.2) hv gG hk hb qQ
    ·cases he
   ·rename_i m ob gG;split at he
    case isFalse=>cases he
    rename_i hk;split at he
    ·rename_i k1 p k2 q hm hh;split at he
     ·rename_i P4;subst P4;split at he
      ·rename_i l h hb;simp only[aA,bM]at he;obtain⟨rfl,rfl,rfl⟩:=he;exact Ft jK R F hx hu.1 (lU hu.2) hv gG hk hm hh hb qQ
      ·cases he
     ·cases he
    ·cases he
   ·cases he
  ·rename_i s hv;have Iu:(X.ti t).isStr=true:=by rw[<-wY.1,hv];rfl
   have hu:X.P.underlying t=some .string:=by
    split at hB
    ·rename_i e hu;rw[Iu]at hB;simp at hB
    ·rename_i hu;exact hu
    ·rw[Iu]at hB;simp at hB
    ·cases hB
   cases mx with
   |none=>
    simp only at he;split at he
    ·rename_i l h hb;simp only[aA,bM]at he;obtain⟨rfl,rfl,rfl⟩:=he;exact Ip jK R F hx hu hv hb qQ
    ·cases he
   |some m=>cases he
  ·rename_i id hv;split at he
   case h_2=>cases he
   rename_i m ob ham gG;split at he
   case h_2=>cases he
   rename_i e Jm;split at he
   case isFalse=>cases he
   rename_i hc;simp only[aA,bM]at he;obtain⟨rfl,rfl,rfl⟩:=he;have Iu:(X.ti t).isStr=false:=by rw[<-wY.1,hv];rfl
   have hu:X.P.underlying t=some (.array m (X.ti t).elem)/\tB X (X.ti t).elem=true/\m<=1000:=by
    split at hB
    ·simp only[aaF,beq_iff_eq]at hB;rw[ham]at hB;simp at hB
    ·rw[Iu]at hB;simp at hB
    ·rename_i n e' hu;simp only[aaF,beq_iff_eq,decide_eq_true_eq]at hB;obtain⟨⟨⟨⟨_,h2⟩,h3⟩,h4⟩,h5⟩:=hB;rw[ham]at h2;simp only[aA]at h2;subst h2;subst h3;exact⟨hu,h4,h5⟩
    ·cases hB
   exact Iv jK R F hx hu.1 (lU hu.2.1) hv gG Jm hc.1 hc.2.1 hc.2.2.1 hc.2.2.2 hu.2.2 qQ
  ·cases he
 |fieldAddr t x i=>
  simp only[cI,jK]at he;simp only[jK]at hB;split at he
  ·rename_i off k hf;split at he
   ·rename_i id j f hv;simp only[aA,bM]at he;obtain⟨rfl,rfl,rfl⟩:=he;exact Ag jK (lU hB) R F hx hf (.inl ⟨id,j,f,hv,rfl⟩) qQ
   ·rename_i cs hv;simp only[aA,bM]at he;obtain⟨rfl,rfl,rfl⟩:=he;exact Ag jK (lU hB) R F hx hf (.inr ⟨cs,hv,rfl⟩) qQ
   ·cases he
  ·cases he
 |indexAddr t x ix=>
  simp only[cI,jK]at he;simp only[jK,aaF,acm,beq_iff_eq,bne_iff_ne]at hB;split at he
  ·rename_i k n hi;split at he
   ·rename_i c es hv;split at he
    ·rename_i h0;split at he
     ·rename_i e hg;split at he
      ·rename_i hk;simp only[aA,bM]at he;obtain⟨rfl,rfl,rfl⟩:=he;rcases hB.1 with hb|hb
       ·exact KI jK (lI hb.2) (lU hB.2) R F hx hv hi h0.1 hg hk qQ
       ·exact absurd h0.2 hb.2
      ·cases he
     ·cases he
    ·cases he
   ·rename_i id s l hv;split at he
    ·rename_i h0;split at he
     ·rename_i ob hg;split at he
      ·rename_i hk;simp only[aA,bM]at he;obtain⟨rfl,rfl,rfl⟩:=he;rcases hB.1 with hb|hb
       ·exact Ii jK (lI hb.2) (lU hB.2) R F hx hv hi h0.1 hg hk qQ
       ·exact absurd h0.2 hb.2
      ·cases he
     ·cases he
    ·cases he
   ·rename_i id j f hv;split at he
    ·rename_i m hm;split at he
     ·rename_i h0;simp only[aA,bM]at he;obtain⟨rfl,rfl,rfl⟩:=he;rcases hB.1 with hb|hb
      ·rw[hm]at hb;exact absurd hb.1 (by simp)
      ·exact Ij jK (lU hb.1) (lU hB.2) R F hx hv hi hm h0 qQ
     ·cases he
    ·cases he
   ·cases he
  ·cases he
 |index t x ix=>
  simp only[cI,jK]at he;simp only[jK,aaF,acm,beq_iff_eq,bne_iff_ne]at hB;obtain⟨⟨h1,h2⟩,h3⟩:=hB;split at he
  ·rename_i k n hi;split at he
   ·rename_i s hv;split at he
    ·rename_i h0;split at he
     ·rename_i b hg;simp only[aA,bM]at he;obtain⟨rfl,rfl,rfl⟩:=he;have hu:X.P.underlying t=some .string:=by
       rcases h3 with h3|h3
       ·exact absurd h0.2 h3
       ·split at h3
        ·assumption
        ·cases h3
      exact Il jK hu R F hx hv hi h0.1 hg qQ
     ·cases he
    ·cases he
   ·rename_i cs hv;split at he
    ·rename_i m hm;split at he
     ·rename_i h0;split at he
      ·rename_i v hvv;simp only[aA,bM]at he;obtain⟨rfl,rfl,rfl⟩:=he;have hTe:tB X (X.ti t).elem=true:=by
        rcases h2 with h2|h2
        ·rw[hm]at h2;cases h2
        ·exact h2
       exact Ik jK (lU h1) (lU hTe) R F hx hv hi hm h0 hvv qQ
      ·cases he
     ·cases he
    ·cases he
   ·cases he
  ·cases he
 |field t x f=>
  simp only[cI,jK]at he;simp only[jK,aaF]at hB;obtain⟨hT,hB⟩:=hB;split at he
  ·rename_i cs hv;split at he
   ·rename_i k z hk;split at he
    ·rename_i v hp;simp only[aA,bM]at he;obtain⟨rfl,rfl,rfl⟩:=he;split at hB
     ·rename_i fs hu;split at hB
      ·rename_i fd k' z' hf qT;rw[hk]at qT;simp only[aA,bM]at qT;simp only[aaF,beq_iff_eq]at hB;obtain⟨e1,e2⟩:=hB;exact UY jK hu hf (by rw[e1];exact lU hT) R F hx hv (by rw[e1,e2,<-qT.1];exact hp) qQ
      ·cases hB
     ·cases hB
    ·cases he
   ·cases he
  ·cases he
 |extract x i=>
  simp only[cI,jK]at he;split at he
  ·rename_i vs hv;split at he
   ·rename_i v hi;simp only[aA,bM]at he;obtain⟨rfl,rfl,rfl⟩:=he;exact Mx jK R F hx hv hi qQ
   ·cases he
  ·cases he
 |call c=>
  obtain⟨U7,args,mH⟩:=c;cases U7 with
  |builtin b=>
   cases b with
   |len=>
    simp only[cI,jK]at he;simp only[jK,aaF]at hB;split at he
    ·rename_i x jL;cases wN:args.toList with
     |nil=>simp[wN]at jL
     |cons p q=>
     cases q with
     |cons _ _=>simp[wN]at jL
     |nil=>
     simp only[wN,aaV,abM,acA,and_true]at jL;subst jL;cases nd:mH.toList with
     |nil=>simp[nd]at hB
     |cons t r=>
     have Pu:mH[0]?=some t:=by rw[<-Array.getElem?_toList,nd];rfl
     have htd:mH.getD 0 0=t:=by simp[abH,Pu]
     rw[htd]at he;split at he
     ·rename_i kH;split at he
      ·rename_i n hl;simp only[aA,bM]at he;obtain⟨rfl,rfl,rfl⟩:=he;refine aip jK wN Pu ?_ R F hx kH hl qQ;have L0:=hB.2;simp only[nd]at L0;split at L0
       ·rename_i e hu;exact .inl ⟨⟨e,hu⟩,by simpa using L0⟩
       ·rename_i hu;exact .inr ⟨hu,L0⟩
       ·cases L0
      ·cases he
     ·cases he
    ·cases he
   |min=>
    simp only[cI,jK]at he;split at he
    ·rename_i k p k' q jL;split at he
     ·rename_i hk;subst hk;simp only[aA,bM]at he;obtain⟨rfl,rfl,rfl⟩:=he;cases wN:args.toList with
      |nil=>simp[wN]at jL
      |cons p q=>
      cases q with
      |nil=>simp[wN]at jL
      |cons q q2=>
      cases q2 with
      |cons _ _=>simp[wN]at jL
      |nil=>
      simp only[wN,aaV,abM,acA,and_true]at jL;exact Tm false jK wN R F hx jL.1 jL.2 (by simpa using qQ)
     ·cases he
    ·cases he
   |max=>
    simp only[cI,jK]at he;split at he
    ·rename_i k p k' q jL;split at he
     ·rename_i hk;subst hk;simp only[aA,bM]at he;obtain⟨rfl,rfl,rfl⟩:=he;cases wN:args.toList with
      |nil=>simp[wN]at jL
      |cons p q=>
      cases q with
      |nil=>simp[wN]at jL
      |cons q q2=>
      cases q2 with
      |cons _ _=>simp[wN]at jL
      |nil=>
      simp only[wN,aaV,abM,acA,and_true]at jL;exact Tm true jK wN R F hx jL.1 jL.2 (by simpa using qQ)
     ·cases he
    ·cases he
   |append=>
    simp only[jK,aaF]at hB;cases nd:mH.toList with
    |nil=>simp[nd]at hB
    |cons t r=>
    cases r with
    |nil=>simp[nd]at hB
    |cons u r=>
    have L0:=hB.2;simp only[nd,aaF]at L0;refine P2 jK nd (lI L0.1.1) (lU L0.1.2) ?_ R F hx hn vk bZ Jl qQ;have h3:=L0.2;split at h3
    ·rename_i e hu;exact .inl (.inl ⟨e,hu⟩)
    ·rename_i hu;exact .inl (.inr hu)
    ·exact .inr h3
   |copy=>
    simp only[jK,aaF]at hB;cases nd:mH.toList with
    |nil=>simp[nd]at hB
    |cons t r=>
    cases r with
    |nil=>simp[nd]at hB
    |cons u r=>
    have L0:=hB.2;simp only[nd,aaF]at L0;exact YS jK nd (lI L0.1.1) (lU L0.1.2) R F hx bZ Jl qQ
   |_=>simp[cI,jK]at he
  |_=>simp[cI,jK]at he
 |_=>simp[cI,jK]at he
end
def lJ{α β:Type}(f:α->Option β): ∀{l:List α} {r:List β},cF (l.map f)=some r->l.length=r.length/\ ∀(j:Nat) x y,l[j]?=some x->r[j]?=some y->f x=some y
 | [],r,h=>by
  simp only[abM,cF,aA]at h
  grind
 |x::l,r,h=>by
  simp only[aaV]at h;cases hx:f x with
  |none=>simp[cF,hx]at h
  |some y=>
   simp only[cF,hx]at h;split at h
   ·rename_i l' hl;simp only[aA]at h;subst h;obtain⟨h1,h2⟩:=lJ f hl
    grind
   grind
section
variable {w:World} {I J:Nat->Prop} {σ:ju} {h:bh}
theorem rY{d:Nat}{cs:List V}{v':V}(ht:cy h (d+1) (.agg cs)=some v'): ∃l,v'= .agg l/\cF (cs.map (cy h d))=some l:=by
 simp only[cy]at ht
 grind
theorem zC{d:Nat}{cs:List V}{v':V}(ht:cy h (d+1) (.dP cs)=some v'): ∃l,v'= .dP l/\cF (cs.map (cy h d))=some l:=by
 simp only[cy]at ht
 grind
theorem zD{d:Nat}{v v':V}(ht:cy h d v=some v')(hv: ∀cs,v≠ .agg cs): ∀cs,v'≠ .agg cs:=by
 intro cs e;subst e;cases v with
 |agg rS=>grind
 |dP rS=>
  cases d with
  |zero=>simp[cy]at ht
  |succ d=>obtain⟨l,h1,_⟩:=zC ht;grind
 |cx id s l=>
  cases d with
  |zero=>simp[cy]at ht
  |succ d=>
   simp only[cy]at ht
   grind
 |fn g a b=>cases a<;>cases b<;>cases d<;>simp[cy]at ht
 |_=>cases d<;>simp[cy]at ht
theorem mC{v:V}(hv: ∀cs,v≠ .agg cs):v.cells=[v]:=by
 cases v with
 |agg cs=>grind
 |_=>rfl
theorem MJ: ∀{d:Nat} {v v':V},cy h d v=some v'->cy h (d+1) v=some v'
 |0,v,v',ht=>by
  cases v with
  |fn g a b=>cases a<;>cases b<;>simp_all [cy]
  |_=>first|(simp[cy]at ht;done)|(simpa[cy] using ht)
 |d+1,v,v',ht=>by
  have key: ∀{cs l:List V},cF (cs.map (cy h d))=some l->cF (cs.map (cy h (d+1)))=some l:=by
   intro cs;induction cs with
   |nil=>grind
   |cons c cs ih=>
    intro l hl;simp only[aaV]at hl⊢;cases hc:cy h d c with
    |none=>simp[hc,cF]at hl
    |some c'=>
     simp only[hc,cF]at hl;split at hl
     ·rename_i l' Ah;simp only[cF,MJ hc,ih Ah];omega
     grind
  cases v with
  |agg cs=>
   obtain⟨l,rfl,hl⟩:=rY ht;rw[cy]
   grind
  |dP cs=>
   obtain⟨l,rfl,hl⟩:=zC ht;rw[cy]
   grind
  |cx id s l=>
   rw[cy]at ht⊢
   grind
  |fn g a b=>cases a<;>cases b<;>simp_all [cy]
  |_=>first|(simp[cy]at ht;done)|(simpa[cy] using ht)
theorem uJ(R:Rel w I σ h)(UT: ∀b,I b->J b)(hJ: ∀b,jk σ h b->J b): ∀(d:Nat) (v v':V) (u:Value),cy h d v=some v'->dD w I σ v u->dD w J fv v' u:=by
 have EJ:Ext w I fv w J fv:=⟨fun _ _=>rfl,fun _ c _ fz hh=>⟨c,fz,hh,rfl⟩,UT,fun _ _ hh=>hh⟩;intro d;induction d with
 |zero=>
  intro v v' u ht hr;have hv:v.oU=true/\v'=v:=by
   cases v with
   |fn g a b=>cases a<;>cases b<;>simp[cy]at ht⊢ <;>simp_all [V.oU]
   |_=>simp[cy]at ht⊢ <;>simp_all [V.oU]
  rw[hv.2];exact(tU hv.1 hr).ext EJ
 |succ d ih=>
  intro v v' u ht hr;by_cases hi:v.oU=true
  ·have hv:v'=v:=by
    cases v with
    |fn g a b=>cases a<;>cases b<;>simp[cy]at ht⊢ <;>simp_all [V.oU]
    |_=>first|(simp[cy]at ht⊢;simp_all [V.oU];done)|(simp[V.oU]at hi)
   rw[hv];exact(tU hi hr).ext EJ
  ·cases v with
   |agg cs=>
    obtain⟨l,rfl,hl⟩:=rY ht;obtain⟨h1,h2⟩:=lJ _ hl;obtain⟨us,rfl,hc⟩:=hr;rw[dO]at hc;refine⟨us,rfl,?_⟩;rw[dO];refine⟨by omega,fun j c' u' Cv hu'=> ?_⟩
    grind
   |dP cs=>
    obtain⟨l,rfl,hl⟩:=zC ht;obtain⟨h1,h2⟩:=lJ _ hl;obtain⟨us,rfl,hc⟩:=hr;rw[mJ]at hc;refine⟨us,rfl,?_⟩;rw[mJ];refine⟨by omega,fun j c' u' Cv hu'=> ?_⟩;have hj:j<cs.length:=by rw[h1];exact(List.getElem?_eq_some_iff.1 Cv).1
    have xX:cs[j]?=some cs[j]:=by simp
    grind
   |cx id s l=>
    simp only[cy]at ht;cases gG:h id with
    |none=>grind
    |some ob=>
    simp only[gG]at ht;split at ht
    case isFalse=>grind
    rename_i rK;have ayl: ∀b o k,σ id=some (b,o,k)->J b:=fun b o k hs=>hJ b ⟨id,ob,o,k,gG,hs⟩;by_cases hk:ob.eU=true
    ·simp only[hk,if_true]at ht;split at ht
     case h_2=>grind
     rename_i Aj hl;simp only[aA]at ht;subst ht;obtain⟨h1,h2⟩:=lJ _ hl;have hlen:((ob.es.drop s).take l).length=l:=by simp;omega
     obtain⟨ad,cap,rfl,B⟩:=MF R hr gG;refine⟨ad,cap,by grind,by rw[<-h1,hlen];exact B.le,B.max,fun hh=>(by grind),?_⟩;rcases B.place with hp|⟨b,o,c,el,hs,had,hb,_,_,fX⟩
     ·left;have:=B.le
      simp_all
     ·right;refine⟨b,o+s*ob.k,ob.k,had,ayl b o ob.k hs,?_⟩;have Ir:=fX.Tg s l;rw[hk]at Ir;rw[lQ]at Ir⊢;intro i e' oy;have Fg:i<((ob.es.drop s).take l).length:=by rw[h1];exact(List.getElem?_eq_some_iff.1 oy).1
      have hie:((ob.es.drop s).take l)[i]?=some ((ob.es.drop s).take l)[i]:=aaJ Fg;have hte:=h2 i _ _ hie oy;obtain⟨pS,yo⟩:=Ir i _ hie;generalize ((ob.es.drop s).take l)[i]=e at hte pS yo;by_cases hag: ∃cs,e= .agg cs
      ·obtain⟨cs,rfl⟩:=hag;cases d with
       |zero=>simp[cy]at hte
       |succ d=>
        obtain⟨rS,rfl,Ah⟩:=rY hte;obtain⟨g1,g2⟩:=lJ _ Ah;refine⟨by simpa[V.cells,<-g1] using pS,fun j c' BB=> ?_⟩;have tI:j<cs.length:=by rw[g1];exact(List.getElem?_eq_some_iff.1 BB).1
        have hjc:cs[j]?=some cs[j]:=by simp
        obtain⟨u,XX,XY,YL⟩:=yo j _ hjc;refine⟨u,XX,XY,?_⟩;have YW:cy h (d+1) cs[j]=some c':=by
         have:=g2 j _ _ hjc BB;exact MJ this
        exact ih _ _ _ YW YL
      ·have kz: ∀cs,e≠ .agg cs:=fun cs hh=>hag ⟨cs,hh⟩;have arw:=zD hte kz;rw[mC kz]at pS yo;rw[mC arw];refine⟨pS,fun j c' BB=> ?_⟩;cases j with
       |zero=>
        simp at BB;subst BB;obtain⟨u,XX,XY,YL⟩:=yo 0 e (by simp);exact⟨u,XX,XY,ih _ _ _ hte YL⟩
       |succ j=>grind
    ·simp only[hk,aaM,if_false,aA]at ht;subst ht;exact Tj R hr gG (by grind) rK UT ayl
   |fn g a b=>cases a<;>cases b<;>simp_all [cy,V.oU]
   |_=>first|(simp[V.oU]at hi;done)|(simp[cy]at ht)
end
end Go.Abs
