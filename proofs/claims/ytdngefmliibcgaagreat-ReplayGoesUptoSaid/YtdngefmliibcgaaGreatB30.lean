import Derived.Test.YtdngefmliibcgaaGreatB29
import Derived.Laws.BytesString
import Derived.Lib.ConvBytes
set_option linter.all false
set_option maxRecDepth 20000
set_option maxHeartbeats 0
namespace Go.Abs
open Go
variable  {k1 k2 eP kp kx:Bool}{ob:Ob}{α:Type}{args:Array Operand}
section
variable {w w':World} {I I':Nat->Prop} {σ σ':jI} {h:bI}
theorem AH(h:k1=true->k2=true):Ext w I (mJ k1 σ) w I (mJ k2 σ):=by
 cases k1
 .cases k2
  .exact .refl _ _ _
  .exact Ext.free
 .rw[h rfl];exact .refl _ _ _
theorem Ext.heap(a:w'.heap=w.heap):Ext w I σ w' I σ:=
 ⟨fun b _=>by rw[a],fun b c el fz h=>⟨c,fz,aj,rfl⟩,fun _ h=>h,fun _ _ h=>h⟩
theorem Step.drew(R:Rel w I σ h)(n:Nat):Step w I σ h n w.drew I σ h n:=
 ⟨Ext.heap rfl,R.eP (Ext.heap rfl) (fun b e=>R.eA b e) (fun b e=>⟨rfl,(R.owned e).1⟩) (fun _ _=>rfl),rfl,rfl,rfl,iX _,fun _ _ _=>rfl,fun _ e=> .inr e,fun _ e=> .inl e,iX _,fun _ _=>rfl,fun _ _ W=>W⟩
theorem Step.kill(R:Rel w I σ h)(id n:Nat):Step w I σ h n w I σ (bB h id none) n:=
 ⟨.refl _ _ _,R.kill id,rfl,rfl,rfl,iX _,fun _ _ _=>rfl,fun _ b=> .inr b.QW,fun _ b=> .inl b,iX _,fun _ _=>rfl,fun i _ W=>aV⟩
theorem Step.nil(R:Rel w I σ h){n k:Nat}(W:h n=none)(s:σ n=none):Step w I σ h n w I σ (bB h n (some ⟨k,[],eP⟩)) (n+1):=
 ⟨.refl _ _ _,R.Zq W s,rfl,rfl,rfl,iX _,fun _ _ _=>rfl,fun b f=>by
  obtain⟨id,ob,o,k',h1,K⟩:=f;by_cases e:id=n
  .grind
  .exact .inr ⟨id,ob,o,k',aV,K⟩,fun _ f=> .inl f,ab,fun _ _=>rfl,fun id v z=>aV⟩
theorem Step.Tt (R:Rel w I σ h) {id n b o s:Nat}   (g:h id=some ob) (l:σ id=some (b,o,ob.k)) (W:h n=none) (K:σ n=none) (y:ob.eP=true->kp=true) {c:Array Value} {el:TypeId}
  (f:lh w b c el) (j:o+ob.es.length*ob.k<=c.size) (p:ey w I (mJ ob.eP σ) ob.es ob.k b o) (V:s<=ob.es.length):
  Step w I σ h n w I (bB σ n (some (b,o+s*ob.k,ob.k))) (bB (bB h id none) n (some ⟨ob.k,ob.es.drop s,kp⟩)) (n+1):=by
 have r:ju σ h b:=⟨id,ob,o,ob.k,g,l⟩;have X:n≠id:=fun e=>aj
 have Q:bB h id none n=none:=by simp[bB,X,W]
 have J:=p.TX s (ob.es.length-s);rw[bQ ai]at J;have E:Ext w I σ w I (bB σ n (some (b,o+s*ob.k,ob.k))):=Ext.Vy K;have q:o+s*ob.k+(ob.es.drop s).length*ob.k<=c.size:=by
  have:s*ob.k+(ob.es.length-s)*ob.k=ob.es.length*ob.k:=gR
  simp;omega
 have F:=(R.kill id).Zp (n:=n) (b:=b) (o:=o+s*ob.k) (k:=ob.k) (es:=ob.es.drop s) (eP:=kp) Q K f (R.owned r).1 (R.Lz g l) q
  ((J.oM (E.r8 ob.eP) rfl).oM (AH y) rfl)
 refine⟨E,F,rfl,rfl,rfl,iX _,fun _ _ _=>rfl,fun t H=> ?_,fun _ f=> .inl f,ab,fun i m=>aV,fun i m x=>aV⟩;obtain⟨i,po,o',k',h1,L⟩:=H;by_cases e:i=n
 .grind [bB]
 .have u:bB h id none i=some po:=by simpa[bB,e] using h1
  have v:σ i=some (t,o',k'):=by simpa[bB,e] using L
  exact .inr (ju.QW ⟨i,po,o',k',u,v⟩)
theorem Ub {P:Program} {t:TypeId} (y:(∃e',P.underlying t=some (.slice e'))\/P.underlying t=some .string) (R:Rel w I σ h) {x:V} {u:Value} {xs:List V}  (r:dX w I σ x u) (C:elems h x=some (xs,kx))
  {k:Nat} (G: ∀e∈xs,e.cells.length=k) (D: ∀id s l,x= .cX id s l-> ∃ob,h id=some ob/\(xs≠ []->ob.k=k)):
  ∃news,Src P k t u xs.length news w/\fW w I (mJ kx σ) (flat xs) news:=by
 have i: ∀{ad:Addr} {cap:Nat} {b o:Nat} {O:jI},ad=⟨b,o,none⟩->ey w I O xs k b o-> ∃news,Src P k t (.slice (some ad) xs.length cap) xs.length news w/\fW w I O (flat xs) news:=by
  intro ad cap b o O d g;subst d;obtain⟨z,h1,h2,S⟩:=tZ g;refine⟨z,⟨y,fun _=>rfl,run_firstCells_some w k xs.length _ _ cap z h1 (fun j v E=>by rw[rf];grind),run_firstCells_some w.drew k xs.length _ _ cap z h1 (fun j v E=>gL),h1,S.Bq⟩,S⟩
 have B: ∀{ad:Option Addr} {cap:Nat},xs=[]-> ∃news,Src P k t (.slice ad 0 cap) xs.length news w/\fW w I (mJ kx σ) (flat xs) news:=by
  intro ad cap h0;subst h0;refine⟨[],⟨y,fun _=>rfl,?_,?_,ai,ai⟩,dg⟩
  .exact j7
  .exact j7
 cases x with
 |sl c es=>
  simp only[elems,aS,cy]at C;obtain⟨rfl,rfl⟩:=C;obtain⟨ad,cap,rfl,_,_,_,f⟩:=r;rcases f with f|⟨b,o,k',rfl,Z,g⟩
  .simp_all
  .by_cases h0:es=[]
   .simp_all
   .have M:k'=k:=by
     exact ql
    subst M;exact i rfl g
 |cX id s l=>
  obtain⟨ob,A,M⟩:=D id s l rfl;simp only[elems,A]at C;split at C
  .obtain⟨rfl,rfl⟩:=C;have X:((ob.es.drop s).take l).length=l:=aA
   obtain⟨ad,cap,rfl,h1,_,S⟩:=r;by_cases h0:l=0
   .simp_all
   .rcases S with S|⟨b,o,k',c,el,fz,L,rfl,_⟩
    .omega
    .have F:ob.es[s]?=some (ob.es[s]' ab):=ai
     obtain⟨b',o',c',hx,n,_,_,_,g⟩:=R.at A F;rw[L]at n;obtain⟨rfl,rfl,rfl⟩:=n;have K:(ob.es.drop s).take l≠ []:=by intro H;rw[H]at X;simp at X;omega
     have J:=M K;have aq:=g.TX s l
     simp_all
  grind
 |str s=>
  obtain⟨rfl,rfl⟩:=C;obtain⟨U,rfl,rfl⟩:=tP r;have q:U.data.toList.length=U.size:=uy;by_cases h0:U.data.toList=[]
  .rw[h0];have Q:U.size=0:=by rw[<-q,h0];rfl
   have N:U.extract 0 0=ByteArray.empty:=by
    apply ByteArray.ext;simp
   refine⟨[],⟨y,fun _=>by simp[Builtin.lenOf,Q],?_,?_,ai,ai⟩,dg⟩
   .simp[Builtin.firstCells]
   .simp[Builtin.firstCells]
  .have W:k=1:=by
    obtain⟨e,C⟩:=z7 _ h0;have:=G (.int .u8 e.toNat) (List.mem_map.2 ⟨e,C,rfl⟩);simpa[V.cells] using this.symm
   subst W;refine⟨byteCells U,⟨y,fun _=>by simp[Builtin.lenOf,q],?_,?_,?_,?_⟩,?_⟩
   .rw[r9,q];exact firstCells_string U w
   .rw[r9,q];exact firstCells_string U w.drew
   .rw[byteCells_length,r9,q,Nat.mul_one]
   .intro u a;obtain⟨_,_,rfl⟩:=List.mem_map.1 a;rfl
   .rw[ez];have Y:flat (U.data.toList.map fun b=>V.int .u8 b.toNat)=U.data.toList.map fun b=>V.int .u8 b.toNat:=by
     generalize U.data.toList=l;induction l with
     |nil=>rfl
     |cons b l p=>rw[r2,tq,p];rfl
    rw[Y];refine⟨by rw[byteCells_length,r9,q],fun j c u m a=> ?_⟩;unfold byteCells at a;rw[tm]at m a;cases T:U.data.toList[j]? with
    |none=>grind
    |some b=>
     simp only[T,ue,aS]at m a;subst m;subst a;exact⟨rfl,a_⟩
 |_=>simp[elems]at C
theorem uB{P:Program}(t f ty e:TypeId)(i:TypeInfo)(S:P.underlying t=some (.slice e))(j:P.info? e=some i)(base:Option Addr)(GW NN:Nat)(l:GW<=NN)(x:Value)(h:Src P i.size f x 0 [] w):
  (Builtin.append_ #[t,f] ty #[.slice base GW NN,x]).run P w= .ok (.slice base GW NN) w:=by
 have c:=h.cells;cases base<;>rcases h.kind with⟨F,k⟩|k<;>simp[Builtin.append_,run_underlying S,run_underlying k,sizeOf,typeInfo,j,h.len,l,c,storeCells]
theorem JB {P:Program} (t f ty e:TypeId) (i:TypeInfo) (S:P.underlying t=some (.slice e)) (j:P.info? e=some i) {b p GW NN:Nat} {x:Value} {n:Nat} {news:List Value} (h:Src P i.size f x n news w)
  (N:GW+n<=NN) {c:Array Value} {el:TypeId} (g:lh w b c el) (q:p+GW*i.size+news.length<=c.size):
  (Builtin.append_ #[t,f] ty #[.slice (some ⟨b,p,none⟩) GW NN,x]).run P w= .ok (.slice (some ⟨b,p,none⟩) (GW+n) NN) (w.setRow b (qF c (p+GW*i.size) news)):=by
 have u:=ye (P:=P) (b:=b) (p:=p+GW*i.size) news 0 c w g ab fun v l=>h.one v ab;rcases h.kind with⟨F,k⟩|k<;>simp[Builtin.append_,run_underlying S,run_underlying k,sizeOf,typeInfo,j,h.len,N,h.cells,Addr.add_lit,u,qF]
end
section
variable {w:World} {I:Nat->Prop} {σ:jI} {h:bI}
structure ZA (w:World) (I:Nat->Prop) (σ:jI) (id s l:Nat) (ob:Ob) (ad:Option Addr) (cap:Nat):Prop where
 le:l<=cap
 max:cap<=maxLen
 place:cap=0\/ ∃b o c el,σ id=some (b,o,ob.k)/\ad=some ⟨b,o+s*ob.k,none⟩/\lh w b c el/\o+ob.es.length*ob.k<=c.size/\o+(s+cap)*ob.k<=c.size/\ey w I (mJ ob.eP σ) ob.es ob.k b o
theorem NP(R:Rel w I σ h){id s l:Nat}{u:Value}(r:dX w I σ (.cX id s l) u)(g:h id=some ob): ∃ad cap,u= .slice ad l cap/\ZA w I σ id s l ob ad cap:=by
 obtain⟨ad,cap,rfl,h1,L,S⟩:=r;refine⟨ad,cap,rfl,h1,L,?_⟩;rcases S with S|⟨b,o,k,c,el,fz,K,a,f,e⟩
 .omega
 .rcases R.obj id ob g with⟨_,W⟩|⟨m,o',c',Q,n,j,H,q,i⟩
  .grind
  .rw[K]at n;obtain⟨rfl,rfl,rfl⟩:=n;obtain⟨fz',F⟩:=H.at;rw[f]at F;obtain⟨rfl,rfl,rfl⟩:=F;exact .inr ⟨b,o,c,el,K,a,H,q,e,i⟩
theorem ZA.uM{P:Program}{id s l cap:Nat}{ob:Ob}{ad:Option Addr}(B:ZA w I σ id s l ob ad cap)(p:s+l<=ob.es.length):
  ∃uM:List Value,uM.length=l*ob.k/\fW w I (mJ ob.eP σ) (flat ((ob.es.drop s).take l)) uM/\(Builtin.firstCells ob.k l (.slice ad l cap)).run P w.drew= .ok uM.toArray w.drew:=by
 have G:=B.le;by_cases h0:l=0
 .subst h0;refine⟨[],ai,dg,?_⟩;exact j7
 .rcases B.place with m|⟨b,o,c,el,K,rfl,f,e,a,g⟩
  .omega
  .obtain⟨u,h1,L,S⟩:=tZ (g.TX s l);have h:((ob.es.drop s).take l).length=l:=aA
   rw[h]at h1;exact⟨u,h1,S,run_firstCells_some w.drew ob.k l _ _ cap u h1 (fun j v i=>gL)⟩
theorem GX{z:Array Value}(n:Nat):(Builtin.zeroCells z n).size=n*z.size:=by
 have:=size_madeCells z (n*z.size);simp[Builtin.zeroCells]
theorem Q0(uM news:List Value)(z:Array Value)(g n k:Nat)(h:z.size=k)(o:(uM++news).length=n*k)(S:n<=g):
  ((uM++news).toArray++Builtin.zeroCells z (g-n)).size=g*k:=by
 rw[Array.size_append,GX,h];have:n*k+(g-n)*k=g*k:=gR
 grind
theorem GY {P:Program} {t f ty e:TypeId} {x:TI} (U:P.underlying t=some (.slice e)) (T:mE P e x) {ad:Option Addr} {l cap:Nat} {uM news:List Value} {u:Value} {n:Nat}
  (d:(Builtin.firstCells x.size l (.slice ad l cap)).run P w.drew= .ok uM.toArray w.drew) (o:uM.length=l*x.size) (s:Src P x.size f u n news w) (S:cap<l+n) (q:(l+n)*x.bytes<=2^47) (Z:l+n<=2^62):
  ∃(c:Array Value) (g:Nat),(Builtin.append_ #[t,f] ty #[.slice ad l cap,u]).run P w= .ok (.slice (some ⟨w.heap.size,0,none⟩) (l+n) g) (w.drew.alloc (.cells c e))/\l+n<=g/\g<=maxLen/\g*x.size<=c.size/\
   (∀(j:Nat) v,(uM++news)[j]?=some v->c[j]?=some v):=by
 obtain⟨i,z,p,M,m,Q,b⟩:=T.info;have V:=rl (w:=w) (I:=fun _=>False) (σ:=fJ) T b;have N:z.cells.size=x.size:=by
  have:=((ez _ _).1 V).1;exact pr
 have O:=run_append_grow_src (w:=w) t f ty e i z U p Q ad l cap uM aj u n news aj S ab
  (by have:=growslice_fits (bytes:=i.bytes) S aj;omega)
 have r:=grownCap_ge w (l+n) cap e;have k:=grownCap_le_maxLen w (l+n) cap e cv;have h:(uM++news).length=(l+n)*x.size:=by rw[ta,o,s.newsLen,t1]
 refine⟨_,_,O,r,k,?_,?_⟩
 .rw[Q0 uM news z.cells _ _ _ N h r];omega
 grind
variable {P:Program} {t tx ty e:TypeId} {x:TI} {n:Nat} {xs:List V} {news:List Value} {y:Value}
theorem zI (R:Rel w I σ h) (S:P.underlying t=some (.slice e)) (T:mE P e x) {u:Value} (D:dX w I σ (.sl true []) u)  (E:kx=true->kp=true) (A: ∀v∈xs,v.cells.length=x.size)
  (s:Src P x.size tx y xs.length news w) (C:fW w I (mJ kx σ) (flat xs) news) (W:h n=none) (o:σ n=none) (F:xs.length*x.bytes<=2^47) (H:xs.length<=2^62):
  ∃v w' σ',(Builtin.append_ #[t,tx] ty #[u,y]).run P w= .ok v w'/\Step w I σ h n w' I σ' (bB h n (some ⟨x.size,xs,kp⟩)) (n+1)/\dX w' I σ' (.cX n 0 xs.length) v:=by
 obtain⟨ad,cap,rfl,_,_,p,_⟩:=D;have K:cap=0:=by simpa using p
 subst K;obtain⟨i,z,m,V,j,Q,b⟩:=T.info;by_cases h0:xs=[]
 .subst h0;have Z:news=[]:=by
   have:=s.newsLen;simp at this;exact this
  subst Z;refine⟨_,w,σ,uB t tx ty e i S m ad 0 0 (iX _) y aj,Step.nil R W o,?_⟩;exact⟨ad,0,rfl,ai,ab,.inl rfl⟩
 .have N:0<xs.length:=List.length_pos_iff.2 h0;obtain⟨c,g,O,r,f,q,B⟩:=GY S T (ad:=ad) (l:=0) (cap:=0) (uM:=[]) (ty:=ty) (by cases ad<;>simp[Builtin.firstCells,loadCells,loadCellsFrom]) ai s ab aj ab;simp only[vy,zD]at O r B;refine⟨_,_,_,O,(Step.drew R n).trans (zH (Step.drew R n).rel c W o A (us:=news) ?_ B),?_⟩
  .exact(fW.ext' _ _ ((Ext.heap rfl:Ext w I (mJ kx σ) w.drew I (mJ kx σ)).trans (AH E)) C)
  .have:=CP w.drew I σ (n:=n) (k:=x.size) (l:=xs.length) (cap:=g) (c:=c) (el:=e) r f q;exact ns
theorem Q1 (R:Rel w I σ h) (S:P.underlying t=some (.slice e)) (T:mE P e x) {u:Value} {es:List V} (G:dX w I σ (.sl true es) u) (X: ∀v∈es,v.cells.length=x.size) (hk: ∀v∈xs,v.cells.length=x.size)
  (K:Src P x.size tx y xs.length news w) (r:fW w I (mJ false σ) (flat xs) news) (n:Nat) (q:(es.length+xs.length)*x.bytes<=2^47) (J:es.length+xs.length<=2^62):
  ∃v w' I',(Builtin.append_ #[t,tx] ty #[u,y]).run P w= .ok v w'/\Step w I σ h n w' I' σ h n/\dX w' I' σ (.sl false (es++xs)) v:=by
 obtain⟨ad,cap,rfl,h1,L,F,a⟩:=G;have N:cap=es.length:=by simpa using F
 subst N;obtain⟨i,z,B,hx,A,Q,M⟩:=T.info;by_cases h0:xs=[]
 .subst h0;have Z:news=[]:=by
   have:=K.newsLen;simp at this;exact this
  subst Z;refine⟨_,w,I,uB t tx ty e i S B ad es.length es.length (iX _) y aj,Step.refl R n,?_⟩;rw[u_];exact⟨ad,es.length,rfl,h1,L,fun d=>ab,a⟩
 .have aq:0<xs.length:=List.length_pos_iff.2 h0;have l: ∃uM:List Value,uM.length=es.length*x.size/\fW w I fJ (flat es) uM/\(Builtin.firstCells x.size es.length (.slice ad es.length es.length)).run P w.drew= .ok uM.toArray w.drew:=by
   by_cases C:es=[]
   .subst C;refine⟨[],ai,dg,?_⟩;exact j7
   .rcases a with a|⟨b,o,k',rfl,hI,p⟩
    .grind
    .have W:k'=x.size:=by
      obtain⟨v,k⟩:=z7 es C;rw[<-p.lens v k];exact X v k
     subst W;obtain⟨s,h1,L,U⟩:=tZ p;exact⟨s,h1,U,run_firstCells_some w.drew _ _ _ _ _ s h1 (fun j v k=>gL)⟩
  obtain⟨uM,O,H,f⟩:=l;obtain⟨c,g,D,E,m,Y,au⟩:=GY S T (ty:=ty) f O K ab q J;have st:=(Step.drew R n).trans (LD (Step.drew R n).rel c e n);refine⟨_,_,_,D,st,?_⟩;refine⟨_,g,aj,aj,m,fun d=>aj,.inr ⟨w.heap.size,0,x.size,rfl,.inr rfl,?_⟩⟩;refine vg st.ext.Ls (us:=uM++news) (fun v k=> ?_) (by rw[tY];exact H.append r) (fun j v k=> ?_)
  .grind
  .have:(w.drew.alloc (.cells c e)).heap[w.heap.size]?=some (.cells c e):=Bo w.drew (.cells c e);rw[cell_of_row _ _ _ _ _ _ this]
   grind
theorem Q2 (R:Rel w I σ h) (U:P.underlying t=some (.slice e)) (T:mE P e x) {id s l:Nat}  {u:Value} (hb:dX w I σ (.cX id s l) u) (X:h id=some ob) (C:ob.k=x.size) (ae:s+l<=ob.es.length)
   (hl:kx=true->kp=true) (D:ob.eP=true->kp=true) (hk: ∀v∈xs,v.cells.length=x.size)
  (Q:Src P x.size tx y xs.length news w) (hr:fW w I (mJ kx σ) (flat xs) news) (hn:h n=none) (H:σ n=none) (aa:(l+xs.length)*x.bytes<=2^47) (HG:l+xs.length<=2^62):
  ∃v w' σ',(Builtin.append_ #[t,tx] ty #[u,y]).run P w= .ok v w'/\Step w I σ h n w' I σ' (bB (bB h id none) n (some ⟨x.size,(ob.es.drop s).take l++xs,kp⟩)) (n+1)/\dX w' I σ' (.cX n 0 (l+xs.length)) v:=by
 obtain⟨ad,cap,rfl,B⟩:=NP R hb X;obtain⟨i,z,hi,hd,ay,hz,e1⟩:=T.info;have ah:=B.le;have kK:n≠id:=fun e=>aj
 have an:bB h id none n=none:=by simp[bB,kK,hn]
 by_cases hg:cap<l+xs.length
 .obtain⟨uM,O,ha,M⟩:=B.uM (P:=P) ae;rw[C]at O M;obtain⟨c,g,F,W,he,cQ,Z⟩:=GY U T (ty:=ty) M O Q hg aa HG;have f:=(Step.kill R id n).trans (Step.drew (R.kill id) n);have hL: ∀v∈ (ob.es.drop s).take l++xs,v.cells.length=x.size:=by
   intro v m;rcases List.mem_append.1 m with m|m
   .rcases B.place with hp|⟨b,o,c,el,_,_,_,_,_,G⟩
    .simp_all
    .rw[<-C];exact G.lens v (t_ (sw m))
   .grind
  have hE: ∀{kk:Bool},(kk=true->kp=true)->Ext w I (mJ kk σ) w.drew I (mJ kp σ):=fun V=>(Ext.heap rfl:Ext w I (mJ _ σ) w.drew I (mJ _ σ)).trans (AH V);refine⟨_,_,_,F,f.trans (zH f.rel c an H hL (us:=uM++news) ?_ Z),?_⟩
  .rw[tY];exact(fW.ext' _ _ (hE D) ha).append (fW.ext' _ _ (hE hl) hr)
  .have:=CP w.drew I σ (n:=n) (k:=x.size) (l:=l+xs.length) (cap:=g) (c:=c) (el:=e) W he cQ
   simp_all
 .have hc:l+xs.length<=cap:=ab
  rcases B.place with hp|⟨b,o,c,el,K,rfl,J,hf,n0,G⟩
  .subst hp;have h0:xs=[]:=xR ab;have g2:l=0:=ab
   subst h0;subst g2;have h3:news=[]:=by
    have:=Q.newsLen;simp at this;exact this
   subst h3;refine⟨_,w,σ,uB t tx ty e i U hi ad 0 0 (iX _) y aj,?_,?_⟩
   .have:=(Step.kill R id n).trans (Step.nil (R.kill id) (k:=x.size) (eP:=kp) an H)
    grind
   .exact⟨ad,0,rfl,ai,ab,.inl rfl⟩
  ·
   have Z:news.length=xs.length*x.size:=Q.newsLen;have aw:(s+cap)*ob.k=s*ob.k+cap*ob.k:=t1 ..;have hx:(l+xs.length)*ob.k<=cap*ob.k:=ul _ hc;rw[t1]at hx;have e2:(s+l)*ob.k=s*ob.k+l*ob.k:=t1 ..;have d:o+(s+l)*ob.k+news.length<=c.size:=by rw[Z,<-C];omega
   have F:=JB (w:=w) (P:=P) t tx ty e i U hi (b:=b) (p:=o+s*ob.k) (GW:=l) (NN:=cap) (x:=y) (n:=xs.length) (news:=news) aj hc J
    aj
   rw[hd,<-C,show o+s*ob.k+l*ob.k=o+(s+l)*ob.k from ab]at F;have hI: ¬I b:=(R.owned ⟨id,ob,o,ob.k,X,K⟩).1;have E:Ext w I σ (w.setRow b (qF c (o+(s+l)*ob.k) news)) I σ:=Ext.setRow hI J (pq d);have S:lh _ b (qF c (o+(s+l)*ob.k) news) el:=J.set (pq d);have ho:=G.TX 0 (s+l);simp only[zy,yo,xt]at ho;obtain⟨A,hB,L,N⟩:=tZ ho;have r:(ob.es.take (s+l)).length=s+l:=aA
   rw[r]at hB;have aq:ey (w.setRow b (qF c (o+(s+l)*ob.k) news)) I (mJ kp σ) (ob.es.take (s+l)++xs) ob.k b o:=by
    refine vg (E.r8 kp) (us:=A++news) (fun v m=> ?_) ?_ (fun j v m=> ?_)
    .rcases List.mem_append.1 m with m|m
     .exact G.lens v (sw m)
     grind
    .rw[tY];exact(fW.ext' _ _ (AH D) N).append (fW.ext' _ _ (AH hl) hr)
    .rw[S.cell,xh d];by_cases hj:j<A.length
     .rw[ug hj]at m;rw[if_neg ab];have:=L j v m;rwa[J.cell]at this
     .have mm:=(List.getElem?_eq_some_iff.1 m).1;rw[ta]at mm;rw[tu ab]at m;rw[if_pos ab,show o+j-(o+(s+l)*ob.k)=j-A.length from ab];exact m
   have a:o+(ob.es.take (s+l)++xs).length*ob.k<=c.size:=by
    rw[ta,r,t1];rw[Z,<-C]at d;omega
   have f:=R.write (eP:=kp) X K J (pq d) a aq n;have h2:bB h id (some (⟨ob.k,ob.es.take (s+l)++xs,kp⟩:Ob)) id=some ⟨ob.k,ob.es.take (s+l)++xs,kp⟩:=al
   have h4:bB h id (some (⟨ob.k,ob.es.take (s+l)++xs,kp⟩:Ob)) n=none:=by simp[bB,kK,hn]
   have ak:=Step.Tt f.rel (n:=n) (s:=s) (kp:=kp) h2 K h4 H (fun V=>V) S (by rw[pq d];exact a) aq (by rw[ta,r];omega);have au:=f.trans ak;have h1:(ob.es.take (s+l)++xs).drop s=(ob.es.drop s).take l++xs:=by
    rw[List.drop_append_of_le_length (by rw[r];omega),zz];congr 2;omega
   refine⟨_,_,bB σ n (some (b,o+s*ob.k,ob.k)),F,?_,?_⟩
   .have g1:bB (bB h id (some (⟨ob.k,ob.es.take (s+l)++xs,kp⟩:Ob))) id none=bB h id none:=by
     funext q;simp only[bB];split<;>rfl
    rw[g1,h1]at au;rw[<-C];exact au
   .simp only[dX];obtain⟨fz,Y⟩:=S.at;exact⟨_,cap,rfl,hc,B.max,.inr ⟨b,o+s*ob.k,ob.k,_,el,fz,al,ai,Y,by rw[pq d,vy];omega⟩⟩
theorem LF{v:V}{xs:List V}(C:elems h v=some (xs,kx))(R:Rel w I σ h){k:Nat}(G: ∀e∈xs,e.cells.length=k): ∀id s l,v= .cX id s l-> ∃ob,h id=some ob/\(xs≠ []->ob.k=k):=by
 rintro id s l rfl;simp only[elems]at C;cases g:h id with
 |none=>grind
 |some ob=>
  refine⟨ob,rfl,fun K=> ?_⟩;simp only[g]at C;split at C
  .obtain⟨rfl,rfl⟩:=C;obtain⟨v,j⟩:=z7 _ K;rw[<-G v j];have m:=t_ (sw j);obtain⟨i,n⟩:=DH m;obtain⟨b,o',c',Q,_,_,_,_,f⟩:=R.at g n;exact(f.lens v m).symm
  grind
theorem HV{a:Array α}{x y:α}(h:a.toList=[x,y]):a= #[x,y]:=aj
theorem ZE{a:Array α}{x y:α}{r:List α}(h:a.toList=x::y::r):a[0]?=some x/\a[1]?=some y:=by
 rw[<-Array.getElem?_toList,<-Array.getElem?_toList,h];simp
theorem Q3{m:Array TypeId}{t u:TypeId}{r:List TypeId}(h:m.toList=t::u::r)(ty:TypeId)(args:Array Value):Builtin.append_ m ty args=Builtin.append_ #[t,u] ty args:=by
 simp[Builtin.append_,ZE h]
theorem ZF{m:Array TypeId}{t u:TypeId}{r:List TypeId}(h:m.toList=t::u::r)(ty:TypeId)(args:Array Value):Builtin.copy_ m ty args=Builtin.copy_ #[t,u] ty args:=by
 simp[Builtin.copy_,ZE h]
end
section
variable {X:Env} {o:Oper} {a:Act} {w:World} {I:Nat->Prop} {σ:jI} {S S1:St}
theorem FZ{xs:List V}{k:Nat}(h:(xs.all fun v=>v.cells.length==k)=true): ∀v∈xs,v.cells.length=k:=aj
theorem Q4  {d:Array TypeId} (f:o.op= .call ⟨.builtin .append,args,d⟩) {t u:TypeId} {r:List TypeId} (y:d.toList=t::u::r)
  (b:X.P.underlying t=some (.slice (X.ti t).elem)) (T:mE X.P (X.ti t).elem (X.ti (X.ti t).elem)) (j:((∃e',X.P.underlying u=some (.slice e'))\/X.P.underlying u=some .string)\/(X.ti u).kind.isSome=true)
  (R:Rel w I σ S.h) (F:jO w I σ S.f a) (hx:oN o) (hn:S.h S.n=none) (M:σ S.n=none) (cR:FuncId) {P:V} {hc:bI} {c:Nat} (e:dm X cR o S.ev S.h S.n=some (P,hc,c)) (N:S1=({S with h:=hc,n:=c}:St).set o.dst P):Out X o a w I σ S S1:=by
 have an:d.getD 0 0=t:=by
  have:=(ZE y).1;simp[uD,this]
 have C:d.getD 1 0=u:=by
  have:=(ZE y).2;simp[uD,this]
 simp only[dm,f,an,C]at e;split at e
 case h_2=>grind
 rename_i s x g;cases O:args.toList with
 |nil=>grind
 |cons p q=>
 cases q with
 |nil=>grind
 |cons q q2=>
 cases q2 with
 |cons _ _=>grind
 |nil=>
 simp only[O,r2,r_,ui,and_true]at g;obtain⟨rfl,rfl⟩:=g;have L:=HV O;have U:dX w I σ (S.ev p) (a.eval p):=fu (S:=S) F (hx p fo);have au:dX w I σ (S.ev q) (a.eval q):=fu (S:=S) F (hx q fo);have k: ∀{v:Value} {w':World},(Builtin.append_ #[t,u] o.type #[a.eval p,a.eval q]).run X.P w= .ok v w'->(execOp a.eval o).run X.P w= .ok (.value v) w':=by
  intro v w' hh;simp[execOp,f,L,resolve,invoke,builtin,Q3 y,hh]
 cases Y:elems S.h (S.ev p) with
 |none=>grind
 |some aq=>
 obtain⟨es,Q⟩:=aq;cases H:elems S.h (S.ev q) with
 |none=>grind
 |some hb=>
 obtain⟨ht,aw⟩:=hb;simp only[Y,H]at e;split at e
 .grind
 rename_i D;simp only[ua,X8,sG,not_or,not_and,xC]at D;obtain⟨⟨D,A⟩,hl⟩:=D;have B:=j.resolve_right ab;have z:=FZ A;split at e
 case isFalse=>grind
 rename_i i;have E:Q=true->X.fV cR (X.ti t).elem=true:=fun h=>D (.inl h);have hi:aw=true->X.fV cR (X.ti t).elem=true:=fun h=>D (.inr h);obtain⟨news,K,J⟩:=Ub B R au H z (LF H R z);split at e
 ·
  rename_i m;obtain⟨rfl,rfl,rfl⟩:=e;subst N;rw[m]at U;have h0:es=[]:=by rw[m]at Y;simp only[elems,aS,cy]at Y;exact Y.1.symm
  subst h0;obtain⟨v,w',σ',h1,h2,W⟩:=zI (ty:=o.type) R b T U hi z K J hn M aj ab;exact nU
 .rename_i hj kK m;split at e
  .grind
  rename_i Z;simp only[ua,sG,not_or,CM,xC]at Z;obtain⟨rfl,rfl,rfl⟩:=e;subst N;rw[m]at U;have h0:es=hj/\Q=false:=by rw[m]at Y;simp only[elems,aS,cy]at Y;exact⟨Y.1.symm,Y.2.symm⟩
  obtain⟨rfl,_⟩:=h0;rw[Z.1]at J;obtain⟨v,w',I',h1,h2,W⟩:=Q1 (ty:=o.type) R b T U (FZ Z.2) z K J S.n i.1 i.2;refine⟨_,w',I',σ,v,_,k h1,.inl rfl,?_,rfl,W⟩;rw[fw,ik];omega
 .rename_i id s l m;split at e
  case h_2=>grind
  rename_i ob gX;split at e
  case isFalse=>grind
  rename_i hk;obtain⟨rfl,rfl,rfl⟩:=e;subst N;rw[m]at U;rw[m]at Y;simp only[elems,gX]at Y;split at Y
  case isFalse=>grind
  rename_i hr;obtain⟨rfl,rfl⟩:=Y;have G:((ob.es.drop s).take l).length=l:=aA
  rw[G]at i⊢;obtain⟨v,w',σ',h1,h2,W⟩:=Q2 (ty:=o.type) R b T U gX hk hr hi E z K J hn M i.1 i.2;exact nU
 grind
theorem Ko {P:Program} {h:bI} (R:Rel w I σ h) {x:V} {u:Value} {xs:List V}  (r:dX w I σ x u) (C:elems h x=some (xs,kx)) (Y:x.isStr=false)
  {k:Nat} (G: ∀e∈xs,e.cells.length=k) (m:Nat) (Q:m<=xs.length):
  (∀w',(Builtin.lenOf u).run P w'= .ok xs.length w')/\ ∃news:List Value,news.length=m*k/\(Builtin.firstCells k m u).run P w= .ok news.toArray w/\fW w I (mJ kx σ) (flat (xs.take m)) news:=by
 have i: ∀{ad:Addr} {n cap:Nat} {b o:Nat} {O:jI},ad=⟨b,o,none⟩->ey w I O xs k b o-> ∃news:List Value,news.length=m*k/\(Builtin.firstCells k m (.slice (some ad) n cap)).run P w= .ok news.toArray w/\fW w I O (flat (xs.take m)) news:=by
  intro ad n cap b o O a g;subst a;have K:=g.TX 0 m;simp only[zy,yo,xt]at K;obtain⟨z,h1,N,S⟩:=tZ K;have:(xs.take m).length=m:=aA
  rw[this]at h1;exact⟨z,h1,run_firstCells_some w k m _ _ cap z h1 (fun j v q=>by rw[rf];grind),S⟩
 have y: ∀{ad:Option Addr} {n cap:Nat},xs=[]-> ∃news:List Value,news.length=m*k/\(Builtin.firstCells k m (.slice ad n cap)).run P w= .ok news.toArray w/\fW w I (mJ kx σ) (flat (xs.take m)) news:=by
  intro ad n cap h0;subst h0;have:m=0:=by simpa using Q
  subst this;refine⟨[],ai,?_,dg⟩;exact j7
 cases x with
 |sl c es=>
  simp only[elems,aS,cy]at C;obtain⟨rfl,rfl⟩:=C;obtain⟨ad,cap,rfl,_,_,_,d⟩:=r;refine⟨fun w'=>by simp[Builtin.lenOf],?_⟩;rcases d with d|⟨b,o,k',rfl,E,g⟩
  .exact y d
  .by_cases h0:es=[]
   .exact y h0
   .have M:k'=k:=by
     exact ql
    subst M;exact i rfl g
 |cX id s l=>
  have W:=LF (h:=h) (v:= .cX id s l) C R G id s l rfl;obtain⟨ob,X,L⟩:=W;simp only[elems,X]at C;split at C
  case isFalse=>grind
  obtain⟨rfl,rfl⟩:=C;obtain⟨ad,cap,rfl,B⟩:=NP R r X;have J:((ob.es.drop s).take l).length=l:=aA
  refine⟨fun w'=>by rw[J];simp[Builtin.lenOf],?_⟩;by_cases h0:(ob.es.drop s).take l=[]
  .exact y h0
  .rcases B.place with A|⟨b,o,c,el,K,rfl,D,f,p,g⟩
   .exfalso;have:=B.le
    simp_all
   .have t:=L h0;have:=g.TX s l
    simp_all
 |str s=>cases Y
 |_=>simp[elems]at C
theorem ZG  {O:Array TypeId} (H:o.op= .call ⟨.builtin .copy,args,O⟩) {t u:TypeId} {r:List TypeId} (Q:O.toList=t::u::r)
  (h1:X.P.underlying t=some (.slice (X.ti t).elem)) (T:mE X.P (X.ti t).elem (X.ti (X.ti t).elem))
  (R:Rel w I σ S.h) (F:jO w I σ S.f a) (hx:oN o) (cR:FuncId) {hn:V} {hs:bI} {d:Nat} (C:dm X cR o S.ev S.h S.n=some (hn,hs,d)) (ay:S1=({S with h:=hs,n:=d}:St).set o.dst hn):Out X o a w I σ S S1:=by
 have h4:O.getD 0 0=t:=by
  have:=(ZE Q).1;simp[uD,this]
 simp only[dm,H,h4]at C;split at C
 case h_2=>grind
 rename_i id s l x h3;cases an:args.toList with
 |nil=>grind
 |cons p q=>
 cases q with
 |nil=>grind
 |cons q q2=>
 cases q2 with
 |cons _ _=>grind
 |nil=>
 simp only[an,r2,r_,ui,and_true]at h3;obtain⟨hp,rfl⟩:=h3;have hl:=HV an;have r1:dX w I σ (S.ev p) (a.eval p):=fu (S:=S) F (hx p fh);have ah:dX w I σ (S.ev q) (a.eval q):=fu (S:=S) F (hx q fh);rw[hp]at r1;cases g:S.h id with
 |none=>grind
 |some ob=>
 cases ht:elems S.h (S.ev q) with
 |none=>grind
 |some cQ=>
 obtain⟨U,cz⟩:=cQ;simp only[g,ht]at C;split at C
 .grind
 rename_i aa;simp only[ua,X8,sG,not_or,not_and,xC,CM]at aa;obtain⟨⟨hL,hB⟩,z⟩:=aa;have ae:=FZ z;split at C
 case isFalse=>grind
 rename_i D;obtain⟨rfl,rfl,rfl⟩:=C;subst ay;obtain⟨K,news,G,f,M⟩:=Ko (P:=X.P) R ah ht hL ae (min U.length l) (Nat.min_le_left _ _);obtain⟨ad,cap,J,B⟩:=NP R r1 g;have hk: ∀{v:Value} {w':World},(Builtin.copy_ #[t,u] o.type #[a.eval p,a.eval q]).run X.P w= .ok v w'->(execOp a.eval o).run X.P w= .ok (.value v) w':=by
  intro v w' hh;simp[execOp,H,hl,resolve,invoke,builtin,ZF Q,hh]
 have Z:Nat.min U.length l=min U.length l:=rfl;have Y:=run_sizeOf T w;by_cases h0:min U.length l=0
 .refine⟨.value (.int .i64 ((min U.length l:Nat):Int)),w,I,σ,_,.int .i64 ((min U.length l:Nat):Int),?_,.inl rfl,?_,sT _ _ _ _ rfl,a_⟩
  .have ak:news=[]:=by
    rw[h0]at G;simpa using G
   subst ak;rw[h0]at f⊢;apply hk;cases ad with
   |none=>simp[Builtin.copy_,run_underlying h1,J,K,Z,h0,Y,<-D.2,f,goInt]
   |some ad=>simp[Builtin.copy_,run_underlying h1,J,K,Z,h0,Y,<-D.2,f,goInt,storeCells]
  .rw[fw,ik];have:bB S.h id (some {ob with es:=ob.es.take s++U.take (min U.length l)++ob.es.drop (s+min U.length l)})=S.h:=by
    funext i;simp only[bB,h0,List.take_zero,u_,xt,List.take_append_drop];split
    .rename_i e;subst e;exact g.symm
    .rfl
   rw[this];exact Step.refl R _
 .have ha:=B.le;rcases B.place with n0|⟨b,of,c,el,l9,rfl,y,h2,HG,N⟩
  .omega
  .generalize hq:min U.length l=m at*;have e2:m<=l:=ab
   have hI: ¬I b:=(R.owned ⟨id,ob,of,ob.k,g,l9⟩).1;have W:(s+l)*ob.k<=ob.es.length*ob.k:=ul _ D.1;have g1:m*ob.k<=l*ob.k:=ul _ e2;rw[t1]at W;have A:of+s*ob.k+news.length<=c.size:=by rw[G];omega
   have E:Ext w I σ (w.setRow b (qF c (of+s*ob.k) news)) I σ:=Ext.setRow hI y (pq A);have hf:lh _ b (qF c (of+s*ob.k) news) el:=y.set (pq A);have ku:=ye (P:=X.P) (b:=b) (p:=of+s*ob.k) news 0 c w y ab fun v k=>M.Bq v ab;have mm:ey (w.setRow b (qF c (of+s*ob.k) news)) I (mJ ob.eP σ) (ob.es.take s++U.take m++ob.es.drop (s+m)) ob.k b of:=by
    have hA:=N.TX 0 s;simp only[zy,yo,xt]at hA;obtain⟨L,hr,au,aq⟩:=tZ hA;have hC:=N.TX (s+m) (ob.es.length-(s+m));rw[bQ ai]at hC;obtain⟨hg,hb,hc,hi⟩:=tZ hC;have nr:(ob.es.take s).length=s:=aA
    have g2:(ob.es.drop (s+m)).length=ob.es.length-(s+m):=ai
    rw[nr]at hr;rw[g2]at hb;have S':(s+m)*ob.k=s*ob.k+m*ob.k:=t1 ..;refine vg (E.r8 ob.eP) (us:=L++news++hg) (fun v k=> ?_) ?_ (fun j v k=> ?_)
    .rcases List.mem_append.1 k with k|k
     .rcases List.mem_append.1 k with k|k
      .exact N.lens v (sw k)
      grind
     .exact N.lens v (t_ k)
    .rw[tY,tY];exact(aq.append (fW.ext' _ _ (AH hB) M)).append hi
    .rw[hf.cell,xh A];have dN:=(List.getElem?_eq_some_iff.1 k).1;by_cases hj:j<L.length
     .rw[vD,ug hj]at k;rw[if_neg ab];have:=au j v k;rwa[y.cell]at this
     .by_cases aw:j<(L++news).length
      .rw[ug aw,tu ab]at k;rw[ta]at aw;rw[if_pos ab,show of+j-(of+s*ob.k)=j-L.length from ab];exact k
      .rw[tu ab,ta]at k;rw[ta]at aw;rw[if_neg ab];have:=hc _ v k;rw[y.cell]at this;rwa[show of+(s+m)*ob.k+(j-(L.length+news.length))=of+j from ab]at this
   have hd:(ob.es.take s++U.take m++ob.es.drop (s+m)).length=ob.es.length:=aA
   have e1:=R.write (eP:=ob.eP) g l9 y (pq A) (by rw[hd];exact h2) mm S.n;refine⟨.value (.int .i64 ((m:Nat):Int)),w.setRow b (qF c (of+s*ob.k) news),I,σ,_,.int .i64 ((m:Nat):Int),?_,.inl rfl,?_,sT _ _ _ _ rfl,a_⟩
   rotate_left
   .rw[fw,ik];exact e1
   .apply hk;simp[Builtin.copy_,run_underlying h1,J,K,Z,Y,<-D.2,f,goInt,ku,qF]
theorem CQ: ∀{xs:List V} {s:List UInt8},bytesOf xs=some s-> ∃A:List Int,xs=A.map (V.int .u8)/\s=A.map fun n=>UInt8.ofNat n.toNat
 | [],s,h=>by
  simp only[bytesOf,r_,di,aS]at h
  simp_all
 |x::xs,s,h=>by
  unfold bytesOf at h;simp only[r2]at h;cases hx:byteOf x with
  |none=>simp[hx,di]at h
  |some b=>
   simp only[hx,di]at h;split at h
   case h_2=>cases h
   rename_i l G;simp only[aS]at h;subst h;obtain⟨A,rfl,rfl⟩:=CQ (xs:=xs) G;unfold byteOf at hx;split at hx
   .rename_i n;simp only[aS]at hx;subst hx;exact⟨n::A,rfl,rfl⟩
   grind
theorem DP: ∀s:List Int,flat (s.map (V.int .u8))=s.map (V.int .u8)
 | []=>rfl
 |n::s=>by
  have:=DP s;simp only[flat,r2,List.flatMap_cons,V.cells]at this⊢
  grind
theorem foldl_push(A:List Int): ∀s:ByteArray,(A.foldl (fun r n=>r.push (UInt8.ofNat n.toNat)) s).data.toList=s.data.toList++A.map fun n=>UInt8.ofNat n.toNat:=by
 induction A with
 |nil=>grind
 |cons n A i=>simp_all
theorem VQ {P:Program} {h:bI} (R:Rel w I σ h) {x:V} {u:Value} {xs:List V}  {s:List UInt8} (r:dX w I σ x u) (C:elems h x=some (xs,kx)) (G:x.isStr=false) (f:bytesOf xs=some s)
  {src dst e:TypeId} (K:P.underlying src=some (.slice e)) (z:P.underlying e=some (.int .u8)) (v:P.underlying dst=some .string): ∃y:ByteArray,(convert src dst u).run P w= .ok (.string y) w/\y.data.toList=s:=by
 obtain⟨A,rfl,rfl⟩:=CQ f;have H: ∀e∈A.map (V.int .u8),e.cells.length=1:=by
  exact q_
 obtain⟨h1,news,L,S,b⟩:=Ko (P:=P) R r C G H A.length ai;rw[bQ ai,DP]at b;have Z:news=A.map (Value.int .u8):=by
  rw[ez]at b;refine tl fun j=> ?_;by_cases q:j<A.length
  .have B:j<news.length:=ab
   have:=(b.2 j (V.int .u8 A[j]) news[j] aj (rk B)).2;rw[rk B,this];grind
  .grind
 subst Z;have d: ∃ad cap,u= .slice ad A.length cap:=by
  cases x with
  |sl c es=>
   obtain⟨rfl,_⟩:=C;obtain⟨ad,cap,rfl,_⟩:=r
   grind
  |cX id st l=>
   obtain⟨ad,cap,rfl,_⟩:=r;have:=h1 w;simp[Builtin.lenOf]at this
   grind
  |str s=>cases G
  |_=>simp[elems]at C
 obtain⟨ad,cap,rfl⟩:=d;rw[run_convert_bytes_string w src dst e ad _ cap K z v];cases ad with
 |none=>
  have:A=[]:=by
   simp[Builtin.firstCells]at S;exact S
  subst this;exact⟨.empty,by simp[Conv.bytesToString],rfl⟩
 |some a=>
  refine⟨_,run_bytesToString w a _ cap A ?_,?_⟩
  .simpa[Builtin.firstCells] using S
  .rw[foldl_push];rfl
theorem VR {s d:TypeId} {x:Operand} {es:List V}  {bs:List UInt8} (f:o.op= .convert s d x) {e:TypeId} (K:X.P.underlying s=some (.slice e)) (h:X.P.underlying e=some (.int .u8)) (v:X.P.underlying d=some .string)
  (R:Rel w I σ S.h) (F:jO w I σ S.f a) (hx:oN o) (C:elems S.h (S.ev x)=some (es,kx)) (Y:(S.ev x).isStr=false) (b:bytesOf es=some bs) (p:S1=S.set o.dst (.str bs)):Out X o a w I σ S S1:=by
 have h1:dX w I σ (S.ev x) (a.eval x):=fu (S:=S) F (hx x bz);obtain⟨y,G,rfl⟩:=VQ R h1 C Y b K h v;exact Out.pure (u:= .string y) R (by simp[execOp,f,G]) (by exact⟨y,rfl,rfl⟩) p
theorem wI {h:bI} (R:Rel w I σ h) {L:World} {n k:Nat} {es:List V}  {us:List Value} {c:Array Value} {el:TypeId} (P:L.heap.size=w.heap.size+1) (l: ∀b,b<w.heap.size->L.heap[b]?=w.heap[b]?)
  (a:lh L w.heap.size c el) (h1:L.os=w.os) (K:L.tape=w.tape) (S:L.output=w.output) (W:h n=none) (s:σ n=none)
  (y: ∀e∈es,e.cells.length=k) (r:fW w I (mJ eP σ) (flat es) us) (A: ∀(j:Nat) u,us[j]?=some u->c[j]?=some u):
  Step w I σ h n L I (bB σ n (some (w.heap.size,0,k))) (bB h n (some ⟨k,es,eP⟩)) (n+1):=by
 have p:us.length=es.length*k:=by rw[<-((ez _ _).1 r).1,pW y]
 have m:es.length*k<=c.size:=by
  by_cases h0:us.length=0
  .omega
  .have z:us[us.length-1]?=some (us[us.length-1]' ab):=ai
   grind
 have J:Ext w I σ L I σ:=
  ⟨fun b f=>l b (R.eA b f),fun b c el fz h=>⟨c,fz,aj,rfl⟩,fun _ h=>h,fun _ _ h=>h⟩
 have E:Ext w I σ L I (bB σ n (some (w.heap.size,0,k))):=J.trans (Ext.Vy s);have x:Rel L I σ h:=R.eP J (fun b f=>by have:=R.eA b f;omega) (fun b f=>by
  obtain⟨i,c,el,d⟩:=R.owned f;exact⟨l b d.lt,i⟩) (fun _ _=>rfl)
 have D: ¬I w.heap.size:=fun i=>by have:=R.eA _ i;omega
 have O: ¬ju σ h w.heap.size:=fun g=>by
  obtain⟨_,c',Q,d⟩:=R.owned g;have:=d.lt;omega
 have q:ey L I (mJ eP (bB σ n (some (w.heap.size,0,k)))) es k w.heap.size 0:=vg (E.r8 eP) y r fun j u t=>by
  rw[a.cell]
  grind
 have F:=x.Zp (n:=n) (b:=w.heap.size) (o:=0) (k:=k) (es:=es) (eP:=eP) W s a D O ab q;refine⟨E,F,h1,K,S,ab,fun b f _=>l b f,fun b f=> ?_,fun _ f=> .inl f,ab,fun id v=>aV,fun id v C=>aV⟩;obtain⟨id,ob,o,k',h1,K⟩:=f;by_cases e:id=n
 .grind [bB]
 .right;exact⟨id,ob,o,k',aV,aV⟩
theorem NQ {s d:TypeId} {x:Operand} {bs:List UInt8} (g:o.op= .convert s d x) (B:(X.P.underlying s).isSome=true) (A:X.P.underlying d=some (.slice (X.ti d).elem)) (T:mE X.P (X.ti d).elem (X.ti (X.ti d).elem))
  (M:(X.ti (X.ti d).elem).kind=some .u8) (R:Rel w I σ S.h) (F:jO w I σ S.f a) (hx:oN o) (W:S.h S.n=none) (q:σ S.n=none) (C:S.ev x= .str bs) (J:bs.length<=2^62)
  (K:S1=(S.new ⟨1,bs.map fun c=> .int .u8 c.toNat,false⟩).set o.dst (.cX S.n 0 bs.length)):Out X o a w I σ S S1:=by
 subst K;have h1:dX w I σ (S.ev x) (a.eval x):=fu (S:=S) F (hx x (by simp[g,Op.operands]));rw[C]at h1;obtain⟨y,h,rfl⟩:=h1;obtain⟨N,p⟩:=Option.isSome_iff_exists.1 B;obtain⟨e,z,f⟩:=T.und;have U:e= .int .u8:=by
  cases e<;>simp_all [By]
 subst U;have k:=Lib.run_convert_string_bytes (P:=X.P) w s d (X.ti d).elem y p A z;have G:y.data.toList.length=y.size:=by rw[uy];rfl
 have l: ∀b,b<w.heap.size->(Lib.bytesWorld w (X.ti d).elem y).heap[b]?=w.heap[b]?:=fun b f=>Lib.bytesWorld_at_old w _ y b f;have D:=Lib.bytesWorld_at_new w (X.ti d).elem y;have t:lh (Lib.bytesWorld w (X.ti d).elem y) w.heap.size (Lib.bytesCells w (X.ti d).elem y) (X.ti d).elem:=⟨_,D,.inr (iX _)⟩;have Y:flat (y.data.toList.map fun c=>V.int .u8 c.toNat)=y.data.toList.map fun c=>V.int .u8 c.toNat:=by
  have:=DP (y.data.toList.map fun c=>(c.toNat:Int));simpa[w3,Function.comp_def] using this
 have i: ∀e∈ (y.data.toList.map fun c=>V.int .u8 c.toNat),e.cells.length=1:=by
  exact q_
 have r:fW w I (mJ false σ) (flat (y.data.toList.map fun c=>V.int .u8 c.toNat)) (y.data.toList.map fun c=>Value.int .u8 c.toNat):=by
  rw[Y,ez];refine⟨ai,fun j c u m h=> ?_⟩;simp only[tm,Option.map_eq_some_iff]at m h;obtain⟨b,f,rfl⟩:=m;obtain⟨O,H,rfl⟩:=h;rw[f]at H;cases H;exact⟨rfl,a_⟩
 have E: ∀(j:Nat) u,(y.data.toList.map fun c=>Value.int .u8 c.toNat)[j]?=some u->(Lib.bytesCells w (X.ti d).elem y)[j]?=some u:=by
  intro j u h;have v:=(List.getElem?_eq_some_iff.1 h).1;simp only[r9,G]at v;rw[<-h];unfold Lib.bytesCells;rw[Array.getElem?_append_left aj];simp
 refine⟨_,Lib.bytesWorld w (X.ti d).elem y,I,bB σ S.n (some (w.heap.size,0,1)),.slice (some ⟨w.heap.size,0,none⟩) y.size (grownCap w y.size 0 (X.ti d).elem),.cX S.n 0 y.data.toList.length,by simp[execOp,g,h,k],.inl rfl,?_,sT _ _ _ _ rfl,?_⟩
 .rw[fw,ik];exact wI R (Lib.bytesWorld_size w _ y) l t rfl rfl rfl W q i r E
 .refine⟨_,_,by rw[G],by exact grownCap_ge w _ 0 _,grownCap_le_maxLen w _ 0 _ cv,.inr ⟨w.heap.size,0,1,_,_,_,al,ai,D,?_⟩⟩;have L:y.data.size=y.size:=rfl;unfold Lib.bytesCells
  grind
end
section
variable {X:Env} {o:Oper} {a:Act} {w:World} {I:Nat->Prop} {σ:jI} {S S1:St}
theorem me{t:TypeId}(h:tB X t=true):mE X.P t (X.ti t):=a74 h
theorem JC {t:TypeId} {x:Operand} (f:o.op= .slice t x none none none) (R:Rel w I σ S.h) (F:jO w I σ S.f a) (hx:oN o)
  {m:Nat} (d:X.P.underlying t=some (.array m (X.ti t).elem)) (T:mE X.P (X.ti t).elem (X.ti (X.ti t).elem)) {id:Nat}  {e:V} (D:S.ev x= .ptr id 0 0) (g:S.h id=some ob) (P:ob.es=[e])
  (r:e.cells.all V.pP=true) (l:e.cells.length=m) (L:(X.ti (X.ti t).elem).size=1) (Z:0<m) (Q:m<=1000) (K:S1=({S with h:=bB S.h id none}:St).set o.dst (.sl true e.cells)):Out X o a w I σ S S1:=by
 have h1:dX w I σ (S.ev x) (a.eval x):=fu (S:=S) F (hx x bz);rw[D]at h1;obtain⟨b,of,k,q,A⟩:=h1;rcases R.obj id ob g with⟨Y,_⟩|⟨p,o',c,el,E,n,hh,B,C⟩
 .grind
 rw[E]at q;simp only[aS,cy]at q;rw[P,lg]at C;obtain⟨hk,H,_⟩:=C;have W: ∀i y,bB S.h id none i=some y->S.h i=some y:=fun i y n=>aV
 have st:=Kg R W S.n;have G:zt I σ S.h (bB S.h id none) p:= .inr ⟨⟨id,ob,o',ob.k,g,E⟩,R.Lz g E⟩;subst K;have O:(execOp a.eval o).run X.P w= .ok (.value (.slice (some ⟨p,o',none⟩) m m)) w:=by
  simp[execOp,f,A,Instr.sliceAt,run_underlying d,Instr.sliceBounds,Instr.sureAddr,run_sizeOf T,L,rf]
 refine⟨_,w,zt I σ S.h (bB S.h id none),σ,_,.sl true e.cells,O,.inl rfl,?_,sT _ _ _ _ rfl,?_⟩
 .rw[fw,ik];omega
 .refine⟨_,_,aj,ab,cv,fun _=>l.symm,.inr ⟨p,o',1,rfl,G,?_⟩⟩;rw[l7];intro i v n;have z:v.pP=true:=List.all_eq_true.1 r v (t6 n);have N:v.cells=[v]:=by
   cases v<;>first|rfl|(simp[V.pP]at z)
  refine⟨aj,?_⟩;rw[N];intro j y s;cases j with
  |succ j=>grind
  |zero=>
   simp only[D_,aS]at s;subst s;obtain⟨u,g1,J,M⟩:=H i v n;refine⟨u,aj,J,?_⟩;have U:dX w I fJ v u:=vf (σ:=mJ ob.eP σ) z M;exact U.ext st.ext.Ls
theorem Ts{hq:Nat}(B:VE X hq o=true)(R:Rel w I σ S.h)(F:jO w I σ S.f a)(hn:S.h S.n=none)(aq:σ S.n=none)(cR:FuncId)(C:zs X cR o S=some S1):Out X o a w I σ S S1:=by
 unfold zs at C;split at C
 case h_2=>grind
 rename_i bp c1 ht n0;have N:S1=({S with h:=c1,n:=ht}:St).set o.dst bp:=by simpa using C.symm
 have C:=n0;unfold VE at B;rw[X8,X8]at B;obtain⟨⟨_,hx⟩,B⟩:=B;have hx:oN o:=fun x Z=>List.all_eq_true.1 hx x Z;cases A:o.op with
 |move x=>
  simp only[dm,A,aS,cy]at C;obtain⟨rfl,rfl,rfl⟩:=C;exact NC (.inl A) R F hx N
 |assign x=>
  simp only[dm,A,aS,cy]at C;obtain⟨rfl,rfl,rfl⟩:=C;exact NC (.inr A) R F hx N
 |pick c p q=>
  simp only[dm,A]at C;split at C
  .rename_i t hc;obtain⟨rfl,rfl,rfl⟩:=C;exact Zt A R F hx hc N
  grind
 |alloc t=>
  simp only[dm,A,aS,cy]at C;obtain⟨rfl,rfl,rfl⟩:=C;simp only[A]at B;exact VF A (me B) R hn aq N
 |box t x=>
  simp only[dm,A]at C;split at C
  .rename_i K;obtain⟨rfl,rfl,rfl⟩:=C;exact YL A R F hx hn aq K N
  grind
 |build t ps=>
  simp only[dm,A]at C;simp only[A,X8,ua,beq_iff_eq]at B;have T:=me B.1;have au:(X.ti t).arr=none\/mE X.P (X.ti t).elem (X.ti (X.ti t).elem):=B.2.imp_right me;split at C
  .rename_i ha;split at C
   .grind
   .rename_i ah;split at C
    .rename_i cs K;obtain⟨rfl,rfl,rfl⟩:=C;exact Kl A T au R F hx (.inl ⟨ha,K,ah⟩) N
    grind
  .rename_i m ha;split at C
   .rename_i cs K;obtain⟨rfl,rfl,rfl⟩:=C;exact Kl A T au R F hx (.inr ⟨m,ha,K⟩) N
   grind
 |buildSlice t n ps=>
  simp only[dm,A]at C;simp only[A,X8,decide_eq_true_eq]at B;obtain⟨⟨h1,L⟩,U⟩:=B;split at C
  .split at C
   .rename_i es K;obtain⟨rfl,rfl,rfl⟩:=C;exact Bk A (lS h1) (me L) U R F hx hn aq K N
   grind
  .split at C
   .split at C
    case h_2=>grind
    rename_i l h Y;split at C
    case h_2=>grind
    rename_i es K;obtain⟨rfl,rfl,rfl⟩:=C;exact vj (th:=false) A (lS h1) (me L) U R F hx hn aq (GV Y) K aj
   split at C
   .rename_i l h Y;split at C
    .rename_i es K;split at C
     .obtain⟨rfl,rfl,rfl⟩:=C;exact vj (th:=true) A (lS h1) (me L) U R F hx hn aq Y K (by exact N)
     .obtain⟨rfl,rfl,rfl⟩:=C;exact vj (th:=false) A (lS h1) (me L) U R F hx hn aq Y K aj
    grind
   grind
 |load t x=>
  simp only[dm,A]at C;simp only[A]at B;split at C
  .rename_i id i f Q;split at C
   .rename_i ob gX;split at C
    .rename_i e W;split at C
     .rename_i v D;obtain⟨rfl,rfl,rfl⟩:=C;exact Lw A (me B) R F hx Q gX W D N
     grind
    grind
   grind
  .rename_i cs Q;split at C
   .rename_i v D;obtain⟨rfl,rfl,rfl⟩:=C;exact Lx A (me B) R F hx Q D N
   grind
  grind
 |store t x y=>
  simp only[dm,A]at C;simp only[A,X8,beq_iff_eq]at B;split at C
  .rename_i id i f Q;split at C
   .rename_i ts h0;split at C
    .rename_i v h Y;split at C
     .rename_i ob gX;split at C
      .rename_i e W;split at C
       .rename_i K;obtain⟨rfl,rfl,rfl⟩:=C;exact VH A (me B.1) R F hx Q h0 Y gX W K B.2 (by rw[N,B.2];rfl)
       grind
      grind
     grind
    grind
   grind
  grind
 |nilCheck x=>
  simp only[dm,A]at C;split at C
  .rename_i id i f Q;obtain⟨rfl,rfl,rfl⟩:=C;exact yf A R F hx (.inl ⟨id,i,f,Q⟩) bu
  .rename_i cs Q;obtain⟨rfl,rfl,rfl⟩:=C;exact yf A R F hx (.inr (.inl ⟨cs,Q⟩)) bu
  .rename_i g p q Q;obtain⟨rfl,rfl,rfl⟩:=C;exact yf A R F hx (.inr (.inr ⟨g,p,q,Q⟩)) bu
  grind
 |binOp op t x y ty=>
  simp only[dm,A]at C;simp only[A]at B;split at C
  .rename_i v D;obtain⟨rfl,rfl,rfl⟩:=C;refine VI A (fun h=> ?_) R F hx D N
   grind
  .cases C
 |unOp op t x=>
  simp only[dm,A]at C;split at C
  .rename_i v D;simp only[aS,cy]at C;obtain⟨rfl,rfl,rfl⟩:=C;exact Zw A R F hx D N
  .cases C
 |convert s d x=>
  simp only[dm,A]at C;simp only[A,X8]at B;split at C
  .rename_i k k' n O D;simp only[aS,cy]at C;obtain⟨rfl,rfl,rfl⟩:=C;exact NG A (me B.1.1.1) B.1.1.2 R F hx O D N
  .rename_i v O D;split at C
   case isFalse=>
    obtain⟨bP,hL,fv,aa,hl,rfl,rfl,rfl⟩:=u9 C;have aw:=B.2;have ae:(X.ti d).kind=none:=fH
    simp only[bP,hL,ae,beq_self_eq_true,yr,Bool.or_false,zx,Option.isSome_none,X8]at aw;exact NQ A B.1.1.2 (lS aw.1) (me aw.2) hL R F hx hn aq aa hl N
   rename_i ku;split at C
   case h_2=>cases C
   rename_i es fG cz;split at C
   case h_2=>cases C
   rename_i bs g3;simp only[aS,cy]at C;obtain⟨rfl,rfl,rfl⟩:=C;have M:=B.1.2;simp only[ku.1,yr,zx,X8]at M;have hd:X.P.underlying d=some .string:=by
    have:=M.1;split at this
    .assumption
    .cases this
   obtain⟨e,cQ,mm⟩: ∃e,X.P.underlying s=some (.slice e)/\X.P.underlying e=some (.int .u8):=by
    have:=M.2;split at this
    .rename_i e h1;split at this
     .rename_i L;exact⟨e,h1,L⟩
     .cases this
    .cases this
   exact VR A cQ mm hd R F hx cz ku.2 g3 N
  .cases C
 |makeFunc c p q=>
  cases c with
  |func g=>
   simp only[dm,A,aS,cy]at C;obtain⟨rfl,rfl,rfl⟩:=C;exact LA A R F hx N
  |_=>simp[dm,A]at C
 |makeSlice t l c=>
  simp only[dm,A]at C;simp only[A,X8]at B;split at C
  .rename_i n m hl hc;split at C
   .rename_i G;simp only[aS,cy]at C;obtain⟨rfl,rfl,rfl⟩:=C;exact Jz A (lS B.1) (me B.2) R F hx hn aq hl hc G N
   .cases C
  .cases C
 |slice t x c2 W g2=>
  simp only[dm,A]at C;simp only[A]at B;split at C
  case isFalse=>cases C
  rename_i an;split at C
  ·
   rename_i c es D;have hr:(X.ti t).isStr=false:=ea
   have E:X.P.underlying t=some (.slice (X.ti t).elem)/\tB X (X.ti t).elem=true:=by
    split at B
    .exact ml
    .exact p_
    .exact pF
    .cases B
   split at C
   case isFalse=>cases C
   rename_i g1;cases g2 with
   |none=>
    simp only at C;split at C
    .rename_i l h G;simp only[aS,cy]at C;obtain⟨rfl,rfl,rfl⟩:=C;exact LC A R F hx E.1 (me E.2) D g1 G N
    .cases C
   |some m=>
    simp only at C;split at C
    .rename_i k1 p k2 q Z hh;split at C
     .rename_i ay;subst ay;split at C
      .rename_i l h G;simp only[aS,cy]at C;obtain⟨rfl,rfl,rfl⟩:=C;exact Jw A R F hx E.1 (me E.2) D g1 Z hh G N
      .cases C
     .cases C
    .cases C
  .rename_i id s n D;have hr:(X.ti t).isStr=false:=ea
   have E:X.P.underlying t=some (.slice (X.ti t).elem)/\tB X (X.ti t).elem=true:=by
    split at B
    .exact ml
    .exact p_
    .exact pF
    .cases B
   split at C
   .rename_i ob gX;split at C
    case isFalse=>cases C
    rename_i O;split at C
    .rename_i l h G;simp only[aS,cy]at C;obtain⟨rfl,rfl,rfl⟩:=C;exact Jx A R F hx E.1 (me E.2) D gX O G N
    .cases C
   .rename_i m ob gX;split at C
    case isFalse=>cases C
    rename_i O;split at C
    .rename_i k1 p k2 q Z hh;split at C
     .rename_i ay;subst ay;split at C
      .rename_i l h G;simp only[aS,cy]at C;obtain⟨rfl,rfl,rfl⟩:=C;exact GO A R F hx E.1 (me E.2) D gX O Z hh G N
      .cases C
     .cases C
    .cases C
   .cases C
  .rename_i s D;have hr:(X.ti t).isStr=true:=ea
   have E:X.P.underlying t=some .string:=by
    split at B
    .rename_i e E;exact p_
    .rename_i E;exact E
    .exact p_
    .cases B
   cases g2 with
   |none=>
    simp only at C;split at C
    .rename_i l h G;simp only[aS,cy]at C;obtain⟨rfl,rfl,rfl⟩:=C;exact Jy A R F hx E D G N
    .cases C
   |some m=>cases C
  .rename_i id D;split at C
   case h_2=>cases C
   rename_i m ob ho gX;split at C
   case h_2=>cases C
   rename_i e hz;split at C
   case isFalse=>cases C
   rename_i hc;simp only[aS,cy]at C;obtain⟨rfl,rfl,rfl⟩:=C;have hr:(X.ti t).isStr=false:=ea
   have E:X.P.underlying t=some (.array m (X.ti t).elem)/\tB X (X.ti t).elem=true/\m<=1000:=by
    split at B
    .simp only[X8,beq_iff_eq]at B;rw[ho]at B;simp at B
    .exact p_
    .rename_i n bT E;simp only[X8,beq_iff_eq,decide_eq_true_eq]at B;obtain⟨⟨⟨⟨_,L⟩,U⟩,h4⟩,h5⟩:=B;rw[ho]at L;simp only[aS]at L;subst L;subst U;exact⟨E,h4,h5⟩
    .cases B
   exact JC A R F hx E.1 (me E.2.1) D gX hz hc.1 hc.2.1 hc.2.2.1 hc.2.2.2 E.2.2 N
  .cases C
 |fieldAddr t x i=>
  simp only[dm,A]at C;simp only[A]at B;split at C
  .rename_i off k K;split at C
   .rename_i id j f D;simp only[aS,cy]at C;obtain⟨rfl,rfl,rfl⟩:=C;exact Bz A (me B) R F hx K (.inl ⟨id,j,f,D,rfl⟩) N
   .rename_i cs D;simp only[aS,cy]at C;obtain⟨rfl,rfl,rfl⟩:=C;exact Bz A (me B) R F hx K (.inr ⟨cs,D,rfl⟩) N
   .cases C
  .cases C
 |indexAddr t x S'=>
  simp only[dm,A]at C;simp only[A,X8,ua,beq_iff_eq,bne_iff_ne]at B;split at C
  .rename_i k n W;split at C
   .rename_i c es D;split at C
    .rename_i h0;split at C
     .rename_i e Y;split at C
      .rename_i O;simp only[aS,cy]at C;obtain⟨rfl,rfl,rfl⟩:=C;rcases B.1 with G|G
       .exact LB A (lS G.2) (me B.2) R F hx D W h0.1 Y O N
       .exact absurd h0.2 G.2
      .cases C
     .cases C
    .cases C
   .rename_i id s l D;split at C
    .rename_i h0;split at C
     .rename_i ob Y;split at C
      .rename_i O;simp only[aS,cy]at C;obtain⟨rfl,rfl,rfl⟩:=C;rcases B.1 with G|G
       .exact Js A (lS G.2) (me B.2) R F hx D W h0.1 Y O N
       .exact absurd h0.2 G.2
      .cases C
     .cases C
    .cases C
   .rename_i id j f D;split at C
    .rename_i m Z;split at C
     .rename_i h0;simp only[aS,cy]at C;obtain⟨rfl,rfl,rfl⟩:=C;rcases B.1 with G|G
      .rw[Z]at G;exact absurd G.1 ai
      .exact Jt A (me G.1) (me B.2) R F hx D W Z h0 N
     .cases C
    .cases C
   .cases C
  .cases C
 |index t x S'=>
  simp only[dm,A]at C;simp only[A,X8,ua,beq_iff_eq,bne_iff_ne]at B;obtain⟨⟨h1,L⟩,U⟩:=B;split at C
  .rename_i k n W;split at C
   .rename_i s D;split at C
    .rename_i h0;split at C
     .rename_i b Y;simp only[aS,cy]at C;obtain⟨rfl,rfl,rfl⟩:=C;have E:X.P.underlying t=some .string:=by
       rcases U with U|U
       .exact absurd h0.2 U
       .split at U
        .assumption
        .cases U
      exact Jv A E R F hx D W h0.1 Y N
     .cases C
    .cases C
   .rename_i cs D;split at C
    .rename_i m Z;split at C
     .rename_i h0;split at C
      .rename_i v hs;simp only[aS,cy]at C;obtain⟨rfl,rfl,rfl⟩:=C;have au:tB X (X.ti t).elem=true:=by
        rcases L with L|L
        .rw[Z]at L;cases L
        .exact L
       exact Ju A (me h1) (me au) R F hx D W Z h0 hs N
      .cases C
     .cases C
    .cases C
   .cases C
  .cases C
 |field t x f=>
  simp only[dm,A]at C;simp only[A,X8]at B;obtain⟨hT,B⟩:=B;split at C
  .rename_i cs D;split at C
   .rename_i k z O;split at C
    .rename_i v Q;simp only[aS,cy]at C;obtain⟨rfl,rfl,rfl⟩:=C;split at B
     .rename_i bV E;split at B
      .rename_i bW k' bS K hj;rw[O]at hj;simp only[aS,cy]at hj;simp only[X8,beq_iff_eq]at B;obtain⟨e1,e2⟩:=B;exact VK A E K (by rw[e1];exact me hT) R F hx D (by rw[e1,e2,<-hj.1];exact Q) N
      .cases B
     .cases B
    .cases C
   .cases C
  .cases C
 |extract x i=>
  simp only[dm,A]at C;split at C
  .rename_i vs D;split at C
   .rename_i v W;simp only[aS,cy]at C;obtain⟨rfl,rfl,rfl⟩:=C;exact NH A R F hx D W N
   .cases C
  .cases C
 |call c=>
  obtain⟨VS,args,mW⟩:=c;cases VS with
  |builtin b=>
   cases b with
   |len=>
    simp only[dm,A]at C;simp only[A,X8]at B;split at C
    .rename_i x H;cases J:args.toList with
     |nil=>simp[J]at H
     |cons p q=>
     cases q with
     |cons _ _=>simp[J]at H
     |nil=>
     simp only[J,r2,r_,ui,and_true]at H;subst H;cases P:mW.toList with
     |nil=>simp[P]at B
     |cons t r=>
     have dN:mW[0]?=some t:=by rw[<-Array.getElem?_toList,P];rfl
     have ak:mW.getD 0 0=t:=by simp[uD,dN]
     rw[ak]at C;split at C
     .rename_i ku;split at C
      .rename_i n hl;simp only[aS,cy]at C;obtain⟨rfl,rfl,rfl⟩:=C;refine YM A J dN ?_ R F hx ku hl N;have M:=B.2;simp only[P]at M;split at M
       .rename_i e E;exact .inl ⟨⟨e,E⟩,by simpa using M⟩
       .rename_i E;exact .inr ⟨E,M⟩
       .cases M
      .cases C
     .cases C
    .cases C
   |min=>
    simp only[dm,A]at C;split at C
    .rename_i k p k' q H;split at C
     .rename_i O;subst O;simp only[aS,cy]at C;obtain⟨rfl,rfl,rfl⟩:=C;cases J:args.toList with
      |nil=>simp[J]at H
      |cons p q=>
      cases q with
      |nil=>simp[J]at H
      |cons q q2=>
      cases q2 with
      |cons _ _=>simp[J]at H
      |nil=>
      simp only[J,r2,r_,ui,and_true]at H;exact Ua false A J R F hx H.1 H.2 (by simpa using N)
     .cases C
    .cases C
   |max=>
    simp only[dm,A]at C;split at C
    .rename_i k p k' q H;split at C
     .rename_i O;subst O;simp only[aS,cy]at C;obtain⟨rfl,rfl,rfl⟩:=C;cases J:args.toList with
      |nil=>simp[J]at H
      |cons p q=>
      cases q with
      |nil=>simp[J]at H
      |cons q q2=>
      cases q2 with
      |cons _ _=>simp[J]at H
      |nil=>
      simp only[J,r2,r_,ui,and_true]at H;exact Ua true A J R F hx H.1 H.2 (by simpa using N)
     .cases C
    .cases C
   |append=>
    simp only[A,X8]at B;cases P:mW.toList with
    |nil=>simp[P]at B
    |cons t r=>
    cases r with
    |nil=>simp[P]at B
    |cons u r=>
    have M:=B.2;simp only[P,X8]at M;refine Q4 A P (lS M.1.1) (me M.1.2) ?_ R F hx hn aq cR n0 N;have U:=M.2;split at U
    .rename_i e E;exact .inl (.inl ⟨e,E⟩)
    .rename_i E;exact .inl (.inr E)
    .exact .inr U
   |copy=>
    simp only[A,X8]at B;cases P:mW.toList with
    |nil=>simp[P]at B
    |cons t r=>
    cases r with
    |nil=>simp[P]at B
    |cons u r=>
    have M:=B.2;simp only[P,X8]at M;exact ZG A P (lS M.1.1) (me M.1.2) R F hx cR n0 N
   |_=>simp[dm,A]at C
  |_=>simp[dm,A]at C
 |_=>simp[dm,A]at C
end
def lU{m s:Type}(f:m->Option s): ∀{l:List m} {r:List s},di (l.map f)=some r->l.length=r.length/\ ∀(j:Nat) x y,l[j]?=some x->r[j]?=some y->f x=some y
 | [],r,h=>by
  simp only[r_,di,aS]at h
  grind
 |x::l,r,h=>by
  simp only[r2]at h;cases hx:f x with
  |none=>simp[di,hx]at h
  |some y=>
   simp only[di,hx]at h;split at h
   .rename_i C G;simp only[aS]at h;subst h;obtain⟨h1,K⟩:=lU f G
    grind
   grind
section
variable {w:World} {I J:Nat->Prop} {σ:jI} {h:bI}
theorem tw{d:Nat}{cs:List V}{v:V}(t:da h (d+1) (.agg cs)=some v): ∃l,v= .agg l/\di (cs.map (da h d))=some l:=by
 simp only[da]at t
 grind
theorem AI{d:Nat}{cs:List V}{v:V}(t:da h (d+1) (.ed cs)=some v): ∃l,v= .ed l/\di (cs.map (da h d))=some l:=by
 simp only[da]at t
 grind
theorem AJ{d:Nat}{v U:V}(t:da h d v=some U)(i: ∀cs,v≠ .agg cs): ∀cs,U≠ .agg cs:=by
 intro cs e;subst e;cases v with
 |agg n=>grind
 |ed n=>
  cases d with
  |zero=>simp[da]at t
  |succ d=>obtain⟨l,h1,_⟩:=AI t;grind
 |cX id s l=>
  cases d with
  |zero=>simp[da]at t
  |succ d=>
   simp only[da]at t
   grind
 |fn g a b=>cases a<;>cases b<;>cases d<;>simp[da]at t
 |_=>cases d<;>simp[da]at t
theorem mP{v:V}(h: ∀cs,v≠ .agg cs):v.cells=[v]:=by
 cases v with
 |agg cs=>grind
 |_=>rfl
theorem NR: ∀{d:Nat} {v U:V},da h d v=some U->da h (d+1) v=some U
 |0,v,U,t=>by
  cases v with
  |fn g a b=>cases a<;>cases b<;>simp_all [da]
  |_=>first|(simp[da]at t;done)|(simpa[da] using t)
 |d+1,v,U,t=>by
  have key: ∀{cs l:List V},di (cs.map (da h d))=some l->di (cs.map (da h (d+1)))=some l:=by
   intro cs;induction cs with
   |nil=>grind
   |cons c cs i=>
    intro l G;simp only[r2]at G⊢;cases m:da h d c with
    |none=>simp[m,di]at G
    |some c'=>
     simp only[m,di]at G;split at G
     .rename_i C B;simp only[di,NR m,i B];omega
     grind
  cases v with
  |agg cs=>
   obtain⟨l,rfl,G⟩:=tw t;rw[da]
   grind
  |ed cs=>
   obtain⟨l,rfl,G⟩:=AI t;rw[da]
   grind
  |cX id s l=>
   rw[da]at t⊢
   grind
  |fn g a b=>cases a<;>cases b<;>simp_all [da]
  |_=>first|(simp[da]at t;done)|(simpa[da] using t)
theorem v8(R:Rel w I σ h)(hx: ∀b,I b->J b)(an: ∀b,ju σ h b->J b): ∀(d:Nat) (v U:V) (u:Value),da h d v=some U->dX w I σ v u->dX w J fJ U u:=by
 have he:Ext w I fJ w J fJ:=⟨fun _ _=>rfl,fun _ c _ fz f=>⟨c,fz,f,rfl⟩,hx,fun _ _ f=>f⟩;intro d;induction d with
 |zero=>
  intro v U u t C;have m:v.pP=true/\U=v:=by
   cases v with
   |fn g a b=>cases a<;>cases b<;>simp[da]at t⊢ <;>simp_all [V.pP]
   |_=>simp[da]at t⊢ <;>simp_all [V.pP]
  rw[m.2];exact(vf m.1 C).ext he
 |succ d ih=>
  intro v U u t C;by_cases p:v.pP=true
  .have m:U=v:=by
    cases v with
    |fn g a b=>cases a<;>cases b<;>simp[da]at t⊢ <;>simp_all [V.pP]
    |_=>first|(simp[da]at t⊢;simp_all [V.pP];done)|(simp[V.pP]at p)
   rw[m];exact(vf p C).ext he
  .cases v with
   |agg cs=>
    obtain⟨l,rfl,G⟩:=tw t;obtain⟨h1,M⟩:=lU _ G;obtain⟨y,rfl,E⟩:=C;rw[ez]at E;refine⟨y,rfl,?_⟩;rw[ez];refine⟨ab,fun j c' au aq O=> ?_⟩
    grind
   |ed cs=>
    obtain⟨l,rfl,G⟩:=AI t;obtain⟨h1,M⟩:=lU _ G;obtain⟨y,rfl,E⟩:=C;rw[mZ]at E;refine⟨y,rfl,?_⟩;rw[mZ];refine⟨ab,fun j c' au aq O=> ?_⟩;have hj:j<cs.length:=by rw[h1];exact(List.getElem?_eq_some_iff.1 aq).1
    have aa:cs[j]?=some cs[j]:=ai
    grind
   |cX id s l=>
    simp only[da]at t;cases X:h id with
    |none=>grind
    |some ob=>
    simp only[X]at t;split at t
    case isFalse=>grind
    rename_i aw;have z: ∀b o k,σ id=some (b,o,k)->J b:=fun b o k L=>an b ⟨id,ob,o,k,X,L⟩;by_cases D:ob.eP=true
    .simp only[D,if_true]at t;split at t
     case h_2=>grind
     rename_i hg G;simp only[aS]at t;subst t;obtain⟨h1,M⟩:=lU _ G;have n:((ob.es.drop s).take l).length=l:=aA
     obtain⟨ad,cap,rfl,B⟩:=NP R C X;refine⟨ad,cap,aj,by rw[<-h1,n];exact B.le,B.max,fun f=>aj,?_⟩;rcases B.place with hp|⟨b,o,c,el,L,F,hb,_,_,gI⟩
     .left;have:=B.le
      simp_all
     .right;refine⟨b,o+s*ob.k,ob.k,F,z b o ob.k L,?_⟩;have Q:=gI.TX s l;rw[D]at Q;rw[l7]at Q⊢;intro i cQ T;have hn:i<((ob.es.drop s).take l).length:=by rw[h1];exact(List.getElem?_eq_some_iff.1 T).1
      have H:((ob.es.drop s).take l)[i]?=some ((ob.es.drop s).take l)[i]:=rk hn;have r:=M i _ _ H T;obtain⟨q,K⟩:=Q i _ H;generalize ((ob.es.drop s).take l)[i]=e at r q K;by_cases N: ∃cs,e= .agg cs
      .obtain⟨cs,rfl⟩:=N;cases d with
       |zero=>simp[da]at r
       |succ d=>
        obtain⟨ak,rfl,h3⟩:=tw r;obtain⟨g1,g2⟩:=lU _ h3;refine⟨by simpa[V.cells,<-g1] using q,fun j c' A=> ?_⟩;have mm:j<cs.length:=by rw[g1];exact(List.getElem?_eq_some_iff.1 A).1
        have x:cs[j]?=some cs[j]:=ai
        obtain⟨u,S,Y,Z⟩:=K j _ x;refine⟨u,S,Y,?_⟩;have ho:da h (d+1) cs[j]=some c':=by
         have:=g2 j _ _ x A;exact NR this
        exact ih _ _ _ ho Z
      .have W: ∀cs,e≠ .agg cs:=fun cs f=>N ⟨cs,f⟩;have P:=AJ r W;rw[mP W]at q K;rw[mP P];refine⟨q,fun j c' A=> ?_⟩;cases j with
       |zero=>
        simp at A;subst A;obtain⟨u,S,Y,Z⟩:=K 0 e ai;exact⟨u,S,Y,ih _ _ _ r Z⟩
       |succ j=>grind
    .simp only[D,r3,if_false,aS]at t;subst t;exact T5 R C X aj aw hx z
   |fn g a b=>cases a<;>cases b<;>simp_all [da,V.pP]
   |_=>first|(simp[V.pP]at p;done)|(simp[da]at t)
end
end Go.Abs
