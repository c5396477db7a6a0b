import Derived.Test.YtdngefmliibcgaaGreatB21
import Derived.Test.YtdngefmliibcgaaGreatB22
set_option linter.all false
set_option maxRecDepth 20000
set_option maxHeartbeats 0
namespace Go.Proofs.YtdngefmliibcgaaGreat
open Go Go.Abs Go.Abs.jJ Qf
variable  {b k n C L T:Nat}{d key v rg o a:Int}{p:g9}{g:Option (List gc)}{mm:aN}{h h':bI}{vB:V}{ids bH:Nat->Nat}
@[simp]def ov(c b j E R F O k Y:Int)(U V:List fd)(d G T A:Int)(W:List fd)(P:Int)(Z:Bool)(h1:U.length<=1000000000)(K:V.length<=1000000000)(S:W.length<=1000000000):cG X 71 [xb c b j E R F O k Y U V d G T A W P Z]=some (.bool (gS (wd c b j E R F O k Y U V d G T A W P Z))):=by
 refine ij ?_;have h:=cr E R F O k Y U V 0 0 0 0 0 0 [] [] h1 K;simp only[r_]at h;rw[show io.mk 0 0 0 0 0 0 [] []=ep from rfl]at h;by_cases t0:0<=b
 case neg=>
  have e:gS (wd c b j E R F O k Y U V d G T A W P Z)=false:=fY
  rw[e];have l:b<0:=ab
  simp[l]
 by_cases H:b<4
 case neg=>
  have e:gS (wd c b j E R F O k Y U V d G T A W P Z)=false:=by unfold gS;rw[decide_eq_false H];simp
  rw[e];have l: ¬b<0:=ab
  have J:4<=b:=ab
  simp[l,J]
 rw[Vd (e:=(h_.mk c b j (v_ E R F O k Y U V) (wl d G T A W P Z))) ⟨t0,H⟩];obtain⟨i,C⟩:=x_ (decide ((⟨E,R,F,O,k,Y,U,V⟩:io)=ep));rw[C]at h;have es:YB (wd c b j E R F O k Y U V d G T A W P Z)=i:=C;obtain⟨r,n⟩:=x_ (ko (⟨E,R,F,O,k,Y,U,V⟩:io));have D:J8 (wd c b j E R F O k Y U V d G T A W P Z)=(r&&decide (E=b)):=by unfold J8;rw[<-n]
 obtain⟨p,o⟩:=x_ (FQ (⟨⟨d,G,T,A⟩,W,P,Z⟩:eI));obtain⟨g,z⟩:=x_ (oA (⟨⟨d,G,T,A⟩,W,P,Z⟩:eI));have w:Bv (wd c b j E R F O k Y U V d G T A W P Z)=if c=1 then decide (1<=j)&& (decide (j<=64)&& ((r&&decide (E=b))&& (decide (¬R=3)&&p)))
   else if c=2 then decide (j=0)&& ((r&&decide (E=b))&& (decide (R=1)&&g))
   else if c=3 then decide (j=0)&& (i&&p)
   else if c=4 then decide (j=0)&& (i&& (g&& (decide (P= -1)&& (!Z&&decide (W.length=0)))))
   else false:=by unfold Bv;rw[D,es];simp only[o,z]
 rw[w];have J: ¬4<=b:=ab
 have l: ¬b<0:=ab
 obtain⟨a,s⟩:=x_ (r&&decide (E=b));rw[s];by_cases k1:c=1
 .subst k1;by_cases u:1<=j
  case neg=>
   cases r with
   |false=>
    have t:a=false:=bm
    exact kd
   |true=>
    by_cases q:E=b
    .subst q;have t:a=true:=bg
     exact kd
    .have t:a=false:=aX
     exact m_
  by_cases B:j<=64
  case neg=>
   cases r with
   |false=>
    have t:a=false:=bm
    exact m8
   |true=>
    by_cases q:E=b
    .subst q;have t:a=true:=bg
     exact m8
    .have t:a=false:=aX
     subst t;simp[-cr,h,h1,K,l,J,n,q,u,B]
  by_cases f:R=3
  .subst f;cases r with
   |false=>
    have t:a=false:=bm
    exact m8
   |true=>
    by_cases q:E=b
    .subst q;have t:a=true:=bg
     exact m8
    .have t:a=false:=aX
     subst t;simp[-cr,h,h1,K,l,J,n,q,u,B]
  .skip
   cases r with
   |false=>
    have t:a=false:=bm
    subst t;simp[-cr,h,h1,K,l,J,n,u,B,f]
   |true=>
    by_cases q:E=b
    .subst q;have t:a=true:=bg
     subst t;simp[-cr,h,h1,K,l,J,o,n,u,B,f]
    .have t:a=false:=aX
     subst t;simp[-cr,h,h1,K,l,J,n,q,u,B,f]
 by_cases k2:c=2
 .subst k2;by_cases u:j=0
  case neg=>
   cases r with
   |false=>
    have t:a=false:=bm
    exact kd
   |true=>
    by_cases q:E=b
    .subst q;have t:a=true:=bg
     exact kd
    .have t:a=false:=aX
     exact m_
  subst u;by_cases f:R=1
  .subst f;cases r with
   |false=>
    have t:a=false:=bm
    exact l8
   |true=>
    by_cases q:E=b
    .subst q;have t:a=true:=bg
     exact kh
    .have t:a=false:=aX
     exact qc
  .skip
   cases r with
   |false=>
    have t:a=false:=bm
    subst t;simp[-cr,h,h1,K,l,J,n,f]
   |true=>
    by_cases q:E=b
    .subst q;have t:a=true:=bg
     subst t;simp[-cr,h,h1,K,l,J,n,f]
    .have t:a=false:=aX
     subst t;simp[-cr,h,h1,K,l,J,n,q,f]
 by_cases k3:c=3
 .subst k3;by_cases u:j=0
  case neg=>
   cases r with
   |false=>
    have t:a=false:=bm
    exact kd
   |true=>
    by_cases q:E=b
    .subst q;have t:a=true:=bg
     exact kd
    .have t:a=false:=aX
     exact m_
  subst u;cases i
  .skip
   cases r with
   |false=>
    have t:a=false:=bm
    exact l8
   |true=>
    by_cases q:E=b
    .subst q;have t:a=true:=bg
     exact l8
    .have t:a=false:=aX
     exact qc
  .skip
   cases r with
   |false=>
    have t:a=false:=bm
    subst t;simp[-cr,h,h1,K,l,J,o,n]
   |true=>
    by_cases q:E=b
    .subst q;have t:a=true:=bg
     subst t;simp[-cr,h,h1,K,l,J,o,n]
    .have t:a=false:=aX
     subst t;simp[-cr,h,h1,K,l,J,o,n,q]
 by_cases v:c=4
 .subst v;by_cases u:j=0
  case neg=>
   cases r with
   |false=>
    have t:a=false:=bm
    exact kd
   |true=>
    by_cases q:E=b
    .subst q;have t:a=true:=bg
     exact kd
    .have t:a=false:=aX
     exact m_
  subst u;cases i
  .skip
   cases r with
   |false=>
    have t:a=false:=bm
    exact l8
   |true=>
    by_cases q:E=b
    .subst q;have t:a=true:=bg
     exact l8
    .have t:a=false:=aX
     exact qc
  cases g
  .skip
   cases r with
   |false=>
    have t:a=false:=bm
    exact kh
   |true=>
    by_cases q:E=b
    .subst q;have t:a=true:=bg
     exact kh
    .have t:a=false:=aX
     exact pI
  by_cases m:P= -1
  case neg=>
   cases r with
   |false=>
    have t:a=false:=bm
    subst t;simp[-cr,h,h1,K,S,l,J,z,n,m]
   |true=>
    by_cases q:E=b
    .subst q;have t:a=true:=bg
     subst t;simp[-cr,h,h1,K,S,l,J,z,n,m]
    .have t:a=false:=aX
     subst t;simp[-cr,h,h1,K,S,l,J,z,n,q,m]
  subst m;cases Z
  .skip
   cases r with
   |false=>
    have t:a=false:=bm
    exact kh
   |true=>
    by_cases q:E=b
    .subst q;have t:a=true:=bg
     exact kh
    .have t:a=false:=aX
     exact pI
  .skip
   cases r with
   |false=>
    have t:a=false:=bm
    exact kh
   |true=>
    by_cases q:E=b
    .subst q;have t:a=true:=bg
     exact kh
    .have t:a=false:=aX
     exact pI
 cases r with
 |false=>
  have t:a=false:=bm
  subst t;simp[-cr,h,h1,K,l,J,n,k1,k2,k3,v]
 |true=>
  by_cases q:E=b
  .subst q;have t:a=true:=bg
   subst t;simp[-cr,h,h1,K,l,J,n,k1,k2,k3,v]
  .have t:a=false:=aX
   subst t;simp[-cr,h,h1,K,l,J,n,q,k1,k2,k3,v]
@[simp]def ahs:cG X 239 []=some (.sl false (fp.map cP.e)):=by
 refine ij ?_;simp;refine dO (fun i S=>(S.f 1= .cX 1 0 ((AS i)).length/\S.h 1=some ⟨3,(AS i),false⟩/\S.f 5= .int .i64 (4)/\S.f 6=(i:Int)/\S.n=1100)/\True) (4) ab ?_ ?_ ?_
 .rintro i S ⟨q,O,c⟩ ⟨d,f⟩;have:i=0\/i=1\/i=2\/i=3:=ab
  exact qe
 .rintro S ⟨d,f⟩;simp[d]<;>(
   rfl)
 .simp<;>(
   exact⟨rfl,rfl⟩)
def Dv(l:List Int):List ac:=l.map fun v=>⟨0,v⟩
def IQ(l:List Int):(Dv l).length=l.length:=by simp[Dv]
@[simp]def aht(l:List Int)(m:l.length<=100000):cG X 240 [.sl false (l.map (V.int .u16))]=some (.sl false ((Dv l).map ac.e)):=by
 refine ij ?_;simp;refine dO (fun i S=>(S.f 3= .cX 3 0 (((Dv (l.take i)).map ac.e)).length/\S.h 3=some ⟨2,((Dv (l.take i)).map ac.e),false⟩/\S.f 6= .sl false (l.map (V.int .u16))/\S.f 7=((l).length:Int)/\S.f 8=(i:Int)/\S.n=1100)/\True) (l.length) ab ?_ ?_ ?_
 .rintro i S ⟨q,O,c⟩ ⟨d,f⟩;have h:=IQ (l.take i);have u:Dv (l.take (i+1))=Dv (l.take i)++ [⟨0,l[i]⟩]:=by unfold Dv;rw[kJ c,t2];rfl
  obtain⟨N,a⟩:=x_ (Dv (l.take i));rw[a]at h u;have C:min i l.length=i:=ab
  simp only[sr,C]at h;simp[d,O,c,a,h,u,ac.cN];all_goals ((repeat' (first|apply And.intro|intro _))<;>first|omega|rfl|(exact bQ aA))
 .exact l0
 .simp[Dv]
def MU(cells:List ac)(b:Nat)(d:List Int): ∀k,k<=d.length->b+d.length<=cells.length-> ∀i,(uQ cells b d k)[i]?=if b<=i/\i<b+k then(cells[i]?).map (fun c=>⟨c.gs,nth d (i-b)⟩) else cells[i]?
 |0,_,_,i=>by rw[Xv,if_neg ab]
 |k+1,y,G,i=>by
  have h:=MU cells b d k ab G;have l:=H7 cells b d k;rw[uQ,t3];by_cases e:b+k=i
  .subst e;rw[if_pos rfl,if_pos ab,if_pos ab];have h0:(uQ cells b d k)[b+k]?=cells[b+k]?:=by rw[h,if_neg ab]
   have h1:b+k<cells.length:=ab
   simp only[rT,h0,rk h1,tj,ue,Nat.add_sub_cancel_left]
  .rw[if_neg e,h];by_cases g:b<=i/\i<b+k
   .rw[if_pos g,if_pos ab]
   .rw[if_neg g,if_neg ab]
def YC{cells:List ac}{d:List Int}(l:b+d.length<=cells.length)(h0: ∀c∈cells,c.gs=0):uQ cells b d d.length=cells.take b++Dv d++cells.drop (b+d.length):=by
 apply tl;intro i;have e:(cells.take b).length=b:=aA
 have n:=IQ d;rw[MU _ _ _ _ (iX _) l];by_cases g:i<b
 .rw[if_neg ab,vD,ug ab,List.getElem?_take_of_lt g]
 by_cases D:i<b+d.length
 .rw[if_pos ab,ug aA,tu ab,e];have h1:i<cells.length:=ab
  have h:i-b<d.length:=ab
  unfold Dv;rw[rk h1,tm,rk h,ue,ue,h0 _ (rx h1),dA h]
 .rw[if_neg ab,tu aA,ux];congr 1;simp;omega
def IS{cells:List ac}{b:Nat}{d:List Int}(h0: ∀c∈cells,c.gs=0): ∀k,∀c∈uQ cells b d k,c.gs=0
 |0,c,h=>h0 c h
 |k+1,c,h=>by
  rw[uQ]at h;rcases vb h with h|rfl
  .exact IS h0 k c h
  .simp only[rT];cases e:(uQ cells b d k)[b+k]? with
   |none=>rfl
   |some x=>exact IS h0 k x (t6 e)
def IT(p:g9)(aK:List Int): ∀r,∀c∈pa p aK r,c.gs=0
 |0,c,h=>by rw[xu]at h;rw[(List.mem_replicate.1 h).2]
 |r+1,c,h=>IS (IT p aK r) _ c h
@[simp]def QG(u:List hu)(q:List Int)(a:List (List Int))(y:List Int)(I:Int)(hp:o9 (wn u q a))(L:fM y q):cG X 167 [iB u q a,pp y I]=some (.ed [y6 ((⟨pa (wn u q a) y a.length,fp⟩:aD)),.int .i64 0]):=by
 refine ij ?_;have z:=hp.ax;simp only at z;have B:=z.le;have h:a.length=q.length:=hp.len;have k:y.length=q.length:=L.len;have C:=nd.2 L;have O:y.length<=1000000000/\q.length<=1000000000:=ab
 have g:(fp.map cP.e).length=4:=rfl;simp[C,O,h];refine dO (fun r S=>(S.f 2= .ptr 2 0 0/\S.h 2=some ⟨3,[iB u q a],true⟩/\S.f 3= .ptr 3 0 0/\S.h 3=some ⟨2,[pp y I],true⟩/\S.f 4= .ptr 4 0 0/\S.h 4=some ⟨2,[s_ ([]:List ac) ([]:List cP)],true⟩/\S.f 6= .ptr 6 0 0/\S.h 1000=some ⟨2,(⟨pa (wn u q a) y r,fp⟩:aD).cells.map ac.e,false⟩/\S.h 6=some ⟨2,[.agg [.cX 1000 0 ((⟨pa (wn u q a) y r,fp⟩:aD).cells.map ac.e).length,.sl false ((⟨pa (wn u q a) y r,fp⟩:aD).ge.map cP.e)]],true⟩/\S.f 28=a/\S.f 29=((a).length:Int)/\S.f 30=(r:Int)/\S.n=1101)/\True) (a.length) ab ?_ ?_ ?_
 .rintro r S ⟨i,j,P⟩ ⟨d,J⟩;have U:r<q.length:=ab
  have c:r<y.length:=ab
  have v:((a[r]).length:Int)<=q[r]:=hp.ap r P U;have A: ¬q[r]<((a[r]).length:Int):=ab
  have F:=L.base r c U;have V:=z.elem r U;obtain⟨b,e⟩: ∃b:Nat,y[r]=b:=⟨(y[r]).toNat,ab⟩;have G:=C6 (wn u q a) y r;have x:pa (wn u q a) y (r+1)=(pa (wn u q a) y r).take b++Dv a[r]++(pa (wn u q a) y r).drop (b+(a[r]).length):=by
   rw[Mf _ _ P,dA c,e];exact YC aB (IT _ _ r)
  have l:=IQ a[r];have m:(a[r]).length<=100000:=ab
  obtain⟨N,f⟩:=x_ (Dv a[r]);rw[f]at l x;obtain⟨M,T⟩:=x_ (pa (wn u q a) y r);rw[T]at G x;obtain⟨n,W⟩:=x_ ((a[r]).length);rw[W]at l x v A m;have R:b<=512:=ab
  have D:min n (512-b)=n:=ab
  have w:(0:Int)<=b/\(b:Int)<=512:=ab
  have t:List.take n (N.map ac.e)=N.map ac.e:=bQ aA;have E:List.take b (M.map ac.e)++N.map ac.e++List.drop (b+n) (M.map ac.e)=(M.take b++N++M.drop (b+n)).map ac.e:=by simp[yB,Cl]
  simp[d,j,P,U,c,A,T,f,W,m,e,G,l,D,w,R,t,x];omega
 .rintro S ⟨d,J⟩;simp[d]<;>(
   rw[h])
 .simp<;>(
   simp[xu,h,ac.cN])
def yU:gc:=⟨0,List.replicate 8 ⟨0,0⟩,0,0, -1, -1,0,0⟩
@[simp]def ahu:cG X 168 []=some ((uO yU:V)):=by
 refine ij ?_;simp[yU,ac.cN]
@[simp]def Ve(u:List hu)(a:List Int)(w:List (List Int))(y:List Int)(c:Int)(hp:o9 (wn u a w))(L:fM y a):cG X 85 [iB u a w,pp y c]=some (.ed [rJ (dx (wn u a w) (iy.mk y c)),.int .i64 0]):=by
 refine ij ?_;have z:=hp.ax;simp only at z;have x:=z.le;have l:w.length=a.length:=hp.len;have e:y.length=a.length:=L.len;have C:=nd.2 L;have t:jD (wn u a w)=0:=AV hp;have Xw:u.length<=64:=hp.qH;have M:y.length<=1000000000/\a.length<=1000000000:=ab
 have U:w.length<=1000000000:=ab
 have b:u.length<=1000000000:=ab
 have k:y.length<=4:=ab
 have h:=QG u a w y c hp L;simp[eJ,h,t,M,U,b,dx];all_goals exact i9
structure zg (q:io):Prop where
 a:q.args.length<=1000
 d:q.ap.length<=1000
 av: ∀i (h:i<q.args.length),0<=(q.args[i]).val/\(q.args[i]).val<=65535
 dv: ∀i (h:i<q.ap.length),0<=(q.ap[i]).val/\(q.ap[i]).val<=65535
def Vf:h_:=⟨0,0,0,ep,⟨⟨0,0,0,0⟩,[],0,false⟩⟩
@[simp]def qU(u:List hu)(q:List Int)(w:List (List Int))(Z:List Int)(k:Int)(f:List ac)(F:List cP)(a:List gc)(L c r g M V:Int)(b S:List fd)(i x H J:Int)(W:List fd)(U:Int)(y:Bool)(d:Int)(N:cJ (wn u q w) d (w_ Z k f F a))(C:d<=1099511627776)(I:b.length<=1000000000)(s:S.length<=1000000000)(t:W.length<=1000000000):cG X 158 [iB u q w,ol Z k f F a,i7 L c r g M V b S,lc i x H J W U y]=some (.bool (decide (qv (wn u q w) (w_ Z k f F a) (v_ L c r g M V b S) (wl i x H J W U y)))):=by
 refine ij ?_;have v:fO (wn u q w) (w_ Z k f F a)=true:=(N.mono C).ok;have p:=N.prog.lens;have o:=N.lens;have O:a.length=4:=N.len;by_cases h1:ko (v_ L c r g M V b S)=true
 case neg=>
  have e: ¬qv (wn u q w) (w_ Z k f F a) (v_ L c r g M V b S) (wl i x H J W U y):=fun h=>h1 h.2.1;simp[v,p,o,I,s,h1,e]
 by_cases K:c=1
 case neg=>
  have e: ¬qv (wn u q w) (w_ Z k f F a) (v_ L c r g M V b S) (wl i x H J W U y):=fun h=>K h.2.2.1;simp[v,p,o,I,s,h1,K,e]
 have m:=eq_true K;by_cases T:(b.length:Int)=rL V
 case neg=>
  have e: ¬qv (wn u q w) (w_ Z k f F a) (v_ L c r g M V b S) (wl i x H J W U y):=fun h=>T h.2.2.2.1;simp[v,p,o,I,s,h1,m,T,e]
 have G:=eq_true T;by_cases j:oA (wl i x H J W U y)=true
 case neg=>
  have e: ¬qv (wn u q w) (w_ Z k f F a) (v_ L c r g M V b S) (wl i x H J W U y):=fun h=>j h.2.2.2.2.1;simp[v,p,o,I,s,t,h1,m,G,j,e]
 have z:=h1;unfold ko at z;simp only[X8,decide_eq_true_eq]at z;obtain⟨t0,P,_⟩:=z;obtain⟨n,rfl⟩:=jp t0;have Q:n<4:=ab
 have A:(n:Int)<4:=ab
 have B:n<a.length:=ab
 have R:bO (w_ Z k f F a) n=a[n]:=eL B;by_cases l:(a[n]).im=2
 case neg=>
  have e: ¬qv (wn u q w) (w_ Z k f F a) ⟨(n:Int),c,r,g,M,V,b,S⟩ (wl i x H J W U y):=fun h=>l (by have:=h.2.2.2.2.2;simp only[X7]at this;rw[R]at this;exact this);simp[v,p,o,I,s,t,h1,m,G,j,O,Q,A,l,e]
 have e:qv (wn u q w) (w_ Z k f F a) ⟨(n:Int),c,r,g,M,V,b,S⟩ (wl i x H J W U y):=⟨v,h1,K,T,j,by simp only[X7];rw[R];exact l⟩;have Y:=eq_true l;simp[v,p,o,I,s,t,h1,m,G,j,O,Q,A,Y,e]
def Fk(b:List Int)(key:Int)(z:List Int)(t v r:Int):Int->List fd->aD->Option aD
 |_,[],m=>some m
 |o,c::l,m=>if t=1/\(raw b key z ⟨t,v,r,o⟩).2=0/\(raw b key z c).2=0 then Fk b key z t v r (o+1) l (ke m (nth b r.toNat+o).toNat (raw b key z c).1) else none
def yW(b:List Int)(key:Int)(z:List Int)(t v r o:Int)(c:fd)(l:List fd)(m:aD):Fk b key z t v r o (c::l) m=if t=1/\(raw b key z ⟨t,v,r,o⟩).2=0/\(raw b key z c).2=0 then Fk b key z t v r (o+1) l (ke m (nth b r.toNat+o).toNat (raw b key z c).1) else none:=rfl
def Gm{b:List Int}{z:List Int}:(raw b key z ⟨1,v,rg,o⟩).2=0↔v=0/\inside z rg o=true:=by
 unfold raw proper;by_cases h1:v=0
 .cases h:inside z rg o<;>simp[h1]
 .simp[h1]
def Vq{b:List Int}{key:Int}{z:List Int}{r:Int}: ∀(l:List fd) (o:Int) (m:aD),Fk b key z 1 0 r o l m=wx b key z r o l m
 | [],o,m=>rfl
 |c::l,o,m=>by
  rw[yW,oW];by_cases h1:(raw b key z c).2=0
  .by_cases K:inside z r o=true
   .rw[if_pos ⟨rfl,Gm.2 ⟨rfl,K⟩,h1⟩,if_pos ⟨h1,K⟩];exact Vq l _ _
   .rw[if_neg (fun h=>K (Gm.1 h.2.1).2),if_neg fun h=>K h.2]
  .rw[if_neg (fun h=>h1 h.2.2),if_neg fun h=>h1 h.1]
def TY(p:g9)(m:aN)(r:io)(x:eI):pf p m r x=if kv r.call=2 then Fk m.am.aK m.am.key p.ax (jk r 1).gs (jk r 1).val (jk r 1).lm (jk r 1).iC x.ap m.gt else some m.gt:=by
 unfold pf;by_cases b:kv r.call=2
 case neg=>rw[if_neg (fun h=>b h.1),if_neg b]
 rw[if_pos b];cases d:x.ap with
 |nil=>rw[if_neg ai];rfl
 |cons c l=>
  rw[if_pos ⟨b,ai⟩];obtain⟨⟨t,v,g,o⟩,W⟩: ∃a,jk r 1=a:=⟨_,rfl⟩;rw[W];simp only;by_cases S:t=1
  .subst S;by_cases i:v=0
   .subst i;rw[Vq];by_cases j:inside p.ax g o=true
    .rw[if_pos ⟨by simp[proper,j],rfl⟩]
    .rw[if_neg (fun h=>j (by have:=h.1;simpa[proper] using this)),oW,if_neg fun h=>j h.2]
   .rw[if_neg (fun h=>i (by have:=h.1;unfold proper at this;simp at this;exact this.1)),yW,if_neg fun h=>i (Gm.1 h.2.1).1]
  .rw[if_neg (fun h=>S h.2),yW,if_neg fun h=>S h.1]
def Qt(p:g9)(d:Int)(g:Option aD)(x:aN)(h:bI)(k b:Nat)(vB:V)(C L T:Nat)(ids bH:Nat->Nat)(v:V)(h':bI)(k':Nat):Prop:=
 ∃(o:Bool) (K:Nat->Nat) (m:aN),v= .bool o/\dQ h' k' b vB C L T K bH m/\cJ p d m/\m.am=x.am/\m.ce=x.ce/\(g=bif o then some m.gt else none)/\k<=k'/\(∀j,j<4->K j=ids j\/k<=K j)/\
  ∀i,i<k->i≠C->i≠L->(∀j,j<4->i≠ids j)->h' i=h i
def FG(p:g9)(d:Int)(m:aN)(h:bI)(k b:Nat)(vB:V)(C L T:Nat)(ids bH:Nat->Nat)(P vR v:V)(ap:List fd)(a:fd)(i:Nat)(S:St):Prop:=
 ∃R u,(S.f 1= .ptr b 0 0/\S.f 4= .ptr k 0 0/\S.f 6= .ptr (k+1) 0 0/\S.f 7= .ptr (k+2) 0 0/\S.f 21= .sl false (ap.map fd.e)/\S.f 22= .int .i64 ap.length/\S.f 23= .int .i64 (i:Int))/\
  (S.h k=some ⟨3,[P],true⟩/\S.h (k+1)=some ⟨8,[vR],true⟩/\S.h (k+2)=some ⟨7,[v],true⟩)/\
  dQ S.h S.n b vB C L T u bH R/\cJ p d R/\R.am=m.am/\R.ce=m.ce/\
  Fk m.am.aK m.am.key p.ax a.gs a.val a.lm a.iC ap m.gt=Fk m.am.aK m.am.key p.ax a.gs a.val a.lm (a.iC+i) (ap.drop i) R.gt/\k+12<=S.n/\(∀j,j<4->u j=ids j\/k+12<=u j)/\ ∀x,x<k->x≠C->x≠L->(∀j,j<4->x≠ids j)->S.h x=h x
def Qt.same{g:Option aD}(H:dQ h k b vB C L T ids bH mm)(G:cJ p d mm)(e:g=some mm.gt)(B:Below k h h'):Qt p d g mm h k b vB C L T ids bH (.bool true) h' (k+n):=
 ⟨true,ids,mm,rfl,H.mono ab B,G,rfl,rfl,e,ab,fun _ _=> .inl rfl,fun i j _ _ _=>B i j⟩
@[simp]def P0(l:List hu)(q:List Int)(u:List (List Int))(m:V)(hn cC cu cg dM A:Int)(K bS:List fd)(ba bc aH aJ:Int)(W:List fd)(bU:Int)(dy:Bool)(h:bI)(k b C L T:Nat)(ids bH:Nat->Nat)(y:aN)(d:Int)(H:dQ h k b (.sl false (y.am.aK.map (V.int .i64))) C L T ids bH y)(HG:cJ (wn l q u) d y)(hS:0<=A/\A<=15)(cm:K.length=(dc A).length)(hI: ∀i (h:i<K.length),0<=(K[i]).iC/\(K[i]).iC<=65535)(kz:W.length<=1000)(c1:fg W): ∃v h' k',df X 160 [iB l q u,.ptr b 0 0,i7 hn cC cu cg dM A K bS,lc ba bc aH aJ W bU dy] h k=some (v,h',k')/\Qt (wn l q u) d (pf (wn l q u) y (v_ hn cC cu cg dM A K bS) (wl ba bc aH aJ W bU dy)) y h k b (.sl false (y.am.aK.map (V.int .i64))) C L T ids bH v h' k':=by
 obtain⟨g,c3⟩:=x_ (pf (wn l q u) y (v_ hn cC cu cg dM A K bS) (wl ba bc aH aJ W bU dy));rw[c3];have J:=TY (wn l q u) y (v_ hn cC cu cg dM A K bS) (wl ba bc aH aJ W bU dy);rw[c3]at J;simp only at J;have hl:=H.len;have fG:=H.mem.lt;obtain⟨a',u2,cD,kK⟩:=H.yG;have M:=HG.lay;have hg:=M.len;simp only at M hg;have g4:W.length<=1000000000:=ab
 by_cases aa:kv A=2
 case neg=>
  rw[if_neg aa]at J;refine ip ?_;simp[X6,aa];exact Qt.same H HG J aC
 rw[if_pos aa]at J;have bT:A=2\/A=14:=by
  rcases mn hS with rfl|rfl|rfl|rfl|rfl|rfl|rfl|rfl|rfl|rfl|rfl|rfl|rfl|rfl|rfl|rfl<;>revert aa<;>decide
 obtain⟨a0,⟨hb,N,Z,z⟩,a2,rfl⟩:=OV (show K.length=3 by rcases bT with rfl|rfl<;>exact cm);have J:g=Fk y.am.aK y.am.key q hb N Z z W y.gt:=J;have bE:=hI 1 ai;simp only[y4,xL]at bE;have c2:=eq_true aa;refine ip ?_;simp[X6,c2];refine nG (FG (wn l q u) d y h k b (.sl false (y.am.aK.map (V.int .i64))) C L T ids bH ((iB l q u:V)) ((i7 hn cC cu cg dM A [a0,(⟨hb,N,Z,z⟩:fd),a2] bS:V)) ((lc ba bc aH aJ W bU dy:V)) W ⟨hb,N,Z,z⟩) W.length ?_ 0 ai ?_
 .rintro i S hi ⟨R,D,⟨ah,f4,ae,n4,Y,f,p⟩,⟨ak,hp,e3⟩,ay,I,lay,n0,U,cL,s,bP⟩;simp only at U;have hA: ∀j,j<4->D j=ids j\/k<=D j:=fun j r=>by rcases s j r with e|e;exact .inl e;exact .inr ab
  have hk:=ay.uG;unfold iF at hk;rw[lay,n0,hl]at hk;have f3:=ay.mem.lt;have m1: ∀j,¬b=S.n+j:=fun j=>ab
  have m5: ∀a j,a<12-> ¬k+a=S.n+j:=fun a j ha=>ab
  have hd: ∀j,¬k=S.n+j:=fun j=>ab
  have h5: ¬b=S.n:=ab
  have q1: ∀a,a<12-> ¬k+a=S.n:=fun a ha=>ab
  have hE: ¬k=S.n:=ab
  have same: ∀(bL:bI) (n:Nat),Below S.n S.h bL->g=none->Qt (wn l q u) d g y h k b (.sl false (y.am.aK.map (V.int .i64))) C L T ids bH (.bool false) bL (S.n+n):=fun bL n P e=>
   ⟨false,D,R,rfl,ay.mono ab P,I,lay,n0,e,ab,hA,fun x h1 h2 h3 h4=>by rw[P x ab,bP x h1 h2 h3 h4]⟩
  by_cases iS:i<W.length
  case neg=>
   obtain rfl:i=W.length:=ab
   simp[X6,f,p];refine⟨true,D,R,rfl,ay.mono ab (fun i hi=>rfl),I,lay,n0,J.trans (U.trans fE),ab,hA,bP⟩
  have cz:(i:Int)<W.length:=ab
  rw[w6 iS,yW]at U;obtain⟨⟨hR,hT,ff,dF⟩,hr⟩: ∃c,W[i]=c:=⟨_,rfl⟩;have m':yN ⟨hR,hT,ff,dF⟩:=hr▸c1 _ (rx iS);have h8:=mu (aK:=y.am.aK) (key:=y.am.key) (ax:=q) m';obtain⟨⟨o,B⟩,w1,ho⟩: ∃c w,raw y.am.aK y.am.key q ⟨hR,hT,ff,dF⟩=(c,w):=⟨_,_,rfl⟩;obtain⟨⟨hC,fv⟩,w2,hv⟩: ∃c w,raw y.am.aK y.am.key q ⟨hb,N,Z,z+i⟩=(c,w):=⟨_,_,rfl⟩;rw[hr,ho,hv]at U;simp only[ho]at h8 U;have dN:=z_ (z+(i:Int));have iO:=o7 i ab;by_cases t:hb=1
  case neg=>
   simp[X6,m1,hd,ah,f4,ae,Y,f,p,ak,hp,hk,iS,cz,hr,ho,hv,dN,M,t,fd.cN];exact same _ _ cA (J.trans (U.trans (if_neg fun h=>t h.1)))
  have hc:=eq_true t;by_cases gX:w2=0
  case neg=>
   simp[X6,m1,hd,ah,f4,ae,Y,f,p,ak,hp,hk,iS,cz,hr,ho,hv,dN,M,hc,gX,fd.cN];exact same _ _ cA (J.trans (U.trans (if_neg fun h=>gX h.2.1)))
  subst gX;by_cases S':w1=0
  case neg=>
   simp[X6,m1,hd,ah,f4,ae,Y,f,p,ak,hp,hk,iS,cz,hr,ho,hv,dN,M,hc,S',fd.cN];exact same _ _ cA (J.trans (U.trans (if_neg fun h=>S' h.2.2)))
  subst S';have ht:=hv;rw[t]at ht;have he:=Gm.1 (show(raw y.am.aK y.am.key q ⟨1,N,Z,z+i⟩).2=0 by rw[ht]);obtain⟨an,O,cI,hy,kk⟩:=iK.1 he.2;have nh:an<y.am.aK.length:=ab
  have v':=M.base an nh O;have HA:=M.sz.elem an O;obtain⟨av,hf⟩: ∃av:Nat,nth y.am.aK an+(z+i)=av:=⟨(nth y.am.aK an+(z+i)).toNat,by rw[dA nh];omega⟩;have dz:av<512:=by rw[dA nh]at hf;omega
  have cQ:Z.toNat=an:=ab
  have ku:proper q ⟨1,N,Z,z+i⟩=true:=by unfold proper;simp[he.1,he.2]
  have c4:fv=(av:Int):=by
   unfold raw at ht;rw[ku,cQ,hf]at ht;simp at ht;rw[<-ht.2];exact wrap_u16 ab
  have t':=z_ av;rw[if_pos ⟨t,rfl,rfl⟩,cQ,hf,X7]at U;have b': ∀(h1:bI) (j:Nat),Below S.n S.h h1->df X 237 [.ptr b 0 2,(av:Int),pi o B] h1 (S.n+j)=some (.bool true,cH 237 [.ptr b 0 2,(av:Int),pi o B] h1 (S.n+j),cK 237 [.ptr b 0 2,(av:Int),pi o B] h1 (S.n+j))/\
    ∃Q,dQ (cH 237 [.ptr b 0 2,(av:Int),pi o B] h1 (S.n+j)) (cK 237 [.ptr b 0 2,(av:Int),pi o B] h1 (S.n+j)) b (.sl false (y.am.aK.map (V.int .i64))) C L T Q bH ⟨R.am,ke R.gt av ⟨o,B⟩,R.ce⟩/\S.n+j<=cK 237 [.ptr b 0 2,(av:Int),pi o B] h1 (S.n+j)/\(∀j,j<4->Q j=D j\/S.n<=Q j)/\
     ∀x,x<S.n+j->x≠C->x≠L->(∀j,j<4->x≠D j)->cH 237 [.ptr b 0 2,(av:Int),pi o B] h1 (S.n+j) x=h1 x:=fun h1 j jz=>by
   have n1:dQ h1 (S.n+j) b (.sl false (y.am.aK.map (V.int .i64))) C L T D bH R:=ay.mono ab jz;obtain⟨h',k',gK,e,G,g1,g2,g3⟩:=UD .bad 0 o B h1 (S.n+j) b C L D _ _ _ R.gt av ⟨o,B⟩ n1.mem dz h8.oG;have e:df X 237 [.ptr b 0 2,(av:Int),pi o B] h1 (S.n+j)=some (.bool true,h',k'):=e;obtain⟨e1,e2⟩:=wi e;rw[e1,e2];exact⟨e,gK,n1.gt g1 G g2 g3,g1,fun j r=>hO,g3⟩
  have cl:=fun h1 j jz=>(b' h1 j jz).1;have bs: ∀a,a<12-> ∀j,j<4-> ¬k+a=D j:=fun a ha j r=>by
   rcases s j r with e|e
   .have:=fG.2.2.2 j r;omega
   .omega
  simp[X6,m1,hd,cx,cE,ah,f4,ae,Y,f,p,ak,hp,hk,iS,cz,hr,ho,hv,dN,iO,M,hc,c4,t',cl,fd.cN];have hz: ∀(F:Nat->V) (hs:bI) (j n:Nat),Below S.n S.h hs->(F 1= .ptr b 0 0/\F 4= .ptr k 0 0/\F 6= .ptr (k+1) 0 0/\F 7= .ptr (k+2) 0 0/\F 21=W/\F 22= .int .i64 W.length/\F 23= .int .i64 ((i:Int)+1))->
    FG (wn l q u) d y h k b (.sl false (y.am.aK.map (V.int .i64))) C L T ids bH ((iB l q u:V)) ((i7 hn cC cu cg dM A [a0,(⟨hb,N,Z,z⟩:fd),a2] bS:V)) ((lc ba bc aH aJ W bU dy:V)) W ⟨hb,N,Z,z⟩ (i+1) ⟨F,cH 237 [.ptr b 0 2,(av:Int),pi o B] hs (S.n+j),cK 237 [.ptr b 0 2,(av:Int),pi o B] hs (S.n+j)+n⟩:=fun F hs j n P ih=>by
   obtain⟨_,Q,G,g1,g2,g3⟩:=b' hs j P;have fr: ∀x,x<S.n->x≠C->x≠L->(∀j,j<4->x≠D j)->cH 237 [.ptr b 0 2,(av:Int),pi o B] hs (S.n+j) x=S.h x:=fun x ts hh hq E=>by rw[g3 x ab hh hq E,P x ts]
   have kg: ∀j,j<4->Q j=ids j\/k+12<=Q j:=fun j r=>by
    rcases g2 j r with e|e
    .rw[e];exact s j r
    .right;omega
   refine⟨⟨R.am,ke R.gt av ⟨o,B⟩,R.ce⟩,Q,ih,⟨?_,?_,?_⟩,G.mono aB (fun _ _=>rfl),⟨I.prog,I.lay,I.key,I.mem.store dz h8,I.len,I.lq,fun g=>rM I.mem.mem (I.Ia g) dz (by unfold FJ;rw[<-hf,<-lay,dA du];rw[qp I.lay du O hy kk];simp) _⟩,lay,n0,?_,aB,kg,?_⟩
   .have:=fr k ab ab ab (fun j r=>by have:=bs 0 ab j r;simpa using this);simp only[this,ak]
   .have:=fr (k+1) ab ab ab (bs 1 ab);simp only[this,hp]
   .have:=fr (k+2) ab ab ab (bs 2 ab);simp only[this,e3]
   .simp only;rw[U,show z+((i+1:Nat):Int)=z+i+1 from ab]
   .intro x ts hh hq E;simp only;rw[fr x ab hh hq (fun j r=> ?_),bP x ts hh hq E];rcases s j r with e|e
    .rw[e];exact E j r
    .omega
  refine hz _ _ _ _ ?_ ?_
  .simp only[cx,cE]
  .simp[bB,ah,f4,ae,n4,Y,f]
 .refine⟨y,ids,?_,?_,?_,HG,rfl,rfl,ai,?_,fun _ _=> .inl rfl,?_⟩
  .simp[bB]
  .simp[bB,fd.cN]
  .refine H.mono aB ?_;show Below k h _;exact ng
  .exact nE
  .intro x hx _ _ _;have e: ∀H:bI,Below k h H->H x=h x:=fun H P=>P x hx;refine e _ ?_;exact ng
@[simp]def YK:mh X [(0,1,120)] 168 []=some ((r7 0 (List.replicate 8 (⟨0,0⟩:ac)) 0 0 (-1) (-1) 0 0:V)):=by
 refine tS ?_;simp[ac.cN]
@[simp]def azg:mh X [(0,1,120)] 269 []=some ((r7 0 (List.replicate 8 (⟨0,0⟩:ac)) 0 0 (-1) (-1) 0 0:V)):=by
 have h1:=YK;refine tS ?_;simp[h1,ac.cN]
@[simp]def TP(pc D arg_val:Int)(k:Nat): ∃h',df X 238 [.int .i64 pc,pi D arg_val] mg k=some ((ro 1 (.cX (k+5) 0 8) pc 0 (-1) (-1) 0 0:V),h',k+18)/\h' (k+5)=some ⟨2,((⟨D,arg_val⟩:ac)::List.replicate 7 ⟨0,0⟩).map ac.e,false⟩:=by
 refine z8 ?_;simp[X6,ac.cN]
def Qu(x:gc)(a:Int):gc:=⟨x.im,x.bK,x.pc,x.ia,a,x.iw,x.dD,x.hw⟩
def Tw{x:gc}(h:eS d x)(W: -1<=a/\a<=255):eS d (Qu x a):=⟨h.im,h.bK,h.cells,h.pc,h.ia,W,h.iw,h.dD,h.hw⟩
def M5(p:g9)(m:aN)(n:Nat)(r:io)(x:eI):Option (List gc):=
 if r.call=12 then(if(jk r 0).gs=0/\(jk r 0).val<=255 then some (m.ce.set n (Qu (bO m n) (jk r 0).val)) else none)
 else if r.call=10/\ ¬x.lw= -1 then(if(jk r 0).gs=0/\(jk r 0).val<=255/\(raw m.am.aK m.am.key p.ax (jk r 1)).2=0/\(bO m x.lw.toNat).im=0 then some (m.ce.set x.lw.toNat (vE (jk r 0).val (raw m.am.aK m.am.key p.ax (jk r 1)).1)) else none)
 else some m.ce
def Ep(p:g9)(d:Int)(g:Option (List gc))(m:aN)(h:bI)(k b:Nat)(vB:V)(C L T:Nat)(ids bH:Nat->Nat)(v:V)(h':bI)(k':Nat):Prop:=
 ∃(o:Bool) (A:Nat->Nat) (t:List gc),v= .bool o/\dQ h' k' b vB C L T ids A ⟨m.am,m.gt,t⟩/\cJ p d ⟨m.am,m.gt,t⟩/\(g=bif o then some t else none)/\k<=k'/\(∀j,j<4->A j=bH j\/k<=A j)/\
  ∀i,i<k->i≠T->(∀j,j<4->i≠bH j)->h' i=h i
def Ep.no(H:dQ h k b vB C L T ids bH mm)(G:cJ p d mm)(e:g=none)(B:Below k h h'):Ep p d g mm h k b vB C L T ids bH (.bool false) h' (k+n):=
 ⟨false,bH,mm.ce,rfl,H.mono ab B,G,e,ab,fun _ _=> .inl rfl,fun i j _ _=>B i j⟩
def Ep.yes(H:dQ h k b vB C L T ids bH mm)(G:cJ p d mm)(e:g=some mm.ce)(B:Below k h h'):Ep p d g mm h k b vB C L T ids bH (.bool true) h' (k+n):=
 ⟨true,bH,mm.ce,rfl,H.mono ab B,G,e,ab,fun _ _=> .inl rfl,fun i j _ _=>B i j⟩
@[simp]def YR(Q:List hu)(q:List Int)(O:List (List Int))(m:V)(h3 cC cu cg dM A:Int)(y bS:List fd)(ba bc aH aJ:Int)(bW:List fd)(U:Int)(dy:Bool)(h:bI)(k b C L T:Nat)(ids bH:Nat->Nat)(x:aN)(d:Int)(n:Nat)(H:dQ h k b (.sl false (x.am.aK.map (V.int .i64))) C L T ids bH x)(G:cJ (wn Q q O) d x)(hn:h3=n/\n<4)(ak:y.length=(dc A).length)(hr:fg y)(S': -1<=U/\U<4): ∃v h' k',df X 161 [iB Q q O,.ptr b 0 0,i7 h3 cC cu cg dM A y bS,lc ba bc aH aJ bW U dy] h k=some (v,h',k')/\Ep (wn Q q O) d (M5 (wn Q q O) x n (v_ h3 cC cu cg dM A y bS) (wl ba bc aH aJ bW U dy)) x h k b (.sl false (x.am.aK.map (V.int .i64))) C L T ids bH v h' k':=by
 obtain⟨rfl,n4⟩:=hn;obtain⟨g,S⟩:=x_ (M5 (wn Q q O) x n ⟨(n:Int),cC,cu,cg,dM,A,y,bS⟩ (wl ba bc aH aJ bW U dy));rw[S];have hl:=H.len;have B:n<x.ce.length:=ab
 have hd:(n:Int)<4:=ab
 have h2:=G.lq n B;have hR:=H.Ad n B;have hg:=eU (ids:=bH) B;have hT:=H.lq;have kz:=eX bH x.ce;rw[hl]at kz;have u:=H.uG;unfold iF at u;rw[hl]at u;have aa:bO x n=x.ce[n]:=eL B;obtain⟨hp,mQ⟩:=x_ x.ce[n];rw[mQ]at h2 hR aa;simp only[mQ]at hg;have h8:=h2.bK;obtain⟨fG,c2,fv,hz,g3⟩:=H.mL n n4;obtain⟨g2,u2,bP,bs⟩:=H.yG;have hB: ¬b=T:=fun e=>g2 e.symm;have iS:=H.mem.lt;have q1: ∀j,¬b=k+j:=fun j=>ab
 have q2: ∀j,¬T=k+j:=fun j=>ab
 have ts: ∀j,¬k+j=b:=fun j=>ab
 have bT: ∀j,¬k+j=T:=fun j=>ab
 have l1: ∀j,T<k+j:=fun j=>ab
 have h4: ∀j,b<k+j:=fun j=>ab
 have hx: ¬b=k:=ab
 have hv: ¬T=k:=ab
 have hL:=G.lay;simp only at hL;by_cases h1:A=12
 .subst h1;obtain⟨⟨at_,av,dN,cz⟩,rfl⟩:=OT (show y.length=1 from ak);have M:=hr _ (t5);have hs:IntKind.i64.wrap av=av:=wrap_i64 eR;have J:g=if at_=0/\av<=255 then some (x.ce.set n (Qu hp av)) else none:=by
   rw[<-S,<-aa];unfold M5;rw[if_pos rfl];rfl
  by_cases E:at_=0
  case neg=>
   refine ip ?_;simp[X6,E];exact Ep.no H G (J.trans (if_neg fun h=>E h.1)) aC
  have I:=eq_true E;by_cases Z:255<av
  .refine ip ?_;simp[X6,I,Z];exact Ep.no H G (J.trans (if_neg fun h=>by have:=h.2;omega)) aC
  refine ip ?_;simp[X6,u,hT,hg,kz,h8,n4,hd,q1,q2,hx,hv,I,Z,hs];have o:=M.1;simp only at o;have ho:=Tw h2 (a:=av) ab;refine⟨true,bH,x.ce.set n (Qu hp av),rfl,H.ce ab c6 ?_ ?_ (fun _ _=> .inl rfl) H.BG ?_,?_,J.trans (if_pos ⟨E,ab⟩),ab,fun _ _=> .inl rfl,?_⟩
  .rw[<-gq B];simp[bB,dY,Qu,h8]
  .intro i l;simp only[rm]at l;have z:=H.mL i ab;have Y: ¬bH i=k:=ab
   have f: ∀j,¬bH i=k+j:=fun j=>ab
   have r:=H.Ad i l;simp only[r6];by_cases m7:n=i
   .subst m7;rw[mQ]at r;simp[bB,z.2.2.2.1,Y,f,r,Qu]
   .simp[bB,m7,z.2.2.2.1,Y,f,r]
  .intro i l P _;have Y: ¬i=k:=ab
   have f: ∀j,¬i=k+j:=fun j=>ab
   simp[bB,P,Y,f]
  .exact pG G (tg _) G.mem G.Ia ho
  .intro i l P _;have Y: ¬i=k:=ab
   have f: ∀j,¬i=k+j:=fun j=>ab
   simp[bB,P,Y,f]
 by_cases W:A=10
 case neg=>
  refine ip ?_;simp[X6,h1,W];exact Ep.yes H G (S.symm.trans (by unfold M5;rw[if_neg h1,if_neg fun h=>W h.1])) aC
 subst W;by_cases p:U= -1
 .have ht:=eq_true p;refine ip ?_;simp[X6,ht];exact Ep.yes H G (S.symm.trans (by unfold M5;rw[if_neg h1,if_neg fun h=>h.2 p])) aC
 obtain⟨s,rfl⟩:=jp (show 0<=U from ab);have N:s<4:=ab
 have hf:(s:Int)<4:=ab
 have t:s<x.ce.length:=ab
 have n0:=eU (ids:=bH) t;have ku:bO x s=x.ce[s]:=eL t;obtain⟨⟨at_,av,dN,cz⟩,⟨ah,e1,ay,e2⟩,rfl⟩:=OU (show y.length=2 from ak);have M:=hr _ (t5);have o:=hr ⟨ah,e1,ay,e2⟩ ai;have g1:=mu (aK:=x.am.aK) (key:=x.am.key) (ax:=q) o;obtain⟨⟨hk,ev⟩,w1,K⟩: ∃c w,raw x.am.aK x.am.key q ⟨ah,e1,ay,e2⟩=(c,w):=⟨_,_,rfl⟩;simp only[K]at g1;have hs:IntKind.i64.wrap av=av:=wrap_i64 eR;have J:g=if at_=0/\av<=255/\w1=0/\(x.ce[s]).im=0 then some (x.ce.set s (vE av ⟨hk,ev⟩)) else none:=by
  rw[<-S,<-ku];unfold M5;rw[if_neg h1,if_pos ⟨rfl,p⟩];simp only[jk,yZ,vH,K,X7]
 by_cases E:at_=0
 case neg=>
  refine ip ?_;simp[X6,p,E];exact Ep.no H G (J.trans (if_neg fun h=>E h.1)) aC
 have I:=eq_true E;by_cases Z:255<av
 .refine ip ?_;simp[X6,p,I,Z];exact Ep.no H G (J.trans (if_neg fun h=>by have:=h.2.1;omega)) aC
 by_cases an:w1=0
 case neg=>
  refine ip ?_;simp[X6,u,q1,hx,p,I,Z,hL,K,an];exact Ep.no H G (J.trans (if_neg fun h=>an h.2.2.1)) aC
 subst an;by_cases hc:(x.ce[s]).im=0
 case neg=>
  refine ip ?_;simp[X6,u,hT,kz,q1,q2,hx,hv,p,I,Z,hL,K,n0,N,hf,hc];exact Ep.no H G (J.trans (if_neg fun h=>hc h.2.2.2)) aC
 have hh:=eq_true hc;obtain⟨dz,ae,cQ⟩:=TP av hk ev (k+80);simp only[X6,Nat.reduceAdd]at ae cQ;refine ip ?_;simp[X6,u,hT,kz,q1,q2,hx,hv,l1,h4,p,I,Z,hs,hL,K,n0,N,hf,hh,ae];have R:=M.1;simp only at R;have hq:0<=d:=by have:=h2.ia;omega
 refine⟨true,fun i=>if i=s then k+85 else bH i,x.ce.set s (vE av ⟨hk,ev⟩),rfl,H.ce ab c6 ?_ ?_ ?_ ?_ ?_,?_,J.trans (if_pos ⟨E,ab,rfl,hc⟩),ab,fun j _=> ?_,?_⟩
 .rw[sK (bH:=bH) t (fun j hj=>if_neg hj)];simp[bB,dY,vE]
 .intro i l;simp only[rm]at l;simp only[r6];by_cases D:s=i
  .subst D;have z: ¬k+85=T:=ab
   simp[bB,z,cQ,vE]
  .have z:=H.mL i ab;have F:bH i<k+80:=ab
   have Y: ¬bH i=k:=ab
   have f: ¬i=s:=fun e=>D e.symm;have W: ∀j,¬bH i=k+j:=fun j=>ab
   simp[bB,D,f,z.2.2.2.1,F,Y,W,H.Ad i l]
 .intro i l;by_cases D:i=s
  .right;simp[D]
  .left;simp[D]
 .intro i j l hj lM;have a1:=(H.mL i l).2.2.2.2;have a2:=(H.mL j hj).2.2.2.2;by_cases D:i=s
  .have he: ¬j=s:=fun e=>lM (D.trans e.symm);simp only[D,he,if_true,if_false];omega
  .by_cases he:j=s
   .simp only[D,he,if_true,if_false];omega
   .simp only[D,he,if_false];exact H.BG i j l hj lM
 .intro i l P _;have F:i<k+80:=ab
  have Y: ¬i=k:=ab
  have W: ∀j,¬i=k+j:=fun j=>ab
  simp[bB,P,F,Y,W]
 .exact pG G (tg _) G.mem G.Ia (Mu hq ⟨R,ab⟩ g1)
 .by_cases D:j=s
  .right;simp[D]
  .left;simp[D]
 .intro i l P _;have F:i<k+80:=ab
  have Y: ¬i=k:=ab
  have W: ∀j,¬i=k+j:=fun j=>ab
  simp[bB,P,F,Y,W]
end Go.Proofs.YtdngefmliibcgaaGreat
