import Derived.Test.YtdngefmliibcgaaGreatB02
set_option linter.all false
set_option maxRecDepth 20000
set_option maxHeartbeats 0
namespace Go.Proofs.YtdngefmliibcgaaGreat
open Go Go.Abs Go.Abs.jJ Qf
variable  {l:List hu}{i n m j k:Nat}{op:Int}{α:Type}{p:g9}{aK ax:List Int}
@[simp]def EN(v n:Int)(W:1<=n/\n<=4611686018427387904):cG X 84 [v,n]=some (.int .i64 (v % n)):=by
 refine ij ?_;have h0:(n=0)=False:=aA
 have h1:=t9 v (show n≠0 from ab);have K:=t4 v (show 0<n from ab);rw[AN (show 0<n from ab)];by_cases h:v.tmod n<0
 .exact oo
 .simp[h0,h]
@[simp]def aqt(v n:Int)(W:1<=n/\n<=4611686018427387904):cG X 98 [v,n]=some (.int .i64 (v % n)):=by
 refine ij ?_;have h0:(n=0)=False:=aA
 have h1:=t9 v (show n≠0 from ab);have K:=t4 v (show 0<n from ab);rw[AN (show 0<n from ab)];by_cases h:v.tmod n<0
 .exact oo
 .simp[h0,h]
@[simp]def nu(v n:Int)(h:1<=n/\n<=4611686018427387904):cG X 27 [v,n]=some (.int .i64 (v % n)):=by
 refine ij ?_;simp[h]
@[simp]def ait(f d:Int):cG X 165 [pi f d]=some (.bool (decide (f<=2))):=by
 exact lT
@[simp]def aln(f d:Int):cG X 223 [pi f d]=some (.bool (decide (f<=2))):=by
 exact lT
@[simp]def aiu(ax:List Int)(m:ax.length<=1000000000):cG X 87 [ax]=some (.bool (kZ ax)):=by
 refine ij ?_;simp;refine dO (fun i S=>(S.f 0=ax/\S.f 5=ax/\S.f 6=((ax).length:Int)/\S.f 7=(i:Int)/\S.n=1100)/\((ax.take i).all C1=true)) (ax.length) ab ?_ ?_ ?_
 .rintro i S ⟨q,O,c⟩ ⟨d,f⟩;have key: ¬(1<=ax[i]/\ax[i]<=32)->kZ ax=false:=fun h=>by
   unfold kZ;rw[wO c (by simpa[C1] using h)];rfl
  exact k6
 .rintro S ⟨d,f⟩;simp[d]<;>(
   rw[un]at f;unfold kZ;rw[f];by_cases h0:1<=ax.length
   .refine⟨fun _=>by simp[h0];omega,fun h=>ab⟩
   .refine⟨fun h=>ab,fun _=>by simp[h0]⟩)
 .simp
@[simp]def ael(ax:List Int)(m:ax.length<=1000000000):cG X 216 [ax]=some (.bool (kZ ax)):=by
 refine ij ?_;simp;refine dO (fun i S=>(S.f 0=ax/\S.f 5=ax/\S.f 6=((ax).length:Int)/\S.f 7=(i:Int)/\S.n=1100)/\((ax.take i).all C1=true)) (ax.length) ab ?_ ?_ ?_
 .rintro i S ⟨q,O,c⟩ ⟨d,f⟩;have key: ¬(1<=ax[i]/\ax[i]<=32)->kZ ax=false:=fun h=>by
   unfold kZ;rw[wO c (by simpa[C1] using h)];rfl
  exact k6
 .rintro S ⟨d,f⟩;simp[d]<;>(
   rw[un]at f;unfold kZ;rw[f];by_cases h0:1<=ax.length
   .refine⟨fun _=>by simp[h0];omega,fun h=>ab⟩
   .refine⟨fun h=>ab,fun _=>by simp[h0]⟩)
 .simp
@[simp]def aem(ax:List Int)(f i:Int):cG X 180 [.sl false (ax.map (V.int .i64)),uS f i]=some (.bool (inside ax f i)):=by
 refine ij ?_;by_cases h:0<=f/\f<ax.length
 .obtain⟨k,rfl⟩: ∃k:Nat,f=k:=⟨f.toNat,ab⟩;have y:k<ax.length:=ab
  exact nV
 .have:inside ax f i=false:=by
   unfold inside;simp;intros;omega
  rw[this];by_cases h0:0<=f
  .have h1:(f<ax.length)=False:=aA
   simp[h0,h1]
  .simp[h0]
@[simp]def YY(ax:List Int)(f i:Int):cG X 178 [.sl false (ax.map (V.int .i64)),uS f i]=some (.bool (inside ax f i)):=by
 refine ij ?_;by_cases h:0<=f/\f<ax.length
 .obtain⟨k,rfl⟩: ∃k:Nat,f=k:=⟨f.toNat,ab⟩;have y:k<ax.length:=ab
  exact nV
 .have:inside ax f i=false:=by
   unfold inside;simp;intros;omega
  rw[this];by_cases h0:0<=f
  .have h1:(f<ax.length)=False:=aA
   simp[h0,h1]
  .simp[h0]
@[simp]def alo(a b:List ac)(m:a.length<=1000000000):cG X 166 [a,b]=some (.bool (decide (a=b))):=by
 refine ij ?_;simp;refine⟨fun h e=>h bC,fun l=> ?_⟩;have l:a.length=b.length:=ab
 refine dO (fun i S=>(S.f 0=a/\S.f 1=b/\S.f 12=((a).length:Int)/\S.f 13=(i:Int)/\S.n=1100)/\(a.take i=b.take i)) (a.length) ab ?_ ?_ ?_
 .rintro i S ⟨q,O,c⟩ ⟨d,f⟩;have g:i<b.length:=ab
  simp[d,O,c,g];refine⟨fun h e=> ?_,fun j p=>we c g f ((ac.eq_iff _ _).2 ⟨j,p⟩)⟩;subst e;simp at h
 .rintro S ⟨d,f⟩;simp[d]<;>(
   exact ub (i:=a.length) ai l f)
 .simp
@[simp]def Ux(a b:List fd)(m:a.length<=1000000000):cG X 78 [a,b]=some (.bool (decide (a=b))):=by
 refine ij ?_;simp;refine⟨fun h e=>h bC,fun l=> ?_⟩;have l:a.length=b.length:=ab
 refine dO (fun i S=>(S.f 0=a/\S.f 1=b/\S.f 12=((a).length:Int)/\S.f 13=(i:Int)/\S.n=1100)/\(a.take i=b.take i)) (a.length) ab ?_ ?_ ?_
 .rintro i S ⟨q,O,c⟩ ⟨d,f⟩;have g:i<b.length:=ab
  simp[d,O,c,g];refine⟨fun h e=> ?_,fun j p x F=>we c g f ((fd.eq_iff _ _).2 ⟨j,p,x,F⟩)⟩;subst e;simp at h
 .rintro S ⟨d,f⟩;simp[d]<;>(
   exact ub (i:=a.length) ai l f)
 .simp
@[simp]def alp(u:List Int)(n:Int)(A:List Int)(a:Int)(m:u.length<=1000000000):cG X 81 [pp u n,pp A a]=some (.bool (decide ((iy.mk u n)=(iy.mk A a)))):=by
 refine ij ?_;simp;refine⟨fun k=>⟨fun h e _=>h bC,fun l=> ?_⟩,fun h _ e=>h e⟩;have l:u.length=A.length:=ab
 refine dO (fun i S=>(S.f 2= .ptr 2 0 0/\S.h 2=some ⟨2,[pp u n],true⟩/\S.f 3= .ptr 3 0 0/\S.h 3=some ⟨2,[pp A a],true⟩/\S.f 22=((u).length:Int)/\S.f 23=(i:Int)/\S.n=1100)/\(u.take i=A.take i)) (u.length) ab ?_ ?_ ?_
 .rintro i S ⟨q,O,c⟩ ⟨d,f⟩;have b:i<A.length:=ab
  simp[d,O,c,b];refine⟨fun h e=> ?_,fun j=>we c b f j⟩;subst e;simp at h
 .rintro S ⟨d,f⟩;simp[d]<;>(
   exact⟨ub (i:=u.length) ai l f,k⟩)
 .simp
@[simp]def YZ(y:List Int)(c:Int)(ax:List Int)(a:Int)(L:fM y ax)(W:0<=a/\a<=65535):cG X 171 [pp y c,.sl false (ax.map (V.int .i64)),.int .i64 a]=some (.ed [y9 ((resolve y ax a).1),.bool ((resolve y ax a).2)]):=by
 refine ij ?_;have h1:=L.sz.le;have K:=L.len;simp;refine dO (fun k S=>(S.f 1=ax/\S.f 2= .int .i64 a/\S.f 6= .ptr 6 0 0/\S.h 6=some ⟨2,[uS 0 0],true⟩/\S.f 11=y/\S.f 12=((y).length:Int)/\S.f 13=(k:Int)/\S.n=1100)/\(resolve y ax a=sX (y.drop k) (ax.drop k) a k)) (y.length) ab ?_ ?_ ?_
 .rintro k S ⟨B,N,o⟩ ⟨d,f⟩;have h:k<ax.length:=ab
  have e:=L.sz.elem k h;have b:=L.base k o h;have s:sX (y.drop k) (ax.drop k) a k=if y[k]<=a/\a<y[k]+ax[k] then(⟨k,a-y[k]⟩,true) else sX (y.drop (k+1)) (ax.drop (k+1)) a (k+1):=by
   rw[drop_cons o,drop_cons h];rfl
  have r:=z_ (y[k]+ax[k]);have D:=z_ (a-y[k]);simp[d,N,o,h,r,D];rw[f,s];exact⟨fun a1=>⟨fun a2=>by rw[if_pos ⟨a1,a2⟩];simp,fun a2=>hW⟩,fun a1=>hW⟩
 .rintro S ⟨d,f⟩;simp[d]<;>(
   rw[f];simp[sX])
 .simp<;>(
   rfl)
@[simp]def Xh(y:List Int)(c:Int)(ax:List Int)(a:Int)(L:fM y ax)(W:0<=a/\a<=65535):cG X 267 [pp y c,.sl false (ax.map (V.int .i64)),.int .i64 a]=some (.ed [y9 ((resolve y ax a).1),.bool ((resolve y ax a).2)]):=by
 refine ij ?_;have h1:=L.sz.le;have K:=L.len;simp;refine dO (fun k S=>(S.f 1=ax/\S.f 2= .int .i64 a/\S.f 6= .ptr 6 0 0/\S.h 6=some ⟨2,[uS 0 0],true⟩/\S.f 11=y/\S.f 12=((y).length:Int)/\S.f 13=(k:Int)/\S.n=1100)/\(resolve y ax a=sX (y.drop k) (ax.drop k) a k)) (y.length) ab ?_ ?_ ?_
 .rintro k S ⟨B,N,o⟩ ⟨d,f⟩;have h:k<ax.length:=ab
  have e:=L.sz.elem k h;have b:=L.base k o h;have s:sX (y.drop k) (ax.drop k) a k=if y[k]<=a/\a<y[k]+ax[k] then(⟨k,a-y[k]⟩,true) else sX (y.drop (k+1)) (ax.drop (k+1)) a (k+1):=by
   rw[drop_cons o,drop_cons h];rfl
  have D:=z_ (a-y[k]);simp[d,N,o,h,D];rw[f,s];exact⟨fun a1=>⟨fun a2=>by rw[if_pos ⟨a1,ab⟩];simp,fun a2=>hW⟩,fun a1=>hW⟩
 .rintro S ⟨d,f⟩;simp[d]<;>(
   rw[f];simp[sX])
 .simp<;>(
   rfl)
def iP(op:Int)(k:Nat):Bool:=
 if op=1\/op=15\/op=19\/op=20\/op=21 then(k==0)||(k==3)
 else if op=2 then(k==0)||(k==1)
 else if op=16\/op=17 then(k==0)||(k==1)||(k==3)
 else if op=18\/op=23 then k==3
 else if op=22 then k==0
 else if op=0\/op=24 then false
 else(k==0)||(k==1)||(k==2)
def jumps(op:Int):Bool:=decide (op=18)||decide (op=19)||decide (op=20)||decide (op=21)
def fX(op:Int):Bool:=jumps op||decide (op=22)||decide (op=24)
def oG(c:ac):Bool:=decide (c.gs<=2)
def hX(l:List ac):Bool:=l.all oG
def AP{l:List ac}(h:i<l.length):hX (l.take (i+1))=(hX (l.take i)&&oG l[i]):=yw h
def KH{l:List ac}(h:i<l.length)(hp: ¬l[i].gs<=2):hX l=false:=wO h (by simpa[oG] using hp)
def Hy{l:List ac}:hX (l.take l.length)=hX l:=ek
def oP(t:gc):Bool:=hX t.bK&& (decide (0<=t.im)&& (decide (t.im<=4)&& (decide (t.bK.length=8)&& (decide (0<=t.pc)&& (decide (t.pc<=255)&& (decide (0<=t.ia)&& (decide (t.ia<=1099511627776)&& (decide (-1<=t.db)&& (decide (t.db<=255)&& (decide (-1<=t.iw)&& (decide (t.iw<=255)&& (decide (0<=t.dD)&& (decide (t.dD<=6))))))))))))))
def OQ(h:0<=op/\op<=24):op=0\/op=1\/op=2\/op=3\/op=4\/op=5\/op=6\/op=7\/op=8\/op=9\/op=10\/op=11\/op=12\/op=13\/op=14\/op=15\/op=16\/op=17\/op=18\/op=19\/op=20\/op=21\/op=22\/op=23\/op=24:=ab
@[simp]def alq(op:Int)(h:0<=op/\op<=24):cG X 199 [op]=some (.agg [.bool ((iP op) 0),.bool ((iP op) 1),.bool ((iP op) 2),.bool ((iP op) 3)]):=by
 exact ks
@[simp]def aep(op:Int)(h:0<=op/\op<=24):cG X 288 [op]=some (.agg [.bool (iP op 0),.bool (iP op 1),.bool (iP op 2),.bool (iP op 3)]):=by
 exact ks
@[simp]def alr(op:Int):cG X 123 [op]=some (.bool (jumps op)):=by
 refine ij ?_;simp[jumps];omega
@[simp]def aiv(op:Int):cG X 260 [op]=some (.bool (jumps op)):=by
 refine ij ?_;simp[jumps];omega
@[simp]def aeq(op:Int):cG X 275 [op]=some (.bool (fX op)):=by
 exact q8
@[simp]def aer(op:Int):cG X 263 [op]=some (.bool (fX op)):=by
 exact q8
@[simp]def aqu(l:List ac)(m:l.length<=1000000000):cG X 164 [l]=some (.bool (hX l)):=by
 refine ij ?_;simp;refine dO (fun i S=>(S.f 5=l/\S.f 6=((l).length:Int)/\S.f 7=(i:Int)/\S.n=1100)/\(hX (l.take i)=true)) (l.length) ab ?_ ?_ ?_
 .rintro i S ⟨q,O,c⟩ ⟨d,f⟩;simp[d,O,c]<;>(
   rw[AP c,f];exact⟨fun h=>KH c ab,fun h=>cf⟩)
 .rintro S ⟨d,f⟩;simp[d]<;>(
   rw[<-f,un])
 .simp<;>(
   rfl)
@[simp]def aiw(e:Int)(c:List ac)(Q G a H Z g:Int)(P:c.length<=1000000000):cG X 80 [r7 e c Q G a H Z g]=some (.bool (oP (gc.mk e c Q G a H Z g))):=by
 refine ij ?_;simp;refine dO (fun i S=>(S.f 1= .ptr 1 0 0/\S.h 1=some ⟨8,[r7 e c Q G a H Z g],true⟩/\S.f 6=c/\S.f 7=((c).length:Int)/\S.f 8=(i:Int)/\S.n=1100)/\(hX (c.take i)=true)) (c.length) ab ?_ ?_ ?_
 .rintro i S ⟨q,O,z⟩ ⟨d,f⟩;simp[d,O,z]<;>(
   rw[AP z,f];refine⟨fun h=> ?_,fun h=>cf⟩;unfold oP;rw[KH z ab];rfl)
 .rintro S ⟨d,f⟩;simp[d]<;>(
   have m:hX c=true:=by rw[<-f,un]
   unfold oP;rw[m];simp only[Co];clear d f m
   ((repeat' (first|apply And.intro|intro b));all_goals first|(simp only[DX,decide_eq_false_iff_not];omega)|(simp[*];done)|(simp[*]<;>(intros;omega))))
 .simp<;>(
   rfl)
@[simp]def OS(e:Int)(c:List ac)(i G d H f g:Int)(k:Nat)(h:c.length<=1000000000): ∃h',df X 250 [r7 e c i G d H f g] mg k=some ((ro e (.cX (k+4) 0 c.length) i G d H f g:V),h',k+9)/\h' (k+4)=some ⟨2,c.map ac.e,false⟩:=by
 refine z8 ?_;simp[X6];all_goals exact i9
@[simp]def aqv(e:Int)(c:List ac)(i G d H f g dD hw:Int)(m:c.length<=1000000000):cG X 195 [r7 e c i G d H f g,.int .i64 dD,.int .u16 hw]=some ((uO ((⟨4,c,i,G,d,H,dD,hw⟩:gc)):V)):=by
 refine ij ?_;obtain⟨h1,h,p⟩:=OS e c i G d H f g 6 m;simp only[Nat.reduceAdd]at h p;simp[h,p]
@[simp]def V_(e:Int)(c:List ac)(i G d H f g:Int)(k:Nat)(h:c.length<=1000000000): ∃h',df X 233 [r7 e c i G d H f g] mg k=some ((ro e (.cX (k+7) 0 c.length) i G d H f g:V),h',k+10)/\h' (k+7)=some ⟨2,c.map ac.e,false⟩:=by
 refine z8 ?_;simp[X6];all_goals exact i9
@[simp]def alu(e:Int)(c:List ac)(i G d H f g dD hw:Int)(m:c.length<=1000000000):cG X 155 [r7 e c i G d H f g,.int .i64 dD,.int .u16 hw]=some ((uO ((⟨4,c,i,G,d,H,dD,hw⟩:gc)):V)):=by
 refine ij ?_;obtain⟨h1,h,p⟩:=V_ e c i G d H f g 6 m;simp only[Nat.reduceAdd]at h p;simp[h,p]
@[simp]def alv(y:Int)(S:List ac)(H m I U p s A:Int)(e:List ac)(F o K B v a:Int)(h:S.length<=1000000000):cG X 83 [r7 y S H m I U p s,r7 A e F o K B v a]=some (.bool (decide ((gc.mk y S H m I U p s)=(gc.mk A e F o K B v a)))):=by
 refine ij ?_;simp[h,gc.eq_iff]
 grind
@[simp]def be6:IntKind.i64.wrap 1=1:=aG
@[simp]def be7:IntKind.i64.wrap 2=2:=aG
@[simp]def be8:IntKind.i64.wrap 3=3:=aG
@[simp]def be9:IntKind.i64.wrap 4=4:=aG
@[simp]def bfa:IntKind.i64.wrap 5=5:=aG
@[simp]def bfb:IntKind.i64.wrap 6=6:=aG
@[simp]def bfc:IntKind.i64.wrap 7=7:=aG
@[simp]def bfd:IntKind.i64.wrap 8=8:=aG
def A_{l:List α}(h:l.length=0):l=[]:=List.length_eq_zero_iff.1 h
def OT{l:List α}(h:l.length=1): ∃a,l=[a]:=List.length_eq_one_iff.1 h
def A4{l:List α}(h:l.length=n+1): ∃a r,l=a::r/\r.length=n:=by
 cases l with
 |nil=>cases h
 |cons a r=>exact⟨a,r,rfl,bn⟩
def OU{l:List α}(h:l.length=2): ∃a b,l=[a,b]:=by
 obtain⟨a,r,i,h1⟩:=A4 h;obtain⟨b,e⟩:=OT h1;exact⟨a,b,by rw[i,e]⟩
def OV{l:List α}(h:l.length=3): ∃a b c,l=[a,b,c]:=by
 obtain⟨a,r,i,h1⟩:=A4 h;obtain⟨b,c,e⟩:=OU h1;exact⟨a,b,c,by rw[i,e]⟩
def JK{l:List α}(h:l.length=4): ∃a b c d,l=[a,b,c,d]:=by
 obtain⟨a,r,i,h1⟩:=A4 h;obtain⟨b,c,d,e⟩:=OV h1;exact⟨a,b,c,d,by rw[i,e]⟩
def qQ{m:Type}{f:m->V}{hx:bI}(h: ∀x,da hx 12 (f x)=some (f x)): ∀l:List m,di (l.map (da hx 12∘f))=some (l.map f)
 | []=>rfl
 |a::l=>by simp[di,h a,qQ h l]
def tC{m:Type}{f:m->V}(h: ∀x,(f x).l6=f x): ∀l:List m,ft (l.map f)=l.map f
 | []=>rfl
 |a::l=>by simp[ft,h a,tC h l]
@[simp]def a2c(hx:bI)(l:List fR):di (l.map (da hx 12∘fR.e))=some (l.map fR.e):=qQ (fun _=>rfl) l
@[simp]def xq(l:List fR):ft (l.map fR.e)=l.map fR.e:=tC (fun _=>rfl) l
def SQ(l:List fd):ft (l.map fd.e)=l.map fd.e:=tC (fun _=>rfl) l
def px{f:α->V}{l:List α}(h:i<l.length):List.take i (List.take i (l.map f))++ [f l[i]]=List.take (i+1) (l.map f):=by
 rw[List.take_take,Nat.min_self,zZ];simp[h]
def BE{m:Type}(p:m->Bool)(l:List m):Int:=if l.all p=true then-1 else(l.findIdx fun x=> !p x:Nat)
def AQ{p:α->Bool}{l:List α}:decide (0<=BE p l)= !(l.all p):=by
 unfold BE;cases h:l.all p<;>simp<;>omega
def AR{p:α->Bool}{l:List α}(h:l.all p=true):BE p l= -1:=by simp only[BE,h,if_true]
def C2{p:α->Bool}{l:List α}(h:i<l.length)(h1:(l.take i).all p=true)(K:p l[i]=false):BE p l=i:=by
 have S:(l.findIdx fun x=> !p x)=i:=by
  rw[List.findIdx_eq h];refine⟨by simp[K],fun j q=> ?_⟩;have:=List.all_eq_true.1 h1 l[j] (by
   rw[List.mem_take_iff_getElem];exact⟨j,ab,rfl⟩)
  simp[this]
 unfold BE;rw[wO h K,S];simp
def jf:cP:=⟨-1,false,[]⟩
def fp:List cP:=List.replicate 4 jf
def AS(i:Nat):List V:=List.replicate i ((rt (-1) false (.sl true []):V))++List.replicate (4-i) ((rt 0 false (.sl true []):V))
def qi(i:Nat)(x:cP):Bool:=
 if x.gs= -1 then !x.jK&&decide (x.cells.length=0) else decide (0<=x.gs)&& (decide (x.gs<128)&& (decide (x.gs % 4=i)&& (decide (x.cells.length=4)&&hX x.cells)))
def sq(l:List cP)(n:Nat):Bool:=(List.range n).all fun i=>qi i (l.getD i jf)
def KK{l:List cP}(h:i<l.length):sq l (i+1)=(sq l i&&qi i l[i]):=by
 unfold sq;rw[u5,CF];simp[List.getD,h]
def KL{l:List cP}(h:i<l.length)(W:i<n)(hp:qi i l[i]=false):sq l n=false:=by
 unfold sq;rw[<-Bool.not_eq_true,rZ];intro P;have:=P i gl;simp[List.getD,h]at this;rw[hp]at this;cases this
def yx(m:aD):Bool:=decide (m.cells.length=512)&& (decide (m.ge.length=4)&& (hX m.cells&&sq m.ge 4))
structure CE (i:Nat) (x:cP):Prop where
 none:x.gs= -1->x.jK=false/\x.cells=[]
 some:x.gs≠ -1->0<=x.gs/\x.gs<128/\x.gs % 4=i/\x.cells.length=4
 cells:hX x.cells=true
structure su (m:aD):Prop where
 len:m.cells.length=512
 ge:m.ge.length=4
 cells:hX m.cells=true
 line: ∀i (h:i<m.ge.length),CE i m.ge[i]
def D4{x:cP}:qi i x=true↔CE i x:=by
 unfold qi;constructor
 .intro h;split at h
  .rename_i c;simp at h;exact⟨fun _=>⟨h.1,h.2⟩,fun g=>absurd c g,by rw[h.2];rfl⟩
  .rename_i c;simp at h;exact⟨fun g=>absurd g c,fun _=>⟨h.1,h.2.1,h.2.2.1,h.2.2.2.1⟩,h.2.2.2.2⟩
 .rintro⟨h1,K,S⟩;split
  .rename_i c;simp[h1 c]
  .rename_i c;simp[K c,S]
def OW{m:aD}:yx m=true↔su m:=by
 unfold yx sq;simp only[X8,decide_eq_true_eq,rZ,BW];constructor
 .rintro⟨h1,K,S,a⟩;exact⟨h1,K,S,fun i h=>D4.1 (by simpa[List.getD,h] using a i ab)⟩
 .rintro⟨h1,K,S,a⟩;exact⟨h1,K,S,fun i h=>by
   have h':i<m.ge.length:=ab
   simpa[List.getD,h'] using D4.2 (a i h')⟩
def look(m:aD)(a:Nat):ac:=
 if(m.ge.getD (a/4 % 4) jf).gs=((a/4:Nat):Int) then(m.ge.getD (a/4 % 4) jf).cells.getD (a % 4) ⟨0,0⟩ else m.cells.getD a ⟨0,0⟩
def nW(i:hu):Bool:=
 if i.op<0\/24<i.op then false
 else if i.a<0\/8<=i.a\/(iP i.op 0=false/\i.a≠0) then false
 else if i.b<0\/8<=i.b\/(iP i.op 1=false/\i.b≠0) then false
 else if i.c<0\/8<=i.c\/(iP i.op 2=false/\i.c≠0) then false
 else if i.eA<0\/65535<i.eA\/(iP i.op 3=false/\i.eA≠0) then false
 else if jumps i.op=true then decide (i.eA<64)
 else if i.op=15 then decide (i.eA<4)
 else if i.op=23 then decide (i.eA<=15)
 else true
def mK(u:Bool)(v:Int):Bool:=decide (0<=v)&& (decide (v<8)&& (u||decide (v=0)))
def mj(i:hu)(k:Nat):Bool:=
 match k with
 |0=>true
 |1=>mK (iP i.op 0) i.a
 |2=>mK (iP i.op 0) i.a&&mK (iP i.op 1) i.b
 |_=>mK (iP i.op 0) i.a&& (mK (iP i.op 1) i.b&&mK (iP i.op 2) i.c)
def A2(i:hu):Bool:=decide (0<=i.eA)&& (decide (i.eA<=65535)&& ((iP i.op 3||decide (i.eA=0))&& (if jumps i.op=true then decide (i.eA<64) else if i.op=15 then decide (i.eA<4) else if i.op=23 then decide (i.eA<=15) else true)))
def wP(u:Bool)(v k:Int):Bool:=decide (v=0)||(u&& (decide (0<v)&&decide (v<=k)))
def L6(op:Int):Int:=if jumps op=true then 63 else if op=15 then 3 else if op=23 then 15 else 65535
@[simp]def aix:cG X 140 []=some (.sl false (fp.map cP.e)):=by
 refine ij ?_;simp;refine dO (fun i S=>(S.f 1= .cX 1 0 ((AS i)).length/\S.h 1=some ⟨3,(AS i),false⟩/\S.f 5= .int .i64 (4)/\S.f 6=(i:Int)/\S.n=1100)/\True) (4) ab ?_ ?_ ?_
 .rintro i S ⟨q,O,c⟩ ⟨d,f⟩;have:i=0\/i=1\/i=2\/i=3:=ab
  exact qe
 .rintro S ⟨d,f⟩;simp[d]<;>(
   rfl)
 .simp<;>(
   exact⟨rfl,rfl⟩)
@[simp]def alw(v:Int):cG X 302 [.int .u16 v]=some ((q' ((⟨0,v⟩:ac)):V)):=by
 exact lT
@[simp]def aqw(b:Bool):cG X 299 [b]=some ((q' ((if b=true then⟨0,1⟩ else⟨0,0⟩:ac)):V)):=by
 refine ij ?_;cases b<;>simp
@[simp]def alx(b:Bool):cG X 295 [b]=some ((q' ((if b=true then⟨0,1⟩ else⟨0,0⟩:ac)):V)):=by
 refine ij ?_;cases b<;>simp
@[simp]def aly(e:Int)(c:List ac)(i G d H f g r:Int)(C:0<=r/\r<8)(t:c.length=8):cG X 229 [r7 e c i G d H f g,.int .i64 r]=some ((q' ((c.getD r.toNat ⟨0,0⟩:ac)):V)):=by
 refine ij ?_;obtain⟨k,rfl⟩:=jp C.1;have y:k<c.length:=ab
 have h:(k:Int) % 8=k:=ab
 simp[y,h]
@[simp]def Xi(v f t:Int):cG X 220 [v,f,t]=some (.bool (decide (f<=v)&&decide (v<=t))):=by
 refine ij ?_;simp;by_cases h:f<=v<;>simp[h];omega
@[simp]def Xj(f d:Int):cG X 222 [pi f d]=some (.bool (!decide (f<=2))):=by
 exact lT
@[simp]def Xo(f d:Int):cG X 261 [pi f d]=some (.bool (!decide (f<=2))):=by
 exact lT
@[simp]def yy(U:List ac)(c:List cP)(d:Int)(h:su (aD.mk U c))(Y:0<=d/\d<512):cG X 170 [s_ U c,.int .i64 d]=some ((q' (look (aD.mk U c) d.toNat):V)):=by
 refine ij ?_;obtain⟨a,rfl⟩:=jp Y.1;obtain⟨n,W⟩: ∃n:Nat,a/4=n:=⟨_,rfl⟩;obtain⟨r,C⟩: ∃r:Nat,n % 4=r:=⟨_,rfl⟩;obtain⟨o,f⟩: ∃o:Nat,a % 4=o:=⟨_,rfl⟩;have v:(a:Int).tdiv 4=n:=hD
 have A:(a:Int)/4=n:=ab
 have w:=z_ n;have Q:(n:Int).tmod 4=r:=g8
 have e:(a:Int).tmod 4=o:=g8
 have k:=h.ge;have J:=h.len;simp only at k J;have h1:r<c.length:=ab
 have u:r<4:=ab
 have K:a<U.length:=ab
 have p:a<512:=ab
 have D:(r:Int)<4:=ab
 have L:(a:Int)<512:=ab
 have j:((a:Int)<0)=False:=eq_false ab;have q:((512:Int)<=a)=False:=eq_false ab;by_cases t:(c[r]).gs=(n:Int)
 .have S:=((h.line r h1).some aB).2.2.2;simp only at S;have b:o<(c[r]).cells.length:=ab
  have N:o<4:=ab
  have i:(o:Int)<4:=ab
  simp[look,W,C,f,v,w,Q,e,u,D,t,S,N,i,k,List.getD]
 .simp[look,W,C,v,w,Q,u,D,L,p,t,J,k,List.getD]
@[simp]def OX(U:List ac)(c:List cP)(d:Int)(h:su (aD.mk U c))(Y:0<=d/\d<512):cG X 235 [s_ U c,.int .i64 d]=some (.ed [q' (look (aD.mk U c) d.toNat),.bool true]):=by
 refine ij ?_;obtain⟨a,rfl⟩:=jp Y.1;obtain⟨n,W⟩: ∃n:Nat,a/4=n:=⟨_,rfl⟩;obtain⟨r,C⟩: ∃r:Nat,n % 4=r:=⟨_,rfl⟩;obtain⟨o,f⟩: ∃o:Nat,a % 4=o:=⟨_,rfl⟩;have v:(a:Int).tdiv 4=n:=hD
 have A:(a:Int)/4=n:=ab
 have w:=z_ n;have Q:(n:Int).tmod 4=r:=g8
 have e:(a:Int).tmod 4=o:=g8
 have k:=h.ge;have V:=h.len;simp only at k V;have h1:r<c.length:=ab
 have u:r<4:=ab
 have K:a<U.length:=ab
 have J:a<512:=ab
 have D:(r:Int)<4:=ab
 have L:(a:Int)<512:=ab
 have j:((a:Int)<0)=False:=eq_false ab;have q:((512:Int)<=a)=False:=eq_false ab;by_cases t:(c[r]).gs=(n:Int)
 .have S:=((h.line r h1).some aB).2.2.2;simp only at S;have b:o<(c[r]).cells.length:=ab
  have N:o<4:=ab
  have i:(o:Int)<4:=ab
  simp[look,W,C,f,v,w,Q,e,u,D,t,S,N,i,j,q,V,k,List.getD]
 .simp[look,W,C,v,w,Q,u,D,L,J,t,j,q,V,k,List.getD]
@[simp]def Y0(u:Bool)(v k:Int):cG X 289 [u,v,k]=some (.bool (wP u v k)):=by
 refine ij ?_;cases u<;>simp[wP];by_cases h:v=0<;>simp[h]<;>by_cases h:0<v<;>simp[h];all_goals omega
@[simp]def alz(op:Int):cG X 290 [op]=some (.int .i64 (L6 op)):=by
 refine ij ?_;by_cases h:jumps op=true<;>by_cases h1:op=15<;>by_cases K:op=23<;>simp[h,h1,K,L6]
@[simp]def aiy(jy k G F r:Int):cG X 259 [qr jy k G F r]=some (.bool (nW (hu.mk jy k G F r))):=by
 refine ij ?_;by_cases h1:jy<0
 .simp[h1,nW]
 by_cases h:24<jy
 .simp[h1,h,nW]
 have o:0<=jy/\jy<=24:=ab
 have key:nW (hu.mk jy k G F r)=(wP (iP jy 0) k 7&& (wP (iP jy 1) G 7&& (wP (iP jy 2) F 7&&wP (iP jy 3) r (L6 jy)))):=by
  unfold nW L6 wP;simp only[h1,h];exact nb
 rw[key];clear key;cases g:wP (iP jy 0) k 7
 .simp[o,h1,h,g]
 cases v:wP (iP jy 1) G 7
 .simp[o,h1,h,g,v]
 cases D:wP (iP jy 2) F 7
 .simp[o,h1,h,g,v,D]
 .simp[o,h1,h,g,v,D]
@[simp]def aiz(jy l G F r:Int):cG X 122 [qr jy l G F r]=some (.bool (nW (hu.mk jy l G F r))):=by
 refine ij ?_;by_cases h1:jy<0
 .simp[h1,nW]
 by_cases K:24<jy
 .simp[h1,K,nW]
 have g:0<=jy/\jy<=24:=ab
 have key:nW (hu.mk jy l G F r)=(mj (hu.mk jy l G F r) 3&&A2 (hu.mk jy l G F r)):=by
  unfold nW mj mK A2;simp only[h1,K];exact nb
 rw[key];clear key;simp[g,h1,K];refine dO (fun k S=>(S.f 1= .ptr 1 0 0/\S.h 1=some ⟨5,[qr jy l G F r],true⟩/\S.f 3= .ptr 3 0 0/\S.h 3=some ⟨4,[.agg [.bool ((iP jy) 0),.bool ((iP jy) 1),.bool ((iP jy) 2),.bool ((iP jy) 3)]],true⟩/\S.f 23= .sl false (([l,G,F]).map (V.int .i64))/\S.f 24= .int .i64 (3)/\S.f 25=(k:Int)/\S.n=1100)/\(mj (hu.mk jy l G F r) k=true)) (3) ab ?_ ?_ ?_
 .rintro k S ⟨B,N,o⟩ ⟨d,I⟩;have:k=0\/k=1\/k=2:=ab
  rcases this with rfl|rfl|rfl
  .have e:IntKind.i64.wrap 1=1:=aG
   have f:mK (iP jy 0) l=false->mj (hu.mk jy l G F r) 3=false:=fT
   have t:mK (iP jy 0) l=true->mj (hu.mk jy l G F r) 1=true:=by intro h;simp[mj]at I⊢;simp[h]
   clear I;simp[d,o,e];cases u:mK (iP jy 0) l
   .simp only[f u];exact o_
   .simp only[t u];exact o_
  .have e:IntKind.i64.wrap 2=2:=aG
   have f:mK (iP jy 1) G=false->mj (hu.mk jy l G F r) 3=false:=fT
   have t:mK (iP jy 1) G=true->mj (hu.mk jy l G F r) 2=true:=gu
   clear I;simp[d,o,e];cases u:mK (iP jy 1) G
   .simp only[f u];exact o8
   .simp only[t u];exact o8
  .have e:IntKind.i64.wrap 3=3:=aG
   have f:mK (iP jy 2) F=false->mj (hu.mk jy l G F r) 3=false:=fT
   have t:mK (iP jy 2) F=true->mj (hu.mk jy l G F r) 3=true:=gu
   clear I;simp[d,o,e];cases u:mK (iP jy 2) F
   .simp only[f u];exact o6
   .simp only[t u];exact o6
 .rintro S ⟨d,I⟩;simp[d]<;>(
   rw[I];unfold A2;cases iP jy 3<;>cases jumps jy<;>simp<;>grind)
 .simp<;>(
   rfl)
@[simp]def al0(s:List ac)(m:s.length<=1000000000):cG X 262 [s,.fn 261 [] []]=some (.int .i64 (BE oG s)):=by
 refine ij ?_;simp;refine dO (fun i S=>(S.f 0=s/\S.f 1= .fn 261 [] []/\S.f 7=((s).length:Int)/\S.f 8=(i:Int)/\S.n=1100)/\(hX (s.take i)=true)) (s.length) ab ?_ ?_ ?_
 .rintro i S ⟨q,O,c⟩ ⟨d,f⟩;simp[d,O,c]<;>(
   rw[AP c,f];refine⟨fun h=> ?_,fun h=>cf⟩;rw[C2 c f cf])
 .rintro S ⟨d,f⟩;simp[d]<;>(
   rw[Hy]at f;exact(AR f).symm)
 .simp<;>(
   rfl)
@[simp]def al1(s:List ac)(m:s.length<=1000000000):cG X 262 [s,.fn 222 [] []]=some (.int .i64 (BE oG s)):=by
 refine ij ?_;simp;refine dO (fun i S=>(S.f 0=s/\S.f 1= .fn 222 [] []/\S.f 7=((s).length:Int)/\S.f 8=(i:Int)/\S.n=1100)/\(hX (s.take i)=true)) (s.length) ab ?_ ?_ ?_
 .rintro i S ⟨q,O,c⟩ ⟨d,f⟩;simp[d,O,c]<;>(
   rw[AP c,f];refine⟨fun h=> ?_,fun h=>cf⟩;rw[C2 c f cf])
 .rintro S ⟨d,f⟩;simp[d]<;>(
   rw[Hy]at f;exact(AR f).symm)
 .simp<;>(
   rfl)
@[simp]def al2(s:List ac)(h:s.length<=1000000000):cG X 221 [s,.fn 261 [] []]=some (.bool (!hX s)):=by
 refine ij ?_;simp[h,AQ,hX]
@[simp]def al3(s:List ac)(h:s.length<=1000000000):cG X 221 [s,.fn 222 [] []]=some (.bool (!hX s)):=by
 refine ij ?_;simp[h,AQ,hX]
@[simp]def aew(l:List ac)(n:Int)(m:l.length<=1000000000):cG X 217 [l,n]=some (.bool (decide (l.length=n)&&hX l)):=by
 refine ij ?_;by_cases h:(l.length:Int)=n
 .simp[m,h]
 .simp[h]
@[simp]def al4(T:List ac)(m:List cP)(C:List ac)(p:List cP)(n:T.length<=1000000000)(l:m.length<=1000000000)(hx: ∀i (h:i<m.length),(m[i]).cells.length<=1000000000):cG X 82 [s_ T m,s_ C p]=some (.bool (decide ((aD.mk T m)=(aD.mk C p)))):=by
 refine ij ?_;by_cases h1:T=C
 case neg=>simp[n,h1,aD.eq_iff]
 have b:C.length<=1000000000:=h1▸n;by_cases U:(m.length:Int)=p.length
 case neg=>
  have V: ¬m=p:=fun h=>U dp;simp[h1,b,U,V,aD.eq_iff]
 have K:m.length=p.length:=ab
 simp[h1,b,U,aD.eq_iff];refine dO (fun i S=>(S.f 2= .ptr 2 0 0/\S.h 2=some ⟨2,[s_ T m],true⟩/\S.f 3= .ptr 3 0 0/\S.h 3=some ⟨2,[s_ C p],true⟩/\S.f 25=((m).length:Int)/\S.f 26=(i:Int)/\S.n=1100)/\(m.take i=p.take i)) (m.length) ab ?_ ?_ ?_
 .rintro i S ⟨G,O,c⟩ ⟨d,f⟩;have v:i<p.length:=ab
  have D:=hx i c;have L: ¬m[i]=p[i]-> ¬m=p:=fun h g=>h (by subst g;rfl);rw[cP.eq_iff]at L;by_cases e:(m[i]).gs=(p[i]).gs
  case neg=>
   simp[d,c,v,e];exact L (fun h=>e h.1)
  by_cases q:(m[i]).jK=(p[i]).jK
  case neg=>
   simp[d,c,v,e,q];exact L (fun h=>q h.2.1)
  by_cases x:(m[i]).cells=(p[i]).cells
  case neg=>
   simp[d,c,v,D,e,q,x];exact L (fun h=>x h.2.2)
  have B:(p[i]).cells.length<=1000000000:=x▸D;simp[d,O,c,v,B,e,q,x];exact we c v f ((cP.eq_iff _ _).2 ⟨e,q,x⟩)
 .rintro S ⟨d,f⟩;simp[d]<;>(
   exact ub (i:=m.length) ab K f)
 .simp<;>(
   exact⟨by rw[h1],ab⟩)
@[simp]def ai0(i j:Int)(L:Bool)(A:List ac)(m:0<=i/\i<4)(hx:A.length<=1000000000):cG X 218 [i,.agg [j,L,A]]=some (.bool (qi i.toNat (cP.mk j L A))):=by
 refine ij ?_;obtain⟨k,rfl⟩:=jp m.1;by_cases h1:j= -1
 .cases L<;>simp[h1,qi]
 by_cases K:j<0
 .simp[h1,K,hx,qi];omega
 have S:j.tmod 4=j % 4:=v0 ab;have J:0<=j:=ab
 by_cases a:j<128
 .by_cases q:(A.length:Int)=4
  case neg=>
   have h: ¬A.length=4:=ab
   by_cases l:j % 4=k
   .simp[h1,J,S,a,l,q,h,hx,qi]
   .simp[h1,J,S,a,l,h,qi]
  have h:A.length=4:=ab
  by_cases l:j % 4=k
  .simp[h1,J,S,a,l,h,qi]
  .simp[h1,J,S,a,l,h,qi]
 .simp[h1,K,a,qi]
@[simp]def aex(d:List ac)(c:List cP)(m:d.length<=1000000000)(l:c.length<=1000000000)(hx: ∀i (h:i<c.length),(c[i]).cells.length<=1000000000):cG X 146 [s_ d c]=some (.bool (yx (aD.mk d c))):=by
 refine ij ?_;by_cases q:(d.length:Int)=512
 case neg=>
  have h1: ¬d.length=512:=ab
  simp[m,q,h1,yx]
 have h1:d.length=512:=ab
 by_cases K:hX d=true
 case neg=>
  simp[h1,K,yx]
 by_cases b:(c.length:Int)=4
 case neg=>
  have T: ¬c.length=4:=ab
  simp[h1,K,b,T,yx]
 have T:c.length=4:=ab
 simp[h1,K,T];refine dO (fun i S=>(S.f 16=c/\S.f 17=((c).length:Int)/\S.f 18=(i:Int)/\S.n=1100)/\(sq c i=true)) (4) ab ?_ ?_ ?_
 .rintro i S ⟨G,O,z⟩ ⟨N,f⟩;have g:i<c.length:=ab
  have D:=hx i g;have L:qi i c[i]=false->yx (aD.mk d c)=false:=fun h=>by
   unfold yx;rw[KL g z h];simp
  have U:sq c (i+1)=(sq c i&&qi i c[i]):=KK g;have e:(i:Int)<4:=ab
  simp[N,O,z,g,D,U,e,f];cases h:qi i c[i]<;>simp[L,h]
 .rintro S ⟨N,f⟩;simp[N]<;>(
   unfold yx;simp[h1,K,T,f])
 .simp<;>(
   exact⟨ab,rfl⟩)
@[simp]def ai1(U:List ac)(c:List cP)(s:U.length<=1000000000)(H:c.length<=1000000000)(hx: ∀i (h:i<c.length),(c[i]).cells.length<=1000000000):cG X 79 [s_ U c]=some (.bool (yx (aD.mk U c))):=by
 refine ij ?_;by_cases D:(U.length:Int)=512
 case neg=>
  have h1: ¬U.length=512:=ab
  simp[D,h1,yx]
 have h1:U.length=512:=ab
 by_cases b:(c.length:Int)=4
 case neg=>
  have T: ¬c.length=4:=ab
  simp[h1,b,T,yx]
 have T:c.length=4:=ab
 by_cases M:hX U=true
 case neg=>
  simp[h1,M,T,yx]
 simp[h1,M,T];refine dO (fun i S=>(S.f 22=c/\S.f 23=((c).length:Int)/\S.f 24=(i:Int)/\S.n=1100)/\(sq c i=true)) (c.length) ab ?_ ?_ ?_
 .rintro i S ⟨G,p,z⟩ ⟨d,f⟩;have v:i<c.length:=ab
  have E:=hx i v;have L:qi i c[i]=false->yx (aD.mk U c)=false:=fun h=>by
   unfold yx;rw[KL v (show i<4 from ab) h];simp
  have W:sq c (i+1)=(sq c i&&qi i c[i]):=KK v;have u:(i:Int)<4:=ab
  have t:0<=(c[i]).gs->((c[i]).gs).tmod 4=(c[i]).gs % 4:=fun I=>v0 I;have k:sq c (i+1)=qi i c[i]:=by rw[W,f,Co]
  have r:(c[i]).gs= -1->qi i c[i]=(!(c[i]).jK&&decide ((c[i]).cells.length=0)):=fun h=>by unfold qi;rw[if_pos h]
  have A: ¬(c[i]).gs= -1->qi i c[i]=(decide (0<=(c[i]).gs)&& (decide ((c[i]).gs<128)&& (decide ((c[i]).gs % 4=i)&& (decide ((c[i]).cells.length=4)&&hX (c[i]).cells)))):=fun h=>by unfold qi;rw[if_neg h]
  clear W;by_cases N:(c[i]).gs= -1
  .rw[r N]at L k;cases V:(c[i]).jK
   .by_cases o:((c[i]).cells.length:Int)=0
    .have e:(c[i]).cells.length=0:=ab
     have O: ¬0<(c[i]).cells.length:=ab
     have m: ¬0<((c[i]).cells.length:Int):=ab
     rw[V]at k;simp[e]at k;simp[d,p,z,N,V,e,k]
    .have e: ¬(c[i]).cells.length=0:=ab
     have O:0<(c[i]).cells.length:=ab
     have m:0<((c[i]).cells.length:Int):=ab
     have g:=L (by simp[e]);simp[d,z,N,V,O,g]
   .have g:=L (by simp[V]);simp[d,z,N,V,g]
  rw[A N]at L k;clear r A;by_cases V:0<=(c[i]).gs
  case neg=>
   have q:(c[i]).gs<0:=ab
   have g:=L (by simp[V]);simp[d,z,N,q,g]
  have q: ¬(c[i]).gs<0:=ab
  by_cases e:(c[i]).gs<128
  case neg=>
   have n:128<=(c[i]).gs:=ab
   have g:=L (by simp[e]);simp[d,z,N,q,n,g]
  have n: ¬128<=(c[i]).gs:=ab
  have j:=t V;by_cases l:(c[i]).gs % 4=i
  case neg=>
   have g:=L eT;simp[d,z,N,q,n,j,l,g]
  by_cases K:((c[i]).cells.length:Int)=4
  case neg=>
   have B: ¬(c[i]).cells.length=4:=ab
   have g:=L (by simp[B]);simp[d,z,N,q,n,j,l,K,g]
  have B:(c[i]).cells.length=4:=ab
  cases J:hX (c[i]).cells
  .have g:=L (by simp[J]);simp[d,z,N,q,n,j,l,B,J,g]
  .rw[J]at k;simp[V,e,l,B]at k;simp[d,p,z,N,q,n,j,l,B,J,k]
 .rintro S ⟨d,f⟩;simp[d]<;>(
   rw[T]at f;unfold yx;simp[h1,M,T,f])
 .simp<;>(
   exact⟨ab,rfl⟩)
@[simp]def aey(e:Int)(c:List ac)(i G d H f g:Int)(h:c.length<=1000000000):cG X 149 [r7 e c i G d H f g]=some (.bool (oP (gc.mk e c i G d H f g))):=by
 refine ij ?_;simp[h];unfold oP
 grind
@[simp]def ai2:mh X [(0,1,120)] 277 []=some ((r7 0 (List.replicate 8 (⟨0,0⟩:ac)) 0 0 (-1) (-1) 0 0:V)):=by
 refine tS ?_;simp[ac.cN]
def HS(n:Nat)(p:Nat->Bool):(List.range (n+1)).all p=((List.range n).all p&&p n):=by
 rw[u5,CF];simp
def D6{p:Nat->Bool}(h:i<n)(hp:p i=false):(List.range n).all p=false:=by
 rw[<-Bool.not_eq_true,rZ];intro P;have:=P i (List.mem_range.2 h);rw[hp]at this;cases this
def wQ(aK ax:List Int)(i j:Nat):Bool:= !(decide (nth aK j<=nth aK i+nth ax i)&&decide (nth aK i<=nth aK j+nth ax j))
def tD(aK ax:List Int)(i:Nat):vo aK ax i=(decide (0<=nth aK i/\nth aK i<=512-nth ax i)&& (List.range i).all (wQ aK ax i)):=rfl
def ES(aK ax:List Int)(k:Nat):Bool:=(List.range k).all (vo aK ax)
def O2(aK ax:List Int)(k:Nat):ES aK ax (k+1)=(ES aK ax k&&vo aK ax k):=HS ..
def Gb(h:i<aK.length)(hp:vo aK ax i=false):jb aK ax=false:=by
 unfold jb;rw[D6 h hp];simp
def zl(aK ax:List Int)(i j:Nat):Bool:=(List.range j).all (wQ aK ax i)
def UE(aK ax:List Int)(i j:Nat):zl aK ax i (j+1)=(zl aK ax i j&&wQ aK ax i j):=HS ..
def Jh(h:j<i)(hp:wQ aK ax i j=false):vo aK ax i=false:=by
 rw[tD,D6 h hp];simp
@[simp]def ai3(a:List Int)(I:Int)(ax:List Int)(Q:a.length<=1000000000/\ax.length<=1000000000):cG X 69 [pp a I,.sl false (ax.map (V.int .i64))]=some (.bool (jb a ax)):=by
 refine ij ?_;have R:=Q.1;have u:=Q.2;by_cases O:kZ ax=true
 case neg=>
  have:jb a ax=false:=by unfold jb;simp[O]
  simp[u,O,this]
 by_cases l:a.length=ax.length
 case neg=>
  have T:((a.length:Int)=ax.length)=False:=aA
  have:jb a ax=false:=by unfold jb;simp[l]
  simp[u,O,T,this]
 have P:=oF.1 O;have k:=P.le;simp[u,O,l];refine dO (fun i S=>(S.f 1=ax/\S.f 2= .ptr 2 0 0/\S.h 2=some ⟨2,[pp a I],true⟩/\S.f 21=a/\S.f 22=((a).length:Int)/\S.f 23=(i:Int)/\S.n=1100)/\(ES a ax i=true)) (a.length) ab ?_ ?_ ?_
 .rintro i S ⟨q,p,c⟩ ⟨d,f⟩;have z:i<ax.length:=ab
  have F:=P.elem i z;have r:=z_ (512-ax[i]);have bad: ¬(0<=a[i]/\a[i]<=512-ax[i])->jb a ax=false:=fun h=>by
   exact qy
  have n:i<=a.length:=ab
  simp[d,q,c,z,r];refine⟨fun a1=>⟨fun a2=>bad ab,fun a2=> ?_⟩,fun a1=>bad ab⟩;have H:=z_ (a[i]+ax[i]);refine dO (fun j S=>(S.f 1=ax/\S.f 2= .ptr 2 0 0/\S.h 2=some ⟨2,[pp a I],true⟩/\S.f 5= .int .i64 (i)/\S.f 6= .int .i64 (a[i])/\S.f 21=a/\S.f 22=((a).length:Int)/\S.f 23=(i:Int)/\S.f 42= .sl false ((a.take i).map (V.int .i64))/\S.f 43= .int .i64 (i)/\S.f 44=(j:Int)/\S.n=1100)/\(zl a ax i j=true)) (i) ab ?_ ?_ ?_
  .rintro j S ⟨M,e,E⟩ ⟨m,Y⟩;have x:j<a.length:=ab
   have D:j<ax.length:=ab
   have U:=P.elem j D;have b:0<=a[j]/\a[j]<=512-ax[j]:=by
    have h1:=List.all_eq_true.1 f j (List.mem_range.2 ab);rw[tD,dA x,dA D,X8,decide_eq_true_eq]at h1;exact h1.1
   have o:=z_ (a[j]+ax[j]);have Z:wQ a ax i j= !(decide (a[j]<=a[i]+ax[i])&&decide (a[i]<=a[j]+ax[j])):=by
    unfold wQ;rw[dA c,dA z,dA x,dA D]
   simp[q,m,e,E,z,D,H,o];have s:a[j]<=a[i]+ax[i]->a[i]<=a[j]+ax[j]->jb a ax=false:=fun v g=>Gb c (Jh E (by rw[Z];simp[v,g]));rw[UE,Y,Z];refine⟨fun v=>⟨fun g=>s v g,fun g=> ?_⟩,fun v=> ?_⟩
   .have: ¬a[i]<=a[j]+ax[j]:=ab
    simp[this]
   .have: ¬a[j]<=a[i]+ax[i]:=ab
    simp[this]
  .rintro S ⟨m,Y⟩;have C:vo a ax i=true:=by
    rw[tD,dA c,dA z];have T:(List.range i).all (wQ a ax i)=true:=Y;rw[T];simp[a1,a2]
   simp[c,m,p];have y:ES a ax (i+1)=true:=by rw[O2,f,C];rfl
   first|exact⟨c,y⟩|exact y
  .have N:min i a.length=i:=ab
   simp[d];first|exact⟨ab,rfl⟩|rfl
 .rintro S ⟨d,f⟩;simp[d]<;>(
   have T:(List.range a.length).all (vo a ax)=true:=f;unfold jb;rw[O,T];simp[l])
 .simp<;>(
   simp[ES,l])
@[simp]def ae3(a:List Int)(I:Int)(ax:List Int)(Q:a.length<=1000000000/\ax.length<=1000000000):cG X 145 [pp a I,.sl false (ax.map (V.int .i64))]=some (.bool (jb a ax)):=by
 refine ij ?_;have r:=Q.1;have w:=Q.2;by_cases O:kZ ax=true
 case neg=>
  have:jb a ax=false:=by unfold jb;simp[O]
  simp[w,O,this]
 by_cases l:a.length=ax.length
 case neg=>
  have T:((a.length:Int)=ax.length)=False:=aA
  have:jb a ax=false:=by unfold jb;simp[l]
  simp[w,O,T,this]
 have P:=oF.1 O;have e:=P.le;simp[w,O,l];refine dO (fun i S=>(S.f 1=ax/\S.f 2= .ptr 2 0 0/\S.h 2=some ⟨2,[pp a I],true⟩/\S.f 20=a/\S.f 21=((a).length:Int)/\S.f 22=(i:Int)/\S.n=1100)/\(ES a ax i=true)) (a.length) ab ?_ ?_ ?_
 .rintro i S ⟨q,p,c⟩ ⟨d,f⟩;have z:i<ax.length:=ab
  have G:=P.elem i z;have bad: ¬(0<=a[i]/\a[i]<=512-ax[i])->jb a ax=false:=fun h=>by
   exact qy
  by_cases N:0<=a[i]/\a[i]<512
  case neg=>
   have:jb a ax=false:=bad ab;by_cases A:0<=a[i]
   .have F:(512<=a[i])=True:=aA
    simp[d,c,this,A,F]
   .have F:(0<=a[i])=False:=aA
    simp[d,c,z,this,F]
  obtain⟨M,W⟩:=N;have b:(512<=a[i])=False:=aA
  have H:=z_ (a[i]+ax[i]);simp[d,c,z,H,M,b];by_cases k:512<a[i]+ax[i]
  .simp only[k,bad (show¬_ by omega),true_implies,true_and];exact⟨fun h=>ab,fun h=>ab⟩
  have t:a[i]+ax[i]<=512:=ab
  simp only[k,t,false_implies,true_implies,true_and];refine⟨?_,fun h=>ab⟩;refine dO (fun j S=>(S.f 1=ax/\S.f 2= .ptr 2 0 0/\S.h 2=some ⟨2,[pp a I],true⟩/\S.f 5= .int .i64 (i)/\S.f 6= .int .i64 (a[i])/\S.f 20=a/\S.f 21=((a).length:Int)/\S.f 22=(i:Int)/\S.f 42= .int .i64 (i)/\S.f 43=(j:Int)/\S.n=1100)/\(zl a ax i j=true)) (i) ab ?_ ?_ ?_
  .rintro j S ⟨B,n,E⟩ ⟨m,Y⟩;have u:j<a.length:=ab
   have D:j<ax.length:=ab
   have U:=P.elem j D;have y:0<=a[j]/\a[j]<=512-ax[j]:=by
    have h1:=List.all_eq_true.1 f j (List.mem_range.2 ab);rw[tD,dA u,dA D,X8,decide_eq_true_eq]at h1;exact h1.1
   have o:=z_ (a[j]+ax[j]);have Z:wQ a ax i j= !(decide (a[j]<=a[i]+ax[i])&&decide (a[i]<=a[j]+ax[j])):=by
    unfold wQ;rw[dA c,dA z,dA u,dA D]
   simp[m,n,E,z,D,u,H,o];have s:a[j]<=a[i]+ax[i]->a[i]<=a[j]+ax[j]->jb a ax=false:=fun v g=>Gb c (Jh E (by rw[Z];simp[v,g]));rw[UE,Y,Z];refine⟨fun v=>⟨fun g=>s g v,fun g=> ?_⟩,fun v=> ?_⟩
   .have: ¬a[j]<=a[i]+ax[i]:=ab
    simp[this]
   .have: ¬a[i]<=a[j]+ax[j]:=ab
    simp[this]
  .rintro S ⟨m,Y⟩;have C:vo a ax i=true:=by
    rw[tD,dA c,dA z];have T:(List.range i).all (wQ a ax i)=true:=Y;have e:0<=a[i]/\a[i]<=512-ax[i]:=ab
    rw[T];simp[e]
   simp[c,m,p];have x:ES a ax (i+1)=true:=by rw[O2,f,C];rfl
   first|exact⟨c,x⟩|exact x
  .simp[d]<;>(
    rfl)
 .rintro S ⟨d,f⟩;simp[d]<;>(
   have T:(List.range a.length).all (vo a ax)=true:=f;unfold jb;rw[O,T];simp[l])
 .simp<;>(
   simp[ES,l])
@[simp]def Y2(a:List Int)(c:Int)(ax:List Int)(f t:Int)(l:a.length=ax.length)(b: ∀i (h:i<a.length), -1000<=a[i]/\a[i]<=1000)(z: ∀i (h:i<ax.length),ax[i]<=1000):cG X 107 [pp a c,.sl false (ax.map (V.int .i64)),uS f t]=some (.ed [.int .i64 (if inside ax f t=true then nth a f.toNat+t else 0),.int .i64 (if inside ax f t=true then 0 else 6)]):=by
 refine ij ?_;by_cases h:inside ax f t=true
 .obtain⟨k,y,rfl,h1,K⟩:=iK.1 h;have s:k<a.length:=ab
  have v:=b k s;have g:=z k y;have w:=z_ (a[k]+t);simp[h,s,w,dA s]
 .simp[h]
@[simp]def Xs(a:List Int)(c:Int)(ax:List Int)(f t:Int)(l:a.length=ax.length)(b: ∀i (h:i<a.length), -1000<=a[i]/\a[i]<=1000)(z: ∀i (h:i<ax.length),ax[i]<=1000):cG X 102 [pp a c,.sl false (ax.map (V.int .i64)),uS f t]=some (.ed [.int .i64 (if inside ax f t=true then nth a f.toNat+t else 0),.int .i64 (if inside ax f t=true then 0 else 6)]):=by
 refine ij ?_;by_cases h:inside ax f t=true
 .obtain⟨k,y,rfl,h1,K⟩:=iK.1 h;have s:k<a.length:=ab
  have v:=b k s;have g:=z k y;have w:=z_ (a[k]+t);have p:((a.length:Int)<=k)=False:=aA
  simp[h,s,w,dA s,p]
 .simp[h]
@[simp]def ai4(a:List Int)(c:Int)(ax:List Int)(f d:Int)(L:fM a ax)(m:0<=d/\d<=65535):cG X 90 [pp a c,.sl false (ax.map (V.int .i64)),pi f d]=some ((AD (canon a c ax (ac.mk f d)):V)):=by
 refine ij ?_;have w:=z_ d;by_cases h0:f=0
 .simp[h0,canon]
 by_cases h:f=2
 .simp[h,canon]
 .simp[h0,h,L,m,w,canon];cases r:(resolve a ax d).2<;>simp
@[simp]def ae4(a:List Int)(c:Int)(ax:List Int)(f d:Int)(L:fM a ax)(m:0<=d/\d<=65535)(t:f=0\/f=1\/f=2):cG X 234 [pp a c,.sl false (ax.map (V.int .i64)),pi f d]=some ((AD (canon a c ax (ac.mk f d)):V)):=by
 refine ij ?_;have h:=z_ d;rcases t with rfl|rfl|rfl
 .simp[canon]
 .simp[L,m,h,canon];cases r:(resolve a ax d).2<;>simp
 .simp[canon]
@[simp]def ae5(ax:List Int)(j p g Z:Int):cG X 175 [.sl false (ax.map (V.int .i64)),v7 j p g Z]=some (.bool (proper ax (fd.mk j p g Z))):=by
 refine ij ?_;by_cases h0:j=0
 .simp[h0,proper];exact qb
 by_cases K:j=2
 .simp[K,proper];exact qb
 by_cases h1:j=1
 .simp[h1,proper];by_cases h:p=0<;>simp[h]
 .simp[h0,h1,K,proper]
@[simp]def aq2(a:List Int)(c:Int)(ax:List Int)(j p g Z:Int)(L:fM a ax):cG X 176 [pp a c,.sl false (ax.map (V.int .i64)),v7 j p g Z]=some (.ed [q' ((raw a c ax (fd.mk j p g Z)).1),.int .i64 ((raw a c ax (fd.mk j p g Z)).2)]):=by
 refine ij ?_;cases h:proper ax (fd.mk j p g Z) with
 |false=>simp[h,raw]
 |true=>
  by_cases h0:j=0
  .subst h0;simp[h,raw]
  by_cases K:j=2
  .subst K;simp[h,raw]
  have h1:j=1:=by
   unfold proper at h;by_cases h1:j=1
   .exact h1
   .simp[h0,K,h1]at h
  have m:inside ax g Z=true:=by
   unfold proper at h;simp[h1]at h;exact h.2
  obtain⟨k,y,rfl,a1,a2⟩:=iK.1 m;have s:k<a.length:=by have:=L.len;omega
  have e:=L.base k s y;have w:=z_ (a[k]+Z);subst h1;simp[h,s,w,raw,dA s]
@[simp]def uP(ax:List Int)(dz:Int)(h:tA ax)(M:0<=dz/\dz<=1048575):cG X 29 [ax,dz]=some (.ed [y7 ((⟨fy ax dz,IntKind.u16.wrap (40503*dz)⟩:iy)),.int .i64 0]):=by
 refine ij ?_;have z:=h.pos;have P:=h.le;have m:ax.length<=1000000000:=ab
 have l:=oF.2 h;have n:((ax.length:Int)=0)=False:=eq_false ab;have s:((50*(ax.length:Int))=0)=False:=eq_false ab;have t:=z_ (50*(ax.length:Int));have w:=z_ (40503*dz);have h1:(dz<0)=False:=eq_false ab;have K:(1073741824<dz)=False:=eq_false ab;have C:(ax=[])=False:=eq_false (by rintro rfl;simp at z);have L:0<(ax.length:Int):=ab
 have T:dz.tdiv ax.length=dz/ax.length:=Fp ab;have O:0<=dz/ (ax.length:Int):=DT ab ab;have W:dz/ (ax.length:Int)<=dz:=C_ _ ab;have Z:=z_ (dz/ax.length);have Q:(dz/ax.length).tmod 50=dz/ax.length % 50:=v0 O;have H:=z_ (1+dz/ax.length % 50);simp[m,l,C,w,h1,K,T,Z,Q,H];refine⟨ab,?_⟩;intro _ _;have d:dz.tdiv (50*ax.length)=dz/ (50*ax.length):=Fp ab;have q:0<=dz/ (50*(ax.length:Int)):=DT ab ab;have v:dz/ (50*(ax.length:Int))<=dz:=C_ _ ab;have i:=z_ (dz/ (50*ax.length));have U:(dz/ (50*ax.length)).tmod 40=dz/ (50*ax.length) % 40:=v0 q;refine dO (fun k S=>(S.f 0=ax/\S.f 1= .int .i64 dz/\S.f 4= .ptr 4 0 0/\S.h 4=some ⟨2,[pp ([]:List Int) 0],true⟩/\S.f 6= .int .i64 (ax.length)/\S.f 7= .ptr 7 0 0/\S.h 1000=some ⟨1,(⟨(oB ax dz k).1,IntKind.u16.wrap (40503*dz)⟩:iy).aK.map (V.int .i64),false⟩/\S.h 7=some ⟨2,[.agg [.cX 1000 0 ((⟨(oB ax dz k).1,IntKind.u16.wrap (40503*dz)⟩:iy).aK.map (V.int .i64)).length,.int .u16 (⟨(oB ax dz k).1,IntKind.u16.wrap (40503*dz)⟩:iy).key]],true⟩/\S.f 8= .int .i64 ((oB ax dz k).2)/\S.f 36=((ax).length:Int)/\S.f 37=(k:Int)/\S.n=1101)/\(0<=(oB ax dz k).2/\(oB ax dz k).2<=51+72*k/\(oB ax dz k).1.length=ax.length)) (ax.length) ab ?_ ?_ ?_
 .rintro k S ⟨B,I,o⟩ ⟨N,f⟩;obtain⟨R,Y,c⟩:=f;obtain⟨r,D⟩: ∃r:Nat,((k:Int)+dz) % ax.length=r:=⟨(((k:Int)+dz) % ax.length).toNat,by
   have:=t9 ((k:Int)+dz) (show(ax.length:Int)≠0 by omega);omega⟩
  have E:r<ax.length:=by
   have:=t4 ((k:Int)+dz) L;omega
  have p:r<(oB ax dz k).1.length:=ab
  have e:=h.elem r E;have a:=z_ ((k:Int)+dz);have J:((k:Int)+dz).tmod ax.length=r:=by rw[v0 ab,D]
  have F:=z_ (ax[r]+1);have u:=z_ (ax[r]+1+dz/ (50*ax.length) % 40);have b:=z_ ((oB ax dz k).2+(ax[r]+1+dz/ (50*ax.length) % 40));have x:oB ax dz (k+1)=((oB ax dz k).1.set r (oB ax dz k).2,(oB ax dz k).2+ax[r]+1+dz/ (50*ax.length) % 40):=by
   rw[iM];unfold Hx;rw[D,X7,dA E]
  simp[N,I,o,x,C,s,t,d,i,U,a,J,E,F,u,b,c];omega
 .rintro S ⟨N,f⟩;obtain⟨_,_,c⟩:=f;have y:fy ax dz=(oB ax dz ax.length).1:=rfl;simp[N,y]
 .have h0:oB ax dz 0=(List.replicate ax.length 0,1+dz/ax.length % 50):=rfl;simp[h0];omega
@[simp]def ai5(a:List Int)(c:Int)(h:a.length<=1000000000):cG X 150 [pp a c]=some ((y7 ((iy.mk a c)):V)):=by
 refine ij ?_;simp;omega
def wrap_u16{n:Int}(h:0<=n/\n<=65535):IntKind.u16.wrap n=n:=by
 simp only[IntKind.wrap,IntKind.signed,IntKind.bits,xI];simp;omega
def y_(n:Int)(h:0<=n/\n<=65535:=by omega):=wrap_u16 h
def nv(p:g9)(k:Nat):Bool:=(List.range k).all fun r=>decide (((p.ap.getD r []).length:Int)<=nth p.ax r)
def KO(h:k<p.ap.length)(K:k<p.ax.length):nv p (k+1)=(nv p k&&decide (((p.ap[k]).length:Int)<=p.ax[k])):=by
 unfold nv;rw[HS,dA K];simp[List.getD,h]
def HW(W:k<n)(h:k<p.ap.length)(K:k<p.ax.length)(hp: ¬((p.ap[k]).length:Int)<=p.ax[k]):nv p n=false:=by
 unfold nv;refine D6 W ?_;rw[dA K];simpa[List.getD,h] using hp
def qx(l:List hu):Bool:=l.all nW
def HX(h:i<l.length):qx (l.take (i+1))=(qx (l.take i)&&nW l[i]):=yw h
def HY(h:i<l.length)(hp:nW l[i]=false):qx l=false:=wO h hp
def ET:qx (l.take l.length)=qx l:=ek
def qX(n m:Nat)(i:hu):Bool:= !(jumps i.op&&decide ((n:Int)<=i.eA))&& !(decide (i.op=15)&&decide ((m:Int)<=i.eA))
def oS(n m:Nat)(l:List hu):Bool:=l.all (qX n m)
def HZ(h:i<l.length):oS n m (l.take (i+1))=(oS n m (l.take i)&&qX n m l[i]):=yw h
def SV(h:i<l.length)(hp:qX n m l[i]=false):oS n m l=false:=wO h hp
def O3:oS n m (l.take l.length)=oS n m l:=ek
def jD(p:g9):Int:=
 if kZ p.ax=false then 1 else if p.ap.length≠p.ax.length then 1 else if nv p p.ap.length=false then 1
 else if p.hw.length<1 then 3 else if 64<p.hw.length then 3 else if qx p.hw=false then 5
 else if oS p.hw.length p.ax.length p.hw=false then 6 else 0
def zW(h1:kZ p.ax=true)(K:p.ap.length=p.ax.length)(h:nv p p.ap.length=false):jD p=1:=by
 unfold jD;rw[if_neg er,if_neg dh,if_pos h]
def yz(h1:kZ p.ax=true)(K:p.ap.length=p.ax.length)(S:nv p p.ap.length=true)(h:p.hw.length<1):jD p=3:=by
 unfold jD;rw[if_neg er,if_neg dh,if_neg (by simp[S]),if_pos h]
def zX(h1:kZ p.ax=true)(K:p.ap.length=p.ax.length)(S:nv p p.ap.length=true)(h:64<p.hw.length):jD p=3:=by
 unfold jD;rw[if_neg er,if_neg dh,if_neg (by simp[S]),if_neg ab,if_pos h]
def wg(h1:kZ p.ax=true)(K:p.ap.length=p.ax.length)(S:nv p p.ap.length=true)(a: ¬p.hw.length<1)(h: ¬64<p.hw.length):
  jD p=if qx p.hw=false then 5 else if oS p.hw.length p.ax.length p.hw=false then 6 else 0:=by
 unfold jD;rw[if_neg er,if_neg dh,if_neg (by simp[S]),if_neg a,if_neg h]
def O4(h:jumps op=true): ¬op=15:=by unfold jumps at h;simp at h;omega
def cT:gc:=⟨0,[],0,0,0,0,0,0⟩
def gV(l:List gc)(k:Nat):List Int:=((List.range k).filter fun i=>decide ((l.getD i cT).im=1)).map fun(i:Nat)=>(i:Int)
def O5{l:List gc}(h:i<l.length)(s:(l[i]).im=1):gV l (i+1)=gV l i++ [(i:Int)]:=by
 unfold gV;rw[u5,z6,t2];simp[List.getD,h,s]
def SW{l:List gc}(h:i<l.length)(s: ¬(l[i]).im=1):gV l (i+1)=gV l i:=by
 unfold gV;rw[u5,z6,t2];simp[List.getD,h,s]
def EU(l:List gc)(k:Nat):(gV l k).length<=k:=by
 unfold gV;rw[r9];exact r4 (List.length_filter_le ..) ai
def O7(n m:Nat)(l:List hu):Int:=if oS n m l=true then 0 else 6
@[simp]def ai6(a:List hu)(q:List Int)(w:List (List Int))(h1:q.length<=1000000000)(K:w.length<=1000000000)(V:a.length<=1000000000):cG X 57 [iB a q w]=some (.int .i64 (jD (wn a q w))):=by
 refine ij ?_;by_cases h:kZ q=true
 case neg=>simp[h1,h,jD]
 by_cases l:w.length=q.length
 case neg=>
  have U:((w.length:Int)=q.length)=False:=eq_false ab;simp[h1,h,l,U,jD]
 have Q:=oF.1 h;simp[h1,h,l];refine dO (fun i S=>(S.f 1= .ptr 1 0 0/\S.h 1=some ⟨3,[iB a q w],true⟩/\S.f 23=w/\S.f 24=((w).length:Int)/\S.f 25=(i:Int)/\S.n=1100)/\(nv (wn a q w) i=true)) (w.length) ab ?_ ?_ ?_
 .rintro i S ⟨F,D,z⟩ ⟨d,G⟩;have v:i<q.length:=ab
  have J:=Q.elem i v;have L:nv (wn a q w) (i+1)=(nv (wn a q w) i&&decide (((w[i]).length:Int)<=q[i])):=KO z v;by_cases A:((w[i]).length:Int)<=q[i]
  .have B: ¬(q[i]<((w[i]).length:Int)):=ab
   simp[d,D,z,v,A,B,L,G]
  .have B:q[i]<((w[i]).length:Int):=ab
   have bad:jD (wn a q w)=1:=zW (p:=(g9.mk a q w)) h l (HW (p:=(g9.mk a q w)) z z v A);simp[d,z,v,B,bad]
 .rintro S ⟨d,G⟩;have b:nv (wn a q w) w.length=true:=G;by_cases T:(a.length:Int)<1
  .have c:a.length<1:=ab
   have e:jD (wn a q w)=3:=yz (p:=(g9.mk a q w)) h l b c;simp[d,T,e]
  by_cases C:64<(a.length:Int)
  .have f:64<a.length:=ab
   have c: ¬a.length<1:=ab
   have e:jD (wn a q w)=3:=zX (p:=(g9.mk a q w)) h l b f;simp[d,T,C,e]
  have f: ¬64<a.length:=ab
  have c: ¬a.length<1:=ab
  have key:jD (wn a q w)=if qx a=false then 5 else if oS a.length q.length a=false then 6 else 0:=wg (p:=(g9.mk a q w)) h l b c f
  rw[key];clear key;simp[d,T,C];refine dO (fun j S=>(S.f 1= .ptr 1 0 0/\S.h 1=some ⟨3,[iB a q w],true⟩/\S.f 50=a/\S.f 51=((a).length:Int)/\S.f 52=(j:Int)/\S.n=1100)/\(qx (a.take j)=true)) (a.length) ab ?_ ?_ ?_
  .rintro j S ⟨I,Z,P⟩ ⟨H,x⟩;cases t:nW a[j]
   .have:=HY P t;simp[H,P,t,this]
   .have:=HX P;simp[H,Z,P,t,this,x]
  .rintro S ⟨H,x⟩;rw[ET]at x;simp[H,x];refine dO (fun k S=>(S.f 1= .ptr 1 0 0/\S.h 1=some ⟨3,[iB a q w],true⟩/\S.f 61=a/\S.f 62=((a).length:Int)/\S.f 63=(k:Int)/\S.n=1100)/\(oS a.length q.length (a.take k)=true)) (a.length) ab ?_ ?_ ?_
   .rintro k S ⟨R,N,o⟩ ⟨E,Y⟩;have s:qX a.length q.length a[k]=(!(jumps (a[k]).op&&decide ((a.length:Int)<=(a[k]).eA))&& !(decide ((a[k]).op=15)&&decide ((q.length:Int)<=(a[k]).eA))):=rfl;have y:=HZ (n:=a.length) (m:=q.length) o;have u:=SV (n:=a.length) (m:=q.length) o;rw[s]at y u;cases r:jumps (a[k]).op
    .by_cases g:(a[k]).op=15
     .have M:=eq_true g;by_cases O:(q.length:Int)<=(a[k]).eA
      .have:=u (by simp[r,M,O]);simp[E,o,r,M,O,this]
      .simp[E,N,o,r,M,O,y,Y]
     .simp[E,N,o,r,g,y,Y]
    .have g:=O4 r;by_cases O:(a.length:Int)<=(a[k]).eA
     .have:=u (by simp[r,g,O]);simp[E,o,r,O,this]
     .simp[E,N,o,r,g,O,y,Y]
   .rintro S ⟨E,Y⟩;simp[E]<;>(
     rw[O3]at Y;simp[Y])
   .simp[H]<;>(
     rfl)
  .simp[d]<;>(
    rfl)
 .simp<;>(
   exact⟨ab,rfl⟩)
@[simp]def ai7(a:List hu)(q:List Int)(w:List (List Int))(h1:q.length<=1000000000)(K:w.length<=1000000000)(U:a.length<=1000000000):cG X 215 [iB a q w]=some (.int .i64 (jD (wn a q w))):=by
 refine ij ?_;by_cases z:kZ q=true
 case neg=>simp[h1,z,jD]
 by_cases l:w.length=q.length
 case neg=>
  have T:((w.length:Int)=q.length)=False:=eq_false ab;simp[h1,z,l,T,jD]
 have Q:=oF.1 z;simp[h1,z,l];refine dO (fun i S=>(S.f 1= .ptr 1 0 0/\S.h 1=some ⟨3,[iB a q w],true⟩/\S.f 22=w/\S.f 23=((w).length:Int)/\S.f 24=(i:Int)/\S.n=1100)/\(nv (wn a q w) i=true)) (w.length) ab ?_ ?_ ?_
 .rintro i S ⟨A,y,r⟩ ⟨d,G⟩;have g:i<q.length:=ab
  have I:=Q.elem i g;have L:nv (wn a q w) (i+1)=(nv (wn a q w) i&&decide (((w[i]).length:Int)<=q[i])):=KO r g;by_cases v:((w[i]).length:Int)<=q[i]
  .have B: ¬(q[i]<((w[i]).length:Int)):=ab
   simp[d,y,r,g,v,B,L,G]
  .have B:q[i]<((w[i]).length:Int):=ab
   have bad:jD (wn a q w)=1:=zW (p:=(g9.mk a q w)) z l (HW (p:=(g9.mk a q w)) r r g v);simp[d,r,g,B,bad]
 .rintro S ⟨d,G⟩;have t:nv (wn a q w) w.length=true:=G;by_cases V:(a.length:Int)=0
  .have n:a.length<1:=ab
   have c:a.length=0:=ab
   have e:jD (wn a q w)=3:=yz (p:=(g9.mk a q w)) z l t n;simp[d,c,e]
  by_cases x:64<(a.length:Int)
  .have f:64<a.length:=ab
   have n: ¬a.length<1:=ab
   have c: ¬a.length=0:=ab
   have e:jD (wn a q w)=3:=zX (p:=(g9.mk a q w)) z l t f;simp[d,x,c,e]
  have f: ¬64<a.length:=ab
  have n: ¬a.length<1:=ab
  have c: ¬a.length=0:=ab
  have key:jD (wn a q w)=if qx a=false then 5 else if oS a.length q.length a=false then 6 else 0:=wg (p:=(g9.mk a q w)) z l t n f
  rw[key];clear key;simp[d,x,c];refine dO (fun j S=>(S.f 1= .ptr 1 0 0/\S.h 1=some ⟨3,[iB a q w],true⟩/\S.f 5= .int .i64 (O7 a.length q.length (a.take j))/\S.f 49=a/\S.f 50=((a).length:Int)/\S.f 51=(j:Int)/\S.n=1100)/\(qx (a.take j)=true)) (a.length) ab ?_ ?_ ?_
  .rintro j S ⟨C,Y,P⟩ ⟨H,u⟩;cases k:nW a[j]
   .have:=HY P k;simp[H,P,k,this]
   .have b:=HX P;have s:qX a.length q.length a[j]=(!(jumps (a[j]).op&&decide ((a.length:Int)<=(a[j]).eA))&& !(decide ((a[j]).op=15)&&decide ((q.length:Int)<=(a[j]).eA))):=rfl;have m:O7 a.length q.length (a.take (j+1))=if qX a.length q.length a[j]=true then O7 a.length q.length (a.take j) else 6:=by
     unfold O7;rw[HZ P];cases oS a.length q.length (a.take j)<;>cases qX a.length q.length a[j]<;>rfl
    rw[s]at m;cases h:jumps (a[j]).op
    .by_cases o:(a[j]).op=15
     .have M:=eq_true o;by_cases O:(q.length:Int)<=(a[j]).eA
      .simp[h,M,O]at m;simp[H,Y,P,k,h,M,O,b,m,u]
      .simp[h,M,O]at m;simp[H,Y,P,k,h,M,O,b,m,u]
     .rw[h]at m;simp[o]at m;simp[H,Y,P,k,h,o,b,m,u]
    .have o:=O4 h;by_cases O:(a.length:Int)<=(a[j]).eA
     .rw[h]at m;simp[o,O]at m;simp[H,Y,P,k,h,O,b,m,u]
     .rw[h]at m;simp[o,O]at m;simp[H,Y,P,k,h,o,O,b,m,u]
  .rintro S ⟨H,u⟩;simp[H]<;>(
    rw[ET]at u;unfold O7;cases oS a.length q.length a<;>simp[u])
  .simp[d]<;>(
    exact⟨rfl,rfl⟩)
 .simp<;>(
   exact⟨ab,rfl⟩)
@[simp]def Y4(u:List hu)(q:List Int)(a:List (List Int))(h1:q.length<=1000000000)(K:a.length<=1000000000)(h:u.length<=1000000000):cG X 144 [iB u q a]=some (.int .i64 (jD (wn u q a))):=by
 refine ij ?_;simp[h1,K,h]
@[simp]def Zk(ax:List Int)(j p g Z:Int):cG X 236 [.sl false (ax.map (V.int .i64)),v7 j p g Z]=some (.bool (proper ax (fd.mk j p g Z))):=by
 refine ij ?_;by_cases h0:j=0
 .simp[h0,proper];exact qb
 by_cases K:j=2
 .simp[K,proper];exact qb
 by_cases h1:j=1
 .simp[h1,proper];by_cases h:p=0<;>simp[h]
 .simp[h0,h1,K,proper]
@[simp]def aor(a:List Int)(c:Int)(ax:List Int)(j F g Z:Int)(L:fM a ax):cG X 159 [pp a c,.sl false (ax.map (V.int .i64)),v7 j F g Z]=some (.ed [q' ((raw a c ax (fd.mk j F g Z)).1),.int .i64 ((raw a c ax (fd.mk j F g Z)).2)]):=by
 refine ij ?_;cases p:proper ax (fd.mk j F g Z) with
 |false=>simp[p,raw]
 |true=>
  by_cases h0:j=0
  .subst h0;simp[p,raw]
  by_cases K:j=2
  .subst K;simp[p,raw]
  have h1:j=1:=by
   unfold proper at p;by_cases h1:j=1
   .exact h1
   .simp[h0,K,h1]at p
  have n:inside ax g Z=true:=by
   unfold proper at p;simp[h1]at p;exact p.2
  obtain⟨k,y,rfl,a1,a2⟩:=iK.1 n;have l:=L.len;have s:k<a.length:=ab
  have e:=L.base k s y;have w:=z_ (a[k]+Z);have B: ∀i (h:i<a.length), -1000<=a[i]/\a[i]<=1000:=fun i m=>by have:=L.base i m ab;have:=L.sz.elem i ab;omega
  have z: ∀i (h:i<ax.length),ax[i]<=1000:=fun i m=>by have:=L.sz.elem i m;omega
  subst h1;simp[p,n,l,B,z,raw,dA s]
end Go.Proofs.YtdngefmliibcgaaGreat
