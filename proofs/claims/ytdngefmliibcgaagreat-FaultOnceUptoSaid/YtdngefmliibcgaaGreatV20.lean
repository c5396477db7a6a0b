/- part -/
import Derived.Test.YtdngefmliibcgaaGreatV19
set_option linter.all false
set_option maxRecDepth 20000
set_option maxHeartbeats 20000000
namespace Go.Proofs.YtdngefmliibcgaaGreat
open Go Go.Abs Go.Abs.kI Qf
variable  {α:Type}{i k:Nat}{d x d' t:Int}{c:Cell}{p:Prog}{m:aO}{dl a:List Int}{l:List Cell}{q:Request}
def kh{α:Type}(z:α)(l:List α)(i:Nat)(F:α->α):List α:=l.set i (F (l.getD i z))
def LS{l:List α}(h:l.length<=i)(x:α):l.set i x=l:=List.set_eq_of_length_le h
def Hw(z:α)(l:List α)(i:Nat):l.set i (l.getD i z)=l:=by
 by_cases h:i<l.length
 ·have:l.getD i z=l[i]:=by simp[List.getD,h]
  rw[this,abS]
 ·exact LS (by omega) _
def Hx(z:α)(l:List α)(i:Nat):kh z l i (fun x=>x)=l:=Hw z l i
def Ci(z:α)(l:List α)(i j:Nat)(x:α):(l.set i x).getD j z=if i=j/\i<l.length then x else l.getD j z:=by
 simp only[List.getD,abN];by_cases h:i=j
 ·subst h;by_cases h2:i<l.length
  ·simp[h2]
  ·simp[h2]
 ·simp[h]
def Dp(z:α)(l:List α)(i:Nat)(F:α->α):(kh z l i F).length=l.length:=by simp[kh]
def sP(z:α)(l:List α)(i:Nat)(F:α->α)(h:i<l.length->F (F (l.getD i z))=l.getD i z):kh z (kh z l i F) i F=l:=by
 unfold kh;rw[Ci];by_cases hl:i<l.length
 ·rw[if_pos ⟨rfl,hl⟩,acR,h hl,Hw]
 ·rw[LS (by simp;omega),LS (by omega)]
def zc:Cell:=⟨0,0⟩
def Ks(f:cS)(x:Thread):Thread:=
 if f.kind=1 then⟨x.state,kh zc x.bp (I6 f) (pj · f.bit),x.pc,x.count,x.cp,x.saved,x.dr,x.code⟩
 else if f.kind=2 then⟨x.state,kh zc x.bp (I6 f) (EE · f.bit),x.pc,x.count,x.cp,x.saved,x.dr,x.code⟩
 else if f.kind=3 then⟨x.state,x.bp,Yy x.pc f.bit,x.count,x.cp,x.saved,x.dr,x.code⟩ else x
def XH(f:cS)(c:Cell):Cell:=if f.kind=4 then pj c f.bit else c
def PG(f:cS)(x:cw):cw:=if f.kind=5/\ ¬x.tag= -1 then⟨x.tag,x.iW,kh zc x.cells (qS f % 4) (pj · f.bit)⟩ else x
def jb(p:Prog)(m:aO)(f:cS):aO:=⟨m.layout,⟨kh zc m.memory.cells (Hu p m f) (XH f),kh eh m.memory.lines (qS f/4) (PG f)⟩,kh cn m.threads (qm f) (Ks f)⟩
def Dq(p:Prog)(m:aO)(f:cS):mY p m f=jb p m f:=by
 obtain⟨lay,⟨cs,ls⟩,ts⟩:=m;have n4: ∀h: ¬f.kind=4,kh zc cs (Hu p ⟨lay,⟨cs,ls⟩,ts⟩ f) (XH f)=cs:=fun h=>by
  have:XH f=fun x=>x:=funext fun x=>if_neg h;rw[this,Hx]
 have n5: ∀h: ¬f.kind=5,kh eh ls (qS f/4) (PG f)=ls:=fun h=>by
  have:PG f=fun x=>x:=funext fun x=>if_neg fun g=>h g.1;rw[this,Hx]
 have nt: ∀(h1: ¬f.kind=1) (h2: ¬f.kind=2) (h3: ¬f.kind=3),kh cn ts (qm f) (Ks f)=ts:=fun h1 h2 h3=>by
  have:Ks f=fun x=>x:=funext fun x=>by unfold Ks;rw[if_neg h1,if_neg h2,if_neg h3]
  rw[this,Hx]
 unfold mY jb;by_cases h1:f.kind=1
 ·rw[if_pos h1,n4 (by omega),n5 (by omega)];unfold iZ kh Ks;rw[if_pos h1];rfl
 rw[if_neg h1];by_cases h2:f.kind=2
 ·rw[if_pos h2,n4 (by omega),n5 (by omega)];unfold iZ kh Ks;rw[if_neg h1,if_pos h2];rfl
 rw[if_neg h2];by_cases h3:f.kind=3
 ·rw[if_pos h3,n4 (by omega),n5 (by omega)];unfold iZ kh Ks;rw[if_neg h1,if_neg h2,if_pos h3];rfl
 rw[if_neg h3,nt h1 h2 h3];by_cases h4:f.kind=4
 ·rw[if_pos h4,n5 (by omega)];unfold SX kh XH;rw[if_pos h4];rfl
 rw[if_neg h4,n4 h4];by_cases h5:f.kind=5
 ·rw[if_pos h5];unfold LP;by_cases ht:(dg ⟨cs,ls⟩ (qS f/4)).tag= -1
  ·have e:PG f (ls.getD (qS f/4) eh)=ls.getD (qS f/4) eh:=if_neg fun g=>g.2 ht;rw[if_pos ht];unfold kh;rw[e,Hw]
  ·have e:PG f (ls.getD (qS f/4) eh)=⟨(dg ⟨cs,ls⟩ (qS f/4)).tag,(dg ⟨cs,ls⟩ (qS f/4)).iW,kh zc (dg ⟨cs,ls⟩ (qS f/4)).cells (qS f % 4) (pj · f.bit)⟩:=if_pos ⟨h5,ht⟩;rw[if_neg ht];unfold kh at e⊢;rw[e];rfl
 ·rw[if_neg h5,n5 h5]
def XI{x:Thread}(h:ep d x)(f:cS)(hk: ¬f.kind=2):Ks f (Ks f x)=x:=by
 obtain⟨a,b,c,d',e,g,i,j⟩:=x;have hc:=h.cells;have hp:=h.pc;simp only at hc hp;unfold Ks;by_cases h1:f.kind=1
 ·rw[if_pos h1,if_pos h1];simp only;rw[sP _ _ _ _ fun _=>zv (hc.getD _) _]
 rw[if_neg h1,if_neg h1,if_neg hk,if_neg hk];by_cases h3:f.kind=3
 ·rw[if_pos h3,if_pos h3];simp only;rw[anb hp]
 ·rw[if_neg h3,if_neg h3]
def anc(h:iz c)(f:cS):XH f (XH f c)=c:=by
 unfold XH;by_cases f4:f.kind=4
 ·rw[if_pos f4,if_pos f4,zv h]
 ·rw[if_neg f4,if_neg f4]
def ane{x:cw}(h:ed x.cells)(f:cS):PG f (PG f x)=x:=by
 unfold PG;by_cases c:f.kind=5/\ ¬x.tag= -1
 ·rw[if_pos c];simp only;rw[if_pos c,sP _ _ _ _ fun _=>zv (h.getD _) _]
 ·rw[if_neg c,if_neg c]
def anf(p:Prog)(m:aO)(f g:cS):jb p (jb p m f) g=⟨m.layout,⟨kh zc (kh zc m.memory.cells (Hu p m f) (XH f)) (Hu p m g) (XH g),kh eh (kh eh m.memory.lines (qS f/4) (PG f)) (qS g/4) (PG g)⟩,kh cn (kh cn m.threads (qm f) (Ks f)) (qm g) (Ks g)⟩:=rfl
def Pe(H:cT p d m)(f:cS)(hf: ¬f.kind=2):mY p (mY p m f) f=m:=by
 rw[Dq,Dq,anf];have hl: ∀i,i<m.memory.lines.length->ed (m.memory.lines.getD i eh).cells:=fun i _=>H.mem.line i;rw[sP zc _ _ (XH f) fun _=>(anc (H.mem.cells.getD _) f),
  sP eh _ _ (PG f) fun h=>ane (hl _ h) f,
  sP cn _ _ (Ks f) fun h=>by
   have:=H.pe _ h;rw[show m.threads.getD (qm f) cn=m.threads[qm f] by simp[List.getD,h]];exact XI this f hf]
def Hy(H:cT p d m)(hd:d<=d')(hb:1000000<d')(f:cS):cT p d' (oK p m f):=by
 unfold oK;split
 ·exact XG H hd hb f
 ·exact H.mono hd
def Dr(H:cT p d m)(hd:d<=1099511627776)(f:cS):oK p m f=if pP f=true then mY p m f else m:=by
 have hv:jU p m=true:=(H.mono hd).ok;unfold oK;simp only[hv,and_true]
def Pf(H:cT p d m)(hd:d<=1000001)(f:cS)(hf: ¬f.kind=2):oK p (oK p m f) f=m:=by
 rw[Dr (Hy H hd (by omega) f) (by omega),Dr H (by omega)];by_cases h1:pP f=true<;>simp only[h1,if_true,if_false,aaM];exact Pe H f hf
def Pa.io0{v:V}{h:bh}(H:Pa dl v h k): ∃(kt:Int) (p:Prog) (d:Int) (m:aO),
  yg X [] v h=some (2,(KKa dl kt:V),pmV p m)/\vq v= .dP []/\eH dl kt/\cT p d m/\d<=2000:=by
 obtain⟨kt,p,d,T,m,rfl,h0,hT,T0,vQ,HG,hd⟩:=H;refine⟨kt,p,d,m,?_,rfl,vQ,HG,hd⟩;have qP:m.threads.length=4:=HG.len;have tG: ∀(f:Thread->V),List.take 4 (m.threads.map f)=m.threads.map f:=fun f=>aZ (by simp;omega);have Ss: ∀(f:Thread->Option V),List.take 4 (m.threads.map f)=m.threads.map f:=fun f=>aZ (by simp;omega);unfold pmV;simp(maxSteps:=10000000)[h0,hT,qP,T0,tG]
def SY(hd:eH dl t): ∃(kt:Int) (p:Prog) (d:Int) (m:aO),
  oz X [] 40 2 ((KKa dl t:V)) []=some (2,(KKa dl kt:V),pmV p m,.dP [])/\eH dl kt/\cT p d m/\d<=2000:=by
 obtain⟨v,h,k,e,HE⟩:=XC dl t hd;obtain⟨kt,p,d,m,Bm,hv,h1,h2,h3⟩:=HE.io0;refine⟨kt,p,d,m,?_,h1,h2,h3⟩;unfold oz;rw[show 1+(X.fl 40).length=1 from rfl,e];simp only[Bm,hv]
def xD(F:Nat->Int):Nat->Int
 |0=>0
 |i+1=>xD F i+F i
def avv(F:Nat->Int):xD F 0=0:=rfl
def SZ(F:Nat->Int)(i:Nat):xD F (i+1)=xD F i+F i:=rfl
def Ds{F:Nat->Int}: ∀{n:Nat},(∀i,i<n->F i=0)->xD F n=0
 |0,_=>rfl
 |n+1,h=>by rw[SZ,Ds fun i hi=>h i (by omega),h n (by omega)];rfl
def Cj{F:Nat->Int}{k:Nat}: ∀{n:Nat},k<n->(∀i,i<n->i≠k->F i=0)->xD F n=F k
 |0,h,_=>by omega
 |n+1,h,g=>by
  rw[SZ];by_cases e:k=n
  ·subst e;rw[Ds fun i hi=>g i (by omega) (by omega)];omega
  ·rw[Cj (by omega) fun i hi he=>g i (by omega) he,g n (by omega) (by omega)];omega
def E5{F:Nat->Int}{c:Int}: ∀{n:Nat},(∀i,i<n->0<=F i/\F i<=c)->0<=xD F n/\xD F n<=c*n
 |0,_=>by simp[avv]
 |n+1,h=>by
  have a:=E5 (F:=F) (c:=c) (n:=n) fun i hi=>h i (by omega);have b:=h n (by omega);have e:c*((n+1:Nat):Int)=c*(n:Int)+c:=by rw[Int.natCast_add,Int.mul_add];simp
  rw[SZ,e];omega
def ne1(a b:Int):Int:=if a=b then 0 else 1
def agc(a b:Int):0<=ne1 a b/\ne1 a b<=1:=by unfold ne1;split<;>omega
def ux(a:Int):ne1 a a=0:=if_pos rfl
def Hz{a b:Int}(h: ¬a=b):ne1 a b=1:=if_neg h
def wJ(a b:Cell):Int:=ne1 a.val b.val+ne1 a.tag b.tag
def Bi(a:Cell):wJ a a=0:=by unfold wJ;rw[ux,ux];rfl
def agd(a b:Cell):0<=wJ a b/\wJ a b<=2:=by
 have h1:=agc a.val b.val;have h2:=agc a.tag b.tag;unfold wJ;omega
def dUp(a b:List Cell)(i:Nat):Int:=xD (fun i=>wJ (a.getD i zc) (b.getD i zc)) i
def qn(a b:List Cell):Int:=dUp a b a.length
def a4q(a b:List Cell):dUp a b 0=0:=rfl
def a4r(a b:List Cell)(i:Nat):dUp a b (i+1)=dUp a b i+wJ (a.getD i zc) (b.getD i zc):=rfl
def avx(a b:List Cell)(i:Nat):0<=dUp a b i/\dUp a b i<=2*i:=E5 fun j _=>agd _ _
def wK(a:List Cell):qn a a=0:=Ds fun i _=>Bi _
def xE(h:k<l.length)(F:Cell->Cell):qn (kh zc l k F) l=wJ (F (l.getD k zc)) (l.getD k zc):=by
 unfold qn dUp;rw[Cj (k:=k) (by rw[Dp];exact h) fun i hi hk=>by
  unfold kh;rw[Ci,if_neg (fun g=>hk g.1.symm),Bi]]
 unfold kh;rw[Ci,if_pos ⟨rfl,h⟩]
def XL(x y:Int):Prop:=(x=y/\Go.Abs.bits .u16 .xor x y=0)\/(¬x=y/\ ∃j:Nat,j<16/\Go.Abs.bits .u16 .xor x y=((2^j:Nat):Int))
def zW(h:0<=x/\x<=65535):XL x x:=by
 obtain⟨a,rfl⟩:=aaG h.1;exact .inl ⟨rfl,by rw[Ou (by omega) (by omega),adS];rfl⟩
def Kt(h:0<=x/\x<=65535)(b:Int):XL (uZ x b) x/\ ¬uZ x b=x:=by
 obtain⟨a,rfl⟩:=aaG h.1;obtain⟨j,hj,e,yb⟩:=a1h b;have h1:=acJ (n:=16) (x:=a) (y:=2^j) (by omega) (by omega);have hw:uZ (a:Int) b=((a^^^2^j:Nat):Int):=by unfold uZ;rw[e,Ou (by omega) yb]
 have kz: ¬uZ (a:Int) b=(a:Int):=by rw[hw];have:=auc a j;omega
 refine⟨.inr ⟨kz,j,hj,?_⟩,kz⟩;rw[hw,Ou h1 (by omega),Nat.xor_comm,De]
structure Eg (a b:List Cell):Prop where
 len:a.length=b.length
 le:a.length<=1000
 at_: ∀i (h:i<a.length) (g:i<b.length),XL (a[i]).val (b[i]).val
def avy(h:i<l.length):l.getD i zc=l[i]:=by simp[List.getD,h]
def uy(h:ed l)(hl:l.length<=1000):Eg l l:=⟨rfl,hl,fun i a b=>zW (h.at a).2⟩
def zX(h:ed l)(hl:l.length<=1000)(k:Nat){F:Cell->Cell}(hF: ∀c,iz c->XL (F c).val c.val):Eg (kh zc l k F) l:=by
 refine⟨Dp ..,by rw[Dp];exact hl,fun i a b=> ?_⟩;have e0:(kh zc l k F)[i]=if k=i then F (l.getD k zc) else l[i]:=by
  show(l.set k (F (l.getD k zc)))[i]'(by simpa using b)=_;rw[abA]
 rw[e0];by_cases e:k=i
 ·subst e;rw[if_pos rfl,avy b];exact hF _ (h.at b)
 ·rw[if_neg e];exact zW (h.at b).2
def avz(h:iz c)(b:Int):XL (pj c b).val c.val:=(Kt h.2 b).1
def bdv(h:iz c)(b:Int):XL (EE c b).val c.val:=zW h.2
def fC1(h:iz c)(b:Int):wJ (pj c b) c=1:=by
 unfold wJ pj;rw[Hz (Kt h.2 b).2,ux];rfl
def tC1(h:iz c)(b:Int):wJ (EE c b) c=1:=by
 have:=h.1;unfold wJ EE;rw[ux,Hz (show¬(c.tag+1+b % 2) % 3=c.tag by omega)];rfl
def ang(H:cT p d m)(f:cS):Hu p m f<512:=by
 have hz:=H.lay.sz;have ht:=Gn p.an hz.elem;have z1:=hz.pos;have hL:=H.lay;have z1': ∀x∈p.an,1<=x:=fun x hx=>by
  obtain⟨i,hi,rfl⟩:=abE hx;exact(hz.elem i hi).1
 have uH:=acD f.nV (show total p.an≠0 by omega);have sU:=abW f.nV (show 0<total p.an by omega);obtain⟨kk,v7,e1,e2,e3⟩:=Bh p.an (f.nV % total p.an) 0 z1' uH sU;rw[acL]at e1;have eF:Hu p m f=(nth m.layout.aD (oJ p.an (f.nV % total p.an) 0).1.region.toNat+(oJ p.an (f.nV % total p.an) 0).1.offset).toNat:=rfl;obtain⟨⟨⟨sr,so⟩,se⟩,hs⟩: ∃x,oJ p.an (f.nV % total p.an) 0=x:=⟨_,rfl⟩;rw[hs]at e1 e2 e3 eF;simp only at e1 e2 e3 eF;subst e1;have U3:kk<m.layout.aD.length:=by rw[hL.len];exact v7
 have H7:=hL.base kk U3 v7;rw[eF,aaH];have en:nth m.layout.aD kk=m.layout.aD[kk]:=by unfold nth;simp[List.getD,U3]
 rw[en];omega
def HF(l:List Int):bytesOf (l.map (V.int .u8))=some (l.map fun n=>UInt8.ofNat n.toNat):=by
 unfold bytesOf;rw[adB];induction l with
 |nil=>rfl
 |cons a l ih=>
  show cF (some (UInt8.ofNat a.toNat)::List.map (Go.Abs.byteOf∘V.int .u8) l)=_;rw[cF.eq_3,ih];rfl
@[simp]def LU:bU X 51 [.int .u16 0]=some (.int .i64 0):=by
 refine aaA ?_;simp[dI]
@[simp]def LV(j:Nat)(hj:j<16):bU X 51 [.int .u16 ((2^j:Nat):Int)]=some (.int .i64 1):=by
 refine aaA ?_;have:j=0\/j=1\/j=2\/j=3\/j=4\/j=5\/j=6\/j=7\/j=8\/j=9\/j=10\/j=11\/j=12\/j=13\/j=14\/j=15:=by omega
 have hz: ∀i,i<16->Go.Abs.bits .u16 .and ((2^i:Nat):Int) (IntKind.u16.wrap (((2^i:Nat):Int)-1))=0:=by decide+kernel
 have h0:=hz j hj;obtain⟨x,hx⟩: ∃x:Int,((2^j:Nat):Int)=x:=⟨_,rfl⟩;have hp:0<x:=by rw[<-hx];have:=ae0 j;omega
 rw[hx]at h0⊢;simp[dI,hp,h0]
structure a4s (q:Request):Prop where
 ok:lk q=true
 args:hY q.args
 data:hY q.data
def a4s.lens(h:a4s q):q.args.length<=3/\q.data.length<=16:=by
 have:=h.ok;unfold lk at this;simp only[aaF,decide_eq_true_eq]at this;omega
def jJ(n:Int):0<=IntKind.u8.wrap n/\IntKind.u8.wrap n<=255:=by rw[DY];omega
def lL.append{b:List Int}(ha:lL a)(hb:lL b):lL (a++b):=fun x hx=>by
 rcases List.mem_append.1 hx with h|h
 ·exact ha x h
 ·exact hb x h
def lL.cons(hx:0<=x/\x<=255)(ha:lL a):lL (x::a):=fun y hy=>by
 rcases List.mem_cons.1 hy with rfl|h
 ·exact hx
 ·exact ha y h
def lL.nil:lL []:=fun x hx=>by cases hx
def aq6(v:Int):lL (WS v):= .cons (jJ _) (.cons (jJ _) .nil)
def anh{x:Canon}(h:0<=x.tag/\x.tag<=255):lL (wD x):=by
 unfold wD;split
 ·exact .cons h (.cons (jJ _) (aq6 _))
 ·exact .cons h (.cons (by omega) (aq6 _))
def agf{x:Canon}(h:lN x=true):0<=x.tag/\x.tag<=255:=by
 unfold lN at h;split at h
 ·omega
 split at h
 ·omega
 ·cases h
def UB{l:List Canon}(h:jd l=true):lL (u5 l):=by
 unfold u5;refine .cons (jJ _) ?_;intro x hx;obtain⟨c,hc,hx⟩:=List.mem_flatMap.1 hx;exact anh (agf (List.all_eq_true.1 h c hc)) x hx
def agh(h:lk q=true):lL (xq q):=by
 have hc:jd q.args=true/\jd q.data=true:=by
  unfold lk at h;simp only[aaF]at h;obtain⟨-, -, -, -, -, -, -, -, -, -, -, -,h1, -,h2, -⟩:=h;exact⟨h1,h2⟩
 unfold xq;have e3: ∀a b c:Int,lL [IntKind.u8.wrap a,IntKind.u8.wrap b,IntKind.u8.wrap c]:=fun a b c=> .cons (jJ _) (.cons (jJ _) (.cons (jJ _) .nil));have e2: ∀a b:Int,lL [IntKind.u8.wrap a,IntKind.u8.wrap b]:=fun a b=> .cons (jJ _) (.cons (jJ _) .nil);have e6: ∀v:Int,lL (be6 v):=fun v=> .cons (jJ _) (.cons (jJ _) (.cons (jJ _) (.cons (jJ _) (.cons (jJ _) (.cons (jJ _) .nil)))));exact((((e3 _ _ _).append (e6 _)).append (e2 _ _)).append (UB hc.1)).append (UB hc.2)
def S5(q:Request):(xq q).length=13+4*q.args.length+4*q.data.length:=by
 unfold xq be6;simp[Dd];omega
@[simp]def fO(a b:List Cell)(hd:Eg a b):bU X 50 [a,b]=some (.int .i64 (qn a b)):=by
 refine aaA ?_;have hl:=hd.len;have hle:=hd.le;have hba:b.length=a.length:=hl.symm;simp;refine cY (fun i S=>(S.f 0=a/\S.f 1=b/\S.f 5= .int .i64 (dUp a b i)/\S.f 6= .int .i64 ((i:Int))/\S.n=1100)/\True) (a.length) (by omega) ?_ ?_ ?_
 ·rintro i S ⟨oY,gS,bL⟩ ⟨df,fg⟩;have X0:i<b.length:=by omega
  have hx:=hd.at_ i bL X0;have up:=a4r a b i;have wL:=avx a b i;rw[avy bL,avy X0]at up;obtain⟨⟨at',av⟩,ha⟩: ∃x,a[i]=x:=⟨_,rfl⟩;obtain⟨⟨bt,bv⟩,hb⟩: ∃x,b[i]=x:=⟨_,rfl⟩;rw[ha,hb]at hx up;simp only[wJ]at hx up;obtain⟨D,hD⟩: ∃x,dUp a b i=x:=⟨_,rfl⟩;rw[hD]at up wL;have w00:IntKind.i64.wrap D=D:=wrap_i64 (by omega);have w0:IntKind.i64.wrap (D+0)=D:=by rw[Int.add_zero];exact w00
  have w1:IntKind.i64.wrap (D+1)=D+1:=wrap_i64 (by omega);have w2:IntKind.i64.wrap (D+1+1)=D+1+1:=wrap_i64 (by omega);have w2':IntKind.i64.wrap (D+2)=D+2:=wrap_i64 (by omega);have hlb:(i:Int)<b.length:=by omega
  have nle: ¬a.length<=i:=by omega
  have ani: ¬(a.length:Int)<=i:=by omega
  by_cases ht:at'=bt
  ·rw[ht,ux]at up;rcases hx with⟨e1,e2⟩|⟨e1,j,hj,e2⟩
   ·subst e1;rw[ux]at up;simp[df,gS,bL,hba,ani,ha,hb,e2,ht,hD,up,LU,w00]
   ·rw[Hz e1]at up;have ho:=LV j hj;rw[<-e2]at ho;simp[df,gS,bL,hba,ani,ha,hb,ho,ht,hD,up,w1]
  ·rw[Hz ht]at up;rcases hx with⟨e1,e2⟩|⟨e1,j,hj,e2⟩
   ·subst e1;rw[ux]at up;simp[df,gS,bL,hba,ani,ha,hb,e2,ht,hD,up,LU,w00,w1]
   ·rw[Hz e1]at up;have ho:=LV j hj;rw[<-e2]at ho;simp[df,gS,bL,hba,ani,ha,hb,ho,ht,hD,up,w1,w2',(show D+1+1=D+2 by omega)]
 ·rintro S ⟨df,fg⟩;have EM:qn a b=dUp a b a.length:=rfl;simp[df,hba,EM]
 ·have hz:=a4q a b;simp[hz]
def Bj(H:cT p d m)(f:cS):
  Eg (jb p m f).memory.cells m.memory.cells/\qn (jb p m f).memory.cells m.memory.cells=if f.kind=4 then 1 else 0:=by
 have hc:=H.mem.cells;have hl:m.memory.cells.length<=1000:=by have:=H.mem.mem.len;omega
 have ha:Hu p m f<m.memory.cells.length:=by have:=H.mem.mem.len;have:=ang H f;omega
 refine⟨zX hc hl _ fun c h=> ?_,?_⟩
 ·unfold XH;split
  ·exact avz h _
  ·exact zW h.2
 ·show qn (kh zc m.memory.cells (Hu p m f) (XH f)) m.memory.cells=_;rw[xE ha];unfold XH;split
  ·exact fC1 (hc.getD _) _
  ·exact Bi _
def HK(z:α)(l:List α)(i j:Nat)(F:α->α)(h:i<l.length):(kh z l i F).getD j z=if i=j then F (l.getD i z) else l.getD j z:=by
 unfold kh;rw[Ci];by_cases e:i=j
 ·rw[if_pos ⟨e,h⟩,if_pos e]
 ·rw[if_neg (fun g=>e g.1),if_neg e]
def Pg(f:cS)(x:cw):Int:=if f.kind=5/\ ¬x.tag= -1 then 1 else 0
def XM{x:cw}(hc:ed x.cells)(hl: ¬x.tag= -1->x.cells.length=4)(ya:x.cells.length<=1000)(f:cS):Eg (PG f x).cells x.cells/\qn (PG f x).cells x.cells=Pg f x:=by
 unfold PG Pg;by_cases c:f.kind=5/\ ¬x.tag= -1
 ·rw[if_pos c,if_pos c];refine⟨zX hc ya _ fun c h=>avz h _,?_⟩;simp only;rw[xE (by rw[hl c.2];omega)];exact fC1 (hc.getD _) _
 ·rw[if_neg c,if_neg c];exact⟨uy hc ya,wK _⟩
def XN(f:cS):Int:=if f.kind=1\/f.kind=2 then 1 else 0
def XO{x:Thread}(h:ep d x)(f:cS):Eg (Ks f x).bp x.bp/\qn (Ks f x).bp x.bp=XN f:=by
 have h8:=h.bp;have hc:=h.cells;have hr:=am9 f;unfold Ks XN;by_cases h1:f.kind=1
 ·rw[if_pos h1,if_pos (.inl h1)];refine⟨zX hc (by omega) _ fun c h=>avz h _,?_⟩;simp only;rw[xE (by omega)];exact fC1 (hc.getD _) _
 rw[if_neg h1];by_cases h2:f.kind=2
 ·rw[if_pos h2,if_pos (.inr h2)];refine⟨zX hc (by omega) _ fun c h=>bdv h _,?_⟩;simp only;rw[xE (by omega)];exact tC1 (hc.getD _) _
 have hn: ¬(f.kind=1\/f.kind=2):=fun g=>g.elim h1 h2;rw[if_neg h2,if_neg hn];by_cases h3:f.kind=3
 ·rw[if_pos h3];exact⟨uy hc (by show x.bp.length<=1000;omega),wK _⟩
 ·rw[if_neg h3];exact⟨uy hc (by omega),wK _⟩
def pcD(f:cS):Int:=if f.kind=3 then 1 else 0
def PcP(x y v:Int):Prop:=(v=0/\IntKind.u16.wrap (Go.Abs.bits .i64 .xor x y)=0)\/(v=1/\ ∃j:Nat,j<16/\IntKind.u16.wrap (Go.Abs.bits .i64 .xor x y)=((2^j:Nat):Int))
def Ck(h:0<=x/\x<=255):PcP x x 0:=by
 obtain⟨a,rfl⟩:=aaG h.1;exact .inl ⟨rfl,by rw[Pc (by omega) (by omega),adS];rfl⟩
def anj{x:Thread}(h:ep d x)(f:cS):PcP (Ks f x).pc x.pc (pcD f):=by
 have hp:=h.pc;unfold Ks pcD;by_cases h1:f.kind=1
 ·rw[if_pos h1,if_neg (by omega)];exact Ck hp
 rw[if_neg h1];by_cases h2:f.kind=2
 ·rw[if_pos h2,if_neg (by omega)];exact Ck hp
 rw[if_neg h2];by_cases h3:f.kind=3
 ·rw[if_pos h3,if_pos h3];obtain⟨a,ha⟩:=aaG hp.1;simp only;rw[ha];obtain⟨j,hj,yb,e⟩:=Ux (a:=a) (by omega) f.bit;have h4:=acJ (n:=8) (x:=a) (y:=2^j) (by omega) (by omega);refine .inr ⟨rfl,j,by omega,?_⟩;rw[e,Pc (by omega) (by omega),Nat.xor_comm,De];have CH:=ae0 j;obtain⟨P,hP⟩: ∃P,2^j=P:=⟨_,rfl⟩;rw[hP]at yb⊢;exact wrap_u16 (by omega)
 ·rw[if_neg h3,if_neg h3];exact Ck hp
def S6{l:List Int}{k:Int}:1<=(uX l 1 1 k).kind/\(uX l 1 1 k).kind<=6/\pP (uX l 1 1 k)=true:=by
 have h1:=ez l k (n:=1) (by omega);have h2:=ez l (dK l k) (n:=1) (by omega);have h3:=ez l (Lq l k) (n:=6) (by omega);have e1:(uX l 1 1 k).time=eX l k 1:=rfl;have e2:(uX l 1 1 k).dL=eX l (dK l k) 1:=rfl;have e3:(uX l 1 1 k).kind=1+eX l (Lq l k) 6:=rfl;refine⟨by omega,by omega,?_⟩;unfold pP;simp only[aaF,decide_eq_true_eq];omega
def Bk(x m:aO)(b:Int)(i:Nat):Int:=b+xD (fun i=>qn (dg x.memory i).cells (dg m.memory i).cells) i
def Dt(x m:aO)(f:cS)(b:Int)(i:Nat):Int:=b+xD (fun i=>qn (bV x i).bp (bV m i).bp+(if i=qm f then pcD f else 0)) i
def av0(x m:aO)(b:Int):Bk x m b 0=b:=by simp[Bk,xD]
def av1(x m:aO)(b:Int)(i:Nat):Bk x m b (i+1)=Bk x m b i+qn (dg x.memory i).cells (dg m.memory i).cells:=by simp[Bk,xD];omega
def av2(x m:aO)(f:cS)(b:Int):Dt x m f b 0=b:=by simp[Dt,xD]
def av3(x m:aO)(f:cS)(b:Int)(i:Nat):Dt x m f b (i+1)=Dt x m f b i+(qn (bV x i).bp (bV m i).bp+(if i=qm f then pcD f else 0)):=by simp[Dt,xD];omega
def lnF(H:cT p d m)(f:cS)(hi:i<4):Eg (dg (jb p m f).memory i).cells (dg m.memory i).cells/\
  qn (dg (jb p m f).memory i).cells (dg m.memory i).cells=if qS f/4=i then Pg f (dg m.memory i) else 0:=by
 have hl:=H.mem.mem.lines;have h5:qS f/4<m.memory.lines.length:=by have:=LR f;omega
 have hc:=H.mem.line i;have hle:(dg m.memory i).cells.length<=1000/\(¬(dg m.memory i).tag= -1->(dg m.memory i).cells.length=4):=by
  rw[fJ (by omega)];have:=H.mem.mem.line i (by omega);by_cases e:(m.memory.lines[i]).tag= -1
  ·exact⟨by rw[(this.none e).2];simp,fun g=>absurd e g⟩
  ·exact⟨by rw[(this.some e).2.2.2];omega,fun _=>(this.some e).2.2.2⟩
 have e:dg (jb p m f).memory i=if qS f/4=i then PG f (dg m.memory (qS f/4)) else dg m.memory i:=by
  show(kh eh m.memory.lines (qS f/4) (PG f)).getD i eh=_;rw[HK _ _ _ _ _ h5];rfl
 rw[e];by_cases g:qS f/4=i
 ·rw[if_pos g,if_pos g,g];exact XM hc hle.2 hle.1 f
 ·rw[if_neg g,if_neg g];exact⟨uy hc hle.1,wK _⟩
def Du(H:cT p d m)(f:cS)(hi:i<4):Eg (bV (jb p m f) i).bp (bV m i).bp/\
  qn (bV (jb p m f) i).bp (bV m i).bp=(if qm f=i then XN f else 0)/\PcP (bV (jb p m f) i).pc (bV m i).pc (if i=qm f then pcD f else 0):=by
 have hl:=H.len;have h4:=LQ f;have ht:=H.bV hi;have e:bV (jb p m f) i=if qm f=i then Ks f (bV m (qm f)) else bV m i:=by
  show(kh cn m.threads (qm f) (Ks f)).getD i cn=_;rw[HK _ _ _ _ _ (by omega)];rfl
 rw[e];by_cases g:qm f=i
 ·subst g;rw[if_pos rfl,if_pos rfl,if_pos rfl];have a:=XO ht f;exact⟨a.1,a.2,anj ht f⟩
 ·rw[if_neg g,if_neg g,if_neg (fun e=>g e.symm)];exact⟨uy ht.cells (by rw[ht.bp];omega),wK _,Ck ht.pc⟩
def agi(H:cT p d m)(f:cS)(hk:1<=f.kind/\f.kind<=6):
  Dt (jb p m f) m f (Bk (jb p m f) m (qn (jb p m f).memory.cells m.memory.cells) 4) 4=if f.kind=6\/f.kind=5/\(dg m.memory (qS f/4)).tag= -1 then 0 else 1:=by
 have hL:=LR f;have hT:=LQ f;unfold Dt Bk;rw[(Bj H f).2,Cj (k:=qS f/4) (by omega) fun i hi hn=>by rw[(lnF H f hi).2,if_neg (aaU hn)],
  Cj (k:=qm f) (by omega) fun i hi hn=>by rw[(Du H f hi).2.1,if_neg (aaU hn),if_neg hn];rfl]
 rw[(lnF H f (i:=qS f/4) (by omega)).2,if_pos rfl,(Du H f (i:=qm f) (by omega)).2.1,if_pos rfl,if_pos rfl];unfold Pg XN pcD;have hc:f.kind=1\/f.kind=2\/f.kind=3\/f.kind=4\/f.kind=5\/f.kind=6:=by omega
 rcases hc with h|h|h|h|h|h<;>simp only[h]<;>by_cases g:(dg m.memory (qS f/4)).tag= -1<;>simp[g]
def ank(H:cT p d m)(f:cS): ∀i,i<=4->(0<=Bk (jb p m f) m (qn (jb p m f).memory.cells m.memory.cells) i/\Bk (jb p m f) m (qn (jb p m f).memory.cells m.memory.cells) i<=100)/\
  0<=Dt (jb p m f) m f (Bk (jb p m f) m (qn (jb p m f).memory.cells m.memory.cells) 4) i/\Dt (jb p m f) m f (Bk (jb p m f) m (qn (jb p m f).memory.cells m.memory.cells) 4) i<=100:=by
 have h0:0<=qn (jb p m f).memory.cells m.memory.cells/\qn (jb p m f).memory.cells m.memory.cells<=1:=by rw[(Bj H f).2];split<;>omega
 have hl: ∀i,i<=4->0<=xD (fun i=>qn (dg (jb p m f).memory i).cells (dg m.memory i).cells) i/\xD (fun i=>qn (dg (jb p m f).memory i).cells (dg m.memory i).cells) i<=1*i:=fun i hi=>
  E5 fun j hj=>by
   rw[(lnF H f (i:=j) (by omega)).2];unfold Pg;split
   ·split<;>omega
   ·omega
 have ht: ∀i,i<=4->0<=xD (fun i=>qn (bV (jb p m f) i).bp (bV m i).bp+(if i=qm f then pcD f else 0)) i/\xD (fun i=>qn (bV (jb p m f) i).bp (bV m i).bp+(if i=qm f then pcD f else 0)) i<=2*i:=fun i hi=>
  E5 fun j hj=>by
   rw[(Du H f (i:=j) (by omega)).2.1];unfold XN pcD;split<;>split<;>(try split)<;>(try split)<;>omega
 intro i hi;have a:=hl i hi;have b:=hl 4 (by omega);have c:=ht i hi;unfold Dt Bk;omega
@[simp]def Ph(l:List Int)(hl:l.length<=2000000)(haw:bU X 39 []=some (.bool true)): ∃h' k',cL X 10 [l] pK 0=some (.bool true,h',k'):=by
 suffices H: ∃v h' k',cL X 10 [.sl false (l.map (V.int .i64))] pK 0=some (v,h',k')/\v= .bool true by
  obtain⟨v,h',k',e,rfl⟩:=H;exact⟨h',k',e⟩
 have PC:eH l 0:=⟨by omega,by omega⟩;obtain⟨kt,⟨pc,ps,pd⟩,d,⟨⟨mb,mk⟩,⟨mc,ml⟩,mt⟩,hM,vQ,HG,Yb⟩:=SY (dl:=l) PC;have F1:=uY l kt 1 1 vQ (by omega) (by omega);have hfd:=S6 (l:=l) (k:=kt);obtain⟨⟨ft,fr,fk,fh,fw,fb⟩,hf⟩: ∃f,uX l 1 1 kt=f:=⟨_,rfl⟩;rw[hf]at F1 hfd;simp only at F1 hfd;simp only[pmV]at hM;have qP:mt.length=4:=HG.len;have sE:ml.length=4:=HG.mem.mem.lines;have hp:=HG.prog.lens;have Gf:=Hy HG (d':=1000001) (by omega) (by omega) ⟨ft,fr,fk,fh,fw,fb⟩;have A1:=jW pc ps pd mb mk mc ml mt ft fr fk fh fw fb d HG (by omega);have eR:oK ⟨pc,ps,pd⟩ ⟨⟨mb,mk⟩,⟨mc,ml⟩,mt⟩ ⟨ft,fr,fk,fh,fw,fb⟩=jb ⟨pc,ps,pd⟩ ⟨⟨mb,mk⟩,⟨mc,ml⟩,mt⟩ ⟨ft,fr,fk,fh,fw,fb⟩:=by
  rw[Dr HG (by omega),if_pos hfd.2.2,Dq]
 have MU:=Pf HG (by omega) ⟨ft,fr,fk,fh,fw,fb⟩;have jV:=agi HG ⟨ft,fr,fk,fh,fw,fb⟩ ⟨hfd.1,hfd.2.1⟩;have NC:=ank HG ⟨ft,fr,fk,fh,fw,fb⟩;have rH:=(Bj HG ⟨ft,fr,fk,fh,fw,fb⟩).1;have Pt:=fun i (h:i<4)=>(lnF HG ⟨ft,fr,fk,fh,fw,fb⟩ h).1;have oT:=fun i (h:i<4)=>(Du HG ⟨ft,fr,fk,fh,fw,fb⟩ h).1;have Cn:=fun i (h:i<4)=>(Du HG ⟨ft,fr,fk,fh,fw,fb⟩ h).2.2;have hdv: ∀i,i<4->0<=qn (bV (jb ⟨pc,ps,pd⟩ ⟨⟨mb,mk⟩,⟨mc,ml⟩,mt⟩ ⟨ft,fr,fk,fh,fw,fb⟩) i).bp (bV ⟨⟨mb,mk⟩,⟨mc,ml⟩,mt⟩ i).bp/\qn (bV (jb ⟨pc,ps,pd⟩ ⟨⟨mb,mk⟩,⟨mc,ml⟩,mt⟩ ⟨ft,fr,fk,fh,fw,fb⟩) i).bp (bV ⟨⟨mb,mk⟩,⟨mc,ml⟩,mt⟩ i).bp<=1:=fun i h=>by
  rw[(Du HG ⟨ft,fr,fk,fh,fw,fb⟩ h).2.1];unfold XN;split
  ·split<;>omega
  ·omega
 rw[eR]at A1 Gf MU;obtain⟨x,hx⟩: ∃x,jb ⟨pc,ps,pd⟩ ⟨⟨mb,mk⟩,⟨mc,ml⟩,mt⟩ ⟨ft,fr,fk,fh,fw,fb⟩=x:=⟨_,rfl⟩;rw[hx]at A1 Gf MU jV NC rH;simp only[hx]at Pt oT Cn hdv;obtain⟨⟨xb,xk⟩,⟨xc,xl⟩,xt⟩:=x;simp only at A1 rH Pt;have wO:xt.length=4:=Gf.len;have DB:xl.length=4:=Gf.mem.mem.lines;have hV:=Ao pc ps pd xb xk xc xl xt hp Gf.lens;rw[(Gf.mono (show(1000001:Int)<=1099511627776 by omega)).ok]at hV;have D0:=fO xc mc rH;obtain⟨D,hD⟩: ∃x,qn xc mc=x:=⟨_,rfl⟩;rw[hD]at D0;have hD':qn (aO.mk ⟨xb,xk⟩ ⟨xc,xl⟩ xt).memory.cells (aO.mk ⟨mb,mk⟩ ⟨mc,ml⟩ mt).memory.cells=D:=hD;rw[hD']at jV;simp only[hD']at NC;have hz1:=av0 ⟨⟨xb,xk⟩,⟨xc,xl⟩,xt⟩ ⟨⟨mb,mk⟩,⟨mc,ml⟩,mt⟩ D;obtain⟨E,hE⟩: ∃x,Bk ⟨⟨xb,xk⟩,⟨xc,xl⟩,xt⟩ ⟨⟨mb,mk⟩,⟨mc,ml⟩,mt⟩ D 4=x:=⟨_,rfl⟩;rw[hE]at jV;simp only[hE]at NC;have hz2:=av2 ⟨⟨xb,xk⟩,⟨xc,xl⟩,xt⟩ ⟨⟨mb,mk⟩,⟨mc,ml⟩,mt⟩ ⟨ft,fr,fk,fh,fw,fb⟩ E;have tG: ∀(f:Thread->V),List.take 4 (xt.map f)=xt.map f:=fun f=>aZ (by simp;omega);refine aaB ?_;simp[-uY, -jW, -fO, -Ao,a2e,hM,F1,sE,A1,hV,D0];refine cY (fun i S=>(S.f 4= .ptr 4 0 0/\S.h 4=some ⟨3,[KKi (⟨pc,ps,pd⟩:Prog)],true⟩/\S.f 5= .ptr 5 0 0/\S.h 5=some ⟨5,[KKK (⟨⟨mb,mk⟩,⟨mc,ml⟩,mt⟩:aO)],true⟩/\S.f 6= .ptr 6 0 0/\S.h 6=some ⟨6,[KKu (⟨ft,fr,fk,fh,fw,fb⟩:cS)],true⟩/\S.f 7= .ptr 7 0 0/\S.h 7=some ⟨5,[KKK (⟨⟨xb,xk⟩,⟨xc,xl⟩,xt⟩:aO)],true⟩/\S.f 8= .int .i64 (Bk ⟨⟨xb,xk⟩,⟨xc,xl⟩,xt⟩ ⟨⟨mb,mk⟩,⟨mc,ml⟩,mt⟩ D i)/\S.f 39= .int .i64 ((4:Int))/\S.f 40= .int .i64 ((i:Int))/\S.n=1100)/\True) (4) (by omega) ?_ ?_ ?_
 ·rintro i S ⟨oY,gS,bL⟩ ⟨df,fg⟩;have i4:(i:Int)<4:=by omega
  have i1:i<ml.length:=by omega
  have i2:i<xl.length:=by omega
  have hd:=Pt i bL;have hb:=(NC i (by omega)).1;have Bn:=(NC (i+1) (by omega)).1;have us:=av1 ⟨⟨xb,xk⟩,⟨xc,xl⟩,xt⟩ ⟨⟨mb,mk⟩,⟨mc,ml⟩,mt⟩ D i;simp only at hd us;rw[fJ (m:=⟨mc,ml⟩) i1,fJ (m:=⟨xc,xl⟩) i2]at hd us;have D1:=fO (xl[i]).cells (ml[i]).cells hd;obtain⟨q,hq⟩: ∃x,qn (xl[i]).cells (ml[i]).cells=x:=⟨_,rfl⟩;rw[hq]at D1 us;rw[us]at Bn;have hw:=wrap_i64 (n:=Bk ⟨⟨xb,xk⟩,⟨xc,xl⟩,xt⟩ ⟨⟨mb,mk⟩,⟨mc,ml⟩,mt⟩ D i+q) (by omega);simp[df,gS,bL, -fO,sE,DB,i4,D1,us,hw]
 ·rintro S ⟨df,fg⟩;simp[df, -fO,qP];refine cY (fun j S=>(S.f 4= .ptr 4 0 0/\S.h 4=some ⟨3,[KKi (⟨pc,ps,pd⟩:Prog)],true⟩/\S.f 5= .ptr 5 0 0/\S.h 5=some ⟨5,[KKK (⟨⟨mb,mk⟩,⟨mc,ml⟩,mt⟩:aO)],true⟩/\S.f 6= .ptr 6 0 0/\S.h 6=some ⟨6,[KKu (⟨ft,fr,fk,fh,fw,fb⟩:cS)],true⟩/\S.f 7= .ptr 7 0 0/\S.h 7=some ⟨5,[KKK (⟨⟨xb,xk⟩,⟨xc,xl⟩,xt⟩:aO)],true⟩/\S.f 8= .int .i64 (Dt ⟨⟨xb,xk⟩,⟨xc,xl⟩,xt⟩ ⟨⟨mb,mk⟩,⟨mc,ml⟩,mt⟩ ⟨ft,fr,fk,fh,fw,fb⟩ E j)/\S.f 63= .int .i64 ((4:Int))/\S.f 64= .int .i64 ((j:Int))/\S.n=1100)/\True) (4) (by omega) ?_ ?_ ?_
  ·rintro j S ⟨mj,uD,jq⟩ ⟨lB,r9⟩;have i4:(j:Int)<4:=by omega
   have i1:j<mt.length:=by omega
   have i2:j<xt.length:=by omega
   have hd:=oT j jq;have hc:=Cn j jq;have hq0:=hdv j jq;have hb:=(NC j (by omega)).2;have Bn:=(NC (j+1) (by omega)).2;have us:=av3 ⟨⟨xb,xk⟩,⟨xc,xl⟩,xt⟩ ⟨⟨mb,mk⟩,⟨mc,ml⟩,mt⟩ ⟨ft,fr,fk,fh,fw,fb⟩ E j;rw[iq (m:=⟨⟨mb,mk⟩,⟨mc,ml⟩,mt⟩) i1,iq (m:=⟨⟨xb,xk⟩,⟨xc,xl⟩,xt⟩) i2]at hd hc us hq0;simp only at hd hc us hq0;have D1:=fO (xt[j]).bp (mt[j]).bp hd;obtain⟨q,hq⟩: ∃x,qn (xt[j]).bp (mt[j]).bp=x:=⟨_,rfl⟩;rw[hq]at D1 us hq0;obtain⟨r,hr⟩: ∃x,(if j=qm ⟨ft,fr,fk,fh,fw,fb⟩ then pcD ⟨ft,fr,fk,fh,fw,fb⟩ else 0)=x:=⟨_,rfl⟩;rw[hr]at hc us;obtain⟨T,hT⟩: ∃x,Dt ⟨⟨xb,xk⟩,⟨xc,xl⟩,xt⟩ ⟨⟨mb,mk⟩,⟨mc,ml⟩,mt⟩ ⟨ft,fr,fk,fh,fw,fb⟩ E j=x:=⟨_,rfl⟩;rw[hT]at us hb;rcases hc with⟨rfl,hc⟩|⟨rfl,v,hv,hc⟩
   ·have uH:IntKind.i64.wrap q=q:=wrap_i64 (by omega);have hw:IntKind.i64.wrap (T+q)=T+q:=wrap_i64 (by omega);simp[lB,uD,jq, -fO,qP,wO,i4,D1,us,hc,hT,LU,uH,hw]
   ·have ho:=LV v hv;rw[<-hc]at ho;have uH:IntKind.i64.wrap (q+1)=q+1:=wrap_i64 (by omega);have hw:IntKind.i64.wrap (T+(q+1))=T+(q+1):=wrap_i64 (by omega);simp[lB,uD,jq, -fO,qP,wO,i4,D1,us,ho,hT,uH,hw]
  ·rintro S ⟨lB,r9⟩;have hLt:=LR ⟨ft,fr,fk,fh,fw,fb⟩;obtain⟨L,hL⟩: ∃x,qS ⟨ft,fr,fk,fh,fw,fb⟩/4=x:=⟨_,rfl⟩;have WY:IntKind.i64.wrap ((fw % 16).tdiv 4)=(L:Int):=by
    have e0:(fw % 16).tdiv 4=(L:Int):=by
     rw[abD (by omega)];have:qS ⟨ft,fr,fk,fh,fw,fb⟩=(fw % 16).toNat:=rfl;omega
    rw[e0];exact wrap_i64 (by omega)
   have L4:L<4:=by omega
   have L4i:(L:Int)<4:=by omega
   have Ll:L<ml.length:=by omega
   rw[hL,fJ (m:=⟨mc,ml⟩) Ll]at jV;have A2:=jW pc ps pd xb xk xc xl xt ft fr fk fh fw fb 1000001 Gf (by omega);have hS:=pq mb mk mc ml mt mb mk mc ml mt HG.lens;rw[decide_eq_true (by rfl)]at hS;have tkm: ∀(f:Thread->V),List.take 4 (mt.map f)=mt.map f:=fun f=>aZ (by simp;omega);obtain⟨T4,hT4⟩: ∃x,Dt ⟨⟨xb,xk⟩,⟨xc,xl⟩,xt⟩ ⟨⟨mb,mk⟩,⟨mc,ml⟩,mt⟩ ⟨ft,fr,fk,fh,fw,fb⟩ E 4=x:=⟨_,rfl⟩;rw[hT4]at jV;simp only at jV;by_cases k2:fk=2
   ·subst k2;rw[if_neg (by omega)]at jV;subst jV;simp[lB, -fO, -jW, -pq,hT4,haw]
   have Bn:=MU k2;rw[Bn]at A2;simp only at A2;by_cases k6:fk=6
   ·subst k6;rw[if_pos (.inl rfl)]at jV;subst jV;simp[lB, -fO, -jW, -pq,hT4,haw,A2,hS]
   by_cases k5:fk=5
   ·subst k5;by_cases tg:(ml[L]).tag= -1
    ·rw[if_pos (.inr ⟨rfl,tg⟩)]at jV;subst jV;simp[lB, -fO, -jW, -pq,sE,hT4,haw,A2,hS,WY,L4,L4i,tg]
    ·rw[if_neg (by omega)]at jV;subst jV;simp[lB, -fO, -jW, -pq,sE,hT4,haw,A2,hS,WY,L4,L4i,tg]
   ·rw[if_neg (by omega)]at jV;subst jV;simp[lB, -fO, -jW, -pq,hT4,haw,A2,hS,k2,k5,k6]
  ·simp[df,hz2,hE]
 ·simp[hz1]
end Go.Proofs.YtdngefmliibcgaaGreat
