import Derived.Test.YtdngefmliibcgaaGreatB12
set_option linter.all false
set_option maxRecDepth 20000
set_option maxHeartbeats 0
namespace Go.Proofs.YtdngefmliibcgaaGreat
open Go Go.Abs Go.Abs.jJ Qf
variable  {i n k T C L:Nat}{o:dw}{r:io}{d pc a t key:Int}{x:eI}{c:ac}{p:g9}{m m':aN}{h h':bI}{S:Nat->Prop}{vB vC vL:V}{ids bH:Nat->Nat}
@[simp]def ayr(hx:bI)(l:List (List Int)):di (l.map (da hx 12∘bw))=some (l.map bw):=qQ (fun _=>rfl) l
def ZT(x:List Int)(n:Nat)(v:V):(bw x).put n v=v:=rfl
@[simp]def bqs(u:List (List Int))(m:u.length<=1000000000)(hx: ∀i (h:i<u.length),(u[i]).length<=1000000000):mh X [(0,0,37)] 204 [u]=some u:=by
 refine tS ?_;simp;refine dO (fun i S=>(S.f 3= .cX 3 0 (((u.take i).map bw)).length/\S.h 3=some ⟨1,((u.take i).map bw),false⟩/\S.f 6=u/\S.f 7=((u).length:Int)/\S.f 8=(i:Int)/\S.n=1100)/\True) (u.length) ab ?_ ?_ ?_
 .rintro i S ⟨q,O,c⟩ ⟨d,f⟩;have g:=hx i c;have l:min i u.length=i:=ab
  simp[d,O,c,l];all_goals exact j3
 .exact l0
 .simp<;>(
   simp)
@[simp]def Ze(u:List (List Int))(kw n:Int)(h1:u.length<=1000)(K: ∀i (h:i<u.length),(u[i]).length<=64):cG X 286 [u,kw,n]=some (.ed [.sl false (((oq u kw n).1).map bw),.sl false (((oq u kw n).2.1).map fd.e),.bool ((oq u kw n).2.2)]):=by
 refine ij ?_;have a1:u.length<=1000000000:=ab
 have a2: ∀i (h:i<u.length),(u[i]).length<=1000000000:=fun i h=>by have:=K i h;omega
 have t:ft (List.take u.length (u.map bw))=u.map bw:=by rw[bQ ai,KF]
 by_cases c:kw<0
 .have e:oq u kw n=(u,[],false):=by unfold oq;rw[if_pos (.inl c)]
  rw[e];simp[a1,a2,c]
 by_cases b:(u.length:Int)<=kw
 .have e:oq u kw n=(u,[],false):=by unfold oq;rw[if_pos (.inr (.inl b))]
  rw[e];simp[a1,a2,c,b]
 by_cases j:n<0
 .have e:oq u kw n=(u,[],false):=by unfold oq;rw[if_pos (.inr (.inr j))]
  rw[e];simp[a1,a2,c,b,j]
 obtain⟨k,rfl⟩:=jp (show 0<=kw from ab);have y:k<u.length:=ab
 have z:(k:Int)<u.length:=ab
 have q:=K k y;have T:u.getD (k:Int).toNat []=u[k]:=gg
 obtain⟨x,hx⟩:=x_ u[k];rw[hx]at q T;obtain⟨m,O⟩: ∃m:Nat,E5 x n=m:=⟨(E5 x n).toNat,by unfold E5;split<;>omega⟩;have H:=O;unfold E5 at H;have o:m<=x.length:=by split at H<;>omega
 have a:(m:Int)<=x.length:=ab
 have J:min m x.length=m:=ab
 have e:oq u k n=(u.set k (x.drop m),(x.take m).map Ag,true):=by
  unfold oq;rw[if_neg ab,T,O];simp
 rw[e];simp[a1,a2,c,b,j,y,z,hx,H,o,a];refine dO (fun i S=>(S.f 1= .int .i64 ((k:Int))/\S.f 9= .cX 9 0 (((u).map bw)).length/\S.h 9=some ⟨1,((u).map bw),false⟩/\S.f 10= .int .i64 ((m:Int))/\S.f 11= .cX 11 0 (((vu (x.take i)).map fd.e)).length/\S.h 11=some ⟨4,((vu (x.take i)).map fd.e),false⟩/\S.f 41= .sl false ((x.take m).map (V.int .u16))/\S.f 42= .int .i64 ((m:Int))/\S.f 43=(i:Int)/\S.n=1100)/\True) (m) ab ?_ ?_ ?_
 .rintro i S ⟨v,p,s⟩ ⟨d,G⟩;have W:i<x.length:=ab
  have U:=Pv W;have l:(vu (x.take i)).length=i:=by rw[KW,sr];omega
  have L:(x.take m)[i]' aA=x[i]:=ai
  have g:List.take i ((vu (x.take i)).map fd.e)=(vu (x.take i)).map fd.e:=bQ eT;simp[d,p,s,U,l,Ag,J];all_goals ((repeat' (first|apply And.intro|intro _))<;>first|omega|rfl|exact g)
 .rintro S ⟨d,G⟩;simp[d,y,z,hx,a];refine⟨?_,?_⟩
  .have r:ft (List.drop m (x.map (V.int .u16)))=(x.drop m).map (V.int .u16):=by rw[<-List.map_drop];exact tC (fun _=>rfl) _
   rw[ZT,r,<-Cc,bQ ai,<-List.map_set (f:=bw),KF,sB]
  .simp[vu,yB]
 .simp<;>(
   first|exact⟨rfl,rfl⟩|rfl|simp[vu])
def pM(l:List fd)(i j:Nat):Int:=if j<i then IntKind.i64.wrap (l.getD j ⟨0,0,0,0⟩).val else 0
def nM(l:List fd)(i:Nat):List Int:=[pM l i 0,pM l i 1,pM l i 2]
def sF(l:List fd)(i:Nat):(nM l i).length=3:=rfl
def qA(l:List fd):nM l 0=[0,0,0]:=rfl
def sH{l:List fd}(h:i<l.length)(S:i<3):(nM l i).set i (IntKind.i64.wrap (l[i]).val)=nM l (i+1):=by
 have e:l[i]=l.getD i ⟨0,0,0,0⟩:=by simp[List.getD,h]
 rw[e];rcases(by omega:i=0\/i=1\/i=2) with rfl|rfl|rfl<;>simp[nM,pM]
def Ak: ∀(k:List UInt8) (l:List Int),gr k l=true->l.length=k.length
 | [],[],_=>rfl
 |_::_,[],h=>by simp[gr]at h
 | [],_::_,h=>by simp[gr]at h
 |a::k,b::l,h=>by
  simp only[gr,X8]at h;simp[Ak k l h.2]
def kr(c a0 a1 a2:Int)(d:List fd):io:=⟨0,0,0,0,0,c,[⟨0,a0,0,0⟩,⟨0,a1,0,0⟩,⟨0,a2,0,0⟩],d⟩
def K0(x:Int):IntKind.u16.wrap (IntKind.i64.wrap x)=IntKind.u16.wrap x:=by
 simp[IntKind.wrap,IntKind.bits,IntKind.signed];split<;>omega
def vp(o:dw)(r:io)(n i:Nat)(S:St):Prop:=
 (S.f 2= .ptr 2 0 0/\S.f 3= .ptr 3 0 0/\S.f 4= .ptr 4 0 0/\S.f 5= .ptr 5 0 0/\S.f 7= .ptr 7 0 0/\S.f 8= .cX 8 0 3/\S.f 74= .sl false (r.args.map fd.e)/\S.f 75= .int .i64 (n:Int)/\S.f 76= .int .i64 (i:Int))/\
 (S.h 2=some ⟨6,[xc o],true⟩/\
  S.h 3=some ⟨8,[wk r],true⟩/\
  S.h 4=some ⟨6,[.agg [.sl false [],.sl false [],.sl false [],.sl false [],.sl false [],.sl false []]],true⟩/\
  S.h 5=some ⟨7,[.agg [.int .u8 0,.int .u16 0,.int .i64 0,.int .i64 0,.sl false [],.int .i64 0,.bool false]],true⟩/\
  S.h 7=some ⟨6,[xc o],true⟩/\
  S.h 8=some ⟨1,(nM r.args i).map (V.int .i64),false⟩)/\S.n=1100
def tH(r:io):io:=kr r.call (pM r.args r.args.length 0) (pM r.args r.args.length 1) (pM r.args r.args.length 2) r.ap
open Classical in
noncomputable def uu(o:dw)(r:io):dw×eI×Int:=if lB o/\w0 r=true then((rz o (tH r)).1,(rz o (tH r)).2,0) else(ln,mD,1)
def Ck(h: ¬(lB o/\w0 r=true)):uu o r=(ln,mD,1):=if_neg h
def To(h:lB o/\w0 r=true):uu o r=((rz o (tH r)).1,(rz o (tH r)).2,0):=if_pos h
def wu:w0 r=true↔ko r=true/\r.j'=1/\((1<=r.call/\r.call<=7)\/r.call=13\/r.call=14)/\gr (dc r.call) (r.args.map (·.gs))=true/\ ¬(kv r.call=2/\16<dI r 2):=by
 unfold w0;simp only[X8,decide_eq_true_eq]
@[simp]def It(b:List (List fd))(L:List fR):cG X 202 [.agg [.sl false [],.sl false []]]=some (.bool false):=by
 exact lT
@[simp]def Iu(d S:List Int)(M:List (List Int))(b:List (List fd))(N:List fR)(c:List i5):cG X 130 [.agg [.sl false [],.sl false [],.sl false [],.sl false [],.sl false [],.sl false []]]=some (.bool false):=by
 have h:=It [] [];refine ij ?_;simp[eJ,h]
@[simp]def Pn(d g:List Int)(M:List (List Int))(R:List (List fd))(N:List fR)(c:List i5)(aq cC cu cg dM w:Int)(p Y:List fd)(ho:rR (dw.mk d g M (cn.mk R N) c))(h1:p.length<=1000000000)(h2:Y.length<=1000000000)(hv:fg Y): ∃(o':dw) (x:eI) (e:Int),cG X 256 [xa d g M R N c,i7 aq cC cu cg dM w p Y]=some (.ed [xc o',AE x,e])/\rR o'/\qs x/\uu (dw.mk d g M (cn.mk R N) c) (v_ aq cC cu cg dM w p Y)=(o',x,e):=by
 by_cases au:lB (dw.mk d g M (cn.mk R N) c)
 case neg=>
  have hz:(dw.mk d g M (cn.mk R N) c)=ln:=by rcases ho with h|h;exact absurd h au;exact h
  unfold ln at hz;simp only[dw.mk.injEq,cn.mk.injEq]at hz;obtain⟨rfl,rfl,rfl,⟨rfl,rfl⟩,rfl⟩:=hz;refine⟨ln,mD,1,?_,.inr rfl,qz,Ck (fun h=>au h.1)⟩;have ae:=Iu [] [] [] [] [] [];refine ij ?_;simp[ae,ln,mD]
 have P:=au.p;refine(?_: ∃(o':dw) (x:eI) (e:Int),_/\rR o'/\qs x/\uu _ _=(o',x,e));by_cases hB:ko (v_ aq cC cu cg dM w p Y)=true
 case neg=>
  refine⟨ln,mD,1,?_,.inr rfl,qz,Ck (fun h=>hB (wu.1 h.2).1)⟩;refine ij ?_;simp[P,h1,h2,hB,ln,mD]
 have hr:=eq_true hB;have hd:=(A6 hB).1;by_cases ku:cC=1
 case neg=>
  refine⟨ln,mD,1,?_,.inr rfl,qz,Ck (fun h=>ku (wu.1 h.2).2.1)⟩;refine ij ?_;simp[P,h1,h2,hr,ku,ln,mD]
 subst ku;by_cases hj:(1<=w/\w<=7)\/w=13\/w=14
 case neg=>
  refine⟨ln,mD,1,?_,.inr rfl,qz,Ck (fun h=>hj (wu.1 h.2).2.2.1)⟩;refine ij ?_;simp[P,h1,h2,hr,hj,ln,mD]
 have ak:=eq_true hj;have hs:0<=w/\w<=15:=ab
 by_cases cQ:gr (dc w) (p.map (·.gs))=true
 case neg=>
  refine⟨ln,mD,1,?_,.inr rfl,qz,Ck (fun h=>cQ (wu.1 h.2).2.2.2.1)⟩;refine ij ?_;simp[P,h1,h2,hr,ak,hs,cQ,ln,mD]
 have hl:p.length=(dc w).length:=by have:=Ak _ _ cQ;simpa using this
 have h4:p.length<=3:=by rw[hl];exact mr hs
 have hk:=eq_true cQ;by_cases an:kv w=2/\16<(p.getD 2 ⟨0,0,0,0⟩).val
 case pos=>
  refine⟨ln,mD,1,?_,.inr rfl,qz,Ck (fun h=>(wu.1 h.2).2.2.2.2 an)⟩;refine ij ?_;obtain⟨b1,dN⟩:=an;have h3:p.length=3:=by
   rw[hl];rcases hj with h|h|h
   .obtain⟨a,b⟩:=h;rcases(by omega:w=1\/w=2\/w=3\/w=4\/w=5\/w=6\/w=7) with rfl|rfl|rfl|rfl|rfl|rfl|rfl<;>first|rfl|(simp[kv]at b1)
   .subst h;rfl
   .subst h;rfl
  have hx:2<p.length:=ab
  have g1:16<(p[2]).val:=by simpa[List.getD,hx] using dN
  have ht:(2:Int)<(p.length:Int):=ab
  have hp: ¬(p[2]).val<=16:=ab
  simp[P,h1,h2,hr,ak,hs,hk,b1,hp,hx,ht,ln,mD]
 have hf:=P.iG;simp only at hf;have hq:=(A6 hB).2;simp only at hq hd;have e1:=P.dT;have aa:=P.output;have hh:=P.dK;have mm:=P.input;simp only at e1 aa hh mm;have n0:M.length<=1000:=ab
 have e2: ∀i (h:i<M.length),(M[i]).length<=64:=mm;have ay:c.length<=1000000000:=ab
 have ah: ∀i (h:i<c.length),(c[i]).ap.length<=1000000000:=fun i h=>by have:=(aa i h).2.2.2.1;omega
 have hL:w=1\/w=2\/w=3\/w=4\/w=5\/w=6\/w=7\/w=13\/w=14:=ab
 have I:uu (dw.mk d g M (cn.mk R N) c) ⟨aq,1,cu,cg,dM,w,p,Y⟩=((rz (dw.mk d g M (cn.mk R N) c) (tH ⟨aq,1,cu,cg,dM,w,p,Y⟩)).1,(rz (dw.mk d g M (cn.mk R N) c) (tH ⟨aq,1,cu,cg,dM,w,p,Y⟩)).2,0):=To ⟨au,wu.2 ⟨hB,rfl,hj,cQ,an⟩⟩;rcases hL with rfl|rfl|rfl|rfl|rfl|rfl|rfl|rfl|rfl
 .have Q:p.length=3:=hl;have hc:(p.length:Int)=3:=ab
  obtain⟨a0,v⟩:=x_ (pM p 3 0);obtain⟨a1,H⟩:=x_ (pM p 3 1);obtain⟨a2,t⟩:=x_ (pM p 3 2);have hA:nM p 3=[a0,a1,a2]:=bx
  have u:=vx au (r:=kr 1 a0 a1 a2 Y) hd hv;refine⟨(rz (dw.mk d g M (cn.mk R N) c) (kr 1 a0 a1 a2 Y)).1,(rz (dw.mk d g M (cn.mk R N) c) (kr 1 a0 a1 a2 Y)).2,0,?_,.inl u.1,u.2,I.trans aY⟩;obtain⟨D,y⟩:=x_ (rz (dw.mk d g M (cn.mk R N) c) (kr 1 a0 a1 a2 Y));rw[y];have J:kv 1=1:=rfl;refine ij ?_;simp[P,h1,h2,hr,hk,J,hc];refine nG (fun i S=>vp (dw.mk d g M (cn.mk R N) c) ⟨aq,1,cu,cg,dM,1,p,Y⟩ 3 i S) 3 ?_ 0 ab ?_
  .rintro i S hi ⟨⟨A,F,O,U,m,B,k,f,C⟩,⟨E,L,T,j,s,z⟩,n⟩;simp only at E L s z k f;by_cases Z:i<3
   .have q:(i:Int)<3:=ab
    have o:i<p.length:=ab
    have hb:(i:Int)<(p.length:Int):=ab
    have G:i<3:=ab
    have aw:(i:Int)<3:=ab
    have K:=o7 i ab;have l:=sF p i;have W:((nM p i).map (V.int .i64)).set i (V.int .i64 (IntKind.i64.wrap (p[i]).val))=(nM p (i+1)).map (V.int .i64):=bh
    exact j2
   .have q: ¬(i:Int)<3:=ab
    have he:i=3:=ab
    subst he;rw[hA]at z;have e:D=rz _ (kr 1 a0 a1 a2 Y):=y.symm;unfold rz kr at e;simp[dI,ky]at e;subst e;simp[A,F,O,U,m,B,f,C,E,L,T,j,s,z,n,hf,h2]
  .exact jF
 .have Q:p.length=3:=hl;have hc:(p.length:Int)=3:=ab
  have hx:2<p.length:=ab
  have ht:(2:Int)<(p.length:Int):=ab
  have g1: ¬16<(p[2]).val:=fun h=>an ⟨rfl,by simpa[List.getD,hx] using h⟩;have hp:(p[2]).val<=16:=ab
  obtain⟨a0,v⟩:=x_ (pM p 3 0);obtain⟨a1,H⟩:=x_ (pM p 3 1);obtain⟨a2,t⟩:=x_ (pM p 3 2);have hA:nM p 3=[a0,a1,a2]:=bx
  have u:=vx au (r:=kr 2 a0 a1 a2 Y) hd hv;refine⟨(rz (dw.mk d g M (cn.mk R N) c) (kr 2 a0 a1 a2 Y)).1,(rz (dw.mk d g M (cn.mk R N) c) (kr 2 a0 a1 a2 Y)).2,0,?_,.inl u.1,u.2,I.trans aY⟩;obtain⟨D,y⟩:=x_ (rz (dw.mk d g M (cn.mk R N) c) (kr 2 a0 a1 a2 Y));rw[y];have J:kv 2=2:=rfl;refine ij ?_;simp[P,h1,h2,hr,hk,J,hc,hx,hp];refine nG (fun i S=>vp (dw.mk d g M (cn.mk R N) c) ⟨aq,1,cu,cg,dM,2,p,Y⟩ 3 i S) 3 ?_ 0 ab ?_
  .rintro i S hi ⟨⟨A,F,O,U,m,B,k,f,C⟩,⟨E,L,T,j,s,z⟩,n⟩;simp only at E L s z k f;by_cases Z:i<3
   .have q:(i:Int)<3:=ab
    have o:i<p.length:=ab
    have hb:(i:Int)<(p.length:Int):=ab
    have G:i<3:=ab
    have aw:(i:Int)<3:=ab
    have K:=o7 i ab;have l:=sF p i;have W:((nM p i).map (V.int .i64)).set i (V.int .i64 (IntKind.i64.wrap (p[i]).val))=(nM p (i+1)).map (V.int .i64):=bh
    exact j2
   .have q: ¬(i:Int)<3:=ab
    have he:i=3:=ab
    subst he;rw[hA]at z;have e:D=rz _ (kr 2 a0 a1 a2 Y):=y.symm;exact km
  .exact jF
 .have Q:p.length=2:=hl;have hc:(p.length:Int)=2:=ab
  obtain⟨a0,v⟩:=x_ (pM p 2 0);obtain⟨a1,H⟩:=x_ (pM p 2 1);obtain⟨a2,t⟩:=x_ (pM p 2 2);have hA:nM p 2=[a0,a1,a2]:=bx
  have u:=vx au (r:=kr 3 a0 a1 a2 Y) hd hv;refine⟨(rz (dw.mk d g M (cn.mk R N) c) (kr 3 a0 a1 a2 Y)).1,(rz (dw.mk d g M (cn.mk R N) c) (kr 3 a0 a1 a2 Y)).2,0,?_,.inl u.1,u.2,I.trans aY⟩;obtain⟨D,y⟩:=x_ (rz (dw.mk d g M (cn.mk R N) c) (kr 3 a0 a1 a2 Y));rw[y];have J:kv 3=0:=rfl;refine ij ?_;simp[P,h1,h2,hr,hk,J,hc];refine nG (fun i S=>vp (dw.mk d g M (cn.mk R N) c) ⟨aq,1,cu,cg,dM,3,p,Y⟩ 2 i S) 2 ?_ 0 ab ?_
  .rintro i S hi ⟨⟨A,F,O,U,m,B,k,f,C⟩,⟨E,L,T,j,s,z⟩,n⟩;simp only at E L s z k f;by_cases Z:i<2
   .have q:(i:Int)<2:=ab
    have o:i<p.length:=ab
    have hb:(i:Int)<(p.length:Int):=ab
    have G:i<3:=ab
    have aw:(i:Int)<3:=ab
    have K:=o7 i ab;have l:=sF p i;have W:((nM p i).map (V.int .i64)).set i (V.int .i64 (IntKind.i64.wrap (p[i]).val))=(nM p (i+1)).map (V.int .i64):=bh
    exact jj
   .have q: ¬(i:Int)<2:=ab
    have he:i=2:=ab
    subst he;rw[hA]at z;by_cases kg:0<=(pH (cn.mk R N) a0 a1).2
    .have e:D=rz _ (kr 3 a0 a1 a2 Y):=y.symm;unfold rz kr at e;simp[dI,kg]at e;subst e;simp[A,F,O,U,m,B,f,C,E,L,T,j,s,z,n,hf,kg]
    .have e:D=rz _ (kr 3 a0 a1 a2 Y):=y.symm;unfold rz kr at e;simp[dI,ky,kg]at e;subst e;simp[A,F,O,U,m,B,f,C,E,L,T,j,s,z,n,hf,kg]
  .exact jF
 .have Q:p.length=1:=hl;have hc:(p.length:Int)=1:=ab
  obtain⟨a0,v⟩:=x_ (pM p 1 0);obtain⟨a1,H⟩:=x_ (pM p 1 1);obtain⟨a2,t⟩:=x_ (pM p 1 2);have hA:nM p 1=[a0,a1,a2]:=bx
  have u:=vx au (r:=kr 4 a0 a1 a2 Y) hd hv;refine⟨(rz (dw.mk d g M (cn.mk R N) c) (kr 4 a0 a1 a2 Y)).1,(rz (dw.mk d g M (cn.mk R N) c) (kr 4 a0 a1 a2 Y)).2,0,?_,.inl u.1,u.2,I.trans aY⟩;obtain⟨D,y⟩:=x_ (rz (dw.mk d g M (cn.mk R N) c) (kr 4 a0 a1 a2 Y));rw[y];have J:kv 4=0:=rfl;refine ij ?_;simp[P,h1,h2,hr,hk,J,hc];refine nG (fun i S=>vp (dw.mk d g M (cn.mk R N) c) ⟨aq,1,cu,cg,dM,4,p,Y⟩ 1 i S) 1 ?_ 0 ab ?_
  .rintro i S hi ⟨⟨A,F,O,U,m,B,k,f,C⟩,⟨E,L,T,j,s,z⟩,n⟩;simp only at E L s z k f;by_cases Z:i<1
   .have q:(i:Int)<1:=ab
    have o:i<p.length:=ab
    have hb:(i:Int)<(p.length:Int):=ab
    have G:i<3:=ab
    have aw:(i:Int)<3:=ab
    have K:=o7 i ab;have l:=sF p i;have W:((nM p i).map (V.int .i64)).set i (V.int .i64 (IntKind.i64.wrap (p[i]).val))=(nM p (i+1)).map (V.int .i64):=bh
    exact jj
   .have q: ¬(i:Int)<1:=ab
    have he:i=1:=ab
    subst he;rw[hA]at z;have e:D=rz _ (kr 4 a0 a1 a2 Y):=y.symm;exact km
  .exact jF
 .have Q:p.length=2:=hl;have hc:(p.length:Int)=2:=ab
  obtain⟨a0,v⟩:=x_ (pM p 2 0);obtain⟨a1,H⟩:=x_ (pM p 2 1);obtain⟨a2,t⟩:=x_ (pM p 2 2);have hA:nM p 2=[a0,a1,a2]:=bx
  have u:=vx au (r:=kr 5 a0 a1 a2 Y) hd hv;refine⟨(rz (dw.mk d g M (cn.mk R N) c) (kr 5 a0 a1 a2 Y)).1,(rz (dw.mk d g M (cn.mk R N) c) (kr 5 a0 a1 a2 Y)).2,0,?_,.inl u.1,u.2,I.trans aY⟩;obtain⟨D,y⟩:=x_ (rz (dw.mk d g M (cn.mk R N) c) (kr 5 a0 a1 a2 Y));rw[y];have J:kv 5=0:=rfl;refine ij ?_;simp[P,h1,h2,hr,hk,J,hc];refine nG (fun i S=>vp (dw.mk d g M (cn.mk R N) c) ⟨aq,1,cu,cg,dM,5,p,Y⟩ 2 i S) 2 ?_ 0 ab ?_
  .rintro i S hi ⟨⟨A,F,O,U,m,B,k,f,C⟩,⟨E,L,T,j,s,z⟩,n⟩;simp only at E L s z k f;by_cases Z:i<2
   .have q:(i:Int)<2:=ab
    have o:i<p.length:=ab
    have hb:(i:Int)<(p.length:Int):=ab
    have G:i<3:=ab
    have aw:(i:Int)<3:=ab
    have K:=o7 i ab;have l:=sF p i;have W:((nM p i).map (V.int .i64)).set i (V.int .i64 (IntKind.i64.wrap (p[i]).val))=(nM p (i+1)).map (V.int .i64):=bh
    exact jj
   .have q: ¬(i:Int)<2:=ab
    have he:i=2:=ab
    subst he;rw[hA]at z;have e:D=rz _ (kr 5 a0 a1 a2 Y):=y.symm;exact km
  .exact jF
 .have Q:p.length=0:=hl;have hc:(p.length:Int)=0:=ab
  obtain⟨a0,v⟩:=x_ (pM p 0 0);obtain⟨a1,H⟩:=x_ (pM p 0 1);obtain⟨a2,t⟩:=x_ (pM p 0 2);have hA:nM p 0=[a0,a1,a2]:=bx
  have u:=vx au (r:=kr 6 a0 a1 a2 Y) hd hv;refine⟨(rz (dw.mk d g M (cn.mk R N) c) (kr 6 a0 a1 a2 Y)).1,(rz (dw.mk d g M (cn.mk R N) c) (kr 6 a0 a1 a2 Y)).2,0,?_,.inl u.1,u.2,I.trans aY⟩;obtain⟨D,y⟩:=x_ (rz (dw.mk d g M (cn.mk R N) c) (kr 6 a0 a1 a2 Y));rw[y];have J:kv 6=0:=rfl;refine ij ?_;simp[P,h1,h2,hr,hk,J,hc];refine nG (fun i S=>vp (dw.mk d g M (cn.mk R N) c) ⟨aq,1,cu,cg,dM,6,p,Y⟩ 0 i S) 0 ?_ 0 ab ?_
  .rintro i S hi ⟨⟨A,F,O,U,m,B,k,f,C⟩,⟨E,L,T,j,s,z⟩,n⟩;simp only at E L s z k f;by_cases Z:i<0
   .have q:(i:Int)<0:=ab
    have o:i<p.length:=ab
    have hb:(i:Int)<(p.length:Int):=ab
    have G:i<3:=ab
    have aw:(i:Int)<3:=ab
    have K:=o7 i ab;have l:=sF p i;have W:((nM p i).map (V.int .i64)).set i (V.int .i64 (IntKind.i64.wrap (p[i]).val))=(nM p (i+1)).map (V.int .i64):=bh
    exact jj
   .have q: ¬(i:Int)<0:=ab
    have he:i=0:=ab
    subst he;rw[hA]at z;rcases d with _|⟨x,hg⟩
    .have e:D=rz _ (kr 6 a0 a1 a2 Y):=y.symm;exact om
    .have e:D=rz _ (kr 6 a0 a1 a2 Y):=y.symm;unfold rz kr at e;simp[ky]at e;subst e;have ha:(1:Int)<=(hg.length:Int)+1:=ab
     exact rb
  .exact jF
 .have Q:p.length=0:=hl;have hc:(p.length:Int)=0:=ab
  obtain⟨a0,v⟩:=x_ (pM p 0 0);obtain⟨a1,H⟩:=x_ (pM p 0 1);obtain⟨a2,t⟩:=x_ (pM p 0 2);have hA:nM p 0=[a0,a1,a2]:=bx
  have u:=vx au (r:=kr 7 a0 a1 a2 Y) hd hv;refine⟨(rz (dw.mk d g M (cn.mk R N) c) (kr 7 a0 a1 a2 Y)).1,(rz (dw.mk d g M (cn.mk R N) c) (kr 7 a0 a1 a2 Y)).2,0,?_,.inl u.1,u.2,I.trans aY⟩;obtain⟨D,y⟩:=x_ (rz (dw.mk d g M (cn.mk R N) c) (kr 7 a0 a1 a2 Y));rw[y];have J:kv 7=0:=rfl;refine ij ?_;simp[P,h1,h2,hr,hk,J,hc];refine nG (fun i S=>vp (dw.mk d g M (cn.mk R N) c) ⟨aq,1,cu,cg,dM,7,p,Y⟩ 0 i S) 0 ?_ 0 ab ?_
  .rintro i S hi ⟨⟨A,F,O,U,m,B,k,f,C⟩,⟨E,L,T,j,s,z⟩,n⟩;simp only at E L s z k f;by_cases Z:i<0
   .have q:(i:Int)<0:=ab
    have o:i<p.length:=ab
    have hb:(i:Int)<(p.length:Int):=ab
    have G:i<3:=ab
    have aw:(i:Int)<3:=ab
    have K:=o7 i ab;have l:=sF p i;have W:((nM p i).map (V.int .i64)).set i (V.int .i64 (IntKind.i64.wrap (p[i]).val))=(nM p (i+1)).map (V.int .i64):=bh
    exact jj
   .have q: ¬(i:Int)<0:=ab
    have he:i=0:=ab
    subst he;rw[hA]at z;rcases g with _|⟨x,hg⟩
    .have e:D=rz _ (kr 7 a0 a1 a2 Y):=y.symm;exact om
    .have e:D=rz _ (kr 7 a0 a1 a2 Y):=y.symm;unfold rz kr at e;simp[ky]at e;subst e;have ha:(1:Int)<=(hg.length:Int)+1:=ab
     exact rb
  .exact jF
 .have Q:p.length=3:=hl;have hc:(p.length:Int)=3:=ab
  obtain⟨a0,v⟩:=x_ (pM p 3 0);obtain⟨a1,H⟩:=x_ (pM p 3 1);obtain⟨a2,t⟩:=x_ (pM p 3 2);have hA:nM p 3=[a0,a1,a2]:=bx
  have u:=vx au (r:=kr 13 a0 a1 a2 Y) hd hv;refine⟨(rz (dw.mk d g M (cn.mk R N) c) (kr 13 a0 a1 a2 Y)).1,(rz (dw.mk d g M (cn.mk R N) c) (kr 13 a0 a1 a2 Y)).2,0,?_,.inl u.1,u.2,I.trans aY⟩;obtain⟨D,y⟩:=x_ (rz (dw.mk d g M (cn.mk R N) c) (kr 13 a0 a1 a2 Y));rw[y];have J:kv 13=1:=rfl;refine ij ?_;simp[P,h1,h2,hr,hk,J,hc];refine nG (fun i S=>vp (dw.mk d g M (cn.mk R N) c) ⟨aq,1,cu,cg,dM,13,p,Y⟩ 3 i S) 3 ?_ 0 ab ?_
  .rintro i S hi ⟨⟨A,F,O,U,m,B,k,f,C⟩,⟨E,L,T,j,s,z⟩,n⟩;simp only at E L s z k f;by_cases Z:i<3
   .have q:(i:Int)<3:=ab
    have o:i<p.length:=ab
    have hb:(i:Int)<(p.length:Int):=ab
    have G:i<3:=ab
    have aw:(i:Int)<3:=ab
    have K:=o7 i ab;have l:=sF p i;have W:((nM p i).map (V.int .i64)).set i (V.int .i64 (IntKind.i64.wrap (p[i]).val))=(nM p (i+1)).map (V.int .i64):=bh
    exact j2
   .have q: ¬(i:Int)<3:=ab
    have he:i=3:=ab
    subst he;rw[hA]at z;have e:D=rz _ (kr 13 a0 a1 a2 Y):=y.symm;unfold rz kr at e;simp[dI,ky]at e;subst e;simp[A,F,O,U,m,B,f,C,E,L,T,j,s,z,n,h2,ay,ah];exact⟨rfl,rfl⟩
  .exact jF
 .have Q:p.length=3:=hl;have hc:(p.length:Int)=3:=ab
  have hx:2<p.length:=ab
  have ht:(2:Int)<(p.length:Int):=ab
  have g1: ¬16<(p[2]).val:=fun h=>an ⟨rfl,by simpa[List.getD,hx] using h⟩;have hp:(p[2]).val<=16:=ab
  obtain⟨a0,v⟩:=x_ (pM p 3 0);obtain⟨a1,H⟩:=x_ (pM p 3 1);obtain⟨a2,t⟩:=x_ (pM p 3 2);have hA:nM p 3=[a0,a1,a2]:=bx
  have u:=vx au (r:=kr 14 a0 a1 a2 Y) hd hv;refine⟨(rz (dw.mk d g M (cn.mk R N) c) (kr 14 a0 a1 a2 Y)).1,(rz (dw.mk d g M (cn.mk R N) c) (kr 14 a0 a1 a2 Y)).2,0,?_,.inl u.1,u.2,I.trans aY⟩;obtain⟨D,y⟩:=x_ (rz (dw.mk d g M (cn.mk R N) c) (kr 14 a0 a1 a2 Y));rw[y];have J:kv 14=2:=rfl;refine ij ?_;simp[P,h1,h2,hr,hk,J,hc,hx,hp];refine nG (fun i S=>vp (dw.mk d g M (cn.mk R N) c) ⟨aq,1,cu,cg,dM,14,p,Y⟩ 3 i S) 3 ?_ 0 ab ?_
  .rintro i S hi ⟨⟨A,F,O,U,m,B,k,f,C⟩,⟨E,L,T,j,s,z⟩,n⟩;simp only at E L s z k f;by_cases Z:i<3
   .have q:(i:Int)<3:=ab
    have o:i<p.length:=ab
    have hb:(i:Int)<(p.length:Int):=ab
    have G:i<3:=ab
    have aw:(i:Int)<3:=ab
    have K:=o7 i ab;have l:=sF p i;have W:((nM p i).map (V.int .i64)).set i (V.int .i64 (IntKind.i64.wrap (p[i]).val))=(nM p (i+1)).map (V.int .i64):=bh
    exact j2
   .have q: ¬(i:Int)<3:=ab
    have he:i=3:=ab
    subst he;rw[hA]at z;have e:D=rz _ (kr 14 a0 a1 a2 Y):=y.symm;unfold rz kr at e;simp[dI,ky]at e;subst e;simp[A,F,O,U,m,B,f,C,E,L,T,j,s,z,n,n0,e2]
  .exact jF
def jY(x:gc)(c:ac):gc:=⟨1,x.bK.set 0 c,x.pc,x.ia,x.db,x.iw,x.dD,x.hw⟩
def vz{x:gc}(h:eS d x)(m:iD c):eS d (jY x c):=
 ⟨by simp[jY],by simp[jY,h.bK],h.cells.set m 0,h.pc,h.ia,h.db,h.iw,h.dD,h.hw⟩
def qB(ids:Nat->Nat)(i:Nat)(x:gc)(c:ac)(h:x.bK.length=8):dY ids i (jY x c)= (ro 1 (.cX (ids i) 0 8) x.pc x.ia x.db x.iw x.dD x.hw:V):=by
 simp[dY,jY,h]
def UW{m:Type}{l:List m}(h:l.length=4):l.take 4=l:=bQ ab
def vE(pc:Int)(c:ac):gc:=⟨1,c::List.replicate 7 ⟨0,0⟩,pc,0, -1, -1,0,0⟩
def Mu(h:0<=d)(hp:0<=pc/\pc<=255)(m:iD c):eS d (vE pc c):=by
 refine⟨eD,eD,fun x hx=> ?_,hp,by simpa[vE] using h,eD,eD,eD,eD⟩;rcases List.mem_cons.1 hx with rfl|hx
 .omega
 .rw[(List.mem_replicate.1 hx).2];exact mo
def wv(x:gc)(c:ac)(a:Int):gc:=⟨1,x.bK.set 0 c,x.pc,x.ia,a,x.iw,x.dD,x.hw⟩
def PM{x:gc}(h:eS d x)(m:iD c)(W: -1<=a/\a<=255):eS d (wv x c a):=
 ⟨by simp[wv],by simp[wv,h.bK],h.cells.set m 0,h.pc,h.ia,W,h.iw,h.dD,h.hw⟩
def Mv(ids:Nat->Nat)(i:Nat)(x:gc)(c:ac)(a:Int)(h:x.bK.length=8):dY ids i (wv x c a)= (ro 1 (.cX (ids i) 0 8) x.pc x.ia a x.iw x.dD x.hw:V):=by
 simp[dY,wv,h]
def xJ(x:gc)(c:Int):gc:=⟨4,x.bK,x.pc,x.ia,x.db,x.iw,0,c⟩
def Mw{x:gc}(h:eS d x){c:Int}(m:0<=c/\c<=65535):eS d (xJ x c):=
 ⟨by simp[xJ],h.bK,h.cells,h.pc,h.ia,h.db,h.iw,by simp[xJ],m⟩
def sI(x:gc):gc:=⟨3,x.bK,x.pc,x.ia,x.db,x.iw,x.dD,x.hw⟩
def Iv{x:gc}(h:eS d x):eS d (sI x):=
 ⟨by simp[sI],h.bK,h.cells,h.pc,h.ia,h.db,h.iw,h.dD,h.hw⟩
def Mx(x:gc):gc:=⟨x.im,x.bK,x.db,x.ia,x.db,x.pc,x.dD,x.hw⟩
def vF(p:g9)(m:aN)(t:Int)(x:eI):Prop:=fO p m=true/\oA x=true/\(0<=t/\t<4)/\(bO m t.toNat).im=3/\(raw m.am.aK m.am.key p.ax x.iW).2=0
instance (p:g9) (m:aN) (t:Int) (x:eI):Decidable (vF p m t x):=by unfold vF;infer_instance
def jZ(p:g9)(m:aN)(t:Int)(x:eI):aN×Bool:=if vF p m t x then(ie m m.gt t.toNat (jY (bO m t.toNat) (raw m.am.aK m.am.key p.ax x.iW).1),true) else(m,false)
def lG(h: ¬vF p m t x):jZ p m t x=(m,false):=if_neg h
def vG(h:vF p m t x):jZ p m t x=(ie m m.gt t.toNat (jY (bO m t.toNat) (raw m.am.aK m.am.key p.ax x.iW).1),true):=if_pos h
def jB(m:aN)(t:Int):aN×Bool:=if(0<=t/\t<m.ce.length)/\uT (bO m t.toNat)=true then(ie m m.gt t.toNat (Mx (bO m t.toNat)),true) else(m,false)
def wx(b:List Int)(key:Int)(z:List Int)(r:Int):Int->List fd->aD->Option aD
 |_,[],m=>some m
 |o,c::l,m=>if(raw b key z c).2=0/\inside z r o=true then wx b key z r (o+1) l (ke m (nth b r.toNat+o).toNat (raw b key z c).1) else none
def oW(b:List Int)(key:Int)(z:List Int)(r o:Int)(c:fd)(l:List fd)(m:aD):wx b key z r o (c::l) m=if(raw b key z c).2=0/\inside z r o=true then wx b key z r (o+1) l (ke m (nth b r.toNat+o).toNat (raw b key z c).1) else none:=rfl
def jk(r:io)(i:Nat):fd:=r.args.getD i ⟨0,0,0,0⟩
def pf(p:g9)(m:aN)(r:io)(x:eI):Option aD:=
 if kv r.call=2/\0<x.ap.length then(if proper p.ax (jk r 1)=true/\(jk r 1).gs=1 then wx m.am.aK m.am.key p.ax (jk r 1).lm (jk r 1).iC x.ap m.gt else none) else some m.gt
def rW(p:g9)(m:aN)(n:Nat)(c:ac)(r:io)(x:eI):Option aN:=
 if r.call=12 then(if(jk r 0).gs=0/\(jk r 0).val<=255 then some (ie m m.gt n (wv (bO m n) c (jk r 0).val)) else none)
 else if r.call=10/\0<=x.lw then(if(raw m.am.aK m.am.key p.ax (jk r 1)).2=0/\(bO m x.lw.toNat).im=0/\(jk r 0).val<=255/\(jk r 0).gs=0 then
  some ⟨m.am,m.gt,(m.ce.set x.lw.toNat (vE (jk r 0).val (raw m.am.aK m.am.key p.ax (jk r 1)).1)).set n (jY (bO m n) c)⟩ else none)
 else some (ie m m.gt n (jY (bO m n) c))
def tI(p:g9)(m:aN)(n:Nat)(r:io)(x:eI):Option aN:=
 if(raw m.am.aK m.am.key p.ax x.iW).2=0 then((pf p m r x).bind fun mem=>rW p ⟨m.am,mem,m.ce⟩ n (raw m.am.aK m.am.key p.ax x.iW).1 r x) else none
def qv(p:g9)(m:aN)(r:io)(x:eI):Prop:=fO p m=true/\ko r=true/\r.j'=1/\(r.args.length:Int)=rL r.call/\oA x=true/\(bO m r.cw.toNat).im=2
instance (p:g9) (m:aN) (r:io) (x:eI):Decidable (qv p m r x):=by unfold qv;infer_instance
def My(m:aN):Option aN->aN×Bool
 |some J=>(J,true)
 |none=>(m,false)
def jN(p:g9)(m:aN)(r:io)(x:eI):aN×Bool:=
 if qv p m r x then(if r.call=0 then(⟨m.am,m.gt,m.ce.set r.cw.toNat (xJ (bO m r.cw.toNat) (jk r 0).val)⟩,true) else if x.wait=true then(ie m m.gt r.cw.toNat (sI (bO m r.cw.toNat)),true)
  else My m (tI p m r.cw.toNat r x)) else(m,false)
def oX(h: ¬qv p m r x):jN p m r x=(m,false):=if_neg h
def A8(p:g9)(m:aN)(t:Int)(x:eI):(jZ p m t x).1.am=m.am:=by
 unfold jZ;split<;>rfl
def ZH(h:rW p m n c r x=some m'):m'.am=m.am:=by
 unfold rW at h;split at h
 .split at h
  .cases h;rfl
  grind
 .split at h
  .grind
  .cases h;rfl
def ZD(h:tI p m n r x=some m'):m'.am=m.am:=by
 unfold tI at h;split at h
 .cases f:pf p m r x with
  |none=>grind
  |some mem=>rw[f]at h;exact ZH (m:=⟨m.am,mem,m.ce⟩) h
 grind
def Iw(p:g9)(m:aN)(r:io)(x:eI):(jN p m r x).1.am=m.am:=by
 unfold jN;split
 .split
  .rfl
  .split
   .rfl
   .cases h:tI p m r.cw.toNat r x with
    |none=>rfl
    |some J=>exact ZD h
 .rfl
def eH(p:g9)(m:aN)(e:h_)(B:Bool):aN×io×Bool:=
  if B=true/\fO p m=true then
    (if e.kind=1 then((dP p m e.cw e.n).1,(dP p m e.cw e.n).2.1,true)
     else if e.kind=2 then((jN p m e.il e.iL).1,ep,(jN p m e.il e.iL).2)
     else if e.kind=3 then((jB m e.cw).1,ep,(jB m e.cw).2)
     else((jZ p m e.cw e.iL).1,ep,(jZ p m e.cw e.iL).2))
  else(m,ep,false)
def pA(p:g9)(d:Int)(r:aN×Bool)(h:bI)(k:Nat)(S:Nat->Prop)(v:V)(h':bI)(k':Nat):Prop:=
 ∃(j:Nat->Prop) (T:Nat) (U e X:V) (B:List V),v= .ed [rB U r.1.am.key e X (.cX T 0 4),.bool r.2]/\ld h' k' j T U e X B r.1/\cJ p d r.1/\k<=k'/\(∀i,i<k->h' i=h i)/\ ∀i,j i->S i\/k<=i
def pA.same{r:aN×Bool}{es:List V}(H:ld h k S T vB vC vL es m)(G:cJ p d m)(e:r=(m,false))(B:Below k h h'):
  pA p d r h k S (.ed [rB vB m.am.key vC vL (.cX T 0 4),.bool false]) h' (k+n):=by
 subst e;exact⟨S,T,vB,vC,vL,es,rfl,H.mono ab fun i j=>B i (H.lt i j),G,ab,B,fun i j=> .inl j⟩
def pA.new{r:aN×Bool}(H:gA h' (k+n) vB C L T ids bH m)(A:nH k vB C L T ids bH)(G:cJ p d m)(l:key=m.am.key)(e:r=(m,true))(B:Below k h h'):
  pA p d r h k S (.ed [rB vB key (.cX C 0 512) (.cX L 0 4) (.cX T 0 4),.bool true]) h' (k+n):=by
 subst e l;exact⟨_,T,vB,_,_,_,rfl,.deep H,G,ab,B,fun i j=> .inr (XS.PF A i j)⟩
def Gi:eI:=⟨⟨0,0,0,0⟩,[], -1,true⟩
def tJ(ts:List gc):eI:=if(ts.getD 0 cT).im=0 then⟨⟨0,IntKind.u16.wrap 0,0,0⟩,[],0,false⟩ else if(ts.getD 1 cT).im=0 then⟨⟨0,IntKind.u16.wrap 1,0,0⟩,[],1,false⟩
 else if(ts.getD 2 cT).im=0 then⟨⟨0,IntKind.u16.wrap 2,0,0⟩,[],2,false⟩ else if(ts.getD 3 cT).im=0 then⟨⟨0,IntKind.u16.wrap 3,0,0⟩,[],3,false⟩ else ky 0 false
noncomputable def ot(ts:List gc)(o:dw)(l:cO)(js:List Int)(q:io):dw×cO×List Int×eI:=
 if q.call=0\/q.call=12\/q.call=15 then(o,l,js,ky 0 true)
 else if q.call=8 then(o,(qD l (dI q 0) q.cw).1,js,if(qD l (dI q 0) q.cw).2=2 then ky 0 false else if(qD l (dI q 0) q.cw).2=1 then Gi else⟨⟨0,0,0,0⟩,[], -1,false⟩)
 else if q.call=9 then(o,(eY l (dI q 0) q.cw).1,js,ky 0 (eY l (dI q 0) q.cw).2.2)
 else if q.call=10 then(o,l,js,tJ ts)
 else if q.call=11 then(if dI q 0=q.cw\/4<=dI q 0\/(ts.getD (dI q 0).toNat cT).im=0 then(o,l,js,ky 0 false)
  else if(ts.getD (dI q 0).toNat cT).im=4 then(o,l,js,ky (IntKind.i64.wrap (ts.getD (dI q 0).toNat cT).hw) true) else(o,l,js.set q.cw.toNat (dI q 0),Gi))
 else((uu o q).1,l,js,(uu o q).2.1)
@[simp]def X9(hB:List hu)(g2:List Int)(bp:List (List Int))(cz:List Int)(dN:Int)(h4:List ac)(hL:List cP)(W:List gc)(i F:List Int)(G:List (List Int))(m:List (List fd))(U:List fR)(C:List i5)(M:List Int)(Y:List (List Int))(hr:List h_)(g:List Int)(A he hi hc h2 E:Int)(N I:List fd)(w:W.length=4)(o:rR ⟨i,F,G,⟨m,U⟩,C⟩)(l:iN ⟨M,Y⟩)(j:g.length=4)(cC:hr.length<=1000000)(g1:0<=A/\A<4)(cu:N.length<=3)(bT:I.length<=16)(hA:(E=8\/E=9\/E=11)->1<=N.length)(hh:fg N)(cQ:fg I): ∃(o2:dw) (u:cO) (K:List Int) (x:eI),qP X [(0,16,65),(0,17,3),(0,7,112)] 209 18 ((t7 hB g2 bp cz dN h4 hL W i F G m U C M Y hr g:V)) [i7 A he hi hc h2 E N I]=some (18,(t7 hB g2 bp cz dN h4 hL W o2.md o2.nl o2.dK o2.iG.ap o2.iG.iV o2.dT u.pl u.i4 hr K:V),[(AE x:V)],.bad)/\rR o2/\iN u/\K.length=4/\qs x/\ot W ⟨i,F,G,⟨m,U⟩,C⟩ ⟨M,Y⟩ g (v_ A he hi hc h2 E N I)=(o2,u,K,x):=by
 have B: ∀(f:gc->V),List.take 4 (W.map f)=W.map f:=fun f=>bQ aA;have fv: ∀(f:gc->Option V),List.take 4 (W.map f)=W.map f:=fun f=>bQ aA;have P: ∀(hx:bI),di (W.map (da hx 12∘gc.e))=some (W.map gc.e):=fun hx=>qQ (fun _=>rfl) W;have J: ∀(f:Int->V),List.take 4 (g.map f)=g.map f:=fun f=>bQ aA;have v:IntKind.u16.wrap 0=0:=aG
 have ba:hr.length<=1000000000:=ab
 have first:(E=8\/E=9\/E=11)-> ∃(h0:0<N.length) (a b c d:Int),N[0]=⟨a,b,c,d⟩/\0<=b/\b<=65535:=fun h=>by
  have h0:0<N.length:=by have:=hA h;omega
  have hv:=hh _ (rx h0);obtain⟨⟨a,b,c,d⟩,e⟩: ∃z,N[0]=z:=⟨_,rfl⟩;rw[e]at hv;exact⟨h0,a,b,c,d,e,hv.1,hv.2⟩
 by_cases ah:E=0
 .subst ah;exact j_
 by_cases HG:E=12
 .subst HG;exact j_
 by_cases R:E=15
 .subst R;exact j_
 by_cases an:E=8
 .obtain⟨h0,a,b,c,d,n,hf,b1⟩:=first (.inl an)
  have H:=z_ b;have Q:dI (v_ A he hi hc h2 E N I) 0=b:=ef
  have r:=Py l b g1;obtain⟨⟨au,aq⟩,hk,T⟩: ∃u hk,qD ⟨M,Y⟩ b A=(u,hk):=⟨_,_,rfl⟩;have S:=Mz M Y b A l;rw[T]at r S;simp only at r S;subst an;by_cases w2:hk=2
  .subst w2;refine⟨⟨i,F,G,⟨m,U⟩,C⟩,⟨au,aq⟩,g,ky 0 false,hY (X:=X) Tryz.func209 rfl rfl ?_,o,r,j,iY _ _,hV⟩;simp[w,j,B,P,J,ky,h0,n,H,S]
  by_cases w1:hk=1
  .subst w1;refine⟨⟨i,F,G,⟨m,U⟩,C⟩,⟨au,aq⟩,g,⟨⟨0,0,0,0⟩,[], -1,true⟩,hY (X:=X) Tryz.func209 rfl rfl ?_,o,r,j,⟨⟨ai,ai⟩,.nil,ai⟩,hV⟩;simp[v,w,j,B,P,J,h0,n,H,S]
  .refine⟨⟨i,F,G,⟨m,U⟩,C⟩,⟨au,aq⟩,g,⟨⟨0,0,0,0⟩,[], -1,false⟩,hY (X:=X) Tryz.func209 rfl rfl ?_,o,r,j,⟨⟨ai,ai⟩,.nil,ai⟩,by unfold ot;rw[if_neg ai,if_pos rfl,Q,T];simp only[if_neg w2,if_neg w1]⟩;simp[v,w,j,B,P,J,h0,n,H,S,w1,w2]
 by_cases aw:E=9
 .obtain⟨h0,a,b,c,d,n,hf,b1⟩:=first (.inr (.inl aw))
  have H:=z_ b;have Q:dI (v_ A he hi hc h2 E N I) 0=b:=ef
  have r:=(xG l b A).1;obtain⟨⟨au,aq⟩,own,ok,T⟩: ∃u own ok,eY ⟨M,Y⟩ b A=(u,own,ok):=⟨_,_,_,rfl⟩;have S:=Dc M Y b A l;rw[T]at r S;simp only at r S;subst aw;refine⟨⟨i,F,G,⟨m,U⟩,C⟩,⟨au,aq⟩,g,ky 0 ok,hY (X:=X) Tryz.func209 rfl rfl ?_,o,r,j,iY _ _,by unfold ot;rw[if_neg ai,if_neg ai,if_pos rfl,Q,T]⟩;simp[v,w,j,B,P,J,ky,h0,n,H,S]
 by_cases ht:E=10
 .subst ht;obtain⟨⟨s0,aJ,hE,n0,a0,c3,t0,cm⟩,⟨bV,r1,hy,n1,a1,hR,hS,h5⟩,⟨fG,aH,kk,n2,a2,ff,iO,dM⟩,⟨c2,bc,iS,q1,a3,dF,bU,cg⟩,rfl⟩:=JK w;have s: ∀z:Int,qs ⟨⟨0,IntKind.u16.wrap z,0,0⟩,[],z,false⟩:=fun z=>⟨nY _,.nil,ai⟩;by_cases Z:s0=0
  .refine⟨⟨i,F,G,⟨m,U⟩,C⟩,⟨M,Y⟩,g,⟨⟨0,IntKind.u16.wrap 0,0,0⟩,[],0,false⟩,hY (X:=X) Tryz.func209 rfl rfl ?_,o,l,j,s 0,by unfold ot;rw[if_neg ai,if_neg ai,if_neg ai,if_pos rfl];simp[tJ,Z]⟩;simp[j,J,v,eJ,gc.cN,Z]
  by_cases p:bV=0
  .refine⟨⟨i,F,G,⟨m,U⟩,C⟩,⟨M,Y⟩,g,⟨⟨0,IntKind.u16.wrap 1,0,0⟩,[],1,false⟩,hY (X:=X) Tryz.func209 rfl rfl ?_,o,l,j,s 1,by unfold ot;rw[if_neg ai,if_neg ai,if_neg ai,if_pos rfl];simp[tJ,Z,p]⟩;simp[j,J,eJ,gc.cN,Z,p]
  by_cases O:fG=0
  .refine⟨⟨i,F,G,⟨m,U⟩,C⟩,⟨M,Y⟩,g,⟨⟨0,IntKind.u16.wrap 2,0,0⟩,[],2,false⟩,hY (X:=X) Tryz.func209 rfl rfl ?_,o,l,j,s 2,by unfold ot;rw[if_neg ai,if_neg ai,if_neg ai,if_pos rfl];simp[tJ,Z,p,O]⟩;simp[j,J,eJ,gc.cN,Z,p,O]
  by_cases D:c2=0
  .refine⟨⟨i,F,G,⟨m,U⟩,C⟩,⟨M,Y⟩,g,⟨⟨0,IntKind.u16.wrap 3,0,0⟩,[],3,false⟩,hY (X:=X) Tryz.func209 rfl rfl ?_,o,l,j,s 3,hF⟩;simp[j,J,eJ,gc.cN,Z,p,O,D]
  .refine⟨⟨i,F,G,⟨m,U⟩,C⟩,⟨M,Y⟩,g,ky 0 false,hY (X:=X) Tryz.func209 rfl rfl ?_,o,l,j,iY _ _,hF⟩;simp[j,J,eJ,gc.cN,ky,Z,p,O,D]
 by_cases hn:E=11
 .obtain⟨h0,a,b,c,d,n,hf,b1⟩:=first (.inr (.inr hn))
  have H:=z_ b;have Q:dI (v_ A he hi hc h2 E N I) 0=b:=ef
  obtain⟨L,rfl⟩:=jp g1.1;have hs:L<4:=ab
  have ay:(L:Int)<4:=ab
  obtain⟨k,rfl⟩:=jp hf;subst hn;by_cases p:k=L
  .subst p;refine⟨⟨i,F,G,⟨m,U⟩,C⟩,⟨M,Y⟩,g,ky 0 false,hY (X:=X) Tryz.func209 rfl rfl ?_,o,l,j,iY _ _,by unfold ot;rw[if_neg ai,if_neg ai,if_neg ai,if_neg ai,if_pos rfl,Q];exact if_pos (.inl rfl)⟩;simp[w,j,B,P,J,ky,h0,n,H]
  by_cases O:4<=k
  .have y:(4:Int)<=k:=ab
   refine⟨⟨i,F,G,⟨m,U⟩,C⟩,⟨M,Y⟩,g,ky 0 false,hY (X:=X) Tryz.func209 rfl rfl ?_,o,l,j,iY _ _,by unfold ot;rw[if_neg ai,if_neg ai,if_neg ai,if_neg ai,if_pos rfl,Q];exact if_pos (.inr (.inl y))⟩;simp[w,j,B,P,J,ky,h0,n,H,y]
  have aa:k<4:=ab
  have h3:(k:Int)<4:=ab
  have y: ¬(4:Int)<=k:=ab
  have t: ¬(k:Int)=L:=ab
  have hd:k<W.length:=ab
  by_cases D:(W[k]).im=0
  .have ae:=eq_true D;refine⟨⟨i,F,G,⟨m,U⟩,C⟩,⟨M,Y⟩,g,ky 0 false,hY (X:=X) Tryz.func209 rfl rfl ?_,o,l,j,iY _ _,by unfold ot;rw[if_neg ai,if_neg ai,if_neg ai,if_neg ai,if_pos rfl,Q];exact if_pos (.inr (.inr (by simp[List.getD,hd,D])))⟩;simp[w,j,B,P,J,ky,h0,n,H,t,y,aa,h3,ae]
  have q:W.getD ((k:Int)).toNat cT=W[k]:=by simp[List.getD,hd]
  have hb: ¬((k:Int)=(L:Int)\/4<=(k:Int)\/(W.getD ((k:Int)).toNat cT).im=0):=by rw[q];exact fun h=>by rcases h with h|h|h;exact t h;exact y h;exact D h
  by_cases e4:(W[k]).im=4
  .have hg:=eq_true e4;refine⟨⟨i,F,G,⟨m,U⟩,C⟩,⟨M,Y⟩,g,ky (IntKind.i64.wrap (W[k]).hw) true,hY (X:=X) Tryz.func209 rfl rfl ?_,o,l,j,iY _ _,by unfold ot;rw[if_neg ai,if_neg ai,if_neg ai,if_neg ai,if_pos rfl,Q];rw[if_neg hb,if_pos (by rw[q];exact e4),q]⟩;simp[w,j,B,P,J,ky,h0,n,H,t,y,aa,h3,D,hg]
  .obtain⟨K,h1⟩:=x_ (g.set L (k:Int));have bW:(g.map (V.int .i64)).set L (V.int .i64 (k:Int))=K.map (V.int .i64):=by rw[<-h1,sB]
   have hq:K.length=4:=by rw[<-h1];simp[j]
   have ha: ∀(f:Int->V),List.take 4 (K.map f)=K.map f:=fun f=>bQ aA;refine⟨⟨i,F,G,⟨m,U⟩,C⟩,⟨M,Y⟩,K,⟨⟨0,0,0,0⟩,[], -1,true⟩,hY (X:=X) Tryz.func209 rfl rfl ?_,o,l,hq,⟨⟨ai,ai⟩,.nil,ai⟩,by unfold ot;rw[if_neg ai,if_neg ai,if_neg ai,if_neg ai,if_pos rfl,Q];rw[if_neg hb,if_neg (by rw[q];exact e4)];simp only[X7,h1];rfl⟩;simp[v,w,j,B,P,h0,n,H,t,y,aa,h3,D,e4,hs,ay,bW,hq,ha]
 obtain⟨⟨ts,b',gX,⟨h8,bL⟩,dz⟩,⟨⟨bS,hz,g3,bP⟩,c1,bs,S'⟩,e,S,hp,mm,ak⟩:=Pn i F G m U C A he hi hc h2 E N I o ab ab cQ;refine⟨⟨ts,b',gX,⟨h8,bL⟩,dz⟩,⟨M,Y⟩,g,⟨⟨bS,hz,g3,bP⟩,c1,bs,S'⟩,hY (X:=X) Tryz.func209 rfl rfl ?_,hp,l,j,mm,by unfold ot;rw[if_neg (fun h=>by rcases h with h|h|h;exact ah h;exact HG h;exact R h),if_neg an,if_neg aw,if_neg ht,if_neg hn,ak]⟩;simp[w,j,B,P,J,ah,HG,R,an,aw,ht,hn,S]
end Go.Proofs.YtdngefmliibcgaaGreat
