import Derived.Test.YtdngefmliibcgaaGreatB11
set_option linter.all false
set_option maxRecDepth 20000
set_option maxHeartbeats 0
namespace Go.Proofs.YtdngefmliibcgaaGreat
open Go Go.Abs Go.Abs.jJ Qf
variable  {c k n n' m i j o:Nat}{v:V}{h h' hx:bI}{rs:List (List fd)}{x l d:List fd}{ids:Nat->Nat}{aK ax z:List Int}{key iE:Int}
structure PG (s:rK):Prop where
 i6:s.i6.length<=1000000000
 lm: ∀i (h:i<s.i6.length),(s.i6[i]).length<=1000000000
 ce:s.ce.length<=1000000000
 view: ∀i (h:i<s.ce.length),(s.ce[i]).bK.length<=1000000000
@[simp]def yP(k:List (List fd))(d:List rd)(l:List (List fd))(Z:List rd)(h:PG (rK.mk k d)):cG X 35 [x0 k d,x0 l Z]=some (.bool (decide ((rK.mk k d)=(rK.mk l Z)))):=by
 refine ij ?_;have h1:k.length<=1000000000:=h.i6;have K:=h.lm;have T:d.length<=1000000000:=h.ce;have v:=h.view;simp only at K v;have a:decide ((rK.mk k d)=(rK.mk l Z))=(decide (k=l)&&decide (d=Z)):=by
  rw[<-Bool.decide_and];simp
 rw[a];clear a;by_cases r:(k.length:Int)=l.length
 case neg=>
  have s: ¬k=l:=fun e=>r bC;simp[r,s]
 by_cases y:(d.length:Int)=Z.length
 case neg=>
  have p: ¬d=Z:=fun e=>y bC;simp[r,y,p]
 have s:k.length=l.length:=ab
 have p:d.length=Z.length:=ab
 simp[r,y];refine dO (fun i S=>(S.f 2= .ptr 2 0 0/\S.h 2=some ⟨2,[x0 k d],true⟩/\S.f 3= .ptr 3 0 0/\S.h 3=some ⟨2,[x0 l Z],true⟩/\S.f 27=((k).length:Int)/\S.f 28=(i:Int)/\S.n=1100)/\(k.take i=l.take i)) (k.length) ab ?_ ?_ ?_
 .rintro i S ⟨E,x,c⟩ ⟨z,G⟩;have g:i<l.length:=ab
  have D:=K i c;by_cases q:k[i]=l[i]
  .have:=we c g G q;have b:=q▸D;simp[z,x,c,g,b,q,this]
  .have: ¬k=l:=fun h=>q dH;simp[z,c,g,D,q,this]
 .rintro S ⟨z,G⟩;have C:k=l:=ub (i:=k.length) ab s G;simp[z,C];refine dO (fun j S=>(S.f 3= .ptr 3 0 0/\S.h 3=some ⟨2,[x0 l Z],true⟩/\S.f 45=d/\S.f 46=((d).length:Int)/\S.f 47=(j:Int)/\S.n=1100)/\(d.take j=Z.take j)) (d.length) ab ?_ ?_ ?_
  .rintro j S ⟨M,Y,P⟩ ⟨m,u⟩;have g:j<Z.length:=ab
   have D:=v j P;have ne: ¬d[j]=Z[j]-> ¬d=Z:=fun q h=>q dH;rw[rd.eq_iff]at ne;by_cases F:(d[j]).im=(Z[j]).im
   case neg=>
    have n:=ne (fun h=>F b6);simp[m,P,g,F,n]
   by_cases N:(d[j]).pc=(Z[j]).pc
   case neg=>
    have n:=ne (fun h=>N b6);simp[m,P,g,F,N,n]
   by_cases V:(d[j]).ia=(Z[j]).ia
   case neg=>
    have n:=ne (fun h=>V b6);simp[m,P,g,F,N,V,n]
   by_cases f:(d[j]).db=(Z[j]).db
   case neg=>
    have n:=ne (fun h=>f b6);simp[m,P,g,F,N,V,f,n]
   by_cases o:(d[j]).iw=(Z[j]).iw
   case neg=>
    have n:=ne (fun h=>o b6);simp[m,P,g,F,N,V,f,o,n]
   by_cases t:(d[j]).dD=(Z[j]).dD
   case neg=>
    have n:=ne (fun h=>t b6);simp[m,P,g,F,N,V,f,o,t,n]
   by_cases B:(d[j]).hw=(Z[j]).hw
   case neg=>
    have n:=ne (fun h=>B b6);simp[m,P,g,F,N,V,f,o,t,B,n]
   by_cases O:(d[j]).bK=(Z[j]).bK
   case neg=>
    have n:=ne (fun h=>O b6);simp[m,P,g,D,F,N,V,f,o,t,B,O,n]
   have b:=O▸D;have w:=we P g u ((rd.eq_iff _ _).2 (by simp only[F,N,V,f,o,t,B,O,and_self]));simp[m,Y,P,g,b,F,N,V,f,o,t,B,O,w]
  .rintro S ⟨m,u⟩;simp[m]<;>(
    have A:d=Z:=ub (i:=d.length) ab p u;simp[A])
  .simp[z]<;>(
    first|rfl|exact⟨ab,rfl⟩|omega)
 .simp<;>(
   first|rfl|exact⟨ab,rfl⟩|omega)
def Ee{m:Type}(f:m->V)(c k:Nat)(l:List m)(v:V)(h:bI)(n:Nat):Prop:=(l=[]/\v= .sl true [])\/(0<l.length/\ ∃id,k<=id/\id<n/\v= .cX id 0 l.length/\h id=some ⟨c,l.map f,false⟩)
def Ee.mono{m:Type}{f:m->V}{l:List m}(H:Ee f c k l v h n)(W:n<=n')(a: ∀i,k<=i->i<n->h' i=h i):Ee f c k l v h' n':=by
 rcases H with H|⟨h0,id,k1,k2,e,g⟩
 .exact .inl H
 .exact .inr ⟨h0,id,k1,ab,e,by rw[a _ k1 k2,g]⟩
def ki(ids:Nat->Nat)(l:List (List fd)):List V:=l.mapIdx fun i x=> .cX (ids i) 0 x.length
def rS(ids:Nat->Nat)(l:List (List fd)):(ki ids l).length=l.length:=by simp[ki]
def Th(ids:Nat->Nat)(l:List (List fd))(x:List fd)(n:Nat):ki ids l++ [.cX n 0 x.length]=ki (bB ids l.length n) (l++ [x]):=by
 apply tl;intro i;simp only[ki,List.mapIdx_append,List.mapIdx_cons,List.mapIdx_nil];rcases ru i l.length with h|h
 .rw[ug bn,ug bn];simp[bB,DE h]
 .rw[tu bn,tu bn];simp[bB]
def oV(k n:Nat)(rs:List (List fd))(v:V)(h:bI):Prop:=(rs=[]/\v= .sl true [])\/(0<rs.length/\ ∃R ids,v= .cX R 0 rs.length/\h R=some ⟨1,ki ids rs,true⟩/\(k<=R/\R<n)/\
 (∀i (g:i<rs.length),h (ids i)=some ⟨4,(rs[i]).map fd.e,false⟩/\k<=ids i/\ids i<n/\ids i≠R)/\ ∀i j,i<rs.length->j<rs.length->i≠j->ids i≠ids j)
def oV.mono(H:oV k n rs v h)(W:n<=n')(a: ∀i,k<=i->i<n->h' i=h i):oV k n' rs v h':=by
 rcases H with H|⟨h0,R,ids,e,g,k1,j,s⟩
 .exact .inl H
 .exact kR
def oV.UU{id R:Nat}(G:h R=some ⟨1,[.cX id 0 x.length],true⟩)(l:h id=some ⟨4,x.map fd.e,false⟩)(b:k<=id/\id<m/\k<=R/\R<m/\id≠R):oV k m [x] (.cX R 0 1) h:=by
 refine .inr ⟨ai,R,fun _=>id,rfl,by rw[G];rfl,ab,fun i g=> ?_,fun i j a c d=>by simp at a c;omega⟩;have:i=0:=ei
 subst this;exact⟨l,b.1,b.2.1,b.2.2.2.2⟩
def oV.snoc     {R R' id:Nat}  (l: ∀i (g:i<rs.length),h (ids i)=some ⟨4,(rs[i]).map fd.e,false⟩/\k<=ids i/\ids i<n/\ids i≠R) (s: ∀i j,i<rs.length->j<rs.length->i≠j->ids i≠ids j)
  (G:h' R'=some ⟨1,ki ids rs++ [.cX id 0 x.length],true⟩) (v:h' id=some ⟨4,x.map fd.e,false⟩) (f: ∀i,k<=i->i<n->i≠R->h' i=h i) (b:k<=n/\n<=id/\id<R'/\R'<m):oV k m (rs++ [x]) (.cX R' 0 (rs.length+1)) h':=by
 refine .inr ⟨ai,R',bB ids rs.length id,ai,by rw[G,Th],ab,fun i g=> ?_,fun i j a c d=> ?_⟩
 .rcases ru i rs.length with q|q
  .exact l_
  .have:i=rs.length:=ei
   exact nn
 .simp only[ta,s9,w4]at a c;unfold bB;by_cases o:i=rs.length
  .exact ra
  .have q:=(l i ab).2.2.1;rw[if_neg o];by_cases e:j=rs.length
   .rw[if_pos e];omega
   .rw[if_neg e];exact s i j ab ab d
def Dg(aK:List Int)(key:Int)(ax:List Int)(mem:aD)(r:Nat):List fd:=jL aK key ax mem (nth aK r).toNat (nth ax r).toNat
def kn(aK:List Int)(key:Int)(ax:List Int)(mem:aD)(k:Nat):List (List fd):=(List.range k).map (Dg aK key ax mem)
def Mt(aK:List Int)(key:Int)(ax:List Int)(mem:aD)(k:Nat):kn aK key ax mem (k+1)=kn aK key ax mem k++ [Dg aK key ax mem k]:=by
 unfold kn;rw[u5,t2];rfl
def BL(aK:List Int)(key:Int)(ax:List Int)(mem:aD)(k:Nat):(kn aK key ax mem k).length=k:=by simp[kn]
def RgI(aK:List Int)(key:Int)(ax:List Int)(mem:aD)(k r:Nat)(S:St):Prop:=
 (S.f 2= .sl false (ax.map (V.int .i64))/\S.f 3= .ptr k 0 0/\S.f 4= .ptr (k+1) 0 0/\S.f 12= .sl false (ax.map (V.int .i64))/\S.f 13= .int .i64 (ax.length:Int)/\S.f 14= .int .i64 (r:Int))/\
 (S.h k=some ⟨2,[y6 mem],true⟩/\S.h (k+1)=some ⟨2,[pp aK key],true⟩)/\
 oV (k+2) S.n (kn aK key ax mem r) (S.f 7) S.h/\k+2<=S.n
def RgJ(aK:List Int)(key:Int)(ax:List Int)(mem:aD)(k r n0 o:Nat)(S:St):Prop:=
 (S.f 2= .sl false (ax.map (V.int .i64))/\S.f 3= .ptr k 0 0/\S.f 4= .ptr (k+1) 0 0/\S.f 8= .int .i64 (r:Int)/\S.f 12= .sl false (ax.map (V.int .i64))/\S.f 13= .int .i64 (ax.length:Int)/\S.f 14= .int .i64 (r:Int)/\S.f 19= .int .i64 (nth ax r)/\S.f 20= .int .i64 (o:Int))/\
 (S.h k=some ⟨2,[y6 mem],true⟩/\S.h (k+1)=some ⟨2,[pp aK key],true⟩)/\
 oV (k+2) n0 (kn aK key ax mem r) (S.f 7) S.h/\Ee fd.e 4 n0 (jL aK key ax mem (nth aK r).toNat o) (S.f 10) S.h S.n/\k+2<=n0/\n0<=S.n
@[simp]def XY(d:List ac)(L:List cP)(y:List Int)(I:Int)(ax:List Int)(k:Nat)(M:fM y ax)(hM:qo ⟨d,L⟩): ∃v h' k',df X 89 [s_ d L,pp y I,.sl false (ax.map (V.int .i64))] mg k=some (v,h',k')/\oV (k+2) k' (kn y I ax ⟨d,L⟩ ax.length) v h'/\k+2<=k':=by
 have hb:y.length=ax.length:=M.len;have dN:ax.length<=4:=M.sz.le;have hj:su ⟨d,L⟩:=hM.mem;refine ip ?_;simp[X6];refine nG (fun r S=>RgI y I ax ⟨d,L⟩ k r S) ax.length ?_ 0 ab ?_
 .rintro r S hr ⟨⟨f2,f3,f4,O,x,f⟩,⟨h0,h1⟩,hs,hk⟩;simp only at h0 h1;by_cases W:r<ax.length
  case neg=>
   have n0:r=ax.length:=ab
   subst n0;simp[x,f];exact⟨hs.mono ab fun _ _ _=>rfl,ab⟩
  have h3:=z_ ((r:Int)+1);have nh:r<y.length:=ab
  obtain⟨hd,HG⟩:=M.sz.elem r W;obtain⟨b1,h4⟩:=M.base r nh W;obtain⟨b,e⟩: ∃b:Nat,y[r]=b:=⟨(y[r]).toNat,ab⟩;obtain⟨z,F⟩: ∃z:Nat,ax[r]=z:=⟨(ax[r]).toNat,ab⟩;have t:nth y r=b:=by rw[dA nh,e]
  have Q:nth ax r=z:=by rw[dA W,F]
  simp[O,x,f,W,F];refine nG (fun o l=>RgJ y I ax ⟨d,L⟩ k r (S.n+9) o l) z ?_ 0 ab ?_
  .rintro o l ho ⟨⟨Y,C,B,hc,A,H,T,J,p⟩,⟨u,w⟩,au,he,hf,g3⟩;simp only at u w;rw[Q]at J;have an:(((z:Nat):Int)).toNat=z:=ab
   have aq:(((b:Nat):Int)).toNat=b:=ab
   rw[t,aq]at he;by_cases h2:o<z
   case neg=>
    have P: ¬(o:Int)<z:=ab
    have ha:o=z:=ab
    subst ha;have D:=tG y I ax ⟨d,L⟩ b o;have cQ:=BL y I ax ⟨d,L⟩ r;have m:=Mt y I ax ⟨d,L⟩ r;unfold Dg at m;rw[t,Q,aq,an]at m;obtain⟨bs,hn⟩:=x_ (jL y I ax ⟨d,L⟩ b o);obtain⟨E,aa⟩:=x_ (kn y I ax ⟨d,L⟩ r);rw[hn]at he D m;rw[aa]at au cQ m;rcases he with⟨hi,g⟩|⟨hi,id,i1,i2,g,fv⟩
    .rw[hi]at D;simp at D;omega
    have ni: ∀j,¬id=l.n+j:=fun j=>ab
    have s: ∀j,¬k=l.n+j:=fun j=>ab
    rcases au with⟨e0,hl⟩|⟨e0,R,ids,hl,r1,g2,ae,hg⟩
    .simp[X6,hl,g,T,J,p,P,W,h3];refine⟨⟨dS,gz,gB,cS,gx,al⟩,⟨?_,?_⟩,?_,aB⟩
     .simp[bB,s,u]
     .simp[bB,s,w]
     .rw[m,e0];refine oV.UU (id:=id) (R:=l.n+4) ?_ ?_ aB
      .simp[bB]
      .simp[bB,ni,fv]
    .have e1: ∀j,¬R=l.n+j:=fun j=>ab
     have ak:=rS ids E;have hp:(ki ids E).take E.length=ki ids E:=bQ ab;have hB:E.length<=1000:=ab
     simp[X6,hl,g,T,J,p,P,W,h3,r1,e1,ak,hp];refine⟨⟨ab,ab⟩,fun _ _=>⟨⟨dS,gz,gB,cS,gx,al⟩,⟨?_,?_⟩,?_,aB⟩⟩
     .have K: ¬k=R:=ab
      simp[bB,s,K,u]
     .have K: ¬k+1=R:=ab
      simp[bB,s,K,w]
     .rw[m];refine oV.snoc (n:=S.n+9) (id:=id) (R:=R) (R':=l.n+4) (h:=l.h) (ids:=ids) ae hg ?_ ?_ ?_ aB
      .simp[bB]
      .have K: ¬id=R:=ab
       simp[bB,ni,K,fv]
      .intro i c1 bP mm;have U: ∀j,¬i=l.n+j:=fun j=>ab
       simp[bB,U,mm]
   have P:(o:Int)<z:=ab
   have ht:=z_ ((o:Int)+1);obtain⟨q,hq⟩: ∃q:Nat,b+o=q:=⟨_,rfl⟩;have e2:q<512:=ab
   have bp:(q:Int)<512:=ab
   have Z:IntKind.i64.wrap ((b:Int)+o)=q:=g7
   have hx:(r:Int)<y.length:=ab
   have m:=Da y I ax ⟨d,L⟩ b o;rw[hq]at m;obtain⟨⟨lt,lv⟩,hv⟩: ∃c,look ⟨d,L⟩ q=c:=⟨_,rfl⟩;have N:=fq.look hM q;rw[hv]at m N;have G:=N.2;have D:=tG y I ax ⟨d,L⟩ b o;obtain⟨bs,hn⟩:=x_ (jL y I ax ⟨d,L⟩ b o);rw[hn]at he D m;have s: ∀j,¬k=l.n+j:=fun j=>ab
   have n2: ∀j,¬k+1=l.n+j:=fun j=>ab
   have aw:=yy d L q hj ab;rw[X7,hv]at aw;rcases he with⟨hi,g⟩|⟨hi,id,i1,i2,g,fv⟩
   .simp[X6,Y,C,B,hc,g,J,p,u,w,P,h2,ht,M,Z,nh,hx,e,aw,G];refine⟨⟨dS,gz,gB,cc,cS,gx,by simp[bB,T],by simp[bB,J,Q],al⟩,⟨by simp[bB,s,u],by simp[bB,s,w]⟩,?_,?_,ab,aB⟩
    .simp only[bB,Nat.reduceEqDiff,if_false];exact au.mono ab fun i a b=>by
      have U: ∀j,¬i=l.n+j:=fun j=>ab
      simp[U]
    .rw[t,aq,m,hi];refine .inr ⟨ai,l.n+17,ab,aB,al,cq⟩
   .have ni: ∀j,¬id=l.n+j:=fun j=>ab
    simp[X6,Y,C,B,hc,g,J,p,u,w,P,h2,ht,M,Z,nh,hx,e,aw,G,fv];refine⟨⟨ab,ab⟩,fun _ _=>⟨⟨dS,gz,gB,cc,cS,gx,by simp[bB,T],by simp[bB,J,Q],al⟩,⟨?_,?_⟩,?_,?_,ab,aB⟩⟩
    .have K: ¬k=id:=ab
     simp[bB,s,K,u]
    .have K: ¬k+1=id:=ab
     simp[bB,s,K,w]
    .simp only[bB,Nat.reduceEqDiff,if_false];exact au.mono ab fun i a b=>by
      have U: ∀j,¬i=l.n+j:=fun j=>ab
      have ah: ¬i=id:=ab
      simp[U,ah]
    .rw[t,aq,m];refine .inr ⟨ai,l.n+17,ab,aB,al,cq⟩
  .simp[X6];refine⟨⟨eg,by simp[bB,f3],by simp[bB,f4],al,by simp[bB,O],by simp[bB,x],eG,by simp[bB,Q],al⟩,⟨by simp only;exact h0,by simp only;exact h1⟩,?_,.inl ⟨rfl,al⟩,ab,aB⟩;exact hs.mono ab fun _ _ _=>rfl
 .simp;refine⟨⟨rfl,al,al,al,al,al⟩,⟨al,al⟩,.inl ⟨rfl,al⟩,aB⟩
def KY(aK:List Int)(key:Int)(ax:List Int)(x:gc):rd:=⟨x.im,x.pc,x.ia,x.db,x.iw,x.dD,x.hw,x.bK.map (canon aK key ax)⟩
def pJ(aK:List Int)(key:Int)(ax:List Int)(l:List gc):List rd:=l.map (KY aK key ax)
def Tj{l:List gc}(h:i<l.length):pJ aK key ax (l.take (i+1))=pJ aK key ax (l.take i)++ [KY aK key ax l[i]]:=by
 unfold pJ;rw[kJ h,t2];rfl
def E7(aK:List Int)(key:Int)(ax:List Int)(l:List gc):(pJ aK key ax l).length=l.length:=by simp[pJ]
def nA(p:g9)(m:aN):rK:=⟨kn m.am.aK m.am.key p.ax m.gt p.ax.length,pJ m.am.aK m.am.key p.ax m.ce⟩
def Dh(ids:Nat->Nat)(i:Nat)(v:rd):V:= .agg [.int .i64 v.im,.int .i64 v.pc,.int .i64 v.ia,.int .i64 v.db,.int .i64 v.iw,.int .i64 v.dD,.int .u16 v.hw,.cX (ids i) 0 v.bK.length]
def qu(ids:Nat->Nat)(l:List rd):List V:=l.mapIdx (Dh ids)
def Tk(ids:Nat->Nat)(l:List rd):(qu ids l).length=l.length:=by simp[qu]
def PH(ids:Nat->Nat)(l:List rd)(x:rd)(n:Nat):qu ids l++ [Dh (fun _=>n) 0 x]=qu (bB ids l.length n) (l++ [x]):=by
 apply tl;intro i;simp only[qu,List.mapIdx_append,List.mapIdx_cons,List.mapIdx_nil];rcases ru i l.length with h|h
 .rw[ug bn,ug bn];simp[Dh,bB,DE h,rk h]
 .rw[tu bn,tu bn];simp[Dh,bB]
def qY(k n:Nat)(vs:List rd)(v:V)(h:bI):Prop:=(vs=[]/\v= .sl true [])\/(0<vs.length/\ ∃R ids,v= .cX R 0 vs.length/\h R=some ⟨8,qu ids vs,true⟩/\(k<=R/\R<n)/\
 (∀i (g:i<vs.length),h (ids i)=some ⟨4,(vs[i]).bK.map fd.e,false⟩/\k<=ids i/\ids i<n/\ids i≠R)/\ ∀i j,i<vs.length->j<vs.length->i≠j->ids i≠ids j)
def qY.mono{vs:List rd}(H:qY k n vs v h)(W:n<=n')(a: ∀i,k<=i->i<n->h' i=h i):qY k n' vs v h':=by
 rcases H with H|⟨h0,R,ids,e,g,k1,j,s⟩
 .exact .inl H
 .exact kR
def qY.UU{x:rd}{id R:Nat}(G:h R=some ⟨8,[Dh (fun _=>id) 0 x],true⟩)(l:h id=some ⟨4,x.bK.map fd.e,false⟩)(b:k<=id/\id<m/\k<=R/\R<m/\id≠R):qY k m [x] (.cX R 0 1) h:=by
 refine .inr ⟨ai,R,fun _=>id,rfl,by rw[G];rfl,ab,fun i g=> ?_,fun i j a c d=>by simp at a c;omega⟩;have:i=0:=ei
 subst this;exact⟨l,b.1,b.2.1,b.2.2.2.2⟩
def qY.snoc  {rs:List rd}  {x:rd} {R R' id:Nat}  (l: ∀i (g:i<rs.length),h (ids i)=some ⟨4,(rs[i]).bK.map fd.e,false⟩/\k<=ids i/\ids i<n/\ids i≠R) (s: ∀i j,i<rs.length->j<rs.length->i≠j->ids i≠ids j)
  (G:h' R'=some ⟨8,qu ids rs++ [Dh (fun _=>id) 0 x],true⟩) (v:h' id=some ⟨4,x.bK.map fd.e,false⟩) (f: ∀i,k<=i->i<n->i≠R->h' i=h i) (b:k<=n/\n<=id/\id<R'/\R'<m):qY k m (rs++ [x]) (.cX R' 0 (rs.length+1)) h':=by
 refine .inr ⟨ai,R',bB ids rs.length id,ai,by rw[G,PH],ab,fun i g=> ?_,fun i j a c d=> ?_⟩
 .rcases ru i rs.length with q|q
  .exact l_
  .have:i=rs.length:=ei
   exact nn
 .simp only[ta,s9,w4]at a c;unfold bB;by_cases o:i=rs.length
  .exact ra
  .have q:=(l i ab).2.2.1;rw[if_neg o];by_cases e:j=rs.length
   .rw[if_pos e];omega
   .rw[if_neg e];exact s i j ab ab d
def yh(k n:Nat)(s:rK)(v:V)(h:bI):Prop:= ∃vR vT t,v= .agg [vR,vT]/\oV k t s.i6 vR h/\qY t n s.ce vT h/\k<=t/\t<=n
def StI(p:g9)(m:aN)(k k1 k2 c n i:Nat)(vR:V)(S:St):Prop:=
 ∃vT,(S.f 2= .ptr k 0 0/\S.f 3= .ptr k1 0 0/\S.f 4= .ptr k2 0 0/\S.f 5= .ptr c 0 0/\S.f 20= .sl false (m.ce.map gc.e)/\S.f 21= .int .i64 4/\S.f 22= .int .i64 (i:Int))/\
 (S.h k=some ⟨3,[wa p],true⟩/\S.h k1=some ⟨5,[.agg (kW m)],true⟩/\S.h k2=some ⟨2,[.agg [.sl true [],.sl true []]],true⟩/\S.h c=some ⟨2,[.agg [vR,vT]],true⟩)/\
 oV (k+15) n (kn m.am.aK m.am.key p.ax m.gt p.ax.length) vR S.h/\qY n S.n (pJ m.am.aK m.am.key p.ax (m.ce.take i)) vT S.h/\k+15<=n/\n<=S.n
def StJ(p:g9)(m:aN)(k k1 k2 z c n A i:Nat)(vR vT:V)(x:gc)(j:Nat)(S:St):Prop:=
 ∃vC,(S.f 2= .ptr k 0 0/\S.f 3= .ptr k1 0 0/\S.f 4= .ptr k2 0 0/\S.f 5= .ptr z 0 0/\S.f 8= .ptr c 0 0/\S.f 20= .sl false (m.ce.map gc.e)/\S.f 21= .int .i64 4/\S.f 22= .int .i64 (i:Int)/\S.f 42= .sl false (x.bK.map ac.e)/\S.f 43= .int .i64 8/\S.f 44= .int .i64 (j:Int))/\
 (S.h k=some ⟨3,[wa p],true⟩/\S.h k1=some ⟨5,[.agg (kW m)],true⟩/\S.h k2=some ⟨2,[.agg [.sl true [],.sl true []]],true⟩/\S.h z=some ⟨2,[.agg [vR,vT]],true⟩/\
  S.h c=some ⟨8,[.agg [.int .i64 x.im,.int .i64 x.pc,.int .i64 x.ia,.int .i64 x.db,.int .i64 x.iw,.int .i64 x.dD,.int .u16 x.hw,vC]],true⟩)/\
 oV (k+15) n (kn m.am.aK m.am.key p.ax m.gt p.ax.length) vR S.h/\qY n A (pJ m.am.aK m.am.key p.ax (m.ce.take i)) vT S.h/\k+15<=n/\n<=A/\c+1<=S.n/\Ee fd.e 4 (c+1) (dW m.am.aK m.am.key p.ax x.bK j) vC S.h S.n
@[simp]def V1(au:List hu)(q:List Int)(aw:List (List Int))(Z:List Int)(B:Int)(J:List ac)(N:List cP)(p:List gc)(k:Nat)(d:Int)(HG:cJ (wn au q aw) d (w_ Z B J N p)): ∃v h' k',df X 36 [iB au q aw,ol Z B J N p] mg k=some (v,h',k')/\yh (k+15) k' (nA (wn au q aw) (w_ Z B J N p)) v h':=by
 have hL:fM Z q:=HG.lay;have hl:p.length=4:=HG.len;obtain⟨vR,hR,bP,bL,bS,ht⟩:=XY J N Z B q (k+13) hL HG.mem;simp only[X6,Nat.reduceAdd]at bL bS ht;have hy:1<=q.length:=hL.sz.pos;have hd:=BL Z B q ⟨J,N⟩ q.length;obtain⟨R,rfl⟩: ∃R,vR= .cX R 0 q.length:=by
  rcases bS with⟨e,_⟩|⟨_,R,_,e,_⟩
  .rw[e]at hd;simp at hd;omega
  .rw[hd]at e;exact⟨R,e⟩
 refine ip ?_;simp[X6,bL,hl];obtain⟨k1,ff⟩:=x_ (k+1);obtain⟨k2,bV⟩:=x_ (k+2);obtain⟨z,hs⟩:=x_ (k+11);refine nG (fun i S=>StI (wn au q aw) (w_ Z B J N p) k k1 k2 z bP i (.cX R 0 q.length) S) 4 ?_ 0 ab ?_
 .rintro i S hi ⟨vT,⟨f2,f3,f4,dz,M,V,I⟩,⟨h0,h1,h2,h5⟩,O,ha,n0,cg⟩;unfold kW at h1;simp only at h0 h1 M O ha;by_cases iS:i<4
  case neg=>
   have cz: ¬(i:Int)<4:=ab
   have cu:i=4:=ab
   subst cu;rw[bQ ab]at ha;have cm: ¬z=k2:=ab
   have fG:=E7 Z B q p;rcases ha with⟨e,_⟩|⟨e0,Q,ids,rfl,r1,bc,h4,hB⟩
   .rw[e]at fG;simp at fG;omega
   simp[X6,f4,dz,V,I,h2,h5];refine⟨_,_,bP,rfl,O.mono (iX _) fun j a b=>ib,.inr ⟨e0,Q,ids,rfl,?_,ab,fun j g=> ?_,hB⟩,n0,ab⟩
   .rw[bB,if_neg ab];exact r1
   .obtain⟨a1,a2,a3,a4⟩:=h4 j g;exact⟨by rw[bB,if_neg ab];exact a1,a2,ab,a4⟩
  have cz:(i:Int)<4:=ab
  have hA:i<p.length:=ab
  have ts:=z_ ((i:Int)+1);have hx:=HG.lq i hA;obtain⟨x,mQ⟩:=x_ p[i];simp only[mQ]at hx;have h8:=hx.bK;simp[X6,M,V,I,iS,cz,mQ,gc.cN,h8,hl];obtain⟨Y,hv⟩:=x_ (S.n+20);refine nG (fun j m=>StJ (wn au q aw) (w_ Z B J N p) k k1 k2 z Y bP S.n i (.cX R 0 q.length) vT x j m) 8 ?_ 0 ab ?_
  .rintro j m hj ⟨vC,⟨hb,hc,ay,he,P,o,A,G,W,f,t⟩,⟨F,C,g2,hf,e2⟩,mm,H,q1,q2,dM,cQ⟩;unfold kW at C;simp only at F C o mm H cQ;by_cases bT:j<8
   case neg=>
    have K: ¬(j:Int)<8:=ab
    have hE:j=8:=ab
    subst hE;have hr:=ry (aK:=Z) (key:=B) (ax:=q) (bK:=x.bK) (i:=8) ab;have g3:KY Z B q x=⟨x.im,x.pc,x.ia,x.db,x.iw,x.dD,x.hw,dW Z B q x.bK 8⟩:=by
     unfold KY dW;rw[bQ ab]
    have y:=Tj (aK:=Z) (key:=B) (ax:=q) hA;rw[mQ,g3]at y;obtain⟨gX,U⟩:=x_ (dW Z B q x.bK 8);have h3:=E7 Z B q (p.take i);rw[List.length_take_of_le ab]at h3;obtain⟨vs,hz⟩:=x_ (pJ Z B q (p.take i));rw[U]at cQ hr y;rw[hz]at H y h3;rcases cQ with⟨hp,cC⟩|⟨hp,id,i1,i2,rfl,fv⟩
    .rw[hp]at hr;simp at hr
    have ni: ∀j,¬id=m.n+j:=fun j=>ab
    have s: ∀j,¬k=m.n+j:=fun j=>ab
    have r: ∀j,¬k1=m.n+j:=fun j=>ab
    have E: ∀j,¬k2=m.n+j:=fun j=>ab
    have m5: ∀j,¬z=m.n+j:=fun j=>ab
    have bp: ∀j,¬Y=m.n+j:=fun j=>ab
    have dN: ¬Y=z:=ab
    have u: ¬z=Y:=ab
    have ho: ∀j,¬m.n+j=z:=fun j=>ab
    rcases H with⟨e0,rfl⟩|⟨e0,Q,ids,rfl,r1,bc,h4,hB⟩
    .simp[X6,he,P,G,f,t,hf,e2,iS,ts,m5];refine⟨.cX (m.n+5) 0 1,⟨c_,cc,gd,gb,gv,cS,al⟩,⟨?_,?_,?_,al⟩,?_,?_,n0,aB⟩
     .have w: ¬k=z:=ab
      simp[bB,s,w,F]
     .have w: ¬k1=z:=ab
      simp[bB,r,w,C,kW]
     .have w: ¬k2=z:=ab
      simp[bB,E,w,g2]
     .exact mm.mono ab fun l a b=>by
       have D: ∀j,¬l=m.n+j:=fun j=>ab
       have L: ¬l=z:=ab
       simp[bB,D,L]
     .rw[y,e0];have w: ¬id=z:=ab
      exact qY.UU (id:=id) (R:=m.n+5) (by simp[bB,Dh,ho]) (by simp[bB,ni,w,fv]) aB
    .have aJ: ∀j,¬Q=m.n+j:=fun j=>ab
     have hq: ¬z=Q:=ab
     have aH: ¬Y=Q:=ab
     have bs: ¬k1=Q:=ab
     have hh: ¬k2=Q:=ab
     have c1: ¬k=Q:=ab
     have ba:=Tk ids vs;have hS:(qu ids vs).take vs.length=qu ids vs:=bQ ab;simp[X6,he,P,G,f,t,hf,e2,iS,ts,m5,hq,r1,aJ,ba,hS];refine⟨⟨ab,ab⟩,fun _ _=>⟨.cX (m.n+5) 0 (vs.length+1),⟨c_,cc,gd,gb,gv,cS,al⟩,⟨?_,?_,?_,al⟩,?_,?_,n0,aB⟩⟩
     .have w: ¬k=z:=ab
      simp[bB,s,w,c1,F]
     .have w: ¬k1=z:=ab
      simp[bB,r,w,bs,C,kW]
     .have w: ¬k2=z:=ab
      simp[bB,E,w,hh,g2]
     .exact mm.mono ab fun l a b=>by
       have D: ∀j,¬l=m.n+j:=fun j=>ab
       have L: ¬l=z:=ab
       have T: ¬l=Q:=ab
       simp[bB,D,L,T]
     .rw[y];have w: ¬id=z:=ab
      have T: ¬id=Q:=ab
      refine qY.snoc (n:=S.n) (id:=id) (R:=Q) (R':=m.n+5) (h:=m.h) (ids:=ids) h4 hB ?_ ?_ ?_ aB
      .simp[bB,Dh,ho]
      .simp[bB,ni,w,T,fv]
      .intro l a b c;have D: ∀j,¬l=m.n+j:=fun j=>ab
       have L: ¬l=z:=ab
       simp[bB,D,L,c]
   have K:(j:Int)<8:=ab
   have c2:=z_ ((j:Int)+1);have e1:j<x.bK.length:=ab
   have b':(j:Int)<x.bK.length:=ab
   obtain⟨⟨ct,cI⟩,hg⟩: ∃c,x.bK[j]=c:=⟨_,rfl⟩;have hT:=hx.cells.at e1;rw[hg]at hT;have dF:=hT.2;have y:=A5 (aK:=Z) (key:=B) (ax:=q) e1;rw[hg]at y;have hr:=ry (aK:=Z) (key:=B) (ax:=q) (bK:=x.bK) (i:=j) ab;obtain⟨gX,U⟩:=x_ (dW Z B q x.bK j);rw[U]at cQ hr y;have s: ∀j,¬k=m.n+j:=fun j=>ab
   have r: ∀j,¬k1=m.n+j:=fun j=>ab
   have E: ∀j,¬k2=m.n+j:=fun j=>ab
   have m5: ∀j,¬z=m.n+j:=fun j=>ab
   have bp: ∀j,¬Y=m.n+j:=fun j=>ab
   have dN: ¬z=Y:=ab
   have hn: ¬k1=Y:=ab
   have u: ¬k2=Y:=ab
   have hk: ¬k=Y:=ab
   rcases cQ with⟨hp,rfl⟩|⟨hp,id,i1,i2,rfl,fv⟩
   .simp[X6,hb,hc,P,W,f,t,F,C,e2,bT,K,c2,hL,e1,b',hg,ac.cN,dF,s,r,bp];refine⟨.cX (m.n+14) 0 1,⟨c_,cc,gd,gb,by simp[bB,P],gv,cS,by simp[bB,G],bY,eG,al⟩,⟨by simp[bB,s,hk,F],by simp[bB,r,hn,C,kW],by simp[bB,E,u,g2],by simp[bB,m5,dN,hf],al⟩,?_,?_,q1,q2,aB,?_⟩
    .exact mm.mono ab fun l a b=>by
      have D: ∀j,¬l=m.n+j:=fun j=>ab
      have L: ¬l=Y:=ab
      simp[bB,D,L]
    .exact H.mono ab fun l a b=>by
      have D: ∀j,¬l=m.n+j:=fun j=>ab
      have L: ¬l=Y:=ab
      simp[bB,D,L]
    .rw[y,hp];have w: ∀j,¬m.n+j=Y:=fun j=>ab
     refine .inr ⟨ai,m.n+14,ab,aB,rfl,by simp[bB,w,fd.cN]⟩
   .have ni: ∀j,¬id=m.n+j:=fun j=>ab
    have kk: ¬Y=id:=ab
    simp[X6,hb,hc,P,W,f,t,F,C,e2,bT,K,c2,hL,e1,b',hg,ac.cN,dF,s,r,bp,fv,ni,kk];have e3: ¬k=id:=ab
    have iO: ¬k1=id:=ab
    have bU: ¬k2=id:=ab
    have c3: ¬z=id:=ab
    refine⟨⟨ab,ab⟩,fun _ _=>⟨.cX (m.n+14) 0 (gX.length+1),⟨c_,cc,gd,gb,by simp[bB,P],gv,cS,by simp[bB,G],bY,eG,al⟩,⟨by simp[bB,s,hk,e3,F],by simp[bB,r,hn,iO,C,kW],by simp[bB,E,u,bU,g2],by simp[bB,m5,dN,c3,hf],al⟩,?_,?_,q1,q2,aB,?_⟩⟩
    .exact mm.mono ab fun l a b=>by
      have D: ∀j,¬l=m.n+j:=fun j=>ab
      have L: ¬l=Y:=ab
      have T: ¬l=id:=ab
      simp[bB,D,L,T]
    .exact H.mono ab fun l a b=>by
      have D: ∀j,¬l=m.n+j:=fun j=>ab
      have L: ¬l=Y:=ab
      have T: ¬l=id:=ab
      simp[bB,D,L,T]
    .rw[y];have w: ∀j,¬m.n+j=Y:=fun j=>ab
     refine .inr ⟨ai,m.n+14,ab,aB,ai,by simp[bB,w,fd.cN]⟩
  .simp;have s: ∀j,¬k=S.n+j:=fun j=>ab
   have r: ∀j,¬k1=S.n+j:=fun j=>ab
   have E: ∀j,¬k2=S.n+j:=fun j=>ab
   have m5: ∀j,¬z=S.n+j:=fun j=>ab
   refine⟨.sl true [],⟨eg,by simp[bB,f3],by simp[bB,f4],by simp[bB,dz],by simp[bB,<-hv],by simp[bB,M],by simp[bB,V],by simp[bB,I],al,al,al⟩,⟨by simp[bB,s,h0],by simp[bB,r,h1,kW],by simp[bB,E,h2],by simp[bB,m5,h5],by simp[bB,<-hv]⟩,?_,?_,n0,cg,aB,.inl ⟨rN _ _ _ _,rfl⟩⟩
   .exact O.mono (iX _) fun j a b=>by
     have n4: ∀l,¬j=S.n+l:=fun l=>ab
     simp[bB,n4]
   .exact ha.mono (iX _) fun j a b=>by
     have n4: ∀l,¬j=S.n+l:=fun l=>ab
     simp[bB,n4]
 .simp;have bW: ∀j,j<13->k+j<k+13:=fun j hj=>ab
  refine⟨.sl true [],⟨al,by simp[bB,<-ff],by simp[bB,<-bV],by simp[bB,<-hs],al,al,al⟩,⟨al,by simp[bB,kW,<-ff],by simp[bB,<-bV],by simp[bB,<-hs]⟩,?_,.inl ⟨rfl,rfl⟩,ht,aB⟩;exact bS.mono (iX _) fun j a b=>by
   have n4: ¬j=k+11:=ab
   have bW: ¬j<k+13:=ab
   simp[bB,n4,bW]
@[simp]def am4(P:List (List fd))(b:List fR)(h iC:Int)(K:jT (cn.mk P b)):cG X 284 [sd P b,.int .i64 h,.int .i64 iC]=some (.ed [vm ((s7 (cn.mk P b) h iC).1),.bool ((s7 (cn.mk P b) h iC).2)]):=by
 refine ij ?_;have G:=K.lens;have g:P.length<=4:=G.ap;have l:=G.each;have u:b.length<=1000000000:=G.iV;simp only at l;cases o:uH (cn.mk P b) h with
 |false=>
  have e:s7 (cn.mk P b) h iC=((cn.mk P b),false):=by unfold s7;rw[if_neg (by simp[o])]
  rw[e];simp[g,l,u,o]
 |true=>
  obtain⟨k,rfl,y,j,q,m,p,x,F,N⟩:=rQ K o;simp only at y q m p x F N;have z:(k:Int)<b.length:=ab
  have i:(j:Int)<P.length:=ab
  have n:b.getD (k:Int).toNat closed=b[k]:=m;have s:P.getD (b.getD (k:Int).toNat closed).iE.toNat []=P[j]:=p;by_cases T:0<=iC
  case neg=>
   have e:s7 (cn.mk P b) k iC=((cn.mk P b),false):=by unfold s7;rw[if_pos o,if_neg (fun h=>T h.1)]
   have c:iC<0:=ab
   rw[e];simp[g,l,u,o,c]
  have c: ¬iC<0:=ab
  by_cases d:iC<=((P[j]).length:Int)
  case neg=>
   have e:s7 (cn.mk P b) k iC=((cn.mk P b),false):=by unfold s7;rw[if_pos o,if_neg (fun h=>d (by have:=h.2;simp only at this;rwa[s]at this))]
   have O:((P[j]).length:Int)<iC:=ab
   rw[e];simp[g,l,u,o,c,y,z,q,i,x,O]
  have O: ¬((P[j]).length:Int)<iC:=ab
  have e:s7 (cn.mk P b) k iC=(⟨P,b.set k ⟨(b[k]).iE,iC,(b[k]).write⟩⟩,true):=by
   have r:b.getD k closed=b[k]:=n;unfold s7;rw[if_pos o,if_pos ⟨T,by simp only;rw[s];exact d⟩];simp only[X7,r]
  rw[e];simp[g,l,u,o,c,y,z,q,i,x,O];rw[show(b[k].e.put 1 (V.int .i64 iC))=fR.e ⟨(b[k]).iE,iC,(b[k]).write⟩ from rfl,<-List.map_set (f:=fR.e),bQ ai,xq,sB];try simp[x]
@[simp]def am5(b:List (List fd))(L:List fR)(h n:Int)(K:jT (cn.mk b L)):cG X 281 [sd b L,.int .i64 h,.int .i64 n]=some (.ed [vm ((oJ (cn.mk b L) h n).1),.sl false (((oJ (cn.mk b L) h n).2.1).map fd.e),.bool ((oJ (cn.mk b L) h n).2.2)]):=by
 refine ij ?_;have I:=K.lens;have r:b.length<=4:=I.ap;have l:=I.each;have u:L.length<=1000000000:=I.iV;simp only at l;cases g:uH (cn.mk b L) h with
 |false=>
  have e:oJ (cn.mk b L) h n=((cn.mk b L),[],false):=by unfold oJ;rw[if_neg (fun h=>by rw[g]at h;cases h.1)]
  rw[e];simp[r,l,u,g]
 |true=>
  obtain⟨k,rfl,y,j,w,i,s,B,M,P⟩:=rQ K g;simp only at y w i s B M P;have J:(k:Int)<L.length:=ab
  have z:(j:Int)<b.length:=ab
  by_cases T:0<=n
  case neg=>
   have e:oJ (cn.mk b L) k n=((cn.mk b L),[],false):=by unfold oJ;rw[if_neg (fun h=>T h.2.1)]
   have G:n<0:=ab
   rw[e];simp[r,l,u,g,G]
  have G: ¬n<0:=ab
  cases d:(L[k]).write with
  |true=>
   have e:oJ (cn.mk b L) k n=((cn.mk b L),[],false):=by unfold oJ;rw[if_neg (fun h=>by have:=h.2.2;rw[i,d]at this;cases this)]
   rw[e];simp[r,l,u,g,G,y,J,d]
  |false=>
   obtain⟨o,p⟩: ∃o:Nat,(L[k]).iC=o:=⟨(L[k]).iC.toNat,ab⟩;obtain⟨m,O⟩: ∃m:Nat,BJ (cn.mk b L) k n=m:=⟨(BJ (cn.mk b L) k n).toNat,by unfold BJ;rw[i,s];split<;>omega⟩;have C:=O;unfold BJ at C;rw[i,s,p]at C;have A:=(K.each j w).2;simp only at A;have e:oJ (cn.mk b L) k n=(⟨b,L.set k ⟨(L[k]).iE,(o:Int)+m,false⟩⟩,((b[j]).drop o).take m,true):=by
    unfold oJ;rw[if_pos ⟨g,T,by rw[i];exact d⟩,O,i,s,p,d];simp
   rw[e];have F:(o:Int)<=(b[j]).length:=ab
   have Q:o<=(b[j]).length:=ab
   have Z:=z_ (((b[j]).length:Int)-o);obtain⟨q,S⟩: ∃q:Nat,o+m=q:=⟨_,rfl⟩;have D:(o:Int)+m=q:=ab
   have v:(q:Int)<=(b[j]).length:=by split at C<;>omega
   have E:q<=(b[j]).length:=ab
   have R:=z_ q;have H:o<=q:=ab
   have t:q-o=m:=ab
   have U:((b[j]).length:Int)<=1000000000:=ab
   have N:(if((b[j]).length:Int)-o<n then((b[j]).length:Int)-o else n)=m:=C;simp[r,l,u,g,G,y,J,d,w,z,B,p,Z,D,R,v,N,H,t,zz];refine⟨fun x hx=> ?_,fun _=>⟨⟨ab,ab⟩,fun _ _=>⟨?_,?_⟩⟩⟩
   .exact ka
   .rw[show(L[k].e.put 1 (V.int .i64 q))=fR.e ⟨(L[k]).iE,q,(L[k]).write⟩ from rfl,<-List.map_set (f:=fR.e),bQ ai,xq,sB,B,d]
   .rw[bQ ai,<-List.map_drop,<-List.map_take,SQ]
def CpI(f:cn)(k k1 r c i:Nat)(S:St):Prop:= ∃v,(S.f 1= .ptr k 0 0/\S.f 2= .ptr k1 0 0/\S.f 3= .ptr c 0 0/\S.f 11= .sl false (f.ap.map bZ)/\S.f 12= .int .i64 (f.ap.length:Int)/\S.f 13= .int .i64 (i:Int))/\
 (S.h k=some ⟨2,[vm f],true⟩/\S.h k1=some ⟨2,[.agg [.sl true [],.sl true []]],true⟩/\S.h c=some ⟨2,[.agg [v,.cX r 0 f.iV.length]],true⟩/\S.h r=some ⟨3,f.iV.map fR.e,false⟩)/\
 oV (k+12) S.n (f.ap.take i) v S.h/\k+12<=S.n
@[simp]def ZW(P:List (List fd))(L:List fR)(k:Nat)(hl:P.length<=4)(hx: ∀i (h:i<P.length),(P[i]).length<=1000000000)(ho:L.length<=1000000000): ∃v h' k',df X 205 [sd P L] mg k=some (v,h',k')/\ ∃D,v= .agg [D,.cX (k+4) 0 L.length]/\h' (k+4)=some ⟨3,L.map fR.e,false⟩/\oV (k+12) k' P D h'/\k+12<=k':=by
 refine ip ?_;simp[X6];refine⟨⟨ab,ab⟩,fun _ _=> ?_⟩;obtain⟨k1,h2⟩:=x_ (k+1);obtain⟨u,m⟩:=x_ (k+4);obtain⟨H,F⟩:=x_ (k+6);refine nG (fun i S=>CpI (cn.mk P L) k k1 u H i S) P.length ?_ 0 ab ?_
 .rintro i S hi ⟨D,⟨Y,w,E,N,f,o⟩,⟨h0,h1,s,d⟩,q,hk⟩;simp only at h0 N f q s d;by_cases V:i<P.length
  case neg=>
   have z: ¬(i:Int)<P.length:=ab
   have hj:i=P.length:=ab
   subst hj;rw[un]at q;have B: ¬H=k1:=ab
   have J: ¬u=k1:=ab
   have hn:D.fits 1=true/\D.cells=[D]:=by
    rcases q with⟨_,rfl⟩|⟨_,R,_,rfl,_⟩<;>exact⟨rfl,rfl⟩
   rcases q with⟨e,rfl⟩|⟨e,R,ids,rfl,U,aq,p,A⟩
   .simp[X6,w,E,f,o,h1,s,z];refine⟨.sl true [],by simp[m],by rw[m];simp[J,d],.inl ⟨e,rfl⟩,ab⟩
   .simp[X6,w,E,f,o,h1,s,z];refine⟨.cX R 0 P.length,by simp[m],by rw[m];simp[J,d],.inr ⟨e,R,ids,rfl,?_,ab,fun j g=> ?_,A⟩,ab⟩
    .rw[bB,if_neg ab];exact U
    .obtain⟨a1,a2,a3,a4⟩:=p j g;exact⟨by rw[bB,if_neg ab];exact a1,a2,ab,a4⟩
  have z:(i:Int)<P.length:=ab
  have W:=z_ ((i:Int)+1);have I:=hx i V;obtain⟨x,Q⟩:=x_ P[i];rw[Q]at I;have y:=kJ (a:=P) V;rw[Q]at y;have nr:(P.take i).length=i:=List.length_take_of_le ab;obtain⟨r,he⟩:=x_ (P.take i);rw[he]at q y nr;have K: ∀j,¬k=S.n+j:=fun j=>ab
  have B: ∀j,¬k1=S.n+j:=fun j=>ab
  have T: ∀j,¬u=S.n+j:=fun j=>ab
  have G: ∀j,¬H=S.n+j:=fun j=>ab
  have an: ∀j,¬S.n+j=H:=fun j=>ab
  have e: ¬k=H:=ab
  have e1: ¬k1=H:=ab
  have Z: ¬u=H:=ab
  rcases q with⟨M,rfl⟩|⟨M,R,ids,rfl,U,aq,p,A⟩
  .simp[X6,E,N,f,o,s,V,z,W,Q,sk,G];have t: ∀j,¬S.n+j=H:=fun j=>ab
   refine⟨⟨ab,ab⟩,fun _ _=>⟨⟨ab,ab⟩,.cX (S.n+9) 0 1,⟨dS,by simp[bB,w],by simp[bB,E],by simp[bB,N],eG,al⟩,⟨by simp[bB,K,e,h0],by simp[bB,B,e1,h1],al,by simp[bB,T,Z,d]⟩,?_,aB⟩⟩;rw[y,M];exact oV.UU (id:=S.n+7) (R:=S.n+9) (by simp[bB,t]) (by simp[bB,t]) aB
  .have aw: ∀j,¬R=S.n+j:=fun j=>ab
   have O: ¬H=R:=ab
   have hb:=rS ids r;have hc:(ki ids r).take r.length=ki ids r:=bQ ab;simp[X6,E,N,f,o,s,V,z,W,Q,sk,G,U,aw,O,hb,hc];have t: ∀j,¬S.n+j=H:=fun j=>ab
   have C: ∀j,¬S.n+j=R:=fun j=>ab
   have hr: ¬k=R:=ab
   have q1: ¬k1=R:=ab
   have au: ¬u=R:=ab
   refine⟨⟨ab,ab⟩,fun _ _=>⟨⟨ab,ab⟩,fun _ _=>⟨⟨ab,ab⟩,.cX (S.n+9) 0 (r.length+1),⟨dS,by simp[bB,w],by simp[bB,E],by simp[bB,N],eG,al⟩,⟨by simp[bB,K,e,hr,h0],by simp[bB,B,e1,q1,h1],al,by simp[bB,T,Z,au,d]⟩,?_,aB⟩⟩⟩;rw[y];refine oV.snoc (n:=S.n) (id:=S.n+7) (R:=R) (R':=S.n+9) (h:=S.h) (ids:=ids) p A (by simp[bB,t]) (by simp[bB,t,C]) (fun l a b c=> ?_) aB;have w1: ∀j,¬l=S.n+j:=fun j=>ab
   have w2: ¬l=H:=ab
   simp[bB,w1,w2,c]
 .simp;refine⟨.sl true [],⟨al,by simp[bB,<-h2],by simp[bB,<-F],al,al,al⟩,⟨al,by simp[bB,<-h2],by simp[bB,<-F,<-m],by simp[bB,<-m]⟩,.inl ⟨ai,rfl⟩,aB⟩
def wq(ids:Nat->Nat)(n:Nat)(h hx:bI):Prop:= ∀m,m<n->hx (ids m)=h (ids m)
def XZ(ids:Nat->Nat)(n x:Nat):Prop:= ∀m,m<n->ids m≠x
def ZU(ids:Nat->Nat)(n:Nat)(h:bI):wq ids n h h:=fun _ _=>rfl
def Gh(x:Nat)(v:Option Ob)(o:XZ ids n x)(H:wq ids n h hx):wq ids n h (bB hx x v):=fun m O=>by
 rw[bB,if_neg (o m O)];exact H m O
def Fv(ids:Nat->Nat)(n c:Nat):Prop:= ∀m,m<n->c<=ids m
def Tl(c:Nat)(o:Fv ids n c):wq ids n h (fun id=>if id<c then h' id else h id):=fun m O=>by
 have:=o m O;simp only;rw[if_neg ab]
def Di(r: ∀i (g:i<rs.length),h (ids i)=some ⟨4,(rs[i]).map fd.e,false⟩)(a:wq ids rs.length h hx):di (List.take rs.length (List.map (da hx 9) (ki ids rs)))=some (rs.map bZ):=by
 have t:List.take rs.length (List.map (da hx 9) (ki ids rs))=List.map (da hx 9) (ki ids rs):=bQ (by simp[rS]);rw[t];unfold ki;refine mq _ _ fun i j=> ?_;have e:hx (ids i)=some ⟨4,(rs[i]).map fd.e,false⟩:=by rw[a i j,r i j]
 simp[da,e,bZ]
def A7(l:List (List fd)):ft (l.map bZ)=l.map bZ:=tC (fun x=>by unfold bZ;simp[V.l6]) l
def Tm(x:List fd)(D:Nat):(ki ids rs).set j (.cX D 0 x.length)=ki (bB ids j D) (rs.set j x):=by
 apply tl;intro i;simp only[ki,vX,t3,DC];by_cases e:j=i
 .subst e;by_cases h:j<rs.length
  .simp[h,bB]
  .simp[h]
 .simp only[e,if_false];congr 1;funext y;simp[bB,ls e]
def E8(d l:List fd)(o:Nat):lO d l o 0=d:=by simp[lO]
def X0(f:o<=d.length)(j:i<l.length)(h:o+i<(lO d l o i).length):(lO d l o i).set (o+i) l[i]=lO d l o (i+1):=by
 rw[yM f ab]at h;have K:o+i<d.length:=by split at h<;>omega
 unfold lO;have e:(d.take o++l.take i).length=o+i:=aA
 rw[DW (o+i) _ ab,e,xv,kJ j,w6 K,z4];simp only[vD,zP,zD,X6]
def X2(e:o<=d.length)(j:i<l.length)(h: ¬o+i<(lO d l o i).length):lO d l o i++ [l[i]]=lO d l o (i+1):=by
 rw[yM e ab]at h;have K:d.length<=o+i:=by split at h<;>omega
 unfold lO;rw[List.drop_eq_nil_of_le K,List.drop_eq_nil_of_le ab,kJ j];simp
def WrI(d l:List fd)(f:List fR)(rs:List (List fd))(ids:Nat->Nat)(h0:bI)(P j k o n R i:Nat)(S:St):Prop:= ∃D,
 (S.f 2= .sl false (l.map fd.e)/\S.f 6= .ptr 1 0 0/\S.f 9= .ptr 6 0 0/\S.f 10= .ptr 12 k 0/\S.f 11= .int .i64 (n:Int)/\S.f 12= .cX D 0 (lO d l o i).length/\S.f 57= .int .i64 (n:Int)/\S.f 58= .int .i64 (i:Int))/\
 (S.h 1=some ⟨2,[.agg [.sl true [],.sl true []]],true⟩/\S.h 6=some ⟨2,[.agg [.cX R 0 rs.length,.cX 12 0 f.length]],true⟩/\S.h 12=some ⟨3,f.map fR.e,false⟩/\S.h R=some ⟨1,ki ids rs,true⟩/\S.h D=some ⟨4,(lO d l o i).map fd.e,false⟩)/\
 (∀m,m<rs.length->m≠j->S.h (ids m)=h0 (ids m))/\(D=ids j\/P<=D)/\D<S.n/\P<=S.n
@[simp]def ajo(b:List (List fd))(L:List fR)(h:Int)(l:List fd)(hf:jT (cn.mk b L))(kz:l.length<=1000000000):cG X 280 [sd b L,.int .i64 h,.sl false (l.map fd.e)]=some (.ed [vm ((nZ (cn.mk b L) h l).1),.int .i64 ((nZ (cn.mk b L) h l).2.1),.bool ((nZ (cn.mk b L) h l).2.2)]):=by
 have hl:=hf.lens;have l1:b.length<=4:=hl.ap;have l2:=hl.each;have he:L.length<=1000000000:=hl.iV;simp only at l2;obtain⟨c4,h0,cI,hc,hE,rfl,p,ay,bs⟩:=ZW b L 8 l1 l2 he;simp only[Nat.reduceAdd]at hc p ay bs;refine ij ?_;have t':hE.fits 1=true:=by rcases ay with⟨_,rfl⟩|⟨_,R,_,rfl,_⟩<;>rfl
 cases t:uH (cn.mk b L) h with
 |false=>
  have e:nZ (cn.mk b L) h l=((cn.mk b L),0,false):=by unfold nZ;rw[if_neg (fun h=>by rw[t]at h;cases h.1)]
  rw[e];rcases ay with⟨aq,rfl⟩|⟨aq,R,ids,rfl,r1,h5,r,h4⟩
  .simp(maxSteps:=10000000)(maxDischargeDepth:=30)[l1,he,kz,t,hc,p];exact aq
  .have n1: ¬R=1:=ab
   have h2: ¬R=6:=ab
   have h1: ¬R<8:=ab
   have Z:=rS ids b;have J: ∀H,wq ids b.length h0 H->_:=fun H an=>Di (fun i g=>(r i g).1) an;have a8:Fv ids b.length 8:=fun m g=>ck
   have ae:XZ ids b.length 1:=fun m g=>ck
   have hg:XZ ids b.length 6:=fun m g=>ck
   simp(maxSteps:=10000000)(maxDischargeDepth:=30)[l1,l2,he,kz,t,hc,p,r1,n1,h2,h1,Z,J,Gh,Tl,a8,ae,hg,A7]
 |true=>
  obtain⟨k,rfl,B,j,s,e1,e2,e3,e4,ah⟩:=rQ hf t;simp only at B s e1 e2 e3 e4 ah;have ha:(k:Int)<L.length:=ab
  have aw:(j:Int)<b.length:=ab
  rcases ay with⟨aq,rfl⟩|⟨aq,R,ids,rfl,r1,h5,r,h4⟩
  .rw[aq]at s;simp at s
  have n1: ¬R=1:=ab
  have h2: ¬R=6:=ab
  have h1: ¬R<8:=ab
  have Z:=rS ids b;have J: ∀H,wq ids b.length h0 H->_:=fun H an=>Di (fun i g=>(r i g).1) an;have a8:Fv ids b.length 8:=fun m g=>ck
  have ae:XZ ids b.length 1:=fun m g=>ck
  have hg:XZ ids b.length 6:=fun m g=>ck
  by_cases c2:(L[k]).write=true
  case neg=>
   have e:nZ (cn.mk b L) k l=((cn.mk b L),0,false):=by unfold nZ;rw[if_neg (fun h=>c2 (by have:=h.2.1;rw[e1]at this;exact this))]
   have bW:(L[k]).write=false:=by simpa using c2
   rw[e];simp(maxSteps:=10000000)(maxDischargeDepth:=30)[l1,l2,he,kz,t,hc,p,r1,n1,h2,h1,Z,J,Gh,Tl,a8,ae,hg,A7,B,ha,bW]
  by_cases c3:iH l=true
  case neg=>
   have e:nZ (cn.mk b L) k l=((cn.mk b L),0,false):=by unfold nZ;rw[if_neg (fun h=>c3 h.2.2)]
   rw[e];simp(maxSteps:=10000000)(maxDischargeDepth:=30)[l1,l2,he,kz,t,hc,p,r1,n1,h2,h1,Z,J,Gh,Tl,a8,ae,hg,A7,B,ha,c2,c3]
  obtain⟨⟨cD,off,wr⟩,E⟩: ∃x,L[k]=x:=⟨_,rfl⟩;rw[E]at e1 e3 e4 ah c2;simp only at e3 e4 ah c2;subst e3 c2;have aa:=(hf.each j s).2;simp only at aa;obtain⟨o,rfl⟩:=jp e4;obtain⟨T,dz⟩:=x_ b[j];rw[dz]at e2 ah aa;have cg:=z_ (64-(o:Int));obtain⟨n,hn⟩: ∃n:Nat,(if 64-(o:Int)<(l.length:Int) then 64-(o:Int) else l.length)=(n:Int):=by
   split
   .exact⟨(64-(o:Int)).toNat,ab⟩
   .exact⟨l.length,rfl⟩
  have ih:n<=l.length/\o+n<=64:=by split at hn<;>omega
  have kg:sE (cn.mk b L) k l=n:=by unfold sE;rw[e1];exact hn
  have e:nZ (cn.mk b L) k l=(⟨b.set j (lO T l o n),L.set k ⟨(j:Int),(o:Int)+n,true⟩⟩,(n:Int),true):=by
   unfold nZ;rw[if_pos ⟨t,by rw[e1],c3⟩,kg,e1,e2];rfl
  obtain⟨hS,hb⟩:=x_ (b.set j (lO T l o n));obtain⟨G,Y⟩:=x_ (L.set k ⟨(j:Int),(o:Int)+n,true⟩);rw[hb,Y]at e;rw[e];have hR: ∀h',(ki ids b)[j]= .cX (ids j) 0 T.length:=fun h'=>by rw[<-dz];simp[ki]
  have hT:h0 (ids j)=some ⟨4,T.map fd.e,false⟩:=by rw[<-dz];exact(r j s).1
  have gX: ¬ids j<8:=by have:=r j s;omega
  have q1: ¬ids j=1:=ab
  have b': ¬ids j=6:=ab
  simp(maxSteps:=10000000)(maxDischargeDepth:=30)[l1,l2,he,kz,t,hc,p,r1,n1,h2,h1,Z,B,ha,E,c3,s,aw,cg,hn,hR,hT,gX,q1,b'];refine nG (fun i S=>WrI T l L b ids h0 cI j k o n R i S) n ?_ 0 ab ?_
  .rintro i S hi ⟨D,⟨f2,mm,hs,F,Q,W,v,I⟩,⟨g1,hv,z,h3,ht⟩,g3,bE,g4,n4⟩;have kK:=r j s;have bV: ¬D=1:=ab
   have fG: ¬D=6:=ab
   have K: ¬D=12:=ab
   have fv: ¬D=R:=ab
   obtain⟨y,hy⟩:=x_ (lO T l o i);have hr:=yM (d:=T) (l:=l) (o:=o) (n:=i) ab ab;rw[hy]at W ht hr;have jz:y.length<=64:=by split at hr<;>omega
   by_cases iS:i<n
   .have cz:(i:Int)<n:=ab
    have n0:i<l.length:=ab
    have iO:=o7 i ab;obtain⟨q,hq⟩:=x_ (o+i);obtain⟨q,hq⟩:=x_ (o+i);have bU:IntKind.i64.wrap ((o:Int)+(i:Int))=(q:Int):=g7
    have m1: ¬1=D:=ab
    have dF: ¬6=D:=ab
    have au: ¬12=D:=ab
    have hA: ¬R=D:=ab
    by_cases hp:q<y.length
    .have A:(q:Int)<(y.length:Int):=ab
     have C: ¬(y.length:Int)<=(q:Int):=ab
     simp(maxSteps:=10000000)(maxDischargeDepth:=30)[f2,mm,hs,F,Q,W,v,I,g1,hv,z,h3,ht,bV,fG,K,fv,iS,cz,n0,iO,bU,B,E,hp,A,C];have cC: ∀(a c:fd),(y.map fd.e).set q (a.e.put 0 ((AD c:V)))=(y.set q c).map fd.e:=fun a c=>by rw[sB];rfl
     have J:=X0 (d:=T) (l:=l) (o:=o) (i:=i) ab n0 (by rw[hy,hq];exact hp);rw[hy,hq]at J;refine⟨D,⟨eg,by simp[bB,mm],by simp[bB,hs],by simp[bB,F],by simp[bB,Q],by simp[bB,W,<-J],by simp[bB,v],al⟩,⟨by simp[bB,m1,g1],by simp[bB,dF,hv],by simp[bB,au,z],by simp[bB,hA,h3],?_⟩,fun m P u=> ?_,bE,aB,aB⟩
     .simp only[bB,if_true,cC,J]
     .have c1:=r m P;have h8:=h4 m j P s;have w: ¬ids m=D:=ab
      simp only[bB,w,if_false];exact g3 m P u
    .have A: ¬(q:Int)<(y.length:Int):=ab
     have C:(y.length:Int)<=(q:Int):=ab
     have S':(y.length+1)*24<=140737488355328/\y.length<=4611686018427387903:=ab
     simp(maxSteps:=10000000)(maxDischargeDepth:=30)[f2,mm,hs,F,Q,W,v,I,g1,hv,z,h3,ht,bV,fG,K,fv,iS,cz,n0,iO,bU,B,E,hp,A,C,S'];have J:=X2 (d:=T) (l:=l) (o:=o) (i:=i) ab n0 (by rw[hy,hq];exact hp);rw[hy]at J;obtain⟨N,hC⟩:=x_ (S.n+1+2+9+6);rw[hC];have cm: ¬1=N/\ ¬6=N/\ ¬12=N/\ ¬R=N:=ab
     obtain⟨hh,bp,bT,dN⟩:=cm;refine⟨N,⟨eg,by simp[bB,mm],by simp[bB,hs],by simp[bB,F],by simp[bB,Q],by simp[bB,<-J],by simp[bB,v],al⟩,⟨by simp[bB,m1,hh,g1],by simp[bB,dF,bp,hv],by simp[bB,au,bT,z],by simp[bB,hA,dN,h3],?_⟩,fun m P u=> ?_,.inr ab,aB,aB⟩
     .simp only[bB,if_true,<-J,t2];rfl
     .have c1:=r m P;have h8:=h4 m j P s;have w: ¬ids m=D:=ab
      have w2: ¬ids m=N:=ab
      simp only[bB,w,w2,if_false];exact g3 m P u
   .have cz: ¬(i:Int)<n:=ab
    have hI:i=n:=ab
    subst hI;rw[hy]at hb;have g2: ¬R=1/\ ¬R=6/\ ¬R=12:=ab
    obtain⟨g2,kk,hB⟩:=g2;have hd: ¬1=R/\ ¬6=R/\ ¬12=R:=ab
    obtain⟨hd,aJ,HG⟩:=hd;have U:=Tm (ids:=ids) (rs:=b) (j:=j) y D;have ak:(L.map fR.e).set k ((fR.e ⟨(j:Int),(o:Int),true⟩).put 1 (.int .i64 ((o:Int)+(i:Int))))=(L.set k ⟨(j:Int),(o:Int)+(i:Int),true⟩).map fR.e:=by rw[sB];rfl
    have ts: ∀a (g:a<(b.set j y).length),S.h (bB ids j D a)=some ⟨4,((b.set j y)[a]).map fd.e,false⟩:=fun a g=>by
     by_cases e:a=j
     .subst e;simp[bB,ht]
     .have m': ¬j=a:=fun h=>e h.symm;have ff:a<b.length:=by simpa using g
      simp only[bB,e,if_false,vI m'];rw[g3 a ff e];exact(r a ff).1
    have O: ∀x,x≠D->(x<20\/x=R)->XZ (bB ids j D) b.length x:=fun x hx a' m P=>by
     have c1:=r m P;by_cases e:m=j
     .subst e;simp[bB];omega
     .simp only[bB,e,if_false];omega
    have aH:=O 1 ab ab;have bc:=O 6 ab ab;have cQ:=O 12 ab ab;have ba:=O R ab (.inr rfl);obtain⟨gK,cu⟩:=x_ (bB ids j D);have M:hS.length=b.length:=by rw[<-hb];simp
    have hz:G.length=L.length:=by rw[<-Y];simp
    rw[cu]at U ts aH bc cQ ba;rw[hb]at U;simp only[hb]at ts;rw[Y]at ak;have J: ∀H,wq gK b.length S.h H->_:=fun H an=>Di ts (by rw[M];exact an);rw[M]at J;have bS: ∀(f:fR->V),List.take L.length (G.map f)=G.map f:=fun f=>bQ aA;have hL:=rS gK hS;have dM:=z_ ((o:Int)+(i:Int));simp(maxSteps:=10000000)(maxDischargeDepth:=30)[f2,mm,hs,F,Q,W,v,I,g1,hv,z,h3,ht,bV,fG,K,fv,iS,cz,B,E,s,aw,Z,hR,g2,kk,hB,hd,aJ,HG,U,ak,dM,hL,M,hz,bS,J,Gh,ZU,aH,bc,cQ,ba,A7]
  .simp(maxSteps:=10000000)(maxDischargeDepth:=30)[];refine⟨ids j,⟨al,al,al,al,al,by simp[bB,E8],al,al⟩,⟨al,al,?_,?_,?_⟩,fun m P _=> ?_,.inl rfl,by simp only;have:=r j s;omega,aB⟩
   .simp[bB,p]
   .simp[bB,h2,h1,r1]
   .simp[bB,b',gX,hT,E8]
   .have c1:=r m P;have w1: ¬ids m=6:=ab
    have w2: ¬ids m<8:=ab
    simp[bB,w1,w2]
def ZJ{l:List fR}(h:i<E4 l)(h':i<l.length): ¬(l[i]).iE= -1:=by
 have:=List.not_of_lt_findIdx (p:=fun o:fR=>decide (o.iE= -1)) h;exact ns
def X4{l:List fR}(h:E4 l<l.length):(l[E4 l]).iE= -1:=by
 have:=List.findIdx_getElem (p:=fun o:fR=>decide (o.iE= -1)) (w:=h);exact of_decide_eq_true this
def mO(l:List fR)(iE:Int)(i:Nat):List fR:=(l.take i).map (Ah iE)++l.drop i
def PJ(l:List fR)(iE:Int):mO l iE 0=l:=by simp[mO]
def Cj(l:List fR)(iE:Int)(i:Nat):(mO l iE i).length=l.length:=by simp[mO];omega
def KZ{l:List fR}(h:i<l.length)(h':i<(mO l iE i).length):(mO l iE i)[i]=l[i]:=by
 have e:(mO l iE i)[i]?=some l[i]:=by
  unfold mO;exact p3
 rw[rk h']at e;exact BZ e
def Ir{l:List fR}(h:i<l.length):(mO l iE i).set i (Ah iE l[i])=mO l iE (i+1):=by
 unfold mO;have e:((l.take i).map (Ah iE)).length=i:=aA
 rw[DW _ _ ab,e,xv,drop_cons h,z4,kJ h,t2];simp
def PK{l:List fR}(h:i<l.length)(n: ¬(l[i]).iE=iE):mO l iE (i+1)=mO l iE i:=by
 rw[<-Ir h,show Ah iE l[i]=l[i] from if_neg n];have h':i<(mO l iE i).length:=by rw[Cj];exact h
 rw[<-KZ (iE:=iE) h h',xK]
def Tn(l:List fR)(iE:Int):mO l iE l.length=l.map (Ah iE):=by simp[mO]
def ZI(x:List fd)(n:Nat)(v:V):(bZ x).put n v=v:=rfl
@[simp]def am6(P:List (List fd))(L:List fR)(iE m:Int)(Y:jT (cn.mk P L)):cG X 282 [sd P L,.int .i64 iE,.int .i64 m]=some (.ed [vm ((pH (cn.mk P L) iE m).1),.int .i64 ((pH (cn.mk P L) iE m).2)]):=by
 refine ij ?_;have I:=Y.lens;have l1:P.length<=4:=I.ap;have G:=I.each;have k:L.length=8:=Y.iV;have hb:L.length<=1000000000:=I.iV;simp only at G;have aw:=PA L;have U:ft (List.take L.length (L.map fR.e))=L.map fR.e:=by rw[bQ ai,xq]
 have t:ft (List.take 8 (L.map fR.e))=L.map fR.e:=by rw[k]at U;exact U
 obtain⟨M,K⟩:=x_ (E4 L);simp[l1,G,hb];refine dO (fun i S=>(S.f 1= .int .i64 iE/\S.f 2= .int .i64 m/\S.f 3= .ptr 3 0 0/\S.h 3=some ⟨2,[sd P L],true⟩/\S.f 6= .ptr 6 0 0/\S.h 6=some ⟨2,[sd ([]:List (List fd)) ([]:List fR)],true⟩/\S.f 8= .ptr 8 0 0/\S.h 1000=some ⟨1,((cn.mk P L)).ap.map bZ,false⟩/\S.h 1001=some ⟨3,((cn.mk P L)).iV.map fR.e,false⟩/\S.h 8=some ⟨2,[.agg [.cX 1000 0 (((cn.mk P L)).ap.map bZ).length,.cX 1001 0 (((cn.mk P L)).iV.map fR.e).length]],true⟩/\S.f 9= .int .i64 ((i:Int))/\S.n=1102)/\True) (M) ab ?_ ?_ ?_
 .rintro i S ⟨he,O,E⟩ ⟨d,fG⟩;have v:i<L.length:=ab
  have g:(i:Int)<L.length:=ab
  have D:=ZJ (l:=L) (i:=i) ab v;simp[d,O,E,v,g,D]
 .rintro S ⟨d,fG⟩;by_cases v:M<L.length
  case neg=>
   have hr:M=8:=ab
   subst hr;have e:pH (cn.mk P L) iE m=((cn.mk P L), -1):=by unfold pH;rw[if_pos (.inr (.inr (.inr (.inr (by simp only;rw[K,k])))))]
   rw[e];by_cases T:iE<0
   .simp[d,k,t,T]
   by_cases n:(P.length:Int)<=iE
   .simp[d,k,t,T,n]
   by_cases o:m<0
   .simp[d,k,t,T,n,o]
   by_cases r:2<m
   .simp[d,k,t,T,n,o,r]
   simp[d,k,t,T,n,o,r]
  have g:(M:Int)<L.length:=ab
  have D:(L[M]).iE= -1:=by have:=X4 (l:=L) ab;simpa only[K] using this
  have g3: ¬(M:Int)=L.length:=ab
  have no: ∀(h:iE<0\/(P.length:Int)<=iE\/m<0\/2<m),pH (cn.mk P L) iE m=((cn.mk P L), -1):=fun h=>by
   unfold pH;rw[if_pos (by rcases h with h|h|h|h;exact .inl h;exact .inr (.inl h);exact .inr (.inr (.inl h));exact .inr (.inr (.inr (.inl h))))]
  by_cases T:iE<0
  .rw[no (.inl T)];simp[d,v,g,D,T]
  by_cases n:(P.length:Int)<=iE
  .rw[no (.inr (.inl n))];simp[d,v,g,D,T,n]
  by_cases o:m<0
  .rw[no (.inr (.inr (.inl o)))];simp[d,v,g,D,T,n,o]
  by_cases r:2<m
  .rw[no (.inr (.inr (.inr r)))];simp[d,v,g,D,T,n,o,r]
  obtain⟨j,rfl⟩:=jp (show 0<=iE from ab);have w:j<P.length:=ab
  have A:(j:Int)<P.length:=ab
  have au:=G j w;have J:P.getD (j:Int).toNat []=P[j]:=by simp[List.getD,w]
  have key:pH (cn.mk P L) j m=((⟨(xH (cn.mk P L) j m).ap,(xH (cn.mk P L) j m).iV.set M (⟨j,if m=2 then((P[j]).length:Int) else 0,decide (0<m)⟩:fR)⟩:cn),(M:Int)):=by
   unfold pH;rw[if_neg (by simp only;rw[K];omega),K];simp only[J]
  have u: ∀(x:fR) (a b:Int) (c:Bool),(fR.e x).put 0 (V.agg [.int .i64 a,.int .i64 b,.bool c])=fR.e ⟨a,b,c⟩:=fun _ _ _ _=>rfl;have Z: ∀(x:fR) (b:Int),(fR.e x).put 1 (V.int .i64 b)=fR.e ⟨x.iE,b,x.write⟩:=fun _ _=>rfl;have W: ∀(y:fR),ft (List.take L.length ((L.map fR.e).set M (fR.e y)))=(L.map fR.e).set M (fR.e y):=fun y=>by
   rw[bQ ai,<-List.map_set (f:=fR.e),xq]
  have aq:m=0\/m=1\/m=2:=ab
  rcases aq with rfl|rfl|rfl
  .have e:pH (cn.mk P L) j 0=((⟨P,L.set M (⟨j,0,false⟩:fR)⟩:cn),(M:Int)):=by rw[key];rfl
   rw[e];simp[d,v,g,D,g3,T,n,u,W]
  .have e:pH (cn.mk P L) j 1=((⟨P.set j [],(L.map (Ah j)).set M (⟨j,0,true⟩:fR)⟩:cn),(M:Int)):=by rw[key];rfl
   obtain⟨C,z⟩:=x_ (L.map (Ah j));have p:C.length=8:=by rw[<-z];simp[k]
   rw[e,z];have h1:M<8:=ab
   have B:(M:Int)<8:=ab
   have N: ¬(M:Int)=8:=ab
   simp[d,k,D,h1,B,N,T,n,w,A,ZI];refine dO (fun i S=>(S.f 1= .int .i64 ((j:Int))/\S.f 2= .int .i64 ((1:Int))/\S.f 6= .ptr 6 0 0/\S.h 6=some ⟨2,[sd ([]:List (List fd)) ([]:List fR)],true⟩/\S.f 8= .ptr 8 0 0/\S.h 1000=some ⟨1,(⟨P.set j [],mO L j i⟩:cn).ap.map bZ,false⟩/\S.h 1001=some ⟨3,(⟨P.set j [],mO L j i⟩:cn).iV.map fR.e,false⟩/\S.h 8=some ⟨2,[.agg [.cX 1000 0 ((⟨P.set j [],mO L j i⟩:cn).ap.map bZ).length,.cX 1001 0 ((⟨P.set j [],mO L j i⟩:cn).iV.map fR.e).length]],true⟩/\S.f 9= .int .i64 ((M:Int))/\S.f 62= .int .i64 ((8:Int))/\S.f 63=(i:Int)/\S.n=1102)/\True) (8) ab ?_ ?_ ?_
   .rintro i S ⟨he,O,E⟩ ⟨H,hi⟩;have i1:i<L.length:=ab
    have hx:(i:Int)<8:=ab
    have F:=Cj L j i;rw[k]at F;have i2:i<(mO L j i).length:=ab
    have R:=KZ (iE:=(j:Int)) i1 i2;by_cases q:(L[i]).iE=(j:Int)
    .have s:=Ir (iE:=(j:Int)) i1;rw[show Ah (j:Int) L[i]=⟨(L[i]).iE,0,(L[i]).write⟩ from if_pos q]at s;have hc:=eq_true q;simp[H,O,E,F,hx,R,hc,Z];exact⟨by rw[<-s,sB],by rw[Cj,k]⟩
    .have s:=PK (iE:=(j:Int)) i1 q;simp[H,O,E,F,hx,R,q,s]
   .rintro S ⟨H,hi⟩;have h2:mO L j 8=L.map (Ah j):=by rw[<-Tn,k]
    rw[h2,z]at H;have fz:M<C.length:=ab
    have Q: ∀(y:fR),ft (List.take 8 ((C.map fR.e).set M (fR.e y)))=(C.map fR.e).set M (fR.e y):=fun y=>by
     rw[bQ (by simp[p]),<-List.map_set (f:=fR.e),xq]
    simp[H,p,h1,B,u,Q];rw[bQ ai,<-List.map_set (f:=bZ),OP]
   .simp[d]<;>(
     simp[PJ,sk])
  .have e:pH (cn.mk P L) j 2=((⟨P,L.set M (⟨j,(P[j]).length,true⟩:fR)⟩:cn),(M:Int)):=by rw[key];rfl
   rw[e];simp[d,v,g,D,g3,T,n,w,A,u,Z,W]
 .simp<;>(
   trivial)
@[simp]def ayz(s:List gc)(m:s.length<=1000000000)(hx: ∀i (h:i<s.length),(s[i]).bK.length<=1000000000):cG X 219 [s,.fn 148 [] []]=some (.int .i64 (BE oP s)):=by
 refine ij ?_;simp;refine dO (fun i S=>(S.f 0=s/\S.f 1= .fn 148 [] []/\S.f 7=((s).length:Int)/\S.f 8=(i:Int)/\S.n=1100)/\(nX (s.take i)=true)) (s.length) ab ?_ ?_ ?_
 .rintro i S ⟨q,O,c⟩ ⟨d,f⟩;have g:=hx i c;have u:=EX c;rw[f]at u;cases h:oP s[i] with
  |false=>
   have e:=C2 c f h;simp[d,c,g,h,e]
  |true=>
   rw[h]at u;simp[d,O,c,g,h,u]
 .rintro S ⟨d,f⟩;simp[d]<;>(
   rw[C5]at f;exact(AR f).symm)
 .simp<;>(
   rfl)
@[simp]def ay0(s:List gc)(m:s.length<=1000000000)(hx: ∀i (h:i<s.length),(s[i]).bK.length<=1000000000):cG X 147 [s,.fn 148 [] []]=some (.bool (!nX s)):=by
 refine ij ?_;simp[m,hx,AQ,nX]
@[simp]def anf(u:List hu)(q:List Int)(w:List (List Int))(Z:List Int)(k:Int)(d:List ac)(e:List cP)(a:List gc)(hp:AU (wn u q w))(m:yA (w_ Z k d e a)):cG X 72 [iB u q w,ol Z k d e a]=some (.bool (fO (wn u q w) (w_ Z k d e a))):=by
 refine ij ?_;have B:q.length<=1000000000:=hp.ax;have C:w.length<=1000000000:=hp.ap;have Y:u.length<=1000000000:=hp.hw;have r:Z.length<=1000000000:=m.aK;have f:d.length<=1000000000:=m.cells;have U:e.length<=1000000000:=m.ge;have x: ∀i (h:i<e.length),(e[i]).cells.length<=1000000000:=m.line;have l:a.length<=1000000000:=m.ce;have g: ∀i (h:i<a.length),(a[i]).bK.length<=1000000000:=m.bK;by_cases c:jD (wn u q w)=0
 case neg=>
  simp[B,C,Y,c,fO]
 cases b:jb Z q
 case false=>
  simp[B,C,Y,r,c,b,fO]
 cases j:yx ⟨d,e⟩
 case false=>
  simp[B,C,Y,r,f,U,x,c,b,j,fO]
 by_cases A:(a.length:Int)=4
 case neg=>
  have s: ¬a.length=4:=ab
  simp[B,C,Y,r,f,U,x,c,b,j,A,s,fO]
 have s:a.length=4:=ab
 cases z:nX a
 case false=>
  simp[B,C,Y,r,f,U,x,g,c,b,j,s,z,fO]
 simp[B,C,Y,r,f,U,x,g,c,b,j,s,z,fO]
@[simp]def ay1(s:List fd)(m:s.length<=1000000000):cG X 287 [s,.fn 258 [] []]=some (.int .i64 (BE lZ s)):=by
 refine ij ?_;simp;refine dO (fun i S=>(S.f 0=s/\S.f 1= .fn 258 [] []/\S.f 7=((s).length:Int)/\S.f 8=(i:Int)/\S.n=1100)/\(iH (s.take i)=true)) (s.length) ab ?_ ?_ ?_
 .rintro i S ⟨q,O,c⟩ ⟨d,f⟩;have u:=Pd c;rw[f]at u;cases h:lZ s[i] with
  |false=>
   have e:=C2 c f h;simp[d,c,h,e]
  |true=>
   rw[h]at u;simp[d,O,c,h,u]
 .rintro S ⟨d,f⟩;simp[d]<;>(
   rw[KP]at f;exact(AR f).symm)
 .simp<;>(
   rfl)
@[simp]def ay2(s:List fd)(h:s.length<=1000000000):cG X 257 [s,.fn 258 [] []]=some (.bool (!iH s)):=by
 refine ij ?_;simp[h,AQ,iH]
@[simp]def Zf(l:List fd)(k:Int)(m:l.length<=1000000000):cG X 213 [l,k]=some (.bool (iH l&&decide ((l.length:Int)<=k))):=by
 refine ij ?_;by_cases h:(l.length:Int)<=k
 .cases c:iH l<;>simp[m,h,c]
 .simp[h]
@[simp]def UX(v f t:Int):cG X 212 [v,f,t]=some (.bool (decide (f<=v)&&decide (v<=t))):=by
 refine ij ?_;simp;by_cases h:f<=v<;>simp[h];omega
@[simp]def Zg(W C u g M V:Int)(p S:List fd)(h1:p.length<=1000000000)(h:S.length<=1000000000):cG X 141 [i7 W C u g M V p S]=some (.bool (ko (v_ W C u g M V p S))):=by
 refine ij ?_;have n:(W<4)=(W<=3):=by apply propext;omega
 by_cases c:0<=W
 case neg=>simp[n,c,ko]
 by_cases b:W<=3
 case neg=>simp[n,c,b,ko]
 by_cases j:0<=C
 case neg=>simp[n,c,b,j,ko]
 by_cases r:C<=3
 case neg=>simp[n,c,b,j,r,ko]
 by_cases z:0<=u
 case neg=>simp[n,c,b,j,r,z,ko]
 by_cases H:u<=6
 case neg=>simp[n,c,b,j,r,z,H,ko]
 by_cases P:0<=g
 case neg=>simp[n,c,b,j,r,z,H,P,ko]
 by_cases Y:g<=1099511627776
 case neg=>simp[n,c,b,j,r,z,H,P,Y,ko]
 by_cases f:0<=M
 case neg=>simp[n,c,b,j,r,z,H,P,Y,f,ko]
 by_cases v:M<=255
 case neg=>simp[n,c,b,j,r,z,H,P,Y,f,v,ko]
 by_cases J:0<=V
 case neg=>simp[n,c,b,j,r,z,H,P,Y,f,v,J,ko]
 by_cases B:V<=15
 case neg=>simp[n,c,b,j,r,z,H,P,Y,f,v,J,B,ko]
 cases K:iH p
 case false=>simp[n,c,b,j,r,z,H,P,Y,f,v,J,B,K,h1,ko]
 by_cases e:(p.length:Int)<=3
 case neg=>
  have T: ¬p.length<=3:=ab
  simp[n,c,b,j,r,z,H,P,Y,f,v,J,B,K,e,T,h1,ko]
 have T:p.length<=3:=ab
 cases d:iH S
 case false=>simp[n,c,b,j,r,z,H,P,Y,f,v,J,B,K,e,T,d,h1,h,ko]
 by_cases a:(S.length:Int)<=16
 case neg=>
  have l: ¬S.length<=16:=ab
  exact q9
 have l:S.length<=16:=ab
 exact q9
@[simp]def Cm(s j:List fd)(m:s.length<=1000000000):cG X 184 [s,j]=some (.bool (decide (s=j))):=by
 refine ij ?_;by_cases Z:(s.length:Int)=j.length
 case neg=>
  have n: ¬s=j:=fun e=>Z bC;simp[Z,n]
 have k:s.length=j.length:=ab
 simp[Z];refine dO (fun i S=>(S.f 0=s/\S.f 1=j/\S.f 12=((s).length:Int)/\S.f 13=(i:Int)/\S.n=1100)/\(s.take i=j.take i)) (s.length) ab ?_ ?_ ?_
 .rintro i S ⟨G,O,c⟩ ⟨d,f⟩;have g:i<j.length:=ab
  by_cases q:s[i]=j[i]
  .have:=we c g f q;simp[d,O,c,g,q,this]
  .have: ¬s=j:=fun h=>q dH;simp[d,O,c, -fd.mk.injEq,g,this];intro a1 a2 a3 a4;exact absurd ((fd.eq_iff _ _).2 ⟨a1,a2,a3,a4⟩) q
 .rintro S ⟨d,f⟩;simp[d]<;>(
   exact ub (i:=s.length) ab k f)
 .simp<;>(
   first|rfl|omega|exact⟨ab,rfl⟩)
@[simp]def cr(f z p m H k:Int)(w s:List fd)(g a v o F R:Int)(y u:List fd)(h1:w.length<=1000000000)(K:s.length<=1000000000):cG X 112 [i7 f z p m H k w s,i7 g a v o F R y u]=some (.bool (decide ((io.mk f z p m H k w s)=(io.mk g a v o F R y u)))):=by
 refine ij ?_;have key:((io.mk f z p m H k w s)=(io.mk g a v o F R y u))↔(f=g/\z=a/\p=v/\m=o/\H=F/\k=R/\w=y/\s=u):=ai
 by_cases c:f=g
 case neg=>simp[c]
 by_cases b:z=a
 case neg=>simp[c,b]
 by_cases j:p=v
 case neg=>simp[c,b,j]
 by_cases r:m=o
 case neg=>simp[c,b,j,r]
 by_cases A:H=F
 case neg=>simp[c,b,j,r,A]
 by_cases I:k=R
 case neg=>simp[c,b,j,r,A,I]
 by_cases P:w=y
 case neg=>simp[c,b,j,r,A,I,P,h1]
 have h:y.length<=1000000000:=P▸h1;by_cases Y:s=u
 case neg=>simp[c,b,j,r,A,I,P,Y,h,K]
 have J:u.length<=1000000000:=Y▸K;simp[c,b,j,r,A,I,P,Y,h,J]
@[simp]def Cn(hx:bI)(l:List h_):di (l.map (da hx 12∘h_.e))=some (l.map h_.e):=qQ (fun _=>rfl) l
@[simp]def ZB(b:List hu)(n:List Int)(A:List (List Int))(a:List Int)(E:Int)(h:List ac)(k:List cP)(W:List gc)(c F:List Int)(G:List (List Int))(m:List (List fd))(f:List fR)(C:List i5)(M:List Int)(Y:List (List Int))(d:List h_)(g:List Int)(R:d.length<=1000000)(J:g.length<=1000000):mh X [(0,16,65),(0,17,3)] 136 [t7 b n A a E h k W c F G m f C M Y d g]=some ((xZ ((lV.mk (wn b n A) (w_ a E h k W) (dw.mk c F G (cn.mk m f) C) (cO.mk M Y) d g)):V)):=by
 refine tS ?_;simp;all_goals exact i9
@[simp]def UY(l:List Int)(h:bI)(k:Nat):df X 18 [l] h k=some (.ptr (k+3) 0 0,bB h (k+3) (some ⟨2,[pm l 0],true⟩),k+5):=by
 obtain⟨v,h',n',i,p,x,e⟩:=bJ (X:=X) (g:=18) (args:=[.sl false (l.map (V.int .i64))]) (h:=h) (k:=k) (K:=fun v h' n'=>v= .ptr (k+3) 0 0/\h'=bB h (k+3) (some ⟨2,[pm l 0],true⟩)/\n'=k+5) Tryz.func18 rfl rfl (by
  simp[X6])
 rw[i,p,x,e]
def qZ(ax:List Int)(l:List fd):Bool:=l.all (proper ax)
def pg(ax:List Int)(l:List (List fd)):Bool:=l.all (qZ ax)
def Tp(h:i<l.length):qZ z (l.take (i+1))=(qZ z (l.take i)&&proper z l[i]):=yw h
def Tq(h:i<l.length)(hp:proper z l[i]=false):qZ z l=false:=wO h hp
def PN:qZ z (l.take l.length)=qZ z l:=ek
def PO{l:List (List fd)}(h:i<l.length):pg z (l.take (i+1))=(pg z (l.take i)&&qZ z l[i]):=yw h
def PQ{l:List (List fd)}(h:i<l.length)(hp:qZ z l[i]=false):pg z l=false:=wO h hp
def MA{l:List (List fd)}:pg z (l.take l.length)=pg z l:=ek
@[simp]def agu(ax:List Int)(b:List (List fd))(L:List fR)(h1:b.length<=1000000000)(K: ∀i (h:i<b.length),(b[i]).length<=1000000000):cG X 131 [.sl false (ax.map (V.int .i64)),sd b L]=some (.bool (pg ax b)):=by
 refine ij ?_;simp;refine dO (fun i S=>(S.f 0=ax/\S.f 10=b/\S.f 11=((b).length:Int)/\S.f 12=(i:Int)/\S.n=1100)/\(pg ax (b.take i)=true)) (b.length) ab ?_ ?_ ?_
 .rintro i S ⟨G,O,c⟩ ⟨d,f⟩;have g:=K i c;simp[d,c];refine dO (fun j S=>(S.f 0=ax/\S.f 10=b/\S.f 11=((b).length:Int)/\S.f 12=(i:Int)/\S.f 16= .sl false ((b[i]).map fd.e)/\S.f 17= .int .i64 (((b[i]).length:Int))/\S.f 18=(j:Int)/\S.n=1100)/\(qZ ax ((b[i]).take j)=true)) ((b[i]).length) ab ?_ ?_ ?_
  .rintro j S ⟨l,e,P⟩ ⟨m,Y⟩;have u:=Tp (z:=ax) P;rw[Y]at u;cases q:proper ax (b[i])[j] with
   |false=>
    have k:=PQ c (Tq P q);simp[m,P,q,k]
   |true=>
    rw[q]at u;simp[m,e,P,q,u]
  .rintro S ⟨m,Y⟩;rw[PN]at Y;have u:=PO (z:=ax) c;rw[f,Y]at u;simp[c,m,u,O];try omega
  .simp[d]<;>(
    rfl)
 .rintro S ⟨d,f⟩;simp[d]<;>(
   rw[MA]at f;simp[f])
 .simp<;>(
   rfl)
end Go.Proofs.YtdngefmliibcgaaGreat
