/- Part of a proof: S20. -/
import Derived.Test.YtdngefmliibcgaaGreatM25
set_option linter.all false
set_option maxRecDepth 20000
set_option maxHeartbeats 20000000
namespace Go.Proofs.YtdngefmliibcgaaGreat
open Go Go.Abs Go.Abs.kX Qf
variable  {ids bu:Nat->Nat}{n j o i k T C L:Nat}{h hx h':bh}{rs:List (List Canon)}{d file pc a t key:Int}{l:List fO}{r:Request}{x:lL}{c:Cell}{p:Prog}{m m':aO}{S:Nat->Prop}{vB vC vL:V}
@[simp]def alf(bn:List (List Canon))(bc:List fO)(h offset:Int)(hf:jB (bJ.mk bn bc)):bW X 284 [KKj bn bc,.int .i64 h,.int .i64 offset]=some (.dM [KKs ((sK (bJ.mk bn bc) h offset).1),.bool ((sK (bJ.mk bn bc) h offset).2)]):=by
 refine aaA ?_;have hl:=hf.lens;have l1:bn.length<=4:=hl.data;have l2:=hl.each;have l3:bc.length<=1000000000:=hl.opens;simp only at l2;cases ho:s8 (bJ.mk bn bc) h with
 |false=>
  have e:sK (bJ.mk bn bc) h offset=((bJ.mk bn bc),false):=by unfold sK;rw[if_neg (by simp[ho])]
  rw[e];simp[l1,l2,l3,ho]
 |true=>
  obtain⟨k,rfl,hk,j,hj,e1,e2,e3,e4,e5⟩:=qQ hf ho;simp only at hk hj e1 e2 e3 e4 e5;have xS:(k:Int)<bc.length:=by omega
  have hji:(j:Int)<bn.length:=by omega
  have s1:bc.getD (k:Int).toNat closed=bc[k]:=e1;have s2:bn.getD (bc.getD (k:Int).toNat closed).file.toNat []=bn[j]:=e2;by_cases c1:0<=offset
  case neg=>
   have e:sK (bJ.mk bn bc) k offset=((bJ.mk bn bc),false):=by unfold sK;rw[if_pos ho,if_neg (fun h=>c1 h.1)]
   have XW:offset<0:=by omega
   rw[e];simp[l1,l2,l3,ho,XW]
  have XW: ¬offset<0:=by omega
  by_cases c2:offset<=((bn[j]).length:Int)
  case neg=>
   have e:sK (bJ.mk bn bc) k offset=((bJ.mk bn bc),false):=by unfold sK;rw[if_pos ho,if_neg (fun h=>c2 (by have:=h.2;simp only at this;rwa[s2]at this))]
   have c2':((bn[j]).length:Int)<offset:=by omega
   rw[e];simp[l1,l2,l3,ho,XW,hk,xS,hj,hji,e3,c2']
  have c2': ¬((bn[j]).length:Int)<offset:=by omega
  have e:sK (bJ.mk bn bc) k offset=(⟨bn,bc.set k ⟨(bc[k]).file,offset,(bc[k]).write⟩⟩,true):=by
   have s3:bc.getD k closed=bc[k]:=s1;unfold sK;rw[if_pos ho,if_pos ⟨c1,by simp only;rw[s2];exact c2⟩];simp only[aaH,s3]
  rw[e];simp[l1,l2,l3,ho,XW,hk,xS,hj,hji,e3,c2'];rw[show(bc[k].e.put 1 (V.int .i64 offset))=fO.e ⟨(bc[k]).file,offset,(bc[k]).write⟩ from rfl,<-List.map_set (f:=fO.e),aZ (by simp),wc,abL];try simp[e3]
@[simp]def alg(bn:List (List Canon))(bc:List fO)(h n:Int)(hf:jB (bJ.mk bn bc)):bW X 281 [KKj bn bc,.int .i64 h,.int .i64 n]=some (.dM [KKs ((ph (bJ.mk bn bc) h n).1),.sl false (((ph (bJ.mk bn bc) h n).2.1).map Canon.e),.bool ((ph (bJ.mk bn bc) h n).2.2)]):=by
 refine aaA ?_;have hl:=hf.lens;have l1:bn.length<=4:=hl.data;have l2:=hl.each;have l3:bc.length<=1000000000:=hl.opens;simp only at l2;cases ho:s8 (bJ.mk bn bc) h with
 |false=>
  have e:ph (bJ.mk bn bc) h n=((bJ.mk bn bc),[],false):=by unfold ph;rw[if_neg (fun h=>by rw[ho]at h;cases h.1)]
  rw[e];simp[l1,l2,l3,ho]
 |true=>
  obtain⟨k,rfl,hk,j,hj,e1,e2,e3,e4,e5⟩:=qQ hf ho;simp only at hk hj e1 e2 e3 e4 e5;have xS:(k:Int)<bc.length:=by omega
  have hji:(j:Int)<bn.length:=by omega
  by_cases c1:0<=n
  case neg=>
   have e:ph (bJ.mk bn bc) k n=((bJ.mk bn bc),[],false):=by unfold ph;rw[if_neg (fun h=>c1 h.2.1)]
   have XW:n<0:=by omega
   rw[e];simp[l1,l2,l3,ho,XW]
  have XW: ¬n<0:=by omega
  cases c2:(bc[k]).write with
  |true=>
   have e:ph (bJ.mk bn bc) k n=((bJ.mk bn bc),[],false):=by unfold ph;rw[if_neg (fun h=>by have:=h.2.2;rw[e1,c2]at this;cases this)]
   rw[e];simp[l1,l2,l3,ho,XW,hk,xS,c2]
  |false=>
   obtain⟨o,hoo⟩: ∃o:Nat,(bc[k]).offset=o:=⟨(bc[k]).offset.toNat,by omega⟩;obtain⟨m,hm⟩: ∃m:Nat,DI (bJ.mk bn bc) k n=m:=⟨(DI (bJ.mk bn bc) k n).toNat,by unfold DI;rw[e1,e2];split<;>omega⟩;have hmx:=hm;unfold DI at hmx;rw[e1,e2,hoo]at hmx;have h64:=(hf.each j hj).2;simp only at h64;have e:ph (bJ.mk bn bc) k n=(⟨bn,bc.set k ⟨(bc[k]).file,(o:Int)+m,false⟩⟩,((bn[j]).drop o).take m,true):=by
    unfold ph;rw[if_pos ⟨ho,c1,by rw[e1];exact c2⟩,hm,e1,e2,hoo,c2];simp
   rw[e];have ho5:(o:Int)<=(bn[j]).length:=by omega
   have bpu:o<=(bn[j]).length:=by omega
   have tz:IntKind.i64.wrap (((bn[j]).length:Int)-o)=((bn[j]).length:Int)-o:=wrap_i64 (by omega);obtain⟨q,hq⟩: ∃q:Nat,o+m=q:=⟨_,rfl⟩;have hqi:(o:Int)+m=q:=by omega
   have hle:(q:Int)<=(bn[j]).length:=by split at hmx<;>omega
   have hlen:q<=(bn[j]).length:=by omega
   have Ht:IntKind.i64.wrap (q:Int)=q:=wrap_i64 (by omega);have hoq:o<=q:=by omega
   have hqm:q-o=m:=by omega
   have hb:((bn[j]).length:Int)<=1000000000:=by omega
   have lO:(if((bn[j]).length:Int)-o<n then((bn[j]).length:Int)-o else n)=m:=hmx;simp[l1,l2,l3,ho,XW,hk,xS,c2,hj,hji,e3,hoo,tz,hqi,Ht,hle,lO,hoq,hqm,aeG];refine⟨fun x hx=> ?_,fun _=>⟨⟨by omega,by omega⟩,fun _ _=>⟨?_,?_⟩⟩⟩
   ·have:=abh (aaS hx);simp only[adB]at this;obtain⟨c,_,rfl⟩:=this;rfl
   ·rw[show(bc[k].e.put 1 (V.int .i64 q))=fO.e ⟨(bc[k]).file,q,(bc[k]).write⟩ from rfl,<-List.map_set (f:=fO.e),aZ (by simp),wc,abL,e3,c2]
   ·rw[aZ (by simp),<-List.map_drop,<-List.map_take,Rk]
def CpI(f:bJ)(k k1 c4 c6 i:Nat)(S:St):Prop:= ∃vD,(S.f 1= .ptr k 0 0/\S.f 2= .ptr k1 0 0/\S.f 3= .ptr c6 0 0/\S.f 11= .sl false (f.data.map bw)/\S.f 12= .int .i64 (f.data.length:Int)/\S.f 13= .int .i64 (i:Int))/\
 (S.h k=some ⟨2,[KKs f],true⟩/\S.h k1=some ⟨2,[.agg [.sl true [],.sl true []]],true⟩/\S.h c6=some ⟨2,[.agg [vD,.cu c4 0 f.opens.length]],true⟩/\S.h c4=some ⟨3,f.opens.map fO.e,false⟩)/\
 oC (k+12) S.n (f.data.take i) vD S.h/\k+12<=S.n
@[simp]def aeb(bn:List (List Canon))(bc:List fO)(k:Nat)(hl:bn.length<=4)(hx: ∀i (h:i<bn.length),(bn[i]).length<=1000000000)(ho:bc.length<=1000000000): ∃v h' k',cL X 205 [KKj bn bc] pP k=some (v,h',k')/\ ∃vD,v= .agg [vD,.cu (k+4) 0 bc.length]/\h' (k+4)=some ⟨3,bc.map fO.e,false⟩/\oC (k+12) k' bn vD h'/\k+12<=k':=by
 refine aaB ?_;simp[aaE];refine⟨⟨by omega,by omega⟩,fun _ _=> ?_⟩;obtain⟨k1,Eo⟩: ∃q,k+1=q:=⟨_,rfl⟩;obtain⟨c4,hc4⟩: ∃q,k+4=q:=⟨_,rfl⟩;obtain⟨c6,hc6⟩: ∃q,k+6=q:=⟨_,rfl⟩;refine lS (fun i S=>CpI (bJ.mk bn bc) k k1 c4 c6 i S) bn.length ?_ 0 (by omega) ?_
 ·rintro i S hi ⟨vD,⟨f1,f2,f3,f11,f12,f13⟩,⟨h0,h1,h6,h4⟩,HR,hk⟩;simp only at h0 f11 f12 HR h6 h4;by_cases gY:i<bn.length
  case neg=>
   have bL: ¬(i:Int)<bn.length:=by omega
   have ei:i=bn.length:=by omega
   subst ei;rw[abi]at HR;have n1: ¬c6=k1:=by omega
   have n2: ¬c4=k1:=by omega
   have vV:vD.fits 1=true/\vD.cells=[vD]:=by
    rcases HR with⟨_,rfl⟩|⟨_,R,_,rfl,_⟩<;>exact⟨rfl,rfl⟩
   rcases HR with⟨e0,rfl⟩|⟨e0,R,ids,rfl,r1,r2,r3,r4⟩
   ·simp[aaE,f2,f3,f12,f13,h1,h6,bL];refine⟨.sl true [],by simp[hc4],by rw[hc4];simp[n2,h4],.inl ⟨e0,rfl⟩,by omega⟩
   ·simp[aaE,f2,f3,f12,f13,h1,h6,bL];refine⟨.cu R 0 bn.length,by simp[hc4],by rw[hc4];simp[n2,h4],.inr ⟨e0,R,ids,rfl,?_,by omega,fun j g=> ?_,r4⟩,by omega⟩
    ·rw[aR,if_neg (by omega)];exact r1
    ·obtain⟨a1,a2,a3,a4⟩:=r3 j g;exact⟨by rw[aR,if_neg (by omega)];exact a1,a2,by omega,a4⟩
  have bL:(i:Int)<bn.length:=by omega
  have hw:IntKind.i64.wrap ((i:Int)+1)=i+1:=wrap_i64 (by omega);have hxi:=hx i gY;obtain⟨x,pO⟩: ∃x,bn[i]=x:=⟨_,rfl⟩;rw[pO]at hxi;have ln:=fD (a:=bn) gY;rw[pO]at ln;have np:(bn.take i).length=i:=acT (by omega);obtain⟨rs,B5⟩: ∃q,bn.take i=q:=⟨_,rfl⟩;rw[B5]at HR ln np;have n0: ∀j,¬k=S.n+j:=fun j=>by omega
  have n1: ∀j,¬k1=S.n+j:=fun j=>by omega
  have n4: ∀j,¬c4=S.n+j:=fun j=>by omega
  have n6: ∀j,¬c6=S.n+j:=fun j=>by omega
  have n6': ∀j,¬S.n+j=c6:=fun j=>by omega
  have e0: ¬k=c6:=by omega
  have e1: ¬k1=c6:=by omega
  have e4: ¬c4=c6:=by omega
  rcases HR with⟨r0,rfl⟩|⟨r0,R,ids,rfl,r1,r2,r3,r4⟩
  ·simp[aaE,f3,f11,f12,f13,h6,gY,bL,hw,pO,tD,n6];have e9: ∀j,¬S.n+j=c6:=fun j=>by omega
   refine⟨⟨by omega,by omega⟩,fun _ _=>⟨⟨by omega,by omega⟩,.cu (S.n+9) 0 1,⟨by simp[aR,f1],by simp[aR,f2],by simp[aR,f3],by simp[aR,f11],by simp[aR,f12],by simp[aR]⟩,⟨by simp[aR,n0,e0,h0],by simp[aR,n1,e1,h1],by simp[aR],by simp[aR,n4,e4,h4]⟩,?_,by simp only;omega⟩⟩;rw[ln,r0];exact oC.TD (id:=S.n+7) (R:=S.n+9) (by simp[aR,e9]) (by simp[aR,e9]) (by simp only;omega)
  ·have nR: ∀j,¬R=S.n+j:=fun j=>by omega
   have nR6: ¬c6=R:=by omega
   have rl:=nE ids rs;have rt:(jN ids rs).take rs.length=jN ids rs:=aZ (by omega);simp[aaE,f3,f11,f12,f13,h6,gY,bL,hw,pO,tD,n6,r1,nR,nR6,rl,rt];have e9: ∀j,¬S.n+j=c6:=fun j=>by omega
   have e10: ∀j,¬S.n+j=R:=fun j=>by omega
   have q0: ¬k=R:=by omega
   have q1: ¬k1=R:=by omega
   have q4: ¬c4=R:=by omega
   refine⟨⟨by omega,by omega⟩,fun _ _=>⟨⟨by omega,by omega⟩,fun _ _=>⟨⟨by omega,by omega⟩,.cu (S.n+9) 0 (rs.length+1),⟨by simp[aR,f1],by simp[aR,f2],by simp[aR,f3],by simp[aR,f11],by simp[aR,f12],by simp[aR]⟩,⟨by simp[aR,n0,e0,q0,h0],by simp[aR,n1,e1,q1,h1],by simp[aR],by simp[aR,n4,e4,q4,h4]⟩,?_,by simp only;omega⟩⟩⟩;rw[ln];refine oC.snoc (n:=S.n) (id:=S.n+7) (R:=R) (R':=S.n+9) (h:=S.h) (ids:=ids) r3 r4 (by simp[aR,e9]) (by simp[aR,e9,e10]) (fun l a b c=> ?_) (by simp only;omega);have w1: ∀j,¬l=S.n+j:=fun j=>by omega
   have w2: ¬l=c6:=by omega
   simp[aR,w1,w2,c]
 ·simp;refine⟨.sl true [],⟨by simp[aR],by simp[aR,<-Eo],by simp[aR,<-hc6],by simp[aR],by simp[aR],by simp[aR]⟩,⟨by simp[aR],by simp[aR,<-Eo],by simp[aR,<-hc6,<-hc4],by simp[aR,<-hc4]⟩,.inl ⟨by simp,rfl⟩,by simp only;omega⟩
def Agr(ids:Nat->Nat)(n:Nat)(h hx:bh):Prop:= ∀m,m<n->hx (ids m)=h (ids m)
def WJ(ids:Nat->Nat)(n x:Nat):Prop:= ∀m,m<n->ids m≠x
def aec(ids:Nat->Nat)(n:Nat)(h:bh):Agr ids n h h:=fun _ _=>rfl
def EK(x:Nat)(v:Option Ob)(ho:WJ ids n x)(H:Agr ids n h hx):Agr ids n h (aR hx x v):=fun m hm=>by
 rw[aR,if_neg (ho m hm)];exact H m hm
def Gew(ids:Nat->Nat)(n c:Nat):Prop:= ∀m,m<n->c<=ids m
def Sb(c:Nat)(ho:Gew ids n c):Agr ids n h (fun id=>if id<c then h' id else h id):=fun m hm=>by
 have:=ho m hm;simp only;rw[if_neg (by omega)]
def ze(r3: ∀i (g:i<rs.length),h (ids i)=some ⟨4,(rs[i]).map Canon.e,false⟩)(hh:Agr ids rs.length h hx):cF (List.take rs.length (List.map (cx hx 9) (jN ids rs)))=some (rs.map bw):=by
 have t1:List.take rs.length (List.map (cx hx 9) (jN ids rs))=List.map (cx hx 9) (jN ids rs):=aZ (by simp[nE]);rw[t1];unfold jN;refine nA _ _ fun i hi=> ?_;have e1:hx (ids i)=some ⟨4,(rs[i]).map Canon.e,false⟩:=by rw[hh i hi,r3 i hi]
 simp[cx,e1,bw]
def zL(l:List (List Canon)):eV (l.map bw)=l.map bw:=qK (fun x=>by unfold bw;simp[V.lM]) l
def Sc(x:List Canon)(D:Nat):(jN ids rs).set j (.cu D 0 x.length)=jN (aR ids j D) (rs.set j x):=by
 apply abA;intro i;simp only[jN,abV,abK,adM];by_cases e:j=i
 ·subst e;by_cases hj:j<rs.length
  ·simp[hj,aR]
  ·simp[hj]
 ·simp only[e,if_false];congr 1;funext y;simp[aR,aaW e]
def DT(d l:List Canon)(o:Nat):lD d l o 0=d:=by simp[lD]
def WK{d l:List Canon}(ho:o<=d.length)(hi:i<l.length)(h:o+i<(lD d l o i).length):(lD d l o i).set (o+i) l[i]=lD d l o (i+1):=by
 rw[xd ho (by omega)]at h;have h2:o+i<d.length:=by split at h<;>omega
 unfold lD;have l1:(d.take o++l.take i).length=o+i:=by simp;omega
 rw[adS (o+i) _ (by omega),l1,acS,fD hi,acE h2,adJ];simp only[acr,aeM,aeQ,aaE]
def WL{d l:List Canon}(ho:o<=d.length)(hi:i<l.length)(h: ¬o+i<(lD d l o i).length):lD d l o i++ [l[i]]=lD d l o (i+1):=by
 rw[xd ho (by omega)]at h;have h2:d.length<=o+i:=by split at h<;>omega
 unfold lD;rw[List.drop_eq_nil_of_le h2,List.drop_eq_nil_of_le (by omega),fD hi];simp
def WrI(d0 l:List Canon)(fo:List fO)(rs:List (List Canon))(ids:Nat->Nat)(h0:bh)(k0 j k o n R i:Nat)(S:St):Prop:= ∃D,
 (S.f 2= .sl false (l.map Canon.e)/\S.f 6= .ptr 1 0 0/\S.f 9= .ptr 6 0 0/\S.f 10= .ptr 12 k 0/\S.f 11= .int .i64 (n:Int)/\S.f 12= .cu D 0 (lD d0 l o i).length/\S.f 57= .int .i64 (n:Int)/\S.f 58= .int .i64 (i:Int))/\
 (S.h 1=some ⟨2,[.agg [.sl true [],.sl true []]],true⟩/\S.h 6=some ⟨2,[.agg [.cu R 0 rs.length,.cu 12 0 fo.length]],true⟩/\S.h 12=some ⟨3,fo.map fO.e,false⟩/\S.h R=some ⟨1,jN ids rs,true⟩/\S.h D=some ⟨4,(lD d0 l o i).map Canon.e,false⟩)/\
 (∀m,m<rs.length->m≠j->S.h (ids m)=h0 (ids m))/\(D=ids j\/k0<=D)/\D<S.n/\k0<=S.n
@[simp]def ahe(bn:List (List Canon))(bc:List fO)(h:Int)(l:List Canon)(hf:jB (bJ.mk bn bc))(jV:l.length<=1000000000):bW X 280 [KKj bn bc,.int .i64 h,.sl false (l.map Canon.e)]=some (.dM [KKs ((oB (bJ.mk bn bc) h l).1),.int .i64 ((oB (bJ.mk bn bc) h l).2.1),.bool ((oB (bJ.mk bn bc) h l).2.2)]):=by
 have hl:=hf.lens;have l1:bn.length<=4:=hl.data;have l2:=hl.each;have l3:bc.length<=1000000000:=hl.opens;simp only at l2;obtain⟨v0,h0,k0,eC,vD,rfl,g12,HR,hk0⟩:=aeb bn bc 8 l1 l2 l3;simp only[Nat.reduceAdd]at eC g12 HR hk0;refine aaA ?_;have bp0:vD.fits 1=true:=by rcases HR with⟨_,rfl⟩|⟨_,R,_,rfl,_⟩<;>rfl
 cases ho:s8 (bJ.mk bn bc) h with
 |false=>
  have e:oB (bJ.mk bn bc) h l=((bJ.mk bn bc),0,false):=by unfold oB;rw[if_neg (fun h=>by rw[ho]at h;cases h.1)]
  rw[e];rcases HR with⟨r0,rfl⟩|⟨r0,R,ids,rfl,r1,r2,r3,r4⟩
  ·simp(maxSteps:=10000000)(maxDischargeDepth:=30)[l1,l3,jV,ho,eC,g12];exact r0
  ·have n1: ¬R=1:=by omega
   have n6: ¬R=6:=by omega
   have n8: ¬R<8:=by omega
   have rl:=nE ids bn;have Hp: ∀H,Agr ids bn.length h0 H->_:=fun H hO=>ze (fun i g=>(r3 i g).1) hO;have a8:Gew ids bn.length 8:=fun m g=>by have:=r3 m g;omega
   have o1:WJ ids bn.length 1:=fun m g=>by have:=r3 m g;omega
   have o6:WJ ids bn.length 6:=fun m g=>by have:=r3 m g;omega
   simp(maxSteps:=10000000)(maxDischargeDepth:=30)[l1,l2,l3,jV,ho,eC,g12,r1,n1,n6,n8,rl,Hp,EK,Sb,a8,o1,o6,zL]
 |true=>
  obtain⟨k,rfl,hk,j,hj,e1,e2,e3,e4,e5⟩:=qQ hf ho;simp only at hk hj e1 e2 e3 e4 e5;have xS:(k:Int)<bc.length:=by omega
  have hji:(j:Int)<bn.length:=by omega
  rcases HR with⟨r0,rfl⟩|⟨r0,R,ids,rfl,r1,r2,r3,r4⟩
  ·rw[r0]at hj;simp at hj
  have n1: ¬R=1:=by omega
  have n6: ¬R=6:=by omega
  have n8: ¬R<8:=by omega
  have rl:=nE ids bn;have Hp: ∀H,Agr ids bn.length h0 H->_:=fun H hO=>ze (fun i g=>(r3 i g).1) hO;have a8:Gew ids bn.length 8:=fun m g=>by have:=r3 m g;omega
  have o1:WJ ids bn.length 1:=fun m g=>by have:=r3 m g;omega
  have o6:WJ ids bn.length 6:=fun m g=>by have:=r3 m g;omega
  by_cases c2:(bc[k]).write=true
  case neg=>
   have e:oB (bJ.mk bn bc) k l=((bJ.mk bn bc),0,false):=by unfold oB;rw[if_neg (fun h=>c2 (by have:=h.2.1;rw[e1]at this;exact this))]
   have c2':(bc[k]).write=false:=by simpa using c2
   rw[e];simp(maxSteps:=10000000)(maxDischargeDepth:=30)[l1,l2,l3,jV,ho,eC,g12,r1,n1,n6,n8,rl,Hp,EK,Sb,a8,o1,o6,zL,hk,xS,c2']
  by_cases c3:jc l=true
  case neg=>
   have e:oB (bJ.mk bn bc) k l=((bJ.mk bn bc),0,false):=by unfold oB;rw[if_neg (fun h=>c3 h.2.2)]
   rw[e];simp(maxSteps:=10000000)(maxDischargeDepth:=30)[l1,l2,l3,jV,ho,eC,g12,r1,n1,n6,n8,rl,Hp,EK,Sb,a8,o1,o6,zL,hk,xS,c2,c3]
  obtain⟨⟨fi,off,wr⟩,hoe⟩: ∃x,bc[k]=x:=⟨_,rfl⟩;rw[hoe]at e1 e3 e4 e5 c2;simp only at e3 e4 e5 c2;subst e3 c2;have f64:=(hf.each j hj).2;simp only at f64;obtain⟨o,rfl⟩:=aaG e4;obtain⟨d0,O7⟩: ∃d0,bn[j]=d0:=⟨_,rfl⟩;rw[O7]at e2 e5 f64;have tz:IntKind.i64.wrap (64-(o:Int))=64-o:=wrap_i64 (by omega);obtain⟨n,hn⟩: ∃n:Nat,(if 64-(o:Int)<(l.length:Int) then 64-(o:Int) else l.length)=(n:Int):=by
   split
   ·exact⟨(64-(o:Int)).toNat,by omega⟩
   ·exact⟨l.length,rfl⟩
  have Yl:n<=l.length/\o+n<=64:=by split at hn<;>omega
  have en:ry (bJ.mk bn bc) k l=n:=by unfold ry;rw[e1];exact hn
  have e:oB (bJ.mk bn bc) k l=(⟨bn.set j (lD d0 l o n),bc.set k ⟨(j:Int),(o:Int)+n,true⟩⟩,(n:Int),true):=by
   unfold oB;rw[if_pos ⟨ho,by rw[e1],c3⟩,en,e1,e2];rfl
  obtain⟨UI,B5⟩: ∃x,bn.set j (lD d0 l o n)=x:=⟨_,rfl⟩;obtain⟨fo',hfo⟩: ∃x,bc.set k ⟨(j:Int),(o:Int)+n,true⟩=x:=⟨_,rfl⟩;rw[B5,hfo]at e;rw[e];have e6: ∀h',(jN ids bn)[j]= .cu (ids j) 0 d0.length:=fun h'=>by rw[<-O7];simp[jN]
  have e7:h0 (ids j)=some ⟨4,d0.map Canon.e,false⟩:=by rw[<-O7];exact(r3 j hj).1
  have q8: ¬ids j<8:=by have:=r3 j hj;omega
  have q1: ¬ids j=1:=by omega
  have q6: ¬ids j=6:=by omega
  simp(maxSteps:=10000000)(maxDischargeDepth:=30)[l1,l2,l3,jV,ho,eC,g12,r1,n1,n6,n8,rl,hk,xS,hoe,c3,hj,hji,tz,hn,e6,e7,q8,q1,q6];refine lS (fun i S=>WrI d0 l bc bn ids h0 k0 j k o n R i S) n ?_ 0 (by omega) ?_
  ·rintro i S hi ⟨D,⟨f2,f6,f9,f10,f11,f12,f57,f58⟩,⟨g1,g6,aed,gR,gD⟩,gO,hD,hDn,hkn⟩;have rj:=r3 j hj;have d1: ¬D=1:=by omega
   have d6: ¬D=6:=by omega
   have d12: ¬D=12:=by omega
   have dR: ¬D=R:=by omega
   obtain⟨y,hy⟩: ∃y,lD d0 l o i=y:=⟨_,rfl⟩;have hle:=xd (d:=d0) (l:=l) (o:=o) (n:=i) (by omega) (by omega);rw[hy]at f12 gD hle;have hyl:y.length<=64:=by split at hle<;>omega
   by_cases gY:i<n
   ·have bL:(i:Int)<n:=by omega
    have EV:i<l.length:=by omega
    have ie:=nd i (by omega);obtain⟨q,hq⟩: ∃q,o+i=q:=⟨_,rfl⟩;obtain⟨q,hq⟩: ∃q,o+i=q:=⟨_,rfl⟩;have hwo:IntKind.i64.wrap ((o:Int)+(i:Int))=(q:Int):=by rw[wrap_i64 (by omega)];omega
    have m1: ¬1=D:=by omega
    have m6: ¬6=D:=by omega
    have m12: ¬12=D:=by omega
    have mR: ¬R=D:=by omega
    by_cases hp:q<y.length
    ·have hpi:(q:Int)<(y.length:Int):=by omega
     have ato: ¬(y.length:Int)<=(q:Int):=by omega
     simp(maxSteps:=10000000)(maxDischargeDepth:=30)[f2,f6,f9,f10,f11,f12,f57,f58,g1,g6,aed,gR,gD,d1,d6,d12,dR,gY,bL,EV,ie,hwo,hk,hoe,hp,hpi,ato];have lb: ∀(a c:Canon),(y.map Canon.e).set q (a.e.put 0 ((KKr c:V)))=(y.set q c).map Canon.e:=fun a c=>by rw[abL];rfl
     have Hp:=WK (d:=d0) (l:=l) (o:=o) (i:=i) (by omega) EV (by rw[hy,hq];exact hp);rw[hy,hq]at Hp;refine⟨D,⟨by simp[aR,f2],by simp[aR,f6],by simp[aR,f9],by simp[aR,f10],by simp[aR,f11],by simp[aR,f12,<-Hp],by simp[aR,f57],by simp[aR]⟩,⟨by simp[aR,m1,g1],by simp[aR,m6,g6],by simp[aR,m12,aed],by simp[aR,mR,gR],?_⟩,fun m hm hmj=> ?_,hD,by simp only;omega,by simp only;omega⟩
     ·simp only[aR,if_true,lb,Hp]
     ·have h9:=r3 m hm;have h8:=r4 m j hm hj;have w: ¬ids m=D:=by omega
      simp only[aR,w,if_false];exact gO m hm hmj
    ·have hpi: ¬(q:Int)<(y.length:Int):=by omega
     have ato:(y.length:Int)<=(q:Int):=by omega
     have hya:(y.length+1)*24<=140737488355328/\y.length<=4611686018427387903:=by omega
     simp(maxSteps:=10000000)(maxDischargeDepth:=30)[f2,f6,f9,f10,f11,f12,f57,f58,g1,g6,aed,gR,gD,d1,d6,d12,dR,gY,bL,EV,ie,hwo,hk,hoe,hp,hpi,ato,hya];have Hp:=WL (d:=d0) (l:=l) (o:=o) (i:=i) (by omega) EV (by rw[hy,hq];exact hp);rw[hy]at Hp;obtain⟨N,hN⟩: ∃N,S.n+1+2+9+6=N:=⟨_,rfl⟩;rw[hN];have mN: ¬1=N/\ ¬6=N/\ ¬12=N/\ ¬R=N:=by omega
     obtain⟨mN1,mN6,a9w,mNR⟩:=mN;refine⟨N,⟨by simp[aR,f2],by simp[aR,f6],by simp[aR,f9],by simp[aR,f10],by simp[aR,f11],by simp[aR,<-Hp],by simp[aR,f57],by simp[aR]⟩,⟨by simp[aR,m1,mN1,g1],by simp[aR,m6,mN6,g6],by simp[aR,m12,a9w,aed],by simp[aR,mR,mNR,gR],?_⟩,fun m hm hmj=> ?_,.inr (by omega),by simp only;omega,by simp only;omega⟩
     ·simp only[aR,if_true,<-Hp,abH];rfl
     ·have h9:=r3 m hm;have h8:=r4 m j hm hj;have w: ¬ids m=D:=by omega
      have w2: ¬ids m=N:=by omega
      simp only[aR,w,w2,if_false];exact gO m hm hmj
   ·have bL: ¬(i:Int)<n:=by omega
    have ei:i=n:=by omega
    subst ei;rw[hy]at B5;have y1: ¬R=1/\ ¬R=6/\ ¬R=12:=by omega
    obtain⟨y1,y6,y12⟩:=y1;have z1: ¬1=R/\ ¬6=R/\ ¬12=R:=by omega
    obtain⟨z1,z6,z12⟩:=z1;have aee:=Sc (ids:=ids) (rs:=bn) (j:=j) y D;have apk:(bc.map fO.e).set k ((fO.e ⟨(j:Int),(o:Int),true⟩).put 1 (.int .i64 ((o:Int)+(i:Int))))=(bc.set k ⟨(j:Int),(o:Int)+(i:Int),true⟩).map fO.e:=by rw[abL];rfl
    have R3: ∀a (g:a<(bn.set j y).length),S.h (aR ids j D a)=some ⟨4,((bn.set j y)[a]).map Canon.e,false⟩:=fun a g=>by
     by_cases e:a=j
     ·subst e;simp[aR,gD]
     ·have e': ¬j=a:=fun h=>e h.symm;have ga:a<bn.length:=by simpa using g
      simp only[aR,e,if_false,abQ e'];rw[gO a ga e];exact(r3 a ga).1
    have O: ∀x,x≠D->(x<20\/x=R)->WJ (aR ids j D) bn.length x:=fun x hx hx2 m hm=>by
     have h9:=r3 m hm;by_cases e:m=j
     ·subst e;simp[aR];omega
     ·simp only[aR,e,if_false];omega
    have O1:=O 1 (by omega) (by omega);have O6:=O 6 (by omega) (by omega);have O12:=O 12 (by omega) (by omega);have OR:=O R (by omega) (.inr rfl);obtain⟨iI,uk⟩: ∃x,aR ids j D=x:=⟨_,rfl⟩;have rl':UI.length=bn.length:=by rw[<-B5];simp
    have fl':fo'.length=bc.length:=by rw[<-hfo];simp
    rw[uk]at aee R3 O1 O6 O12 OR;rw[B5]at aee;simp only[B5]at R3;rw[hfo]at apk;have Hp: ∀H,Agr iI bn.length S.h H->_:=fun H hO=>ze R3 (by rw[rl'];exact hO);rw[rl']at Hp;have fkf: ∀(f:fO->V),List.take bc.length (fo'.map f)=fo'.map f:=fun f=>aZ (by simp;omega);have rle:=nE iI UI;have qM:IntKind.i64.wrap ((o:Int)+(i:Int))=(o:Int)+(i:Int):=wrap_i64 (by omega);simp(maxSteps:=10000000)(maxDischargeDepth:=30)[f2,f6,f9,f10,f11,f12,f57,f58,g1,g6,aed,gR,gD,d1,d6,d12,dR,gY,bL,hk,hoe,hj,hji,rl,e6,y1,y6,y12,z1,z6,z12,aee,apk,qM,rle,rl',fl',fkf,Hp,EK,aec,O1,O6,O12,OR,zL]
  ·simp(maxSteps:=10000000)(maxDischargeDepth:=30)[];refine⟨ids j,⟨by simp[aR],by simp[aR],by simp[aR],by simp[aR],by simp[aR],by simp[aR,DT],by simp[aR],by simp[aR]⟩,⟨by simp[aR],by simp[aR],?_,?_,?_⟩,fun m hm _=> ?_,.inl rfl,by simp only;have:=r3 j hj;omega,by simp only;omega⟩
   ·simp[aR,g12]
   ·simp[aR,n6,n8,r1]
   ·simp[aR,q6,q8,e7,DT]
   ·have h9:=r3 m hm;have w1: ¬ids m=6:=by omega
    have w2: ¬ids m<8:=by omega
    simp[aR,w1,w2]
@[simp]def av9(hx:bh)(l:List (List Int)):cF (l.map (cx hx 12∘aV))=some (l.map aV):=qi (fun _=>rfl) l
def aef(x:List Int)(n:Nat)(v:V):(aV x).put n v=v:=rfl
@[simp]def bqa(sI:List (List Int))(hm:sI.length<=1000000000)(hx: ∀i (h:i<sI.length),(sI[i]).length<=1000000000):nr X [(0,0,37)] 204 [sI]=some sI:=by
 refine aaC ?_;simp[];refine cZ (fun i S=>(S.f 3= .cu 3 0 (((sI.take i).map aV)).length/\S.h 3=some ⟨1,((sI.take i).map aV),false⟩/\S.f 6=sI/\S.f 7=((sI).length:Int)/\S.f 8=(i:Int)/\S.n=1100)/\True) (sI.length) (by omega) ?_ ?_ ?_
 ·rintro i S ⟨pq,ie,bL⟩ ⟨df,fp⟩;have g:=hx i bL;have lO:min i sI.length=i:=by omega
  simp[df,ie,bL,lO];all_goals ((repeat' (first|apply And.intro|intro _))<;>first|omega|exact qj bL|rfl)
 ·rintro S ⟨df,fp⟩;simp[df]
 ·simp[]<;>(
   simp)
@[simp]def XX(sI:List (List Int))(socket n:Int)(h1:sI.length<=1000)(h2: ∀i (h:i<sI.length),(sI[i]).length<=64):bW X 286 [sI,socket,n]=some (.dM [.sl false (((pK sI socket n).1).map aV),.sl false (((pK sI socket n).2.1).map Canon.e),.bool ((pK sI socket n).2.2)]):=by
 refine aaA ?_;have a1:sI.length<=1000000000:=by omega
 have a2: ∀i (h:i<sI.length),(sI[i]).length<=1000000000:=fun i h=>by have:=h2 i h;omega
 have td:eV (List.take sI.length (sI.map aV))=sI.map aV:=by rw[aZ (by simp),Jj]
 by_cases c1:socket<0
 ·have e:pK sI socket n=(sI,[],false):=by unfold pK;rw[if_pos (.inl c1)]
  rw[e];simp[a1,a2,c1]
 by_cases c2:(sI.length:Int)<=socket
 ·have e:pK sI socket n=(sI,[],false):=by unfold pK;rw[if_pos (.inr (.inl c2))]
  rw[e];simp[a1,a2,c1,c2]
 by_cases c3:n<0
 ·have e:pK sI socket n=(sI,[],false):=by unfold pK;rw[if_pos (.inr (.inr c3))]
  rw[e];simp[a1,a2,c1,c2,c3]
 obtain⟨k,rfl⟩:=aaG (show 0<=socket by omega);have hk:k<sI.length:=by omega
 have xS:(k:Int)<sI.length:=by omega
 have h64:=h2 k hk;have hg:sI.getD (k:Int).toNat []=sI[k]:=by simp[List.getD,hk]
 obtain⟨x,hx⟩: ∃x,sI[k]=x:=⟨_,rfl⟩;rw[hx]at h64 hg;obtain⟨m,hm⟩: ∃m:Nat,JF x n=m:=⟨(JF x n).toNat,by unfold JF;split<;>omega⟩;have hmm:=hm;unfold JF at hmm;have tw:m<=x.length:=by split at hmm<;>omega
 have a03:(m:Int)<=x.length:=by omega
 have hm0:min m x.length=m:=by omega
 have e:pK sI k n=(sI.set k (x.drop m),(x.take m).map BU,true):=by
  unfold pK;rw[if_neg (by omega),hg,hm];simp
 rw[e];simp[a1,a2,c1,c2,c3,hk,xS,hx,hmm,tw,a03];refine cZ (fun i S=>(S.f 1= .int .i64 ((k:Int))/\S.f 9= .cu 9 0 (((sI).map aV)).length/\S.h 9=some ⟨1,((sI).map aV),false⟩/\S.f 10= .int .i64 ((m:Int))/\S.f 11= .cu 11 0 (((uj (x.take i)).map Canon.e)).length/\S.h 11=some ⟨4,((uj (x.take i)).map Canon.e),false⟩/\S.f 41= .sl false ((x.take m).map (V.int .u16))/\S.f 42= .int .i64 ((m:Int))/\S.f 43=(i:Int)/\S.n=1100)/\True) (m) (by omega) ?_ ?_ ?_
 ·rintro i S ⟨pq,ie,bL⟩ ⟨df,fp⟩;have hix:i<x.length:=by omega
  have gu:=NA hix;have gl:(uj (x.take i)).length=i:=by rw[Jy,abN];omega
  have gt:(x.take m)[i]'(by simp;omega)=x[i]:=by simp
  have gtk:List.take i ((uj (x.take i)).map Canon.e)=(uj (x.take i)).map Canon.e:=aZ (by simp[gl]);simp[df,ie,bL,gu,gl,BU,hm0];all_goals ((repeat' (first|apply And.intro|intro _))<;>first|omega|rfl|exact gtk)
 ·rintro S ⟨df,fp⟩;simp[df,hk,xS,hx,a03];refine⟨?_,?_⟩
  ·have d1:eV (List.drop m (x.map (V.int .u16)))=(x.drop m).map (V.int .u16):=by rw[<-List.map_drop];exact qK (fun _=>rfl) _
   rw[aef,d1,<-AL,aZ (by simp),<-List.map_set (f:=aV),Jj,abL]
  ·simp[uj,ae1]
 ·simp[]<;>(
   first|exact⟨rfl,rfl⟩|rfl|simp[uj])
def aeg(h:i<DH l)(h':i<l.length): ¬(l[i]).file= -1:=by
 have:=List.not_of_lt_findIdx (p:=fun o:fO=>decide (o.file= -1)) h;simpa using this
def WM(h:DH l<l.length):(l[DH l]).file= -1:=by
 have:=List.findIdx_getElem (p:=fun o:fO=>decide (o.file= -1)) (w:=h);exact of_decide_eq_true this
def mF(l:List fO)(file:Int)(i:Nat):List fO:=(l.take i).map (yR file)++l.drop i
def Od(l:List fO)(file:Int):mF l file 0=l:=by simp[mF]
def A7(l:List fO)(file:Int)(i:Nat):(mF l file i).length=l.length:=by simp[mF];omega
def JW(h:i<l.length)(h':i<(mF l file i).length):(mF l file i)[i]=l[i]:=by
 have e:(mF l file i)[i]?=some l[i]:=by
  unfold mF;rw[aaO (by simp;omega),abF,abN,aeS (Nat.le_of_lt h),acS,drop_cons h];rfl
 rw[aaJ h']at e;exact aeA e
def GY(h:i<l.length):(mF l file i).set i (yR file l[i])=mF l file (i+1):=by
 unfold mF;have e:((l.take i).map (yR file)).length=i:=by simp;omega
 rw[adS _ _ (by omega),e,acS,drop_cons h,adJ,fD h,abH];simp
def Oe(h:i<l.length)(hn: ¬(l[i]).file=file):mF l file (i+1)=mF l file i:=by
 rw[<-GY h,show yR file l[i]=l[i] from if_neg hn];have h':i<(mF l file i).length:=by rw[A7];exact h
 rw[<-JW (file:=file) h h',abO]
def Sd(l:List fO)(file:Int):mF l file l.length=l.map (yR file):=by simp[mF]
def aeh(x:List Canon)(n:Nat)(v:V):(bw x).put n v=v:=rfl
@[simp]def ali(bn:List (List Canon))(bc:List fO)(file mode:Int)(hf:jB (bJ.mk bn bc)):bW X 282 [KKj bn bc,.int .i64 file,.int .i64 mode]=some (.dM [KKs ((pH (bJ.mk bn bc) file mode).1),.int .i64 ((pH (bJ.mk bn bc) file mode).2)]):=by
 refine aaA ?_;have hl:=hf.lens;have l1:bn.length<=4:=hl.data;have l2:=hl.each;have l8:bc.length=8:=hf.opens;have l3:bc.length<=1000000000:=hl.opens;simp only at l2;have wO:=NQ bc;have td:eV (List.take bc.length (bc.map fO.e))=bc.map fO.e:=by rw[aZ (by simp),wc]
 have td8:eV (List.take 8 (bc.map fO.e))=bc.map fO.e:=by rw[l8]at td;exact td
 obtain⟨fh,hfh⟩: ∃q,DH bc=q:=⟨_,rfl⟩;simp[l1,l2,l3];refine cZ (fun i S=>(S.f 1= .int .i64 file/\S.f 2= .int .i64 mode/\S.f 3= .ptr 3 0 0/\S.h 3=some ⟨2,[KKj bn bc],true⟩/\S.f 6= .ptr 6 0 0/\S.h 6=some ⟨2,[KKj ([]:List (List Canon)) ([]:List fO)],true⟩/\S.f 8= .ptr 8 0 0/\S.h 1000=some ⟨1,((bJ.mk bn bc)).data.map bw,false⟩/\S.h 1001=some ⟨3,((bJ.mk bn bc)).opens.map fO.e,false⟩/\S.h 8=some ⟨2,[.agg [.cu 1000 0 (((bJ.mk bn bc)).data.map bw).length,.cu 1001 0 (((bJ.mk bn bc)).opens.map fO.e).length]],true⟩/\S.f 9= .int .i64 ((i:Int))/\S.n=1102)/\True) (fh) (by omega) ?_ ?_ ?_
 ·rintro i S ⟨pq,ie,bL⟩ ⟨df,fp⟩;have g1:i<bc.length:=by omega
  have g1i:(i:Int)<bc.length:=by omega
  have g2:=aeg (l:=bc) (i:=i) (by omega) g1;simp[df,ie,bL,g1,g1i,g2]
 ·rintro S ⟨df,fp⟩;by_cases g1:fh<bc.length
  case neg=>
   have g8:fh=8:=by omega
   subst g8;have e:pH (bJ.mk bn bc) file mode=((bJ.mk bn bc), -1):=by unfold pH;rw[if_pos (.inr (.inr (.inr (.inr (by simp only;rw[hfh,l8])))))]
   rw[e];by_cases c1:file<0
   ·simp[df,l8,td8,c1]
   by_cases c2:(bn.length:Int)<=file
   ·simp[df,l8,td8,c1,c2]
   by_cases c3:mode<0
   ·simp[df,l8,td8,c1,c2,c3]
   by_cases c4:2<mode
   ·simp[df,l8,td8,c1,c2,c3,c4]
   simp[df,l8,td8,c1,c2,c3,c4]
  have g1i:(fh:Int)<bc.length:=by omega
  have g2:(bc[fh]).file= -1:=by have:=WM (l:=bc) (by omega);simpa only[hfh] using this
  have g3: ¬(fh:Int)=bc.length:=by omega
  have no: ∀(h:file<0\/(bn.length:Int)<=file\/mode<0\/2<mode),pH (bJ.mk bn bc) file mode=((bJ.mk bn bc), -1):=fun h=>by
   unfold pH;rw[if_pos (by rcases h with h|h|h|h;exact .inl h;exact .inr (.inl h);exact .inr (.inr (.inl h));exact .inr (.inr (.inr (.inl h))))]
  by_cases c1:file<0
  ·rw[no (.inl c1)];simp[df,g1,g1i,g2,c1]
  by_cases c2:(bn.length:Int)<=file
  ·rw[no (.inr (.inl c2))];simp[df,g1,g1i,g2,c1,c2]
  by_cases c3:mode<0
  ·rw[no (.inr (.inr (.inl c3)))];simp[df,g1,g1i,g2,c1,c2,c3]
  by_cases c4:2<mode
  ·rw[no (.inr (.inr (.inr c4)))];simp[df,g1,g1i,g2,c1,c2,c3,c4]
  obtain⟨j,rfl⟩:=aaG (show 0<=file by omega);have hj:j<bn.length:=by omega
  have hji:(j:Int)<bn.length:=by omega
  have LB:=l2 j hj;have hfd:bn.getD (j:Int).toNat []=bn[j]:=by simp[List.getD,hj]
  have key:pH (bJ.mk bn bc) j mode=((⟨(xG (bJ.mk bn bc) j mode).data,(xG (bJ.mk bn bc) j mode).opens.set fh (⟨j,if mode=2 then((bn[j]).length:Int) else 0,decide (0<mode)⟩:fO)⟩:bJ),(fh:Int)):=by
   unfold pH;rw[if_neg (by simp only;rw[hfh];omega),hfh];simp only[hfd]
  have atp: ∀(x:fO) (a b:Int) (c:Bool),(fO.e x).put 0 (V.agg [.int .i64 a,.int .i64 b,.bool c])=fO.e ⟨a,b,c⟩:=fun _ _ _ _=>rfl;have a05: ∀(x:fO) (b:Int),(fO.e x).put 1 (V.int .i64 b)=fO.e ⟨x.file,b,x.write⟩:=fun _ _=>rfl;have fin: ∀(y:fO),eV (List.take bc.length ((bc.map fO.e).set fh (fO.e y)))=(bc.map fO.e).set fh (fO.e y):=fun y=>by
   rw[aZ (by simp),<-List.map_set (f:=fO.e),wc]
  have hm:mode=0\/mode=1\/mode=2:=by omega
  rcases hm with rfl|rfl|rfl
  ·have e:pH (bJ.mk bn bc) j 0=((⟨bn,bc.set fh (⟨j,0,false⟩:fO)⟩:bJ),(fh:Int)):=by rw[key];rfl
   rw[e];simp[df,g1,g1i,g2,g3,c1,c2,atp,fin]
  ·have e:pH (bJ.mk bn bc) j 1=((⟨bn.set j [],(bc.map (yR j)).set fh (⟨j,0,true⟩:fO)⟩:bJ),(fh:Int)):=by rw[key];rfl
   obtain⟨zo,hzo⟩: ∃q,bc.map (yR j)=q:=⟨_,rfl⟩;have zol:zo.length=8:=by rw[<-hzo];simp[l8]
   rw[e,hzo];have f8:fh<8:=by omega
   have f8i:(fh:Int)<8:=by omega
   have f8n: ¬(fh:Int)=8:=by omega
   simp[df,l8,g2,f8,f8i,f8n,c1,c2,hj,hji,aeh];refine cZ (fun i S=>(S.f 1= .int .i64 ((j:Int))/\S.f 2= .int .i64 ((1:Int))/\S.f 6= .ptr 6 0 0/\S.h 6=some ⟨2,[KKj ([]:List (List Canon)) ([]:List fO)],true⟩/\S.f 8= .ptr 8 0 0/\S.h 1000=some ⟨1,(⟨bn.set j [],mF bc j i⟩:bJ).data.map bw,false⟩/\S.h 1001=some ⟨3,(⟨bn.set j [],mF bc j i⟩:bJ).opens.map fO.e,false⟩/\S.h 8=some ⟨2,[.agg [.cu 1000 0 ((⟨bn.set j [],mF bc j i⟩:bJ).data.map bw).length,.cu 1001 0 ((⟨bn.set j [],mF bc j i⟩:bJ).opens.map fO.e).length]],true⟩/\S.f 9= .int .i64 ((fh:Int))/\S.f 62= .int .i64 ((8:Int))/\S.f 63=(i:Int)/\S.n=1102)/\True) (8) (by omega) ?_ ?_ ?_
   ·rintro i S ⟨pq,ie,bL⟩ ⟨mA,sF⟩;have i1:i<bc.length:=by omega
    have XO:(i:Int)<8:=by omega
    have zl:=A7 bc j i;rw[l8]at zl;have i2:i<(mF bc j i).length:=by omega
    have za:=JW (file:=(j:Int)) i1 i2;by_cases q:(bc[i]).file=(j:Int)
    ·have zs:=GY (file:=(j:Int)) i1;rw[show yR (j:Int) bc[i]=⟨(bc[i]).file,0,(bc[i]).write⟩ from if_pos q]at zs;have q':=eq_true q;simp[mA,ie,bL,zl,XO,za,q',a05];exact⟨by rw[<-zs,abL],by rw[A7,l8]⟩
    ·have zs:=Oe (file:=(j:Int)) i1 q;simp[mA,ie,bL,zl,XO,za,q,zs]
   ·rintro S ⟨mA,sF⟩;have z8:mF bc j 8=bc.map (yR j):=by rw[<-Sd,l8]
    rw[z8,hzo]at mA;have fz:fh<zo.length:=by omega
    have atq: ∀(y:fO),eV (List.take 8 ((zo.map fO.e).set fh (fO.e y)))=(zo.map fO.e).set fh (fO.e y):=fun y=>by
     rw[aZ (by simp[zol]),<-List.map_set (f:=fO.e),wc]
    simp[mA,zol,f8,f8i,atp,atq];rw[aZ (by simp),<-List.map_set (f:=bw),Nb]
   ·simp[df]<;>(
     simp[Od,tD])
  ·have e:pH (bJ.mk bn bc) j 2=((⟨bn,bc.set fh (⟨j,(bn[j]).length,true⟩:fO)⟩:bJ),(fh:Int)):=by rw[key];rfl
   rw[e];simp[df,g1,g1i,g2,g3,c1,c2,hj,hji,atp,a05,fin]
 ·simp[]<;>(
   trivial)
def pE(l:List Canon)(i j:Nat):Int:=if j<i then IntKind.i64.wrap (l.getD j ⟨0,0,0,0⟩).val else 0
def nh(l:List Canon)(i:Nat):List Int:=[pE l i 0,pE l i 1,pE l i 2]
def rC(l:List Canon)(i:Nat):(nh l i).length=3:=rfl
def pF(l:List Canon):nh l 0=[0,0,0]:=rfl
def rD{l:List Canon}(h:i<l.length)(h3:i<3):(nh l i).set i (IntKind.i64.wrap (l[i]).val)=nh l (i+1):=by
 have e:l[i]=l.getD i ⟨0,0,0,0⟩:=by simp[List.getD,h]
 rw[e];rcases(by omega:i=0\/i=1\/i=2) with rfl|rfl|rfl<;>simp[nh,pE]
def DU: ∀(k:List UInt8) (l:List Int),iH k l=true->l.length=k.length
 | [],[],_=>rfl
 |_::_,[],h=>by simp[iH]at h
 | [],_::_,h=>by simp[iH]at h
 |a::k,b::l,h=>by
  simp only[iH,aaF]at h;simp[DU k l h.2]
def jT(c a0 a1 a2:Int)(d:List Canon):Request:=⟨0,0,0,0,0,c,[⟨0,a0,0,0⟩,⟨0,a1,0,0⟩,⟨0,a2,0,0⟩],d⟩
def JX(x:Int):IntKind.u16.wrap (IntKind.i64.wrap x)=IntKind.u16.wrap x:=by
 simp[IntKind.wrap,IntKind.bits,IntKind.signed];split<;>omega
def DoI(o:cS)(r:Request)(n i:Nat)(S:St):Prop:=
 (S.f 2= .ptr 2 0 0/\S.f 3= .ptr 3 0 0/\S.f 4= .ptr 4 0 0/\S.f 5= .ptr 5 0 0/\S.f 7= .ptr 7 0 0/\S.f 8= .cu 8 0 3/\S.f 74= .sl false (r.args.map Canon.e)/\S.f 75= .int .i64 (n:Int)/\S.f 76= .int .i64 (i:Int))/\
 (S.h 2=some ⟨6,[KKh o],true⟩/\
  S.h 3=some ⟨8,[KKW r],true⟩/\
  S.h 4=some ⟨6,[.agg [.sl false [],.sl false [],.sl false [],.sl false [],.sl false [],.sl false []]],true⟩/\
  S.h 5=some ⟨7,[.agg [.int .u8 0,.int .u16 0,.int .i64 0,.int .i64 0,.sl false [],.int .i64 0,.bool false]],true⟩/\
  S.h 7=some ⟨6,[KKh o],true⟩/\
  S.h 8=some ⟨1,(nh r.args i).map (V.int .i64),false⟩)/\S.n=1100
def A8(r:Request):Request:=jT r.call (pE r.args r.args.length 0) (pE r.args r.args.length 1) (pE r.args r.args.length 2) r.data
open Classical in
noncomputable def doX(o:cS)(r:Request):cS×lL×Int:=if nz o/\doB r=true then((qV o (A8 r)).1,(qV o (A8 r)).2,0) else(kT,mn,1)
def C8{o:cS}(h: ¬(nz o/\doB r=true)):doX o r=(kT,mn,1):=if_neg h
def ats{o:cS}(h:nz o/\doB r=true):doX o r=((qV o (A8 r)).1,(qV o (A8 r)).2,0):=if_pos h
def zM:doB r=true↔lh r=true/\r.stop=1/\((1<=r.call/\r.call<=7)\/r.call=13\/r.call=14)/\iH (de r.call) (r.args.map (·.tag))=true/\ ¬(mC r.call=2/\16<eY r 2):=by
 unfold doB;simp only[aaF,decide_eq_true_eq]
@[simp]def GZ(bn:List (List Canon))(bc:List fO):bW X 202 [.agg [.sl false [],.sl false []]]=some (.bool false):=by
 refine aaA ?_;simp
@[simp]def G0(cJ bZ:List Int)(bV:List (List Int))(bp:List (List Canon))(bm:List fO)(bI:List Output):bW X 130 [.agg [.sl false [],.sl false [],.sl false [],.sl false [],.sl false [],.sl false []]]=some (.bool false):=by
 have hv0:=GZ [] [];refine aaA ?_;simp[dO,hv0]
@[simp]def a9z(cJ bZ:List Int)(bV:List (List Int))(bp:List (List Canon))(bm:List fO)(bI:List Output)(dg di cY cD gS cp:Int)(bf bT:List Canon)(ho:uo (cS.mk cJ bZ bV (bJ.mk bp bm) bI))(h1:bf.length<=1000000000)(h2:bT.length<=1000000000)(hv:hX bT): ∃(o':cS) (x:lL) (e:Int),bW X 256 [KKn cJ bZ bV bp bm bI,KKZ dg di cY cD gS cp bf bT]=some (.dM [KKh o',KKl x,e])/\uo o'/\xT x/\doX (cS.mk cJ bZ bV (bJ.mk bp bm) bI) (Request.mk dg di cY cD gS cp bf bT)=(o',x,e):=by
 by_cases hG:nz (cS.mk cJ bZ bV (bJ.mk bp bm) bI)
 case neg=>
  have hz:(cS.mk cJ bZ bV (bJ.mk bp bm) bI)=kT:=by rcases ho with h|h;exact absurd h hG;exact h
  unfold kT at hz;simp only[cS.mk.injEq,bJ.mk.injEq]at hz;obtain⟨rfl,rfl,rfl,⟨rfl,rfl⟩,rfl⟩:=hz;refine⟨kT,mn,1,?_,.inr rfl,tJ,C8 (fun h=>hG h.1)⟩;have hv0:=G0 [] [] [] [] [] [];refine aaA ?_;simp[hv0,kT,mn]
 have hP:=hG.p;refine(?_: ∃(o':cS) (x:lL) (e:Int),_/\uo o'/\xT x/\doX _ _=(o',x,e));by_cases hB:lh (Request.mk dg di cY cD gS cp bf bT)=true
 case neg=>
  refine⟨kT,mn,1,?_,.inr rfl,tJ,C8 (fun h=>hB (zM.1 h.2).1)⟩;refine aaA ?_;simp[hP,h1,h2,hB,kT,mn]
 have O8:=eq_true hB;have hd:=(JG hB).1;by_cases kD:di=1
 case neg=>
  refine⟨kT,mn,1,?_,.inr rfl,tJ,C8 (fun h=>kD (zM.1 h.2).2.1)⟩;refine aaA ?_;simp[hP,h1,h2,O8,kD,kT,mn]
 subst kD;by_cases hac:(1<=cp/\cp<=7)\/cp=13\/cp=14
 case neg=>
  refine⟨kT,mn,1,?_,.inr rfl,tJ,C8 (fun h=>hac (zM.1 h.2).2.2.1)⟩;refine aaA ?_;simp[hP,h1,h2,O8,hac,kT,mn]
 have a07:=eq_true hac;have att:0<=cp/\cp<=15:=by omega
 by_cases Kk:iH (de cp) (bf.map (·.tag))=true
 case neg=>
  refine⟨kT,mn,1,?_,.inr rfl,tJ,C8 (fun h=>Kk (zM.1 h.2).2.2.2.1)⟩;refine aaA ?_;simp[hP,h1,h2,O8,a07,att,Kk,kT,mn]
 have wG:bf.length=(de cp).length:=by have:=DU _ _ Kk;simpa using this
 have bqe:bf.length<=3:=by rw[wG];exact pf att
 have Iw:=eq_true Kk;by_cases hbu:mC cp=2/\16<(bf.getD 2 ⟨0,0,0,0⟩).val
 case pos=>
  refine⟨kT,mn,1,?_,.inr rfl,tJ,C8 (fun h=>(zM.1 h.2).2.2.2.2 hbu)⟩;refine aaA ?_;obtain⟨b1,b2⟩:=hbu;have h3:bf.length=3:=by
   rw[wG];rcases hac with h|h|h
   ·obtain⟨a,b⟩:=h;rcases(by omega:cp=1\/cp=2\/cp=3\/cp=4\/cp=5\/cp=6\/cp=7) with rfl|rfl|rfl|rfl|rfl|rfl|rfl<;>first|rfl|(simp[mC]at b1)
   ·subst h;rfl
   ·subst h;rfl
  have h32:2<bf.length:=by omega
  have b3:16<(bf[2]).val:=by simpa[List.getD,h32] using b2
  have atu:(2:Int)<(bf.length:Int):=by omega
  have b4: ¬(bf[2]).val<=16:=by omega
  simp[hP,h1,h2,O8,a07,att,Iw,b1,b4,h32,atu,kT,mn]
 have hf:=hP.files;simp only at hf;have Py:=(JG hB).2;simp only at Py hd;have hol:=hP.dG;have hox:=hP.output;have EV:=hP.dp;have hix:=hP.input;simp only at hol hox EV hix;have a90:bV.length<=1000:=by omega
 have a91: ∀i (h:i<bV.length),(bV[i]).length<=64:=hix;have a92:bI.length<=1000000000:=by omega
 have a93: ∀i (h:i<bI.length),(bI[i]).data.length<=1000000000:=fun i h=>by have:=(hox i h).2.2.2.1;omega
 have s7:cp=1\/cp=2\/cp=3\/cp=4\/cp=5\/cp=6\/cp=7\/cp=13\/cp=14:=by omega
 have hdx:doX (cS.mk cJ bZ bV (bJ.mk bp bm) bI) ⟨dg,1,cY,cD,gS,cp,bf,bT⟩=((qV (cS.mk cJ bZ bV (bJ.mk bp bm) bI) (A8 ⟨dg,1,cY,cD,gS,cp,bf,bT⟩)).1,(qV (cS.mk cJ bZ bV (bJ.mk bp bm) bI) (A8 ⟨dg,1,cY,cD,gS,cp,bf,bT⟩)).2,0):=ats ⟨hG,zM.2 ⟨hB,rfl,hac,Kk,hbu⟩⟩;rcases s7 with rfl|rfl|rfl|rfl|rfl|rfl|rfl|rfl|rfl
 ·have hn:bf.length=3:=wG;have Ho:(bf.length:Int)=3:=by omega
  obtain⟨a0,DV⟩: ∃a,pE bf 3 0=a:=⟨_,rfl⟩;obtain⟨a1,A9⟩: ∃a,pE bf 3 1=a:=⟨_,rfl⟩;obtain⟨a2,DW⟩: ∃a,pE bf 3 2=a:=⟨_,rfl⟩;have hA:nh bf 3=[a0,a1,a2]:=by simp only[nh,DV,A9,DW]
  have lj:=xe hG (r:=jT 1 a0 a1 a2 bT) hd hv;refine⟨(qV (cS.mk cJ bZ bV (bJ.mk bp bm) bI) (jT 1 a0 a1 a2 bT)).1,(qV (cS.mk cJ bZ bV (bJ.mk bp bm) bI) (jT 1 a0 a1 a2 bT)).2,0,?_,.inl lj.1,lj.2,hdx.trans (by unfold A8;simp only[hn,DV,A9,DW])⟩;obtain⟨D,hD⟩: ∃D,qV (cS.mk cJ bZ bV (bJ.mk bp bm) bI) (jT 1 a0 a1 a2 bT)=D:=⟨_,rfl⟩;rw[hD];have Bh:mC 1=1:=rfl;refine aaA ?_;simp[hP,h1,h2,O8,Iw,Bh,Ho];refine lS (fun i S=>DoI (cS.mk cJ bZ bV (bJ.mk bp bm) bI) ⟨dg,1,cY,cD,gS,1,bf,bT⟩ 3 i S) 3 ?_ 0 (by omega) ?_
  ·rintro i S hi ⟨⟨f2,f3,f4,f5,f7,f8,f74,f75,f76⟩,⟨g2,g3,g4,g5,g7,g8⟩,gn⟩;simp only at g2 g3 g7 g8 f74 f75;by_cases gY:i<3
   ·have bL:(i:Int)<3:=by omega
    have qy:i<bf.length:=by omega
    have zf:(i:Int)<(bf.length:Int):=by omega
    have Bi:i<3:=by omega
    have C9:(i:Int)<3:=by omega
    have ie:=nd i (by omega);have hlen:=rC bf i;have lb:((nh bf i).map (V.int .i64)).set i (V.int .i64 (IntKind.i64.wrap (bf[i]).val))=(nh bf (i+1)).map (V.int .i64):=by rw[<-List.map_set,rD qy Bi]
    simp[f2,f3,f4,f5,f7,f8,f74,f75,f76,g2,g3,g4,g5,g7,g8,gn,gY,bL,qy,zf,ie,hlen];refine⟨by simp[aR],⟨by simp[aR],by simp[aR],by simp[aR],by simp[aR],by simp[aR],by simp[aR,lb]⟩,rfl⟩
   ·have bL: ¬(i:Int)<3:=by omega
    have ei:i=3:=by omega
    subst ei;rw[hA]at g8;have e:D=qV _ (jT 1 a0 a1 a2 bT):=hD.symm;unfold qV jT at e;simp[eY,kY]at e;subst e;simp[f2,f3,f4,f5,f7,f8,f75,f76,g2,g3,g4,g5,g7,g8,gn,hf,h2]
  ·simp[];refine⟨by simp[aR],⟨by simp[aR],by simp[aR],by simp[aR],by simp[aR],by simp[aR],by simp[aR,pF]⟩,rfl⟩
 ·have hn:bf.length=3:=wG;have Ho:(bf.length:Int)=3:=by omega
  have h32:2<bf.length:=by omega
  have atu:(2:Int)<(bf.length:Int):=by omega
  have b3: ¬16<(bf[2]).val:=fun h=>hbu ⟨rfl,by simpa[List.getD,h32] using h⟩;have b4:(bf[2]).val<=16:=by omega
  obtain⟨a0,DV⟩: ∃a,pE bf 3 0=a:=⟨_,rfl⟩;obtain⟨a1,A9⟩: ∃a,pE bf 3 1=a:=⟨_,rfl⟩;obtain⟨a2,DW⟩: ∃a,pE bf 3 2=a:=⟨_,rfl⟩;have hA:nh bf 3=[a0,a1,a2]:=by simp only[nh,DV,A9,DW]
  have lj:=xe hG (r:=jT 2 a0 a1 a2 bT) hd hv;refine⟨(qV (cS.mk cJ bZ bV (bJ.mk bp bm) bI) (jT 2 a0 a1 a2 bT)).1,(qV (cS.mk cJ bZ bV (bJ.mk bp bm) bI) (jT 2 a0 a1 a2 bT)).2,0,?_,.inl lj.1,lj.2,hdx.trans (by unfold A8;simp only[hn,DV,A9,DW])⟩;obtain⟨D,hD⟩: ∃D,qV (cS.mk cJ bZ bV (bJ.mk bp bm) bI) (jT 2 a0 a1 a2 bT)=D:=⟨_,rfl⟩;rw[hD];have Bh:mC 2=2:=rfl;refine aaA ?_;simp[hP,h1,h2,O8,Iw,Bh,Ho,h32,b4];refine lS (fun i S=>DoI (cS.mk cJ bZ bV (bJ.mk bp bm) bI) ⟨dg,1,cY,cD,gS,2,bf,bT⟩ 3 i S) 3 ?_ 0 (by omega) ?_
  ·rintro i S hi ⟨⟨f2,f3,f4,f5,f7,f8,f74,f75,f76⟩,⟨g2,g3,g4,g5,g7,g8⟩,gn⟩;simp only at g2 g3 g7 g8 f74 f75;by_cases gY:i<3
   ·have bL:(i:Int)<3:=by omega
    have qy:i<bf.length:=by omega
    have zf:(i:Int)<(bf.length:Int):=by omega
    have Bi:i<3:=by omega
    have C9:(i:Int)<3:=by omega
    have ie:=nd i (by omega);have hlen:=rC bf i;have lb:((nh bf i).map (V.int .i64)).set i (V.int .i64 (IntKind.i64.wrap (bf[i]).val))=(nh bf (i+1)).map (V.int .i64):=by rw[<-List.map_set,rD qy Bi]
    simp[f2,f3,f4,f5,f7,f8,f74,f75,f76,g2,g3,g4,g5,g7,g8,gn,gY,bL,qy,zf,ie,hlen];refine⟨by simp[aR],⟨by simp[aR],by simp[aR],by simp[aR],by simp[aR],by simp[aR],by simp[aR,lb]⟩,rfl⟩
   ·have bL: ¬(i:Int)<3:=by omega
    have ei:i=3:=by omega
    subst ei;rw[hA]at g8;have e:D=qV _ (jT 2 a0 a1 a2 bT):=hD.symm;unfold qV jT at e;simp[eY,kY]at e;subst e;simp[f2,f3,f4,f5,f7,f8,f75,f76,g2,g3,g4,g5,g7,g8,gn,hf]
  ·simp[];refine⟨by simp[aR],⟨by simp[aR],by simp[aR],by simp[aR],by simp[aR],by simp[aR],by simp[aR,pF]⟩,rfl⟩
 ·have hn:bf.length=2:=wG;have Ho:(bf.length:Int)=2:=by omega
  obtain⟨a0,DV⟩: ∃a,pE bf 2 0=a:=⟨_,rfl⟩;obtain⟨a1,A9⟩: ∃a,pE bf 2 1=a:=⟨_,rfl⟩;obtain⟨a2,DW⟩: ∃a,pE bf 2 2=a:=⟨_,rfl⟩;have hA:nh bf 2=[a0,a1,a2]:=by simp only[nh,DV,A9,DW]
  have lj:=xe hG (r:=jT 3 a0 a1 a2 bT) hd hv;refine⟨(qV (cS.mk cJ bZ bV (bJ.mk bp bm) bI) (jT 3 a0 a1 a2 bT)).1,(qV (cS.mk cJ bZ bV (bJ.mk bp bm) bI) (jT 3 a0 a1 a2 bT)).2,0,?_,.inl lj.1,lj.2,hdx.trans (by unfold A8;simp only[hn,DV,A9,DW])⟩;obtain⟨D,hD⟩: ∃D,qV (cS.mk cJ bZ bV (bJ.mk bp bm) bI) (jT 3 a0 a1 a2 bT)=D:=⟨_,rfl⟩;rw[hD];have Bh:mC 3=0:=rfl;refine aaA ?_;simp[hP,h1,h2,O8,Iw,Bh,Ho];refine lS (fun i S=>DoI (cS.mk cJ bZ bV (bJ.mk bp bm) bI) ⟨dg,1,cY,cD,gS,3,bf,bT⟩ 2 i S) 2 ?_ 0 (by omega) ?_
  ·rintro i S hi ⟨⟨f2,f3,f4,f5,f7,f8,f74,f75,f76⟩,⟨g2,g3,g4,g5,g7,g8⟩,gn⟩;simp only at g2 g3 g7 g8 f74 f75;by_cases gY:i<2
   ·have bL:(i:Int)<2:=by omega
    have qy:i<bf.length:=by omega
    have zf:(i:Int)<(bf.length:Int):=by omega
    have Bi:i<3:=by omega
    have C9:(i:Int)<3:=by omega
    have ie:=nd i (by omega);have hlen:=rC bf i;have lb:((nh bf i).map (V.int .i64)).set i (V.int .i64 (IntKind.i64.wrap (bf[i]).val))=(nh bf (i+1)).map (V.int .i64):=by rw[<-List.map_set,rD qy Bi]
    simp[f2,f3,f4,f5,f7,f8,f74,f75,f76,g2,g3,g4,g5,g7,g8,gn,gY,bL,qy,zf,Bi,C9,ie,hlen];refine⟨by simp[aR],⟨by simp[aR],by simp[aR],by simp[aR],by simp[aR],by simp[aR],by simp[aR,lb]⟩,rfl⟩
   ·have bL: ¬(i:Int)<2:=by omega
    have ei:i=2:=by omega
    subst ei;rw[hA]at g8;by_cases jJ:0<=(pH (bJ.mk bp bm) a0 a1).2
    ·have e:D=qV _ (jT 3 a0 a1 a2 bT):=hD.symm;unfold qV jT at e;simp[eY,jJ]at e;subst e;simp[f2,f3,f4,f5,f7,f8,f75,f76,g2,g3,g4,g5,g7,g8,gn,hf,jJ]
    ·have e:D=qV _ (jT 3 a0 a1 a2 bT):=hD.symm;unfold qV jT at e;simp[eY,kY,jJ]at e;subst e;simp[f2,f3,f4,f5,f7,f8,f75,f76,g2,g3,g4,g5,g7,g8,gn,hf,jJ]
  ·simp[];refine⟨by simp[aR],⟨by simp[aR],by simp[aR],by simp[aR],by simp[aR],by simp[aR],by simp[aR,pF]⟩,rfl⟩
 ·have hn:bf.length=1:=wG;have Ho:(bf.length:Int)=1:=by omega
  obtain⟨a0,DV⟩: ∃a,pE bf 1 0=a:=⟨_,rfl⟩;obtain⟨a1,A9⟩: ∃a,pE bf 1 1=a:=⟨_,rfl⟩;obtain⟨a2,DW⟩: ∃a,pE bf 1 2=a:=⟨_,rfl⟩;have hA:nh bf 1=[a0,a1,a2]:=by simp only[nh,DV,A9,DW]
  have lj:=xe hG (r:=jT 4 a0 a1 a2 bT) hd hv;refine⟨(qV (cS.mk cJ bZ bV (bJ.mk bp bm) bI) (jT 4 a0 a1 a2 bT)).1,(qV (cS.mk cJ bZ bV (bJ.mk bp bm) bI) (jT 4 a0 a1 a2 bT)).2,0,?_,.inl lj.1,lj.2,hdx.trans (by unfold A8;simp only[hn,DV,A9,DW])⟩;obtain⟨D,hD⟩: ∃D,qV (cS.mk cJ bZ bV (bJ.mk bp bm) bI) (jT 4 a0 a1 a2 bT)=D:=⟨_,rfl⟩;rw[hD];have Bh:mC 4=0:=rfl;refine aaA ?_;simp[hP,h1,h2,O8,Iw,Bh,Ho];refine lS (fun i S=>DoI (cS.mk cJ bZ bV (bJ.mk bp bm) bI) ⟨dg,1,cY,cD,gS,4,bf,bT⟩ 1 i S) 1 ?_ 0 (by omega) ?_
  ·rintro i S hi ⟨⟨f2,f3,f4,f5,f7,f8,f74,f75,f76⟩,⟨g2,g3,g4,g5,g7,g8⟩,gn⟩;simp only at g2 g3 g7 g8 f74 f75;by_cases gY:i<1
   ·have bL:(i:Int)<1:=by omega
    have qy:i<bf.length:=by omega
    have zf:(i:Int)<(bf.length:Int):=by omega
    have Bi:i<3:=by omega
    have C9:(i:Int)<3:=by omega
    have ie:=nd i (by omega);have hlen:=rC bf i;have lb:((nh bf i).map (V.int .i64)).set i (V.int .i64 (IntKind.i64.wrap (bf[i]).val))=(nh bf (i+1)).map (V.int .i64):=by rw[<-List.map_set,rD qy Bi]
    simp[f2,f3,f4,f5,f7,f8,f74,f75,f76,g2,g3,g4,g5,g7,g8,gn,gY,bL,qy,zf,Bi,C9,ie,hlen];refine⟨by simp[aR],⟨by simp[aR],by simp[aR],by simp[aR],by simp[aR],by simp[aR],by simp[aR,lb]⟩,rfl⟩
   ·have bL: ¬(i:Int)<1:=by omega
    have ei:i=1:=by omega
    subst ei;rw[hA]at g8;have e:D=qV _ (jT 4 a0 a1 a2 bT):=hD.symm;unfold qV jT at e;simp[eY,kY]at e;subst e;simp[f2,f3,f4,f5,f7,f8,f75,f76,g2,g3,g4,g5,g7,g8,gn,hf]
  ·simp[];refine⟨by simp[aR],⟨by simp[aR],by simp[aR],by simp[aR],by simp[aR],by simp[aR],by simp[aR,pF]⟩,rfl⟩
 ·have hn:bf.length=2:=wG;have Ho:(bf.length:Int)=2:=by omega
  obtain⟨a0,DV⟩: ∃a,pE bf 2 0=a:=⟨_,rfl⟩;obtain⟨a1,A9⟩: ∃a,pE bf 2 1=a:=⟨_,rfl⟩;obtain⟨a2,DW⟩: ∃a,pE bf 2 2=a:=⟨_,rfl⟩;have hA:nh bf 2=[a0,a1,a2]:=by simp only[nh,DV,A9,DW]
  have lj:=xe hG (r:=jT 5 a0 a1 a2 bT) hd hv;refine⟨(qV (cS.mk cJ bZ bV (bJ.mk bp bm) bI) (jT 5 a0 a1 a2 bT)).1,(qV (cS.mk cJ bZ bV (bJ.mk bp bm) bI) (jT 5 a0 a1 a2 bT)).2,0,?_,.inl lj.1,lj.2,hdx.trans (by unfold A8;simp only[hn,DV,A9,DW])⟩;obtain⟨D,hD⟩: ∃D,qV (cS.mk cJ bZ bV (bJ.mk bp bm) bI) (jT 5 a0 a1 a2 bT)=D:=⟨_,rfl⟩;rw[hD];have Bh:mC 5=0:=rfl;refine aaA ?_;simp[hP,h1,h2,O8,Iw,Bh,Ho];refine lS (fun i S=>DoI (cS.mk cJ bZ bV (bJ.mk bp bm) bI) ⟨dg,1,cY,cD,gS,5,bf,bT⟩ 2 i S) 2 ?_ 0 (by omega) ?_
  ·rintro i S hi ⟨⟨f2,f3,f4,f5,f7,f8,f74,f75,f76⟩,⟨g2,g3,g4,g5,g7,g8⟩,gn⟩;simp only at g2 g3 g7 g8 f74 f75;by_cases gY:i<2
   ·have bL:(i:Int)<2:=by omega
    have qy:i<bf.length:=by omega
    have zf:(i:Int)<(bf.length:Int):=by omega
    have Bi:i<3:=by omega
    have C9:(i:Int)<3:=by omega
    have ie:=nd i (by omega);have hlen:=rC bf i;have lb:((nh bf i).map (V.int .i64)).set i (V.int .i64 (IntKind.i64.wrap (bf[i]).val))=(nh bf (i+1)).map (V.int .i64):=by rw[<-List.map_set,rD qy Bi]
    simp[f2,f3,f4,f5,f7,f8,f74,f75,f76,g2,g3,g4,g5,g7,g8,gn,gY,bL,qy,zf,Bi,C9,ie,hlen];refine⟨by simp[aR],⟨by simp[aR],by simp[aR],by simp[aR],by simp[aR],by simp[aR],by simp[aR,lb]⟩,rfl⟩
   ·have bL: ¬(i:Int)<2:=by omega
    have ei:i=2:=by omega
    subst ei;rw[hA]at g8;have e:D=qV _ (jT 5 a0 a1 a2 bT):=hD.symm;unfold qV jT at e;simp[eY,kY]at e;subst e;simp[f2,f3,f4,f5,f7,f8,f75,f76,g2,g3,g4,g5,g7,g8,gn,hf]
  ·simp[];refine⟨by simp[aR],⟨by simp[aR],by simp[aR],by simp[aR],by simp[aR],by simp[aR],by simp[aR,pF]⟩,rfl⟩
 ·have hn:bf.length=0:=wG;have Ho:(bf.length:Int)=0:=by omega
  obtain⟨a0,DV⟩: ∃a,pE bf 0 0=a:=⟨_,rfl⟩;obtain⟨a1,A9⟩: ∃a,pE bf 0 1=a:=⟨_,rfl⟩;obtain⟨a2,DW⟩: ∃a,pE bf 0 2=a:=⟨_,rfl⟩;have hA:nh bf 0=[a0,a1,a2]:=by simp only[nh,DV,A9,DW]
  have lj:=xe hG (r:=jT 6 a0 a1 a2 bT) hd hv;refine⟨(qV (cS.mk cJ bZ bV (bJ.mk bp bm) bI) (jT 6 a0 a1 a2 bT)).1,(qV (cS.mk cJ bZ bV (bJ.mk bp bm) bI) (jT 6 a0 a1 a2 bT)).2,0,?_,.inl lj.1,lj.2,hdx.trans (by unfold A8;simp only[hn,DV,A9,DW])⟩;obtain⟨D,hD⟩: ∃D,qV (cS.mk cJ bZ bV (bJ.mk bp bm) bI) (jT 6 a0 a1 a2 bT)=D:=⟨_,rfl⟩;rw[hD];have Bh:mC 6=0:=rfl;refine aaA ?_;simp[hP,h1,h2,O8,Iw,Bh,Ho];refine lS (fun i S=>DoI (cS.mk cJ bZ bV (bJ.mk bp bm) bI) ⟨dg,1,cY,cD,gS,6,bf,bT⟩ 0 i S) 0 ?_ 0 (by omega) ?_
  ·rintro i S hi ⟨⟨f2,f3,f4,f5,f7,f8,f74,f75,f76⟩,⟨g2,g3,g4,g5,g7,g8⟩,gn⟩;simp only at g2 g3 g7 g8 f74 f75;by_cases gY:i<0
   ·have bL:(i:Int)<0:=by omega
    have qy:i<bf.length:=by omega
    have zf:(i:Int)<(bf.length:Int):=by omega
    have Bi:i<3:=by omega
    have C9:(i:Int)<3:=by omega
    have ie:=nd i (by omega);have hlen:=rC bf i;have lb:((nh bf i).map (V.int .i64)).set i (V.int .i64 (IntKind.i64.wrap (bf[i]).val))=(nh bf (i+1)).map (V.int .i64):=by rw[<-List.map_set,rD qy Bi]
    simp[f2,f3,f4,f5,f7,f8,f74,f75,f76,g2,g3,g4,g5,g7,g8,gn,gY,bL,qy,zf,Bi,C9,ie,hlen];refine⟨by simp[aR],⟨by simp[aR],by simp[aR],by simp[aR],by simp[aR],by simp[aR],by simp[aR,lb]⟩,rfl⟩
   ·have bL: ¬(i:Int)<0:=by omega
    have ei:i=0:=by omega
    subst ei;rw[hA]at g8;rcases cJ with _|⟨x,xs⟩
    ·have e:D=qV _ (jT 6 a0 a1 a2 bT):=hD.symm;unfold qV jT at e;simp[kY]at e;subst e;simp[f2,f3,f4,f5,f7,f75,f76,g2,g3,g4,g5,g7,gn]
    ·have e:D=qV _ (jT 6 a0 a1 a2 bT):=hD.symm;unfold qV jT at e;simp[kY]at e;subst e;have hx1:(1:Int)<=(xs.length:Int)+1:=by omega
     have hx2:=JX x;simp[f2,f3,f4,f5,f7,f75,f76,g2,g3,g4,g5,g7,gn,hx1,hx2]
  ·simp[];refine⟨by simp[aR],⟨by simp[aR],by simp[aR],by simp[aR],by simp[aR],by simp[aR],by simp[aR,pF]⟩,rfl⟩
 ·have hn:bf.length=0:=wG;have Ho:(bf.length:Int)=0:=by omega
  obtain⟨a0,DV⟩: ∃a,pE bf 0 0=a:=⟨_,rfl⟩;obtain⟨a1,A9⟩: ∃a,pE bf 0 1=a:=⟨_,rfl⟩;obtain⟨a2,DW⟩: ∃a,pE bf 0 2=a:=⟨_,rfl⟩;have hA:nh bf 0=[a0,a1,a2]:=by simp only[nh,DV,A9,DW]
  have lj:=xe hG (r:=jT 7 a0 a1 a2 bT) hd hv;refine⟨(qV (cS.mk cJ bZ bV (bJ.mk bp bm) bI) (jT 7 a0 a1 a2 bT)).1,(qV (cS.mk cJ bZ bV (bJ.mk bp bm) bI) (jT 7 a0 a1 a2 bT)).2,0,?_,.inl lj.1,lj.2,hdx.trans (by unfold A8;simp only[hn,DV,A9,DW])⟩;obtain⟨D,hD⟩: ∃D,qV (cS.mk cJ bZ bV (bJ.mk bp bm) bI) (jT 7 a0 a1 a2 bT)=D:=⟨_,rfl⟩;rw[hD];have Bh:mC 7=0:=rfl;refine aaA ?_;simp[hP,h1,h2,O8,Iw,Bh,Ho];refine lS (fun i S=>DoI (cS.mk cJ bZ bV (bJ.mk bp bm) bI) ⟨dg,1,cY,cD,gS,7,bf,bT⟩ 0 i S) 0 ?_ 0 (by omega) ?_
  ·rintro i S hi ⟨⟨f2,f3,f4,f5,f7,f8,f74,f75,f76⟩,⟨g2,g3,g4,g5,g7,g8⟩,gn⟩;simp only at g2 g3 g7 g8 f74 f75;by_cases gY:i<0
   ·have bL:(i:Int)<0:=by omega
    have qy:i<bf.length:=by omega
    have zf:(i:Int)<(bf.length:Int):=by omega
    have Bi:i<3:=by omega
    have C9:(i:Int)<3:=by omega
    have ie:=nd i (by omega);have hlen:=rC bf i;have lb:((nh bf i).map (V.int .i64)).set i (V.int .i64 (IntKind.i64.wrap (bf[i]).val))=(nh bf (i+1)).map (V.int .i64):=by rw[<-List.map_set,rD qy Bi]
    simp[f2,f3,f4,f5,f7,f8,f74,f75,f76,g2,g3,g4,g5,g7,g8,gn,gY,bL,qy,zf,Bi,C9,ie,hlen];refine⟨by simp[aR],⟨by simp[aR],by simp[aR],by simp[aR],by simp[aR],by simp[aR],by simp[aR,lb]⟩,rfl⟩
   ·have bL: ¬(i:Int)<0:=by omega
    have ei:i=0:=by omega
    subst ei;rw[hA]at g8;rcases bZ with _|⟨x,xs⟩
    ·have e:D=qV _ (jT 7 a0 a1 a2 bT):=hD.symm;unfold qV jT at e;simp[kY]at e;subst e;simp[f2,f3,f4,f5,f7,f75,f76,g2,g3,g4,g5,g7,gn]
    ·have e:D=qV _ (jT 7 a0 a1 a2 bT):=hD.symm;unfold qV jT at e;simp[kY]at e;subst e;have hx1:(1:Int)<=(xs.length:Int)+1:=by omega
     have hx2:=JX x;simp[f2,f3,f4,f5,f7,f75,f76,g2,g3,g4,g5,g7,gn,hx1,hx2]
  ·simp[];refine⟨by simp[aR],⟨by simp[aR],by simp[aR],by simp[aR],by simp[aR],by simp[aR],by simp[aR,pF]⟩,rfl⟩
 ·have hn:bf.length=3:=wG;have Ho:(bf.length:Int)=3:=by omega
  obtain⟨a0,DV⟩: ∃a,pE bf 3 0=a:=⟨_,rfl⟩;obtain⟨a1,A9⟩: ∃a,pE bf 3 1=a:=⟨_,rfl⟩;obtain⟨a2,DW⟩: ∃a,pE bf 3 2=a:=⟨_,rfl⟩;have hA:nh bf 3=[a0,a1,a2]:=by simp only[nh,DV,A9,DW]
  have lj:=xe hG (r:=jT 13 a0 a1 a2 bT) hd hv;refine⟨(qV (cS.mk cJ bZ bV (bJ.mk bp bm) bI) (jT 13 a0 a1 a2 bT)).1,(qV (cS.mk cJ bZ bV (bJ.mk bp bm) bI) (jT 13 a0 a1 a2 bT)).2,0,?_,.inl lj.1,lj.2,hdx.trans (by unfold A8;simp only[hn,DV,A9,DW])⟩;obtain⟨D,hD⟩: ∃D,qV (cS.mk cJ bZ bV (bJ.mk bp bm) bI) (jT 13 a0 a1 a2 bT)=D:=⟨_,rfl⟩;rw[hD];have Bh:mC 13=1:=rfl;refine aaA ?_;simp[hP,h1,h2,O8,Iw,Bh,Ho];refine lS (fun i S=>DoI (cS.mk cJ bZ bV (bJ.mk bp bm) bI) ⟨dg,1,cY,cD,gS,13,bf,bT⟩ 3 i S) 3 ?_ 0 (by omega) ?_
  ·rintro i S hi ⟨⟨f2,f3,f4,f5,f7,f8,f74,f75,f76⟩,⟨g2,g3,g4,g5,g7,g8⟩,gn⟩;simp only at g2 g3 g7 g8 f74 f75;by_cases gY:i<3
   ·have bL:(i:Int)<3:=by omega
    have qy:i<bf.length:=by omega
    have zf:(i:Int)<(bf.length:Int):=by omega
    have Bi:i<3:=by omega
    have C9:(i:Int)<3:=by omega
    have ie:=nd i (by omega);have hlen:=rC bf i;have lb:((nh bf i).map (V.int .i64)).set i (V.int .i64 (IntKind.i64.wrap (bf[i]).val))=(nh bf (i+1)).map (V.int .i64):=by rw[<-List.map_set,rD qy Bi]
    simp[f2,f3,f4,f5,f7,f8,f74,f75,f76,g2,g3,g4,g5,g7,g8,gn,gY,bL,qy,zf,ie,hlen];refine⟨by simp[aR],⟨by simp[aR],by simp[aR],by simp[aR],by simp[aR],by simp[aR],by simp[aR,lb]⟩,rfl⟩
   ·have bL: ¬(i:Int)<3:=by omega
    have ei:i=3:=by omega
    subst ei;rw[hA]at g8;have e:D=qV _ (jT 13 a0 a1 a2 bT):=hD.symm;unfold qV jT at e;simp[eY,kY]at e;subst e;simp[f2,f3,f4,f5,f7,f8,f75,f76,g2,g3,g4,g5,g7,g8,gn,h2,a92,a93];exact⟨rfl,rfl⟩
  ·simp[];refine⟨by simp[aR],⟨by simp[aR],by simp[aR],by simp[aR],by simp[aR],by simp[aR],by simp[aR,pF]⟩,rfl⟩
 ·have hn:bf.length=3:=wG;have Ho:(bf.length:Int)=3:=by omega
  have h32:2<bf.length:=by omega
  have atu:(2:Int)<(bf.length:Int):=by omega
  have b3: ¬16<(bf[2]).val:=fun h=>hbu ⟨rfl,by simpa[List.getD,h32] using h⟩;have b4:(bf[2]).val<=16:=by omega
  obtain⟨a0,DV⟩: ∃a,pE bf 3 0=a:=⟨_,rfl⟩;obtain⟨a1,A9⟩: ∃a,pE bf 3 1=a:=⟨_,rfl⟩;obtain⟨a2,DW⟩: ∃a,pE bf 3 2=a:=⟨_,rfl⟩;have hA:nh bf 3=[a0,a1,a2]:=by simp only[nh,DV,A9,DW]
  have lj:=xe hG (r:=jT 14 a0 a1 a2 bT) hd hv;refine⟨(qV (cS.mk cJ bZ bV (bJ.mk bp bm) bI) (jT 14 a0 a1 a2 bT)).1,(qV (cS.mk cJ bZ bV (bJ.mk bp bm) bI) (jT 14 a0 a1 a2 bT)).2,0,?_,.inl lj.1,lj.2,hdx.trans (by unfold A8;simp only[hn,DV,A9,DW])⟩;obtain⟨D,hD⟩: ∃D,qV (cS.mk cJ bZ bV (bJ.mk bp bm) bI) (jT 14 a0 a1 a2 bT)=D:=⟨_,rfl⟩;rw[hD];have Bh:mC 14=2:=rfl;refine aaA ?_;simp[hP,h1,h2,O8,Iw,Bh,Ho,h32,b4];refine lS (fun i S=>DoI (cS.mk cJ bZ bV (bJ.mk bp bm) bI) ⟨dg,1,cY,cD,gS,14,bf,bT⟩ 3 i S) 3 ?_ 0 (by omega) ?_
  ·rintro i S hi ⟨⟨f2,f3,f4,f5,f7,f8,f74,f75,f76⟩,⟨g2,g3,g4,g5,g7,g8⟩,gn⟩;simp only at g2 g3 g7 g8 f74 f75;by_cases gY:i<3
   ·have bL:(i:Int)<3:=by omega
    have qy:i<bf.length:=by omega
    have zf:(i:Int)<(bf.length:Int):=by omega
    have Bi:i<3:=by omega
    have C9:(i:Int)<3:=by omega
    have ie:=nd i (by omega);have hlen:=rC bf i;have lb:((nh bf i).map (V.int .i64)).set i (V.int .i64 (IntKind.i64.wrap (bf[i]).val))=(nh bf (i+1)).map (V.int .i64):=by rw[<-List.map_set,rD qy Bi]
    simp[f2,f3,f4,f5,f7,f8,f74,f75,f76,g2,g3,g4,g5,g7,g8,gn,gY,bL,qy,zf,ie,hlen];refine⟨by simp[aR],⟨by simp[aR],by simp[aR],by simp[aR],by simp[aR],by simp[aR],by simp[aR,lb]⟩,rfl⟩
   ·have bL: ¬(i:Int)<3:=by omega
    have ei:i=3:=by omega
    subst ei;rw[hA]at g8;have e:D=qV _ (jT 14 a0 a1 a2 bT):=hD.symm;unfold qV jT at e;simp[eY,kY]at e;subst e;simp[f2,f3,f4,f5,f7,f8,f75,f76,g2,g3,g4,g5,g7,g8,gn,a90,a91]
  ·simp[];refine⟨by simp[aR],⟨by simp[aR],by simp[aR],by simp[aR],by simp[aR],by simp[aR],by simp[aR,pF]⟩,rfl⟩
def oU(x:Thread)(c:Cell):Thread:=⟨1,x.bz.set 0 c,x.pc,x.count,x.cn,x.saved,x.dn,x.code⟩
def G1{x:Thread}(h:eu d x)(hc:jd c):eu d (oU x c):=
 ⟨by simp[oU],by simp[oU,h.bz],h.cells.set hc 0,h.pc,h.count,h.cn,h.saved,h.dn,h.code⟩
def xo(ids:Nat->Nat)(i:Nat)(x:Thread)(c:Cell)(h:x.bz.length=8):dJ ids i (oU x c)= (KKd 1 (.cu (ids i) 0 8) x.pc x.count x.cn x.saved x.dn x.code:V):=by
 simp[dJ,oU,h]
def aej{α:Type}{l:List α}(h:l.length=4):l.take 4=l:=aZ (by omega)
def Ek(pc:Int)(c:Cell):Thread:=⟨1,c::List.replicate 7 ⟨0,0⟩,pc,0, -1, -1,0,0⟩
def alk(hd:0<=d)(hp:0<=pc/\pc<=255)(hc:jd c):eu d (Ek pc c):=by
 refine⟨by simp[Ek],by simp[Ek],fun x hx=> ?_,hp,by simpa[Ek] using hd,by simp[Ek],by simp[Ek],by simp[Ek],by simp[Ek]⟩;rcases List.mem_cons.1 hx with rfl|hx
 ·exact hc
 ·rw[(List.mem_replicate.1 hx).2];exact lX
def Ca(x:Thread)(c:Cell)(a:Int):Thread:=⟨1,x.bz.set 0 c,x.pc,x.count,a,x.saved,x.dn,x.code⟩
def aek{x:Thread}(h:eu d x)(hc:jd c)(ha: -1<=a/\a<=255):eu d (Ca x c a):=
 ⟨by simp[Ca],by simp[Ca,h.bz],h.cells.set hc 0,h.pc,h.count,ha,h.saved,h.dn,h.code⟩
def Lf(ids:Nat->Nat)(i:Nat)(x:Thread)(c:Cell)(a:Int)(h:x.bz.length=8):dJ ids i (Ca x c a)= (KKd 1 (.cu (ids i) 0 8) x.pc x.count a x.saved x.dn x.code:V):=by
 simp[dJ,Ca,h]
def Of(x:Thread)(c:Int):Thread:=⟨4,x.bz,x.pc,x.count,x.cn,x.saved,0,c⟩
def alm{x:Thread}(h:eu d x){c:Int}(hc:0<=c/\c<=65535):eu d (Of x c):=
 ⟨by simp[Of],h.bz,h.cells,h.pc,h.count,h.cn,h.saved,by simp[Of],hc⟩
def G2(x:Thread):Thread:=⟨3,x.bz,x.pc,x.count,x.cn,x.saved,x.dn,x.code⟩
def ael{x:Thread}(h:eu d x):eu d (G2 x):=
 ⟨by simp[G2],h.bz,h.cells,h.pc,h.count,h.cn,h.saved,h.dn,h.code⟩
def a94(x:Thread):Thread:=⟨x.state,x.bz,x.cn,x.count,x.cn,x.pc,x.dn,x.code⟩
def G3(p:Prog)(m:aO)(t:Int)(x:lL):Prop:=jU p m=true/\sE x=true/\(0<=t/\t<4)/\(cg m t.toNat).state=3/\(raw m.layout.aD m.layout.key p.an x.value).2=0
instance (p:Prog) (m:aO) (t:Int) (x:lL):Decidable (G3 p m t x):=by unfold G3;infer_instance
def wB(p:Prog)(m:aO)(t:Int)(x:lL):aO×Bool:=if G3 p m t x then(iZ m m.memory t.toNat (oU (cg m t.toNat) (raw m.layout.aD m.layout.key p.an x.value).1),true) else(m,false)
def zg(h: ¬G3 p m t x):wB p m t x=(m,false):=if_neg h
def aem(h:G3 p m t x):wB p m t x=(iZ m m.memory t.toNat (oU (cg m t.toNat) (raw m.layout.aD m.layout.key p.an x.value).1),true):=if_pos h
def tA(m:aO)(t:Int):aO×Bool:=if(0<=t/\t<m.threads.length)/\F9 (cg m t.toNat)=true then(iZ m m.memory t.toNat (a94 (cg m t.toNat)),true) else(m,false)
def Cb(b:List Int)(key:Int)(z:List Int)(rg:Int):Int->List Canon->aF->Option aF
 |_,[],m=>some m
 |o,c::l,m=>if(raw b key z c).2=0/\inside z rg o=true then Cb b key z rg (o+1) l (mE m (nth b rg.toNat+o).toNat (raw b key z c).1) else none
def Ba(b:List Int)(key:Int)(z:List Int)(rg o:Int)(c:Canon)(l:List Canon)(m:aF):Cb b key z rg o (c::l) m=if(raw b key z c).2=0/\inside z rg o=true then Cb b key z rg (o+1) l (mE m (nth b rg.toNat+o).toNat (raw b key z c).1) else none:=rfl
def vz(r:Request)(i:Nat):Canon:=r.args.getD i ⟨0,0,0,0⟩
def zh(p:Prog)(m:aO)(r:Request)(x:lL):Option aF:=
 if mC r.call=2/\0<x.data.length then(if proper p.an (vz r 1)=true/\(vz r 1).tag=1 then Cb m.layout.aD m.layout.key p.an (vz r 1).region (vz r 1).offset x.data m.memory else none) else some m.memory
def xV(p:Prog)(m:aO)(n:Nat)(c:Cell)(r:Request)(x:lL):Option aO:=
 if r.call=12 then(if(vz r 0).tag=0/\(vz r 0).val<=255 then some (iZ m m.memory n (Ca (cg m n) c (vz r 0).val)) else none)
 else if r.call=10/\0<=x.spawn then(if(raw m.layout.aD m.layout.key p.an (vz r 1)).2=0/\(cg m x.spawn.toNat).state=0/\(vz r 0).val<=255/\(vz r 0).tag=0 then
  some ⟨m.layout,m.memory,(m.threads.set x.spawn.toNat (Ek (vz r 0).val (raw m.layout.aD m.layout.key p.an (vz r 1)).1)).set n (oU (cg m n) c)⟩ else none)
 else some (iZ m m.memory n (oU (cg m n) c))
def G4(p:Prog)(m:aO)(n:Nat)(r:Request)(x:lL):Option aO:=
 if(raw m.layout.aD m.layout.key p.an x.value).2=0 then((zh p m r x).bind fun mem=>xV p ⟨m.layout,mem,m.threads⟩ n (raw m.layout.aD m.layout.key p.an x.value).1 r x) else none
def Og(p:Prog)(m:aO)(r:Request)(x:lL):Prop:=jU p m=true/\lh r=true/\r.stop=1/\(r.args.length:Int)=uS r.call/\sE x=true/\(cg m r.dd.toNat).state=2
instance (p:Prog) (m:aO) (r:Request) (x:lL):Decidable (Og p m r x):=by unfold Og;infer_instance
def a09(m:aO):Option aO->aO×Bool
 |some m'=>(m',true)
 |none=>(m,false)
def Bb(p:Prog)(m:aO)(r:Request)(x:lL):aO×Bool:=
 if Og p m r x then(if r.call=0 then(⟨m.layout,m.memory,m.threads.set r.dd.toNat (Of (cg m r.dd.toNat) (vz r 0).val)⟩,true) else if x.wait=true then(iZ m m.memory r.dd.toNat (G2 (cg m r.dd.toNat)),true)
  else a09 m (G4 p m r.dd.toNat r x)) else(m,false)
def Cc(h: ¬Og p m r x):Bb p m r x=(m,false):=if_neg h
def WN(p:Prog)(m:aO)(t:Int)(x:lL):(wB p m t x).1.layout=m.layout:=by
 unfold wB;split<;>rfl
def aen(h:xV p m n c r x=some m'):m'.layout=m.layout:=by
 unfold xV at h;split at h
 ·split at h
  ·cases h;rfl
  ·cases h
 ·split at h
  ·split at h
   ·cases h;rfl
   ·cases h
  ·cases h;rfl
def aeo(h:G4 p m n r x=some m'):m'.layout=m.layout:=by
 unfold G4 at h;split at h
 ·cases hf:zh p m r x with
  |none=>rw[hf]at h;cases h
  |some mem=>rw[hf]at h;exact aen (m:=⟨m.layout,mem,m.threads⟩) h
 ·cases h
def aep(p:Prog)(m:aO)(r:Request)(x:lL):(Bb p m r x).1.layout=m.layout:=by
 unfold Bb;split
 ·split
  ·rfl
  ·split
   ·rfl
   ·cases h:G4 p m r.dd.toNat r x with
    |none=>rfl
    |some m'=>exact aeo h
 ·rfl
def pG(p:Prog)(d:Int)(r:aO×Bool)(h:bh)(k:Nat)(S:Nat->Prop)(v:V)(h':bh)(k':Nat):Prop:=
 ∃(S':Nat->Prop) (T':Nat) (XS XT XU:V) (Ae:List V),v= .dM [KKD XS r.1.layout.key XT XU (.cu T' 0 4),.bool r.2]/\kJ h' k' S' T' XS XT XU Ae r.1/\db p d r.1/\k<=k'/\(∀i,i<k->h' i=h i)/\ ∀i,S' i->S i\/k<=i
def pG.same{r:aO×Bool}{es:List V}(HM:kJ h k S T vB vC vL es m)(HG:db p d m)(e:r=(m,false))(hB:Below k h h'):
  pG p d r h k S (.dM [KKD vB m.layout.key vC vL (.cu T 0 4),.bool false]) h' (k+n):=by
 subst e;exact⟨S,T,vB,vC,vL,es,rfl,HM.mono (by omega) fun i hi=>hB i (HM.lt i hi),HG,by omega,hB,fun i hi=> .inl hi⟩
def pG.new{r:aO×Bool}(H:gW h' (k+n) vB C L T ids bu m)(HA:oT k vB C L T ids bu)(HG:db p d m)(hl:key=m.layout.key)(e:r=(m,true))(hB:Below k h h'):
  pG p d r h k S (.dM [KKD vB key (.cu C 0 512) (.cu L 0 4) (.cu T 0 4),.bool true]) h' (k+n):=by
 subst e hl;exact⟨_,T,vB,_,_,_,rfl,.deep H,HG,by omega,hB,fun i hi=> .inr (WA.N2 HA i hi)⟩
def apo:lL:=⟨⟨0,0,0,0⟩,[], -1,true⟩
def Da(ts:List Thread):lL:=if(ts.getD 0 cw).state=0 then⟨⟨0,IntKind.u16.wrap 0,0,0⟩,[],0,false⟩ else if(ts.getD 1 cw).state=0 then⟨⟨0,IntKind.u16.wrap 1,0,0⟩,[],1,false⟩
 else if(ts.getD 2 cw).state=0 then⟨⟨0,IntKind.u16.wrap 2,0,0⟩,[],2,false⟩ else if(ts.getD 3 cw).state=0 then⟨⟨0,IntKind.u16.wrap 3,0,0⟩,[],3,false⟩ else kY 0 false
noncomputable def sL(ts:List Thread)(o:cS)(l:bX)(js:List Int)(q:Request):cS×bX×List Int×lL:=
 if q.call=0\/q.call=12\/q.call=15 then(o,l,js,kY 0 true)
 else if q.call=8 then(o,(qm l (eY q 0) q.dd).1,js,if(qm l (eY q 0) q.dd).2=2 then kY 0 false else if(qm l (eY q 0) q.dd).2=1 then apo else⟨⟨0,0,0,0⟩,[], -1,false⟩)
 else if q.call=9 then(o,(fY l (eY q 0) q.dd).1,js,kY 0 (fY l (eY q 0) q.dd).2.2)
 else if q.call=10 then(o,l,js,Da ts)
 else if q.call=11 then(if eY q 0=q.dd\/4<=eY q 0\/(ts.getD (eY q 0).toNat cw).state=0 then(o,l,js,kY 0 false)
  else if(ts.getD (eY q 0).toNat cw).state=4 then(o,l,js,kY (IntKind.i64.wrap (ts.getD (eY q 0).toNat cw).code) true) else(o,l,js.set q.dd.toNat (eY q 0),apo))
 else((doX o q).1,l,js,(doX o q).2.1)
@[simp]def WO(aP:List Instr)(aN:List Int)(aQ:List (List Int))(aE:List Int)(aG:Int)(aJ:List Cell)(aK:List cy)(az:List Thread)(bk aX:List Int)(aY:List (List Int))(aM:List (List Canon))(aH:List fO)(aS:List Output)(bD:List Int)(bE:List (List Int))(cC:List Entry)(cz:List Int)(dh iw iy fv nK ez:Int)(eQ fJ:List Canon)(rE:az.length=4)(ho:uo ⟨bk,aX,aY,⟨aM,aH⟩,aS⟩)(hl:jR ⟨bD,bE⟩)(hj:cz.length=4)(hrc:cC.length<=1000000)(pn:0<=dh/\dh<4)(jK:eQ.length<=3)(acf:fJ.length<=16)(A9:(ez=8\/ez=9\/ez=11)->1<=eQ.length)(Ir:hX eQ)(hdv:hX fJ): ∃(o2:cS) (l2:bX) (wC:List Int) (x:lL),oF X [(0,16,65),(0,17,3),(0,7,112)] 209 18 ((KKJ aP aN aQ aE aG aJ aK az bk aX aY aM aH aS bD bE cC cz:V)) [KKZ dh iw iy fv nK ez eQ fJ]=some (18,(KKJ aP aN aQ aE aG aJ aK az o2.clock o2.random o2.dp o2.files.data o2.files.opens o2.dG l2.owner l2.queue cC wC:V),[(KKl x:V)],.bad)/\uo o2/\jR l2/\wC.length=4/\xT x/\sL az ⟨bk,aX,aY,⟨aM,aH⟩,aS⟩ ⟨bD,bE⟩ cz (Request.mk dh iw iy fv nK ez eQ fJ)=(o2,l2,wC,x):=by
 have Ip: ∀(f:Thread->V),List.take 4 (az.map f)=az.map f:=fun f=>aZ (by simp;omega);have RQ: ∀(f:Thread->Option V),List.take 4 (az.map f)=az.map f:=fun f=>aZ (by simp;omega);have Oi: ∀(hx:bh),cF (az.map (cx hx 12∘Thread.e))=some (az.map Thread.e):=fun hx=>qi (fun _=>rfl) az;have Ix: ∀(f:Int->V),List.take 4 (cz.map f)=cz.map f:=fun f=>aZ (by simp;omega);have w0:IntKind.u16.wrap 0=0:=by decide
 have qJ:cC.length<=1000000000:=by omega
 have first:(ez=8\/ez=9\/ez=11)-> ∃(h0:0<eQ.length) (a b c d:Int),eQ[0]=⟨a,b,c,d⟩/\0<=b/\b<=65535:=fun h=>by
  have h0:0<eQ.length:=by have:=A9 h;omega
  have hv:=Ir _ (aaL h0);obtain⟨⟨a,b,c,d⟩,e⟩: ∃z,eQ[0]=z:=⟨_,rfl⟩;rw[e]at hv;exact⟨h0,a,b,c,d,e,hv.1,hv.2⟩
 by_cases c0:ez=0
 ·subst c0;refine⟨_,_,_,kY 0 true,fZ (X:=X) Tryz.func209 rfl rfl ?_,ho,hl,hj,j9 _ _,if_pos (by simp)⟩;simp[w0,rE,hj,Ip,Oi,Ix,kY]
 by_cases Hu:ez=12
 ·subst Hu;refine⟨_,_,_,kY 0 true,fZ (X:=X) Tryz.func209 rfl rfl ?_,ho,hl,hj,j9 _ _,if_pos (by simp)⟩;simp[w0,rE,hj,Ip,Oi,Ix,kY]
 by_cases c15:ez=15
 ·subst c15;refine⟨_,_,_,kY 0 true,fZ (X:=X) Tryz.func209 rfl rfl ?_,ho,hl,hj,j9 _ _,if_pos (by simp)⟩;simp[w0,rE,hj,Ip,Oi,Ix,kY]
 by_cases c8:ez=8
 ·obtain⟨h0,a,b,c,d,G5,b0,b1⟩:=first (.inl c8)
  have FV:IntKind.i64.wrap b=b:=wrap_i64 (by omega);have TH:eY (Request.mk dh iw iy fv nK ez eQ fJ) 0=b:=by simp[eY,List.getD,h0,G5]
  have hG:=ac7 hl b pn;obtain⟨⟨Iy,Iz⟩,Cj,hT⟩: ∃l2 Cj,qm ⟨bD,bE⟩ b dh=(l2,Cj):=⟨_,_,rfl⟩;have zy:=Lg bD bE b dh hl;rw[hT]at hG zy;simp only at hG zy;subst c8;by_cases w2:Cj=2
  ·subst w2;refine⟨⟨bk,aX,aY,⟨aM,aH⟩,aS⟩,⟨Iy,Iz⟩,cz,kY 0 false,fZ (X:=X) Tryz.func209 rfl rfl ?_,ho,hG,hj,j9 _ _,by unfold sL;rw[if_neg (by simp),if_pos rfl,TH,hT];rfl⟩;simp[rE,hj,Ip,Oi,Ix,kY,h0,G5,FV,zy]
  by_cases w1:Cj=1
  ·subst w1;refine⟨⟨bk,aX,aY,⟨aM,aH⟩,aS⟩,⟨Iy,Iz⟩,cz,⟨⟨0,0,0,0⟩,[], -1,true⟩,fZ (X:=X) Tryz.func209 rfl rfl ?_,ho,hG,hj,⟨⟨by simp,by simp⟩,.nil,by simp⟩,by unfold sL;rw[if_neg (by simp),if_pos rfl,TH,hT];rfl⟩;simp[w0,rE,hj,Ip,Oi,Ix,h0,G5,FV,zy]
  ·refine⟨⟨bk,aX,aY,⟨aM,aH⟩,aS⟩,⟨Iy,Iz⟩,cz,⟨⟨0,0,0,0⟩,[], -1,false⟩,fZ (X:=X) Tryz.func209 rfl rfl ?_,ho,hG,hj,⟨⟨by simp,by simp⟩,.nil,by simp⟩,by unfold sL;rw[if_neg (by simp),if_pos rfl,TH,hT];simp only[if_neg w2,if_neg w1]⟩;simp[w0,rE,hj,Ip,Oi,Ix,h0,G5,FV,zy,w1,w2]
 by_cases c9:ez=9
 ·obtain⟨h0,a,b,c,d,G5,b0,b1⟩:=first (.inr (.inl c9))
  have FV:IntKind.i64.wrap b=b:=wrap_i64 (by omega);have TH:eY (Request.mk dh iw iy fv nK ez eQ fJ) 0=b:=by simp[eY,List.getD,h0,G5]
  have hG:=(GC hl b dh).1;obtain⟨⟨Iy,Iz⟩,own,ok,hT⟩: ∃l2 own ok,fY ⟨bD,bE⟩ b dh=(l2,own,ok):=⟨_,_,_,rfl⟩;have zy:=BX bD bE b dh hl;rw[hT]at hG zy;simp only at hG zy;subst c9;refine⟨⟨bk,aX,aY,⟨aM,aH⟩,aS⟩,⟨Iy,Iz⟩,cz,kY 0 ok,fZ (X:=X) Tryz.func209 rfl rfl ?_,ho,hG,hj,j9 _ _,by unfold sL;rw[if_neg (by simp),if_neg (by simp),if_pos rfl,TH,hT]⟩;simp[w0,rE,hj,Ip,Oi,Ix,kY,h0,G5,FV,zy]
 by_cases CO:ez=10
 ·subst CO;obtain⟨⟨s0,r0,p0,n0,a0,v0,t0,d0⟩,⟨s1,r1,p1,n1,a1,v1,t1,d1⟩,⟨s2,r2,p2,n2,a2,v2,t2,d2⟩,⟨s3,r3,p3,n3,a3,v3,t3,d3⟩,rfl⟩:=Ii rE;have fin: ∀z:Int,xT ⟨⟨0,IntKind.u16.wrap z,0,0⟩,[],z,false⟩:=fun z=>⟨qN _,.nil,by simp⟩;by_cases e0:s0=0
  ·refine⟨⟨bk,aX,aY,⟨aM,aH⟩,aS⟩,⟨bD,bE⟩,cz,⟨⟨0,IntKind.u16.wrap 0,0,0⟩,[],0,false⟩,fZ (X:=X) Tryz.func209 rfl rfl ?_,ho,hl,hj,fin 0,by unfold sL;rw[if_neg (by simp),if_neg (by simp),if_neg (by simp),if_pos rfl];simp[Da,e0]⟩;simp[hj,Ix,w0,dO,Thread.bS,e0]
  by_cases e1:s1=0
  ·refine⟨⟨bk,aX,aY,⟨aM,aH⟩,aS⟩,⟨bD,bE⟩,cz,⟨⟨0,IntKind.u16.wrap 1,0,0⟩,[],1,false⟩,fZ (X:=X) Tryz.func209 rfl rfl ?_,ho,hl,hj,fin 1,by unfold sL;rw[if_neg (by simp),if_neg (by simp),if_neg (by simp),if_pos rfl];simp[Da,e0,e1]⟩;simp[hj,Ix,dO,Thread.bS,e0,e1]
  by_cases e2:s2=0
  ·refine⟨⟨bk,aX,aY,⟨aM,aH⟩,aS⟩,⟨bD,bE⟩,cz,⟨⟨0,IntKind.u16.wrap 2,0,0⟩,[],2,false⟩,fZ (X:=X) Tryz.func209 rfl rfl ?_,ho,hl,hj,fin 2,by unfold sL;rw[if_neg (by simp),if_neg (by simp),if_neg (by simp),if_pos rfl];simp[Da,e0,e1,e2]⟩;simp[hj,Ix,dO,Thread.bS,e0,e1,e2]
  by_cases e3:s3=0
  ·refine⟨⟨bk,aX,aY,⟨aM,aH⟩,aS⟩,⟨bD,bE⟩,cz,⟨⟨0,IntKind.u16.wrap 3,0,0⟩,[],3,false⟩,fZ (X:=X) Tryz.func209 rfl rfl ?_,ho,hl,hj,fin 3,by unfold sL;rw[if_neg (by simp),if_neg (by simp),if_neg (by simp),if_pos rfl];simp[Da,e0,e1,e2,e3]⟩;simp[hj,Ix,dO,Thread.bS,e0,e1,e2,e3]
  ·refine⟨⟨bk,aX,aY,⟨aM,aH⟩,aS⟩,⟨bD,bE⟩,cz,kY 0 false,fZ (X:=X) Tryz.func209 rfl rfl ?_,ho,hl,hj,j9 _ _,by unfold sL;rw[if_neg (by simp),if_neg (by simp),if_neg (by simp),if_pos rfl];simp[Da,e0,e1,e2,e3]⟩;simp[hj,Ix,dO,Thread.bS,kY,e0,e1,e2,e3]
 by_cases KV:ez=11
 ·obtain⟨h0,a,b,c,d,G5,b0,b1⟩:=first (.inr (.inr KV))
  have FV:IntKind.i64.wrap b=b:=wrap_i64 (by omega);have TH:eY (Request.mk dh iw iy fv nK ez eQ fJ) 0=b:=by simp[eY,List.getD,h0,G5]
  obtain⟨qt,rfl⟩:=aaG pn.1;have qt4:qt<4:=by omega
  have bam:(qt:Int)<4:=by omega
  obtain⟨kb,rfl⟩:=aaG b0;subst KV;by_cases e1:kb=qt
  ·subst e1;refine⟨⟨bk,aX,aY,⟨aM,aH⟩,aS⟩,⟨bD,bE⟩,cz,kY 0 false,fZ (X:=X) Tryz.func209 rfl rfl ?_,ho,hl,hj,j9 _ _,by unfold sL;rw[if_neg (by simp),if_neg (by simp),if_neg (by simp),if_neg (by simp),if_pos rfl,TH];exact if_pos (.inl rfl)⟩;simp[rE,hj,Ip,Oi,Ix,kY,h0,G5,FV]
  by_cases e2:4<=kb
  ·have e2i:(4:Int)<=kb:=by omega
   refine⟨⟨bk,aX,aY,⟨aM,aH⟩,aS⟩,⟨bD,bE⟩,cz,kY 0 false,fZ (X:=X) Tryz.func209 rfl rfl ?_,ho,hl,hj,j9 _ _,by unfold sL;rw[if_neg (by simp),if_neg (by simp),if_neg (by simp),if_neg (by simp),if_pos rfl,TH];exact if_pos (.inr (.inl e2i))⟩;simp[rE,hj,Ip,Oi,Ix,kY,h0,G5,FV,e2i]
  have k4:kb<4:=by omega
  have EH:(kb:Int)<4:=by omega
  have e2i: ¬(4:Int)<=kb:=by omega
  have e1i: ¬(kb:Int)=qt:=by omega
  have kl:kb<az.length:=by omega
  by_cases e3:(az[kb]).state=0
  ·have e3':=eq_true e3;refine⟨⟨bk,aX,aY,⟨aM,aH⟩,aS⟩,⟨bD,bE⟩,cz,kY 0 false,fZ (X:=X) Tryz.func209 rfl rfl ?_,ho,hl,hj,j9 _ _,by unfold sL;rw[if_neg (by simp),if_neg (by simp),if_neg (by simp),if_neg (by simp),if_pos rfl,TH];exact if_pos (.inr (.inr (by simp[List.getD,kl,e3])))⟩;simp[rE,hj,Ip,Oi,Ix,kY,h0,G5,FV,e1i,e2i,k4,EH,e3']
  have hjg:az.getD ((kb:Int)).toNat cw=az[kb]:=by simp[List.getD,kl]
  have hjc: ¬((kb:Int)=(qt:Int)\/4<=(kb:Int)\/(az.getD ((kb:Int)).toNat cw).state=0):=by rw[hjg];exact fun h=>by rcases h with h|h|h;exact e1i h;exact e2i h;exact e3 h
  by_cases e4:(az[kb]).state=4
  ·have e4':=eq_true e4;refine⟨⟨bk,aX,aY,⟨aM,aH⟩,aS⟩,⟨bD,bE⟩,cz,kY (IntKind.i64.wrap (az[kb]).code) true,fZ (X:=X) Tryz.func209 rfl rfl ?_,ho,hl,hj,j9 _ _,by unfold sL;rw[if_neg (by simp),if_neg (by simp),if_neg (by simp),if_neg (by simp),if_pos rfl,TH];rw[if_neg hjc,if_pos (by rw[hjg];exact e4),hjg]⟩;simp[rE,hj,Ip,Oi,Ix,kY,h0,G5,FV,e1i,e2i,k4,EH,e3,e4']
  ·obtain⟨wC,aer⟩: ∃z,cz.set qt (kb:Int)=z:=⟨_,rfl⟩;have lb:(cz.map (V.int .i64)).set qt (V.int .i64 (kb:Int))=wC.map (V.int .i64):=by rw[<-aer,abL]
   have Af:wC.length=4:=by rw[<-aer];simp[hj]
   have a1a: ∀(f:Int->V),List.take 4 (wC.map f)=wC.map f:=fun f=>aZ (by simp;omega);refine⟨⟨bk,aX,aY,⟨aM,aH⟩,aS⟩,⟨bD,bE⟩,wC,⟨⟨0,0,0,0⟩,[], -1,true⟩,fZ (X:=X) Tryz.func209 rfl rfl ?_,ho,hl,Af,⟨⟨by simp,by simp⟩,.nil,by simp⟩,by unfold sL;rw[if_neg (by simp),if_neg (by simp),if_neg (by simp),if_neg (by simp),if_pos rfl,TH];rw[if_neg hjc,if_neg (by rw[hjg];exact e4)];simp only[aaH,aer];rfl⟩;simp[w0,rE,hj,Ip,Oi,h0,G5,FV,e1i,e2i,k4,EH,e3,e4,qt4,bam,lb,Af,a1a]
 obtain⟨⟨TK,TL,TM,⟨TN,TO⟩,TP⟩,⟨⟨x1,x2,x3,x4⟩,x5,x6,x7⟩,e,zy,hog,hxg,hdx⟩:=a9z bk aX aY aM aH aS dh iw iy fv nK ez eQ fJ ho (by omega) (by omega) hdv;refine⟨⟨TK,TL,TM,⟨TN,TO⟩,TP⟩,⟨bD,bE⟩,cz,⟨⟨x1,x2,x3,x4⟩,x5,x6,x7⟩,fZ (X:=X) Tryz.func209 rfl rfl ?_,hog,hl,hj,hxg,by unfold sL;rw[if_neg (fun h=>by rcases h with h|h|h;exact c0 h;exact Hu h;exact c15 h),if_neg c8,if_neg c9,if_neg CO,if_neg KV,hdx]⟩;simp[rE,hj,Ip,Oi,Ix,c0,Hu,c15,c8,c9,CO,KV,zy]
end Go.Proofs.YtdngefmliibcgaaGreat
