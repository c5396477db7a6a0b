/- part -/
import Derived.Test.YtdngefmliibcgaaGreatV14
set_option linter.all false
set_option maxRecDepth 20000
set_option maxHeartbeats 20000000
namespace Go.Proofs.YtdngefmliibcgaaGreat
open Go Go.Abs Go.Abs.kI Qf
variable  {ids bw:Nat->Nat}{n j o i k T C L:Nat}{h hx h':bh}{rs:List (List Canon)}{d file pc a t key:Int}{l:List fQ}{r:Request}{x:lO}{c:Cell}{p:Prog}{m m':aO}{S:Nat->Prop}{vB vC vL:V}
@[simp]def ame(bn:List (List Canon))(bc:List fQ)(h offset:Int)(hf:jD (bJ.mk bn bc)):bU X 284 [KKk bn bc,.int .i64 h,.int .i64 offset]=some (.dP [KKr ((sK (bJ.mk bn bc) h offset).1),.bool ((sK (bJ.mk bn bc) h offset).2)]):=by
 refine aaA ?_;have hl:=hf.lens;have l1:bn.length<=4:=hl.data;have l2:=hl.each;have l3:bc.length<=1000000000:=hl.opens;simp only at l2;cases ho:tc (bJ.mk bn bc) h with
 |false=>
  have e:sK (bJ.mk bn bc) h offset=((bJ.mk bn bc),false):=by unfold sK;rw[if_neg (by simp[ho])]
  rw[e];simp[l1,l2,l3,ho]
 |true=>
  obtain⟨k,rfl,hk,j,hj,e1,e2,e3,e4,e5⟩:=qO hf ho;simp only at hk hj e1 e2 e3 e4 e5;have xY:(k:Int)<bc.length:=by omega
  have hji:(j:Int)<bn.length:=by omega
  have s1:bc.getD (k:Int).toNat closed=bc[k]:=e1;have s2:bn.getD (bc.getD (k:Int).toNat closed).file.toNat []=bn[j]:=e2;by_cases c1:0<=offset
  case neg=>
   have e:sK (bJ.mk bn bc) k offset=((bJ.mk bn bc),false):=by unfold sK;rw[if_pos ho,if_neg (fun h=>c1 h.1)]
   have Yu:offset<0:=by omega
   rw[e];simp[l1,l2,l3,ho,Yu]
  have Yu: ¬offset<0:=by omega
  by_cases c2:offset<=((bn[j]).length:Int)
  case neg=>
   have e:sK (bJ.mk bn bc) k offset=((bJ.mk bn bc),false):=by unfold sK;rw[if_pos ho,if_neg (fun h=>c2 (by have:=h.2;simp only at this;rwa[s2]at this))]
   have c2':((bn[j]).length:Int)<offset:=by omega
   rw[e];simp[l1,l2,l3,ho,Yu,hk,xY,hj,hji,e3,c2']
  have c2': ¬((bn[j]).length:Int)<offset:=by omega
  have e:sK (bJ.mk bn bc) k offset=(⟨bn,bc.set k ⟨(bc[k]).file,offset,(bc[k]).write⟩⟩,true):=by
   have s3:bc.getD k closed=bc[k]:=s1;unfold sK;rw[if_pos ho,if_pos ⟨c1,by simp only;rw[s2];exact c2⟩];simp only[aaH,s3]
  rw[e];simp[l1,l2,l3,ho,Yu,hk,xY,hj,hji,e3,c2'];rw[show(bc[k].e.put 1 (V.int .i64 offset))=fQ.e ⟨(bc[k]).file,offset,(bc[k]).write⟩ from rfl,<-List.map_set (f:=fQ.e),aZ (by simp),wj,abO];try simp[e3]
@[simp]def amf(bn:List (List Canon))(bc:List fQ)(h n:Int)(hf:jD (bJ.mk bn bc)):bU X 281 [KKk bn bc,.int .i64 h,.int .i64 n]=some (.dP [KKr ((pf (bJ.mk bn bc) h n).1),.sl false (((pf (bJ.mk bn bc) h n).2.1).map Canon.e),.bool ((pf (bJ.mk bn bc) h n).2.2)]):=by
 refine aaA ?_;have hl:=hf.lens;have l1:bn.length<=4:=hl.data;have l2:=hl.each;have l3:bc.length<=1000000000:=hl.opens;simp only at l2;cases ho:tc (bJ.mk bn bc) h with
 |false=>
  have e:pf (bJ.mk bn bc) h n=((bJ.mk bn bc),[],false):=by unfold pf;rw[if_neg (fun h=>by rw[ho]at h;cases h.1)]
  rw[e];simp[l1,l2,l3,ho]
 |true=>
  obtain⟨k,rfl,hk,j,hj,e1,e2,e3,e4,e5⟩:=qO hf ho;simp only at hk hj e1 e2 e3 e4 e5;have xY:(k:Int)<bc.length:=by omega
  have hji:(j:Int)<bn.length:=by omega
  by_cases c1:0<=n
  case neg=>
   have e:pf (bJ.mk bn bc) k n=((bJ.mk bn bc),[],false):=by unfold pf;rw[if_neg (fun h=>c1 h.2.1)]
   have Yu:n<0:=by omega
   rw[e];simp[l1,l2,l3,ho,Yu]
  have Yu: ¬n<0:=by omega
  cases c2:(bc[k]).write with
  |true=>
   have e:pf (bJ.mk bn bc) k n=((bJ.mk bn bc),[],false):=by unfold pf;rw[if_neg (fun h=>by have:=h.2.2;rw[e1,c2]at this;cases this)]
   rw[e];simp[l1,l2,l3,ho,Yu,hk,xY,c2]
  |false=>
   obtain⟨o,hoo⟩: ∃o:Nat,(bc[k]).offset=o:=⟨(bc[k]).offset.toNat,by omega⟩;obtain⟨m,hm⟩: ∃m:Nat,DX (bJ.mk bn bc) k n=m:=⟨(DX (bJ.mk bn bc) k n).toNat,by unfold DX;rw[e1,e2];split<;>omega⟩;have hmx:=hm;unfold DX at hmx;rw[e1,e2,hoo]at hmx;have h64:=(hf.each j hj).2;simp only at h64;have e:pf (bJ.mk bn bc) k n=(⟨bn,bc.set k ⟨(bc[k]).file,(o:Int)+m,false⟩⟩,((bn[j]).drop o).take m,true):=by
    unfold pf;rw[if_pos ⟨ho,c1,by rw[e1];exact c2⟩,hm,e1,e2,hoo,c2];simp
   rw[e];have ho5:(o:Int)<=(bn[j]).length:=by omega
   have brk:o<=(bn[j]).length:=by omega
   have sU:IntKind.i64.wrap (((bn[j]).length:Int)-o)=((bn[j]).length:Int)-o:=wrap_i64 (by omega);obtain⟨q,hq⟩: ∃q:Nat,o+m=q:=⟨_,rfl⟩;have hqi:(o:Int)+m=q:=by omega
   have hle:(q:Int)<=(bn[j]).length:=by split at hmx<;>omega
   have hlen:q<=(bn[j]).length:=by omega
   have H8:IntKind.i64.wrap (q:Int)=q:=wrap_i64 (by omega);have hoq:o<=q:=by omega
   have hqm:q-o=m:=by omega
   have hb:((bn[j]).length:Int)<=1000000000:=by omega
   have lS:(if((bn[j]).length:Int)-o<n then((bn[j]).length:Int)-o else n)=m:=hmx;simp[l1,l2,l3,ho,Yu,hk,xY,c2,hj,hji,e3,hoo,sU,hqi,H8,hle,lS,hoq,hqm,aeL];refine⟨fun x hx=> ?_,fun _=>⟨⟨by omega,by omega⟩,fun _ _=>⟨?_,?_⟩⟩⟩
   ·have:=abB (aaS hx);simp only[adC]at this;obtain⟨c,_,rfl⟩:=this;rfl
   ·rw[show(bc[k].e.put 1 (V.int .i64 q))=fQ.e ⟨(bc[k]).file,q,(bc[k]).write⟩ from rfl,<-List.map_set (f:=fQ.e),aZ (by simp),wj,abO,e3,c2]
   ·rw[aZ (by simp),<-List.map_drop,<-List.map_take,RR]
def CpI(f:bJ)(k k1 c4 c6 i:Nat)(S:St):Prop:= ∃vD,(S.f 1= .ptr k 0 0/\S.f 2= .ptr k1 0 0/\S.f 3= .ptr c6 0 0/\S.f 11= .sl false (f.data.map bz)/\S.f 12= .int .i64 (f.data.length:Int)/\S.f 13= .int .i64 (i:Int))/\
 (S.h k=some ⟨2,[KKr f],true⟩/\S.h k1=some ⟨2,[.agg [.sl true [],.sl true []]],true⟩/\S.h c6=some ⟨2,[.agg [vD,.cx c4 0 f.opens.length]],true⟩/\S.h c4=some ⟨3,f.opens.map fQ.e,false⟩)/\
 ov (k+12) S.n (f.data.take i) vD S.h/\k+12<=S.n
@[simp]def afb(bn:List (List Canon))(bc:List fQ)(k:Nat)(hl:bn.length<=4)(hx: ∀i (h:i<bn.length),(bn[i]).length<=1000000000)(ho:bc.length<=1000000000): ∃v h' k',cL X 205 [KKk bn bc] pK k=some (v,h',k')/\ ∃vD,v= .agg [vD,.cx (k+4) 0 bc.length]/\h' (k+4)=some ⟨3,bc.map fQ.e,false⟩/\ov (k+12) k' bn vD h'/\k+12<=k':=by
 refine aaB ?_;simp[aaE];refine⟨⟨by omega,by omega⟩,fun _ _=> ?_⟩;obtain⟨k1,EG⟩: ∃q,k+1=q:=⟨_,rfl⟩;obtain⟨c4,hc4⟩: ∃q,k+4=q:=⟨_,rfl⟩;obtain⟨c6,hc6⟩: ∃q,k+6=q:=⟨_,rfl⟩;refine lW (fun i S=>CpI (bJ.mk bn bc) k k1 c4 c6 i S) bn.length ?_ 0 (by omega) ?_
 ·rintro i S hi ⟨vD,⟨f1,f2,f3,f11,f12,f13⟩,⟨h0,h1,h6,h4⟩,HR,hk⟩;simp only at h0 f11 f12 HR h6 h4;by_cases gZ:i<bn.length
  case neg=>
   have bL: ¬(i:Int)<bn.length:=by omega
   have ei:i=bn.length:=by omega
   subst ei;rw[abC]at HR;have n1: ¬c6=k1:=by omega
   have n2: ¬c4=k1:=by omega
   have v5:vD.fits 1=true/\vD.cells=[vD]:=by
    rcases HR with⟨_,rfl⟩|⟨_,R,_,rfl,_⟩<;>exact⟨rfl,rfl⟩
   rcases HR with⟨e0,rfl⟩|⟨e0,R,ids,rfl,r1,r2,r3,r4⟩
   ·simp[aaE,f2,f3,f12,f13,h1,h6,bL];refine⟨.sl true [],by simp[hc4],by rw[hc4];simp[n2,h4],.inl ⟨e0,rfl⟩,by omega⟩
   ·simp[aaE,f2,f3,f12,f13,h1,h6,bL];refine⟨.cx R 0 bn.length,by simp[hc4],by rw[hc4];simp[n2,h4],.inr ⟨e0,R,ids,rfl,?_,by omega,fun j g=> ?_,r4⟩,by omega⟩
    ·rw[aR,if_neg (by omega)];exact r1
    ·obtain⟨a1,a2,a3,a4⟩:=r3 j g;exact⟨by rw[aR,if_neg (by omega)];exact a1,a2,by omega,a4⟩
  have bL:(i:Int)<bn.length:=by omega
  have hw:IntKind.i64.wrap ((i:Int)+1)=i+1:=wrap_i64 (by omega);have hxi:=hx i gZ;obtain⟨x,pH⟩: ∃x,bn[i]=x:=⟨_,rfl⟩;rw[pH]at hxi;have lu:=fD (a:=bn) gZ;rw[pH]at lu;have nd:(bn.take i).length=i:=acW (by omega);obtain⟨rs,B9⟩: ∃q,bn.take i=q:=⟨_,rfl⟩;rw[B9]at HR lu nd;have n0: ∀j,¬k=S.n+j:=fun j=>by omega
  have n1: ∀j,¬k1=S.n+j:=fun j=>by omega
  have n4: ∀j,¬c4=S.n+j:=fun j=>by omega
  have n6: ∀j,¬c6=S.n+j:=fun j=>by omega
  have n6': ∀j,¬S.n+j=c6:=fun j=>by omega
  have e0: ¬k=c6:=by omega
  have e1: ¬k1=c6:=by omega
  have e4: ¬c4=c6:=by omega
  rcases HR with⟨r0,rfl⟩|⟨r0,R,ids,rfl,r1,r2,r3,r4⟩
  ·simp[aaE,f3,f11,f12,f13,h6,gZ,bL,hw,pH,tD,n6];have e9: ∀j,¬S.n+j=c6:=fun j=>by omega
   refine⟨⟨by omega,by omega⟩,fun _ _=>⟨⟨by omega,by omega⟩,.cx (S.n+9) 0 1,⟨by simp[aR,f1],by simp[aR,f2],by simp[aR,f3],by simp[aR,f11],by simp[aR,f12],by simp[aR]⟩,⟨by simp[aR,n0,e0,h0],by simp[aR,n1,e1,h1],by simp[aR],by simp[aR,n4,e4,h4]⟩,?_,by simp only;omega⟩⟩;rw[lu,r0];exact ov.Ue (id:=S.n+7) (R:=S.n+9) (by simp[aR,e9]) (by simp[aR,e9]) (by simp only;omega)
  ·have nR: ∀j,¬R=S.n+j:=fun j=>by omega
   have nR6: ¬c6=R:=by omega
   have rl:=nr ids rs;have rt:(jO ids rs).take rs.length=jO ids rs:=aZ (by omega);simp[aaE,f3,f11,f12,f13,h6,gZ,bL,hw,pH,tD,n6,r1,nR,nR6,rl,rt];have e9: ∀j,¬S.n+j=c6:=fun j=>by omega
   have e10: ∀j,¬S.n+j=R:=fun j=>by omega
   have q0: ¬k=R:=by omega
   have q1: ¬k1=R:=by omega
   have q4: ¬c4=R:=by omega
   refine⟨⟨by omega,by omega⟩,fun _ _=>⟨⟨by omega,by omega⟩,fun _ _=>⟨⟨by omega,by omega⟩,.cx (S.n+9) 0 (rs.length+1),⟨by simp[aR,f1],by simp[aR,f2],by simp[aR,f3],by simp[aR,f11],by simp[aR,f12],by simp[aR]⟩,⟨by simp[aR,n0,e0,q0,h0],by simp[aR,n1,e1,q1,h1],by simp[aR],by simp[aR,n4,e4,q4,h4]⟩,?_,by simp only;omega⟩⟩⟩;rw[lu];refine ov.snoc (n:=S.n) (id:=S.n+7) (R:=R) (R':=S.n+9) (h:=S.h) (ids:=ids) r3 r4 (by simp[aR,e9]) (by simp[aR,e9,e10]) (fun l a b c=> ?_) (by simp only;omega);have w1: ∀j,¬l=S.n+j:=fun j=>by omega
   have w2: ¬l=c6:=by omega
   simp[aR,w1,w2,c]
 ·simp;refine⟨.sl true [],⟨by simp[aR],by simp[aR,<-EG],by simp[aR,<-hc6],by simp[aR],by simp[aR],by simp[aR]⟩,⟨by simp[aR],by simp[aR,<-EG],by simp[aR,<-hc6,<-hc4],by simp[aR,<-hc4]⟩,.inl ⟨by simp,rfl⟩,by simp only;omega⟩
def Agr(ids:Nat->Nat)(n:Nat)(h hx:bh):Prop:= ∀m,m<n->hx (ids m)=h (ids m)
def Xg(ids:Nat->Nat)(n x:Nat):Prop:= ∀m,m<n->ids m≠x
def afc(ids:Nat->Nat)(n:Nat)(h:bh):Agr ids n h h:=fun _ _=>rfl
def E4(x:Nat)(v:Option Ob)(ho:Xg ids n x)(H:Agr ids n h hx):Agr ids n h (aR hx x v):=fun m hm=>by
 rw[aR,if_neg (ho m hm)];exact H m hm
def Gew(ids:Nat->Nat)(n c:Nat):Prop:= ∀m,m<n->c<=ids m
def SI(c:Nat)(ho:Gew ids n c):Agr ids n h (fun id=>if id<c then h' id else h id):=fun m hm=>by
 have:=ho m hm;simp only;rw[if_neg (by omega)]
def zm(r3: ∀i (g:i<rs.length),h (ids i)=some ⟨4,(rs[i]).map Canon.e,false⟩)(hh:Agr ids rs.length h hx):cF (List.take rs.length (List.map (cy hx 9) (jO ids rs)))=some (rs.map bz):=by
 have t1:List.take rs.length (List.map (cy hx 9) (jO ids rs))=List.map (cy hx 9) (jO ids rs):=aZ (by simp[nr]);rw[t1];unfold jO;refine nq _ _ fun i hi=> ?_;have e1:hx (ids i)=some ⟨4,(rs[i]).map Canon.e,false⟩:=by rw[hh i hi,r3 i hi]
 simp[cy,e1,bz]
def zT(l:List (List Canon)):eV (l.map bz)=l.map bz:=qI (fun x=>by unfold bz;simp[V.lP]) l
def SJ(x:List Canon)(D:Nat):(jO ids rs).set j (.cx D 0 x.length)=jO (aR ids j D) (rs.set j x):=by
 apply abF;intro i;simp only[jO,ack,abN,adN];by_cases e:j=i
 ·subst e;by_cases hj:j<rs.length
  ·simp[hj,aR]
  ·simp[hj]
 ·simp only[e,if_false];congr 1;funext y;simp[aR,aaU e]
def Ea(d l:List Canon)(o:Nat):lH d l o 0=d:=by simp[lH]
def Xh{d l:List Canon}(ho:o<=d.length)(hi:i<l.length)(h:o+i<(lH d l o i).length):(lH d l o i).set (o+i) l[i]=lH d l o (i+1):=by
 rw[xo ho (by omega)]at h;have h2:o+i<d.length:=by split at h<;>omega
 unfold lH;have l1:(d.take o++l.take i).length=o+i:=by simp;omega
 rw[adV (o+i) _ (by omega),l1,acV,fD hi,acH h2,adO];simp only[acC,aeT,aeV,aaE]
def Xi{d l:List Canon}(ho:o<=d.length)(hi:i<l.length)(h: ¬o+i<(lH d l o i).length):lH d l o i++ [l[i]]=lH d l o (i+1):=by
 rw[xo ho (by omega)]at h;have h2:d.length<=o+i:=by split at h<;>omega
 unfold lH;rw[List.drop_eq_nil_of_le h2,List.drop_eq_nil_of_le (by omega),fD hi];simp
def WrI(d0 l:List Canon)(fo:List fQ)(rs:List (List Canon))(ids:Nat->Nat)(h0:bh)(k0 j k o n R i:Nat)(S:St):Prop:= ∃D,
 (S.f 2= .sl false (l.map Canon.e)/\S.f 6= .ptr 1 0 0/\S.f 9= .ptr 6 0 0/\S.f 10= .ptr 12 k 0/\S.f 11= .int .i64 (n:Int)/\S.f 12= .cx D 0 (lH d0 l o i).length/\S.f 57= .int .i64 (n:Int)/\S.f 58= .int .i64 (i:Int))/\
 (S.h 1=some ⟨2,[.agg [.sl true [],.sl true []]],true⟩/\S.h 6=some ⟨2,[.agg [.cx R 0 rs.length,.cx 12 0 fo.length]],true⟩/\S.h 12=some ⟨3,fo.map fQ.e,false⟩/\S.h R=some ⟨1,jO ids rs,true⟩/\S.h D=some ⟨4,(lH d0 l o i).map Canon.e,false⟩)/\
 (∀m,m<rs.length->m≠j->S.h (ids m)=h0 (ids m))/\(D=ids j\/k0<=D)/\D<S.n/\k0<=S.n
@[simp]def aib(bn:List (List Canon))(bc:List fQ)(h:Int)(l:List Canon)(hf:jD (bJ.mk bn bc))(jX:l.length<=1000000000):bU X 280 [KKk bn bc,.int .i64 h,.sl false (l.map Canon.e)]=some (.dP [KKr ((ot (bJ.mk bn bc) h l).1),.int .i64 ((ot (bJ.mk bn bc) h l).2.1),.bool ((ot (bJ.mk bn bc) h l).2.2)]):=by
 have hl:=hf.lens;have l1:bn.length<=4:=hl.data;have l2:=hl.each;have l3:bc.length<=1000000000:=hl.opens;simp only at l2;obtain⟨v0,h0,k0,eC,vD,rfl,g12,HR,hk0⟩:=afb bn bc 8 l1 l2 l3;simp only[Nat.reduceAdd]at eC g12 HR hk0;refine aaA ?_;have brq:vD.fits 1=true:=by rcases HR with⟨_,rfl⟩|⟨_,R,_,rfl,_⟩<;>rfl
 cases ho:tc (bJ.mk bn bc) h with
 |false=>
  have e:ot (bJ.mk bn bc) h l=((bJ.mk bn bc),0,false):=by unfold ot;rw[if_neg (fun h=>by rw[ho]at h;cases h.1)]
  rw[e];rcases HR with⟨r0,rfl⟩|⟨r0,R,ids,rfl,r1,r2,r3,r4⟩
  ·simp(maxSteps:=10000000)(maxDischargeDepth:=30)[l1,l3,jX,ho,eC,g12];exact r0
  ·have n1: ¬R=1:=by omega
   have n6: ¬R=6:=by omega
   have n8: ¬R<8:=by omega
   have rl:=nr ids bn;have HZ: ∀H,Agr ids bn.length h0 H->_:=fun H hO=>zm (fun i g=>(r3 i g).1) hO;have a8:Gew ids bn.length 8:=fun m g=>by have:=r3 m g;omega
   have o1:Xg ids bn.length 1:=fun m g=>by have:=r3 m g;omega
   have o6:Xg ids bn.length 6:=fun m g=>by have:=r3 m g;omega
   simp(maxSteps:=10000000)(maxDischargeDepth:=30)[l1,l2,l3,jX,ho,eC,g12,r1,n1,n6,n8,rl,HZ,E4,SI,a8,o1,o6,zT]
 |true=>
  obtain⟨k,rfl,hk,j,hj,e1,e2,e3,e4,e5⟩:=qO hf ho;simp only at hk hj e1 e2 e3 e4 e5;have xY:(k:Int)<bc.length:=by omega
  have hji:(j:Int)<bn.length:=by omega
  rcases HR with⟨r0,rfl⟩|⟨r0,R,ids,rfl,r1,r2,r3,r4⟩
  ·rw[r0]at hj;simp at hj
  have n1: ¬R=1:=by omega
  have n6: ¬R=6:=by omega
  have n8: ¬R<8:=by omega
  have rl:=nr ids bn;have HZ: ∀H,Agr ids bn.length h0 H->_:=fun H hO=>zm (fun i g=>(r3 i g).1) hO;have a8:Gew ids bn.length 8:=fun m g=>by have:=r3 m g;omega
  have o1:Xg ids bn.length 1:=fun m g=>by have:=r3 m g;omega
  have o6:Xg ids bn.length 6:=fun m g=>by have:=r3 m g;omega
  by_cases c2:(bc[k]).write=true
  case neg=>
   have e:ot (bJ.mk bn bc) k l=((bJ.mk bn bc),0,false):=by unfold ot;rw[if_neg (fun h=>c2 (by have:=h.2.1;rw[e1]at this;exact this))]
   have c2':(bc[k]).write=false:=by simpa using c2
   rw[e];simp(maxSteps:=10000000)(maxDischargeDepth:=30)[l1,l2,l3,jX,ho,eC,g12,r1,n1,n6,n8,rl,HZ,E4,SI,a8,o1,o6,zT,hk,xY,c2']
  by_cases c3:jd l=true
  case neg=>
   have e:ot (bJ.mk bn bc) k l=((bJ.mk bn bc),0,false):=by unfold ot;rw[if_neg (fun h=>c3 h.2.2)]
   rw[e];simp(maxSteps:=10000000)(maxDischargeDepth:=30)[l1,l2,l3,jX,ho,eC,g12,r1,n1,n6,n8,rl,HZ,E4,SI,a8,o1,o6,zT,hk,xY,c2,c3]
  obtain⟨⟨fi,off,wr⟩,hoe⟩: ∃x,bc[k]=x:=⟨_,rfl⟩;rw[hoe]at e1 e3 e4 e5 c2;simp only at e3 e4 e5 c2;subst e3 c2;have f64:=(hf.each j hj).2;simp only at f64;obtain⟨o,rfl⟩:=aaG e4;obtain⟨d0,PC⟩: ∃d0,bn[j]=d0:=⟨_,rfl⟩;rw[PC]at e2 e5 f64;have sU:IntKind.i64.wrap (64-(o:Int))=64-o:=wrap_i64 (by omega);obtain⟨n,hn⟩: ∃n:Nat,(if 64-(o:Int)<(l.length:Int) then 64-(o:Int) else l.length)=(n:Int):=by
   split
   ·exact⟨(64-(o:Int)).toNat,by omega⟩
   ·exact⟨l.length,rfl⟩
  have YT:n<=l.length/\o+n<=64:=by split at hn<;>omega
  have en:ry (bJ.mk bn bc) k l=n:=by unfold ry;rw[e1];exact hn
  have e:ot (bJ.mk bn bc) k l=(⟨bn.set j (lH d0 l o n),bc.set k ⟨(j:Int),(o:Int)+n,true⟩⟩,(n:Int),true):=by
   unfold ot;rw[if_pos ⟨ho,by rw[e1],c3⟩,en,e1,e2];rfl
  obtain⟨Va,B9⟩: ∃x,bn.set j (lH d0 l o n)=x:=⟨_,rfl⟩;obtain⟨fo',hfo⟩: ∃x,bc.set k ⟨(j:Int),(o:Int)+n,true⟩=x:=⟨_,rfl⟩;rw[B9,hfo]at e;rw[e];have e6: ∀h',(jO ids bn)[j]= .cx (ids j) 0 d0.length:=fun h'=>by rw[<-PC];simp[jO]
  have e7:h0 (ids j)=some ⟨4,d0.map Canon.e,false⟩:=by rw[<-PC];exact(r3 j hj).1
  have q8: ¬ids j<8:=by have:=r3 j hj;omega
  have q1: ¬ids j=1:=by omega
  have q6: ¬ids j=6:=by omega
  simp(maxSteps:=10000000)(maxDischargeDepth:=30)[l1,l2,l3,jX,ho,eC,g12,r1,n1,n6,n8,rl,hk,xY,hoe,c3,hj,hji,sU,hn,e6,e7,q8,q1,q6];refine lW (fun i S=>WrI d0 l bc bn ids h0 k0 j k o n R i S) n ?_ 0 (by omega) ?_
  ·rintro i S hi ⟨D,⟨f2,f6,f9,f10,f11,f12,f57,f58⟩,⟨g1,g6,afd,gR,gD⟩,gO,hD,hDn,hkn⟩;have rj:=r3 j hj;have d1: ¬D=1:=by omega
   have d6: ¬D=6:=by omega
   have d12: ¬D=12:=by omega
   have dR: ¬D=R:=by omega
   obtain⟨y,hy⟩: ∃y,lH d0 l o i=y:=⟨_,rfl⟩;have hle:=xo (d:=d0) (l:=l) (o:=o) (n:=i) (by omega) (by omega);rw[hy]at f12 gD hle;have hyl:y.length<=64:=by split at hle<;>omega
   by_cases gZ:i<n
   ·have bL:(i:Int)<n:=by omega
    have Fg:i<l.length:=by omega
    have gS:=mZ i (by omega);obtain⟨q,hq⟩: ∃q,o+i=q:=⟨_,rfl⟩;obtain⟨q,hq⟩: ∃q,o+i=q:=⟨_,rfl⟩;have hwo:IntKind.i64.wrap ((o:Int)+(i:Int))=(q:Int):=by rw[wrap_i64 (by omega)];omega
    have m1: ¬1=D:=by omega
    have m6: ¬6=D:=by omega
    have m12: ¬12=D:=by omega
    have mR: ¬R=D:=by omega
    by_cases hp:q<y.length
    ·have hpi:(q:Int)<(y.length:Int):=by omega
     have aup: ¬(y.length:Int)<=(q:Int):=by omega
     simp(maxSteps:=10000000)(maxDischargeDepth:=30)[f2,f6,f9,f10,f11,f12,f57,f58,g1,g6,afd,gR,gD,d1,d6,d12,dR,gZ,bL,Fg,gS,hwo,hk,hoe,hp,hpi,aup];have lh: ∀(a c:Canon),(y.map Canon.e).set q (a.e.put 0 ((KKs c:V)))=(y.set q c).map Canon.e:=fun a c=>by rw[abO];rfl
     have HZ:=Xh (d:=d0) (l:=l) (o:=o) (i:=i) (by omega) Fg (by rw[hy,hq];exact hp);rw[hy,hq]at HZ;refine⟨D,⟨by simp[aR,f2],by simp[aR,f6],by simp[aR,f9],by simp[aR,f10],by simp[aR,f11],by simp[aR,f12,<-HZ],by simp[aR,f57],by simp[aR]⟩,⟨by simp[aR,m1,g1],by simp[aR,m6,g6],by simp[aR,m12,afd],by simp[aR,mR,gR],?_⟩,fun m hm hmj=> ?_,hD,by simp only;omega,by simp only;omega⟩
     ·simp only[aR,if_true,lh,HZ]
     ·have h9:=r3 m hm;have h8:=r4 m j hm hj;have w: ¬ids m=D:=by omega
      simp only[aR,w,if_false];exact gO m hm hmj
    ·have hpi: ¬(q:Int)<(y.length:Int):=by omega
     have aup:(y.length:Int)<=(q:Int):=by omega
     have hya:(y.length+1)*24<=140737488355328/\y.length<=4611686018427387903:=by omega
     simp(maxSteps:=10000000)(maxDischargeDepth:=30)[f2,f6,f9,f10,f11,f12,f57,f58,g1,g6,afd,gR,gD,d1,d6,d12,dR,gZ,bL,Fg,gS,hwo,hk,hoe,hp,hpi,aup,hya];have HZ:=Xi (d:=d0) (l:=l) (o:=o) (i:=i) (by omega) Fg (by rw[hy,hq];exact hp);rw[hy]at HZ;obtain⟨N,hN⟩: ∃N,S.n+1+2+9+6=N:=⟨_,rfl⟩;rw[hN];have mN: ¬1=N/\ ¬6=N/\ ¬12=N/\ ¬R=N:=by omega
     obtain⟨mN1,mN6,bbk,mNR⟩:=mN;refine⟨N,⟨by simp[aR,f2],by simp[aR,f6],by simp[aR,f9],by simp[aR,f10],by simp[aR,f11],by simp[aR,<-HZ],by simp[aR,f57],by simp[aR]⟩,⟨by simp[aR,m1,mN1,g1],by simp[aR,m6,mN6,g6],by simp[aR,m12,bbk,afd],by simp[aR,mR,mNR,gR],?_⟩,fun m hm hmj=> ?_,.inr (by omega),by simp only;omega,by simp only;omega⟩
     ·simp only[aR,if_true,<-HZ,abL];rfl
     ·have h9:=r3 m hm;have h8:=r4 m j hm hj;have w: ¬ids m=D:=by omega
      have w2: ¬ids m=N:=by omega
      simp only[aR,w,w2,if_false];exact gO m hm hmj
   ·have bL: ¬(i:Int)<n:=by omega
    have ei:i=n:=by omega
    subst ei;rw[hy]at B9;have y1: ¬R=1/\ ¬R=6/\ ¬R=12:=by omega
    obtain⟨y1,y6,y12⟩:=y1;have z1: ¬1=R/\ ¬6=R/\ ¬12=R:=by omega
    obtain⟨z1,z6,z12⟩:=z1;have afe:=SJ (ids:=ids) (rs:=bn) (j:=j) y D;have aqm:(bc.map fQ.e).set k ((fQ.e ⟨(j:Int),(o:Int),true⟩).put 1 (.int .i64 ((o:Int)+(i:Int))))=(bc.set k ⟨(j:Int),(o:Int)+(i:Int),true⟩).map fQ.e:=by rw[abO];rfl
    have R3: ∀a (g:a<(bn.set j y).length),S.h (aR ids j D a)=some ⟨4,((bn.set j y)[a]).map Canon.e,false⟩:=fun a g=>by
     by_cases e:a=j
     ·subst e;simp[aR,gD]
     ·have e': ¬j=a:=fun h=>e h.symm;have ga:a<bn.length:=by simpa using g
      simp only[aR,e,if_false,abU e'];rw[gO a ga e];exact(r3 a ga).1
    have O: ∀x,x≠D->(x<20\/x=R)->Xg (aR ids j D) bn.length x:=fun x hx hx2 m hm=>by
     have h9:=r3 m hm;by_cases e:m=j
     ·subst e;simp[aR];omega
     ·simp only[aR,e,if_false];omega
    have O1:=O 1 (by omega) (by omega);have O6:=O 6 (by omega) (by omega);have O12:=O 12 (by omega) (by omega);have OR:=O R (by omega) (.inr rfl);obtain⟨iJ,uj⟩: ∃x,aR ids j D=x:=⟨_,rfl⟩;have rl':Va.length=bn.length:=by rw[<-B9];simp
    have fl':fo'.length=bc.length:=by rw[<-hfo];simp
    rw[uj]at afe R3 O1 O6 O12 OR;rw[B9]at afe;simp only[B9]at R3;rw[hfo]at aqm;have HZ: ∀H,Agr iJ bn.length S.h H->_:=fun H hO=>zm R3 (by rw[rl'];exact hO);rw[rl']at HZ;have fkf: ∀(f:fQ->V),List.take bc.length (fo'.map f)=fo'.map f:=fun f=>aZ (by simp;omega);have rle:=nr iJ Va;have qK:IntKind.i64.wrap ((o:Int)+(i:Int))=(o:Int)+(i:Int):=wrap_i64 (by omega);simp(maxSteps:=10000000)(maxDischargeDepth:=30)[f2,f6,f9,f10,f11,f12,f57,f58,g1,g6,afd,gR,gD,d1,d6,d12,dR,gZ,bL,hk,hoe,hj,hji,rl,e6,y1,y6,y12,z1,z6,z12,afe,aqm,qK,rle,rl',fl',fkf,HZ,E4,afc,O1,O6,O12,OR,zT]
  ·simp(maxSteps:=10000000)(maxDischargeDepth:=30)[];refine⟨ids j,⟨by simp[aR],by simp[aR],by simp[aR],by simp[aR],by simp[aR],by simp[aR,Ea],by simp[aR],by simp[aR]⟩,⟨by simp[aR],by simp[aR],?_,?_,?_⟩,fun m hm _=> ?_,.inl rfl,by simp only;have:=r3 j hj;omega,by simp only;omega⟩
   ·simp[aR,g12]
   ·simp[aR,n6,n8,r1]
   ·simp[aR,q6,q8,e7,Ea]
   ·have h9:=r3 m hm;have w1: ¬ids m=6:=by omega
    have w2: ¬ids m<8:=by omega
    simp[aR,w1,w2]
@[simp]def axm(hx:bh)(l:List (List Int)):cF (l.map (cy hx 12∘aV))=some (l.map aV):=pX (fun _=>rfl) l
def aff(x:List Int)(n:Nat)(v:V):(aV x).put n v=v:=rfl
@[simp]def br0(sI:List (List Int))(hm:sI.length<=1000000000)(hx: ∀i (h:i<sI.length),(sI[i]).length<=1000000000):ng X [(0,0,37)] 204 [sI]=some sI:=by
 refine aaC ?_;simp;refine cY (fun i S=>(S.f 3= .cx 3 0 (((sI.take i).map aV)).length/\S.h 3=some ⟨1,((sI.take i).map aV),false⟩/\S.f 6=sI/\S.f 7=((sI).length:Int)/\S.f 8=(i:Int)/\S.n=1100)/\True) (sI.length) (by omega) ?_ ?_ ?_
 ·rintro i S ⟨oY,gS,bL⟩ ⟨df,fg⟩;have g:=hx i bL;have lS:min i sI.length=i:=by omega
  simp[df,gS,bL,lS];all_goals ((repeat' (first|apply And.intro|intro _))<;>first|omega|exact pY bL|rfl)
 ·rintro S ⟨df,fg⟩;simp[df]
 ·simp<;>(
   simp)
@[simp]def Yv(sI:List (List Int))(socket n:Int)(h1:sI.length<=1000)(h2: ∀i (h:i<sI.length),(sI[i]).length<=64):bU X 286 [sI,socket,n]=some (.dP [.sl false (((pF sI socket n).1).map aV),.sl false (((pF sI socket n).2.1).map Canon.e),.bool ((pF sI socket n).2.2)]):=by
 refine aaA ?_;have a1:sI.length<=1000000000:=by omega
 have a2: ∀i (h:i<sI.length),(sI[i]).length<=1000000000:=fun i h=>by have:=h2 i h;omega
 have td:eV (List.take sI.length (sI.map aV))=sI.map aV:=by rw[aZ (by simp),JD]
 by_cases c1:socket<0
 ·have e:pF sI socket n=(sI,[],false):=by unfold pF;rw[if_pos (.inl c1)]
  rw[e];simp[a1,a2,c1]
 by_cases c2:(sI.length:Int)<=socket
 ·have e:pF sI socket n=(sI,[],false):=by unfold pF;rw[if_pos (.inr (.inl c2))]
  rw[e];simp[a1,a2,c1,c2]
 by_cases c3:n<0
 ·have e:pF sI socket n=(sI,[],false):=by unfold pF;rw[if_pos (.inr (.inr c3))]
  rw[e];simp[a1,a2,c1,c2,c3]
 obtain⟨k,rfl⟩:=aaG (show 0<=socket by omega);have hk:k<sI.length:=by omega
 have xY:(k:Int)<sI.length:=by omega
 have h64:=h2 k hk;have hg:sI.getD (k:Int).toNat []=sI[k]:=by simp[List.getD,hk]
 obtain⟨x,hx⟩: ∃x,sI[k]=x:=⟨_,rfl⟩;rw[hx]at h64 hg;obtain⟨m,hm⟩: ∃m:Nat,J4 x n=m:=⟨(J4 x n).toNat,by unfold J4;split<;>omega⟩;have hmm:=hm;unfold J4 at hmm;have sE:m<=x.length:=by split at hmm<;>omega
 have a2x:(m:Int)<=x.length:=by omega
 have hm0:min m x.length=m:=by omega
 have e:pF sI k n=(sI.set k (x.drop m),(x.take m).map BZ,true):=by
  unfold pF;rw[if_neg (by omega),hg,hm];simp
 rw[e];simp[a1,a2,c1,c2,c3,hk,xY,hx,hmm,sE,a2x];refine cY (fun i S=>(S.f 1= .int .i64 ((k:Int))/\S.f 9= .cx 9 0 (((sI).map aV)).length/\S.h 9=some ⟨1,((sI).map aV),false⟩/\S.f 10= .int .i64 ((m:Int))/\S.f 11= .cx 11 0 (((ui (x.take i)).map Canon.e)).length/\S.h 11=some ⟨4,((ui (x.take i)).map Canon.e),false⟩/\S.f 41= .sl false ((x.take m).map (V.int .u16))/\S.f 42= .int .i64 ((m:Int))/\S.f 43=(i:Int)/\S.n=1100)/\True) (m) (by omega) ?_ ?_ ?_
 ·rintro i S ⟨oY,gS,bL⟩ ⟨df,fg⟩;have hix:i<x.length:=by omega
  have gu:=N5 hix;have gl:(ui (x.take i)).length=i:=by rw[JU,abR];omega
  have gt:(x.take m)[i]'(by simp;omega)=x[i]:=by simp
  have gtk:List.take i ((ui (x.take i)).map Canon.e)=(ui (x.take i)).map Canon.e:=aZ (by simp[gl]);simp[df,gS,bL,gu,gl,BZ,hm0];all_goals ((repeat' (first|apply And.intro|intro _))<;>first|omega|rfl|exact gtk)
 ·rintro S ⟨df,fg⟩;simp[df,hk,xY,hx,a2x];refine⟨?_,?_⟩
  ·have d1:eV (List.drop m (x.map (V.int .u16)))=(x.drop m).map (V.int .u16):=by rw[<-List.map_drop];exact qI (fun _=>rfl) _
   rw[aff,d1,<-AQ,aZ (by simp),<-List.map_set (f:=aV),JD,abO]
  ·simp[ui,afA]
 ·simp<;>(
   first|exact⟨rfl,rfl⟩|rfl|simp[ui])
def afg(h:i<DW l)(h':i<l.length): ¬(l[i]).file= -1:=by
 have:=List.not_of_lt_findIdx (p:=fun o:fQ=>decide (o.file= -1)) h;simpa using this
def Xj(h:DW l<l.length):(l[DW l]).file= -1:=by
 have:=List.findIdx_getElem (p:=fun o:fQ=>decide (o.file= -1)) (w:=h);exact of_decide_eq_true this
def mB(l:List fQ)(file:Int)(i:Nat):List fQ:=(l.take i).map (yZ file)++l.drop i
def OK(l:List fQ)(file:Int):mB l file 0=l:=by simp[mB]
def Ba(l:List fQ)(file:Int)(i:Nat):(mB l file i).length=l.length:=by simp[mB];omega
def Kj(h:i<l.length)(h':i<(mB l file i).length):(mB l file i)[i]=l[i]:=by
 have e:(mB l file i)[i]?=some l[i]:=by
  unfold mB;rw[aaO (by simp;omega),abJ,abR,aeZ (Nat.le_of_lt h),acV,drop_cons h];rfl
 rw[aaJ h']at e;exact aeE e
def Hg(h:i<l.length):(mB l file i).set i (yZ file l[i])=mB l file (i+1):=by
 unfold mB;have e:((l.take i).map (yZ file)).length=i:=by simp;omega
 rw[adV _ _ (by omega),e,acV,drop_cons h,adO,fD h,abL];simp
def OL(h:i<l.length)(hn: ¬(l[i]).file=file):mB l file (i+1)=mB l file i:=by
 rw[<-Hg h,show yZ file l[i]=l[i] from if_neg hn];have h':i<(mB l file i).length:=by rw[Ba];exact h
 rw[<-Kj (file:=file) h h',abS]
def SK(l:List fQ)(file:Int):mB l file l.length=l.map (yZ file):=by simp[mB]
def afh(x:List Canon)(n:Nat)(v:V):(bz x).put n v=v:=rfl
@[simp]def amh(bn:List (List Canon))(bc:List fQ)(file mode:Int)(hf:jD (bJ.mk bn bc)):bU X 282 [KKk bn bc,.int .i64 file,.int .i64 mode]=some (.dP [KKr ((pE (bJ.mk bn bc) file mode).1),.int .i64 ((pE (bJ.mk bn bc) file mode).2)]):=by
 refine aaA ?_;have hl:=hf.lens;have l1:bn.length<=4:=hl.data;have l2:=hl.each;have l8:bc.length=8:=hf.opens;have l3:bc.length<=1000000000:=hl.opens;simp only at l2;have wW:=Om bc;have td:eV (List.take bc.length (bc.map fQ.e))=bc.map fQ.e:=by rw[aZ (by simp),wj]
 have td8:eV (List.take 8 (bc.map fQ.e))=bc.map fQ.e:=by rw[l8]at td;exact td
 obtain⟨fh,hfh⟩: ∃q,DW bc=q:=⟨_,rfl⟩;simp[l1,l2,l3];refine cY (fun i S=>(S.f 1= .int .i64 file/\S.f 2= .int .i64 mode/\S.f 3= .ptr 3 0 0/\S.h 3=some ⟨2,[KKk bn bc],true⟩/\S.f 6= .ptr 6 0 0/\S.h 6=some ⟨2,[KKk ([]:List (List Canon)) ([]:List fQ)],true⟩/\S.f 8= .ptr 8 0 0/\S.h 1000=some ⟨1,((bJ.mk bn bc)).data.map bz,false⟩/\S.h 1001=some ⟨3,((bJ.mk bn bc)).opens.map fQ.e,false⟩/\S.h 8=some ⟨2,[.agg [.cx 1000 0 (((bJ.mk bn bc)).data.map bz).length,.cx 1001 0 (((bJ.mk bn bc)).opens.map fQ.e).length]],true⟩/\S.f 9= .int .i64 ((i:Int))/\S.n=1102)/\True) (fh) (by omega) ?_ ?_ ?_
 ·rintro i S ⟨oY,gS,bL⟩ ⟨df,fg⟩;have g1:i<bc.length:=by omega
  have g1i:(i:Int)<bc.length:=by omega
  have g2:=afg (l:=bc) (i:=i) (by omega) g1;simp[df,gS,bL,g1,g1i,g2]
 ·rintro S ⟨df,fg⟩;by_cases g1:fh<bc.length
  case neg=>
   have g8:fh=8:=by omega
   subst g8;have e:pE (bJ.mk bn bc) file mode=((bJ.mk bn bc), -1):=by unfold pE;rw[if_pos (.inr (.inr (.inr (.inr (by simp only;rw[hfh,l8])))))]
   rw[e];by_cases c1:file<0
   ·simp[df,l8,td8,c1]
   by_cases c2:(bn.length:Int)<=file
   ·simp[df,l8,td8,c1,c2]
   by_cases c3:mode<0
   ·simp[df,l8,td8,c1,c2,c3]
   by_cases c4:2<mode
   ·simp[df,l8,td8,c1,c2,c3,c4]
   simp[df,l8,td8,c1,c2,c3,c4]
  have g1i:(fh:Int)<bc.length:=by omega
  have g2:(bc[fh]).file= -1:=by have:=Xj (l:=bc) (by omega);simpa only[hfh] using this
  have g3: ¬(fh:Int)=bc.length:=by omega
  have no: ∀(h:file<0\/(bn.length:Int)<=file\/mode<0\/2<mode),pE (bJ.mk bn bc) file mode=((bJ.mk bn bc), -1):=fun h=>by
   unfold pE;rw[if_pos (by rcases h with h|h|h|h;exact .inl h;exact .inr (.inl h);exact .inr (.inr (.inl h));exact .inr (.inr (.inr (.inl h))))]
  by_cases c1:file<0
  ·rw[no (.inl c1)];simp[df,g1,g1i,g2,c1]
  by_cases c2:(bn.length:Int)<=file
  ·rw[no (.inr (.inl c2))];simp[df,g1,g1i,g2,c1,c2]
  by_cases c3:mode<0
  ·rw[no (.inr (.inr (.inl c3)))];simp[df,g1,g1i,g2,c1,c2,c3]
  by_cases c4:2<mode
  ·rw[no (.inr (.inr (.inr c4)))];simp[df,g1,g1i,g2,c1,c2,c3,c4]
  obtain⟨j,rfl⟩:=aaG (show 0<=file by omega);have hj:j<bn.length:=by omega
  have hji:(j:Int)<bn.length:=by omega
  have L6:=l2 j hj;have hfd:bn.getD (j:Int).toNat []=bn[j]:=by simp[List.getD,hj]
  have key:pE (bJ.mk bn bc) j mode=((⟨(xO (bJ.mk bn bc) j mode).data,(xO (bJ.mk bn bc) j mode).opens.set fh (⟨j,if mode=2 then((bn[j]).length:Int) else 0,decide (0<mode)⟩:fQ)⟩:bJ),(fh:Int)):=by
   unfold pE;rw[if_neg (by simp only;rw[hfh];omega),hfh];simp only[hfd]
  have aur: ∀(x:fQ) (a b:Int) (c:Bool),(fQ.e x).put 0 (V.agg [.int .i64 a,.int .i64 b,.bool c])=fQ.e ⟨a,b,c⟩:=fun _ _ _ _=>rfl;have a2z: ∀(x:fQ) (b:Int),(fQ.e x).put 1 (V.int .i64 b)=fQ.e ⟨x.file,b,x.write⟩:=fun _ _=>rfl;have fin: ∀(y:fQ),eV (List.take bc.length ((bc.map fQ.e).set fh (fQ.e y)))=(bc.map fQ.e).set fh (fQ.e y):=fun y=>by
   rw[aZ (by simp),<-List.map_set (f:=fQ.e),wj]
  have hm:mode=0\/mode=1\/mode=2:=by omega
  rcases hm with rfl|rfl|rfl
  ·have e:pE (bJ.mk bn bc) j 0=((⟨bn,bc.set fh (⟨j,0,false⟩:fQ)⟩:bJ),(fh:Int)):=by rw[key];rfl
   rw[e];simp[df,g1,g1i,g2,g3,c1,c2,aur,fin]
  ·have e:pE (bJ.mk bn bc) j 1=((⟨bn.set j [],(bc.map (yZ j)).set fh (⟨j,0,true⟩:fQ)⟩:bJ),(fh:Int)):=by rw[key];rfl
   obtain⟨zo,hzo⟩: ∃q,bc.map (yZ j)=q:=⟨_,rfl⟩;have zol:zo.length=8:=by rw[<-hzo];simp[l8]
   rw[e,hzo];have f8:fh<8:=by omega
   have f8i:(fh:Int)<8:=by omega
   have f8n: ¬(fh:Int)=8:=by omega
   simp[df,l8,g2,f8,f8i,f8n,c1,c2,hj,hji,afh];refine cY (fun i S=>(S.f 1= .int .i64 ((j:Int))/\S.f 2= .int .i64 ((1:Int))/\S.f 6= .ptr 6 0 0/\S.h 6=some ⟨2,[KKk ([]:List (List Canon)) ([]:List fQ)],true⟩/\S.f 8= .ptr 8 0 0/\S.h 1000=some ⟨1,(⟨bn.set j [],mB bc j i⟩:bJ).data.map bz,false⟩/\S.h 1001=some ⟨3,(⟨bn.set j [],mB bc j i⟩:bJ).opens.map fQ.e,false⟩/\S.h 8=some ⟨2,[.agg [.cx 1000 0 ((⟨bn.set j [],mB bc j i⟩:bJ).data.map bz).length,.cx 1001 0 ((⟨bn.set j [],mB bc j i⟩:bJ).opens.map fQ.e).length]],true⟩/\S.f 9= .int .i64 ((fh:Int))/\S.f 62= .int .i64 ((8:Int))/\S.f 63=(i:Int)/\S.n=1102)/\True) (8) (by omega) ?_ ?_ ?_
   ·rintro i S ⟨oY,gS,bL⟩ ⟨lB,r9⟩;have i1:i<bc.length:=by omega
    have Ym:(i:Int)<8:=by omega
    have zl:=Ba bc j i;rw[l8]at zl;have i2:i<(mB bc j i).length:=by omega
    have za:=Kj (file:=(j:Int)) i1 i2;by_cases q:(bc[i]).file=(j:Int)
    ·have zs:=Hg (file:=(j:Int)) i1;rw[show yZ (j:Int) bc[i]=⟨(bc[i]).file,0,(bc[i]).write⟩ from if_pos q]at zs;have q':=eq_true q;simp[lB,gS,bL,zl,Ym,za,q',a2z];exact⟨by rw[<-zs,abO],by rw[Ba,l8]⟩
    ·have zs:=OL (file:=(j:Int)) i1 q;simp[lB,gS,bL,zl,Ym,za,q,zs]
   ·rintro S ⟨lB,r9⟩;have z8:mB bc j 8=bc.map (yZ j):=by rw[<-SK,l8]
    rw[z8,hzo]at lB;have fz:fh<zo.length:=by omega
    have aus: ∀(y:fQ),eV (List.take 8 ((zo.map fQ.e).set fh (fQ.e y)))=(zo.map fQ.e).set fh (fQ.e y):=fun y=>by
     rw[aZ (by simp[zol]),<-List.map_set (f:=fQ.e),wj]
    simp[lB,zol,f8,f8i,aur,aus];rw[aZ (by simp),<-List.map_set (f:=bz),NH]
   ·simp[df]<;>(
     simp[OK,tD])
  ·have e:pE (bJ.mk bn bc) j 2=((⟨bn,bc.set fh (⟨j,(bn[j]).length,true⟩:fQ)⟩:bJ),(fh:Int)):=by rw[key];rfl
   rw[e];simp[df,g1,g1i,g2,g3,c1,c2,hj,hji,aur,a2z,fin]
 ·simp<;>(
   trivial)
def pz(l:List Canon)(i j:Nat):Int:=if j<i then IntKind.i64.wrap (l.getD j ⟨0,0,0,0⟩).val else 0
def m8(l:List Canon)(i:Nat):List Int:=[pz l i 0,pz l i 1,pz l i 2]
def rC(l:List Canon)(i:Nat):(m8 l i).length=3:=rfl
def pA(l:List Canon):m8 l 0=[0,0,0]:=rfl
def rD{l:List Canon}(h:i<l.length)(h3:i<3):(m8 l i).set i (IntKind.i64.wrap (l[i]).val)=m8 l (i+1):=by
 have e:l[i]=l.getD i ⟨0,0,0,0⟩:=by simp[List.getD,h]
 rw[e];rcases(by omega:i=0\/i=1\/i=2) with rfl|rfl|rfl<;>simp[m8,pz]
def Eb: ∀(k:List UInt8) (l:List Int),iI k l=true->l.length=k.length
 | [],[],_=>rfl
 |_::_,[],h=>by simp[iI]at h
 | [],_::_,h=>by simp[iI]at h
 |a::k,b::l,h=>by
  simp only[iI,aaF]at h;simp[Eb k l h.2]
def jT(c a0 a1 a2:Int)(d:List Canon):Request:=⟨0,0,0,0,0,c,[⟨0,a0,0,0⟩,⟨0,a1,0,0⟩,⟨0,a2,0,0⟩],d⟩
def Kk(x:Int):IntKind.u16.wrap (IntKind.i64.wrap x)=IntKind.u16.wrap x:=by
 simp[IntKind.wrap,IntKind.bits,IntKind.signed];split<;>omega
def DoI(o:cU)(r:Request)(n i:Nat)(S:St):Prop:=
 (S.f 2= .ptr 2 0 0/\S.f 3= .ptr 3 0 0/\S.f 4= .ptr 4 0 0/\S.f 5= .ptr 5 0 0/\S.f 7= .ptr 7 0 0/\S.f 8= .cx 8 0 3/\S.f 74= .sl false (r.args.map Canon.e)/\S.f 75= .int .i64 (n:Int)/\S.f 76= .int .i64 (i:Int))/\
 (S.h 2=some ⟨6,[KKh o],true⟩/\
  S.h 3=some ⟨8,[KKW r],true⟩/\
  S.h 4=some ⟨6,[.agg [.sl false [],.sl false [],.sl false [],.sl false [],.sl false [],.sl false []]],true⟩/\
  S.h 5=some ⟨7,[.agg [.int .u8 0,.int .u16 0,.int .i64 0,.int .i64 0,.sl false [],.int .i64 0,.bool false]],true⟩/\
  S.h 7=some ⟨6,[KKh o],true⟩/\
  S.h 8=some ⟨1,(m8 r.args i).map (V.int .i64),false⟩)/\S.n=1100
def Bb(r:Request):Request:=jT r.call (pz r.args r.args.length 0) (pz r.args r.args.length 1) (pz r.args r.args.length 2) r.data
open Classical in
noncomputable def doX(o:cU)(r:Request):cU×lO×Int:=if np o/\doB r=true then((qV o (Bb r)).1,(qV o (Bb r)).2,0) else(kW,mg,1)
def Di{o:cU}(h: ¬(np o/\doB r=true)):doX o r=(kW,mg,1):=if_neg h
def auu{o:cU}(h:np o/\doB r=true):doX o r=((qV o (Bb r)).1,(qV o (Bb r)).2,0):=if_pos h
def zU:doB r=true↔lk r=true/\r.stop=1/\((1<=r.call/\r.call<=7)\/r.call=13\/r.call=14)/\iI (dh r.call) (r.args.map (·.tag))=true/\ ¬(my r.call=2/\16<eY r 2):=by
 unfold doB;simp only[aaF,decide_eq_true_eq]
@[simp]def Hh(bn:List (List Canon))(bc:List fQ):bU X 202 [.agg [.sl false [],.sl false []]]=some (.bool false):=by
 refine aaA ?_;simp
@[simp]def Hi(cJ cg:List Int)(bX:List (List Int))(bu:List (List Canon))(bm:List fQ)(bI:List Output):bU X 130 [.agg [.sl false [],.sl false [],.sl false [],.sl false [],.sl false [],.sl false []]]=some (.bool false):=by
 have hv0:=Hh [] [];refine aaA ?_;simp[dI,hv0]
@[simp]def bbn(cJ cg:List Int)(bX:List (List Int))(bu:List (List Canon))(bm:List fQ)(bI:List Output)(di dn db cD gU cu:Int)(bf bT:List Canon)(ho:um (cU.mk cJ cg bX (bJ.mk bu bm) bI))(h1:bf.length<=1000000000)(h2:bT.length<=1000000000)(hv:hY bT): ∃(o':cU) (x:lO) (e:Int),bU X 256 [KKn cJ cg bX bu bm bI,KKZ di dn db cD gU cu bf bT]=some (.dP [KKh o',KKl x,e])/\um o'/\xZ x/\doX (cU.mk cJ cg bX (bJ.mk bu bm) bI) (Request.mk di dn db cD gU cu bf bT)=(o',x,e):=by
 by_cases hG:np (cU.mk cJ cg bX (bJ.mk bu bm) bI)
 case neg=>
  have hz:(cU.mk cJ cg bX (bJ.mk bu bm) bI)=kW:=by rcases ho with h|h;exact absurd h hG;exact h
  unfold kW at hz;simp only[cU.mk.injEq,bJ.mk.injEq]at hz;obtain⟨rfl,rfl,rfl,⟨rfl,rfl⟩,rfl⟩:=hz;refine⟨kW,mg,1,?_,.inr rfl,tK,Di (fun h=>hG h.1)⟩;have hv0:=Hi [] [] [] [] [] [];refine aaA ?_;simp[hv0,kW,mg]
 have hP:=hG.p;refine(?_: ∃(o':cU) (x:lO) (e:Int),_/\um o'/\xZ x/\doX _ _=(o',x,e));by_cases hB:lk (Request.mk di dn db cD gU cu bf bT)=true
 case neg=>
  refine⟨kW,mg,1,?_,.inr rfl,tK,Di (fun h=>hB (zU.1 h.2).1)⟩;refine aaA ?_;simp[hP,h1,h2,hB,kW,mg]
 have PD:=eq_true hB;have hd:=(J5 hB).1;by_cases kH:dn=1
 case neg=>
  refine⟨kW,mg,1,?_,.inr rfl,tK,Di (fun h=>kH (zU.1 h.2).2.1)⟩;refine aaA ?_;simp[hP,h1,h2,PD,kH,kW,mg]
 subst kH;by_cases hac:(1<=cu/\cu<=7)\/cu=13\/cu=14
 case neg=>
  refine⟨kW,mg,1,?_,.inr rfl,tK,Di (fun h=>hac (zU.1 h.2).2.2.1)⟩;refine aaA ?_;simp[hP,h1,h2,PD,hac,kW,mg]
 have a27:=eq_true hac;have auv:0<=cu/\cu<=15:=by omega
 by_cases KF:iI (dh cu) (bf.map (·.tag))=true
 case neg=>
  refine⟨kW,mg,1,?_,.inr rfl,tK,Di (fun h=>KF (zU.1 h.2).2.2.2.1)⟩;refine aaA ?_;simp[hP,h1,h2,PD,a27,auv,KF,kW,mg]
 have wN:bf.length=(dh cu).length:=by have:=Eb _ _ KF;simpa using this
 have bsa:bf.length<=3:=by rw[wN];exact pb auv
 have IQ:=eq_true KF;by_cases hbu:my cu=2/\16<(bf.getD 2 ⟨0,0,0,0⟩).val
 case pos=>
  refine⟨kW,mg,1,?_,.inr rfl,tK,Di (fun h=>(zU.1 h.2).2.2.2.2 hbu)⟩;refine aaA ?_;obtain⟨b1,b2⟩:=hbu;have h3:bf.length=3:=by
   rw[wN];rcases hac with h|h|h
   ·obtain⟨a,b⟩:=h;rcases(by omega:cu=1\/cu=2\/cu=3\/cu=4\/cu=5\/cu=6\/cu=7) with rfl|rfl|rfl|rfl|rfl|rfl|rfl<;>first|rfl|(simp[my]at b1)
   ·subst h;rfl
   ·subst h;rfl
  have h32:2<bf.length:=by omega
  have b3:16<(bf[2]).val:=by simpa[List.getD,h32] using b2
  have auw:(2:Int)<(bf.length:Int):=by omega
  have b4: ¬(bf[2]).val<=16:=by omega
  simp[hP,h1,h2,PD,a27,auv,IQ,b1,b4,h32,auw,kW,mg]
 have hf:=hP.files;simp only at hf;have P3:=(J5 hB).2;simp only at P3 hd;have hol:=hP.dH;have hox:=hP.output;have Fg:=hP.dw;have hix:=hP.input;simp only at hol hox Fg hix;have bbo:bX.length<=1000:=by omega
 have bbp: ∀i (h:i<bX.length),(bX[i]).length<=64:=hix;have bbq:bI.length<=1000000000:=by omega
 have bbr: ∀i (h:i<bI.length),(bI[i]).data.length<=1000000000:=fun i h=>by have:=(hox i h).2.2.2.1;omega
 have s9:cu=1\/cu=2\/cu=3\/cu=4\/cu=5\/cu=6\/cu=7\/cu=13\/cu=14:=by omega
 have hdx:doX (cU.mk cJ cg bX (bJ.mk bu bm) bI) ⟨di,1,db,cD,gU,cu,bf,bT⟩=((qV (cU.mk cJ cg bX (bJ.mk bu bm) bI) (Bb ⟨di,1,db,cD,gU,cu,bf,bT⟩)).1,(qV (cU.mk cJ cg bX (bJ.mk bu bm) bI) (Bb ⟨di,1,db,cD,gU,cu,bf,bT⟩)).2,0):=auu ⟨hG,zU.2 ⟨hB,rfl,hac,KF,hbu⟩⟩;rcases s9 with rfl|rfl|rfl|rfl|rfl|rfl|rfl|rfl|rfl
 ·have hn:bf.length=3:=wN;have HY:(bf.length:Int)=3:=by omega
  obtain⟨a0,Ec⟩: ∃a,pz bf 3 0=a:=⟨_,rfl⟩;obtain⟨a1,Bc⟩: ∃a,pz bf 3 1=a:=⟨_,rfl⟩;obtain⟨a2,Ed⟩: ∃a,pz bf 3 2=a:=⟨_,rfl⟩;have hA:m8 bf 3=[a0,a1,a2]:=by simp only[m8,Ec,Bc,Ed]
  have ln:=xp hG (r:=jT 1 a0 a1 a2 bT) hd hv;refine⟨(qV (cU.mk cJ cg bX (bJ.mk bu bm) bI) (jT 1 a0 a1 a2 bT)).1,(qV (cU.mk cJ cg bX (bJ.mk bu bm) bI) (jT 1 a0 a1 a2 bT)).2,0,?_,.inl ln.1,ln.2,hdx.trans (by unfold Bb;simp only[hn,Ec,Bc,Ed])⟩;obtain⟨D,hD⟩: ∃D,qV (cU.mk cJ cg bX (bJ.mk bu bm) bI) (jT 1 a0 a1 a2 bT)=D:=⟨_,rfl⟩;rw[hD];have Bo:my 1=1:=rfl;refine aaA ?_;simp[hP,h1,h2,PD,IQ,Bo,HY];refine lW (fun i S=>DoI (cU.mk cJ cg bX (bJ.mk bu bm) bI) ⟨di,1,db,cD,gU,1,bf,bT⟩ 3 i S) 3 ?_ 0 (by omega) ?_
  ·rintro i S hi ⟨⟨f2,f3,f4,f5,f7,f8,f74,f75,f76⟩,⟨g2,g3,g4,g5,g7,g8⟩,gn⟩;simp only at g2 g3 g7 g8 f74 f75;by_cases gZ:i<3
   ·have bL:(i:Int)<3:=by omega
    have qx:i<bf.length:=by omega
    have zn:(i:Int)<(bf.length:Int):=by omega
    have Bp:i<3:=by omega
    have Dj:(i:Int)<3:=by omega
    have gS:=mZ i (by omega);have hlen:=rC bf i;have lh:((m8 bf i).map (V.int .i64)).set i (V.int .i64 (IntKind.i64.wrap (bf[i]).val))=(m8 bf (i+1)).map (V.int .i64):=by rw[<-List.map_set,rD qx Bp]
    simp[f2,f3,f4,f5,f7,f8,f74,f75,f76,g2,g3,g4,g5,g7,g8,gn,gZ,bL,qx,zn,gS,hlen];refine⟨by simp[aR],⟨by simp[aR],by simp[aR],by simp[aR],by simp[aR],by simp[aR],by simp[aR,lh]⟩,rfl⟩
   ·have bL: ¬(i:Int)<3:=by omega
    have ei:i=3:=by omega
    subst ei;rw[hA]at g8;have e:D=qV _ (jT 1 a0 a1 a2 bT):=hD.symm;unfold qV jT at e;simp[eY,k7]at e;subst e;simp[f2,f3,f4,f5,f7,f8,f75,f76,g2,g3,g4,g5,g7,g8,gn,hf,h2]
  ·simp;refine⟨by simp[aR],⟨by simp[aR],by simp[aR],by simp[aR],by simp[aR],by simp[aR],by simp[aR,pA]⟩,rfl⟩
 ·have hn:bf.length=3:=wN;have HY:(bf.length:Int)=3:=by omega
  have h32:2<bf.length:=by omega
  have auw:(2:Int)<(bf.length:Int):=by omega
  have b3: ¬16<(bf[2]).val:=fun h=>hbu ⟨rfl,by simpa[List.getD,h32] using h⟩;have b4:(bf[2]).val<=16:=by omega
  obtain⟨a0,Ec⟩: ∃a,pz bf 3 0=a:=⟨_,rfl⟩;obtain⟨a1,Bc⟩: ∃a,pz bf 3 1=a:=⟨_,rfl⟩;obtain⟨a2,Ed⟩: ∃a,pz bf 3 2=a:=⟨_,rfl⟩;have hA:m8 bf 3=[a0,a1,a2]:=by simp only[m8,Ec,Bc,Ed]
  have ln:=xp hG (r:=jT 2 a0 a1 a2 bT) hd hv;refine⟨(qV (cU.mk cJ cg bX (bJ.mk bu bm) bI) (jT 2 a0 a1 a2 bT)).1,(qV (cU.mk cJ cg bX (bJ.mk bu bm) bI) (jT 2 a0 a1 a2 bT)).2,0,?_,.inl ln.1,ln.2,hdx.trans (by unfold Bb;simp only[hn,Ec,Bc,Ed])⟩;obtain⟨D,hD⟩: ∃D,qV (cU.mk cJ cg bX (bJ.mk bu bm) bI) (jT 2 a0 a1 a2 bT)=D:=⟨_,rfl⟩;rw[hD];have Bo:my 2=2:=rfl;refine aaA ?_;simp[hP,h1,h2,PD,IQ,Bo,HY,h32,b4];refine lW (fun i S=>DoI (cU.mk cJ cg bX (bJ.mk bu bm) bI) ⟨di,1,db,cD,gU,2,bf,bT⟩ 3 i S) 3 ?_ 0 (by omega) ?_
  ·rintro i S hi ⟨⟨f2,f3,f4,f5,f7,f8,f74,f75,f76⟩,⟨g2,g3,g4,g5,g7,g8⟩,gn⟩;simp only at g2 g3 g7 g8 f74 f75;by_cases gZ:i<3
   ·have bL:(i:Int)<3:=by omega
    have qx:i<bf.length:=by omega
    have zn:(i:Int)<(bf.length:Int):=by omega
    have Bp:i<3:=by omega
    have Dj:(i:Int)<3:=by omega
    have gS:=mZ i (by omega);have hlen:=rC bf i;have lh:((m8 bf i).map (V.int .i64)).set i (V.int .i64 (IntKind.i64.wrap (bf[i]).val))=(m8 bf (i+1)).map (V.int .i64):=by rw[<-List.map_set,rD qx Bp]
    simp[f2,f3,f4,f5,f7,f8,f74,f75,f76,g2,g3,g4,g5,g7,g8,gn,gZ,bL,qx,zn,gS,hlen];refine⟨by simp[aR],⟨by simp[aR],by simp[aR],by simp[aR],by simp[aR],by simp[aR],by simp[aR,lh]⟩,rfl⟩
   ·have bL: ¬(i:Int)<3:=by omega
    have ei:i=3:=by omega
    subst ei;rw[hA]at g8;have e:D=qV _ (jT 2 a0 a1 a2 bT):=hD.symm;unfold qV jT at e;simp[eY,k7]at e;subst e;simp[f2,f3,f4,f5,f7,f8,f75,f76,g2,g3,g4,g5,g7,g8,gn,hf]
  ·simp;refine⟨by simp[aR],⟨by simp[aR],by simp[aR],by simp[aR],by simp[aR],by simp[aR],by simp[aR,pA]⟩,rfl⟩
 ·have hn:bf.length=2:=wN;have HY:(bf.length:Int)=2:=by omega
  obtain⟨a0,Ec⟩: ∃a,pz bf 2 0=a:=⟨_,rfl⟩;obtain⟨a1,Bc⟩: ∃a,pz bf 2 1=a:=⟨_,rfl⟩;obtain⟨a2,Ed⟩: ∃a,pz bf 2 2=a:=⟨_,rfl⟩;have hA:m8 bf 2=[a0,a1,a2]:=by simp only[m8,Ec,Bc,Ed]
  have ln:=xp hG (r:=jT 3 a0 a1 a2 bT) hd hv;refine⟨(qV (cU.mk cJ cg bX (bJ.mk bu bm) bI) (jT 3 a0 a1 a2 bT)).1,(qV (cU.mk cJ cg bX (bJ.mk bu bm) bI) (jT 3 a0 a1 a2 bT)).2,0,?_,.inl ln.1,ln.2,hdx.trans (by unfold Bb;simp only[hn,Ec,Bc,Ed])⟩;obtain⟨D,hD⟩: ∃D,qV (cU.mk cJ cg bX (bJ.mk bu bm) bI) (jT 3 a0 a1 a2 bT)=D:=⟨_,rfl⟩;rw[hD];have Bo:my 3=0:=rfl;refine aaA ?_;simp[hP,h1,h2,PD,IQ,Bo,HY];refine lW (fun i S=>DoI (cU.mk cJ cg bX (bJ.mk bu bm) bI) ⟨di,1,db,cD,gU,3,bf,bT⟩ 2 i S) 2 ?_ 0 (by omega) ?_
  ·rintro i S hi ⟨⟨f2,f3,f4,f5,f7,f8,f74,f75,f76⟩,⟨g2,g3,g4,g5,g7,g8⟩,gn⟩;simp only at g2 g3 g7 g8 f74 f75;by_cases gZ:i<2
   ·have bL:(i:Int)<2:=by omega
    have qx:i<bf.length:=by omega
    have zn:(i:Int)<(bf.length:Int):=by omega
    have Bp:i<3:=by omega
    have Dj:(i:Int)<3:=by omega
    have gS:=mZ i (by omega);have hlen:=rC bf i;have lh:((m8 bf i).map (V.int .i64)).set i (V.int .i64 (IntKind.i64.wrap (bf[i]).val))=(m8 bf (i+1)).map (V.int .i64):=by rw[<-List.map_set,rD qx Bp]
    simp[f2,f3,f4,f5,f7,f8,f74,f75,f76,g2,g3,g4,g5,g7,g8,gn,gZ,bL,qx,zn,Bp,Dj,gS,hlen];refine⟨by simp[aR],⟨by simp[aR],by simp[aR],by simp[aR],by simp[aR],by simp[aR],by simp[aR,lh]⟩,rfl⟩
   ·have bL: ¬(i:Int)<2:=by omega
    have ei:i=2:=by omega
    subst ei;rw[hA]at g8;by_cases jK:0<=(pE (bJ.mk bu bm) a0 a1).2
    ·have e:D=qV _ (jT 3 a0 a1 a2 bT):=hD.symm;unfold qV jT at e;simp[eY,jK]at e;subst e;simp[f2,f3,f4,f5,f7,f8,f75,f76,g2,g3,g4,g5,g7,g8,gn,hf,jK]
    ·have e:D=qV _ (jT 3 a0 a1 a2 bT):=hD.symm;unfold qV jT at e;simp[eY,k7,jK]at e;subst e;simp[f2,f3,f4,f5,f7,f8,f75,f76,g2,g3,g4,g5,g7,g8,gn,hf,jK]
  ·simp;refine⟨by simp[aR],⟨by simp[aR],by simp[aR],by simp[aR],by simp[aR],by simp[aR],by simp[aR,pA]⟩,rfl⟩
 ·have hn:bf.length=1:=wN;have HY:(bf.length:Int)=1:=by omega
  obtain⟨a0,Ec⟩: ∃a,pz bf 1 0=a:=⟨_,rfl⟩;obtain⟨a1,Bc⟩: ∃a,pz bf 1 1=a:=⟨_,rfl⟩;obtain⟨a2,Ed⟩: ∃a,pz bf 1 2=a:=⟨_,rfl⟩;have hA:m8 bf 1=[a0,a1,a2]:=by simp only[m8,Ec,Bc,Ed]
  have ln:=xp hG (r:=jT 4 a0 a1 a2 bT) hd hv;refine⟨(qV (cU.mk cJ cg bX (bJ.mk bu bm) bI) (jT 4 a0 a1 a2 bT)).1,(qV (cU.mk cJ cg bX (bJ.mk bu bm) bI) (jT 4 a0 a1 a2 bT)).2,0,?_,.inl ln.1,ln.2,hdx.trans (by unfold Bb;simp only[hn,Ec,Bc,Ed])⟩;obtain⟨D,hD⟩: ∃D,qV (cU.mk cJ cg bX (bJ.mk bu bm) bI) (jT 4 a0 a1 a2 bT)=D:=⟨_,rfl⟩;rw[hD];have Bo:my 4=0:=rfl;refine aaA ?_;simp[hP,h1,h2,PD,IQ,Bo,HY];refine lW (fun i S=>DoI (cU.mk cJ cg bX (bJ.mk bu bm) bI) ⟨di,1,db,cD,gU,4,bf,bT⟩ 1 i S) 1 ?_ 0 (by omega) ?_
  ·rintro i S hi ⟨⟨f2,f3,f4,f5,f7,f8,f74,f75,f76⟩,⟨g2,g3,g4,g5,g7,g8⟩,gn⟩;simp only at g2 g3 g7 g8 f74 f75;by_cases gZ:i<1
   ·have bL:(i:Int)<1:=by omega
    have qx:i<bf.length:=by omega
    have zn:(i:Int)<(bf.length:Int):=by omega
    have Bp:i<3:=by omega
    have Dj:(i:Int)<3:=by omega
    have gS:=mZ i (by omega);have hlen:=rC bf i;have lh:((m8 bf i).map (V.int .i64)).set i (V.int .i64 (IntKind.i64.wrap (bf[i]).val))=(m8 bf (i+1)).map (V.int .i64):=by rw[<-List.map_set,rD qx Bp]
    simp[f2,f3,f4,f5,f7,f8,f74,f75,f76,g2,g3,g4,g5,g7,g8,gn,gZ,bL,qx,zn,Bp,Dj,gS,hlen];refine⟨by simp[aR],⟨by simp[aR],by simp[aR],by simp[aR],by simp[aR],by simp[aR],by simp[aR,lh]⟩,rfl⟩
   ·have bL: ¬(i:Int)<1:=by omega
    have ei:i=1:=by omega
    subst ei;rw[hA]at g8;have e:D=qV _ (jT 4 a0 a1 a2 bT):=hD.symm;unfold qV jT at e;simp[eY,k7]at e;subst e;simp[f2,f3,f4,f5,f7,f8,f75,f76,g2,g3,g4,g5,g7,g8,gn,hf]
  ·simp;refine⟨by simp[aR],⟨by simp[aR],by simp[aR],by simp[aR],by simp[aR],by simp[aR],by simp[aR,pA]⟩,rfl⟩
 ·have hn:bf.length=2:=wN;have HY:(bf.length:Int)=2:=by omega
  obtain⟨a0,Ec⟩: ∃a,pz bf 2 0=a:=⟨_,rfl⟩;obtain⟨a1,Bc⟩: ∃a,pz bf 2 1=a:=⟨_,rfl⟩;obtain⟨a2,Ed⟩: ∃a,pz bf 2 2=a:=⟨_,rfl⟩;have hA:m8 bf 2=[a0,a1,a2]:=by simp only[m8,Ec,Bc,Ed]
  have ln:=xp hG (r:=jT 5 a0 a1 a2 bT) hd hv;refine⟨(qV (cU.mk cJ cg bX (bJ.mk bu bm) bI) (jT 5 a0 a1 a2 bT)).1,(qV (cU.mk cJ cg bX (bJ.mk bu bm) bI) (jT 5 a0 a1 a2 bT)).2,0,?_,.inl ln.1,ln.2,hdx.trans (by unfold Bb;simp only[hn,Ec,Bc,Ed])⟩;obtain⟨D,hD⟩: ∃D,qV (cU.mk cJ cg bX (bJ.mk bu bm) bI) (jT 5 a0 a1 a2 bT)=D:=⟨_,rfl⟩;rw[hD];have Bo:my 5=0:=rfl;refine aaA ?_;simp[hP,h1,h2,PD,IQ,Bo,HY];refine lW (fun i S=>DoI (cU.mk cJ cg bX (bJ.mk bu bm) bI) ⟨di,1,db,cD,gU,5,bf,bT⟩ 2 i S) 2 ?_ 0 (by omega) ?_
  ·rintro i S hi ⟨⟨f2,f3,f4,f5,f7,f8,f74,f75,f76⟩,⟨g2,g3,g4,g5,g7,g8⟩,gn⟩;simp only at g2 g3 g7 g8 f74 f75;by_cases gZ:i<2
   ·have bL:(i:Int)<2:=by omega
    have qx:i<bf.length:=by omega
    have zn:(i:Int)<(bf.length:Int):=by omega
    have Bp:i<3:=by omega
    have Dj:(i:Int)<3:=by omega
    have gS:=mZ i (by omega);have hlen:=rC bf i;have lh:((m8 bf i).map (V.int .i64)).set i (V.int .i64 (IntKind.i64.wrap (bf[i]).val))=(m8 bf (i+1)).map (V.int .i64):=by rw[<-List.map_set,rD qx Bp]
    simp[f2,f3,f4,f5,f7,f8,f74,f75,f76,g2,g3,g4,g5,g7,g8,gn,gZ,bL,qx,zn,Bp,Dj,gS,hlen];refine⟨by simp[aR],⟨by simp[aR],by simp[aR],by simp[aR],by simp[aR],by simp[aR],by simp[aR,lh]⟩,rfl⟩
   ·have bL: ¬(i:Int)<2:=by omega
    have ei:i=2:=by omega
    subst ei;rw[hA]at g8;have e:D=qV _ (jT 5 a0 a1 a2 bT):=hD.symm;unfold qV jT at e;simp[eY,k7]at e;subst e;simp[f2,f3,f4,f5,f7,f8,f75,f76,g2,g3,g4,g5,g7,g8,gn,hf]
  ·simp;refine⟨by simp[aR],⟨by simp[aR],by simp[aR],by simp[aR],by simp[aR],by simp[aR],by simp[aR,pA]⟩,rfl⟩
 ·have hn:bf.length=0:=wN;have HY:(bf.length:Int)=0:=by omega
  obtain⟨a0,Ec⟩: ∃a,pz bf 0 0=a:=⟨_,rfl⟩;obtain⟨a1,Bc⟩: ∃a,pz bf 0 1=a:=⟨_,rfl⟩;obtain⟨a2,Ed⟩: ∃a,pz bf 0 2=a:=⟨_,rfl⟩;have hA:m8 bf 0=[a0,a1,a2]:=by simp only[m8,Ec,Bc,Ed]
  have ln:=xp hG (r:=jT 6 a0 a1 a2 bT) hd hv;refine⟨(qV (cU.mk cJ cg bX (bJ.mk bu bm) bI) (jT 6 a0 a1 a2 bT)).1,(qV (cU.mk cJ cg bX (bJ.mk bu bm) bI) (jT 6 a0 a1 a2 bT)).2,0,?_,.inl ln.1,ln.2,hdx.trans (by unfold Bb;simp only[hn,Ec,Bc,Ed])⟩;obtain⟨D,hD⟩: ∃D,qV (cU.mk cJ cg bX (bJ.mk bu bm) bI) (jT 6 a0 a1 a2 bT)=D:=⟨_,rfl⟩;rw[hD];have Bo:my 6=0:=rfl;refine aaA ?_;simp[hP,h1,h2,PD,IQ,Bo,HY];refine lW (fun i S=>DoI (cU.mk cJ cg bX (bJ.mk bu bm) bI) ⟨di,1,db,cD,gU,6,bf,bT⟩ 0 i S) 0 ?_ 0 (by omega) ?_
  ·rintro i S hi ⟨⟨f2,f3,f4,f5,f7,f8,f74,f75,f76⟩,⟨g2,g3,g4,g5,g7,g8⟩,gn⟩;simp only at g2 g3 g7 g8 f74 f75;by_cases gZ:i<0
   ·have bL:(i:Int)<0:=by omega
    have qx:i<bf.length:=by omega
    have zn:(i:Int)<(bf.length:Int):=by omega
    have Bp:i<3:=by omega
    have Dj:(i:Int)<3:=by omega
    have gS:=mZ i (by omega);have hlen:=rC bf i;have lh:((m8 bf i).map (V.int .i64)).set i (V.int .i64 (IntKind.i64.wrap (bf[i]).val))=(m8 bf (i+1)).map (V.int .i64):=by rw[<-List.map_set,rD qx Bp]
    simp[f2,f3,f4,f5,f7,f8,f74,f75,f76,g2,g3,g4,g5,g7,g8,gn,gZ,bL,qx,zn,Bp,Dj,gS,hlen];refine⟨by simp[aR],⟨by simp[aR],by simp[aR],by simp[aR],by simp[aR],by simp[aR],by simp[aR,lh]⟩,rfl⟩
   ·have bL: ¬(i:Int)<0:=by omega
    have ei:i=0:=by omega
    subst ei;rw[hA]at g8;rcases cJ with _|⟨x,xs⟩
    ·have e:D=qV _ (jT 6 a0 a1 a2 bT):=hD.symm;unfold qV jT at e;simp[k7]at e;subst e;simp[f2,f3,f4,f5,f7,f75,f76,g2,g3,g4,g5,g7,gn]
    ·have e:D=qV _ (jT 6 a0 a1 a2 bT):=hD.symm;unfold qV jT at e;simp[k7]at e;subst e;have hx1:(1:Int)<=(xs.length:Int)+1:=by omega
     have hx2:=Kk x;simp[f2,f3,f4,f5,f7,f75,f76,g2,g3,g4,g5,g7,gn,hx1,hx2]
  ·simp;refine⟨by simp[aR],⟨by simp[aR],by simp[aR],by simp[aR],by simp[aR],by simp[aR],by simp[aR,pA]⟩,rfl⟩
 ·have hn:bf.length=0:=wN;have HY:(bf.length:Int)=0:=by omega
  obtain⟨a0,Ec⟩: ∃a,pz bf 0 0=a:=⟨_,rfl⟩;obtain⟨a1,Bc⟩: ∃a,pz bf 0 1=a:=⟨_,rfl⟩;obtain⟨a2,Ed⟩: ∃a,pz bf 0 2=a:=⟨_,rfl⟩;have hA:m8 bf 0=[a0,a1,a2]:=by simp only[m8,Ec,Bc,Ed]
  have ln:=xp hG (r:=jT 7 a0 a1 a2 bT) hd hv;refine⟨(qV (cU.mk cJ cg bX (bJ.mk bu bm) bI) (jT 7 a0 a1 a2 bT)).1,(qV (cU.mk cJ cg bX (bJ.mk bu bm) bI) (jT 7 a0 a1 a2 bT)).2,0,?_,.inl ln.1,ln.2,hdx.trans (by unfold Bb;simp only[hn,Ec,Bc,Ed])⟩;obtain⟨D,hD⟩: ∃D,qV (cU.mk cJ cg bX (bJ.mk bu bm) bI) (jT 7 a0 a1 a2 bT)=D:=⟨_,rfl⟩;rw[hD];have Bo:my 7=0:=rfl;refine aaA ?_;simp[hP,h1,h2,PD,IQ,Bo,HY];refine lW (fun i S=>DoI (cU.mk cJ cg bX (bJ.mk bu bm) bI) ⟨di,1,db,cD,gU,7,bf,bT⟩ 0 i S) 0 ?_ 0 (by omega) ?_
  ·rintro i S hi ⟨⟨f2,f3,f4,f5,f7,f8,f74,f75,f76⟩,⟨g2,g3,g4,g5,g7,g8⟩,gn⟩;simp only at g2 g3 g7 g8 f74 f75;by_cases gZ:i<0
   ·have bL:(i:Int)<0:=by omega
    have qx:i<bf.length:=by omega
    have zn:(i:Int)<(bf.length:Int):=by omega
    have Bp:i<3:=by omega
    have Dj:(i:Int)<3:=by omega
    have gS:=mZ i (by omega);have hlen:=rC bf i;have lh:((m8 bf i).map (V.int .i64)).set i (V.int .i64 (IntKind.i64.wrap (bf[i]).val))=(m8 bf (i+1)).map (V.int .i64):=by rw[<-List.map_set,rD qx Bp]
    simp[f2,f3,f4,f5,f7,f8,f74,f75,f76,g2,g3,g4,g5,g7,g8,gn,gZ,bL,qx,zn,Bp,Dj,gS,hlen];refine⟨by simp[aR],⟨by simp[aR],by simp[aR],by simp[aR],by simp[aR],by simp[aR],by simp[aR,lh]⟩,rfl⟩
   ·have bL: ¬(i:Int)<0:=by omega
    have ei:i=0:=by omega
    subst ei;rw[hA]at g8;rcases cg with _|⟨x,xs⟩
    ·have e:D=qV _ (jT 7 a0 a1 a2 bT):=hD.symm;unfold qV jT at e;simp[k7]at e;subst e;simp[f2,f3,f4,f5,f7,f75,f76,g2,g3,g4,g5,g7,gn]
    ·have e:D=qV _ (jT 7 a0 a1 a2 bT):=hD.symm;unfold qV jT at e;simp[k7]at e;subst e;have hx1:(1:Int)<=(xs.length:Int)+1:=by omega
     have hx2:=Kk x;simp[f2,f3,f4,f5,f7,f75,f76,g2,g3,g4,g5,g7,gn,hx1,hx2]
  ·simp;refine⟨by simp[aR],⟨by simp[aR],by simp[aR],by simp[aR],by simp[aR],by simp[aR],by simp[aR,pA]⟩,rfl⟩
 ·have hn:bf.length=3:=wN;have HY:(bf.length:Int)=3:=by omega
  obtain⟨a0,Ec⟩: ∃a,pz bf 3 0=a:=⟨_,rfl⟩;obtain⟨a1,Bc⟩: ∃a,pz bf 3 1=a:=⟨_,rfl⟩;obtain⟨a2,Ed⟩: ∃a,pz bf 3 2=a:=⟨_,rfl⟩;have hA:m8 bf 3=[a0,a1,a2]:=by simp only[m8,Ec,Bc,Ed]
  have ln:=xp hG (r:=jT 13 a0 a1 a2 bT) hd hv;refine⟨(qV (cU.mk cJ cg bX (bJ.mk bu bm) bI) (jT 13 a0 a1 a2 bT)).1,(qV (cU.mk cJ cg bX (bJ.mk bu bm) bI) (jT 13 a0 a1 a2 bT)).2,0,?_,.inl ln.1,ln.2,hdx.trans (by unfold Bb;simp only[hn,Ec,Bc,Ed])⟩;obtain⟨D,hD⟩: ∃D,qV (cU.mk cJ cg bX (bJ.mk bu bm) bI) (jT 13 a0 a1 a2 bT)=D:=⟨_,rfl⟩;rw[hD];have Bo:my 13=1:=rfl;refine aaA ?_;simp[hP,h1,h2,PD,IQ,Bo,HY];refine lW (fun i S=>DoI (cU.mk cJ cg bX (bJ.mk bu bm) bI) ⟨di,1,db,cD,gU,13,bf,bT⟩ 3 i S) 3 ?_ 0 (by omega) ?_
  ·rintro i S hi ⟨⟨f2,f3,f4,f5,f7,f8,f74,f75,f76⟩,⟨g2,g3,g4,g5,g7,g8⟩,gn⟩;simp only at g2 g3 g7 g8 f74 f75;by_cases gZ:i<3
   ·have bL:(i:Int)<3:=by omega
    have qx:i<bf.length:=by omega
    have zn:(i:Int)<(bf.length:Int):=by omega
    have Bp:i<3:=by omega
    have Dj:(i:Int)<3:=by omega
    have gS:=mZ i (by omega);have hlen:=rC bf i;have lh:((m8 bf i).map (V.int .i64)).set i (V.int .i64 (IntKind.i64.wrap (bf[i]).val))=(m8 bf (i+1)).map (V.int .i64):=by rw[<-List.map_set,rD qx Bp]
    simp[f2,f3,f4,f5,f7,f8,f74,f75,f76,g2,g3,g4,g5,g7,g8,gn,gZ,bL,qx,zn,gS,hlen];refine⟨by simp[aR],⟨by simp[aR],by simp[aR],by simp[aR],by simp[aR],by simp[aR],by simp[aR,lh]⟩,rfl⟩
   ·have bL: ¬(i:Int)<3:=by omega
    have ei:i=3:=by omega
    subst ei;rw[hA]at g8;have e:D=qV _ (jT 13 a0 a1 a2 bT):=hD.symm;unfold qV jT at e;simp[eY,k7]at e;subst e;simp[f2,f3,f4,f5,f7,f8,f75,f76,g2,g3,g4,g5,g7,g8,gn,h2,bbq,bbr];exact⟨rfl,rfl⟩
  ·simp;refine⟨by simp[aR],⟨by simp[aR],by simp[aR],by simp[aR],by simp[aR],by simp[aR],by simp[aR,pA]⟩,rfl⟩
 ·have hn:bf.length=3:=wN;have HY:(bf.length:Int)=3:=by omega
  have h32:2<bf.length:=by omega
  have auw:(2:Int)<(bf.length:Int):=by omega
  have b3: ¬16<(bf[2]).val:=fun h=>hbu ⟨rfl,by simpa[List.getD,h32] using h⟩;have b4:(bf[2]).val<=16:=by omega
  obtain⟨a0,Ec⟩: ∃a,pz bf 3 0=a:=⟨_,rfl⟩;obtain⟨a1,Bc⟩: ∃a,pz bf 3 1=a:=⟨_,rfl⟩;obtain⟨a2,Ed⟩: ∃a,pz bf 3 2=a:=⟨_,rfl⟩;have hA:m8 bf 3=[a0,a1,a2]:=by simp only[m8,Ec,Bc,Ed]
  have ln:=xp hG (r:=jT 14 a0 a1 a2 bT) hd hv;refine⟨(qV (cU.mk cJ cg bX (bJ.mk bu bm) bI) (jT 14 a0 a1 a2 bT)).1,(qV (cU.mk cJ cg bX (bJ.mk bu bm) bI) (jT 14 a0 a1 a2 bT)).2,0,?_,.inl ln.1,ln.2,hdx.trans (by unfold Bb;simp only[hn,Ec,Bc,Ed])⟩;obtain⟨D,hD⟩: ∃D,qV (cU.mk cJ cg bX (bJ.mk bu bm) bI) (jT 14 a0 a1 a2 bT)=D:=⟨_,rfl⟩;rw[hD];have Bo:my 14=2:=rfl;refine aaA ?_;simp[hP,h1,h2,PD,IQ,Bo,HY,h32,b4];refine lW (fun i S=>DoI (cU.mk cJ cg bX (bJ.mk bu bm) bI) ⟨di,1,db,cD,gU,14,bf,bT⟩ 3 i S) 3 ?_ 0 (by omega) ?_
  ·rintro i S hi ⟨⟨f2,f3,f4,f5,f7,f8,f74,f75,f76⟩,⟨g2,g3,g4,g5,g7,g8⟩,gn⟩;simp only at g2 g3 g7 g8 f74 f75;by_cases gZ:i<3
   ·have bL:(i:Int)<3:=by omega
    have qx:i<bf.length:=by omega
    have zn:(i:Int)<(bf.length:Int):=by omega
    have Bp:i<3:=by omega
    have Dj:(i:Int)<3:=by omega
    have gS:=mZ i (by omega);have hlen:=rC bf i;have lh:((m8 bf i).map (V.int .i64)).set i (V.int .i64 (IntKind.i64.wrap (bf[i]).val))=(m8 bf (i+1)).map (V.int .i64):=by rw[<-List.map_set,rD qx Bp]
    simp[f2,f3,f4,f5,f7,f8,f74,f75,f76,g2,g3,g4,g5,g7,g8,gn,gZ,bL,qx,zn,gS,hlen];refine⟨by simp[aR],⟨by simp[aR],by simp[aR],by simp[aR],by simp[aR],by simp[aR],by simp[aR,lh]⟩,rfl⟩
   ·have bL: ¬(i:Int)<3:=by omega
    have ei:i=3:=by omega
    subst ei;rw[hA]at g8;have e:D=qV _ (jT 14 a0 a1 a2 bT):=hD.symm;unfold qV jT at e;simp[eY,k7]at e;subst e;simp[f2,f3,f4,f5,f7,f8,f75,f76,g2,g3,g4,g5,g7,g8,gn,bbo,bbp]
  ·simp;refine⟨by simp[aR],⟨by simp[aR],by simp[aR],by simp[aR],by simp[aR],by simp[aR],by simp[aR,pA]⟩,rfl⟩
def oQ(x:Thread)(c:Cell):Thread:=⟨1,x.bp.set 0 c,x.pc,x.count,x.cp,x.saved,x.dr,x.code⟩
def Hj{x:Thread}(h:ep d x)(hc:iz c):ep d (oQ x c):=
 ⟨by simp[oQ],by simp[oQ,h.bp],h.cells.set hc 0,h.pc,h.count,h.cp,h.saved,h.dr,h.code⟩
def xy(ids:Nat->Nat)(i:Nat)(x:Thread)(c:Cell)(h:x.bp.length=8):dM ids i (oQ x c)= (KKd 1 (.cx (ids i) 0 8) x.pc x.count x.cp x.saved x.dr x.code:V):=by
 simp[dM,oQ,h]
def afj{α:Type}{l:List α}(h:l.length=4):l.take 4=l:=aZ (by omega)
def ED(pc:Int)(c:Cell):Thread:=⟨1,c::List.replicate 7 ⟨0,0⟩,pc,0, -1, -1,0,0⟩
def amj(hd:0<=d)(hp:0<=pc/\pc<=255)(hc:iz c):ep d (ED pc c):=by
 refine⟨by simp[ED],by simp[ED],fun x hx=> ?_,hp,by simpa[ED] using hd,by simp[ED],by simp[ED],by simp[ED],by simp[ED]⟩;rcases List.mem_cons.1 hx with rfl|hx
 ·exact hc
 ·rw[(List.mem_replicate.1 hx).2];exact l4
def Ce(x:Thread)(c:Cell)(a:Int):Thread:=⟨1,x.bp.set 0 c,x.pc,x.count,a,x.saved,x.dr,x.code⟩
def afk{x:Thread}(h:ep d x)(hc:iz c)(ha: -1<=a/\a<=255):ep d (Ce x c a):=
 ⟨by simp[Ce],by simp[Ce,h.bp],h.cells.set hc 0,h.pc,h.count,ha,h.saved,h.dr,h.code⟩
def LC(ids:Nat->Nat)(i:Nat)(x:Thread)(c:Cell)(a:Int)(h:x.bp.length=8):dM ids i (Ce x c a)= (KKd 1 (.cx (ids i) 0 8) x.pc x.count a x.saved x.dr x.code:V):=by
 simp[dM,Ce,h]
def OM(x:Thread)(c:Int):Thread:=⟨4,x.bp,x.pc,x.count,x.cp,x.saved,0,c⟩
def amk{x:Thread}(h:ep d x){c:Int}(hc:0<=c/\c<=65535):ep d (OM x c):=
 ⟨by simp[OM],h.bp,h.cells,h.pc,h.count,h.cp,h.saved,by simp[OM],hc⟩
def Hk(x:Thread):Thread:=⟨3,x.bp,x.pc,x.count,x.cp,x.saved,x.dr,x.code⟩
def afl{x:Thread}(h:ep d x):ep d (Hk x):=
 ⟨by simp[Hk],h.bp,h.cells,h.pc,h.count,h.cp,h.saved,h.dr,h.code⟩
def bbs(x:Thread):Thread:=⟨x.state,x.bp,x.cp,x.count,x.cp,x.pc,x.dr,x.code⟩
def Hl(p:Prog)(m:aO)(t:Int)(x:lO):Prop:=jU p m=true/\sF x=true/\(0<=t/\t<4)/\(bV m t.toNat).state=3/\(raw m.layout.aD m.layout.key p.an x.value).2=0
instance (p:Prog) (m:aO) (t:Int) (x:lO):Decidable (Hl p m t x):=by unfold Hl;infer_instance
def wG(p:Prog)(m:aO)(t:Int)(x:lO):aO×Bool:=if Hl p m t x then(iZ m m.memory t.toNat (oQ (bV m t.toNat) (raw m.layout.aD m.layout.key p.an x.value).1),true) else(m,false)
def zp(h: ¬Hl p m t x):wG p m t x=(m,false):=if_neg h
def afm(h:Hl p m t x):wG p m t x=(iZ m m.memory t.toNat (oQ (bV m t.toNat) (raw m.layout.aD m.layout.key p.an x.value).1),true):=if_pos h
def tA(m:aO)(t:Int):aO×Bool:=if(0<=t/\t<m.threads.length)/\Gt (bV m t.toNat)=true then(iZ m m.memory t.toNat (bbs (bV m t.toNat)),true) else(m,false)
def Cf(b:List Int)(key:Int)(z:List Int)(rg:Int):Int->List Canon->aF->Option aF
 |_,[],m=>some m
 |o,c::l,m=>if(raw b key z c).2=0/\inside z rg o=true then Cf b key z rg (o+1) l (mA m (nth b rg.toNat+o).toNat (raw b key z c).1) else none
def Bd(b:List Int)(key:Int)(z:List Int)(rg o:Int)(c:Canon)(l:List Canon)(m:aF):Cf b key z rg o (c::l) m=if(raw b key z c).2=0/\inside z rg o=true then Cf b key z rg (o+1) l (mA m (nth b rg.toNat+o).toNat (raw b key z c).1) else none:=rfl
def vG(r:Request)(i:Nat):Canon:=r.args.getD i ⟨0,0,0,0⟩
def zq(p:Prog)(m:aO)(r:Request)(x:lO):Option aF:=
 if my r.call=2/\0<x.data.length then(if proper p.an (vG r 1)=true/\(vG r 1).tag=1 then Cf m.layout.aD m.layout.key p.an (vG r 1).region (vG r 1).offset x.data m.memory else none) else some m.memory
def x8(p:Prog)(m:aO)(n:Nat)(c:Cell)(r:Request)(x:lO):Option aO:=
 if r.call=12 then(if(vG r 0).tag=0/\(vG r 0).val<=255 then some (iZ m m.memory n (Ce (bV m n) c (vG r 0).val)) else none)
 else if r.call=10/\0<=x.spawn then(if(raw m.layout.aD m.layout.key p.an (vG r 1)).2=0/\(bV m x.spawn.toNat).state=0/\(vG r 0).val<=255/\(vG r 0).tag=0 then
  some ⟨m.layout,m.memory,(m.threads.set x.spawn.toNat (ED (vG r 0).val (raw m.layout.aD m.layout.key p.an (vG r 1)).1)).set n (oQ (bV m n) c)⟩ else none)
 else some (iZ m m.memory n (oQ (bV m n) c))
def Hm(p:Prog)(m:aO)(n:Nat)(r:Request)(x:lO):Option aO:=
 if(raw m.layout.aD m.layout.key p.an x.value).2=0 then((zq p m r x).bind fun mem=>x8 p ⟨m.layout,mem,m.threads⟩ n (raw m.layout.aD m.layout.key p.an x.value).1 r x) else none
def ON(p:Prog)(m:aO)(r:Request)(x:lO):Prop:=jU p m=true/\lk r=true/\r.stop=1/\(r.args.length:Int)=uU r.call/\sF x=true/\(bV m r.dd.toNat).state=2
instance (p:Prog) (m:aO) (r:Request) (x:lO):Decidable (ON p m r x):=by unfold ON;infer_instance
def a29(m:aO):Option aO->aO×Bool
 |some m'=>(m',true)
 |none=>(m,false)
def Be(p:Prog)(m:aO)(r:Request)(x:lO):aO×Bool:=
 if ON p m r x then(if r.call=0 then(⟨m.layout,m.memory,m.threads.set r.dd.toNat (OM (bV m r.dd.toNat) (vG r 0).val)⟩,true) else if x.wait=true then(iZ m m.memory r.dd.toNat (Hk (bV m r.dd.toNat)),true)
  else a29 m (Hm p m r.dd.toNat r x)) else(m,false)
def Cg(h: ¬ON p m r x):Be p m r x=(m,false):=if_neg h
def Xo(p:Prog)(m:aO)(t:Int)(x:lO):(wG p m t x).1.layout=m.layout:=by
 unfold wG;split<;>rfl
def afn(h:x8 p m n c r x=some m'):m'.layout=m.layout:=by
 unfold x8 at h;split at h
 ·split at h
  ·cases h;rfl
  ·cases h
 ·split at h
  ·split at h
   ·cases h;rfl
   ·cases h
  ·cases h;rfl
def afo(h:Hm p m n r x=some m'):m'.layout=m.layout:=by
 unfold Hm at h;split at h
 ·cases hf:zq p m r x with
  |none=>rw[hf]at h;cases h
  |some mem=>rw[hf]at h;exact afn (m:=⟨m.layout,mem,m.threads⟩) h
 ·cases h
def afp(p:Prog)(m:aO)(r:Request)(x:lO):(Be p m r x).1.layout=m.layout:=by
 unfold Be;split
 ·split
  ·rfl
  ·split
   ·rfl
   ·cases h:Hm p m r.dd.toNat r x with
    |none=>rfl
    |some m'=>exact afo h
 ·rfl
def pD(p:Prog)(d:Int)(r:aO×Bool)(h:bh)(k:Nat)(S:Nat->Prop)(v:V)(h':bh)(k':Nat):Prop:=
 ∃(S':Nat->Prop) (T':Nat) (Yq Yr Ys:V) (Aj:List V),v= .dP [KKE Yq r.1.layout.key Yr Ys (.cx T' 0 4),.bool r.2]/\kN h' k' S' T' Yq Yr Ys Aj r.1/\cT p d r.1/\k<=k'/\(∀i,i<k->h' i=h i)/\ ∀i,S' i->S i\/k<=i
def pD.same{r:aO×Bool}{es:List V}(HM:kN h k S T vB vC vL es m)(HG:cT p d m)(e:r=(m,false))(hB:Below k h h'):
  pD p d r h k S (.dP [KKE vB m.layout.key vC vL (.cx T 0 4),.bool false]) h' (k+n):=by
 subst e;exact⟨S,T,vB,vC,vL,es,rfl,HM.mono (by omega) fun i hi=>hB i (HM.lt i hi),HG,by omega,hB,fun i hi=> .inl hi⟩
def pD.new{r:aO×Bool}(H:gX h' (k+n) vB C L T ids bw m)(HA:oP k vB C L T ids bw)(HG:cT p d m)(hl:key=m.layout.key)(e:r=(m,true))(hB:Below k h h'):
  pD p d r h k S (.dP [KKE vB key (.cx C 0 512) (.cx L 0 4) (.cx T 0 4),.bool true]) h' (k+n):=by
 subst e hl;exact⟨_,T,vB,_,_,_,rfl,.deep H,HG,by omega,hB,fun i hi=> .inr (W4.OA HA i hi)⟩
def aqq:lO:=⟨⟨0,0,0,0⟩,[], -1,true⟩
def Dk(ts:List Thread):lO:=if(ts.getD 0 cn).state=0 then⟨⟨0,IntKind.u16.wrap 0,0,0⟩,[],0,false⟩ else if(ts.getD 1 cn).state=0 then⟨⟨0,IntKind.u16.wrap 1,0,0⟩,[],1,false⟩
 else if(ts.getD 2 cn).state=0 then⟨⟨0,IntKind.u16.wrap 2,0,0⟩,[],2,false⟩ else if(ts.getD 3 cn).state=0 then⟨⟨0,IntKind.u16.wrap 3,0,0⟩,[],3,false⟩ else k7 0 false
noncomputable def sL(ts:List Thread)(o:cU)(l:bY)(js:List Int)(q:Request):cU×bY×List Int×lO:=
 if q.call=0\/q.call=12\/q.call=15 then(o,l,js,k7 0 true)
 else if q.call=8 then(o,(qj l (eY q 0) q.dd).1,js,if(qj l (eY q 0) q.dd).2=2 then k7 0 false else if(qj l (eY q 0) q.dd).2=1 then aqq else⟨⟨0,0,0,0⟩,[], -1,false⟩)
 else if q.call=9 then(o,(gd l (eY q 0) q.dd).1,js,k7 0 (gd l (eY q 0) q.dd).2.2)
 else if q.call=10 then(o,l,js,Dk ts)
 else if q.call=11 then(if eY q 0=q.dd\/4<=eY q 0\/(ts.getD (eY q 0).toNat cn).state=0 then(o,l,js,k7 0 false)
  else if(ts.getD (eY q 0).toNat cn).state=4 then(o,l,js,k7 (IntKind.i64.wrap (ts.getD (eY q 0).toNat cn).code) true) else(o,l,js.set q.dd.toNat (eY q 0),aqq))
 else((doX o q).1,l,js,(doX o q).2.1)
@[simp]def Xp(aP:List Instr)(aN:List Int)(aQ:List (List Int))(aE:List Int)(aG:Int)(aJ:List Cell)(aK:List cw)(az:List Thread)(bk aX:List Int)(aY:List (List Int))(aM:List (List Canon))(aH:List fQ)(aS:List Output)(bD:List Int)(bE:List (List Int))(cC:List Entry)(cz:List Int)(dm iw iy fu ny eD:Int)(eQ fM:List Canon)(qP:az.length=4)(ho:um ⟨bk,aX,aY,⟨aM,aH⟩,aS⟩)(hl:jR ⟨bD,bE⟩)(hj:cz.length=4)(hrc:cC.length<=1000000)(oT:0<=dm/\dm<4)(jL:eQ.length<=3)(adk:fM.length<=16)(Bc:(eD=8\/eD=9\/eD=11)->1<=eQ.length)(IL:hY eQ)(hdv:hY fM): ∃(o2:cU) (l2:bY) (wH:List Int) (x:lO),oz X [(0,16,65),(0,17,3),(0,7,112)] 209 18 ((KKJ aP aN aQ aE aG aJ aK az bk aX aY aM aH aS bD bE cC cz:V)) [KKZ dm iw iy fu ny eD eQ fM]=some (18,(KKJ aP aN aQ aE aG aJ aK az o2.clock o2.random o2.dw o2.files.data o2.files.opens o2.dH l2.owner l2.queue cC wH:V),[(KKl x:V)],.bad)/\um o2/\jR l2/\wH.length=4/\xZ x/\sL az ⟨bk,aX,aY,⟨aM,aH⟩,aS⟩ ⟨bD,bE⟩ cz (Request.mk dm iw iy fu ny eD eQ fM)=(o2,l2,wH,x):=by
 have IJ: ∀(f:Thread->V),List.take 4 (az.map f)=az.map f:=fun f=>aZ (by simp;omega);have Ss: ∀(f:Thread->Option V),List.take 4 (az.map f)=az.map f:=fun f=>aZ (by simp;omega);have OP: ∀(hx:bh),cF (az.map (cy hx 12∘Thread.e))=some (az.map Thread.e):=fun hx=>pX (fun _=>rfl) az;have IS: ∀(f:Int->V),List.take 4 (cz.map f)=cz.map f:=fun f=>aZ (by simp;omega);have w0:IntKind.u16.wrap 0=0:=by decide
 have qH:cC.length<=1000000000:=by omega
 have first:(eD=8\/eD=9\/eD=11)-> ∃(h0:0<eQ.length) (a b c d:Int),eQ[0]=⟨a,b,c,d⟩/\0<=b/\b<=65535:=fun h=>by
  have h0:0<eQ.length:=by have:=Bc h;omega
  have hv:=IL _ (aaL h0);obtain⟨⟨a,b,c,d⟩,e⟩: ∃z,eQ[0]=z:=⟨_,rfl⟩;rw[e]at hv;exact⟨h0,a,b,c,d,e,hv.1,hv.2⟩
 by_cases c0:eD=0
 ·subst c0;refine⟨_,_,_,k7 0 true,gh (X:=X) Tryz.func209 rfl rfl ?_,ho,hl,hj,kf _ _,if_pos (by simp)⟩;simp[w0,qP,hj,IJ,OP,IS,k7]
 by_cases H9:eD=12
 ·subst H9;refine⟨_,_,_,k7 0 true,gh (X:=X) Tryz.func209 rfl rfl ?_,ho,hl,hj,kf _ _,if_pos (by simp)⟩;simp[w0,qP,hj,IJ,OP,IS,k7]
 by_cases c15:eD=15
 ·subst c15;refine⟨_,_,_,k7 0 true,gh (X:=X) Tryz.func209 rfl rfl ?_,ho,hl,hj,kf _ _,if_pos (by simp)⟩;simp[w0,qP,hj,IJ,OP,IS,k7]
 by_cases c8:eD=8
 ·obtain⟨h0,a,b,c,d,Hn,b0,b1⟩:=first (.inl c8)
  have Ge:IntKind.i64.wrap b=b:=wrap_i64 (by omega);have Ui:eY (Request.mk dm iw iy fu ny eD eQ fM) 0=b:=by simp[eY,List.getD,h0,Hn]
  have hG:=aeb hl b oT;obtain⟨⟨IT,IU⟩,Cq,hT⟩: ∃l2 Cq,qj ⟨bD,bE⟩ b dm=(l2,Cq):=⟨_,_,rfl⟩;have zH:=LD bD bE b dm hl;rw[hT]at hG zH;simp only at hG zH;subst c8;by_cases w2:Cq=2
  ·subst w2;refine⟨⟨bk,aX,aY,⟨aM,aH⟩,aS⟩,⟨IT,IU⟩,cz,k7 0 false,gh (X:=X) Tryz.func209 rfl rfl ?_,ho,hG,hj,kf _ _,by unfold sL;rw[if_neg (by simp),if_pos rfl,Ui,hT];rfl⟩;simp[qP,hj,IJ,OP,IS,k7,h0,Hn,Ge,zH]
  by_cases w1:Cq=1
  ·subst w1;refine⟨⟨bk,aX,aY,⟨aM,aH⟩,aS⟩,⟨IT,IU⟩,cz,⟨⟨0,0,0,0⟩,[], -1,true⟩,gh (X:=X) Tryz.func209 rfl rfl ?_,ho,hG,hj,⟨⟨by simp,by simp⟩,.nil,by simp⟩,by unfold sL;rw[if_neg (by simp),if_pos rfl,Ui,hT];rfl⟩;simp[w0,qP,hj,IJ,OP,IS,h0,Hn,Ge,zH]
  ·refine⟨⟨bk,aX,aY,⟨aM,aH⟩,aS⟩,⟨IT,IU⟩,cz,⟨⟨0,0,0,0⟩,[], -1,false⟩,gh (X:=X) Tryz.func209 rfl rfl ?_,ho,hG,hj,⟨⟨by simp,by simp⟩,.nil,by simp⟩,by unfold sL;rw[if_neg (by simp),if_pos rfl,Ui,hT];simp only[if_neg w2,if_neg w1]⟩;simp[w0,qP,hj,IJ,OP,IS,h0,Hn,Ge,zH,w1,w2]
 by_cases c9:eD=9
 ·obtain⟨h0,a,b,c,d,Hn,b0,b1⟩:=first (.inr (.inl c9))
  have Ge:IntKind.i64.wrap b=b:=wrap_i64 (by omega);have Ui:eY (Request.mk dm iw iy fu ny eD eQ fM) 0=b:=by simp[eY,List.getD,h0,Hn]
  have hG:=(GW hl b dm).1;obtain⟨⟨IT,IU⟩,own,ok,hT⟩: ∃l2 own ok,gd ⟨bD,bE⟩ b dm=(l2,own,ok):=⟨_,_,_,rfl⟩;have zH:=B2 bD bE b dm hl;rw[hT]at hG zH;simp only at hG zH;subst c9;refine⟨⟨bk,aX,aY,⟨aM,aH⟩,aS⟩,⟨IT,IU⟩,cz,k7 0 ok,gh (X:=X) Tryz.func209 rfl rfl ?_,ho,hG,hj,kf _ _,by unfold sL;rw[if_neg (by simp),if_neg (by simp),if_pos rfl,Ui,hT]⟩;simp[w0,qP,hj,IJ,OP,IS,k7,h0,Hn,Ge,zH]
 by_cases CY:eD=10
 ·subst CY;obtain⟨⟨s0,r0,p0,n0,a0,v0,t0,d0⟩,⟨s1,r1,p1,n1,a1,v1,t1,d1⟩,⟨s2,r2,p2,n2,a2,v2,t2,d2⟩,⟨s3,r3,p3,n3,a3,v3,t3,d3⟩,rfl⟩:=ID qP;have fin: ∀z:Int,xZ ⟨⟨0,IntKind.u16.wrap z,0,0⟩,[],z,false⟩:=fun z=>⟨qL _,.nil,by simp⟩;by_cases e0:s0=0
  ·refine⟨⟨bk,aX,aY,⟨aM,aH⟩,aS⟩,⟨bD,bE⟩,cz,⟨⟨0,IntKind.u16.wrap 0,0,0⟩,[],0,false⟩,gh (X:=X) Tryz.func209 rfl rfl ?_,ho,hl,hj,fin 0,by unfold sL;rw[if_neg (by simp),if_neg (by simp),if_neg (by simp),if_pos rfl];simp[Dk,e0]⟩;simp[hj,IS,w0,dI,Thread.bS,e0]
  by_cases e1:s1=0
  ·refine⟨⟨bk,aX,aY,⟨aM,aH⟩,aS⟩,⟨bD,bE⟩,cz,⟨⟨0,IntKind.u16.wrap 1,0,0⟩,[],1,false⟩,gh (X:=X) Tryz.func209 rfl rfl ?_,ho,hl,hj,fin 1,by unfold sL;rw[if_neg (by simp),if_neg (by simp),if_neg (by simp),if_pos rfl];simp[Dk,e0,e1]⟩;simp[hj,IS,dI,Thread.bS,e0,e1]
  by_cases e2:s2=0
  ·refine⟨⟨bk,aX,aY,⟨aM,aH⟩,aS⟩,⟨bD,bE⟩,cz,⟨⟨0,IntKind.u16.wrap 2,0,0⟩,[],2,false⟩,gh (X:=X) Tryz.func209 rfl rfl ?_,ho,hl,hj,fin 2,by unfold sL;rw[if_neg (by simp),if_neg (by simp),if_neg (by simp),if_pos rfl];simp[Dk,e0,e1,e2]⟩;simp[hj,IS,dI,Thread.bS,e0,e1,e2]
  by_cases e3:s3=0
  ·refine⟨⟨bk,aX,aY,⟨aM,aH⟩,aS⟩,⟨bD,bE⟩,cz,⟨⟨0,IntKind.u16.wrap 3,0,0⟩,[],3,false⟩,gh (X:=X) Tryz.func209 rfl rfl ?_,ho,hl,hj,fin 3,by unfold sL;rw[if_neg (by simp),if_neg (by simp),if_neg (by simp),if_pos rfl];simp[Dk,e0,e1,e2,e3]⟩;simp[hj,IS,dI,Thread.bS,e0,e1,e2,e3]
  ·refine⟨⟨bk,aX,aY,⟨aM,aH⟩,aS⟩,⟨bD,bE⟩,cz,k7 0 false,gh (X:=X) Tryz.func209 rfl rfl ?_,ho,hl,hj,kf _ _,by unfold sL;rw[if_neg (by simp),if_neg (by simp),if_neg (by simp),if_pos rfl];simp[Dk,e0,e1,e2,e3]⟩;simp[hj,IS,dI,Thread.bS,k7,e0,e1,e2,e3]
 by_cases Lg:eD=11
 ·obtain⟨h0,a,b,c,d,Hn,b0,b1⟩:=first (.inr (.inr Lg))
  have Ge:IntKind.i64.wrap b=b:=wrap_i64 (by omega);have Ui:eY (Request.mk dm iw iy fu ny eD eQ fM) 0=b:=by simp[eY,List.getD,h0,Hn]
  obtain⟨qt,rfl⟩:=aaG oT.1;have qt4:qt<4:=by omega
  have bb9:(qt:Int)<4:=by omega
  obtain⟨kb,rfl⟩:=aaG b0;subst Lg;by_cases e1:kb=qt
  ·subst e1;refine⟨⟨bk,aX,aY,⟨aM,aH⟩,aS⟩,⟨bD,bE⟩,cz,k7 0 false,gh (X:=X) Tryz.func209 rfl rfl ?_,ho,hl,hj,kf _ _,by unfold sL;rw[if_neg (by simp),if_neg (by simp),if_neg (by simp),if_neg (by simp),if_pos rfl,Ui];exact if_pos (.inl rfl)⟩;simp[qP,hj,IJ,OP,IS,k7,h0,Hn,Ge]
  by_cases e2:4<=kb
  ·have e2i:(4:Int)<=kb:=by omega
   refine⟨⟨bk,aX,aY,⟨aM,aH⟩,aS⟩,⟨bD,bE⟩,cz,k7 0 false,gh (X:=X) Tryz.func209 rfl rfl ?_,ho,hl,hj,kf _ _,by unfold sL;rw[if_neg (by simp),if_neg (by simp),if_neg (by simp),if_neg (by simp),if_pos rfl,Ui];exact if_pos (.inr (.inl e2i))⟩;simp[qP,hj,IJ,OP,IS,k7,h0,Hn,Ge,e2i]
  have k4:kb<4:=by omega
  have E3:(kb:Int)<4:=by omega
  have e2i: ¬(4:Int)<=kb:=by omega
  have e1i: ¬(kb:Int)=qt:=by omega
  have kl:kb<az.length:=by omega
  by_cases e3:(az[kb]).state=0
  ·have e3':=eq_true e3;refine⟨⟨bk,aX,aY,⟨aM,aH⟩,aS⟩,⟨bD,bE⟩,cz,k7 0 false,gh (X:=X) Tryz.func209 rfl rfl ?_,ho,hl,hj,kf _ _,by unfold sL;rw[if_neg (by simp),if_neg (by simp),if_neg (by simp),if_neg (by simp),if_pos rfl,Ui];exact if_pos (.inr (.inr (by simp[List.getD,kl,e3])))⟩;simp[qP,hj,IJ,OP,IS,k7,h0,Hn,Ge,e1i,e2i,k4,E3,e3']
  have hjg:az.getD ((kb:Int)).toNat cn=az[kb]:=by simp[List.getD,kl]
  have hjc: ¬((kb:Int)=(qt:Int)\/4<=(kb:Int)\/(az.getD ((kb:Int)).toNat cn).state=0):=by rw[hjg];exact fun h=>by rcases h with h|h|h;exact e1i h;exact e2i h;exact e3 h
  by_cases e4:(az[kb]).state=4
  ·have e4':=eq_true e4;refine⟨⟨bk,aX,aY,⟨aM,aH⟩,aS⟩,⟨bD,bE⟩,cz,k7 (IntKind.i64.wrap (az[kb]).code) true,gh (X:=X) Tryz.func209 rfl rfl ?_,ho,hl,hj,kf _ _,by unfold sL;rw[if_neg (by simp),if_neg (by simp),if_neg (by simp),if_neg (by simp),if_pos rfl,Ui];rw[if_neg hjc,if_pos (by rw[hjg];exact e4),hjg]⟩;simp[qP,hj,IJ,OP,IS,k7,h0,Hn,Ge,e1i,e2i,k4,E3,e3,e4']
  ·obtain⟨wH,afr⟩: ∃z,cz.set qt (kb:Int)=z:=⟨_,rfl⟩;have lh:(cz.map (V.int .i64)).set qt (V.int .i64 (kb:Int))=wH.map (V.int .i64):=by rw[<-afr,abO]
   have yb:wH.length=4:=by rw[<-afr];simp[hj]
   have a3a: ∀(f:Int->V),List.take 4 (wH.map f)=wH.map f:=fun f=>aZ (by simp;omega);refine⟨⟨bk,aX,aY,⟨aM,aH⟩,aS⟩,⟨bD,bE⟩,wH,⟨⟨0,0,0,0⟩,[], -1,true⟩,gh (X:=X) Tryz.func209 rfl rfl ?_,ho,hl,yb,⟨⟨by simp,by simp⟩,.nil,by simp⟩,by unfold sL;rw[if_neg (by simp),if_neg (by simp),if_neg (by simp),if_neg (by simp),if_pos rfl,Ui];rw[if_neg hjc,if_neg (by rw[hjg];exact e4)];simp only[aaH,afr];rfl⟩;simp[w0,qP,hj,IJ,OP,h0,Hn,Ge,e1i,e2i,k4,E3,e3,e4,qt4,bb9,lh,yb,a3a]
 obtain⟨⟨Uj,Uk,Ul,⟨Um,Un⟩,Uo⟩,⟨⟨x1,x2,x3,x4⟩,x5,x6,x7⟩,e,zH,hog,hxg,hdx⟩:=bbn bk aX aY aM aH aS dm iw iy fu ny eD eQ fM ho (by omega) (by omega) hdv;refine⟨⟨Uj,Uk,Ul,⟨Um,Un⟩,Uo⟩,⟨bD,bE⟩,cz,⟨⟨x1,x2,x3,x4⟩,x5,x6,x7⟩,gh (X:=X) Tryz.func209 rfl rfl ?_,hog,hl,hj,hxg,by unfold sL;rw[if_neg (fun h=>by rcases h with h|h|h;exact c0 h;exact H9 h;exact c15 h),if_neg c8,if_neg c9,if_neg CY,if_neg Lg,hdx]⟩;simp[qP,hj,IJ,OP,IS,c0,H9,c15,c8,c9,CY,Lg,zH]
end Go.Proofs.YtdngefmliibcgaaGreat
