/- part -/
import Derived.Test.YtdngefmliibcgaaGreatV20
set_option linter.all false
set_option maxRecDepth 20000
set_option maxHeartbeats 20000000
namespace Go.Proofs.YtdngefmliibcgaaGreat
open Go Go.Abs Go.Abs.kI Qf
variable  {a b:List Int}
@[simp]def agj(b:List Int)(n v:Int)(h:bh)(k id m:Nat)(es:List V)(hi:h id=some ⟨1,es,false⟩)(hl:es.length=m)(fa:id<k)(hn:m<=100000):cL X 243 [.cx id 0 m,.int .i64 2,v] h k=some (.cx (k+27) 0 (m+2),aR (aR (aR (aR h id none) (k+13) (some ⟨1,es++ [.int .u8 (IntKind.u8.wrap (v.fdiv 256))],false⟩)) (k+13) none) (k+27) (some ⟨1,es++ [.int .u8 (IntKind.u8.wrap (v.fdiv 256)),.int .u8 (IntKind.u8.wrap v)],false⟩),k+36):=by
 have w8:IntKind.u64.wrap 8=8:=by decide
 have i8:IntKind.i64.wrap 8=8:=by decide
 have w0:IntKind.u64.wrap 0=0:=by decide
 have sV:IntKind.i64.wrap (-1)= -1:=by decide
 have hb:IntKind.i64.bits=64:=rfl;have n1: ∀j,¬id=k+j:=fun j=>by omega
 have n2: ∀j,¬k+j=id:=fun j=>by omega
 have tk0:List.take m es=es:=aZ (by omega);have tk1: ∀a0,List.take (m+1) (es++ [a0])=es++ [a0]:=fun _=>aZ (by simp;omega);have bd1:m+1<=140737488355328:=by omega
 have be1:m+1<=4611686018427387904:=by omega
 have bd2:m+2<=140737488355328:=by omega
 have WS:m+2<=4611686018427387904:=by omega
 refine Nl Tryz.func243 rfl rfl ?_;simp[dI,aaE,sV,hb,hi,hl,i8,tk0,tk1,bd1,bd2,be1,WS]
@[simp]def av4(b:List Int)(n v:Int)(h:bh)(k id m:Nat)(es:List V)(hi:h id=some ⟨1,es,false⟩)(hl:es.length=m)(fa:id<k)(hn:m<=100000):cL X 243 [.cx id 0 m,.int .i64 6,v] h k=some (.cx (k+83) 0 (m+6),aR (aR (aR (aR (aR (aR (aR (aR (aR (aR (aR (aR h id none) (k+13) (some ⟨1,es++ [.int .u8 (IntKind.u8.wrap (v.fdiv 1099511627776))],false⟩)) (k+13) none) (k+27) (some ⟨1,es++ [.int .u8 (IntKind.u8.wrap (v.fdiv 1099511627776)),.int .u8 (IntKind.u8.wrap (v.fdiv 4294967296))],false⟩)) (k+27) none) (k+41) (some ⟨1,es++ [.int .u8 (IntKind.u8.wrap (v.fdiv 1099511627776)),.int .u8 (IntKind.u8.wrap (v.fdiv 4294967296)),.int .u8 (IntKind.u8.wrap (v.fdiv 16777216))],false⟩)) (k+41) none) (k+55) (some ⟨1,es++ [.int .u8 (IntKind.u8.wrap (v.fdiv 1099511627776)),.int .u8 (IntKind.u8.wrap (v.fdiv 4294967296)),.int .u8 (IntKind.u8.wrap (v.fdiv 16777216)),.int .u8 (IntKind.u8.wrap (v.fdiv 65536))],false⟩)) (k+55) none) (k+69) (some ⟨1,es++ [.int .u8 (IntKind.u8.wrap (v.fdiv 1099511627776)),.int .u8 (IntKind.u8.wrap (v.fdiv 4294967296)),.int .u8 (IntKind.u8.wrap (v.fdiv 16777216)),.int .u8 (IntKind.u8.wrap (v.fdiv 65536)),.int .u8 (IntKind.u8.wrap (v.fdiv 256))],false⟩)) (k+69) none) (k+83) (some ⟨1,es++ [.int .u8 (IntKind.u8.wrap (v.fdiv 1099511627776)),.int .u8 (IntKind.u8.wrap (v.fdiv 4294967296)),.int .u8 (IntKind.u8.wrap (v.fdiv 16777216)),.int .u8 (IntKind.u8.wrap (v.fdiv 65536)),.int .u8 (IntKind.u8.wrap (v.fdiv 256)),.int .u8 (IntKind.u8.wrap v)],false⟩),k+92):=by
 have w40:IntKind.u64.wrap 40=40:=by decide
 have i40:IntKind.i64.wrap 40=40:=by decide
 have w32:IntKind.u64.wrap 32=32:=by decide
 have i32:IntKind.i64.wrap 32=32:=by decide
 have w24:IntKind.u64.wrap 24=24:=by decide
 have i24:IntKind.i64.wrap 24=24:=by decide
 have w16:IntKind.u64.wrap 16=16:=by decide
 have i16:IntKind.i64.wrap 16=16:=by decide
 have w8:IntKind.u64.wrap 8=8:=by decide
 have i8:IntKind.i64.wrap 8=8:=by decide
 have w0:IntKind.u64.wrap 0=0:=by decide
 have sV:IntKind.i64.wrap (-1)= -1:=by decide
 have hb:IntKind.i64.bits=64:=rfl;have n1: ∀j,¬id=k+j:=fun j=>by omega
 have n2: ∀j,¬k+j=id:=fun j=>by omega
 have tk0:List.take m es=es:=aZ (by omega);have tk1: ∀a0,List.take (m+1) (es++ [a0])=es++ [a0]:=fun _=>aZ (by simp;omega);have tk2: ∀a0 a1,List.take (m+2) (es++ [a0,a1])=es++ [a0,a1]:=fun _ _=>aZ (by simp;omega);have tk3: ∀a0 a1 a2,List.take (m+3) (es++ [a0,a1,a2])=es++ [a0,a1,a2]:=fun _ _ _=>aZ (by simp;omega);have IJ: ∀a0 a1 a2 a3,List.take (m+4) (es++ [a0,a1,a2,a3])=es++ [a0,a1,a2,a3]:=fun _ _ _ _=>aZ (by simp;omega);have tk5: ∀a0 a1 a2 a3 a4,List.take (m+5) (es++ [a0,a1,a2,a3,a4])=es++ [a0,a1,a2,a3,a4]:=fun _ _ _ _ _=>aZ (by simp;omega);have bd1:m+1<=140737488355328:=by omega
 have be1:m+1<=4611686018427387904:=by omega
 have bd2:m+2<=140737488355328:=by omega
 have WS:m+2<=4611686018427387904:=by omega
 have bd3:m+3<=140737488355328:=by omega
 have be3:m+3<=4611686018427387904:=by omega
 have bd4:m+4<=140737488355328:=by omega
 have be4:m+4<=4611686018427387904:=by omega
 have bd5:m+5<=140737488355328:=by omega
 have be5:m+5<=4611686018427387904:=by omega
 have bd6:m+6<=140737488355328:=by omega
 have be6:m+6<=4611686018427387904:=by omega
 refine Nl Tryz.func243 rfl rfl ?_;simp[dI,aaE,sV,hb,hi,hl,i40,i32,i24,i16,i8,tk0,tk1,tk2,tk3,IJ,tk5,bd1,bd2,bd3,bd4,bd5,bd6,be1,WS,be3,be4,be5,be6]
def av5(h:bh)(k id:Nat)(es:List V)(v:V)(h':bh)(k':Nat):Prop:=
 ∃nA,v= .cx nA 0 es.length/\(k<=nA/\nA<k')/\h' nA=some ⟨1,es,false⟩/\ ∀i,i<k->i≠id->h' i=h i
@[simp]def av6(b:List Int)(ey dp kv lZ:Int)(h:bh)(k id m:Nat)(es:List V)(hi:h id=some ⟨1,es,false⟩)(hl:es.length=m)(fa:id<k)(hn:m<=90000)(hv:0<=dp/\dp<=65535): ∃w h' k',cL X 270 [.cx id 0 m,KKy ey dp kv lZ] h k=some (w,h',k')/\av5 h k id (es++(wD (Canon.mk ey dp kv lZ)).map (V.int .u8)) w h' k':=by
 have sU:IntKind.i64.wrap dp=dp:=wrap_i64 (by omega);have n1: ∀j,¬id=k+j:=fun j=>by omega
 have n2: ∀j,¬k+j=id:=fun j=>by omega
 have n3: ¬id=k:=by omega
 have n4: ¬k=id:=by omega
 have tk0:List.take m es=es:=aZ (by omega);have bd2:m+2<=140737488355328:=by omega
 have WS:m+2<=4611686018427387904:=by omega
 by_cases ht:ey=1
 ·subst ht;have hc:=aln (x:=⟨1,dp,kv,lZ⟩) rfl;rw[hc];have p1:=fun(H:bh) (hH:H (k+13)=some ⟨1,es++ [.int .u8 1,.int .u8 (IntKind.u8.wrap (kv+1))],false⟩)=>agj [] 0 lZ H (k+18) (k+13) (m+2) (es++ [.int .u8 1,.int .u8 (IntKind.u8.wrap (kv+1))]) hH (by simp;omega) (by omega) (by omega);refine aaB ?_;simp[aaE,hi,hl,n3,n4,tk0,bd2,WS,p1,Ot];refine⟨k+45,?_,?_,?_,?_⟩
  ·simp[hl]
  ·omega
  ·simp[aR]
  ·intro i h1 h2;have q1: ∀j,¬i=k+j:=fun j=>by omega
   have q2: ¬i=k:=by omega
   simp[aR,q1,q2,h2]
 ·have hc:=alo (x:=⟨ey,dp,kv,lZ⟩) ht;rw[hc];have p1:=fun(H:bh) (hH:H (k+9)=some ⟨1,es++ [.int .u8 ey,.int .u8 0],false⟩)=>agj [] 0 dp H (k+15) (k+9) (m+2) (es++ [.int .u8 ey,.int .u8 0]) hH (by simp;omega) (by omega) (by omega);refine aaB ?_;simp[aaE,hi,hl,n3,n4,tk0,bd2,WS,p1,ht,sU];refine⟨k+42,?_,?_,?_,?_⟩
  ·simp[hl]
  ·omega
  ·simp[aR]
  ·intro i h1 h2;have q1: ∀j,¬i=k+j:=fun j=>by omega
   have q2: ¬i=k:=by omega
   simp[aR,q1,q2,h2]
@[simp]def agk(b:List Int)(l:List Canon)(h:bh)(k id m:Nat)(es:List V)(hi:h id=some ⟨1,es,false⟩)(hl:es.length=m)(fa:id<k)(hn:m<=50000)(jX:l.length<=1000)(hv: ∀i (h:i<l.length),0<=(l[i]).val/\(l[i]).val<=65535): ∃w h' k',cL X 244 [.cx id 0 m,l] h k=some (w,h',k')/\av5 h k id (es++(u5 l).map (V.int .u8)) w h' k':=by
 have n1: ∀j,¬id=k+j:=fun j=>by omega
 have n2: ∀j,¬k+j=id:=fun j=>by omega
 have n3: ¬id=k:=by omega
 have tk0:List.take m es=es:=aZ (by omega);have bd1:m+1<=140737488355328:=by omega
 have be1:m+1<=4611686018427387904:=by omega
 have hz:=Sk l.length l;rw[<-J8];refine aaB ?_;simp[aaE,hi,hl,tk0,bd1,be1];refine lW (fun i S=>(S.f 13=l/\S.f 14= .int .i64 l.length/\S.f 15=(i:Int))/\ ∃nA,S.f 0= .cx nA 0 (m+(xP l.length l i).length)/\(k<=nA/\nA<S.n)/\S.h nA=some ⟨1,es++(xP l.length l i).map (V.int .u8),false⟩/\ ∀j,j<k->j≠id->S.h j=h j) l.length ?_ 0 (by simp) ?_
 ·rintro i S oy ⟨⟨f13,f14,f15⟩,nA,f0,⟨b1,b2⟩,z9,nU⟩;have hlen:=J7 l.length l i oy;by_cases gZ:i<l.length
  ·have bL:(i:Int)<l.length:=by omega
   have gS:=mZ i (by omega);have hvi:=hv i gZ;obtain⟨⟨ct,cv,cr,co⟩,rH⟩: ∃x,l[i]=x:=⟨_,rfl⟩;have up:=Oq l.length gZ;rw[rH]at up hvi;have pS:=J6 ⟨ct,cv,cr,co⟩;obtain⟨C,hC⟩: ∃C,xP l.length l i=C:=⟨_,rfl⟩;rw[hC]at f0 z9 hlen up;have Yx:(es++C.map (V.int .u8)).length=m+C.length:=by simp[hl]
   have n4: ¬S.n=nA:=by omega
   have n5: ∀j,¬S.n+j=nA:=fun j=>by omega
   have n6: ¬nA=S.n:=by omega
   have n7: ∀j,¬nA=S.n+j:=fun j=>by omega
   have cc: ∀H:bh,H nA=some ⟨1,es++C.map (V.int .u8),false⟩-> ∃w h' k',cL X 270 [.cx nA 0 (m+C.length),KKy ct cv cr co] H (S.n+9)=some (w,h',k')/\av5 H (S.n+9) nA ((es++C.map (V.int .u8))++(wD ⟨ct,cv,cr,co⟩).map (V.int .u8)) w h' k':=fun H hH=>av6 [] ct cv cr co H (S.n+9) nA (m+C.length) (es++C.map (V.int .u8)) hH Yx (by omega) (by omega) hvi;simp[aaE,f13,f14,f15,f0,gZ,bL,rH,Canon.bS];obtain⟨w,h',k',e,idn,rfl,⟨c1,c2⟩,ar5,bdz⟩:=cc (aR (aR S.h (S.n+3) (some ⟨4,[KKy 0 0 0 0],true⟩)) (S.n+3) (some ⟨4,[KKy ct cv cr co],true⟩)) (by simp[aR,n7,z9]);rw[e];simp[f13,f14,f15,gS];refine⟨idn,?_,?_,?_,?_⟩
   ·rw[up];simp[hl]
   ·omega
   ·rw[ar5,up];simp
   ·intro j h1 h2;rw[bdz j (by omega) (by omega)];have q1: ¬j=S.n+3:=by omega
    simp[aR,q1];exact nU j h1 h2
  ·have hei:i=l.length:=by omega
   subst hei;simp[aaE,f14,f15,f0];exact⟨nA,by simp[hl],by omega,z9,nU⟩
 ·simp;refine⟨k+6,by rw[hz];simp,by omega,by rw[hz];simp,?_⟩;intro j h1 h2;have q1: ¬j=k+6:=by omega
  simp[q1,h2]
@[simp]def vd(di dn db cD gU cu:Int)(bf bT:List Canon)(h1:bf.length<=1000)(h2:bT.length<=1000)(hv1: ∀i (h:i<bf.length),0<=(bf[i]).val/\(bf[i]).val<=65535)(hv2: ∀i (h:i<bT.length),0<=(bT[i]).val/\(bT[i]).val<=65535):bU X 185 [KKZ di dn db cD gU cu bf bT]=some (.dP [.sl false (((ph (Request.mk di dn db cD gU cu bf bT)).1).map (V.int .u8)),.int .i64 ((ph (Request.mk di dn db cD gU cu bf bT)).2)]):=by
 have g1:bf.length<=1000000000:=by omega
 have g2:bT.length<=1000000000:=by omega
 cases hb:lk (Request.mk di dn db cD gU cu bf bT) with
 |false=>
  have e:ph (Request.mk di dn db cD gU cu bf bT)=([],1):=by unfold ph;rw[if_neg (by simp[hb])]
  rw[e];refine aaA ?_;simp[g1,g2,hb]
 |true=>
  have e:ph (Request.mk di dn db cD gU cu bf bT)=(xq (Request.mk di dn db cD gU cu bf bT),0):=by unfold ph;rw[if_pos hb]
  rw[e];have p6:=fun(H:bh) (hH:H 15=some ⟨1,[.int .u8 (IntKind.u8.wrap di),.int .u8 (IntKind.u8.wrap dn),.int .u8 (IntKind.u8.wrap db)],false⟩)=>av4 [] 0 cD H 22 15 3 [.int .u8 (IntKind.u8.wrap di),.int .u8 (IntKind.u8.wrap dn),.int .u8 (IntKind.u8.wrap db)] hH rfl (by omega) (by omega);obtain⟨E0,hE0⟩: ∃E0:List Int,E0=([IntKind.u8.wrap di,IntKind.u8.wrap dn,IntKind.u8.wrap db]++be6 cD)++ [IntKind.u8.wrap gU,IntKind.u8.wrap cu]:=⟨_,rfl⟩;have bd8:[V.int .u8 (IntKind.u8.wrap di),V.int .u8 (IntKind.u8.wrap dn),V.int .u8 (IntKind.u8.wrap db),V.int .u8 (IntKind.u8.wrap (cD.fdiv 1099511627776)),V.int .u8 (IntKind.u8.wrap (cD.fdiv 4294967296)),V.int .u8 (IntKind.u8.wrap (cD.fdiv 16777216)),V.int .u8 (IntKind.u8.wrap (cD.fdiv 65536)),V.int .u8 (IntKind.u8.wrap (cD.fdiv 256)),V.int .u8 (IntKind.u8.wrap cD),V.int .u8 (IntKind.u8.wrap gU),V.int .u8 (IntKind.u8.wrap cu)]=E0.map (V.int .u8):=by rw[hE0];rfl
  have a4w:E0.length=11:=by rw[hE0];rfl
  have l1:=Dd bf;have l2:=Dd bT;obtain⟨n1,Bz⟩: ∃x,(E0++u5 bf).length=x:=⟨_,rfl⟩;have bur:n1=11+(u5 bf).length:=by rw[<-Bz,aaY,a4w]
  have hB:(E0++u5 bf)++u5 bT=xq (Request.mk di dn db cD gU cu bf bT):=by rw[hE0];rfl
  have m1:((E0++u5 bf).map (V.int .u8)).length=n1:=by rw[abJ];exact Bz
  have k1: ∀H:bh,∃i h' k',H 122=some ⟨1,E0.map (V.int .u8),false⟩->cL X 244 [.cx 122 0 11,.sl false (bf.map Canon.e)] H 133=some (.cx i 0 n1,h',k')/\i<k'/\h' i=some ⟨1,(E0++u5 bf).map (V.int .u8),false⟩/\ ∀j,j<133->j≠122->h' j=H j:=fun H=>by
   by_cases hH:H 122=some ⟨1,E0.map (V.int .u8),false⟩
   ·obtain⟨w,h',k',e,i,rfl,b,c,d⟩:=agk [] bf H 133 122 11 (E0.map (V.int .u8)) hH (by simpa using a4w) (by omega) (by omega) h1 hv1;rw[<-List.map_append]at e c;rw[m1]at e;exact⟨i,h',k',fun _=>⟨e,b.2,c,d⟩⟩
   ·exact⟨0,H,0,fun g=>absurd g hH⟩
  obtain⟨fI,k1⟩:=Classical.skolem.1 k1;obtain⟨fH,k1⟩:=Classical.skolem.1 k1;obtain⟨fK,k1⟩:=Classical.skolem.1 k1;have k2: ∀H:bh,∃i h' k',H 122=some ⟨1,E0.map (V.int .u8),false⟩->cL X 244 [.cx (fI H) 0 n1,.sl false (bT.map Canon.e)] (fH H) (fK H)=some (.cx i 0 (xq (Request.mk di dn db cD gU cu bf bT)).length,h',k')/\h' i=some ⟨1,(xq (Request.mk di dn db cD gU cu bf bT)).map (V.int .u8),false⟩:=fun H=>by
   by_cases hH:H 122=some ⟨1,E0.map (V.int .u8),false⟩
   ·obtain⟨q1,q2,q3,q4⟩:=k1 H hH;obtain⟨w,h',k',e,i,rfl,b,c,d⟩:=agk [] bT (fH H) (fK H) (fI H) n1 _ q3 m1 q2 (by omega) h2 hv2;rw[<-List.map_append,hB]at e c;rw[abJ]at e;exact⟨i,h',k',fun _=>⟨e,c⟩⟩
   ·exact⟨0,H,0,fun g=>absurd g hH⟩
  obtain⟨gI,k2⟩:=Classical.skolem.1 k2;obtain⟨gH,k2⟩:=Classical.skolem.1 k2;obtain⟨gK,k2⟩:=Classical.skolem.1 k2;have c1:=fun H hH=>(k1 H hH).1;have c2:=fun H hH=>(k1 H hH).2.2.2;have c3:=fun H hH=>(k2 H hH).1;have c4:=fun H hH=>(k2 H hH).2;refine aaA ?_;simp[g1,g2,hb,p6,bd8,c1,c2,c3,c4]
def av7(ha:lL a)(hb:lL b):(a.map (fun n=>UInt8.ofNat n.toNat)=b.map fun n=>UInt8.ofNat n.toNat)↔a=b:=by
 constructor
 ·intro h;apply abF;intro i;have h1:=congrArg (fun l=>l[i]?) h;simp only[abG]at h1;cases e1:a[i]? with
  |none=>cases e2:b[i]? with
   |none=>rfl
   |some y=>rw[e1,e2]at h1;simp at h1
  |some x=>cases e2:b[i]? with
   |none=>rw[e1,e2]at h1;simp at h1
   |some y=>
    rw[e1,e2]at h1;simp only[acq,aA]at h1;have hx:=ha x (aaT e1);have hy:=hb y (aaT e2);have h2:=congrArg UInt8.toNat h1;simp only[UInt8.toNat_ofNat']at h2;congr 1;omega
 ·rintro rfl;rfl
@[simp]def aif(a b:List Int)(ha:lL a)(hb:lL b):bU X 186 [.sl false (a.map (V.int .u8)),.sl false (b.map (V.int .u8))]=some (.bool (decide (a=b))):=by
 refine aaA ?_;have e1:=HF a;have e2:=HF b;have e3:=av7 ha hb;by_cases h:a=b
 ·subst h;simp[e1]
 ·have h2: ¬(a.map (fun n=>UInt8.ofNat n.toNat)=b.map fun n=>UInt8.ofNat n.toNat):=fun g=>h (e3.1 g);simp[e1,e2,h,h2]
def sX(b:List Int)(fs:List cS)(i:Nat):List Int:=(fs.take i).foldl Au b
def agm(b:List Int)(fs:List cS):sX b fs 0=b:=rfl
def HL(b:List Int){fs:List cS}{i:Nat}(h:i<fs.length):sX b fs (i+1)=Au (sX b fs i) fs[i]:=by unfold sX;rw[fD h,adl];rfl
def S7(b:List Int)(fs:List cS)(i:Nat):(sX b fs i).length=b.length:=by
 induction i with
 |zero=>rfl
 |succ i ih=>
  by_cases h:i<fs.length
  ·rw[HL b h,aen,ih]
  ·unfold sX at ih⊢;rw[aZ (by omega)];rwa[aZ (by omega)]at ih
def agn(hb:lL b)(fs:List cS)(i:Nat):lL (sX b fs i):=by
 induction i with
 |zero=>exact hb
 |succ i ih=>
  by_cases h:i<fs.length
  ·rw[HL b h];exact aub ih _
  ·unfold sX at ih⊢;rw[aZ (by omega)];rwa[aZ (by omega)]at ih
def ago(q:Request)(fs:List cS):Bool:=decide ((ph q).2=0)&&decide (sX (ph q).1 fs fs.length=(ph q).1)
def agp(q:Request):lL (ph q).1:=by
 unfold ph;split
 ·rename_i h;exact agh h
 ·exact lL.nil
@[simp]def mF(dm iw iy fu ny eD:Int)(eQ fM:List Canon)(dW:List cS)(wW:dW.length<=1000000)(h1:eQ.length<=1000)(h2:fM.length<=1000)(hv1: ∀i (h:i<eQ.length),0<=(eQ[i]).val/\(eQ[i]).val<=65535)(hv2: ∀i (h:i<fM.length),0<=(fM[i]).val/\(fM[i]).val<=65535):bU X 113 [KKZ dm iw iy fu ny eD eQ fM,.sl false (dW.map cS.e)]=some (.bool (ago (Request.mk dm iw iy fu ny eD eQ fM) dW)):=by
 refine aaA ?_;have hB:=vd dm iw iy fu ny eD eQ fM h1 h2 hv1 hv2;have hp:=agp (Request.mk dm iw iy fu ny eD eQ fM);have hl:(ph (Request.mk dm iw iy fu ny eD eQ fM)).1.length<=9000:=by
  unfold ph;split
  ·simp only[S5];omega
  ·simp
 have hA:ago (Request.mk dm iw iy fu ny eD eQ fM) dW=(decide ((ph (Request.mk dm iw iy fu ny eD eQ fM)).2=0)&&decide (sX (ph (Request.mk dm iw iy fu ny eD eQ fM)).1 dW dW.length=(ph (Request.mk dm iw iy fu ny eD eQ fM)).1)):=rfl;obtain⟨⟨b,e⟩,TZ⟩: ∃x,ph (Request.mk dm iw iy fu ny eD eQ fM)=x:=⟨_,rfl⟩;rw[TZ]at hB hp hl hA;simp only at hB hp hl hA;rw[hA];simp[-vd,hB];refine cY (fun i S=>(S.f 5= .sl false ((b).map (V.int .u8))/\S.f 6= .int .i64 (e)/\S.f 7= .sl false ((sX b dW i).map (V.int .u8))/\S.f 16= .sl false (dW.map cS.e)/\S.f 17=((dW).length:Int)/\S.f 18=(i:Int)/\S.n=1100)/\True) (dW.length) (by omega) ?_ ?_ ?_
 ·rintro i S ⟨oY,gS,bL⟩ ⟨df,fg⟩;have us:=HL b bL;have ul:=S7 b dW i;obtain⟨⟨f1,f2,f3,f4,f5,f6⟩,hf⟩: ∃x,dW[i]=x:=⟨_,rfl⟩;rw[hf]at us;obtain⟨B,PD⟩: ∃x,sX b dW i=x:=⟨_,rfl⟩;rw[PD]at us ul;have hlb:B.length<=1000000000:=by omega
  simp[df,gS,bL,hf,PD,us,hlb]
 ·rintro S ⟨df,fg⟩;have hq:=agn hp dW dW.length;by_cases he:e=0
  ·simp[df,he,hp,hq]
  ·simp[df,he]
 ·simp[agm]
def LW(x:lO):Bool:=decide (x.value=⟨0,0,0,0⟩)&& (decide (x.data.length=0)&& (decide (x.spawn=0)&& !x.wait))
@[simp]def XP(bO bP bA bB:Int)(cO:List Canon)(cZ:Int)(gW:Bool):bU X 142 [KKb bO bP bA bB cO cZ gW]=some (.bool (LW (lO.mk (Canon.mk bO bP bA bB) cO cZ gW))):=by
 refine aaA ?_;by_cases h1:(⟨bO,bP,bA,bB⟩:Canon)=⟨0,0,0,0⟩
 case neg=>
  have e:LW (lO.mk (Canon.mk bO bP bA bB) cO cZ gW)=false:=by unfold LW;rw[decide_eq_false h1];rfl
  rw[e];have uF:=h1;simp only[Canon.mk.injEq]at uF;simp[uF];try omega
 simp only[Canon.mk.injEq]at h1;obtain⟨rfl,rfl,rfl,rfl⟩:=h1;by_cases h2:cO.length=0
 case neg=>simp[h2,LW]
 by_cases h3:cZ=0
 case neg=>simp[h2,h3,LW]
 cases gW<;>simp[h2,h3,LW]
@[simp]def agq(bO bP bA bB:Int)(cO:List Canon)(cZ:Int)(gW:Bool)(hm:cO.length<=1000000000):bU X 143 [KKb bO bP bA bB cO cZ gW]=some (.bool (sF (lO.mk (Canon.mk bO bP bA bB) cO cZ gW))):=by
 refine aaA ?_;cases h1:lN (lO.mk (Canon.mk bO bP bA bB) cO cZ gW).value
 case false=>simp[h1,sF]
 cases h2:jd cO
 case false=>simp[h1,h2,hm,sF]
 by_cases h3:(cO.length:Int)<=16
 case neg=>
  have TW: ¬cO.length<=16:=by omega
  simp[h1,h2,h3,TW,hm,sF]
 have TW:cO.length<=16:=by omega
 by_cases h4: -1<=cZ
 case neg=>simp[h1,h2,h3,TW,h4,hm,sF]
 by_cases h5:cZ<4
 case neg=>simp[h1,h2,h3,TW,h4,h5,hm,sF]
 simp[h1,h2,h3,TW,h4,h5,hm,sF]
def agr(e:Entry):Bool:=lk e.request&&decide (e.request.dd=e.dd)
def av8(e:Entry):Bool:=decide (e.request=xx)
def S8(e:Entry):Bool:=
 if e.kind=1 then decide (1<=e.n)&& (decide (e.n<=64)&& (agr e&& (decide (¬e.request.stop=3)&&LW e.result)))
 else if e.kind=2 then decide (e.n=0)&& (agr e&& (decide (e.request.stop=1)&&sF e.result))
 else if e.kind=3 then decide (e.n=0)&& (av8 e&&LW e.result)
 else if e.kind=4 then decide (e.n=0)&& (av8 e&& (sF e.result&& (decide (e.result.spawn= -1)&& (!e.result.wait&&decide (e.result.data.length=0)))))
 else false
def vI(e:Entry):Bool:=decide (0<=e.dd)&& (decide (e.dd<4)&&S8 e)
def ann{e:Entry}(h:0<=e.dd/\e.dd<4):vI e=S8 e:=by unfold vI;simp[h.1,h.2]
@[simp]def UD(kZ cR vM bQ dA dX dJ fp dY:Int)(dF dG:List Canon)(dy dz cW cX:Int)(dU:List Canon)(dZ:Int)(eJ:Bool)(h1:dF.length<=1000000000)(h2:dG.length<=1000000000)(h3:dU.length<=1000000000)(hk:kZ=1)(hv:vI (Entry.mk kZ cR vM (Request.mk bQ dA dX dJ fp dY dF dG) (lO.mk (Canon.mk dy dz cW cX) dU dZ eJ))=true):bU X 71 [KKm kZ cR vM bQ dA dX dJ fp dY dF dG dy dz cW cX dU dZ eJ]=some (.bool true):=by
 refine aaA ?_;have hS:=bH bQ dA dX dJ fp dY dF dG 0 0 0 0 0 0 [] [] h1 h2;simp only[abM]at hS;subst hk;unfold vI at hv;simp only[aaF,decide_eq_true_eq]at hv;obtain⟨t0,t4,hv⟩:=hv;unfold S8 at hv;rw[if_pos rfl]at hv;simp only[aaF,decide_eq_true_eq,agr]at hv;obtain⟨n1,n2,⟨pV,q⟩,q3,hnb⟩:=hv;subst q;have pU: ¬4<=bQ:=by omega
 have pk: ¬bQ<0:=by omega
 simp[-bH,hS,h1,h2,pk,pU,pV,hnb,n1,n2,q3]
@[simp]def zw(kZ cR vM bQ dA dX dJ fp dY:Int)(dF dG:List Canon)(dy dz cW cX:Int)(dU:List Canon)(dZ:Int)(eJ:Bool)(h1:dF.length<=1000000000)(h2:dG.length<=1000000000)(h3:dU.length<=1000000000):bU X 71 [KKm kZ cR vM bQ dA dX dJ fp dY dF dG dy dz cW cX dU dZ eJ]=some (.bool (vI (Entry.mk kZ cR vM (Request.mk bQ dA dX dJ fp dY dF dG) (lO.mk (Canon.mk dy dz cW cX) dU dZ eJ)))):=by
 refine aaA ?_;have hS:=bH bQ dA dX dJ fp dY dF dG 0 0 0 0 0 0 [] [] h1 h2;simp only[abM]at hS;rw[show Request.mk 0 0 0 0 0 0 [] []=xx from rfl]at hS;by_cases t0:0<=cR
 case neg=>
  have e:vI (Entry.mk kZ cR vM (Request.mk bQ dA dX dJ fp dY dF dG) (lO.mk (Canon.mk dy dz cW cX) dU dZ eJ))=false:=by unfold vI;rw[decide_eq_false t0];rfl
  rw[e];have pk:cR<0:=by omega
  simp[pk]
 by_cases t4:cR<4
 case neg=>
  have e:vI (Entry.mk kZ cR vM (Request.mk bQ dA dX dJ fp dY dF dG) (lO.mk (Canon.mk dy dz cW cX) dU dZ eJ))=false:=by unfold vI;rw[decide_eq_false t4];simp
  rw[e];have pk: ¬cR<0:=by omega
  have pU:4<=cR:=by omega
  simp[pk,pU]
 rw[ann (e:=(Entry.mk kZ cR vM (Request.mk bQ dA dX dJ fp dY dF dG) (lO.mk (Canon.mk dy dz cW cX) dU dZ eJ))) ⟨t0,t4⟩];obtain⟨sil,a40⟩: ∃x,decide ((⟨bQ,dA,dX,dJ,fp,dY,dF,dG⟩:Request)=xx)=x:=⟨_,rfl⟩;rw[a40]at hS;have es:av8 (Entry.mk kZ cR vM (Request.mk bQ dA dX dJ fp dY dF dG) (lO.mk (Canon.mk dy dz cW cX) dU dZ eJ))=sil:=a40;obtain⟨rb,pV⟩: ∃x,lk (⟨bQ,dA,dX,dJ,fp,dY,dF,dG⟩:Request)=x:=⟨_,rfl⟩;have ea:agr (Entry.mk kZ cR vM (Request.mk bQ dA dX dJ fp dY dF dG) (lO.mk (Canon.mk dy dz cW cX) dU dZ eJ))=(rb&&decide (bQ=cR)):=by unfold agr;rw[<-pV]
 obtain⟨nb,hnb⟩: ∃x,LW (⟨⟨dy,dz,cW,cX⟩,dU,dZ,eJ⟩:lO)=x:=⟨_,rfl⟩;obtain⟨rs,B9⟩: ∃x,sF (⟨⟨dy,dz,cW,cX⟩,dU,dZ,eJ⟩:lO)=x:=⟨_,rfl⟩;have eK:S8 (Entry.mk kZ cR vM (Request.mk bQ dA dX dJ fp dY dF dG) (lO.mk (Canon.mk dy dz cW cX) dU dZ eJ))=if kZ=1 then decide (1<=vM)&& (decide (vM<=64)&& ((rb&&decide (bQ=cR))&& (decide (¬dA=3)&&nb)))
   else if kZ=2 then decide (vM=0)&& ((rb&&decide (bQ=cR))&& (decide (dA=1)&&rs))
   else if kZ=3 then decide (vM=0)&& (sil&&nb)
   else if kZ=4 then decide (vM=0)&& (sil&& (rs&& (decide (dZ= -1)&& (!eJ&&decide (dU.length=0)))))
   else false:=by unfold S8;rw[ea,es];simp only[hnb,B9]
 rw[eK];have pU: ¬4<=cR:=by omega
 have pk: ¬cR<0:=by omega
 obtain⟨ab,sx⟩: ∃x,(rb&&decide (bQ=cR))=x:=⟨_,rfl⟩;rw[sx];by_cases k1:kZ=1
 ·subst k1;by_cases n1:1<=vM
  case neg=>
   cases rb with
   |false=>
    have e9:ab=false:=by rw[<-sx];rfl
    subst e9;simp[-bH,hS,h1,h2,pk,pU,pV,n1]
   |true=>
    by_cases q:bQ=cR
    ·subst q;have e9:ab=true:=by rw[<-sx];simp
     subst e9;simp[-bH,hS,h1,h2,pk,pU,pV,n1]
    ·have e9:ab=false:=by rw[<-sx];simp[q]
     subst e9;simp[-bH,hS,h1,h2,pk,pU,pV,q,n1]
  by_cases n2:vM<=64
  case neg=>
   cases rb with
   |false=>
    have e9:ab=false:=by rw[<-sx];rfl
    subst e9;simp[-bH,hS,h1,h2,pk,pU,pV,n1,n2]
   |true=>
    by_cases q:bQ=cR
    ·subst q;have e9:ab=true:=by rw[<-sx];simp
     subst e9;simp[-bH,hS,h1,h2,pk,pU,pV,n1,n2]
    ·have e9:ab=false:=by rw[<-sx];simp[q]
     subst e9;simp[-bH,hS,h1,h2,pk,pU,pV,q,n1,n2]
  by_cases q3:dA=3
  ·subst q3;cases rb with
   |false=>
    have e9:ab=false:=by rw[<-sx];rfl
    subst e9;simp[-bH,hS,h1,h2,pk,pU,pV,n1,n2]
   |true=>
    by_cases q:bQ=cR
    ·subst q;have e9:ab=true:=by rw[<-sx];simp
     subst e9;simp[-bH,hS,h1,h2,pk,pU,pV,n1,n2]
    ·have e9:ab=false:=by rw[<-sx];simp[q]
     subst e9;simp[-bH,hS,h1,h2,pk,pU,pV,q,n1,n2]
  ·skip
   cases rb with
   |false=>
    have e9:ab=false:=by rw[<-sx];rfl
    subst e9;simp[-bH,hS,h1,h2,pk,pU,pV,n1,n2,q3]
   |true=>
    by_cases q:bQ=cR
    ·subst q;have e9:ab=true:=by rw[<-sx];simp
     subst e9;simp[-bH,hS,h1,h2,pk,pU,hnb,pV,n1,n2,q3]
    ·have e9:ab=false:=by rw[<-sx];simp[q]
     subst e9;simp[-bH,hS,h1,h2,pk,pU,pV,q,n1,n2,q3]
 by_cases k2:kZ=2
 ·subst k2;by_cases n1:vM=0
  case neg=>
   cases rb with
   |false=>
    have e9:ab=false:=by rw[<-sx];rfl
    subst e9;simp[-bH,hS,h1,h2,pk,pU,pV,n1]
   |true=>
    by_cases q:bQ=cR
    ·subst q;have e9:ab=true:=by rw[<-sx];simp
     subst e9;simp[-bH,hS,h1,h2,pk,pU,pV,n1]
    ·have e9:ab=false:=by rw[<-sx];simp[q]
     subst e9;simp[-bH,hS,h1,h2,pk,pU,pV,q,n1]
  subst n1;by_cases q3:dA=1
  ·subst q3;cases rb with
   |false=>
    have e9:ab=false:=by rw[<-sx];rfl
    subst e9;simp[-bH,hS,h1,h2,pk,pU,pV]
   |true=>
    by_cases q:bQ=cR
    ·subst q;have e9:ab=true:=by rw[<-sx];simp
     subst e9;simp[-bH,hS,h1,h2,h3,pk,pU,B9,pV]
    ·have e9:ab=false:=by rw[<-sx];simp[q]
     subst e9;simp[-bH,hS,h1,h2,pk,pU,pV,q]
  ·skip
   cases rb with
   |false=>
    have e9:ab=false:=by rw[<-sx];rfl
    subst e9;simp[-bH,hS,h1,h2,pk,pU,pV,q3]
   |true=>
    by_cases q:bQ=cR
    ·subst q;have e9:ab=true:=by rw[<-sx];simp
     subst e9;simp[-bH,hS,h1,h2,pk,pU,pV,q3]
    ·have e9:ab=false:=by rw[<-sx];simp[q]
     subst e9;simp[-bH,hS,h1,h2,pk,pU,pV,q,q3]
 by_cases k3:kZ=3
 ·subst k3;by_cases n1:vM=0
  case neg=>
   cases rb with
   |false=>
    have e9:ab=false:=by rw[<-sx];rfl
    subst e9;simp[-bH,hS,h1,h2,pk,pU,pV,n1]
   |true=>
    by_cases q:bQ=cR
    ·subst q;have e9:ab=true:=by rw[<-sx];simp
     subst e9;simp[-bH,hS,h1,h2,pk,pU,pV,n1]
    ·have e9:ab=false:=by rw[<-sx];simp[q]
     subst e9;simp[-bH,hS,h1,h2,pk,pU,pV,q,n1]
  subst n1;cases sil
  ·skip
   cases rb with
   |false=>
    have e9:ab=false:=by rw[<-sx];rfl
    subst e9;simp[-bH,hS,h1,h2,pk,pU,pV]
   |true=>
    by_cases q:bQ=cR
    ·subst q;have e9:ab=true:=by rw[<-sx];simp
     subst e9;simp[-bH,hS,h1,h2,pk,pU,pV]
    ·have e9:ab=false:=by rw[<-sx];simp[q]
     subst e9;simp[-bH,hS,h1,h2,pk,pU,pV,q]
  ·skip
   cases rb with
   |false=>
    have e9:ab=false:=by rw[<-sx];rfl
    subst e9;simp[-bH,hS,h1,h2,pk,pU,hnb,pV]
   |true=>
    by_cases q:bQ=cR
    ·subst q;have e9:ab=true:=by rw[<-sx];simp
     subst e9;simp[-bH,hS,h1,h2,pk,pU,hnb,pV]
    ·have e9:ab=false:=by rw[<-sx];simp[q]
     subst e9;simp[-bH,hS,h1,h2,pk,pU,hnb,pV,q]
 by_cases k4:kZ=4
 ·subst k4;by_cases n1:vM=0
  case neg=>
   cases rb with
   |false=>
    have e9:ab=false:=by rw[<-sx];rfl
    subst e9;simp[-bH,hS,h1,h2,pk,pU,pV,n1]
   |true=>
    by_cases q:bQ=cR
    ·subst q;have e9:ab=true:=by rw[<-sx];simp
     subst e9;simp[-bH,hS,h1,h2,pk,pU,pV,n1]
    ·have e9:ab=false:=by rw[<-sx];simp[q]
     subst e9;simp[-bH,hS,h1,h2,pk,pU,pV,q,n1]
  subst n1;cases sil
  ·skip
   cases rb with
   |false=>
    have e9:ab=false:=by rw[<-sx];rfl
    subst e9;simp[-bH,hS,h1,h2,pk,pU,pV]
   |true=>
    by_cases q:bQ=cR
    ·subst q;have e9:ab=true:=by rw[<-sx];simp
     subst e9;simp[-bH,hS,h1,h2,pk,pU,pV]
    ·have e9:ab=false:=by rw[<-sx];simp[q]
     subst e9;simp[-bH,hS,h1,h2,pk,pU,pV,q]
  cases rs
  ·skip
   cases rb with
   |false=>
    have e9:ab=false:=by rw[<-sx];rfl
    subst e9;simp[-bH,hS,h1,h2,h3,pk,pU,B9,pV]
   |true=>
    by_cases q:bQ=cR
    ·subst q;have e9:ab=true:=by rw[<-sx];simp
     subst e9;simp[-bH,hS,h1,h2,h3,pk,pU,B9,pV]
    ·have e9:ab=false:=by rw[<-sx];simp[q]
     subst e9;simp[-bH,hS,h1,h2,h3,pk,pU,B9,pV,q]
  by_cases q4:dZ= -1
  case neg=>
   cases rb with
   |false=>
    have e9:ab=false:=by rw[<-sx];rfl
    subst e9;simp[-bH,hS,h1,h2,h3,pk,pU,B9,pV,q4]
   |true=>
    by_cases q:bQ=cR
    ·subst q;have e9:ab=true:=by rw[<-sx];simp
     subst e9;simp[-bH,hS,h1,h2,h3,pk,pU,B9,pV,q4]
    ·have e9:ab=false:=by rw[<-sx];simp[q]
     subst e9;simp[-bH,hS,h1,h2,h3,pk,pU,B9,pV,q,q4]
  subst q4;cases eJ
  ·skip
   cases rb with
   |false=>
    have e9:ab=false:=by rw[<-sx];rfl
    subst e9;simp[-bH,hS,h1,h2,h3,pk,pU,B9,pV]
   |true=>
    by_cases q:bQ=cR
    ·subst q;have e9:ab=true:=by rw[<-sx];simp
     subst e9;simp[-bH,hS,h1,h2,h3,pk,pU,B9,pV]
    ·have e9:ab=false:=by rw[<-sx];simp[q]
     subst e9;simp[-bH,hS,h1,h2,h3,pk,pU,B9,pV,q]
  ·skip
   cases rb with
   |false=>
    have e9:ab=false:=by rw[<-sx];rfl
    subst e9;simp[-bH,hS,h1,h2,h3,pk,pU,B9,pV]
   |true=>
    by_cases q:bQ=cR
    ·subst q;have e9:ab=true:=by rw[<-sx];simp
     subst e9;simp[-bH,hS,h1,h2,h3,pk,pU,B9,pV]
    ·have e9:ab=false:=by rw[<-sx];simp[q]
     subst e9;simp[-bH,hS,h1,h2,h3,pk,pU,B9,pV,q]
 cases rb with
 |false=>
  have e9:ab=false:=by rw[<-sx];rfl
  subst e9;simp[-bH,hS,h1,h2,pk,pU,pV,k1,k2,k3,k4]
 |true=>
  by_cases q:bQ=cR
  ·subst q;have e9:ab=true:=by rw[<-sx];simp
   subst e9;simp[-bH,hS,h1,h2,pk,pU,pV,k1,k2,k3,k4]
  ·have e9:ab=false:=by rw[<-sx];simp[q]
   subst e9;simp[-bH,hS,h1,h2,pk,pU,pV,q,k1,k2,k3,k4]
end Go.Proofs.YtdngefmliibcgaaGreat
