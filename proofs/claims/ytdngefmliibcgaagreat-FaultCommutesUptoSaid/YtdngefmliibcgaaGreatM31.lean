/- Part of a proof: H8. -/
import Derived.Test.YtdngefmliibcgaaGreatM30
set_option linter.all false
set_option maxRecDepth 20000
set_option maxHeartbeats 20000000
namespace Go.Proofs.YtdngefmliibcgaaGreat
open Go Go.Abs Go.Abs.kX Qf
variable  {q:Request}{a b:List Int}{x:Canon}
def Hh(l:List Int):bytesOf (l.map (V.int .u8))=some (l.map fun n=>UInt8.ofNat n.toNat):=by
 unfold bytesOf;rw[adz];induction l with
 |nil=>rfl
 |cons a l ih=>
  show cF (some (UInt8.ofNat a.toNat)::List.map (Go.Abs.byteOf∘V.int .u8) l)=_;rw[cF.eq_3,ih];rfl
structure a3c (q:Request):Prop where
 ok:lh q=true
 args:hX q.args
 data:hX q.data
def a3c.lens(h:a3c q):q.args.length<=3/\q.data.length<=16:=by
 have:=h.ok;unfold lh at this;simp only[aaF,decide_eq_true_eq]at this;omega
def jI(n:Int):0<=IntKind.u8.wrap n/\IntKind.u8.wrap n<=255:=by rw[DJ];omega
def lI.append(ha:lI a)(hb:lI b):lI (a++b):=fun x hx=>by
 rcases List.mem_append.1 hx with h|h
 ·exact ha x h
 ·exact hb x h
def lI.cons{x:Int}(hx:0<=x/\x<=255)(ha:lI a):lI (x::a):=fun y hy=>by
 rcases List.mem_cons.1 hy with rfl|h
 ·exact hx
 ·exact ha y h
def lI.nil:lI []:=fun x hx=>by cases hx
def ap6(v:Int):lI (Wo v):= .cons (jI _) (.cons (jI _) .nil)
def amf(h:0<=x.tag/\x.tag<=255):lI (wy x):=by
 unfold wy;split
 ·exact .cons h (.cons (jI _) (ap6 _))
 ·exact .cons h (.cons (by omega) (ap6 _))
def afi(h:lK x=true):0<=x.tag/\x.tag<=255:=by
 unfold lK at h;split at h
 ·omega
 split at h
 ·omega
 ·cases h
def Ub{l:List Canon}(h:jc l=true):lI (uV l):=by
 unfold uV;refine .cons (jI _) ?_;intro x hx;obtain⟨c,hc,hx⟩:=List.mem_flatMap.1 hx;exact amf (afi (List.all_eq_true.1 h c hc)) x hx
def afj(h:lh q=true):lI (xf q):=by
 have hc:jc q.args=true/\jc q.data=true:=by
  unfold lh at h;simp only[aaF]at h;obtain⟨-, -, -, -, -, -, -, -, -, -, -, -,h1, -,h2, -⟩:=h;exact⟨h1,h2⟩
 unfold xf;have e3: ∀a b c:Int,lI [IntKind.u8.wrap a,IntKind.u8.wrap b,IntKind.u8.wrap c]:=fun a b c=> .cons (jI _) (.cons (jI _) (.cons (jI _) .nil));have e2: ∀a b:Int,lI [IntKind.u8.wrap a,IntKind.u8.wrap b]:=fun a b=> .cons (jI _) (.cons (jI _) .nil);have e6: ∀v:Int,lI (be6 v):=fun v=> .cons (jI _) (.cons (jI _) (.cons (jI _) (.cons (jI _) (.cons (jI _) (.cons (jI _) .nil)))));exact((((e3 _ _ _).append (e6 _)).append (e2 _ _)).append (Ub hc.1)).append (Ub hc.2)
def Sv(q:Request):(xf q).length=13+4*q.args.length+4*q.data.length:=by
 unfold xf be6;simp[C4];omega
@[simp]def u6(dg di cY cD gS cp:Int)(bf bT:List Canon)(h1:bf.length<=1000)(h2:bT.length<=1000)(hv1: ∀i (h:i<bf.length),0<=(bf[i]).val/\(bf[i]).val<=65535)(hv2: ∀i (h:i<bT.length),0<=(bT[i]).val/\(bT[i]).val<=65535):bW X 185 [KKZ dg di cY cD gS cp bf bT]=some (.dM [.sl false (((pk (Request.mk dg di cY cD gS cp bf bT)).1).map (V.int .u8)),.int .i64 ((pk (Request.mk dg di cY cD gS cp bf bT)).2)]):=by
 have g1:bf.length<=1000000000:=by omega
 have g2:bT.length<=1000000000:=by omega
 cases hb:lh (Request.mk dg di cY cD gS cp bf bT) with
 |false=>
  have e:pk (Request.mk dg di cY cD gS cp bf bT)=([],1):=by unfold pk;rw[if_neg (by simp[hb])]
  rw[e];refine aaA ?_;simp[g1,g2,hb]
 |true=>
  have e:pk (Request.mk dg di cY cD gS cp bf bT)=(xf (Request.mk dg di cY cD gS cp bf bT),0):=by unfold pk;rw[if_pos hb]
  rw[e];have p6:=fun(H:bh) (hH:H 15=some ⟨1,[.int .u8 (IntKind.u8.wrap dg),.int .u8 (IntKind.u8.wrap di),.int .u8 (IntKind.u8.wrap cY)],false⟩)=>aus [] 0 cD H 22 15 3 [.int .u8 (IntKind.u8.wrap dg),.int .u8 (IntKind.u8.wrap di),.int .u8 (IntKind.u8.wrap cY)] hH rfl (by omega) (by omega);obtain⟨E0,hE0⟩: ∃E0:List Int,E0=([IntKind.u8.wrap dg,IntKind.u8.wrap di,IntKind.u8.wrap cY]++be6 cD)++ [IntKind.u8.wrap gS,IntKind.u8.wrap cp]:=⟨_,rfl⟩;have bcd:[V.int .u8 (IntKind.u8.wrap dg),V.int .u8 (IntKind.u8.wrap di),V.int .u8 (IntKind.u8.wrap cY),V.int .u8 (IntKind.u8.wrap (cD.fdiv 1099511627776)),V.int .u8 (IntKind.u8.wrap (cD.fdiv 4294967296)),V.int .u8 (IntKind.u8.wrap (cD.fdiv 16777216)),V.int .u8 (IntKind.u8.wrap (cD.fdiv 65536)),V.int .u8 (IntKind.u8.wrap (cD.fdiv 256)),V.int .u8 (IntKind.u8.wrap cD),V.int .u8 (IntKind.u8.wrap gS),V.int .u8 (IntKind.u8.wrap cp)]=E0.map (V.int .u8):=by rw[hE0];rfl
  have a3d:E0.length=11:=by rw[hE0];rfl
  have l1:=C4 bf;have l2:=C4 bT;obtain⟨n1,Bt⟩: ∃x,(E0++uV bf).length=x:=⟨_,rfl⟩;have bs2:n1=11+(uV bf).length:=by rw[<-Bt,aaY,a3d]
  have hB:(E0++uV bf)++uV bT=xf (Request.mk dg di cY cD gS cp bf bT):=by rw[hE0];rfl
  have m1:((E0++uV bf).map (V.int .u8)).length=n1:=by rw[abF];exact Bt
  have k1: ∀H:bh,∃i h' k',H 122=some ⟨1,E0.map (V.int .u8),false⟩->cL X 244 [.cu 122 0 11,.sl false (bf.map Canon.e)] H 133=some (.cu i 0 n1,h',k')/\i<k'/\h' i=some ⟨1,(E0++uV bf).map (V.int .u8),false⟩/\ ∀j,j<133->j≠122->h' j=H j:=fun H=>by
   by_cases hH:H 122=some ⟨1,E0.map (V.int .u8),false⟩
   ·obtain⟨w,h',k',e,i,rfl,b,c,d⟩:=afh [] bf H 133 122 11 (E0.map (V.int .u8)) hH (by simpa using a3d) (by omega) (by omega) h1 hv1;rw[<-List.map_append]at e c;rw[m1]at e;exact⟨i,h',k',fun _=>⟨e,b.2,c,d⟩⟩
   ·exact⟨0,H,0,fun g=>absurd g hH⟩
  obtain⟨fI,k1⟩:=Classical.skolem.1 k1;obtain⟨fH,k1⟩:=Classical.skolem.1 k1;obtain⟨fK,k1⟩:=Classical.skolem.1 k1;have k2: ∀H:bh,∃i h' k',H 122=some ⟨1,E0.map (V.int .u8),false⟩->cL X 244 [.cu (fI H) 0 n1,.sl false (bT.map Canon.e)] (fH H) (fK H)=some (.cu i 0 (xf (Request.mk dg di cY cD gS cp bf bT)).length,h',k')/\h' i=some ⟨1,(xf (Request.mk dg di cY cD gS cp bf bT)).map (V.int .u8),false⟩:=fun H=>by
   by_cases hH:H 122=some ⟨1,E0.map (V.int .u8),false⟩
   ·obtain⟨q1,q2,q3,q4⟩:=k1 H hH;obtain⟨w,h',k',e,i,rfl,b,c,d⟩:=afh [] bT (fH H) (fK H) (fI H) n1 _ q3 m1 q2 (by omega) h2 hv2;rw[<-List.map_append,hB]at e c;rw[abF]at e;exact⟨i,h',k',fun _=>⟨e,c⟩⟩
   ·exact⟨0,H,0,fun g=>absurd g hH⟩
  obtain⟨gI,k2⟩:=Classical.skolem.1 k2;obtain⟨gH,k2⟩:=Classical.skolem.1 k2;obtain⟨gK,k2⟩:=Classical.skolem.1 k2;have c1:=fun H hH=>(k1 H hH).1;have c2:=fun H hH=>(k1 H hH).2.2.2;have c3:=fun H hH=>(k2 H hH).1;have c4:=fun H hH=>(k2 H hH).2;refine aaA ?_;simp[g1,g2,hb,p6,bcd,c1,c2,c3,c4]
def auv(ha:lI a)(hb:lI b):(a.map (fun n=>UInt8.ofNat n.toNat)=b.map fun n=>UInt8.ofNat n.toNat)↔a=b:=by
 constructor
 ·intro h;apply abA;intro i;have h1:=congrArg (fun l=>l[i]?) h;simp only[abm]at h1;cases e1:a[i]? with
  |none=>cases e2:b[i]? with
   |none=>rfl
   |some y=>rw[e1,e2]at h1;simp at h1
  |some x=>cases e2:b[i]? with
   |none=>rw[e1,e2]at h1;simp at h1
   |some y=>
    rw[e1,e2]at h1;simp only[abZ,aA]at h1;have hx:=ha x (aaT e1);have hy:=hb y (aaT e2);have h2:=congrArg UInt8.toNat h1;simp only[UInt8.toNat_ofNat']at h2;congr 1;omega
 ·rintro rfl;rfl
@[simp]def ahg(a b:List Int)(ha:lI a)(hb:lI b):bW X 186 [.sl false (a.map (V.int .u8)),.sl false (b.map (V.int .u8))]=some (.bool (decide (a=b))):=by
 refine aaA ?_;have e1:=Hh a;have e2:=Hh b;have e3:=auv ha hb;by_cases h:a=b
 ·subst h;simp[e1]
 ·have h2: ¬(a.map (fun n=>UInt8.ofNat n.toNat)=b.map fun n=>UInt8.ofNat n.toNat):=fun g=>h (e3.1 g);simp[e1,e2,h,h2]
def sV(b:List Int)(fs:List dF)(i:Nat):List Int:=(fs.take i).foldl Ap b
def afl(b:List Int)(fs:List dF):sV b fs 0=b:=rfl
def Hi(b:List Int){fs:List dF}{i:Nat}(h:i<fs.length):sV b fs (i+1)=Ap (sV b fs i) fs[i]:=by unfold sV;rw[fD h,acX];rfl
def Sw(b:List Int)(fs:List dF)(i:Nat):(sV b fs i).length=b.length:=by
 induction i with
 |zero=>rfl
 |succ i ih=>
  by_cases h:i<fs.length
  ·rw[Hi b h,adl,ih]
  ·unfold sV at ih⊢;rw[aZ (by omega)];rwa[aZ (by omega)]at ih
def afm(hb:lI b)(fs:List dF)(i:Nat):lI (sV b fs i):=by
 induction i with
 |zero=>exact hb
 |succ i ih=>
  by_cases h:i<fs.length
  ·rw[Hi b h];exact ata ih _
  ·unfold sV at ih⊢;rw[aZ (by omega)];rwa[aZ (by omega)]at ih
def afn(q:Request)(fs:List dF):Bool:=decide ((pk q).2=0)&&decide (sV (pk q).1 fs fs.length=(pk q).1)
def afo(q:Request):lI (pk q).1:=by
 unfold pk;split
 ·rename_i h;exact afj h
 ·exact lI.nil
@[simp]def mK(dh iw iy fv nK ez:Int)(eQ fJ:List Canon)(dV:List dF)(wO:dV.length<=1000000)(h1:eQ.length<=1000)(h2:fJ.length<=1000)(hv1: ∀i (h:i<eQ.length),0<=(eQ[i]).val/\(eQ[i]).val<=65535)(hv2: ∀i (h:i<fJ.length),0<=(fJ[i]).val/\(fJ[i]).val<=65535):bW X 113 [KKZ dh iw iy fv nK ez eQ fJ,.sl false (dV.map dF.e)]=some (.bool (afn (Request.mk dh iw iy fv nK ez eQ fJ) dV)):=by
 refine aaA ?_;have hB:=u6 dh iw iy fv nK ez eQ fJ h1 h2 hv1 hv2;have hp:=afo (Request.mk dh iw iy fv nK ez eQ fJ);have hl:(pk (Request.mk dh iw iy fv nK ez eQ fJ)).1.length<=9000:=by
  unfold pk;split
  ·simp only[Sv];omega
  ·simp
 have hA:afn (Request.mk dh iw iy fv nK ez eQ fJ) dV=(decide ((pk (Request.mk dh iw iy fv nK ez eQ fJ)).2=0)&&decide (sV (pk (Request.mk dh iw iy fv nK ez eQ fJ)).1 dV dV.length=(pk (Request.mk dh iw iy fv nK ez eQ fJ)).1)):=rfl;obtain⟨⟨b,e⟩,Tt⟩: ∃x,pk (Request.mk dh iw iy fv nK ez eQ fJ)=x:=⟨_,rfl⟩;rw[Tt]at hB hp hl hA;simp only at hB hp hl hA;rw[hA];simp[-u6,hB];refine cZ (fun i S=>(S.f 5= .sl false ((b).map (V.int .u8))/\S.f 6= .int .i64 (e)/\S.f 7= .sl false ((sV b dV i).map (V.int .u8))/\S.f 16= .sl false (dV.map dF.e)/\S.f 17=((dV).length:Int)/\S.f 18=(i:Int)/\S.n=1100)/\True) (dV.length) (by omega) ?_ ?_ ?_
 ·rintro i S ⟨pq,ie,bL⟩ ⟨df,fp⟩;have us:=Hi b bL;have ul:=Sw b dV i;obtain⟨⟨f1,f2,f3,f4,f5,f6⟩,hf⟩: ∃x,dV[i]=x:=⟨_,rfl⟩;rw[hf]at us;obtain⟨B,O8⟩: ∃x,sV b dV i=x:=⟨_,rfl⟩;rw[O8]at us ul;have hlb:B.length<=1000000000:=by omega
  simp[df,ie,bL,hf,O8,us,hlb]
 ·rintro S ⟨df,fp⟩;have hq:=afm hp dV dV.length;by_cases he:e=0
  ·simp[df,he,hp,hq]
  ·simp[df,he]
 ·simp[afl]
def Lu(x:lL):Bool:=decide (x.value=⟨0,0,0,0⟩)&& (decide (x.data.length=0)&& (decide (x.spawn=0)&& !x.wait))
@[simp]def W9(bO bP bA bB:Int)(cO:List Canon)(cW:Int)(gV:Bool):bW X 142 [KKb bO bP bA bB cO cW gV]=some (.bool (Lu (lL.mk (Canon.mk bO bP bA bB) cO cW gV))):=by
 refine aaA ?_;by_cases h1:(⟨bO,bP,bA,bB⟩:Canon)=⟨0,0,0,0⟩
 case neg=>
  have e:Lu (lL.mk (Canon.mk bO bP bA bB) cO cW gV)=false:=by unfold Lu;rw[decide_eq_false h1];rfl
  rw[e];have uE:=h1;simp only[Canon.mk.injEq]at uE;simp[uE];try omega
 simp only[Canon.mk.injEq]at h1;obtain⟨rfl,rfl,rfl,rfl⟩:=h1;by_cases h2:cO.length=0
 case neg=>simp[h2,Lu]
 by_cases h3:cW=0
 case neg=>simp[h2,h3,Lu]
 cases gV<;>simp[h2,h3,Lu]
@[simp]def afp(bO bP bA bB:Int)(cO:List Canon)(cW:Int)(gV:Bool)(hm:cO.length<=1000000000):bW X 143 [KKb bO bP bA bB cO cW gV]=some (.bool (sE (lL.mk (Canon.mk bO bP bA bB) cO cW gV))):=by
 refine aaA ?_;cases h1:lK (lL.mk (Canon.mk bO bP bA bB) cO cW gV).value
 case false=>simp[h1,sE]
 cases h2:jc cO
 case false=>simp[h1,h2,hm,sE]
 by_cases h3:(cO.length:Int)<=16
 case neg=>
  have Tp: ¬cO.length<=16:=by omega
  simp[h1,h2,h3,Tp,hm,sE]
 have Tp:cO.length<=16:=by omega
 by_cases h4: -1<=cW
 case neg=>simp[h1,h2,h3,Tp,h4,hm,sE]
 by_cases h5:cW<4
 case neg=>simp[h1,h2,h3,Tp,h4,h5,hm,sE]
 simp[h1,h2,h3,Tp,h4,h5,hm,sE]
def afq(e:Entry):Bool:=lh e.request&&decide (e.request.dd=e.dd)
def auw(e:Entry):Bool:=decide (e.request=xm)
def Sx(e:Entry):Bool:=
 if e.kind=1 then decide (1<=e.n)&& (decide (e.n<=64)&& (afq e&& (decide (¬e.request.stop=3)&&Lu e.result)))
 else if e.kind=2 then decide (e.n=0)&& (afq e&& (decide (e.request.stop=1)&&sE e.result))
 else if e.kind=3 then decide (e.n=0)&& (auw e&&Lu e.result)
 else if e.kind=4 then decide (e.n=0)&& (auw e&& (sE e.result&& (decide (e.result.spawn= -1)&& (!e.result.wait&&decide (e.result.data.length=0)))))
 else false
def vF(e:Entry):Bool:=decide (0<=e.dd)&& (decide (e.dd<4)&&Sx e)
def ami{e:Entry}(h:0<=e.dd/\e.dd<4):vF e=Sx e:=by unfold vF;simp[h.1,h.2]
@[simp]def Ud(kW cR vG bQ dy dW dH fq dX:Int)(dD dE:List Canon)(dw dx cT cU:Int)(dT:List Canon)(dY:Int)(eH:Bool)(h1:dD.length<=1000000000)(h2:dE.length<=1000000000)(h3:dT.length<=1000000000)(hk:kW=1)(hv:vF (Entry.mk kW cR vG (Request.mk bQ dy dW dH fq dX dD dE) (lL.mk (Canon.mk dw dx cT cU) dT dY eH))=true):bW X 71 [KKm kW cR vG bQ dy dW dH fq dX dD dE dw dx cT cU dT dY eH]=some (.bool true):=by
 refine aaA ?_;have hS:=bH bQ dy dW dH fq dX dD dE 0 0 0 0 0 0 [] [] h1 h2;simp only[abI]at hS;subst hk;unfold vF at hv;simp only[aaF,decide_eq_true_eq]at hv;obtain⟨t0,t4,hv⟩:=hv;unfold Sx at hv;rw[if_pos rfl]at hv;simp only[aaF,decide_eq_true_eq,afq]at hv;obtain⟨n1,n2,⟨pY,q⟩,q3,hnb⟩:=hv;subst q;have pX: ¬4<=bQ:=by omega
 have po: ¬bQ<0:=by omega
 simp[-bH,hS,h1,h2,po,pX,pY,hnb,n1,n2,q3]
@[simp]def zm(kW cR vG bQ dy dW dH fq dX:Int)(dD dE:List Canon)(dw dx cT cU:Int)(dT:List Canon)(dY:Int)(eH:Bool)(h1:dD.length<=1000000000)(h2:dE.length<=1000000000)(h3:dT.length<=1000000000):bW X 71 [KKm kW cR vG bQ dy dW dH fq dX dD dE dw dx cT cU dT dY eH]=some (.bool (vF (Entry.mk kW cR vG (Request.mk bQ dy dW dH fq dX dD dE) (lL.mk (Canon.mk dw dx cT cU) dT dY eH)))):=by
 refine aaA ?_;have hS:=bH bQ dy dW dH fq dX dD dE 0 0 0 0 0 0 [] [] h1 h2;simp only[abI]at hS;rw[show Request.mk 0 0 0 0 0 0 [] []=xm from rfl]at hS;by_cases t0:0<=cR
 case neg=>
  have e:vF (Entry.mk kW cR vG (Request.mk bQ dy dW dH fq dX dD dE) (lL.mk (Canon.mk dw dx cT cU) dT dY eH))=false:=by unfold vF;rw[decide_eq_false t0];rfl
  rw[e];have po:cR<0:=by omega
  simp[po]
 by_cases t4:cR<4
 case neg=>
  have e:vF (Entry.mk kW cR vG (Request.mk bQ dy dW dH fq dX dD dE) (lL.mk (Canon.mk dw dx cT cU) dT dY eH))=false:=by unfold vF;rw[decide_eq_false t4];simp
  rw[e];have po: ¬cR<0:=by omega
  have pX:4<=cR:=by omega
  simp[po,pX]
 rw[ami (e:=(Entry.mk kW cR vG (Request.mk bQ dy dW dH fq dX dD dE) (lL.mk (Canon.mk dw dx cT cU) dT dY eH))) ⟨t0,t4⟩];obtain⟨sil,a3h⟩: ∃x,decide ((⟨bQ,dy,dW,dH,fq,dX,dD,dE⟩:Request)=xm)=x:=⟨_,rfl⟩;rw[a3h]at hS;have es:auw (Entry.mk kW cR vG (Request.mk bQ dy dW dH fq dX dD dE) (lL.mk (Canon.mk dw dx cT cU) dT dY eH))=sil:=a3h;obtain⟨rb,pY⟩: ∃x,lh (⟨bQ,dy,dW,dH,fq,dX,dD,dE⟩:Request)=x:=⟨_,rfl⟩;have ea:afq (Entry.mk kW cR vG (Request.mk bQ dy dW dH fq dX dD dE) (lL.mk (Canon.mk dw dx cT cU) dT dY eH))=(rb&&decide (bQ=cR)):=by unfold afq;rw[<-pY]
 obtain⟨nb,hnb⟩: ∃x,Lu (⟨⟨dw,dx,cT,cU⟩,dT,dY,eH⟩:lL)=x:=⟨_,rfl⟩;obtain⟨rs,B5⟩: ∃x,sE (⟨⟨dw,dx,cT,cU⟩,dT,dY,eH⟩:lL)=x:=⟨_,rfl⟩;have eK:Sx (Entry.mk kW cR vG (Request.mk bQ dy dW dH fq dX dD dE) (lL.mk (Canon.mk dw dx cT cU) dT dY eH))=if kW=1 then decide (1<=vG)&& (decide (vG<=64)&& ((rb&&decide (bQ=cR))&& (decide (¬dy=3)&&nb)))
   else if kW=2 then decide (vG=0)&& ((rb&&decide (bQ=cR))&& (decide (dy=1)&&rs))
   else if kW=3 then decide (vG=0)&& (sil&&nb)
   else if kW=4 then decide (vG=0)&& (sil&& (rs&& (decide (dY= -1)&& (!eH&&decide (dT.length=0)))))
   else false:=by unfold Sx;rw[ea,es];simp only[hnb,B5]
 rw[eK];have pX: ¬4<=cR:=by omega
 have po: ¬cR<0:=by omega
 obtain⟨ab,sx⟩: ∃x,(rb&&decide (bQ=cR))=x:=⟨_,rfl⟩;rw[sx];by_cases k1:kW=1
 ·subst k1;by_cases n1:1<=vG
  case neg=>
   cases rb with
   |false=>
    have e9:ab=false:=by rw[<-sx];rfl
    subst e9;simp[-bH,hS,h1,h2,po,pX,pY,n1]
   |true=>
    by_cases q:bQ=cR
    ·subst q;have e9:ab=true:=by rw[<-sx];simp
     subst e9;simp[-bH,hS,h1,h2,po,pX,pY,n1]
    ·have e9:ab=false:=by rw[<-sx];simp[q]
     subst e9;simp[-bH,hS,h1,h2,po,pX,pY,q,n1]
  by_cases n2:vG<=64
  case neg=>
   cases rb with
   |false=>
    have e9:ab=false:=by rw[<-sx];rfl
    subst e9;simp[-bH,hS,h1,h2,po,pX,pY,n1,n2]
   |true=>
    by_cases q:bQ=cR
    ·subst q;have e9:ab=true:=by rw[<-sx];simp
     subst e9;simp[-bH,hS,h1,h2,po,pX,pY,n1,n2]
    ·have e9:ab=false:=by rw[<-sx];simp[q]
     subst e9;simp[-bH,hS,h1,h2,po,pX,pY,q,n1,n2]
  by_cases q3:dy=3
  ·subst q3;cases rb with
   |false=>
    have e9:ab=false:=by rw[<-sx];rfl
    subst e9;simp[-bH,hS,h1,h2,po,pX,pY,n1,n2]
   |true=>
    by_cases q:bQ=cR
    ·subst q;have e9:ab=true:=by rw[<-sx];simp
     subst e9;simp[-bH,hS,h1,h2,po,pX,pY,n1,n2]
    ·have e9:ab=false:=by rw[<-sx];simp[q]
     subst e9;simp[-bH,hS,h1,h2,po,pX,pY,q,n1,n2]
  ·skip
   cases rb with
   |false=>
    have e9:ab=false:=by rw[<-sx];rfl
    subst e9;simp[-bH,hS,h1,h2,po,pX,pY,n1,n2,q3]
   |true=>
    by_cases q:bQ=cR
    ·subst q;have e9:ab=true:=by rw[<-sx];simp
     subst e9;simp[-bH,hS,h1,h2,po,pX,hnb,pY,n1,n2,q3]
    ·have e9:ab=false:=by rw[<-sx];simp[q]
     subst e9;simp[-bH,hS,h1,h2,po,pX,pY,q,n1,n2,q3]
 by_cases k2:kW=2
 ·subst k2;by_cases n1:vG=0
  case neg=>
   cases rb with
   |false=>
    have e9:ab=false:=by rw[<-sx];rfl
    subst e9;simp[-bH,hS,h1,h2,po,pX,pY,n1]
   |true=>
    by_cases q:bQ=cR
    ·subst q;have e9:ab=true:=by rw[<-sx];simp
     subst e9;simp[-bH,hS,h1,h2,po,pX,pY,n1]
    ·have e9:ab=false:=by rw[<-sx];simp[q]
     subst e9;simp[-bH,hS,h1,h2,po,pX,pY,q,n1]
  subst n1;by_cases q3:dy=1
  ·subst q3;cases rb with
   |false=>
    have e9:ab=false:=by rw[<-sx];rfl
    subst e9;simp[-bH,hS,h1,h2,po,pX,pY]
   |true=>
    by_cases q:bQ=cR
    ·subst q;have e9:ab=true:=by rw[<-sx];simp
     subst e9;simp[-bH,hS,h1,h2,h3,po,pX,B5,pY]
    ·have e9:ab=false:=by rw[<-sx];simp[q]
     subst e9;simp[-bH,hS,h1,h2,po,pX,pY,q]
  ·skip
   cases rb with
   |false=>
    have e9:ab=false:=by rw[<-sx];rfl
    subst e9;simp[-bH,hS,h1,h2,po,pX,pY,q3]
   |true=>
    by_cases q:bQ=cR
    ·subst q;have e9:ab=true:=by rw[<-sx];simp
     subst e9;simp[-bH,hS,h1,h2,po,pX,pY,q3]
    ·have e9:ab=false:=by rw[<-sx];simp[q]
     subst e9;simp[-bH,hS,h1,h2,po,pX,pY,q,q3]
 by_cases k3:kW=3
 ·subst k3;by_cases n1:vG=0
  case neg=>
   cases rb with
   |false=>
    have e9:ab=false:=by rw[<-sx];rfl
    subst e9;simp[-bH,hS,h1,h2,po,pX,pY,n1]
   |true=>
    by_cases q:bQ=cR
    ·subst q;have e9:ab=true:=by rw[<-sx];simp
     subst e9;simp[-bH,hS,h1,h2,po,pX,pY,n1]
    ·have e9:ab=false:=by rw[<-sx];simp[q]
     subst e9;simp[-bH,hS,h1,h2,po,pX,pY,q,n1]
  subst n1;cases sil
  ·skip
   cases rb with
   |false=>
    have e9:ab=false:=by rw[<-sx];rfl
    subst e9;simp[-bH,hS,h1,h2,po,pX,pY]
   |true=>
    by_cases q:bQ=cR
    ·subst q;have e9:ab=true:=by rw[<-sx];simp
     subst e9;simp[-bH,hS,h1,h2,po,pX,pY]
    ·have e9:ab=false:=by rw[<-sx];simp[q]
     subst e9;simp[-bH,hS,h1,h2,po,pX,pY,q]
  ·skip
   cases rb with
   |false=>
    have e9:ab=false:=by rw[<-sx];rfl
    subst e9;simp[-bH,hS,h1,h2,po,pX,hnb,pY]
   |true=>
    by_cases q:bQ=cR
    ·subst q;have e9:ab=true:=by rw[<-sx];simp
     subst e9;simp[-bH,hS,h1,h2,po,pX,hnb,pY]
    ·have e9:ab=false:=by rw[<-sx];simp[q]
     subst e9;simp[-bH,hS,h1,h2,po,pX,hnb,pY,q]
 by_cases k4:kW=4
 ·subst k4;by_cases n1:vG=0
  case neg=>
   cases rb with
   |false=>
    have e9:ab=false:=by rw[<-sx];rfl
    subst e9;simp[-bH,hS,h1,h2,po,pX,pY,n1]
   |true=>
    by_cases q:bQ=cR
    ·subst q;have e9:ab=true:=by rw[<-sx];simp
     subst e9;simp[-bH,hS,h1,h2,po,pX,pY,n1]
    ·have e9:ab=false:=by rw[<-sx];simp[q]
     subst e9;simp[-bH,hS,h1,h2,po,pX,pY,q,n1]
  subst n1;cases sil
  ·skip
   cases rb with
   |false=>
    have e9:ab=false:=by rw[<-sx];rfl
    subst e9;simp[-bH,hS,h1,h2,po,pX,pY]
   |true=>
    by_cases q:bQ=cR
    ·subst q;have e9:ab=true:=by rw[<-sx];simp
     subst e9;simp[-bH,hS,h1,h2,po,pX,pY]
    ·have e9:ab=false:=by rw[<-sx];simp[q]
     subst e9;simp[-bH,hS,h1,h2,po,pX,pY,q]
  cases rs
  ·skip
   cases rb with
   |false=>
    have e9:ab=false:=by rw[<-sx];rfl
    subst e9;simp[-bH,hS,h1,h2,h3,po,pX,B5,pY]
   |true=>
    by_cases q:bQ=cR
    ·subst q;have e9:ab=true:=by rw[<-sx];simp
     subst e9;simp[-bH,hS,h1,h2,h3,po,pX,B5,pY]
    ·have e9:ab=false:=by rw[<-sx];simp[q]
     subst e9;simp[-bH,hS,h1,h2,h3,po,pX,B5,pY,q]
  by_cases q4:dY= -1
  case neg=>
   cases rb with
   |false=>
    have e9:ab=false:=by rw[<-sx];rfl
    subst e9;simp[-bH,hS,h1,h2,h3,po,pX,B5,pY,q4]
   |true=>
    by_cases q:bQ=cR
    ·subst q;have e9:ab=true:=by rw[<-sx];simp
     subst e9;simp[-bH,hS,h1,h2,h3,po,pX,B5,pY,q4]
    ·have e9:ab=false:=by rw[<-sx];simp[q]
     subst e9;simp[-bH,hS,h1,h2,h3,po,pX,B5,pY,q,q4]
  subst q4;cases eH
  ·skip
   cases rb with
   |false=>
    have e9:ab=false:=by rw[<-sx];rfl
    subst e9;simp[-bH,hS,h1,h2,h3,po,pX,B5,pY]
   |true=>
    by_cases q:bQ=cR
    ·subst q;have e9:ab=true:=by rw[<-sx];simp
     subst e9;simp[-bH,hS,h1,h2,h3,po,pX,B5,pY]
    ·have e9:ab=false:=by rw[<-sx];simp[q]
     subst e9;simp[-bH,hS,h1,h2,h3,po,pX,B5,pY,q]
  ·skip
   cases rb with
   |false=>
    have e9:ab=false:=by rw[<-sx];rfl
    subst e9;simp[-bH,hS,h1,h2,h3,po,pX,B5,pY]
   |true=>
    by_cases q:bQ=cR
    ·subst q;have e9:ab=true:=by rw[<-sx];simp
     subst e9;simp[-bH,hS,h1,h2,h3,po,pX,B5,pY]
    ·have e9:ab=false:=by rw[<-sx];simp[q]
     subst e9;simp[-bH,hS,h1,h2,h3,po,pX,B5,pY,q]
 cases rb with
 |false=>
  have e9:ab=false:=by rw[<-sx];rfl
  subst e9;simp[-bH,hS,h1,h2,po,pX,pY,k1,k2,k3,k4]
 |true=>
  by_cases q:bQ=cR
  ·subst q;have e9:ab=true:=by rw[<-sx];simp
   subst e9;simp[-bH,hS,h1,h2,po,pX,pY,k1,k2,k3,k4]
  ·have e9:ab=false:=by rw[<-sx];simp[q]
   subst e9;simp[-bH,hS,h1,h2,po,pX,pY,q,k1,k2,k3,k4]
end Go.Proofs.YtdngefmliibcgaaGreat
