/- Part of a proof: S14. -/
import Derived.Test.YtejohpnpnaljdaaGreatM20
set_option linter.all false
set_option maxRecDepth 20000
set_option maxHeartbeats 20000000
namespace Go.Proofs.YtejohpnpnaljdaaGreat
open Go Go.Abs Go.Abs.lu
theorem FZ(x:Output):(Output.e x).jm=Output.e x:=by
 simp[Output.bP,V.jm,df]
@[simp] theorem ack(hx:aY)(l:List Output):cn (l.map (bT hx 12∘Output.e))=some (l.map Output.e):=m9 (fun _=>rfl) l
@[simp] theorem IS(l:List Output):df (l.map Output.e)=l.map Output.e:=nK FZ l
@[simp] theorem a70(l:List Output)(hm:l.length<=1000000000)(hx: ∀i (h:i<l.length),(l[i]).data.length<=1000000000):lY X [(0,0,254)] 198 [l]=some l:=by
 refine kJ Tryz.func198 rfl rfl ?_;simp-implicitDefEqProofs;refine cP (fun i S=>(S.f 3= .bU 3 0 (((l.take i).map Output.e)).length/\S.h 3=some ⟨3,((l.take i).map Output.e),false⟩/\S.f 6= .sl false (l.map Output.e)/\S.f 7= .int .i64 ((l).length:Int)/\S.f 8= .int .i64 (i:Int)/\S.n=1100)/\True) (l.length) ?_ 0 (by simp) ?_
 ·rintro i S kY ⟨dA,hX⟩;have eY:=cS i (by omega);by_cases bI:i<l.length
  ·have g:=hx i bI;have la:min i l.length=i:=by omega
   simp-implicitDefEqProofs[dA,eY,bI,la];all_goals ((repeat' (first|apply And.intro|intro _))<;>first|omega|exact pE bI|rfl)
  ·have ko:l.length=i:=by omega
   subst ko;simp-implicitDefEqProofs[dA]
 ·simp-implicitDefEqProofs<;>(
   simp)
def o0(l:List Output)(socket:Int)(data:List Canon):Bool:=decide (0<=socket)&& (decide (socket<2)&& (decide (l.length<200)&&decide (data.length<=16)))
@[simp] theorem Y1(l:List Output)(socket:Int)(data:List Canon)(hm:l.length<=1000000000)(hd:data.length<=1000000000)(hx: ∀i (h:i<l.length),(l[i]).data.length<=1000000000):cz X 221 [l,socket,data]=some (.de [.sl false (((if o0 l socket data=true then l++ [⟨l.length,socket,data⟩] else l:List Output)).map Output.e),.int .i64 (if o0 l socket data=true then(data.length:Int) else 0),.bool (o0 l socket data)]):=by
 refine bd Tryz.func221 rfl rfl ?_;by_cases h1:0<=socket
 case neg=>
  have e:o0 l socket data=false:=by simp[o0,h1]
  simp-implicitDefEqProofs[h1,hm,hx,e]
 by_cases h2:socket<2
 case neg=>
  have e:o0 l socket data=false:=by simp[o0,h2]
  simp-implicitDefEqProofs[h1,h2,hm,hx,e]
 by_cases h3:(l.length:Int)<200
 case neg=>
  have h3n: ¬l.length<200:=by omega
  have e:o0 l socket data=false:=by simp[o0,h3n]
  have h3m:(200:Int)<=l.length:=by omega
  simp-implicitDefEqProofs[h1,h2,h3m,hm,hx,e];try omega
 have h3n:l.length<200:=by omega
 by_cases h4:(data.length:Int)<=16
 case neg=>
  have h4n: ¬data.length<=16:=by omega
  have e:o0 l socket data=false:=by simp[o0,h4n]
  have h4m:(16:Int)<data.length:=by omega
  have h3m: ¬(200:Int)<=l.length:=by omega
  simp-implicitDefEqProofs[h1,h2,h3m,h4m,hm,hx,e];try omega
 have h4n:data.length<=16:=by omega
 have e:o0 l socket data=true:=by simp[o0,h1,h2,h3n,h4n]
 have h3m: ¬(200:Int)<=l.length:=by omega
 have h4m: ¬(16:Int)<data.length:=by omega
 have fin:df (List.take (l.length+1) (List.map Output.e l++ [Output.e ⟨l.length,socket,data⟩]))=List.map Output.e l++ [Output.e ⟨l.length,socket,data⟩]:=by
  rw[bn (by simp),show List.map Output.e l++ [Output.e ⟨l.length,socket,data⟩]=(l++ [(⟨l.length,socket,data⟩:Output)]).map Output.e from by simp,IS]
 simp-implicitDefEqProofs[h1,h2,h3m,h4m,hm,hx,e];all_goals ((repeat' (first|apply And.intro|intro _))<;>first|omega|exact fin|rfl)
def Ao(l:List dT):Nat:=l.findIdx fun o=>decide (o.file= -1)
theorem IT(l:List dT):Ao l<=l.length:=List.findIdx_le_length
def uY(file:Int)(o:dT):dT:=if o.file=file then⟨o.file,0,o.write⟩ else o
def tF(f:bE)(file:Int):bE:=⟨f.data.set file.toNat [],f.opens.map (uY file)⟩
def tV(f:bE)(file mode:Int):bE:=if mode=1 then tF f file else f
def mP(f:bE)(file mode:Int):bE×Int:=
 if file<0\/(f.data.length:Int)<=file\/mode<0\/2<mode\/Ao f.opens=f.opens.length then(f, -1)
 else(⟨(tV f file mode).data,(tV f file mode).opens.set (Ao f.opens) ⟨file,if mode=2 then(((f.data.getD file.toNat []).length:Nat):Int) else 0,decide (0<mode)⟩⟩,Ao f.opens)
theorem PR{f:bE}(h:gS f){file:Int}(h0:0<=file):gS (tF f file):=by
 have hd:=h.data;refine⟨by simpa[tF] using hd,fun i hi=> ?_,by simp[tF,h.opens],fun i hi=> ?_⟩
 ·simp only[tF,List.length_set]at hi;simp only[tF,List.getElem_set];split
  ·exact⟨rfl,by simp⟩
  ·exact h.each i hi
 ·simp only[tF,List.length_map]at hi;simp only[tF,List.getElem_map];unfold uY;rcases h.opn i hi with⟨e1,e2,e3⟩|⟨k,hk,e1,e2,e3⟩
  ·left;split
   ·exact⟨e1,rfl,e3⟩
   ·exact⟨e1,e2,e3⟩
  ·right;refine⟨k,by simpa using hk,?_⟩;split
   ·exact⟨e1,by simp,by simp only;omega⟩
   ·rename_i iK;refine⟨e1,e2,?_⟩;have: ¬file.toNat=k:=fun e=>iK (by omega);simp only[List.getElem_set,this,if_false];exact e3
theorem Vk{f:bE}(h:gS f){file:Int}(h0:0<=file)(mode:Int):gS (tV f file mode):=by
 unfold tV;split
 ·exact PR h h0
 ·exact h
theorem PS(f:bE)(file mode:Int):(tV f file mode).data.length=f.data.length/\(tV f file mode).opens.length=f.opens.length:=by
 unfold tV;split
 ·simp[tF]
 ·exact⟨rfl,rfl⟩
theorem yB{f:bE}(h:gS f)(k:Nat){o:dT}(ho:(o.file= -1/\o.offset=0/\o.write=false)\/(∃j,∃g:j<f.data.length,o.file=(j:Int)/\0<=o.offset/\o.offset<=(f.data[j]).length)):gS ⟨f.data,f.opens.set k o⟩:=by
 refine⟨h.data,h.each,by simp[h.opens],fun i hi=> ?_⟩;simp only[List.length_set]at hi;simp only[List.getElem_set];split
 ·exact ho
 ·exact h.opn i hi
theorem Vl{f:bE}(h:gS f)(file mode:Int):gS (mP f file mode).1/\ -1<=(mP f file mode).2/\(mP f file mode).2<=8:=by
 have hl:=IT f.opens;have h8:=h.opens;unfold mP;split
 ·exact⟨h,by simp⟩
 rename_i hc;refine⟨?_,by simp only;omega⟩;have hm:=Vk h (file:=file) (by omega) mode;obtain⟨l1,l2⟩:=PS f file mode;refine yB hm _ (.inr ⟨file.toNat,by rw[l1];omega,by simp only;omega,?_,?_⟩)
 ·simp only;split<;>omega
 ·simp only;split
  ·rename_i h2;have hk:file.toNat<f.data.length:=by omega
   have e:tV f file mode=f:=by unfold tV;rw[if_neg (by omega)]
   simp[e,List.getD,hk]
  ·omega
def pP(f:bE)(h offset:Int):bE×Bool:=
 if qq f h=true then
  if 0<=offset/\offset<=(f.data.getD (f.opens.getD h.toNat closed).file.toNat []).length then
   (⟨f.data,f.opens.set h.toNat ⟨(f.opens.getD h.toNat closed).file,offset,(f.opens.getD h.toNat closed).write⟩⟩,true) else(f,false)
 else(f,false)
def oI(f:bE)(h:Int):dT:=f.opens.getD h.toNat closed
def Cy(f:bE)(h:Int):List Canon:=f.data.getD (oI f h).file.toNat []
theorem nX{f:bE}(hf:gS f){h:Int}(ho:qq f h=true): ∃k:Nat,h=k/\ ∃g:k<f.opens.length,∃j,∃g2:j<f.data.length,oI f h=f.opens[k]/\Cy f h=f.data[j]/\(f.opens[k]).file=(j:Int)/\0<=(f.opens[k]).offset/\(f.opens[k]).offset<=(f.data[j]).length:=by
 obtain⟨k,rfl,hk,hn⟩:=IP ho;rcases hf.opn k hk with⟨e1,_,_⟩|⟨j,hj,e1,e2,e3⟩
 ·exact absurd e1 hn
 ·have e:oI f k=f.opens[k]:=by simp[oI,List.getD,hk]
  refine⟨k,rfl,hk,j,hj,e,?_,e1,e2,e3⟩;unfold Cy;rw[e,e1];simp[List.getD,hj]
theorem Vm{f:bE}(hf:gS f)(h offset:Int):gS (pP f h offset).1:=by
 unfold pP;split
 ·rename_i ho;obtain⟨k,rfl,hk,j,hj,e1,e2,e3,e4,e5⟩:=nX hf ho;split
  ·rename_i hc;have wm:0<=offset/\offset<=(Cy f k).length:=hc;rw[e2]at wm;refine yB hf _ (.inr ⟨j,hj,?_,wm⟩);simp only;have:f.opens.getD (k:Int).toNat closed=f.opens[k]:=e1;rw[this,e3]
  ·exact hf
 ·exact hf
def Ap(f:bE)(h n:Int):Int:=if(Cy f h).length-(oI f h).offset<n then(Cy f h).length-(oI f h).offset else n
def mD(f:bE)(h n:Int):bE×List Canon×Bool:=
 if qq f h=true/\0<=n/\(oI f h).write=false then
  (⟨f.data,f.opens.set h.toNat ⟨(oI f h).file,(oI f h).offset+Ap f h n,(oI f h).write⟩⟩,((Cy f h).drop (oI f h).offset.toNat).take (Ap f h n).toNat,true)
 else(f,[],false)
theorem Vn{f:bE}(hf:gS f)(h n:Int):gS (mD f h n).1/\(mD f h n).2.1.length<=64/\iQ (mD f h n).2.1=true:=by
 unfold mD;split
 ·rename_i hc;obtain⟨ho,hn,hw⟩:=hc;obtain⟨k,rfl,hk,j,hj,e1,e2,e3,e4,e5⟩:=nX hf ho;have hd:=hf.each j hj;refine⟨yB hf _ (.inr ⟨j,hj,?_,?_,?_⟩),?_,?_⟩
  ·simp only;rw[e1,e3]
  ·simp only;unfold Ap;rw[e1,e2];split<;>omega
  ·simp only;unfold Ap;rw[e1,e2];split<;>omega
  ·simp only[List.length_take,List.length_drop,e2];omega
  ·have:=hd.1;unfold iQ at this⊢;rw[List.all_eq_true]at this⊢;intro x hx;simp only at hx;rw[e2]at hx;exact this x (List.mem_of_mem_drop (List.mem_of_mem_take hx))
 ·exact⟨hf,by simp,rfl⟩
def oJ(f:bE)(h:Int)(l:List Canon):Int:=if 64-(oI f h).offset<l.length then 64-(oI f h).offset else l.length
def jL(d l:List Canon)(o n:Nat):List Canon:=d.take o++l.take n++d.drop (o+n)
def lP(f:bE)(h:Int)(l:List Canon):bE×Int×Bool:=
 if qq f h=true/\(oI f h).write=true/\iQ l=true then
  (⟨f.data.set (oI f h).file.toNat (jL (Cy f h) l (oI f h).offset.toNat (oJ f h l).toNat),f.opens.set h.toNat ⟨(oI f h).file,(oI f h).offset+oJ f h l,(oI f h).write⟩⟩,oJ f h l,true)
 else(f,0,false)
theorem tG{d l:List Canon}{o n:Nat}(h:o<=d.length)(hn:n<=l.length):(jL d l o n).length=if d.length<o+n then o+n else d.length:=by
 unfold jL;simp;split<;>omega
theorem LO{d l:List Canon}{o n:Nat}(h:iQ d=true)(hn:iQ l=true):iQ (jL d l o n)=true:=by
 unfold iQ jL at*;rw[List.all_eq_true]at h hn⊢;intro x hx;simp only[List.mem_append]at hx;rcases hx with(hx|hx)|hx
 ·exact h x (List.mem_of_mem_take hx)
 ·exact hn x (List.mem_of_mem_take hx)
 ·exact h x (List.mem_of_mem_drop hx)
theorem Y2{f:bE}(h:gS f)(k:Nat){d:List Canon}(hd:iQ d=true)(h64:d.length<=64)(hl: ∀g:k<f.data.length,(f.data[k]).length<=d.length):gS ⟨f.data.set k d,f.opens⟩:=by
 refine⟨by simpa using h.data,fun i hi=> ?_,h.opens,fun i hi=> ?_⟩
 ·simp only[List.length_set]at hi;simp only[List.getElem_set];split
  ·exact⟨hd,h64⟩
  ·exact h.each i hi
 ·rcases h.opn i hi with e|⟨j,hj,e1,e2,e3⟩
  ·exact .inl e
  ·refine .inr ⟨j,by simpa using hj,e1,e2,?_⟩;simp only[List.getElem_set];split
   ·rename_i e;subst e;have:=hl hj;omega
   ·exact e3
theorem PT{f:bE}(hf:gS f)(h:Int)(l:List Canon):gS (lP f h l).1:=by
 unfold lP;split
 ·rename_i hc;obtain⟨ho,hw,hl⟩:=hc;obtain⟨k,rfl,hk,j,hj,e1,e2,e3,e4,e5⟩:=nX hf ho;have hd:=hf.each j hj;have hle:=tG (d:=f.data[j]) (l:=l) (o:=(f.opens[k]).offset.toNat) (n:=(oJ f k l).toNat) (by omega) (by unfold oJ;rw[e1];split<;>omega);have hn:0<=oJ f k l/\oJ f k l<=64-(f.opens[k]).offset:=by unfold oJ;rw[e1];split<;>omega
  have hlen:(f.opens[k]).offset+oJ f k l<=(jL (f.data[j]) l (f.opens[k]).offset.toNat (oJ f k l).toNat).length:=by rw[hle];split<;>omega
  have Ru:(f.data[j]).length<=(jL (f.data[j]) l (f.opens[k]).offset.toNat (oJ f k l).toNat).length:=by rw[hle];split<;>omega
  have am6:(jL (f.data[j]) l (f.opens[k]).offset.toNat (oJ f k l).toNat).length<=64:=by rw[hle];split<;>omega
  rw[e1,e2,e3];have h1:=Y2 hf j (LO hd.1 hl) am6 (fun _=>Ru);simp only[Int.toNat_natCast];refine yB h1 _ (.inr ⟨j,by simpa using hj,rfl,by simp only;omega,?_⟩);simp only[List.getElem_set_self];exact hlen
 ·exact hf
def EG(l:List Int)(n:Int):Int:=if(l.length:Int)<n then l.length else n
def mQ(ins:List (List Int))(socket n:Int):List (List Int)×List Canon×Bool:=
 if socket<0\/(ins.length:Int)<=socket\/n<0 then(ins,[],false)
 else(ins.set socket.toNat ((ins.getD socket.toNat []).drop (EG (ins.getD socket.toNat []) n).toNat),((ins.getD socket.toNat []).take (EG (ins.getD socket.toNat []) n).toNat).map yy,true)
@[simp] theorem Zx(aU:List (List Canon))(aR:List dT)(h offset:Int)(hf:gS (bE.mk aU aR)):cz X 220 [.agg [aU,aR],h,offset]=some (.de [.agg [.sl false (((pP (bE.mk aU aR) h offset).1).data.map ba),.sl false (((pP (bE.mk aU aR) h offset).1).opens.map dT.e)],.bool ((pP (bE.mk aU aR) h offset).2)]):=by
 refine bd Tryz.func220 rfl rfl ?_;have hl:=hf.lens;have l1:aU.length<=4:=hl.data;have l2:=hl.each;have l3:aR.length<=1000000000:=hl.opens;simp only at l2;cases ho:qq (bE.mk aU aR) h with
 |false=>
  have e:pP (bE.mk aU aR) h offset=((bE.mk aU aR),false):=by unfold pP;rw[if_neg (by simp[ho])]
  rw[e];simp-implicitDefEqProofs[l1,l2,l3,ho]
 |true=>
  obtain⟨k,rfl,hk,j,hj,e1,e2,e3,e4,e5⟩:=nX hf ho;simp only at hk hj e1 e2 e3 e4 e5;have v8:(k:Int)<aR.length:=by omega
  have W2:(j:Int)<aU.length:=by omega
  have s1:aR.getD (k:Int).toNat closed=aR[k]:=e1;have s2:aU.getD (aR.getD (k:Int).toNat closed).file.toNat []=aU[j]:=e2;by_cases c1:0<=offset
  case neg=>
   have e:pP (bE.mk aU aR) k offset=((bE.mk aU aR),false):=by unfold pP;rw[if_pos ho,if_neg (fun h=>c1 h.1)]
   have Zy:offset<0:=by omega
   rw[e];simp-implicitDefEqProofs[l1,l2,l3,ho,Zy]
  have Zy: ¬offset<0:=by omega
  by_cases c2:offset<=((aU[j]).length:Int)
  case neg=>
   have e:pP (bE.mk aU aR) k offset=((bE.mk aU aR),false):=by unfold pP;rw[if_pos ho,if_neg (fun h=>c2 (by have:=h.2;simp only at this;rwa[s2]at this))]
   have c2':((aU[j]).length:Int)<offset:=by omega
   rw[e];simp-implicitDefEqProofs[l1,l2,l3,ho,Zy,hk,v8,hj,W2,e3,c2']
  have c2': ¬((aU[j]).length:Int)<offset:=by omega
  have e:pP (bE.mk aU aR) k offset=(⟨aU,aR.set k ⟨(aR[k]).file,offset,(aR[k]).write⟩⟩,true):=by
   have s3:aR.getD k closed=aR[k]:=s1;unfold pP;rw[if_pos ho,if_pos ⟨c1,by simp only;rw[s2];exact c2⟩];simp only[Int.toNat_natCast,s3]
  rw[e];simp-implicitDefEqProofs[l1,l2,l3,ho,Zy,hk,v8,hj,W2,e3,c2'];rw[show(aR[k].e.put 1 (V.int .i64 offset))=dT.e ⟨(aR[k]).file,offset,(aR[k]).write⟩ from rfl,<-List.map_set (f:=dT.e),bn (by simp),sC,List.map_set];try simp[e3]
@[simp] theorem Zz(aU:List (List Canon))(aR:List dT)(h n:Int)(hf:gS (bE.mk aU aR)):cz X 217 [.agg [aU,aR],h,n]=some (.de [.agg [.sl false (((mD (bE.mk aU aR) h n).1).data.map ba),.sl false (((mD (bE.mk aU aR) h n).1).opens.map dT.e)],.sl false (((mD (bE.mk aU aR) h n).2.1).map Canon.e),.bool ((mD (bE.mk aU aR) h n).2.2)]):=by
 refine bd Tryz.func217 rfl rfl ?_;have hl:=hf.lens;have l1:aU.length<=4:=hl.data;have l2:=hl.each;have l3:aR.length<=1000000000:=hl.opens;simp only at l2;cases ho:qq (bE.mk aU aR) h with
 |false=>
  have e:mD (bE.mk aU aR) h n=((bE.mk aU aR),[],false):=by unfold mD;rw[if_neg (fun h=>by rw[ho]at h;cases h.1)]
  rw[e];simp-implicitDefEqProofs[l1,l2,l3,ho]
 |true=>
  obtain⟨k,rfl,hk,j,hj,e1,e2,e3,e4,e5⟩:=nX hf ho;simp only at hk hj e1 e2 e3 e4 e5;have v8:(k:Int)<aR.length:=by omega
  have W2:(j:Int)<aU.length:=by omega
  by_cases c1:0<=n
  case neg=>
   have e:mD (bE.mk aU aR) k n=((bE.mk aU aR),[],false):=by unfold mD;rw[if_neg (fun h=>c1 h.2.1)]
   have Zy:n<0:=by omega
   rw[e];simp-implicitDefEqProofs[l1,l2,l3,ho,Zy]
  have Zy: ¬n<0:=by omega
  cases c2:(aR[k]).write with
  |true=>
   have e:mD (bE.mk aU aR) k n=((bE.mk aU aR),[],false):=by unfold mD;rw[if_neg (fun h=>by have:=h.2.2;rw[e1,c2]at this;cases this)]
   rw[e];simp-implicitDefEqProofs[l1,l2,l3,ho,Zy,hk,v8,c2]
  |false=>
   obtain⟨o,hoo⟩: ∃o:Nat,(aR[k]).offset=o:=⟨(aR[k]).offset.toNat,by omega⟩;obtain⟨m,hm⟩: ∃m:Nat,Ap (bE.mk aU aR) k n=m:=⟨(Ap (bE.mk aU aR) k n).toNat,by unfold Ap;rw[e1,e2];split<;>omega⟩;have hmx:=hm;unfold Ap at hmx;rw[e1,e2,hoo]at hmx;have h64:=(hf.each j hj).2;simp only at h64;have e:mD (bE.mk aU aR) k n=(⟨aU,aR.set k ⟨(aR[k]).file,(o:Int)+m,false⟩⟩,((aU[j]).drop o).take m,true):=by
    unfold mD;rw[if_pos ⟨ho,c1,by rw[e1];exact c2⟩,hm,e1,e2,hoo,c2];simp
   rw[e];have ho5:(o:Int)<=(aU[j]).length:=by omega
   have a8o:o<=(aU[j]).length:=by omega
   have tQ:IntKind.i64.wrap (((aU[j]).length:Int)-o)=((aU[j]).length:Int)-o:=wrap_i64 (by omega);obtain⟨q,hq⟩: ∃q:Nat,o+m=q:=⟨_,rfl⟩;have hqi:(o:Int)+m=q:=by omega
   have hle:(q:Int)<=(aU[j]).length:=by split at hmx<;>omega
   have hlen:q<=(aU[j]).length:=by omega
   have En:IntKind.i64.wrap (q:Int)=q:=wrap_i64 (by omega);have hoq:o<=q:=by omega
   have hqm:q-o=m:=by omega
   have hb:((aU[j]).length:Int)<=1000000000:=by omega
   have la:(if((aU[j]).length:Int)-o<n then((aU[j]).length:Int)-o else n)=m:=hmx;simp-implicitDefEqProofs[l1,l2,l3,ho,Zy,hk,v8,c2,hj,W2,e3,hoo,tQ,hqi,En,hle,la,hoq,hqm,List.drop_take];refine⟨fun x hx=> ?_,fun _=>⟨⟨by omega,by omega⟩,fun _ _=>⟨?_,?_⟩⟩⟩
   ·have:=List.mem_of_mem_drop (List.mem_of_mem_take hx);simp only[List.mem_map]at this;obtain⟨c,_,rfl⟩:=this;rfl
   ·rw[show(aR[k].e.put 1 (V.int .i64 q))=dT.e ⟨(aR[k]).file,q,(aR[k]).write⟩ from rfl,<-List.map_set (f:=dT.e),bn (by simp),sC,List.map_set,e3,c2]
   ·rw[bn (by simp),<-List.map_drop,<-List.map_take,Lu]
@[simp] theorem air(hx:aY)(l:List (List Int)):cn (l.map (bT hx 12∘aS))=some (l.map aS):=m9 (fun _=>rfl) l
theorem VU(x:List Int)(n:Nat)(v:V):(aS x).put n v=v:=rfl
@[simp] theorem a84(oT:List (List Int))(hm:oT.length<=1000000000)(hx: ∀i (h:i<oT.length),(oT[i]).length<=1000000000):lY X [(0,0,135)] 196 [oT]=some oT:=by
 refine kJ Tryz.func196 rfl rfl ?_;simp-implicitDefEqProofs;refine cP (fun i S=>(S.f 3= .bU 3 0 (((oT.take i).map aS)).length/\S.h 3=some ⟨1,((oT.take i).map aS),false⟩/\S.f 6= .sl false (oT.map aS)/\S.f 7= .int .i64 ((oT).length:Int)/\S.f 8= .int .i64 (i:Int)/\S.n=1100)/\True) (oT.length) ?_ 0 (by simp) ?_
 ·rintro i S kY ⟨dA,hX⟩;have eY:=cS i (by omega);by_cases bI:i<oT.length
  ·have g:=hx i bI;have la:min i oT.length=i:=by omega
   simp-implicitDefEqProofs[dA,eY,bI,la];all_goals ((repeat' (first|apply And.intro|intro _))<;>first|omega|exact pE bI|rfl)
  ·have ko:oT.length=i:=by omega
   subst ko;simp-implicitDefEqProofs[dA]
 ·simp-implicitDefEqProofs<;>(
   simp)
@[simp] theorem Q5(oT:List (List Int))(socket n:Int)(h1:oT.length<=1000)(h2: ∀i (h:i<oT.length),(oT[i]).length<=64):cz X 222 [oT,socket,n]=some (.de [.sl false (((mQ oT socket n).1).map aS),.sl false (((mQ oT socket n).2.1).map Canon.e),.bool ((mQ oT socket n).2.2)]):=by
 refine bd Tryz.func222 rfl rfl ?_;have a1:oT.length<=1000000000:=by omega
 have a2: ∀i (h:i<oT.length),(oT[i]).length<=1000000000:=fun i h=>by have:=h2 i h;omega
 have td:df (List.take oT.length (oT.map aS))=oT.map aS:=by rw[bn (by simp),Ek]
 by_cases c1:socket<0
 ·have e:mQ oT socket n=(oT,[],false):=by unfold mQ;rw[if_pos (.inl c1)]
  rw[e];simp-implicitDefEqProofs[a1,a2,c1]
 by_cases c2:(oT.length:Int)<=socket
 ·have e:mQ oT socket n=(oT,[],false):=by unfold mQ;rw[if_pos (.inr (.inl c2))]
  rw[e];simp-implicitDefEqProofs[a1,a2,c1,c2]
 by_cases c3:n<0
 ·have e:mQ oT socket n=(oT,[],false):=by unfold mQ;rw[if_pos (.inr (.inr c3))]
  rw[e];simp-implicitDefEqProofs[a1,a2,c1,c2,c3]
 obtain⟨k,rfl⟩:=Int.eq_ofNat_of_zero_le (show 0<=socket by omega);have hk:k<oT.length:=by omega
 have v8:(k:Int)<oT.length:=by omega
 have h64:=h2 k hk;have hg:oT.getD (k:Int).toNat []=oT[k]:=by simp[List.getD,hk]
 obtain⟨x,hx⟩: ∃x,oT[k]=x:=⟨_,rfl⟩;rw[hx]at h64 hg;obtain⟨m,hm⟩: ∃m:Nat,EG x n=m:=⟨(EG x n).toNat,by unfold EG;split<;>omega⟩;have hmm:=hm;unfold EG at hmm;have uj:m<=x.length:=by split at hmm<;>omega
 have an0:(m:Int)<=x.length:=by omega
 have hm0:min m x.length=m:=by omega
 have e:mQ oT k n=(oT.set k (x.drop m),(x.take m).map yy,true):=by
  unfold mQ;rw[if_neg (by omega),hg,hm];simp
 rw[e];simp-implicitDefEqProofs[a1,a2,c1,c2,c3,hk,v8,hx,hmm,uj,an0];refine cP (fun i S=>(S.f 1= .int .i64 ((k:Int))/\S.f 9= .bU 9 0 (((oT).map aS)).length/\S.h 9=some ⟨1,((oT).map aS),false⟩/\S.f 10= .int .i64 ((m:Int))/\S.f 11= .bU 11 0 (((re (x.take i)).map Canon.e)).length/\S.h 11=some ⟨4,((re (x.take i)).map Canon.e),false⟩/\S.f 41= .sl false ((x.take m).map (V.int .u16))/\S.f 42= .int .i64 ((m:Int))/\S.f 43= .int .i64 (i:Int)/\S.n=1100)/\True) (m) ?_ 0 (by simp) ?_
 ·rintro i S kY ⟨dA,hX⟩;have eY:=cS i (by omega);by_cases bI:i<m
  ·have hix:i<x.length:=by omega
   have gu:=IN hix;have gl:(re (x.take i)).length=i:=by rw[EF,List.length_take];omega
   have gt:(x.take m)[i]'(by simp;omega)=x[i]:=by simp
   have gtk:List.take i ((re (x.take i)).map Canon.e)=(re (x.take i)).map Canon.e:=bn (by simp[gl]);simp-implicitDefEqProofs[dA,eY,bI,gu,gl,yy,hm0];all_goals ((repeat' (first|apply And.intro|intro _))<;>first|omega|rfl|exact gtk)
  ·have ko:m=i:=by omega
   subst ko;simp-implicitDefEqProofs[dA,hk,v8,hx,an0];refine⟨?_,?_⟩
   ·have d1:df (List.drop m (x.map (V.int .u16)))=(x.drop m).map (V.int .u16):=by rw[<-List.map_drop];exact nK (fun _=>rfl) _
    rw[VU,d1,<-w7,bn (by simp),<-List.map_set (f:=aS),Ek,List.map_set]
   ·simp[re,List.map_take]
 ·simp-implicitDefEqProofs<;>(
   first|exact⟨rfl,rfl⟩|rfl|simp[re])
end Go.Proofs.YtejohpnpnaljdaaGreat
