/- part -/
import Derived.Test.YtdngefmliibcgaaGreatV07
set_option linter.all false
set_option maxRecDepth 20000
set_option maxHeartbeats 20000000
namespace Go.Proofs.YtdngefmliibcgaaGreat
open Go Go.Abs Go.Abs.kI Qf
variable  {c file h key:Int}{x:Thread}{m:aO}{t n o:Nat}{p:Prog}{f:bJ}{d l a b:List Canon}{aD an:List Int}{r:Request}
def ep.self(h:ep c x):ep x.count x:=by
 obtain⟨h1,h2,h3,h4,h5,h6,h7,h8,h9⟩:=h;exact⟨h1,h2,h3,h4,⟨h5.1,adQ _⟩,h6,h7,h8,h9⟩
def bV(m:aO)(t:Nat):Thread:=m.threads.getD t cn
def iq(h:t<m.threads.length):bV m t=m.threads[t]:=ad8 h
def cT.bV{p:Prog}{c:Int}{m:aO}(h:cT p c m){t:Nat}(ht:t<4):ep c (bV m t):=by
 have hl:t<m.threads.length:=by rw[h.len];exact ht
 rw[iq hl];exact h.pe t hl
def WJ{mem:aF}(h:t<m.threads.length):bV (iZ m mem t x) t=x:=by
 rw[iq (by simpa[iZ] using h)];simp[iZ]
def xj(p:Prog)(m:aO)(t:Nat):lz p m t=(iZ m (nn p m (bV m t)).1 t (nn p m (bV m t)).2.1,(nn p m (bV m t)).2.2):=rfl
def yX(H:cT p c m)(ht:t<4):bV (lz p m t).1 t=(nn p m (bV m t)).2.1:=by
 rw[xj];exact WJ (by rw[H.len];exact ht)
def EV(H:cT p c m)(ht:t<4)(hc:(bV m t).count+1<=c):cT p c (lz p m t).1:=by
 have h1:=H.bV ht;have h2:=yW H h1.self;rw[xj];exact uW H (adQ _) h2.mem (fun g=>WI H (H.coh g) _) (h2.pe.mono (by omega))
def yY(upto:Int)(x:Thread):Int:=(upto-x.count)*300+(256-x.pc)
def zR(H:cT p c m)(ht:t<4)(hg:(lz p m t).2= -1)(upto:Int):
  yY upto (bV (lz p m t).1 t)+1<=yY upto (bV m t)/\(bV (lz p m t).1 t).state=(bV m t).state/\(bV m t).count<=(bV (lz p m t).1 t).count/\(bV (lz p m t).1 t).count<=(bV m t).count+1:=by
 have h1:=H.bV ht;have h2:=yW H h1;rw[yX H ht];have h3:=h2.ale hg;have h4:=h2.pe.pc;have h5:=h1.pc;unfold yY;rcases h3.2 with e|⟨e,e'⟩
 ·rw[e];refine⟨by omega,h3.1,by omega,by omega⟩
 ·rw[e,e'];refine⟨by omega,h3.1,by omega,by omega⟩
def WK{i:Instr}(TC: ¬i.op=23): ¬(iU p m x i).2.2=1:=by
 unfold iU;rw[if_neg TC];repeat' (refine qy (P:=fun r:aF×Thread×Int=> ¬r.2.2=1) (fun _=> ?_) fun _=> ?_)
 all_goals simp
def Si(h:(nn p m x).2.2=1):x.pc<p.code.length/\(p.code.getD x.pc.toNat qM).op=23/\(nn p m x).2.1=uV x/\(nn p m x).1=m.memory:=by
 unfold nn at h⊢;split at h
 case isFalse=>simp at h
 rename_i hp;rw[if_pos hp];obtain⟨i,hi⟩: ∃i,p.code.getD x.pc.toNat qM=i:=⟨_,rfl⟩;rw[hi]at h⊢;by_cases TC:i.op=23
 ·unfold iU;rw[if_pos TC];exact⟨hp,TC,rfl,rfl⟩
 ·exfalso;exact WK TC h
structure A5 (p:Prog) (d:Int) (t:Nat) (r:aO×Int):Prop where
 Oi:cT p d r.1
 stop:r.2=0\/r.2=1\/r.2=2
 calls:r.2=1->(bV r.1 t).state=2/\1<=(bV r.1 t).pc/\(bV r.1 t).pc<=p.code.length/\(kU p.code (bV r.1 t).pc).op=23
 ap7:r.2=2->(bV r.1 t).state=4
 ale:r.2=0->(bV r.1 t).state=1
def GU{p:Prog}{d upto:Int}{t:Nat}(ht:t<4)(hd:upto<=d): ∀(k:Nat) (m:aO),cT p d m->(bV m t).count<upto->(bV m t).state=1->A5 p d t (j9 p t upto k m)
 |0,m,H,hc,hs=>⟨H,.inl rfl,fun h=>by simp[j9]at h,fun h=>by simp[j9]at h,fun _=>hs⟩
 |k+1,m,H,hc,hs=>by
  have h1:=EV H ht (by omega);unfold j9;split
  ·rename_i hg;have h2:=zR H ht hg upto;split
   ·exact⟨h1,.inl rfl,fun h=>by simp at h,fun h=>by simp at h,fun _=>h2.2.1.trans hs⟩
   ·rename_i kz;have kz: ¬(bV (lz p m t).1 t).count=upto:=kz;exact GU ht hd k _ h1 (by omega) (by rw[h2.2.1,hs])
  ·rename_i hg;have h3:=yW H (H.bV ht);have e:(lz p m t).2=(nn p m (bV m t)).2.2:=rfl;have kH:=h3.stop;rw[<-e]at kH;refine⟨h1,by omega,fun rO=> ?_,fun a09=> ?_,fun h0=>by omega⟩
   ·rw[yX H ht];obtain⟨c1,c2,c3,c4⟩:=Si (e▸rO);have Cn:=(H.bV ht).pc;rw[c3];refine⟨rfl,by simp only[uV];omega,by simp only[uV];omega,?_⟩;unfold kU;simp only[uV];rw[show(bV m t).pc+1-1=(bV m t).pc by omega];exact c2
   ·rw[yX H ht];exact(h3.ap7 (e▸a09)).1
def C9(H:cT p c m)(ht:t<4){n:Int}(hn:1<=n)(hs:(bV m t).state=1):A5 p (c+n) t (dQ p m t n):=by
 have e0:m.threads.getD t cn=bV m t:=rfl;unfold dQ;rw[e0,if_pos hs];have:=(H.bV ht).count;exact GU ht (by omega) _ _ (H.mono (by omega)) (by omega) hs
def Ln(x:Output):(Output.e x).lP=Output.e x:=by
 simp[Output.bS,V.lP,eV]
@[simp]def ap8(hx:bh)(l:List Output):cF (l.map (cy hx 12∘Output.e))=some (l.map Output.e):=pX (fun _=>rfl) l
@[simp]def Ol(l:List Output):eV (l.map Output.e)=l.map Output.e:=qI Ln l
@[simp]def bqo(l:List Output)(hm:l.length<=1000000000)(hx: ∀i (h:i<l.length),(l[i]).data.length<=1000000000):ng X [(0,0,254)] 206 [l]=some l:=by
 refine aaC ?_;simp;refine cY (fun i S=>(S.f 3= .cx 3 0 (((l.take i).map Output.e)).length/\S.h 3=some ⟨3,((l.take i).map Output.e),false⟩/\S.f 6=l/\S.f 7=((l).length:Int)/\S.f 8=(i:Int)/\S.n=1100)/\True) (l.length) (by omega) ?_ ?_ ?_
 ·rintro i S ⟨oY,gS,bL⟩ ⟨df,fg⟩;have g:=hx i bL;have lS:min i l.length=i:=by omega
  simp[df,gS,bL,lS];all_goals ((repeat' (first|apply And.intro|intro _))<;>first|omega|exact pY bL|rfl)
 ·rintro S ⟨df,fg⟩;simp[df]
 ·simp<;>(
   simp)
def rR(l:List Output)(socket:Int)(data:List Canon):Bool:=decide (0<=socket)&& (decide (socket<2)&& (decide (l.length<200)&&decide (data.length<=16)))
@[simp]def alg(l:List Output)(socket:Int)(data:List Canon)(hm:l.length<=1000000000)(hd:data.length<=1000000000)(hx: ∀i (h:i<l.length),(l[i]).data.length<=1000000000):bU X 285 [l,socket,data]=some (.dP [.sl false (((if rR l socket data=true then l++ [⟨l.length,socket,data⟩] else l:List Output)).map Output.e),.int .i64 (if rR l socket data=true then(data.length:Int) else 0),.bool (rR l socket data)]):=by
 refine aaA ?_;by_cases h1:0<=socket
 case neg=>
  have e:rR l socket data=false:=by simp[rR,h1]
  simp[h1,hm,hx,e]
 by_cases h2:socket<2
 case neg=>
  have e:rR l socket data=false:=by simp[rR,h2]
  simp[h1,h2,hm,hx,e]
 by_cases h3:(l.length:Int)<200
 case neg=>
  have TW: ¬l.length<200:=by omega
  have e:rR l socket data=false:=by simp[rR,TW]
  have h3m:(200:Int)<=l.length:=by omega
  simp[h1,h2,h3m,hm,hx,e];try omega
 have TW:l.length<200:=by omega
 by_cases h4:(data.length:Int)<=16
 case neg=>
  have h4n: ¬data.length<=16:=by omega
  have e:rR l socket data=false:=by simp[rR,h4n]
  have h4m:(16:Int)<data.length:=by omega
  have h3m: ¬(200:Int)<=l.length:=by omega
  simp[h1,h2,h3m,h4m,hm,hx,e];try omega
 have h4n:data.length<=16:=by omega
 have e:rR l socket data=true:=by simp[rR,h1,h2,TW,h4n]
 have h3m: ¬(200:Int)<=l.length:=by omega
 have h4m: ¬(16:Int)<data.length:=by omega
 have fin:eV (List.take (l.length+1) (List.map Output.e l++ [Output.e ⟨l.length,socket,data⟩]))=List.map Output.e l++ [Output.e ⟨l.length,socket,data⟩]:=by
  rw[aZ (by simp),show List.map Output.e l++ [Output.e ⟨l.length,socket,data⟩]=(l++ [(⟨l.length,socket,data⟩:Output)]).map Output.e from by simp,Ol]
 simp[h1,h2,h3m,h4m,hm,hx,e];all_goals ((repeat' (first|apply And.intro|intro _))<;>first|omega|exact fin|rfl)
def DW(l:List fQ):Nat:=l.findIdx fun o=>decide (o.file= -1)
def Om(l:List fQ):DW l<=l.length:=List.findIdx_le_length
def yZ(file:Int)(o:fQ):fQ:=if o.file=file then⟨o.file,0,o.write⟩ else o
def xm(f:bJ)(file:Int):bJ:=⟨f.data.set file.toNat [],f.opens.map (yZ file)⟩
def xO(f:bJ)(file mode:Int):bJ:=if mode=1 then xm f file else f
def pE(f:bJ)(file mode:Int):bJ×Int:=
 if file<0\/(f.data.length:Int)<=file\/mode<0\/2<mode\/DW f.opens=f.opens.length then(f, -1)
 else(⟨(xO f file mode).data,(xO f file mode).opens.set (DW f.opens) ⟨file,if mode=2 then(((f.data.getD file.toNat []).length:Nat):Int) else 0,decide (0<mode)⟩⟩,DW f.opens)
def WN(h:jD f)(h0:0<=file):jD (xm f file):=by
 have hd:=h.data;refine⟨by simpa[xm] using hd,fun i hi=> ?_,by simp[xm,h.opens],fun i hi=> ?_⟩
 ·simp only[xm,aaN]at hi;simp only[xm,abA];split
  ·exact⟨rfl,by simp⟩
  ·exact h.each i hi
 ·simp only[xm,abJ]at hi;simp only[xm,adD];unfold yZ;rcases h.opn i hi with⟨e1,e2,e3⟩|⟨k,hk,e1,e2,e3⟩
  ·left;split
   ·exact⟨e1,rfl,e3⟩
   ·exact⟨e1,e2,e3⟩
  ·right;refine⟨k,by simpa using hk,?_⟩;split
   ·exact⟨e1,by simp,by simp only;omega⟩
   ·rename_i kz;refine⟨e1,e2,?_⟩;have: ¬file.toNat=k:=fun e=>kz (by omega);simp only[abA,this,if_false];exact e3
def aee(h:jD f)(h0:0<=file)(mode:Int):jD (xO f file mode):=by
 unfold xO;split
 ·exact WN h h0
 ·exact h
def WO(f:bJ)(file mode:Int):(xO f file mode).data.length=f.data.length/\(xO f file mode).opens.length=f.opens.length:=by
 unfold xO;split
 ·simp[xm]
 ·exact⟨rfl,rfl⟩
def B3(h:jD f)(k:Nat){o:fQ}(ho:(o.file= -1/\o.offset=0/\o.write=false)\/(∃j,∃g:j<f.data.length,o.file=(j:Int)/\0<=o.offset/\o.offset<=(f.data[j]).length)):jD ⟨f.data,f.opens.set k o⟩:=by
 refine⟨h.data,h.each,by simp[h.opens],fun i hi=> ?_⟩;simp only[aaN]at hi;simp only[abA];split
 ·exact ho
 ·exact h.opn i hi
def aef(h:jD f)(file mode:Int):jD (pE f file mode).1/\ -1<=(pE f file mode).2/\(pE f file mode).2<=8:=by
 have hl:=Om f.opens;have h8:=h.opens;unfold pE;split
 ·exact⟨h,by simp⟩
 rename_i hc;refine⟨?_,by simp only;omega⟩;have hm:=aee h (file:=file) (by omega) mode;obtain⟨l1,l2⟩:=WO f file mode;refine B3 hm _ (.inr ⟨file.toNat,by rw[l1];omega,by simp only;omega,?_,?_⟩)
 ·simp only;split<;>omega
 ·simp only;split
  ·rename_i h2;have hk:file.toNat<f.data.length:=by omega
   have e:xO f file mode=f:=by unfold xO;rw[if_neg (by omega)]
   simp[e,List.getD,hk]
  ·omega
def sK(f:bJ)(h offset:Int):bJ×Bool:=
 if tc f h=true then
  if 0<=offset/\offset<=(f.data.getD (f.opens.getD h.toNat closed).file.toNat []).length then
   (⟨f.data,f.opens.set h.toNat ⟨(f.opens.getD h.toNat closed).file,offset,(f.opens.getD h.toNat closed).write⟩⟩,true) else(f,false)
 else(f,false)
def rq(f:bJ)(h:Int):fQ:=f.opens.getD h.toNat closed
def GX(f:bJ)(h:Int):List Canon:=f.data.getD (rq f h).file.toNat []
def qO(hf:jD f)(ho:tc f h=true): ∃k:Nat,h=k/\ ∃g:k<f.opens.length,∃j,∃g2:j<f.data.length,rq f h=f.opens[k]/\GX f h=f.data[j]/\(f.opens[k]).file=(j:Int)/\0<=(f.opens[k]).offset/\(f.opens[k]).offset<=(f.data[j]).length:=by
 obtain⟨k,rfl,hk,hn⟩:=N6 ho;rcases hf.opn k hk with⟨e1,_,_⟩|⟨j,hj,e1,e2,e3⟩
 ·exact absurd e1 hn
 ·have e:rq f k=f.opens[k]:=by simp[rq,List.getD,hk]
  refine⟨k,rfl,hk,j,hj,e,?_,e1,e2,e3⟩;unfold GX;rw[e,e1];simp[List.getD,hj]
def aeg(hf:jD f)(h offset:Int):jD (sK f h offset).1:=by
 unfold sK;split
 ·rename_i ho;obtain⟨k,rfl,hk,j,hj,e1,e2,e3,e4,e5⟩:=qO hf ho;split
  ·rename_i hc;have Cv:0<=offset/\offset<=(GX f k).length:=hc;rw[e2]at Cv;refine B3 hf _ (.inr ⟨j,hj,?_,Cv⟩);simp only;have:f.opens.getD (k:Int).toNat closed=f.opens[k]:=e1;rw[this,e3]
  ·exact hf
 ·exact hf
def DX(f:bJ)(h n:Int):Int:=if(GX f h).length-(rq f h).offset<n then(GX f h).length-(rq f h).offset else n
def pf(f:bJ)(h n:Int):bJ×List Canon×Bool:=
 if tc f h=true/\0<=n/\(rq f h).write=false then
  (⟨f.data,f.opens.set h.toNat ⟨(rq f h).file,(rq f h).offset+DX f h n,(rq f h).write⟩⟩,((GX f h).drop (rq f h).offset.toNat).take (DX f h n).toNat,true)
 else(f,[],false)
def aeh(hf:jD f)(h n:Int):jD (pf f h n).1/\(pf f h n).2.1.length<=64/\jd (pf f h n).2.1=true:=by
 unfold pf;split
 ·rename_i hc;obtain⟨ho,hn,hw⟩:=hc;obtain⟨k,rfl,hk,j,hj,e1,e2,e3,e4,e5⟩:=qO hf ho;have hd:=hf.each j hj;refine⟨B3 hf _ (.inr ⟨j,hj,?_,?_,?_⟩),?_,?_⟩
  ·simp only;rw[e1,e3]
  ·simp only;unfold DX;rw[e1,e2];split<;>omega
  ·simp only;unfold DX;rw[e1,e2];split<;>omega
  ·simp only[abR,adX,e2];omega
  ·have:=hd.1;unfold jd at this⊢;rw[aaP]at this⊢;intro x hx;simp only at hx;rw[e2]at hx;exact this x (abB (aaS hx))
 ·exact⟨hf,by simp,rfl⟩
def ry(f:bJ)(h:Int)(l:List Canon):Int:=if 64-(rq f h).offset<l.length then 64-(rq f h).offset else l.length
def lH(d l:List Canon)(o n:Nat):List Canon:=d.take o++l.take n++d.drop (o+n)
def ot(f:bJ)(h:Int)(l:List Canon):bJ×Int×Bool:=
 if tc f h=true/\(rq f h).write=true/\jd l=true then
  (⟨f.data.set (rq f h).file.toNat (lH (GX f h) l (rq f h).offset.toNat (ry f h l).toNat),f.opens.set h.toNat ⟨(rq f h).file,(rq f h).offset+ry f h l,(rq f h).write⟩⟩,ry f h l,true)
 else(f,0,false)
def xo(h:o<=d.length)(hn:n<=l.length):(lH d l o n).length=if d.length<o+n then o+n else d.length:=by
 unfold lH;simp;split<;>omega
def Sj(h:jd d=true)(hn:jd l=true):jd (lH d l o n)=true:=by
 unfold jd lH at*;rw[aaP]at h hn⊢;intro x hx;simp only[aeD]at hx;rcases hx with(hx|hx)|hx
 ·exact h x (aaS hx)
 ·exact hn x (aaS hx)
 ·exact h x (abB hx)
def alh(h:jD f)(k:Nat)(hd:jd d=true)(h64:d.length<=64)(hl: ∀g:k<f.data.length,(f.data[k]).length<=d.length):jD ⟨f.data.set k d,f.opens⟩:=by
 refine⟨by simpa using h.data,fun i hi=> ?_,h.opens,fun i hi=> ?_⟩
 ·simp only[aaN]at hi;simp only[abA];split
  ·exact⟨hd,h64⟩
  ·exact h.each i hi
 ·rcases h.opn i hi with e|⟨j,hj,e1,e2,e3⟩
  ·exact .inl e
  ·refine .inr ⟨j,by simpa using hj,e1,e2,?_⟩;simp only[abA];split
   ·rename_i e;subst e;have:=hl hj;omega
   ·exact e3
def WQ(hf:jD f)(h:Int)(l:List Canon):jD (ot f h l).1:=by
 unfold ot;split
 ·rename_i hc;obtain⟨ho,hw,hl⟩:=hc;obtain⟨k,rfl,hk,j,hj,e1,e2,e3,e4,e5⟩:=qO hf ho;have hd:=hf.each j hj;have hle:=xo (d:=f.data[j]) (l:=l) (o:=(f.opens[k]).offset.toNat) (n:=(ry f k l).toNat) (by omega) (by unfold ry;rw[e1];split<;>omega);have hn:0<=ry f k l/\ry f k l<=64-(f.opens[k]).offset:=by unfold ry;rw[e1];split<;>omega
  have hlen:(f.opens[k]).offset+ry f k l<=(lH (f.data[j]) l (f.opens[k]).offset.toNat (ry f k l).toNat).length:=by rw[hle];split<;>omega
  have YV:(f.data[j]).length<=(lH (f.data[j]) l (f.opens[k]).offset.toNat (ry f k l).toNat).length:=by rw[hle];split<;>omega
  have a1c:(lH (f.data[j]) l (f.opens[k]).offset.toNat (ry f k l).toNat).length<=64:=by rw[hle];split<;>omega
  rw[e1,e2,e3];have h1:=alh hf j (Sj hd.1 hl) a1c (fun _=>YV);simp only[aaH];refine B3 h1 _ (.inr ⟨j,by simpa using hj,rfl,by simp only;omega,?_⟩);simp only[aco];exact hlen
 ·exact hf
def J4(l:List Int)(n:Int):Int:=if(l.length:Int)<n then l.length else n
def pF(ins:List (List Int))(socket n:Int):List (List Int)×List Canon×Bool:=
 if socket<0\/(ins.length:Int)<=socket\/n<0 then(ins,[],false)
 else(ins.set socket.toNat ((ins.getD socket.toNat []).drop (J4 (ins.getD socket.toNat []) n).toNat),((ins.getD socket.toNat []).take (J4 (ins.getD socket.toNat []) n).toNat).map BZ,true)
def Dc(c:Canon):Prop:=0<=c.val/\c.val<=65535
def hY(l:List Canon):Prop:= ∀c∈l,Dc c
def hY.nil:hY []:=fun _ h=>by cases h
def hY.append(ha:hY a)(hb:hY b):hY (a++b):=fun c hc=>by
 rcases List.mem_append.1 hc with h|h
 ·exact ha c h
 ·exact hb c h
def hY.take{l:List Canon}(h:hY l)(n:Nat):hY (l.take n):=fun c hc=>h c (aaS hc)
def hY.drop{l:List Canon}(h:hY l)(n:Nat):hY (l.drop n):=fun c hc=>h c (abB hc)
def hY.aua{l:List Int}(h: ∀x∈l,0<=x/\x<=65535):hY (l.map BZ):=fun c hc=>by
 obtain⟨x,hx,rfl⟩:=List.mem_map.1 hc;exact h x hx
def wC{x:Canon}(hx:Dc x):iz (raw aD key an x).1:=by
 unfold raw;split
 ·exact l4
 split
 ·exact⟨⟨by simp,by simp⟩,hx⟩
 split
 ·exact⟨⟨by simp,by simp⟩,qL _⟩
 ·exact⟨⟨by simp,by simp⟩,qL _⟩
def Lo{c:Cell}(hc:iz c):Dc (canon aD key an c):=by
 unfold canon;split
 ·exact hc.2
 split
 ·exact qL _
 split
 ·exact⟨by simp,by simp⟩
 ·exact⟨by simp,by simp⟩
def pg(f:bJ):Prop:= ∀d∈f.data,hY d
def pg.at(h:pg f){i:Nat}(hi:i<f.data.length):hY f.data[i]:=h _ (aaL hi)
def pg.set{f:bJ}(h:pg f){d:List Canon}(hd:hY d)(k:Nat)(o:List fQ):pg ⟨f.data.set k d,o⟩:=fun x hx=>by
 rcases aaX hx with hx|rfl
 ·exact h x hx
 ·exact hd
def ali(h:pg f)(file mode:Int):pg (pE f file mode).1:=by
 unfold pE;split
 ·exact h
 ·unfold xO;split
  ·exact h.set .nil _ _
  ·exact h
def aei(h:pg f)(k:Int):pg (sd f k).1:=by
 unfold sd;split
 ·exact h
 ·exact h
def alj(h:pg f)(k o:Int):pg (sK f k o).1:=by
 unfold sK;split
 ·split
  ·exact h
  ·exact h
 ·exact h
def alk(hf:jD f)(h:pg f)(k n:Int):pg (pf f k n).1/\hY (pf f k n).2.1:=by
 unfold pf;split
 ·rename_i hc;obtain⟨i,rfl,hi,j,hj,e1,e2,e3,e4,e5⟩:=qO hf hc.1;refine⟨h,?_⟩;simp only;rw[e2];exact((h.at hj).drop _).take _
 ·exact⟨h,.nil⟩
def aej(hf:jD f)(h:pg f)(k:Int)(hl:hY l):pg (ot f k l).1:=by
 unfold ot;split
 ·rename_i hc;obtain⟨i,rfl,hi,j,hj,e1,e2,e3,e4,e5⟩:=qO hf hc.1;refine h.set ?_ _ _;rw[e2];unfold lH;exact(((h.at hj).take _).append (hl.take _)).append ((h.at hj).drop _)
 ·exact h
def WR(h:jD f)(k:Int):jD (sd f k).1:=by
 unfold sd;split
 ·exact B3 h _ (.inl ⟨rfl,rfl,rfl⟩)
 ·exact h
structure a1d (o:cU):Prop where
 input: ∀d∈o.dw,∀x∈d,0<=x/\x<=65535
 files:pg o.files
def aek{ins:List (List Int)}(h1:ins.length<=2)(h2: ∀i (h:i<ins.length),(ins[i]).length<=64)(h3: ∀d∈ins,∀x∈d,0<=x/\x<=65535)(s n:Int):
  (pF ins s n).1.length<=2/\(∀i (h:i<(pF ins s n).1.length),((pF ins s n).1[i]).length<=64)/\(∀d∈ (pF ins s n).1,∀x∈d,0<=x/\x<=65535)/\hY (pF ins s n).2.1/\(pF ins s n).2.1.length<=64:=by
 unfold pF;split
 ·exact⟨h1,h2,h3,.nil,by simp⟩
 ·rename_i hc;have hk:s.toNat<ins.length:=by omega
  have e:ins.getD s.toNat []=ins[s.toNat]:=by simp[List.getD,hk]
  have hl:=h2 _ hk;have hx:=h3 _ (aaL hk);rw[e];refine⟨by simpa using h1,fun i h=> ?_,fun d hd=> ?_,hY.aua fun x Ig=>hx x (aaS Ig),by simp;omega⟩
  ·simp only[aaN]at h;simp only[abA];split
   ·simp;omega
   ·exact h2 i h
  ·rcases aaX hd with hd|rfl
   ·exact h3 d hd
   ·exact fun x Ig=>hx x (abB Ig)
def k7(n:Int)(ok:Bool):lO:=⟨⟨0,if ok=true then IntKind.u16.wrap n else 65535,0,0⟩,[], -1,false⟩
def Lp(n:Int)(ok:Bool):Dc (k7 n ok).value:=by
 unfold k7;simp only;split
 ·exact qL _
 ·exact⟨by simp,by simp⟩
def kW:cU:=⟨[],[],[],⟨[],[]⟩,[]⟩
def mg:lO:=⟨⟨0,0,0,0⟩,[],0,false⟩
def eY(r:Request)(i:Nat):Int:=(r.args.getD i ⟨0,0,0,0⟩).val
def At(l:List Output)(socket:Int)(data:List Canon):List Output:=if rR l socket data=true then l++ [⟨l.length,socket,data⟩] else l
def a1e(l:List Output)(socket:Int)(data:List Canon):Int:=if rR l socket data=true then(data.length:Int) else 0
def qV(o:cU)(r:Request):cU×lO:=
 if r.call=1 then(⟨o.clock,o.random,o.dw,(ot o.files (eY r 0) r.data).1,o.dH⟩,k7 (ot o.files (eY r 0) r.data).2.1 (ot o.files (eY r 0) r.data).2.2)
 else if r.call=2 then(⟨o.clock,o.random,o.dw,(pf o.files (eY r 0) (eY r 2)).1,o.dH⟩,
  ⟨(k7 (pf o.files (eY r 0) (eY r 2)).2.1.length (pf o.files (eY r 0) (eY r 2)).2.2).value,(pf o.files (eY r 0) (eY r 2)).2.1, -1,false⟩)
 else if r.call=3 then(⟨o.clock,o.random,o.dw,(pE o.files (eY r 0) (eY r 1)).1,o.dH⟩,
  if 0<=(pE o.files (eY r 0) (eY r 1)).2 then⟨⟨2,IntKind.u16.wrap (pE o.files (eY r 0) (eY r 1)).2,0,0⟩,[], -1,false⟩ else k7 0 false)
 else if r.call=4 then(⟨o.clock,o.random,o.dw,(sd o.files (eY r 0)).1,o.dH⟩,k7 0 (sd o.files (eY r 0)).2)
 else if r.call=5 then(⟨o.clock,o.random,o.dw,(sK o.files (eY r 0) (eY r 1)).1,o.dH⟩,k7 0 (sK o.files (eY r 0) (eY r 1)).2)
 else if r.call=6 then(⟨o.clock.drop 1,o.random,o.dw,o.files,o.dH⟩,match o.clock with| []=>k7 0 false|x::_=>k7 x true)
 else if r.call=7 then(⟨o.clock,o.random.drop 1,o.dw,o.files,o.dH⟩,match o.random with| []=>k7 0 false|x::_=>k7 x true)
 else if r.call=13 then(⟨o.clock,o.random,o.dw,o.files,At o.dH (eY r 0) r.data⟩,k7 (a1e o.dH (eY r 0) r.data) (rR o.dH (eY r 0) r.data))
 else(⟨o.clock,o.random,(pF o.dw (eY r 0) (eY r 2)).1,o.files,o.dH⟩,
  ⟨(k7 (pF o.dw (eY r 0) (eY r 2)).2.1.length (pF o.dw (eY r 0) (eY r 2)).2.2).value,(pF o.dw (eY r 0) (eY r 2)).2.1, -1,false⟩)
structure xZ (x:lO):Prop where
 value:Dc x.value
 data:hY x.data
 len:x.data.length<=64
def kf(n:Int)(ok:Bool):xZ (k7 n ok):=⟨Lp n ok,.nil,by simp[k7]⟩
def tK:xZ mg:=⟨⟨by simp[mg],by simp[mg]⟩,.nil,by simp[mg]⟩
structure np (o:cU):Prop where
 p:wy o
 r:a1d o
def um(o:cU):Prop:=np o\/o=kW
def np.files{o:cU}(h:np o)(hp:jD f)(hr:pg f):np ⟨o.clock,o.random,o.dw,f,o.dH⟩:=
 ⟨⟨h.p.clock,h.p.random,h.p.dw,h.p.input,hp,h.p.dH,h.p.output⟩,h.r.input,hr⟩
def ael{l:List Output}(h1:l.length<=200)(h2: ∀i (h:i<l.length),(l[i]).seq=i/\0<=(l[i]).socket/\(l[i]).socket<2/\(l[i]).data.length<=16/\jd (l[i]).data=true)(s:Int)(hd:jd d=true):
  (At l s d).length<=200/\ ∀i (h:i<(At l s d).length),((At l s d)[i]).seq=i/\0<=((At l s d)[i]).socket/\((At l s d)[i]).socket<2/\((At l s d)[i]).data.length<=16/\jd ((At l s d)[i]).data=true:=by
 by_cases hb:rR l s d=true
 case neg=>
  have e:At l s d=l:=if_neg hb;rw[e];exact⟨h1,h2⟩
 have e:At l s d=l++ [⟨l.length,s,d⟩]:=if_pos hb;rw[e];unfold rR at hb;simp only[aaF,decide_eq_true_eq]at hb;obtain⟨b1,b2,b3,b4⟩:=hb;refine⟨by simp;omega,fun i h=> ?_⟩;by_cases hi:i<l.length
 ·rw[acS hi];exact h2 i hi
 ·simp only[aaY,abP,acP]at h;have:i=l.length:=by omega
  subst this;simp only[List.getElem_concat_length];exact⟨trivial,b1,b2,b4,hd⟩
def xp{o:cU}(h:np o)(hd:jd r.data=true)(hv:hY r.data):np (qV o r).1/\xZ (qV o r).2:=by
 have hf:=h.p.files;have hr:=h.r.files;unfold qV;refine qy (P:=fun q:cU×lO=>np q.1/\xZ q.2) (fun _=> ?_) fun _=> ?_
 ·exact⟨h.files (WQ hf _ _) (aej hf hr _ hv),kf _ _⟩
 refine qy (P:=fun q:cU×lO=>np q.1/\xZ q.2) (fun _=> ?_) fun _=> ?_
 ·have h1:=aeh hf (eY r 0) (eY r 2);have h2:=alk hf hr (eY r 0) (eY r 2);exact⟨h.files h1.1 h2.1,Lp _ _,h2.2,h1.2.1⟩
 refine qy (P:=fun q:cU×lO=>np q.1/\xZ q.2) (fun _=> ?_) fun _=> ?_
 ·refine⟨h.files (aef hf _ _).1 (ali hr _ _),?_⟩;simp only;split
  ·exact⟨qL _,.nil,by simp⟩
  ·exact kf _ _
 refine qy (P:=fun q:cU×lO=>np q.1/\xZ q.2) (fun _=> ?_) fun _=> ?_
 ·exact⟨h.files (WR hf _) (aei hr _),kf _ _⟩
 refine qy (P:=fun q:cU×lO=>np q.1/\xZ q.2) (fun _=> ?_) fun _=> ?_
 ·exact⟨h.files (aeg hf _ _) (alj hr _ _),kf _ _⟩
 refine qy (P:=fun q:cU×lO=>np q.1/\xZ q.2) (fun _=> ?_) fun _=> ?_
 ·refine⟨⟨⟨by have:=h.p.clock;simp;omega,h.p.random,h.p.dw,h.p.input,hf,h.p.dH,h.p.output⟩,h.r.input,hr⟩,?_⟩;simp only;split
  ·exact kf _ _
  ·exact kf _ _
 refine qy (P:=fun q:cU×lO=>np q.1/\xZ q.2) (fun _=> ?_) fun _=> ?_
 ·refine⟨⟨⟨h.p.clock,by have:=h.p.random;simp;omega,h.p.dw,h.p.input,hf,h.p.dH,h.p.output⟩,h.r.input,hr⟩,?_⟩;simp only;split
  ·exact kf _ _
  ·exact kf _ _
 refine qy (P:=fun q:cU×lO=>np q.1/\xZ q.2) (fun _=> ?_) fun _=> ?_
 ·have hs:=ael h.p.dH h.p.output (eY r 0) hd;exact⟨⟨⟨h.p.clock,h.p.random,h.p.dw,h.p.input,hf,hs.1,hs.2⟩,h.r.input,hr⟩,kf _ _⟩
 ·obtain⟨a1,a2,a3,a4,a5⟩:=aek h.p.dw h.p.input h.r.input (eY r 0) (eY r 2);exact⟨⟨⟨h.p.clock,h.p.random,a1,a2,hf,h.p.dH,h.p.output⟩,a3,hr⟩,Lp _ _,a4,a5⟩
def doB(r:Request):Bool:=lk r&& (decide (r.stop=1)&& (decide ((1<=r.call/\r.call<=7)\/r.call=13\/r.call=14)&& (iI (dh r.call) (r.args.map (·.tag))&&decide (¬(my r.call=2/\16<eY r 2)))))
def J5(h:lk r=true):jd r.data=true/\r.data.length<=16:=by
 unfold lk at h;simp only[aaF,decide_eq_true_eq]at h;obtain⟨_,_,_,_,_,_,_,_,_,_,_,_,_,_,h1,h2⟩:=h;exact⟨h1,h2⟩
def On{l:bY}(h:jR l)(k t:Int): -1<=(gd l k t).2.1/\(gd l k t).2.1<4:=(GW h k t).2
end Go.Proofs.YtdngefmliibcgaaGreat
