/- Part of a proof: G3. -/
import Derived.Test.YtdngefmliibcgaaGreatM18
set_option linter.all false
set_option maxRecDepth 20000
set_option maxHeartbeats 20000000
namespace Go.Proofs.YtdngefmliibcgaaGreat
open Go Go.Abs Go.Abs.kX Qf
variable  {c file h key:Int}{x:Thread}{m:aO}{t n o:Nat}{p:Prog}{f:bJ}{d l a b:List Canon}{aD an:List Int}{r:Request}
def eu.self(h:eu c x):eu x.count x:=by
 obtain⟨h1,h2,h3,h4,h5,h6,h7,h8,h9⟩:=h;exact⟨h1,h2,h3,h4,⟨h5.1,adO _⟩,h6,h7,h8,h9⟩
def cg(m:aO)(t:Nat):Thread:=m.threads.getD t cw
def iS(h:t<m.threads.length):cg m t=m.threads[t]:=ac4 h
def db.cg{p:Prog}{c:Int}{m:aO}(h:db p c m){t:Nat}(ht:t<4):eu c (cg m t):=by
 have hl:t<m.threads.length:=by rw[h.len];exact ht
 rw[iS hl];exact h.pg t hl
def Wg{mem:aF}(h:t<m.threads.length):cg (iZ m mem t x) t=x:=by
 rw[iS (by simpa[iZ] using h)];simp[iZ]
def w7(p:Prog)(m:aO)(t:Nat):lu p m t=(iZ m (ny p m (cg m t)).1 t (ny p m (cg m t)).2.1,(ny p m (cg m t)).2.2):=rfl
def yP(H:db p c m)(ht:t<4):cg (lu p m t).1 t=(ny p m (cg m t)).2.1:=by
 rw[w7];exact Wg (by rw[H.len];exact ht)
def EC(H:db p c m)(ht:t<4)(hc:(cg m t).count+1<=c):db p c (lu p m t).1:=by
 have h1:=H.cg ht;have h2:=yO H h1.self;rw[w7];exact uU H (adO _) h2.mem (fun g=>Wf H (H.coh g) _) (h2.pg.mono (by omega))
def yQ(upto:Int)(x:Thread):Int:=(upto-x.count)*300+(256-x.pc)
def zJ(H:db p c m)(ht:t<4)(hg:(lu p m t).2= -1)(upto:Int):
  yQ upto (cg (lu p m t).1 t)+1<=yQ upto (cg m t)/\(cg (lu p m t).1 t).state=(cg m t).state/\(cg m t).count<=(cg (lu p m t).1 t).count/\(cg (lu p m t).1 t).count<=(cg m t).count+1:=by
 have h1:=H.cg ht;have h2:=yO H h1;rw[yP H ht];have h3:=h2.akh hg;have h4:=h2.pg.pc;have h5:=h1.pc;unfold yQ;rcases h3.2 with e|⟨e,e'⟩
 ·rw[e];refine⟨by omega,h3.1,by omega,by omega⟩
 ·rw[e,e'];refine⟨by omega,h3.1,by omega,by omega⟩
def Wh{i:Instr}(S7: ¬i.op=23): ¬(iU p m x i).2.2=1:=by
 unfold iU;rw[if_neg S7];repeat' (refine qz (P:=fun r:aF×Thread×Int=> ¬r.2.2=1) (fun _=> ?_) fun _=> ?_)
 all_goals simp
def RF(h:(ny p m x).2.2=1):x.pc<p.code.length/\(p.code.getD x.pc.toNat qO).op=23/\(ny p m x).2.1=uT x/\(ny p m x).1=m.memory:=by
 unfold ny at h⊢;split at h
 case isFalse=>simp at h
 rename_i hp;rw[if_pos hp];obtain⟨i,hi⟩: ∃i,p.code.getD x.pc.toNat qO=i:=⟨_,rfl⟩;rw[hi]at h⊢;by_cases S7:i.op=23
 ·unfold iU;rw[if_pos S7];exact⟨hp,S7,rfl,rfl⟩
 ·exfalso;exact Wh S7 h
structure AY (p:Prog) (d:Int) (t:Nat) (r:aO×Int):Prop where
 NN:db p d r.1
 stop:r.2=0\/r.2=1\/r.2=2
 calls:r.2=1->(cg r.1 t).state=2/\1<=(cg r.1 t).pc/\(cg r.1 t).pc<=p.code.length/\(kQ p.code (cg r.1 t).pc).op=23
 ao5:r.2=2->(cg r.1 t).state=4
 akh:r.2=0->(cg r.1 t).state=1
def Gz{p:Prog}{d upto:Int}{t:Nat}(ht:t<4)(hd:upto<=d): ∀(k:Nat) (m:aO),db p d m->(cg m t).count<upto->(cg m t).state=1->AY p d t (jZ p t upto k m)
 |0,m,H,hc,hs=>⟨H,.inl rfl,fun h=>by simp[jZ]at h,fun h=>by simp[jZ]at h,fun _=>hs⟩
 |k+1,m,H,hc,hs=>by
  have h1:=EC H ht (by omega);unfold jZ;split
  ·rename_i hg;have h2:=zJ H ht hg upto;split
   ·exact⟨h1,.inl rfl,fun h=>by simp at h,fun h=>by simp at h,fun _=>h2.2.1.trans hs⟩
   ·rename_i kC;have kC: ¬(cg (lu p m t).1 t).count=upto:=kC;exact Gz ht hd k _ h1 (by omega) (by rw[h2.2.1,hs])
  ·rename_i hg;have h3:=yO H (H.cg ht);have e:(lu p m t).2=(ny p m (cg m t)).2.2:=rfl;have kD:=h3.stop;rw[<-e]at kD;refine⟨h1,by omega,fun rO=> ?_,fun azu=> ?_,fun h0=>by omega⟩
   ·rw[yP H ht];obtain⟨c1,c2,c3,c4⟩:=RF (e▸rO);have D1:=(H.cg ht).pc;rw[c3];refine⟨rfl,by simp only[uT];omega,by simp only[uT];omega,?_⟩;unfold kQ;simp only[uT];rw[show(cg m t).pc+1-1=(cg m t).pc by omega];exact c2
   ·rw[yP H ht];exact(h3.ao5 (e▸azu)).1
def C0(H:db p c m)(ht:t<4){n:Int}(hn:1<=n)(hs:(cg m t).state=1):AY p (c+n) t (dN p m t n):=by
 have e0:m.threads.getD t cw=cg m t:=rfl;unfold dN;rw[e0,if_pos hs];have:=(H.cg ht).count;exact Gz ht (by omega) _ _ (H.mono (by omega)) (by omega) hs
def K1(x:Output):(Output.e x).lM=Output.e x:=by
 simp[Output.bS,V.lM,eV]
@[simp]def ao6(hx:bh)(l:List Output):cF (l.map (cx hx 12∘Output.e))=some (l.map Output.e):=qi (fun _=>rfl) l
@[simp]def NP(l:List Output):eV (l.map Output.e)=l.map Output.e:=qK K1 l
@[simp]def boz(l:List Output)(hm:l.length<=1000000000)(hx: ∀i (h:i<l.length),(l[i]).data.length<=1000000000):nr X [(0,0,254)] 206 [l]=some l:=by
 refine aaC ?_;simp[];refine cZ (fun i S=>(S.f 3= .cu 3 0 (((l.take i).map Output.e)).length/\S.h 3=some ⟨3,((l.take i).map Output.e),false⟩/\S.f 6=l/\S.f 7=((l).length:Int)/\S.f 8=(i:Int)/\S.n=1100)/\True) (l.length) (by omega) ?_ ?_ ?_
 ·rintro i S ⟨pq,ie,bL⟩ ⟨df,fp⟩;have g:=hx i bL;have lO:min i l.length=i:=by omega
  simp[df,ie,bL,lO];all_goals ((repeat' (first|apply And.intro|intro _))<;>first|omega|exact qj bL|rfl)
 ·rintro S ⟨df,fp⟩;simp[df]
 ·simp[]<;>(
   simp)
def rR(l:List Output)(socket:Int)(data:List Canon):Bool:=decide (0<=socket)&& (decide (socket<2)&& (decide (l.length<200)&&decide (data.length<=16)))
@[simp]def akj(l:List Output)(socket:Int)(data:List Canon)(hm:l.length<=1000000000)(hd:data.length<=1000000000)(hx: ∀i (h:i<l.length),(l[i]).data.length<=1000000000):bW X 285 [l,socket,data]=some (.dM [.sl false (((if rR l socket data=true then l++ [⟨l.length,socket,data⟩] else l:List Output)).map Output.e),.int .i64 (if rR l socket data=true then(data.length:Int) else 0),.bool (rR l socket data)]):=by
 refine aaA ?_;by_cases h1:0<=socket
 case neg=>
  have e:rR l socket data=false:=by simp[rR,h1]
  simp[h1,hm,hx,e]
 by_cases h2:socket<2
 case neg=>
  have e:rR l socket data=false:=by simp[rR,h2]
  simp[h1,h2,hm,hx,e]
 by_cases h3:(l.length:Int)<200
 case neg=>
  have Tp: ¬l.length<200:=by omega
  have e:rR l socket data=false:=by simp[rR,Tp]
  have h3m:(200:Int)<=l.length:=by omega
  simp[h1,h2,h3m,hm,hx,e];try omega
 have Tp:l.length<200:=by omega
 by_cases h4:(data.length:Int)<=16
 case neg=>
  have h4n: ¬data.length<=16:=by omega
  have e:rR l socket data=false:=by simp[rR,h4n]
  have h4m:(16:Int)<data.length:=by omega
  have h3m: ¬(200:Int)<=l.length:=by omega
  simp[h1,h2,h3m,h4m,hm,hx,e];try omega
 have h4n:data.length<=16:=by omega
 have e:rR l socket data=true:=by simp[rR,h1,h2,Tp,h4n]
 have h3m: ¬(200:Int)<=l.length:=by omega
 have h4m: ¬(16:Int)<data.length:=by omega
 have fin:eV (List.take (l.length+1) (List.map Output.e l++ [Output.e ⟨l.length,socket,data⟩]))=List.map Output.e l++ [Output.e ⟨l.length,socket,data⟩]:=by
  rw[aZ (by simp),show List.map Output.e l++ [Output.e ⟨l.length,socket,data⟩]=(l++ [(⟨l.length,socket,data⟩:Output)]).map Output.e from by simp,NP]
 simp[h1,h2,h3m,h4m,hm,hx,e];all_goals ((repeat' (first|apply And.intro|intro _))<;>first|omega|exact fin|rfl)
def DH(l:List fO):Nat:=l.findIdx fun o=>decide (o.file= -1)
def NQ(l:List fO):DH l<=l.length:=List.findIdx_le_length
def yR(file:Int)(o:fO):fO:=if o.file=file then⟨o.file,0,o.write⟩ else o
def w9(f:bJ)(file:Int):bJ:=⟨f.data.set file.toNat [],f.opens.map (yR file)⟩
def xG(f:bJ)(file mode:Int):bJ:=if mode=1 then w9 f file else f
def pH(f:bJ)(file mode:Int):bJ×Int:=
 if file<0\/(f.data.length:Int)<=file\/mode<0\/2<mode\/DH f.opens=f.opens.length then(f, -1)
 else(⟨(xG f file mode).data,(xG f file mode).opens.set (DH f.opens) ⟨file,if mode=2 then(((f.data.getD file.toNat []).length:Nat):Int) else 0,decide (0<mode)⟩⟩,DH f.opens)
def Wk(h:jB f)(h0:0<=file):jB (w9 f file):=by
 have hd:=h.data;refine⟨by simpa[w9] using hd,fun i hi=> ?_,by simp[w9,h.opens],fun i hi=> ?_⟩
 ·simp only[w9,aaN]at hi;simp only[w9,abk];split
  ·exact⟨rfl,by simp⟩
  ·exact h.each i hi
 ·simp only[w9,abF]at hi;simp only[w9,adC];unfold yR;rcases h.opn i hi with⟨e1,e2,e3⟩|⟨k,hk,e1,e2,e3⟩
  ·left;split
   ·exact⟨e1,rfl,e3⟩
   ·exact⟨e1,e2,e3⟩
  ·right;refine⟨k,by simpa using hk,?_⟩;split
   ·exact⟨e1,by simp,by simp only;omega⟩
   ·rename_i kC;refine⟨e1,e2,?_⟩;have: ¬file.toNat=k:=fun e=>kC (by omega);simp only[abk,this,if_false];exact e3
def ada(h:jB f)(h0:0<=file)(mode:Int):jB (xG f file mode):=by
 unfold xG;split
 ·exact Wk h h0
 ·exact h
def Wl(f:bJ)(file mode:Int):(xG f file mode).data.length=f.data.length/\(xG f file mode).opens.length=f.opens.length:=by
 unfold xG;split
 ·simp[w9]
 ·exact⟨rfl,rfl⟩
def BY(h:jB f)(k:Nat){o:fO}(ho:(o.file= -1/\o.offset=0/\o.write=false)\/(∃j,∃g:j<f.data.length,o.file=(j:Int)/\0<=o.offset/\o.offset<=(f.data[j]).length)):jB ⟨f.data,f.opens.set k o⟩:=by
 refine⟨h.data,h.each,by simp[h.opens],fun i hi=> ?_⟩;simp only[aaN]at hi;simp only[abk];split
 ·exact ho
 ·exact h.opn i hi
def adb(h:jB f)(file mode:Int):jB (pH f file mode).1/\ -1<=(pH f file mode).2/\(pH f file mode).2<=8:=by
 have hl:=NQ f.opens;have h8:=h.opens;unfold pH;split
 ·exact⟨h,by simp⟩
 rename_i hc;refine⟨?_,by simp only;omega⟩;have hm:=ada h (file:=file) (by omega) mode;obtain⟨l1,l2⟩:=Wl f file mode;refine BY hm _ (.inr ⟨file.toNat,by rw[l1];omega,by simp only;omega,?_,?_⟩)
 ·simp only;split<;>omega
 ·simp only;split
  ·rename_i h2;have hk:file.toNat<f.data.length:=by omega
   have e:xG f file mode=f:=by unfold xG;rw[if_neg (by omega)]
   simp[e,List.getD,hk]
  ·omega
def sK(f:bJ)(h offset:Int):bJ×Bool:=
 if s8 f h=true then
  if 0<=offset/\offset<=(f.data.getD (f.opens.getD h.toNat closed).file.toNat []).length then
   (⟨f.data,f.opens.set h.toNat ⟨(f.opens.getD h.toNat closed).file,offset,(f.opens.getD h.toNat closed).write⟩⟩,true) else(f,false)
 else(f,false)
def rq(f:bJ)(h:Int):fO:=f.opens.getD h.toNat closed
def GD(f:bJ)(h:Int):List Canon:=f.data.getD (rq f h).file.toNat []
def qQ(hf:jB f)(ho:s8 f h=true): ∃k:Nat,h=k/\ ∃g:k<f.opens.length,∃j,∃g2:j<f.data.length,rq f h=f.opens[k]/\GD f h=f.data[j]/\(f.opens[k]).file=(j:Int)/\0<=(f.opens[k]).offset/\(f.opens[k]).offset<=(f.data[j]).length:=by
 obtain⟨k,rfl,hk,hn⟩:=NB ho;rcases hf.opn k hk with⟨e1,_,_⟩|⟨j,hj,e1,e2,e3⟩
 ·exact absurd e1 hn
 ·have e:rq f k=f.opens[k]:=by simp[rq,List.getD,hk]
  refine⟨k,rfl,hk,j,hj,e,?_,e1,e2,e3⟩;unfold GD;rw[e,e1];simp[List.getD,hj]
def ade(hf:jB f)(h offset:Int):jB (sK f h offset).1:=by
 unfold sK;split
 ·rename_i ho;obtain⟨k,rfl,hk,j,hj,e1,e2,e3,e4,e5⟩:=qQ hf ho;split
  ·rename_i hc;have Bq:0<=offset/\offset<=(GD f k).length:=hc;rw[e2]at Bq;refine BY hf _ (.inr ⟨j,hj,?_,Bq⟩);simp only;have:f.opens.getD (k:Int).toNat closed=f.opens[k]:=e1;rw[this,e3]
  ·exact hf
 ·exact hf
def DI(f:bJ)(h n:Int):Int:=if(GD f h).length-(rq f h).offset<n then(GD f h).length-(rq f h).offset else n
def ph(f:bJ)(h n:Int):bJ×List Canon×Bool:=
 if s8 f h=true/\0<=n/\(rq f h).write=false then
  (⟨f.data,f.opens.set h.toNat ⟨(rq f h).file,(rq f h).offset+DI f h n,(rq f h).write⟩⟩,((GD f h).drop (rq f h).offset.toNat).take (DI f h n).toNat,true)
 else(f,[],false)
def adf(hf:jB f)(h n:Int):jB (ph f h n).1/\(ph f h n).2.1.length<=64/\jc (ph f h n).2.1=true:=by
 unfold ph;split
 ·rename_i hc;obtain⟨ho,hn,hw⟩:=hc;obtain⟨k,rfl,hk,j,hj,e1,e2,e3,e4,e5⟩:=qQ hf ho;have hd:=hf.each j hj;refine⟨BY hf _ (.inr ⟨j,hj,?_,?_,?_⟩),?_,?_⟩
  ·simp only;rw[e1,e3]
  ·simp only;unfold DI;rw[e1,e2];split<;>omega
  ·simp only;unfold DI;rw[e1,e2];split<;>omega
  ·simp only[abN,adV,e2];omega
  ·have:=hd.1;unfold jc at this⊢;rw[aaP]at this⊢;intro x hx;simp only at hx;rw[e2]at hx;exact this x (abh (aaS hx))
 ·exact⟨hf,by simp,rfl⟩
def ry(f:bJ)(h:Int)(l:List Canon):Int:=if 64-(rq f h).offset<l.length then 64-(rq f h).offset else l.length
def lD(d l:List Canon)(o n:Nat):List Canon:=d.take o++l.take n++d.drop (o+n)
def oB(f:bJ)(h:Int)(l:List Canon):bJ×Int×Bool:=
 if s8 f h=true/\(rq f h).write=true/\jc l=true then
  (⟨f.data.set (rq f h).file.toNat (lD (GD f h) l (rq f h).offset.toNat (ry f h l).toNat),f.opens.set h.toNat ⟨(rq f h).file,(rq f h).offset+ry f h l,(rq f h).write⟩⟩,ry f h l,true)
 else(f,0,false)
def xd(h:o<=d.length)(hn:n<=l.length):(lD d l o n).length=if d.length<o+n then o+n else d.length:=by
 unfold lD;simp;split<;>omega
def RG(h:jc d=true)(hn:jc l=true):jc (lD d l o n)=true:=by
 unfold jc lD at*;rw[aaP]at h hn⊢;intro x hx;simp only[aew]at hx;rcases hx with(hx|hx)|hx
 ·exact h x (aaS hx)
 ·exact hn x (aaS hx)
 ·exact h x (abh hx)
def akk(h:jB f)(k:Nat)(hd:jc d=true)(h64:d.length<=64)(hl: ∀g:k<f.data.length,(f.data[k]).length<=d.length):jB ⟨f.data.set k d,f.opens⟩:=by
 refine⟨by simpa using h.data,fun i hi=> ?_,h.opens,fun i hi=> ?_⟩
 ·simp only[aaN]at hi;simp only[abk];split
  ·exact⟨hd,h64⟩
  ·exact h.each i hi
 ·rcases h.opn i hi with e|⟨j,hj,e1,e2,e3⟩
  ·exact .inl e
  ·refine .inr ⟨j,by simpa using hj,e1,e2,?_⟩;simp only[abk];split
   ·rename_i e;subst e;have:=hl hj;omega
   ·exact e3
def Wm(hf:jB f)(h:Int)(l:List Canon):jB (oB f h l).1:=by
 unfold oB;split
 ·rename_i hc;obtain⟨ho,hw,hl⟩:=hc;obtain⟨k,rfl,hk,j,hj,e1,e2,e3,e4,e5⟩:=qQ hf ho;have hd:=hf.each j hj;have hle:=xd (d:=f.data[j]) (l:=l) (o:=(f.opens[k]).offset.toNat) (n:=(ry f k l).toNat) (by omega) (by unfold ry;rw[e1];split<;>omega);have hn:0<=ry f k l/\ry f k l<=64-(f.opens[k]).offset:=by unfold ry;rw[e1];split<;>omega
  have hlen:(f.opens[k]).offset+ry f k l<=(lD (f.data[j]) l (f.opens[k]).offset.toNat (ry f k l).toNat).length:=by rw[hle];split<;>omega
  have Yn:(f.data[j]).length<=(lD (f.data[j]) l (f.opens[k]).offset.toNat (ry f k l).toNat).length:=by rw[hle];split<;>omega
  have azx:(lD (f.data[j]) l (f.opens[k]).offset.toNat (ry f k l).toNat).length<=64:=by rw[hle];split<;>omega
  rw[e1,e2,e3];have h1:=akk hf j (RG hd.1 hl) azx (fun _=>Yn);simp only[aaH];refine BY h1 _ (.inr ⟨j,by simpa using hj,rfl,by simp only;omega,?_⟩);simp only[abY];exact hlen
 ·exact hf
def JF(l:List Int)(n:Int):Int:=if(l.length:Int)<n then l.length else n
def pK(ins:List (List Int))(socket n:Int):List (List Int)×List Canon×Bool:=
 if socket<0\/(ins.length:Int)<=socket\/n<0 then(ins,[],false)
 else(ins.set socket.toNat ((ins.getD socket.toNat []).drop (JF (ins.getD socket.toNat []) n).toNat),((ins.getD socket.toNat []).take (JF (ins.getD socket.toNat []) n).toNat).map BU,true)
def C3(c:Canon):Prop:=0<=c.val/\c.val<=65535
def hX(l:List Canon):Prop:= ∀c∈l,C3 c
def hX.nil:hX []:=fun _ h=>by cases h
def hX.append(ha:hX a)(hb:hX b):hX (a++b):=fun c hc=>by
 rcases List.mem_append.1 hc with h|h
 ·exact ha c h
 ·exact hb c h
def hX.take{l:List Canon}(h:hX l)(n:Nat):hX (l.take n):=fun c hc=>h c (aaS hc)
def hX.drop{l:List Canon}(h:hX l)(n:Nat):hX (l.drop n):=fun c hc=>h c (abh hc)
def hX.as9{l:List Int}(h: ∀x∈l,0<=x/\x<=65535):hX (l.map BU):=fun c hc=>by
 obtain⟨x,hx,rfl⟩:=List.mem_map.1 hc;exact h x hx
def wx{x:Canon}(hx:C3 x):jd (raw aD key an x).1:=by
 unfold raw;split
 ·exact lX
 split
 ·exact⟨⟨by simp,by simp⟩,hx⟩
 split
 ·exact⟨⟨by simp,by simp⟩,qN _⟩
 ·exact⟨⟨by simp,by simp⟩,qN _⟩
def K2{c:Cell}(hc:jd c):C3 (canon aD key an c):=by
 unfold canon;split
 ·exact hc.2
 split
 ·exact qN _
 split
 ·exact⟨by simp,by simp⟩
 ·exact⟨by simp,by simp⟩
def pj(f:bJ):Prop:= ∀d∈f.data,hX d
def pj.at(h:pj f){i:Nat}(hi:i<f.data.length):hX f.data[i]:=h _ (aaL hi)
def pj.set{f:bJ}(h:pj f){d:List Canon}(hd:hX d)(k:Nat)(o:List fO):pj ⟨f.data.set k d,o⟩:=fun x hx=>by
 rcases aaX hx with hx|rfl
 ·exact h x hx
 ·exact hd
def akl(h:pj f)(file mode:Int):pj (pH f file mode).1:=by
 unfold pH;split
 ·exact h
 ·unfold xG;split
  ·exact h.set .nil _ _
  ·exact h
def adg(h:pj f)(k:Int):pj (sc f k).1:=by
 unfold sc;split
 ·exact h
 ·exact h
def akm(h:pj f)(k o:Int):pj (sK f k o).1:=by
 unfold sK;split
 ·split
  ·exact h
  ·exact h
 ·exact h
def akn(hf:jB f)(h:pj f)(k n:Int):pj (ph f k n).1/\hX (ph f k n).2.1:=by
 unfold ph;split
 ·rename_i hc;obtain⟨i,rfl,hi,j,hj,e1,e2,e3,e4,e5⟩:=qQ hf hc.1;refine⟨h,?_⟩;simp only;rw[e2];exact((h.at hj).drop _).take _
 ·exact⟨h,.nil⟩
def adh(hf:jB f)(h:pj f)(k:Int)(hl:hX l):pj (oB f k l).1:=by
 unfold oB;split
 ·rename_i hc;obtain⟨i,rfl,hi,j,hj,e1,e2,e3,e4,e5⟩:=qQ hf hc.1;refine h.set ?_ _ _;rw[e2];unfold lD;exact(((h.at hj).take _).append (hl.take _)).append ((h.at hj).drop _)
 ·exact h
def Wn(h:jB f)(k:Int):jB (sc f k).1:=by
 unfold sc;split
 ·exact BY h _ (.inl ⟨rfl,rfl,rfl⟩)
 ·exact h
structure azy (o:cS):Prop where
 input: ∀d∈o.dp,∀x∈d,0<=x/\x<=65535
 files:pj o.files
def adi{ins:List (List Int)}(h1:ins.length<=2)(h2: ∀i (h:i<ins.length),(ins[i]).length<=64)(h3: ∀d∈ins,∀x∈d,0<=x/\x<=65535)(s n:Int):
  (pK ins s n).1.length<=2/\(∀i (h:i<(pK ins s n).1.length),((pK ins s n).1[i]).length<=64)/\(∀d∈ (pK ins s n).1,∀x∈d,0<=x/\x<=65535)/\hX (pK ins s n).2.1/\(pK ins s n).2.1.length<=64:=by
 unfold pK;split
 ·exact⟨h1,h2,h3,.nil,by simp⟩
 ·rename_i hc;have hk:s.toNat<ins.length:=by omega
  have e:ins.getD s.toNat []=ins[s.toNat]:=by simp[List.getD,hk]
  have hl:=h2 _ hk;have hx:=h3 _ (aaL hk);rw[e];refine⟨by simpa using h1,fun i h=> ?_,fun d hd=> ?_,hX.as9 fun x Hy=>hx x (aaS Hy),by simp;omega⟩
  ·simp only[aaN]at h;simp only[abk];split
   ·simp;omega
   ·exact h2 i h
  ·rcases aaX hd with hd|rfl
   ·exact h3 d hd
   ·exact fun x Hy=>hx x (abh Hy)
def kY(n:Int)(ok:Bool):lL:=⟨⟨0,if ok=true then IntKind.u16.wrap n else 65535,0,0⟩,[], -1,false⟩
def K3(n:Int)(ok:Bool):C3 (kY n ok).value:=by
 unfold kY;simp only;split
 ·exact qN _
 ·exact⟨by simp,by simp⟩
def kT:cS:=⟨[],[],[],⟨[],[]⟩,[]⟩
def mn:lL:=⟨⟨0,0,0,0⟩,[],0,false⟩
def eY(r:Request)(i:Nat):Int:=(r.args.getD i ⟨0,0,0,0⟩).val
def Ao(l:List Output)(socket:Int)(data:List Canon):List Output:=if rR l socket data=true then l++ [⟨l.length,socket,data⟩] else l
def azz(l:List Output)(socket:Int)(data:List Canon):Int:=if rR l socket data=true then(data.length:Int) else 0
def qV(o:cS)(r:Request):cS×lL:=
 if r.call=1 then(⟨o.clock,o.random,o.dp,(oB o.files (eY r 0) r.data).1,o.dG⟩,kY (oB o.files (eY r 0) r.data).2.1 (oB o.files (eY r 0) r.data).2.2)
 else if r.call=2 then(⟨o.clock,o.random,o.dp,(ph o.files (eY r 0) (eY r 2)).1,o.dG⟩,
  ⟨(kY (ph o.files (eY r 0) (eY r 2)).2.1.length (ph o.files (eY r 0) (eY r 2)).2.2).value,(ph o.files (eY r 0) (eY r 2)).2.1, -1,false⟩)
 else if r.call=3 then(⟨o.clock,o.random,o.dp,(pH o.files (eY r 0) (eY r 1)).1,o.dG⟩,
  if 0<=(pH o.files (eY r 0) (eY r 1)).2 then⟨⟨2,IntKind.u16.wrap (pH o.files (eY r 0) (eY r 1)).2,0,0⟩,[], -1,false⟩ else kY 0 false)
 else if r.call=4 then(⟨o.clock,o.random,o.dp,(sc o.files (eY r 0)).1,o.dG⟩,kY 0 (sc o.files (eY r 0)).2)
 else if r.call=5 then(⟨o.clock,o.random,o.dp,(sK o.files (eY r 0) (eY r 1)).1,o.dG⟩,kY 0 (sK o.files (eY r 0) (eY r 1)).2)
 else if r.call=6 then(⟨o.clock.drop 1,o.random,o.dp,o.files,o.dG⟩,match o.clock with| []=>kY 0 false|x::_=>kY x true)
 else if r.call=7 then(⟨o.clock,o.random.drop 1,o.dp,o.files,o.dG⟩,match o.random with| []=>kY 0 false|x::_=>kY x true)
 else if r.call=13 then(⟨o.clock,o.random,o.dp,o.files,Ao o.dG (eY r 0) r.data⟩,kY (azz o.dG (eY r 0) r.data) (rR o.dG (eY r 0) r.data))
 else(⟨o.clock,o.random,(pK o.dp (eY r 0) (eY r 2)).1,o.files,o.dG⟩,
  ⟨(kY (pK o.dp (eY r 0) (eY r 2)).2.1.length (pK o.dp (eY r 0) (eY r 2)).2.2).value,(pK o.dp (eY r 0) (eY r 2)).2.1, -1,false⟩)
structure xT (x:lL):Prop where
 value:C3 x.value
 data:hX x.data
 len:x.data.length<=64
def j9(n:Int)(ok:Bool):xT (kY n ok):=⟨K3 n ok,.nil,by simp[kY]⟩
def tJ:xT mn:=⟨⟨by simp[mn],by simp[mn]⟩,.nil,by simp[mn]⟩
structure nz (o:cS):Prop where
 p:wm o
 r:azy o
def uo(o:cS):Prop:=nz o\/o=kT
def nz.files{o:cS}(h:nz o)(hp:jB f)(hr:pj f):nz ⟨o.clock,o.random,o.dp,f,o.dG⟩:=
 ⟨⟨h.p.clock,h.p.random,h.p.dp,h.p.input,hp,h.p.dG,h.p.output⟩,h.r.input,hr⟩
def adj{l:List Output}(h1:l.length<=200)(h2: ∀i (h:i<l.length),(l[i]).seq=i/\0<=(l[i]).socket/\(l[i]).socket<2/\(l[i]).data.length<=16/\jc (l[i]).data=true)(s:Int)(hd:jc d=true):
  (Ao l s d).length<=200/\ ∀i (h:i<(Ao l s d).length),((Ao l s d)[i]).seq=i/\0<=((Ao l s d)[i]).socket/\((Ao l s d)[i]).socket<2/\((Ao l s d)[i]).data.length<=16/\jc ((Ao l s d)[i]).data=true:=by
 by_cases hb:rR l s d=true
 case neg=>
  have e:Ao l s d=l:=if_neg hb;rw[e];exact⟨h1,h2⟩
 have e:Ao l s d=l++ [⟨l.length,s,d⟩]:=if_pos hb;rw[e];unfold rR at hb;simp only[aaF,decide_eq_true_eq]at hb;obtain⟨b1,b2,b3,b4⟩:=hb;refine⟨by simp;omega,fun i h=> ?_⟩;by_cases hi:i<l.length
 ·rw[acP hi];exact h2 i hi
 ·simp only[aaY,abJ,acM]at h;have:i=l.length:=by omega
  subst this;simp only[List.getElem_concat_length];exact⟨trivial,b1,b2,b4,hd⟩
def xe{o:cS}(h:nz o)(hd:jc r.data=true)(hv:hX r.data):nz (qV o r).1/\xT (qV o r).2:=by
 have hf:=h.p.files;have hr:=h.r.files;unfold qV;refine qz (P:=fun q:cS×lL=>nz q.1/\xT q.2) (fun _=> ?_) fun _=> ?_
 ·exact⟨h.files (Wm hf _ _) (adh hf hr _ hv),j9 _ _⟩
 refine qz (P:=fun q:cS×lL=>nz q.1/\xT q.2) (fun _=> ?_) fun _=> ?_
 ·have h1:=adf hf (eY r 0) (eY r 2);have h2:=akn hf hr (eY r 0) (eY r 2);exact⟨h.files h1.1 h2.1,K3 _ _,h2.2,h1.2.1⟩
 refine qz (P:=fun q:cS×lL=>nz q.1/\xT q.2) (fun _=> ?_) fun _=> ?_
 ·refine⟨h.files (adb hf _ _).1 (akl hr _ _),?_⟩;simp only;split
  ·exact⟨qN _,.nil,by simp⟩
  ·exact j9 _ _
 refine qz (P:=fun q:cS×lL=>nz q.1/\xT q.2) (fun _=> ?_) fun _=> ?_
 ·exact⟨h.files (Wn hf _) (adg hr _),j9 _ _⟩
 refine qz (P:=fun q:cS×lL=>nz q.1/\xT q.2) (fun _=> ?_) fun _=> ?_
 ·exact⟨h.files (ade hf _ _) (akm hr _ _),j9 _ _⟩
 refine qz (P:=fun q:cS×lL=>nz q.1/\xT q.2) (fun _=> ?_) fun _=> ?_
 ·refine⟨⟨⟨by have:=h.p.clock;simp;omega,h.p.random,h.p.dp,h.p.input,hf,h.p.dG,h.p.output⟩,h.r.input,hr⟩,?_⟩;simp only;split
  ·exact j9 _ _
  ·exact j9 _ _
 refine qz (P:=fun q:cS×lL=>nz q.1/\xT q.2) (fun _=> ?_) fun _=> ?_
 ·refine⟨⟨⟨h.p.clock,by have:=h.p.random;simp;omega,h.p.dp,h.p.input,hf,h.p.dG,h.p.output⟩,h.r.input,hr⟩,?_⟩;simp only;split
  ·exact j9 _ _
  ·exact j9 _ _
 refine qz (P:=fun q:cS×lL=>nz q.1/\xT q.2) (fun _=> ?_) fun _=> ?_
 ·have hs:=adj h.p.dG h.p.output (eY r 0) hd;exact⟨⟨⟨h.p.clock,h.p.random,h.p.dp,h.p.input,hf,hs.1,hs.2⟩,h.r.input,hr⟩,j9 _ _⟩
 ·obtain⟨a1,a2,a3,a4,a5⟩:=adi h.p.dp h.p.input h.r.input (eY r 0) (eY r 2);exact⟨⟨⟨h.p.clock,h.p.random,a1,a2,hf,h.p.dG,h.p.output⟩,a3,hr⟩,K3 _ _,a4,a5⟩
def doB(r:Request):Bool:=lh r&& (decide (r.stop=1)&& (decide ((1<=r.call/\r.call<=7)\/r.call=13\/r.call=14)&& (iH (de r.call) (r.args.map (·.tag))&&decide (¬(mC r.call=2/\16<eY r 2)))))
def JG(h:lh r=true):jc r.data=true/\r.data.length<=16:=by
 unfold lh at h;simp only[aaF,decide_eq_true_eq]at h;obtain⟨_,_,_,_,_,_,_,_,_,_,_,_,_,_,h1,h2⟩:=h;exact⟨h1,h2⟩
def NR{l:bX}(h:jR l)(k t:Int): -1<=(fY l k t).2.1/\(fY l k t).2.1<4:=(GC h k t).2
end Go.Proofs.YtdngefmliibcgaaGreat
