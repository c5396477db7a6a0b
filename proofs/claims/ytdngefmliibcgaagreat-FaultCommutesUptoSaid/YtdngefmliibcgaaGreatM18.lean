/- Part of a proof: S11. -/
import Derived.Test.YtdngefmliibcgaaGreatM17
set_option linter.all false
set_option maxRecDepth 20000
set_option maxHeartbeats 20000000
namespace Go.Proofs.YtdngefmliibcgaaGreat
open Go Go.Abs Go.Abs.kX Qf
variable  {k i:Nat}{q z:List Int}{l:bX}{t n:Int}
def F9(x:Thread):Bool:=decide (x.state=1)&& (decide (¬x.cn= -1)&&decide (x.saved= -1))
def sE(x:lL):Bool:=lK x.value&& (jc x.data&& (decide (x.data.length<=16)&& (decide (-1<=x.spawn)&&decide (x.spawn<4))))
@[simp]def yI(aa:List Int)(aq:Int)(ak:List Cell)(ah:List cy)(au:List Thread)(t:Int)(ht:0<=t/\t<au.length)(hl:au.length=4):bW X 137 [KKY aa aq ak ah au,.int .i64 t]=some (.bool (F9 (au.getD t.toNat cw))):=by
 refine aaA ?_;obtain⟨k,rfl⟩:=aaG ht.1;have hk:k<au.length:=by omega
 have hk4:k<4:=by omega
 have xS: ¬(4:Int)<=k:=by omega
 have asv:(k:Int)<4:=by omega
 have hk0: ¬(k:Int)<0:=by omega
 have hx:au.getD (k:Int).toNat cw=au[k]:=by simp[List.getD,hk]
 rw[hx];by_cases h1:(au[k]).state=1
 ·have uE:=eq_true h1;by_cases h2:(au[k]).cn= -1
  ·have OT:=eq_true h2;simp[hk4,xS,asv,hk0,hl,uE,OT,F9]
  ·simp[hk4,xS,asv,hk0,hl,uE,h2,F9]
 ·simp[hk4,xS,asv,hk0,hl,h1,F9]
@[simp]def ag1(bO bP bA bB:Int)(cO:List Canon)(cW:Int)(gV:Bool)(hm:cO.length<=1000000000):bW X 191 [KKb bO bP bA bB cO cW gV]=some (.bool (sE (lL.mk (Canon.mk bO bP bA bB) cO cW gV))):=by
 refine aaA ?_;cases h1:lK (lL.mk (Canon.mk bO bP bA bB) cO cW gV).value
 case false=>simp[h1,sE]
 cases h2:jc cO
 case false=>simp[h1,h2,hm,sE]
 by_cases h3:(cO.length:Int)<=16
 case neg=>
  have Tp: ¬cO.length<=16:=by omega
  simp[h1,h2,h3,Tp,hm,sE]
 have Tp:cO.length<=16:=by omega
 by_cases h4: -1<=cW
 ·simp[h1,h2,h3,Tp,h4,hm,sE]
 ·simp[h1,h2,h3,Tp,h4,hm,sE]
def rm(s:State)(k:Nat):List (List Canon):=s.regions++(s.threads.take k).map (·.bz)
def V7{s:State}(h:k<s.threads.length):rm s (k+1)=rm s k++ [(s.threads[k]).bz]:=by
 unfold rm;rw[fD h,abH,<-List.append_assoc];rfl
def Ga(s:State)(h:k<=s.threads.length):(rm s k).length=s.regions.length+k:=by
 unfold rm;simp;omega
@[simp]def ag2(bF:List (List Canon))(ba:List View)(h1:bF.length<=1000000000)(h2:ba.length<=1000000000):bW X 174 [KKw bF ba]=some (.sl false ((rm (State.mk bF ba) ba.length).map bw)):=by
 refine aaA ?_;simp[];refine⟨by omega,fun _ _=> ?_⟩;refine cZ (fun i S=>(S.f 3= .cu 3 0 (((rm (State.mk bF ba) i).map bw)).length/\S.h 3=some ⟨1,((rm (State.mk bF ba) i).map bw),false⟩/\S.f 10=ba/\S.f 11=((ba).length:Int)/\S.f 12=(i:Int)/\S.n=1100)/\True) (ba.length) (by omega) ?_ ?_ ?_
 ·rintro i S ⟨pq,ie,bL⟩ ⟨df,fp⟩;have hu:=V7 (s:=(State.mk bF ba)) bL;have hlen:=Ga (State.mk bF ba) (k:=i) (by simp only;omega);simp only at hu hlen;simp[df,ie,bL,hu];all_goals ((repeat' (first|apply And.intro|intro _))<;>first|omega|rfl)
 ·rintro S ⟨df,fp⟩;simp[df]
 ·simp[]<;>(
   simp[rm])
structure DE (v:View):Prop where
 state:0<=v.state/\v.state<=4
 pc:0<=v.pc/\v.pc<=255
 count:0<=v.count/\v.count<=1099511627776
 cn: -1<=v.cn/\v.cn<=255
 saved: -1<=v.saved/\v.saved<=255
 dn:0<=v.dn/\v.dn<=6
 bz:v.bz.length=8
 azk:jc v.bz=true
structure Ru (p:Prog) (s:State):Prop where
 regions:s.regions.length=p.an.length
 region: ∀i (h:i<s.regions.length) (h':i<p.an.length),((s.regions[i]).length:Int)=p.an[i]/\jc s.regions[i]=true
 threads:s.threads.length=4
 view: ∀i (h:i<s.threads.length),DE s.threads[i]
@[simp]def XJ(l:List View)(hl:l.length=4)(hv: ∀i (h:i<l.length),DE l[i]):bW X 241 [l]=some (.bool true):=by
 refine aaA ?_;simp[];refine cZ (fun i S=>(S.f 0=l/\S.f 6=l/\S.f 7=((l).length:Int)/\S.f 8=(i:Int)/\S.n=1100)/\True) (l.length) (by omega) ?_ ?_ ?_
 ·rintro i S ⟨pq,ie,bL⟩ ⟨df,fp⟩;obtain⟨⟨a1,a2⟩,⟨b1,b2⟩,⟨c1,c2⟩,⟨d1,d2⟩,⟨e1,e2⟩,⟨f1,f2⟩,g1,g2⟩:=hv i bL;have g3:(l[i]).bz.length<=1000000000:=by omega
  simp[df,ie,bL,a1,a2,b1,b2,c1,c2,d1,d2,e1,e2,f1,f2,g1,g2]
 ·rintro S ⟨df,fp⟩;simp[df]<;>(
   omega)
 ·simp[]<;>(
   trivial)
@[simp]def ag3(ax:List Instr)(ae:List Int)(ay:List (List Int))(bF:List (List Canon))(ba:List View)(hp:rn (Prog.mk ax ae ay))(hs:Ru (Prog.mk ax ae ay) (State.mk bF ba)):bW X 173 [KKQ ax ae ay,KKw bF ba]=some (.bool true):=by
 refine aaA ?_;have hz:oO ae:=hp.an;have z4:=hz.le;have hlen:ay.length=ae.length:=hp.len;have sw:jq (Prog.mk ax ae ay)=0:=zH hp;have XK:ax.length<=64:=hp.rp;have b1:ae.length<=1000000000:=by omega
 have b2:ay.length<=1000000000:=by omega
 have b3:ax.length<=1000000000:=by omega
 have r1:bF.length=ae.length:=hs.regions;have r2:=hs.region;have r3:ba.length=4:=hs.threads;have r4:=hs.view;simp only at r2 r4;have r1i:(bF.length:Int)=ae.length:=by omega
 simp[sw,b1,b2,b3,r1i,r3,r4];refine cZ (fun i S=>(S.f 2= .ptr 2 0 0/\S.h 2=some ⟨3,[KKQ ax ae ay],true⟩/\S.f 26=bF/\S.f 27=((bF).length:Int)/\S.f 28=(i:Int)/\S.n=1100)/\True) (bF.length) (by omega) ?_ ?_ ?_
 ·rintro i S ⟨pq,ie,bL⟩ ⟨df,fp⟩;have q1:i<ae.length:=by omega
  obtain⟨q2,q3⟩:=r2 i bL q1;have q4:=hz.elem i q1;have q5:(bF[i]).length<=1000000000:=by omega
  have q6:((bF[i]).length:Int)<=32:=by omega
  simp[df,ie,bL,q1,q2,q3,q5,q4];try omega
 ·rintro S ⟨df,fp⟩;simp[df]
 ·simp[]<;>(
   first|trivial|omega|(constructor<;>first|omega|trivial))
@[simp]def avt(s:List Thread)(hm:s.length<=1000000000)(hx: ∀i (h:i<s.length),(s[i]).bz.length<=1000000000):bW X 219 [s,.fn 148 [] []]=some (.int .i64 (yz ox s)):=by
 refine aaA ?_;simp[];refine cZ (fun i S=>(S.f 0=s/\S.f 1= .fn 148 [] []/\S.f 7=((s).length:Int)/\S.f 8=(i:Int)/\S.n=1100)/\(nv (s.take i)=true)) (s.length) (by omega) ?_ ?_ ?_
 ·rintro i S ⟨pq,ie,bL⟩ ⟨df,fp⟩;have g:=hx i bL;have up:=DD bL;rw[fp]at up;cases h:ox s[i] with
  |false=>
   have e:=yA bL fp h;simp[df,bL,g,h,e]
  |true=>
   rw[h]at up;simp[df,ie,bL,g,h,up]
 ·rintro S ⟨df,fp⟩;simp[df]<;>(
   rw[BS]at fp;exact(wg fp).symm)
 ·simp[]<;>(
   rfl)
@[simp]def avu(s:List Thread)(hm:s.length<=1000000000)(hx: ∀i (h:i<s.length),(s[i]).bz.length<=1000000000):bW X 147 [s,.fn 148 [] []]=some (.bool (!nv s)):=by
 refine aaA ?_;simp[hm,hx,we,nv]
@[simp]def akc(ax:List Instr)(ae:List Int)(ay:List (List Int))(aa:List Int)(aq:Int)(ak:List Cell)(ah:List cy)(au:List Thread)(hp:BR (Prog.mk ax ae ay))(hm:zG (aO.mk (Layout.mk aa aq) (aF.mk ak ah) au)):bW X 72 [KKQ ax ae ay,KKY aa aq ak ah au]=some (.bool (jU (Prog.mk ax ae ay) (aO.mk (Layout.mk aa aq) (aF.mk ak ah) au))):=by
 refine aaA ?_;have FJ:ae.length<=1000000000:=hp.an;have Dr:ay.length<=1000000000:=hp.data;have XG:ax.length<=1000000000:=hp.code;have sT:aa.length<=1000000000:=hm.aD;have vW:ak.length<=1000000000:=hm.cells;have Td:ah.length<=1000000000:=hm.lines;have O3: ∀i (h:i<ah.length),(ah[i]).cells.length<=1000000000:=hm.line;have hm5:au.length<=1000000000:=hm.threads;have hm6: ∀i (h:i<au.length),(au[i]).bz.length<=1000000000:=hm.bz;by_cases c1:jq (Prog.mk ax ae ay)=0
 case neg=>
  simp[FJ,Dr,XG,c1,jU]
 cases c2:iX aa ae
 case false=>
  simp[FJ,Dr,XG,sT,c1,c2,jU]
 cases c3:wX ⟨ak,ah⟩
 case false=>
  simp[FJ,Dr,XG,sT,vW,Td,O3,c1,c2,c3,jU]
 by_cases c4i:(au.length:Int)=4
 case neg=>
  have c4: ¬au.length=4:=by omega
  simp[FJ,Dr,XG,sT,vW,Td,O3,c1,c2,c3,c4i,c4,jU]
 have c4:au.length=4:=by omega
 cases c5:nv au
 case false=>
  simp[FJ,Dr,XG,sT,vW,Td,O3,hm6,c1,c2,c3,c4,c5,jU]
 simp[FJ,Dr,XG,sT,vW,Td,O3,hm6,c1,c2,c3,c4,c5,jU]
@[simp]def avv(s:List Canon)(hm:s.length<=1000000000):bW X 287 [s,.fn 258 [] []]=some (.int .i64 (yz lK s)):=by
 refine aaA ?_;simp[];refine cZ (fun i S=>(S.f 0=s/\S.f 1= .fn 258 [] []/\S.f 7=((s).length:Int)/\S.f 8=(i:Int)/\S.n=1100)/\(jc (s.take i)=true)) (s.length) (by omega) ?_ ?_ ?_
 ·rintro i S ⟨pq,ie,bL⟩ ⟨df,fp⟩;have up:=Ny bL;rw[fp]at up;cases h:lK s[i] with
  |false=>
   have e:=yA bL fp h;simp[df,bL,h,e]
  |true=>
   rw[h]at up;simp[df,ie,bL,h,up]
 ·rintro S ⟨df,fp⟩;simp[df]<;>(
   rw[Jw]at fp;exact(wg fp).symm)
 ·simp[]<;>(
   rfl)
@[simp]def avw(s:List Canon)(hm:s.length<=1000000000):bW X 257 [s,.fn 258 [] []]=some (.bool (!jc s)):=by
 refine aaA ?_;simp[hm,we,jc]
@[simp]def XM(l:List Canon)(jf:Int)(hm:l.length<=1000000000):bW X 213 [l,jf]=some (.bool (jc l&&decide ((l.length:Int)<=jf))):=by
 refine aaA ?_;by_cases h:(l.length:Int)<=jf
 ·cases c:jc l<;>simp[hm,h,c]
 ·simp[h]
@[simp]def Tu(v from_ to:Int):bW X 212 [v,from_,to]=some (.bool (decide (from_<=v)&&decide (v<=to))):=by
 refine aaA ?_;simp[];by_cases h:from_<=v<;>simp[h];omega
@[simp]def XN(dg di cY cD gS cp:Int)(bf bT:List Canon)(h1:bf.length<=1000000000)(h2:bT.length<=1000000000):bW X 141 [KKZ dg di cY cD gS cp bf bT]=some (.bool (lh (Request.mk dg di cY cD gS cp bf bT))):=by
 refine aaA ?_;have pn:(dg<4)=(dg<=3):=by apply propext;omega
 by_cases c1:0<=dg
 case neg=>simp[pn,c1,lh]
 by_cases c2:dg<=3
 case neg=>simp[pn,c1,c2,lh]
 by_cases c3:0<=di
 case neg=>simp[pn,c1,c2,c3,lh]
 by_cases c4:di<=3
 case neg=>simp[pn,c1,c2,c3,c4,lh]
 by_cases c5:0<=cY
 case neg=>simp[pn,c1,c2,c3,c4,c5,lh]
 by_cases c6:cY<=6
 case neg=>simp[pn,c1,c2,c3,c4,c5,c6,lh]
 by_cases c7:0<=cD
 case neg=>simp[pn,c1,c2,c3,c4,c5,c6,c7,lh]
 by_cases c8:cD<=1099511627776
 case neg=>simp[pn,c1,c2,c3,c4,c5,c6,c7,c8,lh]
 by_cases c9:0<=gS
 case neg=>simp[pn,c1,c2,c3,c4,c5,c6,c7,c8,c9,lh]
 by_cases CO:gS<=255
 case neg=>simp[pn,c1,c2,c3,c4,c5,c6,c7,c8,c9,CO,lh]
 by_cases KV:0<=cp
 case neg=>simp[pn,c1,c2,c3,c4,c5,c6,c7,c8,c9,CO,KV,lh]
 by_cases Hu:cp<=15
 case neg=>simp[pn,c1,c2,c3,c4,c5,c6,c7,c8,c9,CO,KV,Hu,lh]
 cases c13:jc bf
 case false=>simp[pn,c1,c2,c3,c4,c5,c6,c7,c8,c9,CO,KV,Hu,c13,h1,lh]
 by_cases Nz:(bf.length:Int)<=3
 case neg=>
  have c14: ¬bf.length<=3:=by omega
  simp[pn,c1,c2,c3,c4,c5,c6,c7,c8,c9,CO,KV,Hu,c13,Nz,c14,h1,lh]
 have c14:bf.length<=3:=by omega
 cases c15:jc bT
 case false=>simp[pn,c1,c2,c3,c4,c5,c6,c7,c8,c9,CO,KV,Hu,c13,Nz,c14,c15,h1,h2,lh]
 by_cases azn:(bT.length:Int)<=16
 case neg=>
  have c16: ¬bT.length<=16:=by omega
  simp[pn,c1,c2,c3,c4,c5,c6,c7,c8,c9,CO,KV,Hu,c13,Nz,c14,c15,azn,c16,h1,h2,lh]
 have c16:bT.length<=16:=by omega
 simp[pn,c1,c2,c3,c4,c5,c6,c7,c8,c9,CO,KV,Hu,c13,Nz,c14,c15,azn,c16,h1,h2,lh]
@[simp]def AT(s1 s2:List Canon)(hm:s1.length<=1000000000):bW X 184 [s1,s2]=some (.bool (decide (s1=s2))):=by
 refine aaA ?_;by_cases e0:(s1.length:Int)=s2.length
 case neg=>
  have n: ¬s1=s2:=fun e=>e0 (by rw[e]);simp[e0,n]
 have e1:s1.length=s2.length:=by omega
 simp[e0];refine cZ (fun i S=>(S.f 0=s1/\S.f 1=s2/\S.f 12=((s1).length:Int)/\S.f 13=(i:Int)/\S.n=1100)/\(s1.take i=s2.take i)) (s1.length) (by omega) ?_ ?_ ?_
 ·rintro i S ⟨pq,ie,bL⟩ ⟨df,fp⟩;have g1:i<s2.length:=by omega
  by_cases q:s1[i]=s2[i]
  ·have:=BD bL g1 fp q;simp[df,ie,bL,g1,q,this]
  ·have: ¬s1=s2:=fun h=>q (by subst h;rfl);simp[df,ie,bL, -Canon.mk.injEq,g1,this];intro a1 a2 a3 a4;exact absurd ((Canon.eq_iff _ _).2 ⟨a1,a2,a3,a4⟩) q
 ·rintro S ⟨df,fp⟩;simp[df]<;>(
   exact yw (i:=s1.length) (by omega) e1 fp)
 ·simp[]<;>(
   first|rfl|omega|exact⟨by omega,rfl⟩)
@[simp]def bH(yK Ge yx uN Ng Gh:Int)(CT CU:List Canon)(yL Gi yy uO Nh Gj:Int)(CV CW:List Canon)(h1:CT.length<=1000000000)(h2:CU.length<=1000000000):bW X 112 [KKZ yK Ge yx uN Ng Gh CT CU,KKZ yL Gi yy uO Nh Gj CV CW]=some (.bool (decide ((Request.mk yK Ge yx uN Ng Gh CT CU)=(Request.mk yL Gi yy uO Nh Gj CV CW)))):=by
 refine aaA ?_;have key:((Request.mk yK Ge yx uN Ng Gh CT CU)=(Request.mk yL Gi yy uO Nh Gj CV CW))↔(yK=yL/\Ge=Gi/\yx=yy/\uN=uO/\Ng=Nh/\Gh=Gj/\CT=CV/\CU=CW):=by simp
 by_cases c1:yK=yL
 case neg=>simp[c1]
 by_cases c2:Ge=Gi
 case neg=>simp[c1,c2]
 by_cases c3:yx=yy
 case neg=>simp[c1,c2,c3]
 by_cases c4:uN=uO
 case neg=>simp[c1,c2,c3,c4]
 by_cases c5:Ng=Nh
 case neg=>simp[c1,c2,c3,c4,c5]
 by_cases c6:Gh=Gj
 case neg=>simp[c1,c2,c3,c4,c5,c6]
 by_cases c7:CT=CV
 case neg=>simp[c1,c2,c3,c4,c5,c6,c7,h1]
 have h1b:CV.length<=1000000000:=c7▸h1;by_cases c8:CU=CW
 case neg=>simp[c1,c2,c3,c4,c5,c6,c7,c8,h1b,h2]
 have h2b:CW.length<=1000000000:=c8▸h2;simp[c1,c2,c3,c4,c5,c6,c7,c8,h1b,h2b]
@[simp]def azv(hx:bh)(l:List Int):cF (l.map (cx hx 12∘V.int .i64))=some (l.map (V.int .i64)):=qi (fun _=>rfl) l
def GB(l:List Int):eV (l.map (V.int .i64))=l.map (V.int .i64):=qK (fun _=>rfl) l
def ac6(x:List Int)(n:Nat)(v:V):(dc x).put n v=v:=rfl
def NO: ∀(S l:List Int),l.Nodup->(∀x∈l,x∈S)->l.length<=S.length
 |S,[],_,_=>by simp
 |S,a::l,h,hs=>by
  have hn:=List.nodup_cons.1 h;have ha:=hs a (by simp);have:=NO (S.erase a) l hn.2 fun x hx=>by
   have hxa:x≠a:=fun e=>hn.1 (e▸hx);exact(List.mem_erase_of_ne hxa).2 (hs x (by simp[hx]))
  rw[List.length_erase_of_mem ha]at this;have:0<S.length:=List.length_pos_of_mem ha;simp only[abJ];omega
structure C1 (q:List Int):Prop where
 nodup:q.Nodup
 range: ∀x∈q,0<=x/\x<4
def C1.len(h:C1 q):q.length<=4:=NO [0,1,2,3] q h.nodup fun x hx=>by
 have:=h.range x hx;have:x=0\/x=1\/x=2\/x=3:=by omega
 simpa using this
structure jR (l:bX):Prop where
 AZ:l.owner.length=4
 A0:l.queue.length=4
 owner: ∀i (h:i<l.owner.length), -1<=l.owner[i]/\l.owner[i]<4
 queue: ∀i (h:i<l.queue.length),C1 l.queue[i]
def jR.lens(h:jR l):l.owner.length<=1000000000/\ ∀i (g:i<l.queue.length),(l.queue[i]).length<=1000000000:=
 ⟨by rw[h.AZ];omega,fun i g=>by have:=(h.queue i g).len;omega⟩
def jR.set{l:bX}(h:jR l){k:Nat}{o:Int}(ho: -1<=o/\o<4){q:List Int}(hq:C1 q):jR ⟨l.owner.set k o,l.queue.set k q⟩:=by
 refine⟨by simp[h.AZ],by simp[h.A0],fun i g=> ?_,fun i g=> ?_⟩
 ·simp only[aaN]at g;simp only[abk];split
  ·exact ho
  ·exact h.owner i g
 ·simp only[aaN]at g;simp only[abk];split
  ·exact hq
  ·exact h.queue i g
def fY(l:bX)(lock t:Int):bX×Int×Bool:=
 if lock<0\/4<=lock\/ ¬nth l.owner lock.toNat=t then(l, -1,false)
 else match l.queue.getD lock.toNat [] with
  | []=>(⟨l.owner.set lock.toNat (-1),l.queue⟩, -1,true)
  |x::r=>(⟨l.owner.set lock.toNat x,l.queue.set lock.toNat r⟩,x,true)
def GC(h:jR l)(lock t:Int):jR (fY l lock t).1/\ -1<=(fY l lock t).2.1/\(fY l lock t).2.1<4:=by
 unfold fY;split
 ·exact⟨h,by simp⟩
 ·rename_i hc;have hk:lock.toNat<l.queue.length:=by have:=h.A0;omega
  have hq:=h.queue _ hk;have e:l.queue.getD lock.toNat []=l.queue[lock.toNat]:=by simp[List.getD,hk]
  rw[e];split
  ·rename_i e2;have:=h.set (k:=lock.toNat) (o:= -1) (by omega) hq;rw[abO]at this;exact⟨this,by simp⟩
  ·rename_i x r e2;rw[e2]at hq;have hx:=hq.range x (by simp);exact⟨h.set (by omega) ⟨(List.nodup_cons.1 hq.nodup).2,fun y hy=>hq.range y (by simp[hy])⟩,by simp only;omega⟩
def wv(l:bX)(t:Int):Bool:=l.queue.any fun q=>q.contains t
def qm(l:bX)(lock t:Int):bX×Int:=
 if lock<0\/4<=lock\/nth l.owner lock.toNat=t then(l,2)
 else if wv l t=true then(l,2)
 else if nth l.owner lock.toNat= -1 then(⟨l.owner.set lock.toNat t,l.queue⟩,0)
 else(⟨l.owner,l.queue.set lock.toNat (l.queue.getD lock.toNat []++ [t])⟩,1)
def ac7(h:jR l)(lock:Int)(ht:0<=t/\t<4):jR (qm l lock t).1:=by
 unfold qm;split
 ·exact h
 rename_i hc;have hk:lock.toNat<l.queue.length:=by have:=h.A0;omega
 have xX:lock.toNat<l.owner.length:=by have:=h.AZ;omega
 have hq:=h.queue _ hk;split
 ·exact h
 rename_i hn;split
 ·have:=h.set (k:=lock.toNat) (o:=t) (by omega) hq;rw[abO]at this;exact this
 ·have e:l.queue.getD lock.toNat []=l.queue[lock.toNat]:=by simp[List.getD,hk]
  rw[e];have Ho:t∉l.queue[lock.toNat]:=fun hm=>hn (by
   unfold wv;rw[aeN];exact⟨_,aaL hk,by simpa using hm⟩)
  have:=h.set (k:=lock.toNat) (h.owner _ xX) (q:=l.queue[lock.toNat]++ [t]) ⟨by
   rw[List.nodup_append];refine⟨hq.nodup,by simp,fun a ha b hb=> ?_⟩;simp only[adL]at hb;subst hb;exact fun e=>Ho (e▸ha),fun x hx=>by
   rcases List.mem_append.1 hx with hx|hx
   ·exact hq.range x hx
   ·simp only[adL]at hx;subst hx;exact ht⟩
  rw[abO]at this;exact this
def qP(q:List Int)(t:Int):List Int:=q.filter fun x=>decide (¬x=t)
def Wi(h:i<q.length)(hx: ¬q[i]=t):qP (q.take (i+1)) t=qP (q.take i) t++ [q[i]]:=by
 unfold qP;rw[fD h,adK];simp[hx]
def ac8(h:i<q.length)(hx:q[i]=t):qP (q.take (i+1)) t=qP (q.take i) t:=by
 unfold qP;rw[fD h,adK];simp[hx]
def Wj(q:List Int)(t:Int):(qP q t).length<=q.length:=List.length_filter_le ..
def ac9(h:C1 q)(t:Int):C1 (qP q t):=⟨h.nodup.sublist List.filter_sublist,fun x hx=>h.range x (List.mem_filter.1 hx).1⟩
def iK(l:bX)(t:Int):Nat->bX×List Int
 |0=>(⟨l.owner,l.queue.map fun q=>qP q t⟩,[])
 |i+1=>((fY (iK l t i).1 i t).1,if(fY (iK l t i).1 i t).2.2=true/\0<=(fY (iK l t i).1 i t).2.1 then(iK l t i).2++ [(fY (iK l t i).1 i t).2.1] else(iK l t i).2)
def C2{l:bX}(h:jR l)(t:Int): ∀i,jR (iK l t i).1/\(iK l t i).2.length<=i/\ ∀x∈ (iK l t i).2,0<=x/\x<4
 |0=>⟨⟨h.AZ,by simp[iK,h.A0],h.owner,fun i hi=>by
   simp only[iK,abF]at hi;simp only[iK,adC];exact ac9 (h.queue i hi) t⟩,by simp[iK],fun x hx=>by cases hx⟩
 |i+1=>by
  obtain⟨h1,h2,h3⟩:=C2 h t i;obtain⟨g1,g2,g3⟩:=GC h1 i t;refine⟨g1,?_,?_⟩
  ·unfold iK;simp only;split
   ·simp;omega
   ·omega
  ·unfold iK;simp only;split
   ·rename_i hc;intro x hx;rcases List.mem_append.1 hx with hx|hx
    ·exact h3 x hx
    ·simp only[adL]at hx;subst hx;omega
   ·exact h3
@[simp]def bov(bR:List Int)(bG:List (List Int))(hq:bG.length=4)(ho:bR.length<=1000000000)(hx: ∀i (h:i<bG.length),(bG[i]).length<=1000000000):nr X [(0,0,3),(0,1,22)] 253 [KKv bR bG]=some ((KKq ((bX.mk bR bG)):V)):=by
 refine aaC ?_;obtain⟨a,b,c,d,rfl⟩:=Ii hq;have ha:=hx 0 (by simp);have hb:=hx 1 (by simp);have hc:=hx 2 (by simp);have hd:=hx 3 (by simp);simp at ha hb hc hd;simp[dO,ku];all_goals ((repeat' (first|apply And.intro|intro _))<;>first|omega|rfl)
@[simp]def bow(bR:List Int)(bG:List (List Int))(hq:bG.length=4)(ho:bR.length<=1000000000)(hx: ∀i (h:i<bG.length),(bG[i]).length<=1000000000):nr X [(0,1,22)] 253 [KKv bR bG]=some ((KKq ((bX.mk bR bG)):V)):=by
 refine aaC ?_;obtain⟨a,b,c,d,rfl⟩:=Ii hq;have ha:=hx 0 (by simp);have hb:=hx 1 (by simp);have hc:=hx 2 (by simp);have hd:=hx 3 (by simp);simp at ha hb hc hd;simp[dO,ku];all_goals ((repeat' (first|apply And.intro|intro _))<;>first|omega|rfl)
@[simp]def BX(bR:List Int)(bG:List (List Int))(lock t:Int)(h:jR (bX.mk bR bG)):bW X 208 [KKv bR bG,.int .i64 lock,.int .i64 t]=some (.dM [KKq ((fY (bX.mk bR bG) lock t).1),.int .i64 ((fY (bX.mk bR bG) lock t).2.1),.bool ((fY (bX.mk bR bG) lock t).2.2)]):=by
 refine aaA ?_;have h1:bR.length=4:=h.AZ;have h2:bG.length=4:=h.A0;obtain⟨h3,h4⟩:=h.lens;simp only at h3 h4;have tk1:List.take 4 (bR.map (V.int .i64))=bR.map (V.int .i64):=aZ (by simp;omega);have tk2:List.take 4 (bG.map dc)=bG.map dc:=aZ (by simp;omega);have tk3: ∀(k:Nat) (v:V),List.take 4 ((bR.map (V.int .i64)).set k v)=(bR.map (V.int .i64)).set k v:=fun k v=>aZ (by simp;omega);have Ip: ∀(k:Nat) (v:V),List.take 4 ((bG.map dc).set k v)=(bG.map dc).set k v:=fun k v=>aZ (by simp;omega);have ds1: ∀(k:Nat) (x:Int),eV ((bR.map (V.int .i64)).set k (V.int .i64 x))=(bR.map (V.int .i64)).set k (V.int .i64 x):=fun k x=>by rw[<-List.map_set,GB]
 have ds2: ∀(k:Nat) (r:List Int),eV ((bG.map dc).set k (V.sl false (r.map (V.int .i64))))=(bG.map dc).set k (V.sl false (r.map (V.int .i64))):=fun k r=>by rw[<-ku,<-List.map_set,Jk]
 by_cases c1:lock<0
 ·have e:fY (bX.mk bR bG) lock t=((bX.mk bR bG), -1,false):=by unfold fY;rw[if_pos (.inl c1)]
  rw[e];simp[h1,h2,h4,c1,tk1,tk2]
 by_cases c2:4<=lock
 ·have e:fY (bX.mk bR bG) lock t=((bX.mk bR bG), -1,false):=by unfold fY;rw[if_pos (.inr (.inl c2))]
  rw[e];simp[h1,h2,h4,c1,c2,tk1,tk2]
 obtain⟨k,rfl⟩:=aaG (show 0<=lock by omega);have k1:k<4:=by omega
 have k2:(k:Int)<4:=by omega
 have k3:k<bR.length:=by omega
 have k4:k<bG.length:=by omega
 have hn:nth bR (k:Int).toNat=bR[k]:=by rw[aaH,dC k3]
 by_cases c3:bR[k]=t
 case neg=>
  have e:fY (bX.mk bR bG) k t=((bX.mk bR bG), -1,false):=by unfold fY;rw[if_pos (.inr (.inr (by rw[hn];exact c3)))]
  rw[e];simp[h1,h2,h4,c1,c2,k1,k2,c3,tk1,tk2]
 have hg:bG.getD (k:Int).toNat []=bG[k]:=by simp[List.getD,k4]
 have c3t:=eq_true c3;cases hq:bG[k] with
 |nil=>
  have e:fY (bX.mk bR bG) k t=(⟨bR.set k (-1),bG⟩, -1,true):=by unfold fY;rw[if_neg (by rw[hn];omega),hg,hq];rfl
  have hr1:True:=trivial;rw[e];simp[h1,h2,h4,c1,c2,k1,k2,c3t,hq,tk2,tk3,ds1,ku]
 |cons x r=>
  have e:fY (bX.mk bR bG) k t=(⟨bR.set k x,bG.set k r⟩,x,true):=by unfold fY;rw[if_neg (by rw[hn];omega),hg,hq];rfl
  have hr1:(1:Int)<=(r.length:Int)+1:=by omega
  have hr:r.length<=4:=by have:=(h.queue k k4).len;simp only[hq,abJ]at this;omega
  rw[e];simp[h1,h2,h4,c1,c2,k1,k2,c3t,hq,tk3,Ip,ds1,ds2,ku,hr1]
def wrap_u8(h:0<=n/\n<=255):IntKind.u8.wrap n=n:=by
 simp only[IntKind.wrap,IntKind.signed,IntKind.bits,acB];simp;omega
def wrap_u64(h:0<=n/\n<=4611686018427387904):IntKind.u64.wrap n=n:=by
 simp only[IntKind.wrap,IntKind.signed,IntKind.bits,acB];simp;omega
def pw(n:Int):Int:=2^n.toNat
def GF(k:Nat):pw (k:Int)=2^k:=rfl
def az1: ∀k,k<16->IntKind.u16.wrap ((2:Int)^k)=2^k:=by decide+kernel
def a86: ∀k,k<8->IntKind.u8.wrap ((2:Int)^k)=2^k:=by decide+kernel
def sA(v:Int){n:Nat}(h:1<=n): ∃k:Nat,v % (n:Int)=(k:Int)/\k<n:=by
 have h1:=acD v (show(n:Int)≠0 by omega);have h2:=abW v (show 0<(n:Int) by omega);exact⟨(v % (n:Int)).toNat,by omega,by omega⟩
def yS(v bit:Int):Int:=Go.Abs.bits .u16 .xor v (pw (bit % 16))
@[simp]def ao7(v bit:Int):bW X 99 [.int .u16 v,bit]=some (.int .u16 (yS v bit)):=by
 refine aaA ?_;obtain⟨k,hk,xX⟩:=sA bit (n:=16) (by omega);have qT:bit % 16=k:=hk;have e:=v9 (v:=bit) (n:=16) (by omega);have hr:bit.tmod 16=k\/bit.tmod 16=k-16:=by
  by_cases hn:bit.tmod 16<0
  ·rw[if_pos hn]at e;omega
  ·rw[if_neg hn]at e;omega
 have hw:IntKind.i64.wrap (bit.tmod 16+16)=bit.tmod 16+16:=wrap_i64 (by omega);have ht:(bit.tmod 16+16).tmod 16=k:=by
  rw[aaK (by omega)];omega
 have hkn: ¬(k:Int)<0:=by omega
 have hp:=az1 k xX;have hm:min k 16=k:=by omega
 have Rv:IntKind.u16.bits=16:=rfl;unfold yS;rw[qT];simp[hw,ht,hp,hm,Rv,hkn,GF]
def Ap(b:List Int)(f:dF):List Int:=
 if f.kind=6/\0<b.length then b.set (f.tZ % b.length).toNat (Go.Abs.bits .u8 .xor (nth b (f.tZ % b.length).toNat) (pw (f.bit % 8))) else b
@[simp]def ako(b:List Int)(kU gA kv ir eP ja:Int)(hb:b.length<=1000000000):bW X 48 [.sl false (b.map (V.int .u8)),.agg [kU,gA,kv,ir,eP,ja]]=some (.sl false ((Ap b (dF.mk kU gA kv ir eP ja)).map (V.int .u8))):=by
 refine aaA ?_;have Ps:b.length<=140737488355328:=by omega
 have D4:b.length<=4611686018427387904:=by omega
 by_cases hk:kv=6
 case neg=>simp[hk,Ps,D4,Ap]
 have qT:=eq_true hk;by_cases h0:0<b.length
 case neg=>
  have K4:b=[]:=abP (by omega);subst K4;simp[qT,Ap]
 obtain⟨k,e1,k1⟩:=sA eP (n:=b.length) (by omega);obtain⟨j,e2,j1⟩:=sA ja (n:=8) (by omega);have e2':ja % 8=j:=e2;have hp:=a86 j j1;have hm:min j 8=j:=by omega
 have hb8:IntKind.u8.bits=8:=rfl;have Kp: ¬(j:Int)<0:=by omega
 have hn:1<=(b.length:Int)/\(b.length:Int)<=4611686018427387904:=by omega
 have xS:(k:Int)<b.length:=by omega
 have h0i:(0:Int)<b.length:=by omega
 have Cr:=dC k1;unfold Ap;rw[if_pos ⟨hk,h0⟩];simp only[e1,e2',aaH];simp[qT,Ps,D4,h0,hn,e1,e2',hp,hm,hb8,Kp,xS,k1,Cr,GF];rw[<-List.map_set,aZ (by simp),VQ]
def qA(f:dF):Bool:=decide (1<=f.kind)&& (decide (f.kind<=6)&& (decide (0<=f.time)&&decide (0<=f.dP)))
@[simp]def ag9(kU gA kv ir eP ja:Int):bW X 44 [.agg [kU,gA,kv,ir,eP,ja]]=some (.bool (qA (dF.mk kU gA kv ir eP ja))):=by
 refine aaA ?_;unfold qA;by_cases h1:1<=kv<;>by_cases h2:kv<=6<;>by_cases h3:0<=kU<;>simp[h1,h2,h3]
@[simp]def GH(an:List Int)(hs:an.length<=1000)(hb: ∀x∈an,0<=x/\x<=1000000):bW X 101 [an]=some (.int .i64 (total an)):=by
 refine aaA ?_;simp[];refine cZ (fun i S=>(S.f 3= .int .i64 (total (an.take i))/\S.f 6=an/\S.f 7=((an).length:Int)/\S.f 8=(i:Int)/\S.n=1100)/\(0<=total (an.take i)/\total (an.take i)<=1000000*i)) (an.length) (by omega) ?_ ?_ ?_
 ·rintro i S ⟨pq,ie,bL⟩ ⟨df,fp⟩;simp[df,ie,bL]<;>(
   have hx:=hb _ (aaL bL);rw[fD bL,ub];rw[wrap_i64 (by omega)];exact⟨rfl,by omega,by omega⟩)
 ·rintro S ⟨df,fp⟩;simp[df]
 ·simp[]<;>(
   simp[total])
@[simp]def NT(an:List Int)(i:Int)(hz:oO an)(hi:0<=i/\i<=1000000):bW X 100 [an,i]=some (.dM [KKy ((py an i 0).1),.int .i64 ((py an i 0).2)]):=by
 refine aaA ?_;have hz':=hz.le;simp[hi];refine cZ (fun k S=>(S.f 1= .int .i64 (i-total (an.take k))/\S.f 4= .ptr 4 0 0/\S.h 4=some ⟨2,[KKB 0 0],true⟩/\S.f 10=an/\S.f 11=((an).length:Int)/\S.f 12=(k:Int)/\S.n=1100)/\(py an i 0=py (an.drop k) (i-total (an.take k)) k/\0<=total (an.take k)/\total (an.take k)<=32*k/\total (an.take k)<=i)) (an.length) (by omega) ?_ ?_ ?_
 ·rintro k S ⟨IN,Ey,kG⟩ ⟨df,fp⟩;have he:=hz.elem k kG;obtain⟨sF,O2,hP3,hP4⟩:=fp;have hs:py (an.drop k) (i-total (an.take k)) k=if 0<=i-total (an.take k)/\i-total (an.take k)<an[k] then(⟨k,i-total (an.take k)⟩,0) else py (an.drop (k+1)) (i-total (an.take k)-an[k]) (k+1):=by
   rw[drop_cons kG];rfl
  have ht:total (an.take (k+1))=total (an.take k)+an[k]:=by rw[fD kG,ub]
  have hw:IntKind.i64.wrap (i-total (an.take k)-an[k])=i-total (an.take k)-an[k]:=wrap_i64 (by omega);rw[sF,hs];by_cases hc:i-total (an.take k)<an[k]
  ·rw[if_pos ⟨by omega,hc⟩];simp[df,kG,hc]
  ·rw[if_neg (fun h=>hc h.2)];have e3:i-(total (an.take k)+an[k])=i-total (an.take k)-an[k]:=by omega
   simp[df,Ey,kG,ht,hw,hc,e3];all_goals omega
 ·rintro S ⟨df,fp⟩;simp[df]<;>(
   rw[fp.1];simp[py])
 ·simp[]<;>(
   simp[total];omega)
@[simp]def A5(hx:bh)(l:List Entry):cF (l.map (cx hx 12∘Entry.e))=some (l.map Entry.e):=qi (fun _=>rfl) l
@[simp]def ad0(aP:List Instr)(aN:List Int)(aQ:List (List Int))(aE:List Int)(aG:Int)(aJ:List Cell)(aK:List cy)(az:List Thread)(bk aX:List Int)(aY:List (List Int))(aM:List (List Canon))(aH:List fO)(aS:List Output)(bD:List Int)(bE:List (List Int))(cC:List Entry)(cz:List Int)(hR:cC.length<=1000000)(hJ:cz.length<=1000000):nr X [(0,16,65),(0,17,3)] 136 [KKJ aP aN aQ aE aG aJ aK az bk aX aY aM aH aS bD bE cC cz]=some ((KKX ((uL.mk (Prog.mk aP aN aQ) (aO.mk (Layout.mk aE aG) (aF.mk aJ aK) az) (cS.mk bk aX aY (bJ.mk aM aH) aS) (bX.mk bD bE) cC cz)):V)):=by
 refine aaC ?_;simp;all_goals ((repeat' (first|apply And.intro|intro _))<;>first|omega|rfl)
@[simp]def ad1(l:List Int)(h:bh)(k:Nat):cL X 18 [l] h k=some (.ptr (k+3) 0 0,aR h (k+3) (some ⟨2,[KKa l 0],true⟩),k+5):=by
 obtain⟨v,h',n',e1,e2,e3,e4⟩:=bC (X:=X) (g:=18) (args:=[.sl false (l.map (V.int .i64))]) (h:=h) (k:=k) (K:=fun v h' n'=>v= .ptr (k+3) 0 0/\h'=aR h (k+3) (some ⟨2,[KKa l 0],true⟩)/\n'=k+5) Tryz.func18 rfl rfl (by
  simp[aaE])
 rw[e1,e2,e3,e4]
def pD(an:List Int)(l:List Canon):Bool:=l.all (proper an)
def lY(an:List Int)(l:List (List Canon)):Bool:=l.all (pD an)
def GS{l:List Canon}(h:i<l.length):pD z (l.take (i+1))=(pD z (l.take i)&&proper z l[i]):=vn h
def R5{l:List Canon}(h:i<l.length)(hp:proper z l[i]=false):pD z l=false:=vk h hp
def DO{l:List Canon}:pD z (l.take l.length)=pD z l:=by rw[abi]
def DP{l:List (List Canon)}(h:i<l.length):lY z (l.take (i+1))=(lY z (l.take i)&&pD z l[i]):=vn h
def N4{l:List (List Canon)}(h:i<l.length)(hp:pD z l[i]=false):lY z l=false:=vk h hp
def B7{l:List (List Canon)}:lY z (l.take l.length)=lY z l:=by rw[abi]
@[simp]def ad2(an:List Int)(bn:List (List Canon))(bc:List fO)(h1:bn.length<=1000000000)(h2: ∀i (h:i<bn.length),(bn[i]).length<=1000000000):bW X 131 [.sl false (an.map (V.int .i64)),KKj bn bc]=some (.bool (lY an bn)):=by
 refine aaA ?_;simp[];refine cZ (fun i S=>(S.f 0=an/\S.f 10=bn/\S.f 11=((bn).length:Int)/\S.f 12=(i:Int)/\S.n=1100)/\(lY an (bn.take i)=true)) (bn.length) (by omega) ?_ ?_ ?_
 ·rintro i S ⟨pq,ie,bL⟩ ⟨df,fp⟩;have g:=h2 i bL;simp[df,bL];refine cZ (fun j S=>(S.f 0=an/\S.f 10=bn/\S.f 11=((bn).length:Int)/\S.f 12=(i:Int)/\S.f 16= .sl false ((bn[i]).map Canon.e)/\S.f 17= .int .i64 (((bn[i]).length:Int))/\S.f 18=(j:Int)/\S.n=1100)/\(pD an ((bn[i]).take j)=true)) ((bn[i]).length) (by omega) ?_ ?_ ?_
  ·rintro j S ⟨mz,vp,jP⟩ ⟨mA,sF⟩;have up:=GS (z:=an) jP;rw[sF]at up;cases q:proper an (bn[i])[j] with
   |false=>
    have hb:=N4 bL (R5 jP q);simp[mA,jP,q,hb]
   |true=>
    rw[q]at up;simp[mA,vp,jP,q,up]
  ·rintro S ⟨mA,sF⟩;rw[DO]at sF;have up:=DP (z:=an) bL;rw[fp,sF]at up;simp[bL,mA,up,ie];try omega
  ·simp[df]<;>(
    rfl)
 ·rintro S ⟨df,fp⟩;simp[df]<;>(
   rw[B7]at fp;simp[fp])
 ·simp[]<;>(
   rfl)
def atv{q:List (List Int)}(h:i<q.length):((q.take (i+1)).any fun x=>x.contains t)=(((q.take i).any fun x=>x.contains t)||(q[i]).contains t):=by
 rw[fD h,List.any_append];simp only[List.any_cons,List.any_nil,Bool.or_false]
def aln(h:i<q.length):(q.take (i+1)).contains t=((q.take i).contains t||decide (t=q[i])):=by
 rw[fD h];simp only[List.contains_eq_mem,aew,adL,Bool.decide_or]
@[simp]def aeq(bR:List Int)(bG:List (List Int))(k:Nat)(hq:bG.length=4)(ho:bR.length<=1000000000)(hx: ∀i (h:i<bG.length),(bG[i]).length<=1000000000): ∃h',cL X 253 [KKv bR bG] pP k=some (.agg [.cu (k+4) 0 bR.length,.cu (k+63) 0 4],h',k+71)/\h' (k+4)=some ⟨1,bR.map (V.int .i64),false⟩/\h' (k+63)=some ⟨1,[.cu (k+19) 0 (bG[0]'(by omega)).length,.cu (k+33) 0 (bG[1]'(by omega)).length,.cu (k+47) 0 (bG[2]'(by omega)).length,.cu (k+61) 0 (bG[3]'(by omega)).length],true⟩/\h' (k+19)=some ⟨1,(bG[0]'(by omega)).map (V.int .i64),false⟩/\h' (k+33)=some ⟨1,(bG[1]'(by omega)).map (V.int .i64),false⟩/\h' (k+47)=some ⟨1,(bG[2]'(by omega)).map (V.int .i64),false⟩/\h' (k+61)=some ⟨1,(bG[3]'(by omega)).map (V.int .i64),false⟩:=by
 obtain⟨a,b,c,d,rfl⟩:=Ii hq;have ha:=hx 0 (by simp);have hb:=hx 1 (by simp);have hc:=hx 2 (by simp);have hd:=hx 3 (by simp);simp at ha hb hc hd;obtain⟨v,h',n',e,g1,g2,g3,g4,g5,g6,g7,g8⟩:=bC (X:=X) (g:=253) (args:=[KKv bR ([a,b,c,d]:List (List Int))]) (h:=pP) (k:=k) (K:=fun v h n=>v= .agg [.cu (k+4) 0 bR.length,.cu (k+63) 0 4]/\n=k+71/\h (k+4)=some ⟨1,bR.map (V.int .i64),false⟩/\h (k+63)=some ⟨1,[.cu (k+19) 0 a.length,.cu (k+33) 0 b.length,.cu (k+47) 0 c.length,.cu (k+61) 0 d.length],true⟩/\
   h (k+19)=some ⟨1,a.map (V.int .i64),false⟩/\h (k+33)=some ⟨1,b.map (V.int .i64),false⟩/\h (k+47)=some ⟨1,c.map (V.int .i64),false⟩/\h (k+61)=some ⟨1,d.map (V.int .i64),false⟩) Tryz.func253 rfl rfl (by
  simp[dO,aaE,ku];all_goals ((repeat' (first|apply And.intro|intro _))<;>first|omega|rfl))
 subst g1;subst g2;exact⟨h',e,g3,g4,g5,g6,g7,g8⟩
def vN(l:bX)(i:Nat):List Int:=l.queue.getD i []
def a95(l:bX)(lock t:Int)(i:Nat)(S:St):Prop:=(S.f 1= .int .i64 lock/\S.f 2= .int .i64 t/\S.f 3= .ptr 0 0 0/\S.f 6= .ptr 1 0 0/\S.f 8= .ptr 5 0 0/\S.f 32= .sl false (l.queue.map dc)/\S.f 33= .int .i64 4/\S.f 34= .int .i64 (i:Int))/\(S.h 0=some ⟨2,[KKq l],true⟩/\S.h 1=some ⟨2,[.agg [.sl true [],.sl true []]],true⟩/\S.h 5=some ⟨2,[.agg [.cu 11 0 4,.cu 70 0 4]],true⟩/\S.h 11=some ⟨1,l.owner.map (V.int .i64),false⟩/\S.h 70=some ⟨1,[.cu 26 0 (vN l 0).length,.cu 40 0 (vN l 1).length,.cu 54 0 (vN l 2).length,.cu 68 0 (vN l 3).length],true⟩/\
  S.h 26=some ⟨1,(vN l 0).map (V.int .i64),false⟩/\S.h 40=some ⟨1,(vN l 1).map (V.int .i64),false⟩/\S.h 54=some ⟨1,(vN l 2).map (V.int .i64),false⟩/\S.h 68=some ⟨1,(vN l 3).map (V.int .i64),false⟩)/\78<=S.n/\((l.queue.take i).any fun x=>x.contains t)=false
def a96(l:bX)(lock t:Int)(i j:Nat)(S:St):Prop:=((S.f 1= .int .i64 lock/\S.f 2= .int .i64 t/\S.f 3= .ptr 0 0 0/\S.f 6= .ptr 1 0 0/\S.f 8= .ptr 5 0 0/\S.f 32= .sl false (l.queue.map dc)/\S.f 33= .int .i64 4/\S.f 34= .int .i64 (i:Int))/\(S.h 0=some ⟨2,[KKq l],true⟩/\S.h 1=some ⟨2,[.agg [.sl true [],.sl true []]],true⟩/\S.h 5=some ⟨2,[.agg [.cu 11 0 4,.cu 70 0 4]],true⟩/\S.h 11=some ⟨1,l.owner.map (V.int .i64),false⟩/\S.h 70=some ⟨1,[.cu 26 0 (vN l 0).length,.cu 40 0 (vN l 1).length,.cu 54 0 (vN l 2).length,.cu 68 0 (vN l 3).length],true⟩/\
  S.h 26=some ⟨1,(vN l 0).map (V.int .i64),false⟩/\S.h 40=some ⟨1,(vN l 1).map (V.int .i64),false⟩/\S.h 54=some ⟨1,(vN l 2).map (V.int .i64),false⟩/\S.h 68=some ⟨1,(vN l 3).map (V.int .i64),false⟩)/\78<=S.n/\((l.queue.take i).any fun x=>x.contains t)=false)/\S.f 38= .sl false ((vN l i).map (V.int .i64))/\S.f 39= .int .i64 (vN l i).length/\S.f 40= .int .i64 (j:Int)/\((vN l i).take j).contains t=false
@[simp]def Lg(bR:List Int)(bG:List (List Int))(lock t:Int)(h:jR (bX.mk bR bG)):bW X 255 [KKv bR bG,.int .i64 lock,.int .i64 t]=some (.dM [KKq ((qm (bX.mk bR bG) lock t).1),.int .i64 ((qm (bX.mk bR bG) lock t).2)]):=by
 refine aaA ?_;have h1:bR.length=4:=h.AZ;have h2:bG.length=4:=h.A0;obtain⟨h3,h4⟩:=h.lens;simp only at h3 h4;have a97: ∀i (g:i<bG.length),(bG[i]).length<=4:=fun i g=>(h.queue i g).len;obtain⟨hC,eC,gO,gQ,g0,g1,g2,g3⟩:=aeq bR bG 7 h2 h3 h4;simp only[Nat.reduceAdd,h1]at eC gO gQ g0 g1 g2 g3;have qa: ∀i (g:i<bG.length),vN (bX.mk bR bG) i=bG[i]:=fun i g=>by simp[vN,List.getD,g]
 rw[<-qa 0 (by omega),<-qa 1 (by omega),<-qa 2 (by omega),<-qa 3 (by omega)]at gQ;rw[<-qa 0 (by omega)]at g0;rw[<-qa 1 (by omega)]at g1;rw[<-qa 2 (by omega)]at g2;rw[<-qa 3 (by omega)]at g3;have q16: ∀i,i<4->(vN (bX.mk bR bG) i).length<=4:=fun i hi=>by rw[qa i (by omega)];exact a97 i (by omega)
 have tM: ∀(l:List Int),List.take l.length (l.map (V.int .i64))=l.map (V.int .i64):=fun l=>aZ (by simp);have ow:List.take 4 (bR.map (V.int .i64))=bR.map (V.int .i64):=aZ (by simp;omega);have tk3: ∀(k:Nat) (v:V),List.take 4 ((bR.map (V.int .i64)).set k v)=(bR.map (V.int .i64)).set k v:=fun k v=>aZ (by simp;omega);have ds1: ∀(k:Nat) (x:Int),eV ((bR.map (V.int .i64)).set k (V.int .i64 x))=(bR.map (V.int .i64)).set k (V.int .i64 x):=fun k x=>by rw[<-List.map_set,GB]
 have Py: ∀(l:List Int),eV (List.take (l.length+1) (l.map (V.int .i64)++ [V.int .i64 t]))=l.map (V.int .i64)++ [V.int .i64 t]:=fun l=>by rw[aZ (by simp),show l.map (V.int .i64)++ [V.int .i64 t]=(l++ [t]).map (V.int .i64) from by simp,GB]
 have tq0:=tM (vN (bX.mk bR bG) 0);have tq1:=tM (vN (bX.mk bR bG) 1);have tq2:=tM (vN (bX.mk bR bG) 2);have tq3:=tM (vN (bX.mk bR bG) 3);have hq5:bG=[vN (bX.mk bR bG) 0,vN (bX.mk bR bG) 1,vN (bX.mk bR bG) 2,vN (bX.mk bR bG) 3]:=by
  obtain⟨a,b,c,d,rfl⟩:=Ii h2;rfl
 have hq4:([V.sl false ((vN (bX.mk bR bG) 0).map (V.int .i64)),V.sl false ((vN (bX.mk bR bG) 1).map (V.int .i64)),V.sl false ((vN (bX.mk bR bG) 2).map (V.int .i64)),V.sl false ((vN (bX.mk bR bG) 3).map (V.int .i64))]:List V)=bG.map dc:=by
  rw[hq5];rfl
 have dq:eV (bG.map dc)=bG.map dc:=Jk _;by_cases c1:lock<0
 ·have e:qm (bX.mk bR bG) lock t=((bX.mk bR bG),2):=by unfold qm;rw[if_pos (.inl c1)]
  rw[e];simp[h1,c1,eC,gO,gQ,g0,g1,g2,g3,ow,tq0,tq1,tq2,tq3,hq4,dq]
 by_cases c2:4<=lock
 ·have e:qm (bX.mk bR bG) lock t=((bX.mk bR bG),2):=by unfold qm;rw[if_pos (.inr (.inl c2))]
  rw[e];simp[h1,c1,c2,eC,gO,gQ,g0,g1,g2,g3,ow,tq0,tq1,tq2,tq3,hq4,dq]
 obtain⟨k,rfl⟩:=aaG (show 0<=lock by omega);have k1:k<4:=by omega
 have k2:k<bR.length:=by omega
 have EH:(k:Int)<4:=by omega
 have hnk:nth bR (k:Int).toNat=bR[k]:=by rw[aaH,dC k2]
 have hgk:bG.getD (k:Int).toNat []=bG[k]:=by simp[List.getD,show k<bG.length by omega]
 by_cases Bx:bR[k]=t
 ·have a99:=eq_true Bx;have e:qm (bX.mk bR bG) k t=((bX.mk bR bG),2):=by unfold qm;rw[if_pos (.inr (.inr (by rw[hnk];exact Bx)))]
  rw[e];simp[c1,c2,k1,EH,h1,a99,eC,gO,gQ,g0,g1,g2,g3,ow,tq0,tq1,tq2,tq3,hq4,dq]
 have atw:wv (bX.mk bR bG) t=true->qm (bX.mk bR bG) k t=((bX.mk bR bG),2):=fun hi=>by unfold qm;rw[if_neg (by rw[hnk];omega),if_pos hi]
 simp[c1,c2,k1,EH,h1,h2,Bx,eC];refine lS (a95 (bX.mk bR bG) k t) 4 ?_ 0 (by simp) ?_
 ·rintro i S hi ⟨⟨f1,f2,f3,f6,f8,f32,f33,f34⟩,⟨z0,z1,z5,z11,z70,z26,z40,z54,z68⟩,hn,han⟩;have m1: ∀a j,a<78-> ¬a=S.n+j:=fun a j ha=>by omega
  have m2: ∀a j,a<78-> ¬S.n+j=a:=fun a j ha=>by omega
  have m3: ∀a,a<78-> ¬S.n=a:=fun a ha=>by omega
  have bq: ∀i,i<4->((vN (bX.mk bR bG) i).length+1)*8<=140737488355328:=fun i hi=>by have:=q16 i hi;omega
  have cq: ∀i,i<4->(vN (bX.mk bR bG) i).length<=4611686018427387903:=fun i hi=>by have:=q16 i hi;omega
  have hw:=nd i (by omega);by_cases gY:i<4
  case neg=>
   obtain rfl:i=4:=by omega
   have OS:wv (bX.mk bR bG) t=false:=by
    have:=han;rwa[aZ (by first|omega|(simp only;omega))]at this
   have g4:((4:Nat):Int)=4:=rfl;by_cases c4:bR[k]= -1
   ·have c4t:=eq_true c4;have e:qm (bX.mk bR bG) k t=(⟨bR.set k t,bG⟩,0):=by unfold qm;rw[if_neg (by rw[hnk];omega),if_neg (by rw[OS];simp),if_pos (by rw[hnk];exact c4)];rfl
    rw[e];simp[h1,k1,EH,dq,tq0,tq1,tq2,tq3,hq4,f1,f2,f3,f6,f8,f33,f34,z0,z1,z5,z11,z70,z26,z40,z54,z68,g4,c4t,tk3,ds1]
   have e:qm (bX.mk bR bG) k t=(⟨bR,bG.set k (bG[k]++ [t])⟩,1):=by unfold qm;rw[if_neg (by rw[hnk];omega),if_neg (by rw[OS];simp),if_neg (by rw[hnk];exact c4),hgk];rfl
   rw[e];have kc:k=0\/k=1\/k=2\/k=3:=by omega
   rcases kc with rfl|rfl|rfl|rfl
   ·simp[h1,k1,ow,ku,tq0,tq1,tq2,tq3,f1,f2,f3,f6,f8,f33,f34,z0,z1,z5,z11,z70,z26,z40,z54,z68,m3,bq,cq,g4,c4,Py];rw[<-hq4,<-qa _ (by omega)];rfl
   ·simp[h1,k1,ow,ku,tq0,tq1,tq2,tq3,f1,f2,f3,f6,f8,f33,f34,z0,z1,z5,z11,z70,z26,z40,z54,z68,m3,bq,cq,g4,c4,Py];rw[<-hq4,<-qa _ (by omega)];rfl
   ·simp[h1,k1,ow,ku,tq0,tq1,tq2,tq3,f1,f2,f3,f6,f8,f33,f34,z0,z1,z5,z11,z70,z26,z40,z54,z68,m3,bq,cq,g4,c4,Py];rw[<-hq4,<-qa _ (by omega)];rfl
   ·simp[h1,k1,ow,ku,tq0,tq1,tq2,tq3,f1,f2,f3,f6,f8,f33,f34,z0,z1,z5,z11,z70,z26,z40,z54,z68,m3,bq,cq,g4,c4,Py];rw[<-hq4,<-qa _ (by omega)];rfl
  have xY:i<bG.length:=by omega
  have baa:(i:Int)<4:=by omega
  have up:=atv (t:=t) xY;simp only at han;rw[han]at up;have hqi:=qa i xY;simp[f32,f33,f34,h2,gY,baa,ku];rw[<-hqi];refine lS (a96 (bX.mk bR bG) k t i) (vN (bX.mk bR bG) i).length ?_ 0 (by simp) ?_
  ·rintro j S2 hj ⟨⟨⟨e1,e2,e3,e6,e8,e32,e33,e34⟩,⟨y0,y1,y5,y11,y70,y26,y40,y54,y68⟩,yn,yan⟩,e38,e39,e40,hbj⟩;have n1: ∀a j,a<78-> ¬a=S2.n+j:=fun a j ha=>by omega
   have n2: ∀a j,a<78-> ¬S2.n+j=a:=fun a j ha=>by omega
   have vp:IntKind.i64.wrap ((j:Int)+1)=(j:Int)+1:=wrap_i64 (by have:=q16 i gY;omega);by_cases LB:j<(vN (bX.mk bR bG) i).length
   case neg=>
    obtain rfl:j=(vN (bX.mk bR bG) i).length:=by omega
    rw[abi]at hbj;rw[<-hqi,hbj]at up;simp[e34,e39,e40,hw,gY];refine⟨?_,?_,by first|omega|(simp only;omega),up⟩
    ·simp[aR,e1,e2,e3,e6,e8,e32,e33]
    ·exact⟨y0,y1,y5,y11,y70,y26,y40,y54,y68⟩
   have Oh:(j:Int)<(vN (bX.mk bR bG) i).length:=by omega
   have upj:=aln (t:=t) LB;rw[hbj]at upj;by_cases hx:(vN (bX.mk bR bG) i)[j]=t
   ·have Hy:=eq_true hx;have bak:wv (bX.mk bR bG) t=true:=by
     unfold wv;rw[aeN];exact⟨_,aaL xY,by rw[<-hqi];exact List.contains_iff_mem.2 (hx▸aaL LB)⟩
    rw[atw bak];simp[e2,e6,e8,y1,y5,y11,y70,y26,y40,y54,y68,e38,e39,e40,LB,Oh,Hy,h1,ow,tq0,tq1,tq2,tq3,hq4,dq]
   ·have hxn: ¬t=(vN (bX.mk bR bG) i)[j]:=fun e=>hx e.symm;simp[e2,e38,e39,e40,LB,Oh,hx,vp];refine⟨⟨?_,?_,by first|omega|(simp only;omega),yan⟩,?_,?_,?_,?_⟩
    ·simp[aR,e1,e2,e3,e6,e8,e32,e33,e34]
    ·exact⟨y0,y1,y5,y11,y70,y26,y40,y54,y68⟩
    ·simp[aR,e38]
    ·simp[aR,e39]
    ·simp[aR]
    ·rw[upj];simp[hxn]
  ·refine⟨⟨?_,?_,by first|omega|(simp only;omega),han⟩,?_,?_,?_,?_⟩
   ·simp[aR,f1,f2,f3,f6,f8,f32,f33,f34]
   ·exact⟨z0,z1,z5,z11,z70,z26,z40,z54,z68⟩
   ·simp[aR,hqi]
   ·simp[aR,hqi]
   ·simp[aR]
   ·simp
 ·refine⟨?_,?_,by first|omega|(simp only;omega),?_⟩
  ·simp[aR]
  ·simp[aR,gO,gQ,g0,g1,g2,g3]
  ·simp
end Go.Proofs.YtdngefmliibcgaaGreat
