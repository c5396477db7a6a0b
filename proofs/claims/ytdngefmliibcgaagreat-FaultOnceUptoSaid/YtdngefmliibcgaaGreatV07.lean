/- part -/
import Derived.Test.YtdngefmliibcgaaGreatV06
set_option linter.all false
set_option maxRecDepth 20000
set_option maxHeartbeats 20000000
namespace Go.Proofs.YtdngefmliibcgaaGreat
open Go Go.Abs Go.Abs.kI Qf
variable  {k i:Nat}{q z:List Int}{l:bY}{t n:Int}
def Gt(x:Thread):Bool:=decide (x.state=1)&& (decide (¬x.cp= -1)&&decide (x.saved= -1))
def sF(x:lO):Bool:=lN x.value&& (jd x.data&& (decide (x.data.length<=16)&& (decide (-1<=x.spawn)&&decide (x.spawn<4))))
@[simp]def yQ(aa:List Int)(aq:Int)(ak:List Cell)(ah:List cw)(au:List Thread)(t:Int)(ht:0<=t/\t<au.length)(hl:au.length=4):bU X 137 [KKY aa aq ak ah au,.int .i64 t]=some (.bool (Gt (au.getD t.toNat cn))):=by
 refine aaA ?_;obtain⟨k,rfl⟩:=aaG ht.1;have hk:k<au.length:=by omega
 have hk4:k<4:=by omega
 have xY: ¬(4:Int)<=k:=by omega
 have atw:(k:Int)<4:=by omega
 have hk0: ¬(k:Int)<0:=by omega
 have hx:au.getD (k:Int).toNat cn=au[k]:=by simp[List.getD,hk]
 rw[hx];by_cases h1:(au[k]).state=1
 ·have uF:=eq_true h1;by_cases h2:(au[k]).cp= -1
  ·have Pp:=eq_true h2;simp[hk4,xY,atw,hk0,hl,uF,Pp,Gt]
  ·simp[hk4,xY,atw,hk0,hl,uF,h2,Gt]
 ·simp[hk4,xY,atw,hk0,hl,h1,Gt]
@[simp]def ahy(bO bP bA bB:Int)(cO:List Canon)(cZ:Int)(gW:Bool)(hm:cO.length<=1000000000):bU X 191 [KKb bO bP bA bB cO cZ gW]=some (.bool (sF (lO.mk (Canon.mk bO bP bA bB) cO cZ gW))):=by
 refine aaA ?_;cases h1:lN (lO.mk (Canon.mk bO bP bA bB) cO cZ gW).value
 case false=>simp[h1,sF]
 cases h2:jd cO
 case false=>simp[h1,h2,hm,sF]
 by_cases h3:(cO.length:Int)<=16
 case neg=>
  have TW: ¬cO.length<=16:=by omega
  simp[h1,h2,h3,TW,hm,sF]
 have TW:cO.length<=16:=by omega
 by_cases h4: -1<=cZ
 ·simp[h1,h2,h3,TW,h4,hm,sF]
 ·simp[h1,h2,h3,TW,h4,hm,sF]
def rm(s:State)(k:Nat):List (List Canon):=s.regions++(s.threads.take k).map (·.bp)
def Wz{s:State}(h:k<s.threads.length):rm s (k+1)=rm s k++ [(s.threads[k]).bp]:=by
 unfold rm;rw[fD h,abL,<-List.append_assoc];rfl
def Gu(s:State)(h:k<=s.threads.length):(rm s k).length=s.regions.length+k:=by
 unfold rm;simp;omega
@[simp]def ahz(bF:List (List Canon))(ba:List View)(h1:bF.length<=1000000000)(h2:ba.length<=1000000000):bU X 174 [KKx bF ba]=some (.sl false ((rm (State.mk bF ba) ba.length).map bz)):=by
 refine aaA ?_;simp;refine⟨by omega,fun _ _=> ?_⟩;refine cY (fun i S=>(S.f 3= .cx 3 0 (((rm (State.mk bF ba) i).map bz)).length/\S.h 3=some ⟨1,((rm (State.mk bF ba) i).map bz),false⟩/\S.f 10=ba/\S.f 11=((ba).length:Int)/\S.f 12=(i:Int)/\S.n=1100)/\True) (ba.length) (by omega) ?_ ?_ ?_
 ·rintro i S ⟨oY,gS,bL⟩ ⟨df,fg⟩;have hu:=Wz (s:=(State.mk bF ba)) bL;have hlen:=Gu (State.mk bF ba) (k:=i) (by simp only;omega);simp only at hu hlen;simp[df,gS,bL,hu];all_goals ((repeat' (first|apply And.intro|intro _))<;>first|omega|rfl)
 ·rintro S ⟨df,fg⟩;simp[df]
 ·simp<;>(
   simp[rm])
structure DT (v:View):Prop where
 state:0<=v.state/\v.state<=4
 pc:0<=v.pc/\v.pc<=255
 count:0<=v.count/\v.count<=1099511627776
 cp: -1<=v.cp/\v.cp<=255
 saved: -1<=v.saved/\v.saved<=255
 dr:0<=v.dr/\v.dr<=6
 bp:v.bp.length=8
 a0z:jd v.bp=true
structure R6 (p:Prog) (s:State):Prop where
 regions:s.regions.length=p.an.length
 region: ∀i (h:i<s.regions.length) (h':i<p.an.length),((s.regions[i]).length:Int)=p.an[i]/\jd s.regions[i]=true
 threads:s.threads.length=4
 view: ∀i (h:i<s.threads.length),DT s.threads[i]
@[simp]def Yh(l:List View)(hl:l.length=4)(hv: ∀i (h:i<l.length),DT l[i]):bU X 241 [l]=some (.bool true):=by
 refine aaA ?_;simp;refine cY (fun i S=>(S.f 0=l/\S.f 6=l/\S.f 7=((l).length:Int)/\S.f 8=(i:Int)/\S.n=1100)/\True) (l.length) (by omega) ?_ ?_ ?_
 ·rintro i S ⟨oY,gS,bL⟩ ⟨df,fg⟩;obtain⟨⟨a1,a2⟩,⟨b1,b2⟩,⟨c1,c2⟩,⟨d1,d2⟩,⟨e1,e2⟩,⟨f1,f2⟩,g1,g2⟩:=hv i bL;have g3:(l[i]).bp.length<=1000000000:=by omega
  simp[df,gS,bL,a1,a2,b1,b2,c1,c2,d1,d2,e1,e2,f1,f2,g1,g2]
 ·rintro S ⟨df,fg⟩;simp[df]<;>(
   omega)
 ·simp<;>(
   trivial)
@[simp]def ah0(ax:List Instr)(ae:List Int)(ay:List (List Int))(bF:List (List Canon))(ba:List View)(hp:rn (Prog.mk ax ae ay))(hs:R6 (Prog.mk ax ae ay) (State.mk bF ba)):bU X 173 [KKQ ax ae ay,KKx bF ba]=some (.bool true):=by
 refine aaA ?_;have hz:oI ae:=hp.an;have z4:=hz.le;have hlen:ay.length=ae.length:=hp.len;have rH:jr (Prog.mk ax ae ay)=0:=zP hp;have Yi:ax.length<=64:=hp.rp;have b1:ae.length<=1000000000:=by omega
 have b2:ay.length<=1000000000:=by omega
 have b3:ax.length<=1000000000:=by omega
 have r1:bF.length=ae.length:=hs.regions;have r2:=hs.region;have r3:ba.length=4:=hs.threads;have r4:=hs.view;simp only at r2 r4;have r1i:(bF.length:Int)=ae.length:=by omega
 simp[rH,b1,b2,b3,r1i,r3,r4];refine cY (fun i S=>(S.f 2= .ptr 2 0 0/\S.h 2=some ⟨3,[KKQ ax ae ay],true⟩/\S.f 26=bF/\S.f 27=((bF).length:Int)/\S.f 28=(i:Int)/\S.n=1100)/\True) (bF.length) (by omega) ?_ ?_ ?_
 ·rintro i S ⟨oY,gS,bL⟩ ⟨df,fg⟩;have q1:i<ae.length:=by omega
  obtain⟨q2,q3⟩:=r2 i bL q1;have q4:=hz.elem i q1;have q5:(bF[i]).length<=1000000000:=by omega
  have q6:((bF[i]).length:Int)<=32:=by omega
  simp[df,gS,bL,q1,q2,q3,q5,q4];try omega
 ·rintro S ⟨df,fg⟩;simp[df]
 ·simp<;>(
   first|trivial|omega|(constructor<;>first|omega|trivial))
@[simp]def aw5(s:List Thread)(hm:s.length<=1000000000)(hx: ∀i (h:i<s.length),(s[i]).bp.length<=1000000000):bU X 219 [s,.fn 148 [] []]=some (.int .i64 (yH nX s)):=by
 refine aaA ?_;simp;refine cY (fun i S=>(S.f 0=s/\S.f 1= .fn 148 [] []/\S.f 7=((s).length:Int)/\S.f 8=(i:Int)/\S.n=1100)/\(nj (s.take i)=true)) (s.length) (by omega) ?_ ?_ ?_
 ·rintro i S ⟨oY,gS,bL⟩ ⟨df,fg⟩;have g:=hx i bL;have up:=DS bL;rw[fg]at up;cases h:nX s[i] with
  |false=>
   have e:=yI bL fg h;simp[df,bL,g,h,e]
  |true=>
   rw[h]at up;simp[df,gS,bL,g,h,up]
 ·rintro S ⟨df,fg⟩;simp[df]<;>(
   rw[BY]at fg;exact(wo fg).symm)
 ·simp<;>(
   rfl)
@[simp]def aw6(s:List Thread)(hm:s.length<=1000000000)(hx: ∀i (h:i<s.length),(s[i]).bp.length<=1000000000):bU X 147 [s,.fn 148 [] []]=some (.bool (!nj s)):=by
 refine aaA ?_;simp[hm,hx,wm,nj]
@[simp]def ak9(ax:List Instr)(ae:List Int)(ay:List (List Int))(aa:List Int)(aq:Int)(ak:List Cell)(ah:List cw)(au:List Thread)(hp:BX (Prog.mk ax ae ay))(hm:zO (aO.mk (Layout.mk aa aq) (aF.mk ak ah) au)):bU X 72 [KKQ ax ae ay,KKY aa aq ak ah au]=some (.bool (jU (Prog.mk ax ae ay) (aO.mk (Layout.mk aa aq) (aF.mk ak ah) au))):=by
 refine aaA ?_;have F3:ae.length<=1000000000:=hp.an;have CH:ay.length<=1000000000:=hp.data;have Ye:ax.length<=1000000000:=hp.code;have sV:aa.length<=1000000000:=hm.aD;have v8:ak.length<=1000000000:=hm.cells;have TK:ah.length<=1000000000:=hm.lines;have Pz: ∀i (h:i<ah.length),(ah[i]).cells.length<=1000000000:=hm.line;have hm5:au.length<=1000000000:=hm.threads;have hm6: ∀i (h:i<au.length),(au[i]).bp.length<=1000000000:=hm.bp;by_cases c1:jr (Prog.mk ax ae ay)=0
 case neg=>
  simp[F3,CH,Ye,c1,jU]
 cases c2:iX aa ae
 case false=>
  simp[F3,CH,Ye,sV,c1,c2,jU]
 cases c3:xg ⟨ak,ah⟩
 case false=>
  simp[F3,CH,Ye,sV,v8,TK,Pz,c1,c2,c3,jU]
 by_cases c4i:(au.length:Int)=4
 case neg=>
  have c4: ¬au.length=4:=by omega
  simp[F3,CH,Ye,sV,v8,TK,Pz,c1,c2,c3,c4i,c4,jU]
 have c4:au.length=4:=by omega
 cases c5:nj au
 case false=>
  simp[F3,CH,Ye,sV,v8,TK,Pz,hm6,c1,c2,c3,c4,c5,jU]
 simp[F3,CH,Ye,sV,v8,TK,Pz,hm6,c1,c2,c3,c4,c5,jU]
@[simp]def aw7(s:List Canon)(hm:s.length<=1000000000):bU X 287 [s,.fn 258 [] []]=some (.int .i64 (yH lN s)):=by
 refine aaA ?_;simp;refine cY (fun i S=>(S.f 0=s/\S.f 1= .fn 258 [] []/\S.f 7=((s).length:Int)/\S.f 8=(i:Int)/\S.n=1100)/\(jd (s.take i)=true)) (s.length) (by omega) ?_ ?_ ?_
 ·rintro i S ⟨oY,gS,bL⟩ ⟨df,fg⟩;have up:=N3 bL;rw[fg]at up;cases h:lN s[i] with
  |false=>
   have e:=yI bL fg h;simp[df,bL,h,e]
  |true=>
   rw[h]at up;simp[df,gS,bL,h,up]
 ·rintro S ⟨df,fg⟩;simp[df]<;>(
   rw[JQ]at fg;exact(wo fg).symm)
 ·simp<;>(
   rfl)
@[simp]def aw8(s:List Canon)(hm:s.length<=1000000000):bU X 257 [s,.fn 258 [] []]=some (.bool (!jd s)):=by
 refine aaA ?_;simp[hm,wm,jd]
@[simp]def Yk(l:List Canon)(jf:Int)(hm:l.length<=1000000000):bU X 213 [l,jf]=some (.bool (jd l&&decide ((l.length:Int)<=jf))):=by
 refine aaA ?_;by_cases h:(l.length:Int)<=jf
 ·cases c:jd l<;>simp[hm,h,c]
 ·simp[h]
@[simp]def T5(v from_ to:Int):bU X 212 [v,from_,to]=some (.bool (decide (from_<=v)&&decide (v<=to))):=by
 refine aaA ?_;simp;by_cases h:from_<=v<;>simp[h];omega
@[simp]def Yl(di dn db cD gU cu:Int)(bf bT:List Canon)(h1:bf.length<=1000000000)(h2:bT.length<=1000000000):bU X 141 [KKZ di dn db cD gU cu bf bT]=some (.bool (lk (Request.mk di dn db cD gU cu bf bT))):=by
 refine aaA ?_;have oT:(di<4)=(di<=3):=by apply propext;omega
 by_cases c1:0<=di
 case neg=>simp[oT,c1,lk]
 by_cases c2:di<=3
 case neg=>simp[oT,c1,c2,lk]
 by_cases c3:0<=dn
 case neg=>simp[oT,c1,c2,c3,lk]
 by_cases c4:dn<=3
 case neg=>simp[oT,c1,c2,c3,c4,lk]
 by_cases c5:0<=db
 case neg=>simp[oT,c1,c2,c3,c4,c5,lk]
 by_cases c6:db<=6
 case neg=>simp[oT,c1,c2,c3,c4,c5,c6,lk]
 by_cases c7:0<=cD
 case neg=>simp[oT,c1,c2,c3,c4,c5,c6,c7,lk]
 by_cases c8:cD<=1099511627776
 case neg=>simp[oT,c1,c2,c3,c4,c5,c6,c7,c8,lk]
 by_cases c9:0<=gU
 case neg=>simp[oT,c1,c2,c3,c4,c5,c6,c7,c8,c9,lk]
 by_cases CY:gU<=255
 case neg=>simp[oT,c1,c2,c3,c4,c5,c6,c7,c8,c9,CY,lk]
 by_cases Lg:0<=cu
 case neg=>simp[oT,c1,c2,c3,c4,c5,c6,c7,c8,c9,CY,Lg,lk]
 by_cases H9:cu<=15
 case neg=>simp[oT,c1,c2,c3,c4,c5,c6,c7,c8,c9,CY,Lg,H9,lk]
 cases c13:jd bf
 case false=>simp[oT,c1,c2,c3,c4,c5,c6,c7,c8,c9,CY,Lg,H9,c13,h1,lk]
 by_cases N4:(bf.length:Int)<=3
 case neg=>
  have c14: ¬bf.length<=3:=by omega
  simp[oT,c1,c2,c3,c4,c5,c6,c7,c8,c9,CY,Lg,H9,c13,N4,c14,h1,lk]
 have c14:bf.length<=3:=by omega
 cases c15:jd bT
 case false=>simp[oT,c1,c2,c3,c4,c5,c6,c7,c8,c9,CY,Lg,H9,c13,N4,c14,c15,h1,h2,lk]
 by_cases a02:(bT.length:Int)<=16
 case neg=>
  have c16: ¬bT.length<=16:=by omega
  simp[oT,c1,c2,c3,c4,c5,c6,c7,c8,c9,CY,Lg,H9,c13,N4,c14,c15,a02,c16,h1,h2,lk]
 have c16:bT.length<=16:=by omega
 simp[oT,c1,c2,c3,c4,c5,c6,c7,c8,c9,CY,Lg,H9,c13,N4,c14,c15,a02,c16,h1,h2,lk]
@[simp]def AY(s1 s2:List Canon)(hm:s1.length<=1000000000):bU X 184 [s1,s2]=some (.bool (decide (s1=s2))):=by
 refine aaA ?_;by_cases e0:(s1.length:Int)=s2.length
 case neg=>
  have n: ¬s1=s2:=fun e=>e0 (by rw[e]);simp[e0,n]
 have e1:s1.length=s2.length:=by omega
 simp[e0];refine cY (fun i S=>(S.f 0=s1/\S.f 1=s2/\S.f 12=((s1).length:Int)/\S.f 13=(i:Int)/\S.n=1100)/\(s1.take i=s2.take i)) (s1.length) (by omega) ?_ ?_ ?_
 ·rintro i S ⟨oY,gS,bL⟩ ⟨df,fg⟩;have g1:i<s2.length:=by omega
  by_cases q:s1[i]=s2[i]
  ·have:=BJ bL g1 fg q;simp[df,gS,bL,g1,q,this]
  ·have: ¬s1=s2:=fun h=>q (by subst h;rfl);simp[df,gS,bL, -Canon.mk.injEq,g1,this];intro a1 a2 a3 a4;exact absurd ((Canon.eq_iff _ _).2 ⟨a1,a2,a3,a4⟩) q
 ·rintro S ⟨df,fg⟩;simp[df]<;>(
   exact yE (i:=s1.length) (by omega) e1 fg)
 ·simp<;>(
   first|rfl|omega|exact⟨by omega,rfl⟩)
@[simp]def bH(yS Gy yF uP NL Gz:Int)(C2 C3:List Canon)(yT GB yG uQ NM GC:Int)(C4 C5:List Canon)(h1:C2.length<=1000000000)(h2:C3.length<=1000000000):bU X 112 [KKZ yS Gy yF uP NL Gz C2 C3,KKZ yT GB yG uQ NM GC C4 C5]=some (.bool (decide ((Request.mk yS Gy yF uP NL Gz C2 C3)=(Request.mk yT GB yG uQ NM GC C4 C5)))):=by
 refine aaA ?_;have key:((Request.mk yS Gy yF uP NL Gz C2 C3)=(Request.mk yT GB yG uQ NM GC C4 C5))↔(yS=yT/\Gy=GB/\yF=yG/\uP=uQ/\NL=NM/\Gz=GC/\C2=C4/\C3=C5):=by simp
 by_cases c1:yS=yT
 case neg=>simp[c1]
 by_cases c2:Gy=GB
 case neg=>simp[c1,c2]
 by_cases c3:yF=yG
 case neg=>simp[c1,c2,c3]
 by_cases c4:uP=uQ
 case neg=>simp[c1,c2,c3,c4]
 by_cases c5:NL=NM
 case neg=>simp[c1,c2,c3,c4,c5]
 by_cases c6:Gz=GC
 case neg=>simp[c1,c2,c3,c4,c5,c6]
 by_cases c7:C2=C4
 case neg=>simp[c1,c2,c3,c4,c5,c6,c7,h1]
 have h1b:C4.length<=1000000000:=c7▸h1;by_cases c8:C3=C5
 case neg=>simp[c1,c2,c3,c4,c5,c6,c7,c8,h1b,h2]
 have h2b:C5.length<=1000000000:=c8▸h2;simp[c1,c2,c3,c4,c5,c6,c7,c8,h1b,h2b]
@[simp]def a1a(hx:bh)(l:List Int):cF (l.map (cy hx 12∘V.int .i64))=some (l.map (V.int .i64)):=pX (fun _=>rfl) l
def GV(l:List Int):eV (l.map (V.int .i64))=l.map (V.int .i64):=qI (fun _=>rfl) l
def aea(x:List Int)(n:Nat)(v:V):(de x).put n v=v:=rfl
def Oj: ∀(S l:List Int),l.Nodup->(∀x∈l,x∈S)->l.length<=S.length
 |S,[],_,_=>by simp
 |S,a::l,h,hs=>by
  have hn:=List.nodup_cons.1 h;have ha:=hs a (by simp);have:=Oj (S.erase a) l hn.2 fun x hx=>by
   have hxa:x≠a:=fun e=>hn.1 (e▸hx);exact(List.mem_erase_of_ne hxa).2 (hs x (by simp[hx]))
  rw[List.length_erase_of_mem ha]at this;have:0<S.length:=List.length_pos_of_mem ha;simp only[abP];omega
structure Da (q:List Int):Prop where
 nodup:q.Nodup
 range: ∀x∈q,0<=x/\x<4
def Da.len(h:Da q):q.length<=4:=Oj [0,1,2,3] q h.nodup fun x hx=>by
 have:=h.range x hx;have:x=0\/x=1\/x=2\/x=3:=by omega
 simpa using this
structure jR (l:bY):Prop where
 A6:l.owner.length=4
 A7:l.queue.length=4
 owner: ∀i (h:i<l.owner.length), -1<=l.owner[i]/\l.owner[i]<4
 queue: ∀i (h:i<l.queue.length),Da l.queue[i]
def jR.lens(h:jR l):l.owner.length<=1000000000/\ ∀i (g:i<l.queue.length),(l.queue[i]).length<=1000000000:=
 ⟨by rw[h.A6];omega,fun i g=>by have:=(h.queue i g).len;omega⟩
def jR.set{l:bY}(h:jR l){k:Nat}{o:Int}(ho: -1<=o/\o<4){q:List Int}(hq:Da q):jR ⟨l.owner.set k o,l.queue.set k q⟩:=by
 refine⟨by simp[h.A6],by simp[h.A7],fun i g=> ?_,fun i g=> ?_⟩
 ·simp only[aaN]at g;simp only[abA];split
  ·exact ho
  ·exact h.owner i g
 ·simp only[aaN]at g;simp only[abA];split
  ·exact hq
  ·exact h.queue i g
def gd(l:bY)(lock t:Int):bY×Int×Bool:=
 if lock<0\/4<=lock\/ ¬nth l.owner lock.toNat=t then(l, -1,false)
 else match l.queue.getD lock.toNat [] with
  | []=>(⟨l.owner.set lock.toNat (-1),l.queue⟩, -1,true)
  |x::r=>(⟨l.owner.set lock.toNat x,l.queue.set lock.toNat r⟩,x,true)
def GW(h:jR l)(lock t:Int):jR (gd l lock t).1/\ -1<=(gd l lock t).2.1/\(gd l lock t).2.1<4:=by
 unfold gd;split
 ·exact⟨h,by simp⟩
 ·rename_i hc;have hk:lock.toNat<l.queue.length:=by have:=h.A7;omega
  have hq:=h.queue _ hk;have e:l.queue.getD lock.toNat []=l.queue[lock.toNat]:=by simp[List.getD,hk]
  rw[e];split
  ·rename_i e2;have:=h.set (k:=lock.toNat) (o:= -1) (by omega) hq;rw[abS]at this;exact⟨this,by simp⟩
  ·rename_i x r e2;rw[e2]at hq;have hx:=hq.range x (by simp);exact⟨h.set (by omega) ⟨(List.nodup_cons.1 hq.nodup).2,fun y hy=>hq.range y (by simp[hy])⟩,by simp only;omega⟩
def wB(l:bY)(t:Int):Bool:=l.queue.any fun q=>q.contains t
def qj(l:bY)(lock t:Int):bY×Int:=
 if lock<0\/4<=lock\/nth l.owner lock.toNat=t then(l,2)
 else if wB l t=true then(l,2)
 else if nth l.owner lock.toNat= -1 then(⟨l.owner.set lock.toNat t,l.queue⟩,0)
 else(⟨l.owner,l.queue.set lock.toNat (l.queue.getD lock.toNat []++ [t])⟩,1)
def aeb(h:jR l)(lock:Int)(ht:0<=t/\t<4):jR (qj l lock t).1:=by
 unfold qj;split
 ·exact h
 rename_i hc;have hk:lock.toNat<l.queue.length:=by have:=h.A7;omega
 have yc:lock.toNat<l.owner.length:=by have:=h.A6;omega
 have hq:=h.queue _ hk;split
 ·exact h
 rename_i hn;split
 ·have:=h.set (k:=lock.toNat) (o:=t) (by omega) hq;rw[abS]at this;exact this
 ·have e:l.queue.getD lock.toNat []=l.queue[lock.toNat]:=by simp[List.getD,hk]
  rw[e];have HY:t∉l.queue[lock.toNat]:=fun hm=>hn (by
   unfold wB;rw[aeQ];exact⟨_,aaL hk,by simpa using hm⟩)
  have:=h.set (k:=lock.toNat) (h.owner _ yc) (q:=l.queue[lock.toNat]++ [t]) ⟨by
   rw[List.nodup_append];refine⟨hq.nodup,by simp,fun a ha b hb=> ?_⟩;simp only[adM]at hb;subst hb;exact fun e=>HY (e▸ha),fun x hx=>by
   rcases List.mem_append.1 hx with hx|hx
   ·exact hq.range x hx
   ·simp only[adM]at hx;subst hx;exact ht⟩
  rw[abS]at this;exact this
def qN(q:List Int)(t:Int):List Int:=q.filter fun x=>decide (¬x=t)
def WL(h:i<q.length)(hx: ¬q[i]=t):qN (q.take (i+1)) t=qN (q.take i) t++ [q[i]]:=by
 unfold qN;rw[fD h,adL];simp[hx]
def aec(h:i<q.length)(hx:q[i]=t):qN (q.take (i+1)) t=qN (q.take i) t:=by
 unfold qN;rw[fD h,adL];simp[hx]
def WM(q:List Int)(t:Int):(qN q t).length<=q.length:=List.length_filter_le ..
def aed(h:Da q)(t:Int):Da (qN q t):=⟨h.nodup.sublist List.filter_sublist,fun x hx=>h.range x (List.mem_filter.1 hx).1⟩
def iM(l:bY)(t:Int):Nat->bY×List Int
 |0=>(⟨l.owner,l.queue.map fun q=>qN q t⟩,[])
 |i+1=>((gd (iM l t i).1 i t).1,if(gd (iM l t i).1 i t).2.2=true/\0<=(gd (iM l t i).1 i t).2.1 then(iM l t i).2++ [(gd (iM l t i).1 i t).2.1] else(iM l t i).2)
def Db{l:bY}(h:jR l)(t:Int): ∀i,jR (iM l t i).1/\(iM l t i).2.length<=i/\ ∀x∈ (iM l t i).2,0<=x/\x<4
 |0=>⟨⟨h.A6,by simp[iM,h.A7],h.owner,fun i hi=>by
   simp only[iM,abJ]at hi;simp only[iM,adD];exact aed (h.queue i hi) t⟩,by simp[iM],fun x hx=>by cases hx⟩
 |i+1=>by
  obtain⟨h1,h2,h3⟩:=Db h t i;obtain⟨g1,g2,g3⟩:=GW h1 i t;refine⟨g1,?_,?_⟩
  ·unfold iM;simp only;split
   ·simp;omega
   ·omega
  ·unfold iM;simp only;split
   ·rename_i hc;intro x hx;rcases List.mem_append.1 hx with hx|hx
    ·exact h3 x hx
    ·simp only[adM]at hx;subst hx;omega
   ·exact h3
@[simp]def bql(bR:List Int)(bG:List (List Int))(hq:bG.length=4)(ho:bR.length<=1000000000)(hx: ∀i (h:i<bG.length),(bG[i]).length<=1000000000):ng X [(0,0,3),(0,1,22)] 253 [KKw bR bG]=some ((KKq ((bY.mk bR bG)):V)):=by
 refine aaC ?_;obtain⟨a,b,c,d,rfl⟩:=ID hq;have ha:=hx 0 (by simp);have hb:=hx 1 (by simp);have hc:=hx 2 (by simp);have hd:=hx 3 (by simp);simp at ha hb hc hd;simp[dI,kA];all_goals ((repeat' (first|apply And.intro|intro _))<;>first|omega|rfl)
@[simp]def bqm(bR:List Int)(bG:List (List Int))(hq:bG.length=4)(ho:bR.length<=1000000000)(hx: ∀i (h:i<bG.length),(bG[i]).length<=1000000000):ng X [(0,1,22)] 253 [KKw bR bG]=some ((KKq ((bY.mk bR bG)):V)):=by
 refine aaC ?_;obtain⟨a,b,c,d,rfl⟩:=ID hq;have ha:=hx 0 (by simp);have hb:=hx 1 (by simp);have hc:=hx 2 (by simp);have hd:=hx 3 (by simp);simp at ha hb hc hd;simp[dI,kA];all_goals ((repeat' (first|apply And.intro|intro _))<;>first|omega|rfl)
@[simp]def B2(bR:List Int)(bG:List (List Int))(lock t:Int)(h:jR (bY.mk bR bG)):bU X 208 [KKw bR bG,.int .i64 lock,.int .i64 t]=some (.dP [KKq ((gd (bY.mk bR bG) lock t).1),.int .i64 ((gd (bY.mk bR bG) lock t).2.1),.bool ((gd (bY.mk bR bG) lock t).2.2)]):=by
 refine aaA ?_;have h1:bR.length=4:=h.A6;have h2:bG.length=4:=h.A7;obtain⟨h3,h4⟩:=h.lens;simp only at h3 h4;have tk1:List.take 4 (bR.map (V.int .i64))=bR.map (V.int .i64):=aZ (by simp;omega);have tk2:List.take 4 (bG.map de)=bG.map de:=aZ (by simp;omega);have tk3: ∀(k:Nat) (v:V),List.take 4 ((bR.map (V.int .i64)).set k v)=(bR.map (V.int .i64)).set k v:=fun k v=>aZ (by simp;omega);have IJ: ∀(k:Nat) (v:V),List.take 4 ((bG.map de).set k v)=(bG.map de).set k v:=fun k v=>aZ (by simp;omega);have ds1: ∀(k:Nat) (x:Int),eV ((bR.map (V.int .i64)).set k (V.int .i64 x))=(bR.map (V.int .i64)).set k (V.int .i64 x):=fun k x=>by rw[<-List.map_set,GV]
 have ds2: ∀(k:Nat) (r:List Int),eV ((bG.map de).set k (V.sl false (r.map (V.int .i64))))=(bG.map de).set k (V.sl false (r.map (V.int .i64))):=fun k r=>by rw[<-kA,<-List.map_set,JE]
 by_cases c1:lock<0
 ·have e:gd (bY.mk bR bG) lock t=((bY.mk bR bG), -1,false):=by unfold gd;rw[if_pos (.inl c1)]
  rw[e];simp[h1,h2,h4,c1,tk1,tk2]
 by_cases c2:4<=lock
 ·have e:gd (bY.mk bR bG) lock t=((bY.mk bR bG), -1,false):=by unfold gd;rw[if_pos (.inr (.inl c2))]
  rw[e];simp[h1,h2,h4,c1,c2,tk1,tk2]
 obtain⟨k,rfl⟩:=aaG (show 0<=lock by omega);have k1:k<4:=by omega
 have k2:(k:Int)<4:=by omega
 have k3:k<bR.length:=by omega
 have k4:k<bG.length:=by omega
 have hn:nth bR (k:Int).toNat=bR[k]:=by rw[aaH,dE k3]
 by_cases c3:bR[k]=t
 case neg=>
  have e:gd (bY.mk bR bG) k t=((bY.mk bR bG), -1,false):=by unfold gd;rw[if_pos (.inr (.inr (by rw[hn];exact c3)))]
  rw[e];simp[h1,h2,h4,c1,c2,k1,k2,c3,tk1,tk2]
 have hg:bG.getD (k:Int).toNat []=bG[k]:=by simp[List.getD,k4]
 have c3t:=eq_true c3;cases hq:bG[k] with
 |nil=>
  have e:gd (bY.mk bR bG) k t=(⟨bR.set k (-1),bG⟩, -1,true):=by unfold gd;rw[if_neg (by rw[hn];omega),hg,hq];rfl
  have hr1:True:=trivial;rw[e];simp[h1,h2,h4,c1,c2,k1,k2,c3t,hq,tk2,tk3,ds1,kA]
 |cons x r=>
  have e:gd (bY.mk bR bG) k t=(⟨bR.set k x,bG.set k r⟩,x,true):=by unfold gd;rw[if_neg (by rw[hn];omega),hg,hq];rfl
  have hr1:(1:Int)<=(r.length:Int)+1:=by omega
  have hr:r.length<=4:=by have:=(h.queue k k4).len;simp only[hq,abP]at this;omega
  rw[e];simp[h1,h2,h4,c1,c2,k1,k2,c3t,hq,tk3,IJ,ds1,ds2,kA,hr1]
def wrap_u8(h:0<=n/\n<=255):IntKind.u8.wrap n=n:=by
 simp only[IntKind.wrap,IntKind.signed,IntKind.bits,acF];simp;omega
def wrap_u64(h:0<=n/\n<=4611686018427387904):IntKind.u64.wrap n=n:=by
 simp only[IntKind.wrap,IntKind.signed,IntKind.bits,acF];simp;omega
def pw(n:Int):Int:=2^n.toNat
def GY(k:Nat):pw (k:Int)=2^k:=rfl
def a1g: ∀k,k<16->IntKind.u16.wrap ((2:Int)^k)=2^k:=by decide+kernel
def bau: ∀k,k<8->IntKind.u8.wrap ((2:Int)^k)=2^k:=by decide+kernel
def sA(v:Int){n:Nat}(h:1<=n): ∃k:Nat,v % (n:Int)=(k:Int)/\k<n:=by
 have h1:=acD v (show(n:Int)≠0 by omega);have h2:=abW v (show 0<(n:Int) by omega);exact⟨(v % (n:Int)).toNat,by omega,by omega⟩
def uZ(v bit:Int):Int:=Go.Abs.bits .u16 .xor v (pw (bit % 16))
@[simp]def ap9(v bit:Int):bU X 99 [.int .u16 v,bit]=some (.int .u16 (uZ v bit)):=by
 refine aaA ?_;obtain⟨k,hk,yc⟩:=sA bit (n:=16) (by omega);have qT:bit % 16=k:=hk;have e:=wi (v:=bit) (n:=16) (by omega);have hr:bit.tmod 16=k\/bit.tmod 16=k-16:=by
  by_cases hn:bit.tmod 16<0
  ·rw[if_pos hn]at e;omega
  ·rw[if_neg hn]at e;omega
 have hw:IntKind.i64.wrap (bit.tmod 16+16)=bit.tmod 16+16:=wrap_i64 (by omega);have ht:(bit.tmod 16+16).tmod 16=k:=by
  rw[aaK (by omega)];omega
 have hkn: ¬(k:Int)<0:=by omega
 have hp:=a1g k yc;have hm:min k 16=k:=by omega
 have R7:IntKind.u16.bits=16:=rfl;unfold uZ;rw[qT];simp[hw,ht,hp,hm,R7,hkn,GY]
def Au(b:List Int)(f:cS):List Int:=
 if f.kind=6/\0<b.length then b.set (f.nV % b.length).toNat (Go.Abs.bits .u8 .xor (nth b (f.nV % b.length).toNat) (pw (f.bit % 8))) else b
@[simp]def alm(b:List Int)(kX gA kB ir eP ja:Int)(hb:b.length<=1000000000):bU X 48 [.sl false (b.map (V.int .u8)),.agg [kX,gA,kB,ir,eP,ja]]=some (.sl false ((Au b (cS.mk kX gA kB ir eP ja)).map (V.int .u8))):=by
 refine aaA ?_;have PX:b.length<=140737488355328:=by omega
 have Bn:b.length<=4611686018427387904:=by omega
 by_cases hk:kB=6
 case neg=>simp[hk,PX,Bn,Au]
 have qT:=eq_true hk;by_cases h0:0<b.length
 case neg=>
  have Lr:b=[]:=abT (by omega);subst Lr;simp[qT,Au]
 obtain⟨k,e1,k1⟩:=sA eP (n:=b.length) (by omega);obtain⟨j,e2,j1⟩:=sA ja (n:=8) (by omega);have e2':ja % 8=j:=e2;have hp:=bau j j1;have hm:min j 8=j:=by omega
 have hb8:IntKind.u8.bits=8:=rfl;have KK: ¬(j:Int)<0:=by omega
 have hn:1<=(b.length:Int)/\(b.length:Int)<=4611686018427387904:=by omega
 have xY:(k:Int)<b.length:=by omega
 have h0i:(0:Int)<b.length:=by omega
 have Cz:=dE k1;unfold Au;rw[if_pos ⟨hk,h0⟩];simp only[e1,e2',aaH];simp[qT,PX,Bn,h0,hn,e1,e2',hp,hm,hb8,KK,xY,k1,Cz,GY];rw[<-List.map_set,aZ (by simp),Wh]
def pP(f:cS):Bool:=decide (1<=f.kind)&& (decide (f.kind<=6)&& (decide (0<=f.time)&&decide (0<=f.dL)))
@[simp]def ah6(kX gA kB ir eP ja:Int):bU X 44 [.agg [kX,gA,kB,ir,eP,ja]]=some (.bool (pP (cS.mk kX gA kB ir eP ja))):=by
 refine aaA ?_;unfold pP;by_cases h1:1<=kB<;>by_cases h2:kB<=6<;>by_cases h3:0<=kX<;>simp[h1,h2,h3]
@[simp]def GZ(an:List Int)(hs:an.length<=1000)(hb: ∀x∈an,0<=x/\x<=1000000):bU X 101 [an]=some (.int .i64 (total an)):=by
 refine aaA ?_;simp;refine cY (fun i S=>(S.f 3= .int .i64 (total (an.take i))/\S.f 6=an/\S.f 7=((an).length:Int)/\S.f 8=(i:Int)/\S.n=1100)/\(0<=total (an.take i)/\total (an.take i)<=1000000*i)) (an.length) (by omega) ?_ ?_ ?_
 ·rintro i S ⟨oY,gS,bL⟩ ⟨df,fg⟩;simp[df,gS,bL]<;>(
   have hx:=hb _ (aaL bL);rw[fD bL,tZ];rw[wrap_i64 (by omega)];exact⟨rfl,by omega,by omega⟩)
 ·rintro S ⟨df,fg⟩;simp[df]
 ·simp<;>(
   simp[total])
@[simp]def Oo(an:List Int)(i:Int)(hz:oI an)(hi:0<=i/\i<=1000000):bU X 100 [an,i]=some (.dP [KKz ((oJ an i 0).1),.int .i64 ((oJ an i 0).2)]):=by
 refine aaA ?_;have hz':=hz.le;simp[hi];refine cY (fun k S=>(S.f 1= .int .i64 (i-total (an.take k))/\S.f 4= .ptr 4 0 0/\S.h 4=some ⟨2,[KKC 0 0],true⟩/\S.f 10=an/\S.f 11=((an).length:Int)/\S.f 12=(k:Int)/\S.n=1100)/\(oJ an i 0=oJ (an.drop k) (i-total (an.take k)) k/\0<=total (an.take k)/\total (an.take k)<=32*k/\total (an.take k)<=i)) (an.length) (by omega) ?_ ?_ ?_
 ·rintro k S ⟨Jc,ER,kK⟩ ⟨df,fg⟩;have he:=hz.elem k kK;obtain⟨r9,Py,hP3,hP4⟩:=fg;have hs:oJ (an.drop k) (i-total (an.take k)) k=if 0<=i-total (an.take k)/\i-total (an.take k)<an[k] then(⟨k,i-total (an.take k)⟩,0) else oJ (an.drop (k+1)) (i-total (an.take k)-an[k]) (k+1):=by
   rw[drop_cons kK];rfl
  have ht:total (an.take (k+1))=total (an.take k)+an[k]:=by rw[fD kK,tZ]
  have hw:IntKind.i64.wrap (i-total (an.take k)-an[k])=i-total (an.take k)-an[k]:=wrap_i64 (by omega);rw[r9,hs];by_cases hc:i-total (an.take k)<an[k]
  ·rw[if_pos ⟨by omega,hc⟩];simp[df,kK,hc]
  ·rw[if_neg (fun h=>hc h.2)];have e3:i-(total (an.take k)+an[k])=i-total (an.take k)-an[k]:=by omega
   simp[df,ER,kK,ht,hw,hc,e3];all_goals omega
 ·rintro S ⟨df,fg⟩;simp[df]<;>(
   rw[fg.1];simp[oJ])
 ·simp<;>(
   simp[total];omega)
@[simp]def A8(hx:bh)(l:List Entry):cF (l.map (cy hx 12∘Entry.e))=some (l.map Entry.e):=pX (fun _=>rfl) l
@[simp]def ae1(aP:List Instr)(aN:List Int)(aQ:List (List Int))(aE:List Int)(aG:Int)(aJ:List Cell)(aK:List cw)(az:List Thread)(bk aX:List Int)(aY:List (List Int))(aM:List (List Canon))(aH:List fQ)(aS:List Output)(bD:List Int)(bE:List (List Int))(cC:List Entry)(cz:List Int)(hR:cC.length<=1000000)(hJ:cz.length<=1000000):ng X [(0,16,65),(0,17,3)] 136 [KKJ aP aN aQ aE aG aJ aK az bk aX aY aM aH aS bD bE cC cz]=some ((KKX ((uN.mk (Prog.mk aP aN aQ) (aO.mk (Layout.mk aE aG) (aF.mk aJ aK) az) (cU.mk bk aX aY (bJ.mk aM aH) aS) (bY.mk bD bE) cC cz)):V)):=by
 refine aaC ?_;simp;all_goals ((repeat' (first|apply And.intro|intro _))<;>first|omega|rfl)
@[simp]def a2e(l:List Int)(h:bh)(k:Nat):cL X 18 [l] h k=some (.ptr (k+3) 0 0,aR h (k+3) (some ⟨2,[KKa l 0],true⟩),k+5):=by
 obtain⟨v,h',n',e1,e2,e3,e4⟩:=bC (X:=X) (g:=18) (args:=[.sl false (l.map (V.int .i64))]) (h:=h) (k:=k) (K:=fun v h' n'=>v= .ptr (k+3) 0 0/\h'=aR h (k+3) (some ⟨2,[KKa l 0],true⟩)/\n'=k+5) Tryz.func18 rfl rfl (by
  simp[aaE])
 rw[e1,e2,e3,e4]
def py(an:List Int)(l:List Canon):Bool:=l.all (proper an)
def l5(an:List Int)(l:List (List Canon)):Bool:=l.all (py an)
def G9{l:List Canon}(h:i<l.length):py z (l.take (i+1))=(py z (l.take i)&&proper z l[i]):=vt h
def SB{l:List Canon}(h:i<l.length)(hp:proper z l[i]=false):py z l=false:=vr h hp
def D5{l:List Canon}:py z (l.take l.length)=py z l:=by rw[abC]
def D6{l:List (List Canon)}(h:i<l.length):l5 z (l.take (i+1))=(l5 z (l.take i)&&py z l[i]):=vt h
def OC{l:List (List Canon)}(h:i<l.length)(hp:py z l[i]=false):l5 z l=false:=vr h hp
def Cb{l:List (List Canon)}:l5 z (l.take l.length)=l5 z l:=by rw[abC]
@[simp]def ae2(an:List Int)(bn:List (List Canon))(bc:List fQ)(h1:bn.length<=1000000000)(h2: ∀i (h:i<bn.length),(bn[i]).length<=1000000000):bU X 131 [.sl false (an.map (V.int .i64)),KKk bn bc]=some (.bool (l5 an bn)):=by
 refine aaA ?_;simp;refine cY (fun i S=>(S.f 0=an/\S.f 10=bn/\S.f 11=((bn).length:Int)/\S.f 12=(i:Int)/\S.n=1100)/\(l5 an (bn.take i)=true)) (bn.length) (by omega) ?_ ?_ ?_
 ·rintro i S ⟨oY,gS,bL⟩ ⟨df,fg⟩;have g:=h2 i bL;simp[df,bL];refine cY (fun j S=>(S.f 0=an/\S.f 10=bn/\S.f 11=((bn).length:Int)/\S.f 12=(i:Int)/\S.f 16= .sl false ((bn[i]).map Canon.e)/\S.f 17= .int .i64 (((bn[i]).length:Int))/\S.f 18=(j:Int)/\S.n=1100)/\(py an ((bn[i]).take j)=true)) ((bn[i]).length) (by omega) ?_ ?_ ?_
  ·rintro j S ⟨mj,uD,jq⟩ ⟨lB,r9⟩;have up:=G9 (z:=an) jq;rw[r9]at up;cases q:proper an (bn[i])[j] with
   |false=>
    have hb:=OC bL (SB jq q);simp[lB,jq,q,hb]
   |true=>
    rw[q]at up;simp[lB,uD,jq,q,up]
  ·rintro S ⟨lB,r9⟩;rw[D5]at r9;have up:=D6 (z:=an) bL;rw[fg,r9]at up;simp[bL,lB,up,gS];try omega
  ·simp[df]<;>(
    rfl)
 ·rintro S ⟨df,fg⟩;simp[df]<;>(
   rw[Cb]at fg;simp[fg])
 ·simp<;>(
   rfl)
def auy{q:List (List Int)}(h:i<q.length):((q.take (i+1)).any fun x=>x.contains t)=(((q.take i).any fun x=>x.contains t)||(q[i]).contains t):=by
 rw[fD h,List.any_append];simp only[List.any_cons,List.any_nil,Bool.or_false]
def aml(h:i<q.length):(q.take (i+1)).contains t=((q.take i).contains t||decide (t=q[i])):=by
 rw[fD h];simp only[List.contains_eq_mem,aeD,adM,Bool.decide_or]
@[simp]def afq(bR:List Int)(bG:List (List Int))(k:Nat)(hq:bG.length=4)(ho:bR.length<=1000000000)(hx: ∀i (h:i<bG.length),(bG[i]).length<=1000000000): ∃h',cL X 253 [KKw bR bG] pK k=some (.agg [.cx (k+4) 0 bR.length,.cx (k+63) 0 4],h',k+71)/\h' (k+4)=some ⟨1,bR.map (V.int .i64),false⟩/\h' (k+63)=some ⟨1,[.cx (k+19) 0 (bG[0]'(by omega)).length,.cx (k+33) 0 (bG[1]'(by omega)).length,.cx (k+47) 0 (bG[2]'(by omega)).length,.cx (k+61) 0 (bG[3]'(by omega)).length],true⟩/\h' (k+19)=some ⟨1,(bG[0]'(by omega)).map (V.int .i64),false⟩/\h' (k+33)=some ⟨1,(bG[1]'(by omega)).map (V.int .i64),false⟩/\h' (k+47)=some ⟨1,(bG[2]'(by omega)).map (V.int .i64),false⟩/\h' (k+61)=some ⟨1,(bG[3]'(by omega)).map (V.int .i64),false⟩:=by
 obtain⟨a,b,c,d,rfl⟩:=ID hq;have ha:=hx 0 (by simp);have hb:=hx 1 (by simp);have hc:=hx 2 (by simp);have hd:=hx 3 (by simp);simp at ha hb hc hd;obtain⟨v,h',n',e,g1,g2,g3,g4,g5,g6,g7,g8⟩:=bC (X:=X) (g:=253) (args:=[(KKw bR ([a,b,c,d]:List (List Int)):V)]) (h:=pK) (k:=k) (K:=fun v h n=>v= .agg [.cx (k+4) 0 bR.length,.cx (k+63) 0 4]/\n=k+71/\h (k+4)=some ⟨1,bR.map (V.int .i64),false⟩/\h (k+63)=some ⟨1,[.cx (k+19) 0 a.length,.cx (k+33) 0 b.length,.cx (k+47) 0 c.length,.cx (k+61) 0 d.length],true⟩/\
   h (k+19)=some ⟨1,a.map (V.int .i64),false⟩/\h (k+33)=some ⟨1,b.map (V.int .i64),false⟩/\h (k+47)=some ⟨1,c.map (V.int .i64),false⟩/\h (k+61)=some ⟨1,d.map (V.int .i64),false⟩) Tryz.func253 rfl rfl (by
  simp[dI,aaE,kA];all_goals ((repeat' (first|apply And.intro|intro _))<;>first|omega|rfl))
 subst g1;subst g2;exact⟨h',e,g3,g4,g5,g6,g7,g8⟩
def vU(l:bY)(i:Nat):List Int:=l.queue.getD i []
def bbt(l:bY)(lock t:Int)(i:Nat)(S:St):Prop:=(S.f 1= .int .i64 lock/\S.f 2= .int .i64 t/\S.f 3= .ptr 0 0 0/\S.f 6= .ptr 1 0 0/\S.f 8= .ptr 5 0 0/\S.f 32= .sl false (l.queue.map de)/\S.f 33= .int .i64 4/\S.f 34= .int .i64 (i:Int))/\(S.h 0=some ⟨2,[KKq l],true⟩/\S.h 1=some ⟨2,[.agg [.sl true [],.sl true []]],true⟩/\S.h 5=some ⟨2,[.agg [.cx 11 0 4,.cx 70 0 4]],true⟩/\S.h 11=some ⟨1,l.owner.map (V.int .i64),false⟩/\S.h 70=some ⟨1,[.cx 26 0 (vU l 0).length,.cx 40 0 (vU l 1).length,.cx 54 0 (vU l 2).length,.cx 68 0 (vU l 3).length],true⟩/\
  S.h 26=some ⟨1,(vU l 0).map (V.int .i64),false⟩/\S.h 40=some ⟨1,(vU l 1).map (V.int .i64),false⟩/\S.h 54=some ⟨1,(vU l 2).map (V.int .i64),false⟩/\S.h 68=some ⟨1,(vU l 3).map (V.int .i64),false⟩)/\78<=S.n/\((l.queue.take i).any fun x=>x.contains t)=false
def bbu(l:bY)(lock t:Int)(i j:Nat)(S:St):Prop:=((S.f 1= .int .i64 lock/\S.f 2= .int .i64 t/\S.f 3= .ptr 0 0 0/\S.f 6= .ptr 1 0 0/\S.f 8= .ptr 5 0 0/\S.f 32= .sl false (l.queue.map de)/\S.f 33= .int .i64 4/\S.f 34= .int .i64 (i:Int))/\(S.h 0=some ⟨2,[KKq l],true⟩/\S.h 1=some ⟨2,[.agg [.sl true [],.sl true []]],true⟩/\S.h 5=some ⟨2,[.agg [.cx 11 0 4,.cx 70 0 4]],true⟩/\S.h 11=some ⟨1,l.owner.map (V.int .i64),false⟩/\S.h 70=some ⟨1,[.cx 26 0 (vU l 0).length,.cx 40 0 (vU l 1).length,.cx 54 0 (vU l 2).length,.cx 68 0 (vU l 3).length],true⟩/\
  S.h 26=some ⟨1,(vU l 0).map (V.int .i64),false⟩/\S.h 40=some ⟨1,(vU l 1).map (V.int .i64),false⟩/\S.h 54=some ⟨1,(vU l 2).map (V.int .i64),false⟩/\S.h 68=some ⟨1,(vU l 3).map (V.int .i64),false⟩)/\78<=S.n/\((l.queue.take i).any fun x=>x.contains t)=false)/\S.f 38= .sl false ((vU l i).map (V.int .i64))/\S.f 39= .int .i64 (vU l i).length/\S.f 40= .int .i64 (j:Int)/\((vU l i).take j).contains t=false
@[simp]def LD(bR:List Int)(bG:List (List Int))(lock t:Int)(h:jR (bY.mk bR bG)):bU X 255 [KKw bR bG,.int .i64 lock,.int .i64 t]=some (.dP [KKq ((qj (bY.mk bR bG) lock t).1),.int .i64 ((qj (bY.mk bR bG) lock t).2)]):=by
 refine aaA ?_;have h1:bR.length=4:=h.A6;have h2:bG.length=4:=h.A7;obtain⟨h3,h4⟩:=h.lens;simp only at h3 h4;have bbv: ∀i (g:i<bG.length),(bG[i]).length<=4:=fun i g=>(h.queue i g).len;obtain⟨hC,eC,gO,gQ,g0,g1,g2,g3⟩:=afq bR bG 7 h2 h3 h4;simp only[Nat.reduceAdd,h1]at eC gO gQ g0 g1 g2 g3;have qa: ∀i (g:i<bG.length),vU (bY.mk bR bG) i=bG[i]:=fun i g=>by simp[vU,List.getD,g]
 rw[<-qa 0 (by omega),<-qa 1 (by omega),<-qa 2 (by omega),<-qa 3 (by omega)]at gQ;rw[<-qa 0 (by omega)]at g0;rw[<-qa 1 (by omega)]at g1;rw[<-qa 2 (by omega)]at g2;rw[<-qa 3 (by omega)]at g3;have q16: ∀i,i<4->(vU (bY.mk bR bG) i).length<=4:=fun i hi=>by rw[qa i (by omega)];exact bbv i (by omega)
 have tG: ∀(l:List Int),List.take l.length (l.map (V.int .i64))=l.map (V.int .i64):=fun l=>aZ (by simp);have ow:List.take 4 (bR.map (V.int .i64))=bR.map (V.int .i64):=aZ (by simp;omega);have tk3: ∀(k:Nat) (v:V),List.take 4 ((bR.map (V.int .i64)).set k v)=(bR.map (V.int .i64)).set k v:=fun k v=>aZ (by simp;omega);have ds1: ∀(k:Nat) (x:Int),eV ((bR.map (V.int .i64)).set k (V.int .i64 x))=(bR.map (V.int .i64)).set k (V.int .i64 x):=fun k x=>by rw[<-List.map_set,GV]
 have P3: ∀(l:List Int),eV (List.take (l.length+1) (l.map (V.int .i64)++ [V.int .i64 t]))=l.map (V.int .i64)++ [V.int .i64 t]:=fun l=>by rw[aZ (by simp),show l.map (V.int .i64)++ [V.int .i64 t]=(l++ [t]).map (V.int .i64) from by simp,GV]
 have tq0:=tG (vU (bY.mk bR bG) 0);have tq1:=tG (vU (bY.mk bR bG) 1);have tq2:=tG (vU (bY.mk bR bG) 2);have tq3:=tG (vU (bY.mk bR bG) 3);have hq5:bG=[vU (bY.mk bR bG) 0,vU (bY.mk bR bG) 1,vU (bY.mk bR bG) 2,vU (bY.mk bR bG) 3]:=by
  obtain⟨a,b,c,d,rfl⟩:=ID h2;rfl
 have hq4:([V.sl false ((vU (bY.mk bR bG) 0).map (V.int .i64)),V.sl false ((vU (bY.mk bR bG) 1).map (V.int .i64)),V.sl false ((vU (bY.mk bR bG) 2).map (V.int .i64)),V.sl false ((vU (bY.mk bR bG) 3).map (V.int .i64))]:List V)=bG.map de:=by
  rw[hq5];rfl
 have dq:eV (bG.map de)=bG.map de:=JE _;by_cases c1:lock<0
 ·have e:qj (bY.mk bR bG) lock t=((bY.mk bR bG),2):=by unfold qj;rw[if_pos (.inl c1)]
  rw[e];simp[h1,c1,eC,gO,gQ,g0,g1,g2,g3,ow,tq0,tq1,tq2,tq3,hq4,dq]
 by_cases c2:4<=lock
 ·have e:qj (bY.mk bR bG) lock t=((bY.mk bR bG),2):=by unfold qj;rw[if_pos (.inr (.inl c2))]
  rw[e];simp[h1,c1,c2,eC,gO,gQ,g0,g1,g2,g3,ow,tq0,tq1,tq2,tq3,hq4,dq]
 obtain⟨k,rfl⟩:=aaG (show 0<=lock by omega);have k1:k<4:=by omega
 have k2:k<bR.length:=by omega
 have E3:(k:Int)<4:=by omega
 have hnk:nth bR (k:Int).toNat=bR[k]:=by rw[aaH,dE k2]
 have hgk:bG.getD (k:Int).toNat []=bG[k]:=by simp[List.getD,show k<bG.length by omega]
 by_cases BD:bR[k]=t
 ·have bbx:=eq_true BD;have e:qj (bY.mk bR bG) k t=((bY.mk bR bG),2):=by unfold qj;rw[if_pos (.inr (.inr (by rw[hnk];exact BD)))]
  rw[e];simp[c1,c2,k1,E3,h1,bbx,eC,gO,gQ,g0,g1,g2,g3,ow,tq0,tq1,tq2,tq3,hq4,dq]
 have auz:wB (bY.mk bR bG) t=true->qj (bY.mk bR bG) k t=((bY.mk bR bG),2):=fun hi=>by unfold qj;rw[if_neg (by rw[hnk];omega),if_pos hi]
 simp[c1,c2,k1,E3,h1,h2,BD,eC];refine lW (bbt (bY.mk bR bG) k t) 4 ?_ 0 (by simp) ?_
 ·rintro i S hi ⟨⟨f1,f2,f3,f6,f8,f32,f33,f34⟩,⟨z0,z1,z5,z11,z70,z26,z40,z54,z68⟩,hn,han⟩;have m1: ∀a j,a<78-> ¬a=S.n+j:=fun a j ha=>by omega
  have m2: ∀a j,a<78-> ¬S.n+j=a:=fun a j ha=>by omega
  have m3: ∀a,a<78-> ¬S.n=a:=fun a ha=>by omega
  have bq: ∀i,i<4->((vU (bY.mk bR bG) i).length+1)*8<=140737488355328:=fun i hi=>by have:=q16 i hi;omega
  have cq: ∀i,i<4->(vU (bY.mk bR bG) i).length<=4611686018427387903:=fun i hi=>by have:=q16 i hi;omega
  have hw:=mZ i (by omega);by_cases gZ:i<4
  case neg=>
   obtain rfl:i=4:=by omega
   have Po:wB (bY.mk bR bG) t=false:=by
    have:=han;rwa[aZ (by first|omega|(simp only;omega))]at this
   have g4:((4:Nat):Int)=4:=rfl;by_cases c4:bR[k]= -1
   ·have c4t:=eq_true c4;have e:qj (bY.mk bR bG) k t=(⟨bR.set k t,bG⟩,0):=by unfold qj;rw[if_neg (by rw[hnk];omega),if_neg (by rw[Po];simp),if_pos (by rw[hnk];exact c4)];rfl
    rw[e];simp[h1,k1,E3,dq,tq0,tq1,tq2,tq3,hq4,f1,f2,f3,f6,f8,f33,f34,z0,z1,z5,z11,z70,z26,z40,z54,z68,g4,c4t,tk3,ds1]
   have e:qj (bY.mk bR bG) k t=(⟨bR,bG.set k (bG[k]++ [t])⟩,1):=by unfold qj;rw[if_neg (by rw[hnk];omega),if_neg (by rw[Po];simp),if_neg (by rw[hnk];exact c4),hgk];rfl
   rw[e];have kc:k=0\/k=1\/k=2\/k=3:=by omega
   rcases kc with rfl|rfl|rfl|rfl
   ·simp[h1,k1,ow,kA,tq0,tq1,tq2,tq3,f1,f2,f3,f6,f8,f33,f34,z0,z1,z5,z11,z70,z26,z40,z54,z68,m3,bq,cq,g4,c4,P3];rw[<-hq4,<-qa _ (by omega)];rfl
   ·simp[h1,k1,ow,kA,tq0,tq1,tq2,tq3,f1,f2,f3,f6,f8,f33,f34,z0,z1,z5,z11,z70,z26,z40,z54,z68,m3,bq,cq,g4,c4,P3];rw[<-hq4,<-qa _ (by omega)];rfl
   ·simp[h1,k1,ow,kA,tq0,tq1,tq2,tq3,f1,f2,f3,f6,f8,f33,f34,z0,z1,z5,z11,z70,z26,z40,z54,z68,m3,bq,cq,g4,c4,P3];rw[<-hq4,<-qa _ (by omega)];rfl
   ·simp[h1,k1,ow,kA,tq0,tq1,tq2,tq3,f1,f2,f3,f6,f8,f33,f34,z0,z1,z5,z11,z70,z26,z40,z54,z68,m3,bq,cq,g4,c4,P3];rw[<-hq4,<-qa _ (by omega)];rfl
  have yd:i<bG.length:=by omega
  have bby:(i:Int)<4:=by omega
  have up:=auy (t:=t) yd;simp only at han;rw[han]at up;have hqi:=qa i yd;simp[f32,f33,f34,h2,gZ,bby,kA];rw[<-hqi];refine lW (bbu (bY.mk bR bG) k t i) (vU (bY.mk bR bG) i).length ?_ 0 (by simp) ?_
  ·rintro j S2 hj ⟨⟨⟨e1,e2,e3,e6,e8,e32,e33,e34⟩,⟨y0,y1,y5,y11,y70,y26,y40,y54,y68⟩,yn,yan⟩,e38,e39,e40,hbj⟩;have n1: ∀a j,a<78-> ¬a=S2.n+j:=fun a j ha=>by omega
   have n2: ∀a j,a<78-> ¬S2.n+j=a:=fun a j ha=>by omega
   have uD:IntKind.i64.wrap ((j:Int)+1)=(j:Int)+1:=wrap_i64 (by have:=q16 i gZ;omega);by_cases L6:j<(vU (bY.mk bR bG) i).length
   case neg=>
    obtain rfl:j=(vU (bY.mk bR bG) i).length:=by omega
    rw[abC]at hbj;rw[<-hqi,hbj]at up;simp[e34,e39,e40,hw,gZ];refine⟨?_,?_,by first|omega|(simp only;omega),up⟩
    ·simp[aR,e1,e2,e3,e6,e8,e32,e33]
    ·exact⟨y0,y1,y5,y11,y70,y26,y40,y54,y68⟩
   have OO:(j:Int)<(vU (bY.mk bR bG) i).length:=by omega
   have upj:=aml (t:=t) L6;rw[hbj]at upj;by_cases hx:(vU (bY.mk bR bG) i)[j]=t
   ·have Ig:=eq_true hx;have bb8:wB (bY.mk bR bG) t=true:=by
     unfold wB;rw[aeQ];exact⟨_,aaL yd,by rw[<-hqi];exact List.contains_iff_mem.2 (hx▸aaL L6)⟩
    rw[auz bb8];simp[e2,e6,e8,y1,y5,y11,y70,y26,y40,y54,y68,e38,e39,e40,L6,OO,Ig,h1,ow,tq0,tq1,tq2,tq3,hq4,dq]
   ·have hxn: ¬t=(vU (bY.mk bR bG) i)[j]:=fun e=>hx e.symm;simp[e2,e38,e39,e40,L6,OO,hx,uD];refine⟨⟨?_,?_,by first|omega|(simp only;omega),yan⟩,?_,?_,?_,?_⟩
    ·simp[aR,e1,e2,e3,e6,e8,e32,e33,e34]
    ·exact⟨y0,y1,y5,y11,y70,y26,y40,y54,y68⟩
    ·simp[aR,e38]
    ·simp[aR,e39]
    ·simp[aR]
    ·rw[upj];simp[hxn]
  ·refine⟨⟨?_,?_,by first|omega|(simp only;omega),han⟩,?_,?_,?_,?_⟩
   ·simp[aR,f1,f2,f3,f6,f8,f32,f33,f34]
   ·exact⟨z0,z1,z5,z11,z70,z26,z40,z54,z68⟩
   ·simp[aR,hqi]
   ·simp[aR,hqi]
   ·simp[aR]
   ·simp
 ·refine⟨?_,?_,by first|omega|(simp only;omega),?_⟩
  ·simp[aR]
  ·simp[aR,gO,gQ,g0,g1,g2,g3]
  ·simp
end Go.Proofs.YtdngefmliibcgaaGreat
