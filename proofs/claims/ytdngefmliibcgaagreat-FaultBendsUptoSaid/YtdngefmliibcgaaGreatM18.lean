/- Part of a proof: F23. -/
import Derived.Test.YtdngefmliibcgaaGreatM05
import Derived.Test.YtdngefmliibcgaaGreatM08
import Derived.Test.YtdngefmliibcgaaGreatM14
import Derived.Test.YtdngefmliibcgaaGreatM15
import Derived.Test.YtdngefmliibcgaaGreatM16
import Derived.Test.YtdngefmliibcgaaGreatM17
set_option linter.all false
set_option maxRecDepth 20000
set_option maxHeartbeats 20000000
namespace Go.Proofs.YtdngefmliibcgaaGreat
open Go Go.Abs Go.Abs.fJ
def V4(k:Nat)(l:List Int)(v:V)(h:aG)(n:Nat):Prop:=(l=[]∧v= .sl true [])∨(0<l.length∧ ∃id,k≤id∧id<n∧v= .bJ id 0 l.length∧h id=some ⟨1,l.map (V.int .i64),false⟩)
theorem V4.mono{k n n':Nat}{l:List Int}{v:V}{h h':aG}(H:V4 k l v h n)(hn:n≤n')(hh: ∀i,i<n→h' i=h i):V4 k l v h' n':=by
 rcases H with H|⟨h0,id,k1,k2,e,g⟩
 ·exact .inl H
 ·exact .inr ⟨h0,id,k1,by omega,e,by rw[hh _ k2,g]⟩
def ZT(h:aG)(k:Nat)(l:List Entry)(v:V):Prop:=v= .sl false (l.map Entry.enc)∨ ∃R es,R<k∧v= .bJ R 0 l.length∧h R=some ⟨18,es,false⟩∧es=l.map Entry.enc
def ZU(h:aG)(k:Nat)(l:List Int)(v:V):Prop:=v= .sl false (l.map (V.int .i64))∨ ∃R,R<k∧v= .bJ R 0 l.length∧h R=some ⟨1,l.map (V.int .i64),false⟩
structure V5 (p:Prog) (d:Int) (c:Nat) (h:aG) (k T:Nat) (vR vJ:V) (m:aJ) (o:j6) (l:ga) (js:List Int) (rc:List Entry):Prop where
 row:h T=some ⟨8,m.threads.map Thread.enc,false⟩
 rcd:ZT h k rc vR
 jns:ZU h k js vJ
 lt:c≤T∧T<k
 loR: ∀i n,vR= .bJ i 0 n→c≤i
 loJ: ∀i n,vJ= .bJ i 0 n→c≤i
 sep:(∀n,vR≠ .bJ T 0 n)∧(∀n,vJ≠ .bJ T 0 n)∧ ∀i n m,vR= .bJ i 0 n→vJ≠ .bJ i 0 m
 ZQ:cp p d m
 outs:DO o
 uq:oZ l
 agq:js.length=4
 aqw:rc.length≤300
theorem V5.mono{p:Prog}{d:Int}{c:Nat}{h h':aG}{k k' T:Nat}{vR vJ:V}{m:aJ}{o:j6}{l:ga}{js:List Int}{rc:List Entry}(H:V5 p d c h k T vR vJ m o l js rc)(hk:k≤k')(hh: ∀i,c≤i→i<k→h' i=h i):V5 p d c h' k' T vR vJ m o l js rc:=by
 obtain⟨h1,h2,h3,h4,h5,h6,h7,h8,h9,qF,zI,zi⟩:=H;refine⟨by rw[hh _ h4.1 h4.2,h1],?_,?_,⟨h4.1,by omega⟩,h5,h6,h7,h8,h9,qF,zI,zi⟩
 ·rcases h2 with e|⟨R,es,q1,q2,q3,q4⟩
  ·exact .inl e
  ·exact .inr ⟨R,es,by omega,q2,by rw[hh _ (h5 _ _ q2) q1,q3],q4⟩
 ·rcases h3 with e|⟨R,q1,q2,q3⟩
  ·exact .inl e
  ·exact .inr ⟨R,by omega,q2,by rw[hh _ (h6 _ _ q2) q1,q3]⟩
structure Gj (h:aG) (c n:Nat) (s:State) (R T:Nat) (ri vi:Nat→Nat):Prop where
 row:h R=some ⟨1,oK ri s.regions,true⟩
 vow:h T=some ⟨8,BS vi s.threads,true⟩
 rat: ∀i (g:i<s.regions.length),h (ri i)=some ⟨4,(s.regions[i]).map Canon.enc,false⟩
 vat: ∀i (g:i<s.threads.length),h (vi i)=some ⟨4,(s.threads[i]).aO.map Canon.enc,false⟩
 lt:(c≤R∧R<n)∧(c≤T∧T<n)∧R≠T
 lr: ∀i,i<s.regions.length→c≤ri i∧ri i<n∧ri i≠R∧ri i≠T
 lv: ∀i,i<s.threads.length→c≤vi i∧vi i<n∧vi i≠R∧vi i≠T
 rr: ∀i j,i<s.regions.length→j<s.regions.length→i≠j→ri i≠ri j
 vv: ∀i j,i<s.threads.length→j<s.threads.length→i≠j→vi i≠vi j
 rv: ∀i j,i<s.regions.length→j<s.threads.length→ri i≠vi j
theorem ZN.R{k n:Nat}{s:State}{v:V}{h:aG}(H:ZN k n s v h)(h1:0<s.regions.length)(h2:0<s.threads.length): ∃R T ri vi,v= .agg [.bJ R 0 s.regions.length,.bJ T 0 s.threads.length]∧Gj h k n s R T ri vi:=by
 obtain⟨vR,vT,n1,rfl,HR,HV,k1,k2⟩:=H;rcases HR with⟨e,_⟩|⟨_,R,ri,rfl,r1,r2,r3,r4⟩
 ·rw[e]at h1;simp at h1
 rcases HV with⟨e,_⟩|⟨_,T,vi,rfl,t1,t2,t3,t4⟩
 ·rw[e]at h2;simp at h2
 refine⟨R,T,ri,vi,rfl,r1,t1,fun i g=>(r3 i g).1,fun i g=>(t3 i g).1,⟨⟨r2.1,by omega⟩,⟨by omega,by omega⟩,by omega⟩,fun i g=> ?_,fun i g=> ?_,r4,t4,fun i j gi gj=> ?_⟩
 ·obtain⟨_,a1,a2,a3⟩:=r3 i g;exact⟨a1,by omega,a3,by omega⟩
 ·obtain⟨_,a1,a2,a3⟩:=t3 i g;exact⟨by omega,a2,by omega,a3⟩
 ·obtain⟨_,a1,a2,a3⟩:=r3 i gi;obtain⟨_,b1,b2,b3⟩:=t3 j gj;omega
theorem Gj.mono{h h':aG}{c n n':Nat}{s:State}{R T:Nat}{ri vi:Nat→Nat}(H:Gj h c n s R T ri vi)(hn:n≤n')(hh: ∀i,c≤i→i<n→h' i=h i):Gj h' c n' s R T ri vi:=by
 obtain⟨a1,a2,a3,a4,a5,a6,a7,a8,a9,PK⟩:=H;refine⟨by rw[hh _ a5.1.1 a5.1.2,a1],by rw[hh _ a5.2.1.1 a5.2.1.2,a2],fun i g=>by rw[hh _ (a6 i g).1 (a6 i g).2.1,a3],fun i g=>by rw[hh _ (a7 i g).1 (a7 i g).2.1,a4],by omega,fun i g=> ?_,fun i g=> ?_,a8,a9,PK⟩
 ·obtain⟨b1,b2,b3,b4⟩:=a6 i g;exact⟨b1,by omega,b3,b4⟩
 ·obtain⟨b1,b2,b3,b4⟩:=a7 i g;exact⟨b1,by omega,b3,b4⟩
theorem Kf{ri:Nat→Nat}{l:List (List Canon)}{i:Nat}{x:List Canon}(h:i<l.length)(hx:x.length=(l[i]).length):oK ri (l.set i x)=oK ri l:=by
 apply List.ext_getElem?;intro j;simp only[oK,List.getElem?_mapIdx,List.getElem?_set];by_cases e:i=j
 ·subst e;simp[h,hx]
 ·simp[e]
def o5(s:State)(i:Nat)(x:List Canon):State:=⟨s.regions.set i x,s.threads⟩
theorem Gj.o5{h h':aG}{c n n':Nat}{s:State}{R T:Nat}{ri vi:Nat→Nat}(H:Gj h c n s R T ri vi)(hn:n≤n'){i:Nat}(hi:i<s.regions.length){x:List Canon}(hx:x.length=(s.regions[i]).length)(hw:h' (ri i)=some ⟨4,x.map Canon.enc,false⟩)(hh: ∀j,c≤j→j<n→j≠ri i→h' j=h j):Gj h' c n' (o5 s i x) R T ri vi:=by
 obtain⟨a1,a2,a3,a4,a5,a6,a7,a8,a9,PK⟩:=H;unfold Go.Proofs.YtdngefmliibcgaaGreat.o5;have q:=a6 i hi;refine⟨by rw[hh _ a5.1.1 a5.1.2 (fun e=>q.2.2.1 e.symm),a1,Kf hi hx],by rw[hh _ a5.2.1.1 a5.2.1.2 (fun e=>q.2.2.2 e.symm),a2],fun j g=> ?_,fun j g=> ?_,by omega,fun j g=> ?_,fun j g=> ?_,fun j l g1 g2=>a8 j l (by simpa using g1) (by simpa using g2),a9,fun j l g1=>PK j l (by simpa using g1)⟩
 ·have gj:j<s.regions.length:=by simpa using g
  by_cases e:i=j
  ·subst e;simp only[List.getElem_set_self];exact hw
  ·rw[hh _ (a6 j gj).1 (a6 j gj).2.1 (a8 j i gj hi (fun x=>e x.symm)),a3 j gj];simp only[List.getElem_set_ne e]
 ·rw[hh _ (a7 j g).1 (a7 j g).2.1 (fun e=>PK i j hi g e.symm),a4 j g]
 ·obtain⟨b1,b2,b3,b4⟩:=a6 j (by simpa using g);exact⟨b1,by omega,b3,b4⟩
 ·obtain⟨b1,b2,b3,b4⟩:=a7 j g;exact⟨b1,by omega,b3,b4⟩
theorem Gj.pure{h:aG}{c n:Nat}{s:State}{R T:Nat}{ri vi:Nat→Nat}(H:Gj h c n s R T ri vi):Gj (fun i=>iy (h i)) c n s R T ri vi:=by
 obtain⟨a1,a2,a3,a4,a5,a6,a7,a8,a9,PK⟩:=H;have e1:(oK ri s.regions).all V.B5=true:=by
  rw[List.all_eq_true];intro x hx;simp only[oK,List.mem_mapIdx]at hx;obtain⟨i,g,rfl⟩:=hx;rfl
 have e2:(BS vi s.threads).all V.B5=true:=by
  rw[List.all_eq_true];intro x hx;simp only[BS,List.mem_mapIdx]at hx;obtain⟨i,g,rfl⟩:=hx;rfl
 have e3: ∀l:List Canon,(l.map Canon.enc).all V.B5=true:=fun l=>by
  rw[List.all_eq_true];intro x hx;obtain⟨y,_,rfl⟩:=List.mem_map.1 hx;rfl
 exact⟨by rw[a1];unfold iy;simp only[e1,if_true],by rw[a2];unfold iy;simp only[e2,if_true],fun i g=>by rw[a3 i g];unfold iy;simp only[e3,if_true],fun i g=>by rw[a4 i g];unfold iy;simp only[e3,if_true],a5,a6,a7,a8,a9,PK⟩
theorem Gj.yn{h hx:aG}{c n:Nat}{s:State}{R T:Nat}{ri vi:Nat→Nat}(H:Gj h c n s R T ri vi)(hh: ∀i,c≤i→i<n→hx i=h i)(d:Nat):aX hx (d+3) (.bJ R 0 s.regions.length)=some (.sl false (s.regions.map dL)):=by
 have e:aY ((oK ri s.regions).map (aX hx (d+2)))=some (s.regions.map dL):=by
  unfold oK;refine oq _ _ fun i hi=> ?_;have q:=H.lr i hi;have e1:hx (ri i)=some ⟨4,(s.regions[i]).map Canon.enc,false⟩:=by rw[hh _ q.1 q.2.1,H.rat i hi]
  simp[aX,e1,dL]
 have e1:hx R=some ⟨1,oK ri s.regions,true⟩:=by rw[hh _ H.lt.1.1 H.lt.1.2,H.row]
 have l1:=Ka ri s.regions;have t1:(oK ri s.regions).take s.regions.length=oK ri s.regions:=aQ (by omega);simp[aX,e1,l1,t1,e]
theorem yV.o5{p:Prog}{d:Int}{s:State}(H:yV p d s){i j:Nat}(hi:i<s.regions.length){c:Canon}(hc:sj c)(hb:fN c=true):yV p d (o5 s i ((s.regions[i]).set j c)):=by
 obtain⟨⟨p1,p2,p3,p4⟩,h2,h3⟩:=H;unfold Go.Proofs.YtdngefmliibcgaaGreat.o5;refine⟨⟨by simpa using p1,fun k g g'=> ?_,p3,p4⟩,fun l hl=> ?_,h3⟩
 ·have gk:k<s.regions.length:=by simpa using g
  by_cases e:i=k
  ·subst e;simp only[List.getElem_set_self,List.length_set];refine⟨(p2 i gk g').1,?_⟩;unfold fR;rw[List.all_eq_true];intro x hx;rcases List.mem_or_eq_of_mem_set hx with hx|rfl
   ·exact List.all_eq_true.1 (p2 i gk g').2 x hx
   ·exact hb
  ·simp only[List.getElem_set_ne e];exact p2 k gk g'
 ·rcases List.mem_or_eq_of_mem_set hl with hl|rfl
  ·exact h2 l hl
  ·intro x hx;rcases List.mem_or_eq_of_mem_set hx with hx|rfl
   ·exact h2 _ (List.getElem_mem hi) x hx
   ·exact hc
theorem Hn: ∀(l:List Int) (i:Int) (r:Nat),(∀x∈l,x≤32)→r+l.length≤4→0≤(j7 l i r).1.region∧(j7 l i r).1.region<4∧0≤(j7 l i r).1.offset∧(j7 l i r).1.offset<32
 | [],i,r,_,_=>by simp[j7]
 |n::l,i,r,h,hr=>by
  have hn:=h n (by simp);simp only[List.length_cons]at hr;unfold j7;split
  ·simp only;omega
  ·exact Hn l (i-n) (r+1) (fun x hx=>h x (by simp[hx])) (by omega)
theorem DV(l:List Int){aq:List Int}(k:Int)(hz:rf aq):sj (mE l aq k)∧fN (mE l aq k)=true:=by
 unfold mE;split
 ·obtain⟨a1,a2,a3,a4⟩:=Hn aq (g9 l (dG l k) (total aq)) 0 (fun x hx=>by
   obtain⟨i,hi,rfl⟩:=List.getElem_of_mem hx;exact(hz.elem i hi).2) (by have:=hz.le;omega)
  refine⟨⟨by simp,by simp⟩,?_⟩;have n1: ¬(j7 aq (g9 l (dG l k) (total aq)) 0).1.region= -1:=by omega
  simp[fN,n1];omega
 split
 ·have:=eu l (dG l k) (n:=10) (by omega);exact⟨⟨this.1,by simp only;omega⟩,by simp[fN]⟩
 ·exact⟨Of _ _,by simp[fN]⟩
end Go.Proofs.YtdngefmliibcgaaGreat
