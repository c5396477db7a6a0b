/- Part of a proof: S15. -/
import Derived.Test.YtejohpnpnaljdaaGreatM20
set_option linter.all false
set_option maxRecDepth 20000
set_option maxHeartbeats 20000000
namespace Go.Proofs.YtejohpnpnaljdaaGreat
open Go Go.Abs Go.Abs.lu
@[simp] theorem am4(hx:aY)(l:List Int):cn (l.map (bT hx 12∘V.int .i64))=some (l.map (V.int .i64)):=m9 (fun _=>rfl) l
theorem Cw(l:List Int):df (l.map (V.int .i64))=l.map (V.int .i64):=nK (fun _=>rfl) l
theorem Vg(x:List Int)(n:Nat)(v:V):(cI x).put n v=v:=rfl
theorem IQ: ∀(S l:List Int),l.Nodup->(∀x∈l,x∈S)->l.length<=S.length
 |S,[],_,_=>by simp
 |S,a::l,h,hs=>by
  have hn:=List.nodup_cons.1 h;have ha:=hs a (by simp);have:=IQ (S.erase a) l hn.2 fun x hx=>by
   have hxa:x≠a:=fun e=>hn.1 (e▸hx);exact(List.mem_erase_of_ne hxa).2 (hs x (by simp[hx]))
  rw[List.length_erase_of_mem ha]at this;have:0<S.length:=List.length_pos_of_mem ha;simp only[List.length_cons];omega
structure zD (q:List Int):Prop where
 nodup:q.Nodup
 range: ∀x∈q,0<=x/\x<4
theorem zD.len{q:List Int}(h:zD q):q.length<=4:=IQ [0,1,2,3] q h.nodup fun x hx=>by
 have:=h.range x hx;have:x=0\/x=1\/x=2\/x=3:=by omega
 simpa using this
structure gY (l:bR):Prop where
 xi:l.owner.length=4
 xj:l.queue.length=4
 owner: ∀i (h:i<l.owner.length), -1<=l.owner[i]/\l.owner[i]<4
 queue: ∀i (h:i<l.queue.length),zD l.queue[i]
theorem gY.lens{l:bR}(h:gY l):l.owner.length<=1000000000/\ ∀i (g:i<l.queue.length),(l.queue[i]).length<=1000000000:=
 ⟨by rw[h.xi];omega,fun i g=>by have:=(h.queue i g).len;omega⟩
theorem gY.set{l:bR}(h:gY l){k:Nat}{o:Int}(ho: -1<=o/\o<4){q:List Int}(hq:zD q):gY ⟨l.owner.set k o,l.queue.set k q⟩:=by
 refine⟨by simp[h.xi],by simp[h.xj],fun i g=> ?_,fun i g=> ?_⟩
 ·simp only[List.length_set]at g;simp only[List.getElem_set];split
  ·exact ho
  ·exact h.owner i g
 ·simp only[List.length_set]at g;simp only[List.getElem_set];split
  ·exact hq
  ·exact h.queue i g
def fj(l:bR)(lock t:Int):bR×Int×Bool:=
 if lock<0\/4<=lock\/ ¬nth l.owner lock.toNat=t then(l, -1,false)
 else match l.queue.getD lock.toNat [] with
  | []=>(⟨l.owner.set lock.toNat (-1),l.queue⟩, -1,true)
  |x::r=>(⟨l.owner.set lock.toNat x,l.queue.set lock.toNat r⟩,x,true)
theorem Cx{l:bR}(h:gY l)(lock t:Int):gY (fj l lock t).1/\ -1<=(fj l lock t).2.1/\(fj l lock t).2.1<4:=by
 unfold fj;split
 ·exact⟨h,by simp⟩
 ·rename_i hc;have hk:lock.toNat<l.queue.length:=by have:=h.xj;omega
  have hq:=h.queue _ hk;have e:l.queue.getD lock.toNat []=l.queue[lock.toNat]:=by simp[List.getD,hk]
  rw[e];split
  ·rename_i e2;have:=h.set (k:=lock.toNat) (o:= -1) (by omega) hq;rw[List.set_getElem_self]at this;exact⟨this,by simp⟩
  ·rename_i x r e2;rw[e2]at hq;have hx:=hq.range x (by simp);exact⟨h.set (by omega) ⟨(List.nodup_cons.1 hq.nodup).2,fun y hy=>hq.range y (by simp[hy])⟩,by simp only;omega⟩
def sK(l:bR)(t:Int):Bool:=l.queue.any fun q=>q.contains t
def oZ(l:bR)(lock t:Int):bR×Int:=
 if lock<0\/4<=lock\/nth l.owner lock.toNat=t then(l,2)
 else if sK l t=true then(l,2)
 else if nth l.owner lock.toNat= -1 then(⟨l.owner.set lock.toNat t,l.queue⟩,0)
 else(⟨l.owner,l.queue.set lock.toNat (l.queue.getD lock.toNat []++ [t])⟩,1)
theorem Vh{l:bR}(h:gY l)(lock:Int){t:Int}(ht:0<=t/\t<4):gY (oZ l lock t).1:=by
 unfold oZ;split
 ·exact h
 rename_i hc;have hk:lock.toNat<l.queue.length:=by have:=h.xj;omega
 have wy:lock.toNat<l.owner.length:=by have:=h.xi;omega
 have hq:=h.queue _ hk;split
 ·exact h
 rename_i hn;split
 ·have:=h.set (k:=lock.toNat) (o:=t) (by omega) hq;rw[List.set_getElem_self]at this;exact this
 ·have e:l.queue.getD lock.toNat []=l.queue[lock.toNat]:=by simp[List.getD,hk]
  rw[e];have AK:t∉l.queue[lock.toNat]:=fun hm=>hn (by
   unfold sK;rw[List.any_eq_true];exact⟨_,List.getElem_mem hk,by simpa using hm⟩)
  have:=h.set (k:=lock.toNat) (h.owner _ wy) (q:=l.queue[lock.toNat]++ [t]) ⟨by
   rw[List.nodup_append];refine⟨hq.nodup,by simp,fun a ha b hb=> ?_⟩;simp only[List.mem_singleton]at hb;subst hb;exact fun e=>AK (e▸ha),fun x hx=>by
   rcases List.mem_append.1 hx with hx|hx
   ·exact hq.range x hx
   ·simp only[List.mem_singleton]at hx;subst hx;exact ht⟩
  rw[List.set_getElem_self]at this;exact this
def nW(q:List Int)(t:Int):List Int:=q.filter fun x=>decide (¬x=t)
theorem PO{q:List Int}{t:Int}{i:Nat}(h:i<q.length)(hx: ¬q[i]=t):nW (q.take (i+1)) t=nW (q.take i) t++ [q[i]]:=by
 unfold nW;rw[fY h,List.filter_append];simp[hx]
theorem Vi{q:List Int}{t:Int}{i:Nat}(h:i<q.length)(hx:q[i]=t):nW (q.take (i+1)) t=nW (q.take i) t:=by
 unfold nW;rw[fY h,List.filter_append];simp[hx]
theorem PQ(q:List Int)(t:Int):(nW q t).length<=q.length:=List.length_filter_le ..
theorem Vj{q:List Int}(h:zD q)(t:Int):zD (nW q t):=⟨h.nodup.sublist List.filter_sublist,fun x hx=>h.range x (List.mem_filter.1 hx).1⟩
def gF(l:bR)(t:Int):Nat->bR×List Int
 |0=>(⟨l.owner,l.queue.map fun q=>nW q t⟩,[])
 |i+1=>((fj (gF l t i).1 i t).1,if(fj (gF l t i).1 i t).2.2=true/\0<=(fj (gF l t i).1 i t).2.1 then(gF l t i).2++ [(fj (gF l t i).1 i t).2.1] else(gF l t i).2)
theorem zE{l:bR}(h:gY l)(t:Int): ∀i,gY (gF l t i).1/\(gF l t i).2.length<=i/\ ∀x∈ (gF l t i).2,0<=x/\x<4
 |0=>⟨⟨h.xi,by simp[gF,h.xj],h.owner,fun i hi=>by
   simp only[gF,List.length_map]at hi;simp only[gF,List.getElem_map];exact Vj (h.queue i hi) t⟩,by simp[gF],fun x hx=>by cases hx⟩
 |i+1=>by
  obtain⟨h1,h2,h3⟩:=zE h t i;obtain⟨g1,g2,g3⟩:=Cx h1 i t;refine⟨g1,?_,?_⟩
  ·unfold gF;simp only;split
   ·simp;omega
   ·omega
  ·unfold gF;simp only;split
   ·rename_i hc;intro x hx;rcases List.mem_append.1 hx with hx|hx
    ·exact h3 x hx
    ·simp only[List.mem_singleton]at hx;subst hx;omega
   ·exact h3
@[simp] theorem a7x(bJ:List Int)(bp:List (List Int))(hq:bp.length=4)(ho:bJ.length<=1000000000)(hx: ∀i (h:i<bp.length),(bp[i]).length<=1000000000):lY X [(0,0,3),(0,1,22)] 207 [.agg [bJ,.sl false (bp.map cI)]]=some (.agg [.sl false (((bR.mk bJ bp)).owner.map (V.int .i64)),.sl false (((bR.mk bJ bp)).queue.map cI)]):=by
 refine kJ Tryz.func207 rfl rfl ?_;obtain⟨a,b,c,d,rfl⟩:=DB hq;have ha:=hx 0 (by simp);have hb:=hx 1 (by simp);have hc:=hx 2 (by simp);have hd:=hx 3 (by simp);simp at ha hb hc hd;simp-implicitDefEqProofs[di,iV];all_goals ((repeat' (first|apply And.intro|intro _))<;>first|omega|rfl)
@[simp] theorem a7y(bJ:List Int)(bp:List (List Int))(hq:bp.length=4)(ho:bJ.length<=1000000000)(hx: ∀i (h:i<bp.length),(bp[i]).length<=1000000000):lY X [(0,1,22)] 207 [.agg [bJ,.sl false (bp.map cI)]]=some (.agg [.sl false (((bR.mk bJ bp)).owner.map (V.int .i64)),.sl false (((bR.mk bJ bp)).queue.map cI)]):=by
 refine kJ Tryz.func207 rfl rfl ?_;obtain⟨a,b,c,d,rfl⟩:=DB hq;have ha:=hx 0 (by simp);have hb:=hx 1 (by simp);have hc:=hx 2 (by simp);have hd:=hx 3 (by simp);simp at ha hb hc hd;simp-implicitDefEqProofs[di,iV];all_goals ((repeat' (first|apply And.intro|intro _))<;>first|omega|rfl)
@[simp] theorem yA(bJ:List Int)(bp:List (List Int))(lock t:Int)(h:gY (bR.mk bJ bp)):cz X 200 [.agg [bJ,.sl false (bp.map cI)],lock,t]=some (.de [.agg [.sl false (((fj (bR.mk bJ bp) lock t).1).owner.map (V.int .i64)),.sl false (((fj (bR.mk bJ bp) lock t).1).queue.map cI)],.int .i64 ((fj (bR.mk bJ bp) lock t).2.1),.bool ((fj (bR.mk bJ bp) lock t).2.2)]):=by
 refine bd Tryz.func200 rfl rfl ?_;have h1:bJ.length=4:=h.xi;have h2:bp.length=4:=h.xj;obtain⟨h3,h4⟩:=h.lens;simp only at h3 h4;have tk1:List.take 4 (bJ.map (V.int .i64))=bJ.map (V.int .i64):=bn (by simp;omega);have tk2:List.take 4 (bp.map cI)=bp.map cI:=bn (by simp;omega);have tk3: ∀(k:Nat) (v:V),List.take 4 ((bJ.map (V.int .i64)).set k v)=(bJ.map (V.int .i64)).set k v:=fun k v=>bn (by simp;omega);have FY: ∀(k:Nat) (v:V),List.take 4 ((bp.map cI).set k v)=(bp.map cI).set k v:=fun k v=>bn (by simp;omega);have ds1: ∀(k:Nat) (x:Int),df ((bJ.map (V.int .i64)).set k (V.int .i64 x))=(bJ.map (V.int .i64)).set k (V.int .i64 x):=fun k x=>by rw[<-List.map_set,Cw]
 have ds2: ∀(k:Nat) (r:List Int),df ((bp.map cI).set k (V.sl false (r.map (V.int .i64))))=(bp.map cI).set k (V.sl false (r.map (V.int .i64))):=fun k r=>by rw[<-iV,<-List.map_set,El]
 by_cases c1:lock<0
 ·have e:fj (bR.mk bJ bp) lock t=((bR.mk bJ bp), -1,false):=by unfold fj;rw[if_pos (.inl c1)]
  rw[e];simp-implicitDefEqProofs[h1,h2,h4,c1,tk1,tk2]
 by_cases c2:4<=lock
 ·have e:fj (bR.mk bJ bp) lock t=((bR.mk bJ bp), -1,false):=by unfold fj;rw[if_pos (.inr (.inl c2))]
  rw[e];simp-implicitDefEqProofs[h1,h2,h4,c1,c2,tk1,tk2]
 obtain⟨k,rfl⟩:=Int.eq_ofNat_of_zero_le (show 0<=lock by omega);have k1:k<4:=by omega
 have k2:(k:Int)<4:=by omega
 have k3:k<bJ.length:=by omega
 have k4:k<bp.length:=by omega
 have hn:nth bJ (k:Int).toNat=bJ[k]:=by rw[Int.toNat_natCast,cZ k3]
 by_cases c3:bJ[k]=t
 case neg=>
  have e:fj (bR.mk bJ bp) k t=((bR.mk bJ bp), -1,false):=by unfold fj;rw[if_pos (.inr (.inr (by rw[hn];exact c3)))]
  rw[e];simp-implicitDefEqProofs[h1,h2,h4,c1,c2,k1,k2,c3,tk1,tk2]
 have hg:bp.getD (k:Int).toNat []=bp[k]:=by simp[List.getD,k4]
 have c3t:=eq_true c3;cases hq:bp[k] with
 |nil=>
  have e:fj (bR.mk bJ bp) k t=(⟨bJ.set k (-1),bp⟩, -1,true):=by unfold fj;rw[if_neg (by rw[hn];omega),hg,hq];rfl
  have hr1:True:=trivial;rw[e];simp-implicitDefEqProofs[h1,h2,h4,c1,c2,k1,k2,c3t,hq,tk2,tk3,ds1,iV]
 |cons x r=>
  have e:fj (bR.mk bJ bp) k t=(⟨bJ.set k x,bp.set k r⟩,x,true):=by unfold fj;rw[if_neg (by rw[hn];omega),hg,hq];rfl
  have hr1:(1:Int)<=(r.length:Int)+1:=by omega
  have hr:r.length<=4:=by have:=(h.queue k k4).len;simp only[hq,List.length_cons]at this;omega
  rw[e];simp-implicitDefEqProofs[h1,h2,h4,c1,c2,k1,k2,c3t,hq,tk3,FY,ds1,ds2,iV,hr1]
theorem agw{q:List (List Int)}{t:Int}{i:Nat}(h:i<q.length):((q.take (i+1)).any fun x=>x.contains t)=(((q.take i).any fun x=>x.contains t)||(q[i]).contains t):=by
 rw[fY h,List.any_append];simp only[List.any_cons,List.any_nil,Bool.or_false]
theorem ZD{q:List Int}{t:Int}{i:Nat}(h:i<q.length):(q.take (i+1)).contains t=((q.take i).contains t||decide (t=q[i])):=by
 rw[fY h];simp only[List.contains_eq_mem,List.mem_append,List.mem_singleton,Bool.decide_or]
@[simp] theorem VX(bJ:List Int)(bp:List (List Int))(k:Nat)(hq:bp.length=4)(ho:bJ.length<=1000000000)(hx: ∀i (h:i<bp.length),(bp[i]).length<=1000000000): ∃h',cy X 207 [.agg [bJ,.sl false (bp.map cI)]] m8 k=some (.agg [.bU (k+4) 0 bJ.length,.bU (k+63) 0 4],h',k+71)/\h' (k+4)=some ⟨1,bJ.map (V.int .i64),false⟩/\h' (k+63)=some ⟨1,[.bU (k+19) 0 (bp[0]'(by omega)).length,.bU (k+33) 0 (bp[1]'(by omega)).length,.bU (k+47) 0 (bp[2]'(by omega)).length,.bU (k+61) 0 (bp[3]'(by omega)).length],true⟩/\h' (k+19)=some ⟨1,(bp[0]'(by omega)).map (V.int .i64),false⟩/\h' (k+33)=some ⟨1,(bp[1]'(by omega)).map (V.int .i64),false⟩/\h' (k+47)=some ⟨1,(bp[2]'(by omega)).map (V.int .i64),false⟩/\h' (k+61)=some ⟨1,(bp[3]'(by omega)).map (V.int .i64),false⟩:=by
 obtain⟨a,b,c,d,rfl⟩:=DB hq;have ha:=hx 0 (by simp);have hb:=hx 1 (by simp);have hc:=hx 2 (by simp);have hd:=hx 3 (by simp);simp at ha hb hc hd;obtain⟨v,h',n',e,g1,g2,g3,g4,g5,g6,g7,g8⟩:=bu (X:=X) (g:=207) (args:=[.agg [bJ,.sl false (([a,b,c,d]:List (List Int)).map cI)]]) (h:=m8) (k:=k) (K:=fun v h n=>v= .agg [.bU (k+4) 0 bJ.length,.bU (k+63) 0 4]/\n=k+71/\h (k+4)=some ⟨1,bJ.map (V.int .i64),false⟩/\h (k+63)=some ⟨1,[.bU (k+19) 0 a.length,.bU (k+33) 0 b.length,.bU (k+47) 0 c.length,.bU (k+61) 0 d.length],true⟩/\
   h (k+19)=some ⟨1,a.map (V.int .i64),false⟩/\h (k+33)=some ⟨1,b.map (V.int .i64),false⟩/\h (k+47)=some ⟨1,c.map (V.int .i64),false⟩/\h (k+61)=some ⟨1,d.map (V.int .i64),false⟩) Tryz.func207 rfl rfl (by
  simp-implicitDefEqProofs[di,Nat.add_assoc,iV];all_goals ((repeat' (first|apply And.intro|intro _))<;>first|omega|rfl))
 subst g1;subst g2;exact⟨h',e,g3,g4,g5,g6,g7,g8⟩
def sk(l:bR)(i:Nat):List Int:=l.queue.getD i []
def ava(l:bR)(lock t:Int)(i:Nat)(S:St):Prop:=(S.f 1= .int .i64 lock/\S.f 2= .int .i64 t/\S.f 3= .ptr 0 0 0/\S.f 6= .ptr 1 0 0/\S.f 8= .ptr 5 0 0/\S.f 32= .sl false (l.queue.map cI)/\S.f 33= .int .i64 4/\S.f 34= .int .i64 (i:Int))/\(S.h 0=some ⟨2,[.agg [.sl false (l.owner.map (V.int .i64)),.sl false (l.queue.map cI)]],true⟩/\S.h 1=some ⟨2,[.agg [.sl true [],.sl true []]],true⟩/\S.h 5=some ⟨2,[.agg [.bU 11 0 4,.bU 70 0 4]],true⟩/\S.h 11=some ⟨1,l.owner.map (V.int .i64),false⟩/\S.h 70=some ⟨1,[.bU 26 0 (sk l 0).length,.bU 40 0 (sk l 1).length,.bU 54 0 (sk l 2).length,.bU 68 0 (sk l 3).length],true⟩/\
  S.h 26=some ⟨1,(sk l 0).map (V.int .i64),false⟩/\S.h 40=some ⟨1,(sk l 1).map (V.int .i64),false⟩/\S.h 54=some ⟨1,(sk l 2).map (V.int .i64),false⟩/\S.h 68=some ⟨1,(sk l 3).map (V.int .i64),false⟩)/\78<=S.n/\((l.queue.take i).any fun x=>x.contains t)=false
def avb(l:bR)(lock t:Int)(i j:Nat)(S:St):Prop:=((S.f 1= .int .i64 lock/\S.f 2= .int .i64 t/\S.f 3= .ptr 0 0 0/\S.f 6= .ptr 1 0 0/\S.f 8= .ptr 5 0 0/\S.f 32= .sl false (l.queue.map cI)/\S.f 33= .int .i64 4/\S.f 34= .int .i64 (i:Int))/\(S.h 0=some ⟨2,[.agg [.sl false (l.owner.map (V.int .i64)),.sl false (l.queue.map cI)]],true⟩/\S.h 1=some ⟨2,[.agg [.sl true [],.sl true []]],true⟩/\S.h 5=some ⟨2,[.agg [.bU 11 0 4,.bU 70 0 4]],true⟩/\S.h 11=some ⟨1,l.owner.map (V.int .i64),false⟩/\S.h 70=some ⟨1,[.bU 26 0 (sk l 0).length,.bU 40 0 (sk l 1).length,.bU 54 0 (sk l 2).length,.bU 68 0 (sk l 3).length],true⟩/\
  S.h 26=some ⟨1,(sk l 0).map (V.int .i64),false⟩/\S.h 40=some ⟨1,(sk l 1).map (V.int .i64),false⟩/\S.h 54=some ⟨1,(sk l 2).map (V.int .i64),false⟩/\S.h 68=some ⟨1,(sk l 3).map (V.int .i64),false⟩)/\78<=S.n/\((l.queue.take i).any fun x=>x.contains t)=false)/\S.f 38= .sl false ((sk l i).map (V.int .i64))/\S.f 39= .int .i64 (sk l i).length/\S.f 40= .int .i64 (j:Int)/\((sk l i).take j).contains t=false
@[simp] theorem Gd(bJ:List Int)(bp:List (List Int))(lock t:Int)(h:gY (bR.mk bJ bp)):cz X 209 [.agg [bJ,.sl false (bp.map cI)],lock,t]=some (.de [.agg [.sl false (((oZ (bR.mk bJ bp) lock t).1).owner.map (V.int .i64)),.sl false (((oZ (bR.mk bJ bp) lock t).1).queue.map cI)],.int .i64 ((oZ (bR.mk bJ bp) lock t).2)]):=by
 refine bd Tryz.func209 rfl rfl ?_;have h1:bJ.length=4:=h.xi;have h2:bp.length=4:=h.xj;obtain⟨h3,h4⟩:=h.lens;simp only at h3 h4;have avc: ∀i (g:i<bp.length),(bp[i]).length<=4:=fun i g=>(h.queue i g).len;obtain⟨hC,eC,gO,gQ,g0,g1,g2,g3⟩:=VX bJ bp 7 h2 h3 h4;simp only[Nat.reduceAdd,h1]at eC gO gQ g0 g1 g2 g3;have qa: ∀i (g:i<bp.length),sk (bR.mk bJ bp) i=bp[i]:=fun i g=>by simp[sk,List.getD,g]
 rw[<-qa 0 (by omega),<-qa 1 (by omega),<-qa 2 (by omega),<-qa 3 (by omega)]at gQ;rw[<-qa 0 (by omega)]at g0;rw[<-qa 1 (by omega)]at g1;rw[<-qa 2 (by omega)]at g2;rw[<-qa 3 (by omega)]at g3;have q16: ∀i,i<4->(sk (bR.mk bJ bp) i).length<=4:=fun i hi=>by rw[qa i (by omega)];exact avc i (by omega)
 have uX: ∀(l:List Int),List.take l.length (l.map (V.int .i64))=l.map (V.int .i64):=fun l=>bn (by simp);have ow:List.take 4 (bJ.map (V.int .i64))=bJ.map (V.int .i64):=bn (by simp;omega);have tk3: ∀(k:Nat) (v:V),List.take 4 ((bJ.map (V.int .i64)).set k v)=(bJ.map (V.int .i64)).set k v:=fun k v=>bn (by simp;omega);have ds1: ∀(k:Nat) (x:Int),df ((bJ.map (V.int .i64)).set k (V.int .i64 x))=(bJ.map (V.int .i64)).set k (V.int .i64 x):=fun k x=>by rw[<-List.map_set,Cw]
 have J5: ∀(l:List Int),df (List.take (l.length+1) (l.map (V.int .i64)++ [V.int .i64 t]))=l.map (V.int .i64)++ [V.int .i64 t]:=fun l=>by rw[bn (by simp),show l.map (V.int .i64)++ [V.int .i64 t]=(l++ [t]).map (V.int .i64) from by simp,Cw]
 have ZE:=uX (sk (bR.mk bJ bp) 0);have ZF:=uX (sk (bR.mk bJ bp) 1);have ZG:=uX (sk (bR.mk bJ bp) 2);have ZH:=uX (sk (bR.mk bJ bp) 3);have hq5:bp=[sk (bR.mk bJ bp) 0,sk (bR.mk bJ bp) 1,sk (bR.mk bJ bp) 2,sk (bR.mk bJ bp) 3]:=by
  obtain⟨a,b,c,d,rfl⟩:=DB h2;rfl
 have ZI:([V.sl false ((sk (bR.mk bJ bp) 0).map (V.int .i64)),V.sl false ((sk (bR.mk bJ bp) 1).map (V.int .i64)),V.sl false ((sk (bR.mk bJ bp) 2).map (V.int .i64)),V.sl false ((sk (bR.mk bJ bp) 3).map (V.int .i64))]:List V)=bp.map cI:=by
  rw[hq5];rfl
 have dq:df (bp.map cI)=bp.map cI:=El _;by_cases c1:lock<0
 ·have e:oZ (bR.mk bJ bp) lock t=((bR.mk bJ bp),2):=by unfold oZ;rw[if_pos (.inl c1)]
  rw[e];simp-implicitDefEqProofs[h1,c1,eC,gO,gQ,g0,g1,g2,g3,ow,ZE,ZF,ZG,ZH,ZI,dq]
 by_cases c2:4<=lock
 ·have e:oZ (bR.mk bJ bp) lock t=((bR.mk bJ bp),2):=by unfold oZ;rw[if_pos (.inr (.inl c2))]
  rw[e];simp-implicitDefEqProofs[h1,c1,c2,eC,gO,gQ,g0,g1,g2,g3,ow,ZE,ZF,ZG,ZH,ZI,dq]
 obtain⟨k,rfl⟩:=Int.eq_ofNat_of_zero_le (show 0<=lock by omega);have k1:k<4:=by omega
 have k2:k<bJ.length:=by omega
 have LK:(k:Int)<4:=by omega
 have hnk:nth bJ (k:Int).toNat=bJ[k]:=by rw[Int.toNat_natCast,cZ k2]
 have hgk:bp.getD (k:Int).toNat []=bp[k]:=by simp[List.getD,show k<bp.length by omega]
 by_cases wO:bJ[k]=t
 ·have ave:=eq_true wO;have e:oZ (bR.mk bJ bp) k t=((bR.mk bJ bp),2):=by unfold oZ;rw[if_pos (.inr (.inr (by rw[hnk];exact wO)))]
  rw[e];simp-implicitDefEqProofs[c1,c2,k1,LK,h1,ave,eC,gO,gQ,g0,g1,g2,g3,ow,ZE,ZF,ZG,ZH,ZI,dq]
 have agy:sK (bR.mk bJ bp) t=true->oZ (bR.mk bJ bp) k t=((bR.mk bJ bp),2):=fun hi=>by unfold oZ;rw[if_neg (by rw[hnk];omega),if_pos hi]
 simp-implicitDefEqProofs[c1,c2,k1,LK,h1,h2,wO,eC];refine cP (ava (bR.mk bJ bp) k t) 4 ?_ 0 (by simp) ?_
 ·rintro i S hi ⟨⟨f1,f2,f3,f6,f8,f32,f33,f34⟩,⟨z0,z1,z5,z11,z70,z26,z40,z54,z68⟩,hn,han⟩;have m1: ∀a j,a<78-> ¬a=S.n+j:=fun a j ha=>by omega
  have m2: ∀a j,a<78-> ¬S.n+j=a:=fun a j ha=>by omega
  have m3: ∀a,a<78-> ¬S.n=a:=fun a ha=>by omega
  have bq: ∀i,i<4->((sk (bR.mk bJ bp) i).length+1)*8<=140737488355328:=fun i hi=>by have:=q16 i hi;omega
  have cq: ∀i,i<4->(sk (bR.mk bJ bp) i).length<=4611686018427387903:=fun i hi=>by have:=q16 i hi;omega
  have hw:=cS i (by omega);by_cases eX:i<4
  case neg=>
   obtain rfl:i=4:=by omega
   have Jx:sK (bR.mk bJ bp) t=false:=by
    have:=han;rwa[bn (by first|omega|(simp only;omega))]at this
   have g4:((4:Nat):Int)=4:=rfl;by_cases c4:bJ[k]= -1
   ·have c4t:=eq_true c4;have e:oZ (bR.mk bJ bp) k t=(⟨bJ.set k t,bp⟩,0):=by unfold oZ;rw[if_neg (by rw[hnk];omega),if_neg (by rw[Jx];simp),if_pos (by rw[hnk];exact c4)];rfl
    rw[e];simp-implicitDefEqProofs[h1,k1,LK,dq,ZE,ZF,ZG,ZH,ZI,f1,f2,f3,f6,f8,f33,f34,z0,z1,z5,z11,z70,z26,z40,z54,z68,g4,c4t,tk3,ds1]
   have e:oZ (bR.mk bJ bp) k t=(⟨bJ,bp.set k (bp[k]++ [t])⟩,1):=by unfold oZ;rw[if_neg (by rw[hnk];omega),if_neg (by rw[Jx];simp),if_neg (by rw[hnk];exact c4),hgk];rfl
   rw[e];have kc:k=0\/k=1\/k=2\/k=3:=by omega
   rcases kc with rfl|rfl|rfl|rfl
   ·simp-implicitDefEqProofs[h1,k1,ow,iV,ZE,ZF,ZG,ZH,f1,f2,f3,f6,f8,f33,f34,z0,z1,z5,z11,z70,z26,z40,z54,z68,m3,bq,cq,g4,c4,J5];rw[<-ZI,<-qa _ (by omega)];rfl
   ·simp-implicitDefEqProofs[h1,k1,ow,iV,ZE,ZF,ZG,ZH,f1,f2,f3,f6,f8,f33,f34,z0,z1,z5,z11,z70,z26,z40,z54,z68,m3,bq,cq,g4,c4,J5];rw[<-ZI,<-qa _ (by omega)];rfl
   ·simp-implicitDefEqProofs[h1,k1,ow,iV,ZE,ZF,ZG,ZH,f1,f2,f3,f6,f8,f33,f34,z0,z1,z5,z11,z70,z26,z40,z54,z68,m3,bq,cq,g4,c4,J5];rw[<-ZI,<-qa _ (by omega)];rfl
   ·simp-implicitDefEqProofs[h1,k1,ow,iV,ZE,ZF,ZG,ZH,f1,f2,f3,f6,f8,f33,f34,z0,z1,z5,z11,z70,z26,z40,z54,z68,m3,bq,cq,g4,c4,J5];rw[<-ZI,<-qa _ (by omega)];rfl
  have uk:i<bp.length:=by omega
  have avf:(i:Int)<4:=by omega
  have up:=agw (t:=t) uk;simp only at han;rw[han]at up;have hqi:=qa i uk;simp-implicitDefEqProofs[f32,f33,f34,h2,eX,avf,iV];rw[<-hqi];refine cP (avb (bR.mk bJ bp) k t i) (sk (bR.mk bJ bp) i).length ?_ 0 (by simp) ?_
  ·rintro j S2 hj ⟨⟨⟨e1,e2,e3,e6,e8,e32,e33,e34⟩,⟨y0,y1,y5,y11,y70,y26,y40,y54,y68⟩,yn,yan⟩,e38,e39,e40,hbj⟩;have n1: ∀a j,a<78-> ¬a=S2.n+j:=fun a j ha=>by omega
   have n2: ∀a j,a<78-> ¬S2.n+j=a:=fun a j ha=>by omega
   have pM:IntKind.i64.wrap ((j:Int)+1)=(j:Int)+1:=wrap_i64 (by have:=q16 i eX;omega);by_cases JB:j<(sk (bR.mk bJ bp) i).length
   case neg=>
    obtain rfl:j=(sk (bR.mk bJ bp) i).length:=by omega
    rw[List.take_length]at hbj;rw[<-hqi,hbj]at up;simp-implicitDefEqProofs[e34,e39,e40,hw,eX];refine⟨?_,?_,by first|omega|(simp only;omega),up⟩
    ·simp[aO,e1,e2,e3,e6,e8,e32,e33]
    ·exact⟨y0,y1,y5,y11,y70,y26,y40,y54,y68⟩
   have Jl:(j:Int)<(sk (bR.mk bJ bp) i).length:=by omega
   have upj:=ZD (t:=t) JB;rw[hbj]at upj;by_cases hx:(sk (bR.mk bJ bp) i)[j]=t
   ·have AL:=eq_true hx;have avo:sK (bR.mk bJ bp) t=true:=by
     unfold sK;rw[List.any_eq_true];exact⟨_,List.getElem_mem uk,by rw[<-hqi];exact List.contains_iff_mem.2 (hx▸List.getElem_mem JB)⟩
    rw[agy avo];simp-implicitDefEqProofs[e2,e6,e8,y1,y5,y11,y70,y26,y40,y54,y68,e38,e39,e40,JB,Jl,AL,h1,ow,ZE,ZF,ZG,ZH,ZI,dq]
   ·have hxn: ¬t=(sk (bR.mk bJ bp) i)[j]:=fun e=>hx e.symm;simp-implicitDefEqProofs[e2,e38,e39,e40,JB,Jl,hx,pM];refine⟨⟨?_,?_,by first|omega|(simp only;omega),yan⟩,?_,?_,?_,?_⟩
    ·simp[aO,e1,e2,e3,e6,e8,e32,e33,e34]
    ·exact⟨y0,y1,y5,y11,y70,y26,y40,y54,y68⟩
    ·simp[aO,e38]
    ·simp[aO,e39]
    ·simp[aO]
    ·rw[upj];simp[hxn]
  ·refine⟨⟨?_,?_,by first|omega|(simp only;omega),han⟩,?_,?_,?_,?_⟩
   ·simp[aO,f1,f2,f3,f6,f8,f32,f33,f34]
   ·exact⟨z0,z1,z5,z11,z70,z26,z40,z54,z68⟩
   ·simp[aO,hqi]
   ·simp[aO,hqi]
   ·simp[aO]
   ·simp
 ·refine⟨?_,?_,by first|omega|(simp only;omega),?_⟩
  ·simp[aO]
  ·simp[aO,gO,gQ,g0,g1,g2,g3]
  ·simp
end Go.Proofs.YtejohpnpnaljdaaGreat
