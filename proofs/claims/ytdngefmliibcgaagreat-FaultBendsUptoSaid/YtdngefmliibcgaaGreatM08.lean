/- Part of a proof: S15. -/
import Derived.Test.YtdngefmliibcgaaGreatM05
import Derived.Test.YtdngefmliibcgaaGreatM07
set_option linter.all false
set_option maxRecDepth 20000
set_option maxHeartbeats 20000000
namespace Go.Proofs.YtdngefmliibcgaaGreat
open Go Go.Abs Go.Abs.fJ
theorem Oy(l:List Int):cG (l.map (V.int .i64))=l.map (V.int .i64):=nu (fun _=>rfl) l
theorem DN: ∀(S l:List Int),l.Nodup→(∀x∈l,x∈S)→l.length≤S.length
 |S,[],_,_=>by simp
 |S,a::l,h,hs=>by
  have hn:=List.nodup_cons.1 h;have ha:=hs a (by simp);have:=DN (S.erase a) l hn.2 fun x hx=>by
   have hxa:x≠a:=fun e=>hn.1 (e▸hx);exact(List.mem_erase_of_ne hxa).2 (hs x (by simp[hx]))
  rw[List.length_erase_of_mem ha]at this;have:0<S.length:=List.length_pos_of_mem ha;simp only[List.length_cons];omega
structure BN (q:List Int):Prop where
 nodup:q.Nodup
 range: ∀x∈q,0≤x∧x<4
theorem BN.len{q:List Int}(h:BN q):q.length≤4:=DN [0,1,2,3] q h.nodup fun x hx=>by
 have:=h.range x hx;have:x=0∨x=1∨x=2∨x=3:=by omega
 simpa using this
structure oZ (l:ga):Prop where
 Oz:l.owner.length=4
 VS:l.queue.length=4
 owner: ∀i (h:i<l.owner.length), -1≤l.owner[i]∧l.owner[i]<4
 queue: ∀i (h:i<l.queue.length),BN l.queue[i]
theorem oZ.lens{l:ga}(h:oZ l):l.owner.length≤1000000000∧ ∀i (g:i<l.queue.length),(l.queue[i]).length≤1000000000:=
 ⟨by rw[h.Oz];omega,fun i g=>by have:=(h.queue i g).len;omega⟩
theorem oZ.set{l:ga}(h:oZ l){k:Nat}{o:Int}(ho: -1≤o∧o<4){q:List Int}(hq:BN q):oZ ⟨l.owner.set k o,l.queue.set k q⟩:=by
 refine⟨by simp[h.Oz],by simp[h.VS],fun i g=> ?_,fun i g=> ?_⟩
 ·simp only[List.length_set]at g;simp only[List.getElem_set];split
  ·exact ho
  ·exact h.owner i g
 ·simp only[List.length_set]at g;simp only[List.getElem_set];split
  ·exact hq
  ·exact h.queue i g
def hZ(l:ga)(lock t:Int):ga×Int×Bool:=
 if lock<0∨4≤lock∨ ¬nth l.owner lock.toNat=t then(l, -1,false)
 else match l.queue.getD lock.toNat [] with
  | []=>(⟨l.owner.set lock.toNat (-1),l.queue⟩, -1,true)
  |x::r=>(⟨l.owner.set lock.toNat x,l.queue.set lock.toNat r⟩,x,true)
@[simp] theorem ZO(l:List Int)(h:aG)(k:Nat):bt X 18 [.sl false (l.map (V.int .i64))] h k=some (.ptr (k+3) 0 0,aS h (k+3) (some ⟨2,[.agg [.sl false (l.map (V.int .i64)),.int .i64 0]],true⟩),k+5):=by
 obtain⟨v,h',n',e1,e2,e3,e4⟩:=bh (X:=X) (g:=18) (args:=[.sl false (l.map (V.int .i64))]) (h:=h) (k:=k) (K:=fun v h' n'=>v= .ptr (k+3) 0 0∧h'=aS h (k+3) (some ⟨2,[.agg [.sl false (l.map (V.int .i64)),.int .i64 0]],true⟩)∧n'=k+5) Tryz.func18 rfl rfl (by
  simp(maxSteps:=10000000) (maxDischargeDepth:=30) (implicitDefEqProofs:=false)[Nat.add_assoc])
 rw[e1,e2,e3,e4]
end Go.Proofs.YtdngefmliibcgaaGreat
