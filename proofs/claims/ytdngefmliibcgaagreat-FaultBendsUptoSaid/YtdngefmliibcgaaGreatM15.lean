/- Part of a proof: G9. -/
import Derived.Test.YtdngefmliibcgaaGreatM05
import Derived.Test.YtdngefmliibcgaaGreatM07
import Derived.Test.YtdngefmliibcgaaGreatM08
import Derived.Test.YtdngefmliibcgaaGreatM11
import Derived.Test.YtdngefmliibcgaaGreatM14
set_option linter.all false
set_option maxRecDepth 20000
set_option maxHeartbeats 20000000
namespace Go.Proofs.YtdngefmliibcgaaGreat
open Go Go.Abs Go.Abs.fJ
structure V2 (n:Nat) (i:Instr):Prop where
 op:0≤i.op∧i.op≤24
 a:0≤i.a∧i.a<8∧(kS i.op 0=false→i.a=0)
 b:0≤i.b∧i.b<8∧(kS i.op 1=false→i.b=0)
 c:0≤i.c∧i.c<8∧(kS i.op 2=false→i.c=0)
 cT:0≤i.cT∧i.cT≤65535∧(kS i.op 3=false→i.cT=0)
 lea:i.op=15→i.cT<n
 sys:i.op=23→i.cT≤15
def wK(n:Nat)(l:List Instr):Prop:= ∀i∈l,V2 n i
theorem wK.nil(n:Nat):wK n []:=fun i h=>by cases h
theorem wK.cons{n:Nat}{i:Instr}{l:List Instr}(h:V2 n i)(hl:wK n l):wK n (i::l):=fun x hx=>by
 rcases List.mem_cons.1 hx with rfl|hx
 ·exact h
 ·exact hl x hx
theorem wK.append{n:Nat}{a b:List Instr}(ha:wK n a)(hb:wK n b):wK n (a++b):=fun x hx=>by
 rcases List.mem_append.1 hx with h|h
 ·exact ha x h
 ·exact hb x h
theorem wK.take{n:Nat}{a:List Instr}(ha:wK n a)(k:Nat):wK n (a.take k):=fun x hx=>ha x (List.mem_of_mem_take hx)
theorem nQ{n:Nat}{o a b c:Int}(ho:3≤o∧o≤14)(h:0≤a∧a<8)(hb:0≤b∧b<8)(hc:0≤c∧c<8):V2 n ⟨o,a,b,c,0⟩:=by
 have p0:o=3∨o=4∨o=5∨o=6∨o=7∨o=8∨o=9∨o=10∨o=11∨o=12∨o=13∨o=14:=by omega
 have u:kS o 0=true∧kS o 1=true∧kS o 2=true:=by
  rcases p0 with rfl|rfl|rfl|rfl|rfl|rfl|rfl|rfl|rfl|rfl|rfl|rfl<;>exact⟨rfl,rfl,rfl⟩
 exact⟨by simp only;omega,⟨h.1,h.2,fun q=>by rw[u.1]at q;cases q⟩,⟨hb.1,hb.2,fun q=>by rw[u.2.1]at q;cases q⟩,⟨hc.1,hc.2,fun q=>by rw[u.2.2]at q;cases q⟩,by simp,fun q=>by simp only at q;omega,fun q=>by simp only at q;omega⟩
def TH(p:Prog):Prop:= ∀d∈p.data,∀x∈d,0≤x∧x≤65535
theorem OP{cells:List Cell}{b:Nat}{d:List Int}(h:cL cells)(hd: ∀x∈d,0≤x∧x≤65535): ∀k,k≤d.length→cL (pI cells b d k)
 |0,_=>h
 |k+1,hk=>by
  have h1:=OP (b:=b) h hd k (by omega);have G3:k<d.length:=by omega
  rw[Q1 G3];have hc:=(h1.getD (b+k)).1;have hv:=hd d[k] (List.getElem_mem G3);exact h1.set (c:=⟨((pI cells b d k).getD (b+k) ⟨0,0⟩).tag,d[k]⟩) ⟨hc,hv⟩ _
theorem we(n:Nat):cL (List.replicate n ⟨0,0⟩):=fun c hc=>by
 rw[List.eq_of_mem_replicate hc];exact jj
theorem Gi{p:Prog}(aE:List Int)(hd:TH p): ∀r,cL (oY p aE r)
 |0=>we 512
 |r+1=>by
  unfold oY;refine OP (Gi aE hd r) (fun x hx=> ?_) _ (Nat.le_refl _);by_cases h:r<p.data.length
  ·simp only[List.getD,List.getElem?_eq_getElem h,Option.getD_some]at hx;exact hd _ (List.getElem_mem h) x hx
  ·simp[List.getD,List.getElem?_eq_none (Nat.le_of_not_lt h)]at hx
theorem Kb{l:List Cell}(h:cL l):dr l=true:=by
 unfold dr;rw[List.all_eq_true];intro c hc;have:=(h c hc).1;simp[lp];omega
theorem Kc{p:Prog}{l:Layout}(hp:rA p)(hd:TH p)(hL:pE l.aE p.aq)(hk:0≤l.key∧l.key≤65535):cp p 0 (kJ p l):=by
 have t0: ∀s:Int,0≤s∧s≤4→cW 0 ⟨s,List.replicate 8 ⟨0,0⟩,0,0, -1, -1,0,0⟩:=fun s hs=>⟨hs,by simp,we 8,by simp,by simp,by simp,by simp,by simp,by simp⟩;have el: ∀i,i<4→ep[i]?=some j8:=fun i hi=>by unfold ep;rw[List.getElem?_replicate,if_pos hi]
 refine⟨hp,hL,hk,⟨⟨DC ..,rfl,Kb (Gi _ hd _),fun i hi=> ?_⟩,Gi _ hd _,fun i=> ?_⟩,rfl,fun i hi=> ?_,fun _=>JW _ _⟩
 ·have e:(kJ p l).memory.lines[i]=j8:=by
   have:=el i (by simpa[kJ,ep] using hi);have e2:(kJ p l).memory.lines[i]?=some j8:=this;rw[List.getElem?_eq_getElem hi]at e2;exact Option.some.inj e2
  rw[e];exact vg.1 rfl
 ·unfold cf;by_cases hi:i<4
  ·simp only[kJ,List.getD,el i hi,Option.getD_some];exact fun c hc=>by cases hc
  ·have:(kJ p l).memory.lines[i]?=none:=List.getElem?_eq_none (by simp[kJ,ep];omega);simp only[List.getD,this,Option.getD_none];exact fun c hc=>by cases hc
 ·have:i=0∨i=1∨i=2∨i=3:=by simp[kJ]at hi;omega
  rcases this with rfl|rfl|rfl|rfl
  ·exact t0 1 (by omega)
  ·exact t0 0 (by omega)
  ·exact t0 0 (by omega)
  ·exact t0 0 (by omega)
theorem DU(n:Int):0≤IntKind.u16.wrap n∧IntKind.u16.wrap n≤65535:=by
 simp only[IntKind.wrap,IntKind.signed,IntKind.bits,Bool.false_and];simp;omega
end Go.Proofs.YtdngefmliibcgaaGreat
