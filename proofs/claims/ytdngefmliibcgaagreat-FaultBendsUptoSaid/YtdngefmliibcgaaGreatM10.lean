/- Part of a proof: G13. -/
import Derived.Test.YtdngefmliibcgaaGreatM05
import Derived.Test.YtdngefmliibcgaaGreatM06
import Derived.Test.YtdngefmliibcgaaGreatM07
import Derived.Test.YtdngefmliibcgaaGreatM08
import Derived.Test.YtdngefmliibcgaaGreatM09
set_option linter.all false
set_option maxRecDepth 20000
set_option maxHeartbeats 20000000
namespace Go.Proofs.YtdngefmliibcgaaGreat
open Go Go.Abs Go.Abs.fJ
def vk(B:Nat→Prop)(m:aF):Prop:= ∀r,r<4→ ∀t:Nat,(cf m r).tag=(t:Int)→ ∀o,o<4→((cf m r).eU=false∨B (t*4+o))→(cf m r).cells.getD o ⟨0,0⟩=m.cells.getD (t*4+o) ⟨0,0⟩
theorem F6{l xs:List Cell}{k i:Nat}(h:k+xs.length≤l.length):(lz l k xs).getD i ⟨0,0⟩=if k≤i∧i<k+xs.length then xs.getD (i-k) ⟨0,0⟩ else l.getD i ⟨0,0⟩:=by
 have hk:(l.take k).length=k:=by simp;omega
 unfold lz;simp only[List.getD_eq_getElem?_getD];rw[List.append_assoc];by_cases h1:i<k
 ·rw[List.getElem?_append_left (by omega),if_neg (by omega),List.getElem?_take_of_lt h1]
 ·rw[List.getElem?_append_right (by omega),hk];by_cases h2:i<k+xs.length
  ·rw[if_pos (by omega),List.getElem?_append_left (by omega)]
  ·rw[if_neg (by omega),List.getElem?_append_right (by omega),List.getElem?_drop];congr 2;omega
theorem DL{c:List Cell}{l:List bT}{r i:Nat}{x:bT}(hr:r<l.length):cf ⟨c,l.set r x⟩ i=if r=i then x else cf ⟨c,l⟩ i:=by
 unfold cf;simp only[List.getD_eq_getElem?_getD,List.getElem?_set];by_cases e:r=i
 ·subst e;simp[hr]
 ·simp[e]
theorem yC(c c':List Cell)(l:List bT)(i:Nat):cf ⟨c,l⟩ i=cf ⟨c',l⟩ i:=rfl
theorem F7{m:aF}(hM:qh m){r:Nat}(hr:r<4):N1 r (cf m r):=by
 have h1:r<m.lines.length:=by rw[hM.lines];exact hr
 rw[dZ h1];exact hM.line r h1
theorem Om{m:aF}(hM:qh m){r:Nat}(hr:r<4)(i:Nat):(jS m r).getD i ⟨0,0⟩=if(cf m r).eU=true∧(cf m r).tag=((i/4:Nat):Int) then(cf m r).cells.getD (i % 4) ⟨0,0⟩ else m.cells.getD i ⟨0,0⟩:=by
 unfold jS;by_cases hd:(cf m r).eU=true
 ·have hl:=F7 hM hr;have hn:(cf m r).tag≠ -1:=fun e=>by rw[(hl.none e).1]at hd;cases hd
  obtain⟨g1,g2,g3,g4⟩:=hl.some hn;obtain⟨t,ht⟩:=Int.eq_ofNat_of_zero_le g1;rw[if_pos hd,F6 (by rw[hM.len,g4];omega),g4,ht];simp only[Int.toNat_natCast,hd,true_and];by_cases e:t*4≤i∧i<t*4+4
  ·have e2:t=i/4:=by omega
   rw[if_pos e,if_pos (by rw[e2])];congr 1;omega
  ·rw[if_neg e,if_neg (by omega)]
 ·rw[if_neg hd,if_neg (by simp[hd])]
theorem AN{B:Nat→Prop}{m:aF}(hM:qh m)(hC:vk B m){a:Nat}(ha:a<512):vk B (cx m a):=by
 have h4:m.lines.length=4:=hM.lines;unfold cx;by_cases TE:(cf m (a/4 % 4)).tag=((a/4:Nat):Int)
 ·rw[if_pos TE];exact hC
 rw[if_neg TE];have bg:=Om hM (r:=a/4 % 4) (by omega);intro r hr t ht o ho hb;rw[DL (by omega)]at ht hb⊢;by_cases e:a/4 % 4=r
 ·rw[if_pos e]at ht hb⊢;simp only at ht;have et:a/4=t:=by omega
  rw[et];simp only[List.getD_eq_getElem?_getD];rw[List.getElem?_take_of_lt ho,List.getElem?_drop]
 ·rw[if_neg e,yC _ m.cells]at ht hb⊢;have h1:=hC r hr t ht o ho hb;show _=(jS m (a/4 % 4)).getD (t*4+o) ⟨0,0⟩;rw[bg,if_neg]
  ·exact h1
  ·intro g;have hl:=F7 hM (r:=a/4 % 4) (by omega);have hn:(cf m (a/4 % 4)).tag≠ -1:=by rw[g.2];omega
   have q:=(hl.some hn).2.2.1;rw[g.2]at q;have KD:=F7 hM hr;have hn2:(cf m r).tag≠ -1:=by rw[ht];omega
   have q2:=(KD.some hn2).2.2.1;rw[ht]at q2;omega
theorem On{m:aF}(a:Nat)(c:Cell):mT m a c=⟨(cx m a).cells,(cx m a).lines.set (a/4 % 4) ⟨(cf (cx m a) (a/4 % 4)).tag,true,(cf (cx m a) (a/4 % 4)).cells.set (a % 4) c⟩⟩:=rfl
theorem JV{B:Nat→Prop}{m:aF}(hM:qh m)(hC:vk B m){a:Nat}(ha:a<512)(hB: ¬B a)(c:Cell):vk B (mT m a c):=by
 have hf:=nY hM ha;have hc:=AN hM hC ha;have h4:(cx m a).lines.length=4:=hf.lines;obtain⟨t1,t2⟩:=qp hM ha;rw[On];intro r hr t ht o ho hb;rw[DL (by omega)]at ht hb⊢;by_cases e:a/4 % 4=r
 ·rw[if_pos e]at ht hb⊢;simp only at ht;have et:a/4=t:=by rw[t1]at ht;omega
  rcases hb with hb|hb
  ·cases hb
  have W9:a % 4≠o:=fun g=>hB (by rw[show a=t*4+o by omega];exact hb);rw[List.getD_eq_getElem?_getD,List.getElem?_set_ne W9,←List.getD_eq_getElem?_getD];have:=hc (a/4 % 4) (by omega) t (by rw[t1,et]) o ho (.inr hb);exact this
 ·rw[if_neg e,yC _ (cx m a).cells]at ht hb⊢;exact hc r hr t ht o ho hb
theorem JW(B:Nat→Prop)(c:List Cell):vk B ⟨c,ep⟩:=fun r hr t ht=>by
 have:(cf ⟨c,ep⟩ r).tag= -1:=by
  have:r=0∨r=1∨r=2∨r=3:=by omega
  rcases this with rfl|rfl|rfl|rfl<;>rfl
 rw[this]at ht;omega
def zO(aE aq:List Int)(a:Nat):Prop:=(resolve aE aq (a:Int)).2=false
def fA(c:Cell):Prop:=(0≤c.tag∧c.tag≤2)∧0≤c.val∧c.val≤65535
def cL(l:List Cell):Prop:= ∀c∈l,fA c
theorem jj:fA ⟨0,0⟩:=⟨⟨by decide,by decide⟩,by decide,by decide⟩
theorem cL.at{l:List Cell}(h:cL l){i:Nat}(hi:i<l.length):fA l[i]:=h _ (List.getElem_mem hi)
theorem cL.getD{l:List Cell}(h:cL l)(i:Nat):fA (l.getD i ⟨0,0⟩):=by
 by_cases hi:i<l.length
 ·simp only[List.getD,List.getElem?_eq_getElem hi,Option.getD_some];exact h.at hi
 ·simp only[List.getD,List.getElem?_eq_none (Nat.le_of_not_lt hi),Option.getD_none];exact jj
theorem cL.set{l:List Cell}(h:cL l){c:Cell}(hc:fA c)(i:Nat):cL (l.set i c):=by
 intro x hx;rcases List.mem_or_eq_of_mem_set hx with hx|rfl
 ·exact h x hx
 ·exact hc
theorem cL.take{l:List Cell}(h:cL l)(n:Nat):cL (l.take n):=fun x hx=>h x (List.mem_of_mem_take hx)
theorem cL.drop{l:List Cell}(h:cL l)(n:Nat):cL (l.drop n):=fun x hx=>h x (List.mem_of_mem_drop hx)
theorem cL.append{l r:List Cell}(h:cL l)(h2:cL r):cL (l++r):=fun x hx=>by
 rcases List.mem_append.1 hx with hx|hx
 ·exact h x hx
 ·exact h2 x hx
theorem cL.nil:cL []:=fun x hx=>by cases hx
theorem cL.dr{l:List Cell}(h:cL l):dr l=true:=by
 unfold Go.Proofs.YtdngefmliibcgaaGreat.dr;rw[List.all_eq_true];intro x hx;have:=(h x hx).1.2;simpa[lp] using this
theorem cL.dm{l:List Cell}(h:cL l):s9 l:=fun i hi=>⟨(h.at hi).1.1,(h.at hi).2⟩
theorem fA.lp{c:Cell}(h:fA c):lp c=true:=by simpa[Go.Proofs.YtdngefmliibcgaaGreat.lp] using h.1.2
theorem vl{l:List Cell}(h:dr l=true)(hr:s9 l):cL l:=by
 intro x hx;obtain⟨i,hi,rfl⟩:=List.getElem_of_mem hx;have h1:=List.all_eq_true.1 h _ (List.getElem_mem hi);have h2:=hr i hi;simp[lp]at h1;exact⟨⟨h2.1,h1⟩,h2.2⟩
structure lZ (m:aF):Prop where
 mem:qh m
 cells:cL m.cells
 line: ∀i,cL (cf m i).cells
theorem td(c c':List Cell)(l:List bT)(r i:Nat)(x:bT):cf ⟨c,l.set r x⟩ i=if r=i∧r<l.length then x else cf ⟨c',l⟩ i:=by
 unfold cf;simp only[List.getD,List.getElem?_set];by_cases h:r=i
 ·subst h;by_cases h2:r<l.length
  ·simp[h2]
  ·simp[h2]
 ·simp[h]
theorem lZ.back{m:aF}(h:lZ m)(r:Nat):cL (jS m r):=by
 unfold jS;split
 ·unfold lz;exact((h.cells.take _).append (h.line r)).append (h.cells.drop _)
 ·exact h.cells
theorem lZ.Oo{m:aF}(h:lZ m){a:Nat}(ha:a<512):lZ (cx m a):=by
 refine⟨nY h.mem ha,?_,fun i=> ?_⟩
 ·unfold cx;split
  ·exact h.cells
  ·exact h.back _
 ·unfold cx;split
  ·exact h.line i
  ·rw[td _ m.cells];split
   ·exact((h.back _).drop _).take _
   ·exact h.line i
theorem lZ.load{m:aF}(h:lZ m){a:Nat}(ha:a<512):fA (na m a):=((h.Oo ha).line _).getD _
theorem lZ.store{m:aF}(h:lZ m){a:Nat}(ha:a<512){c:Cell}(hc:fA c):lZ (mT m a c):=by
 have hf:=h.Oo ha;refine⟨DK h.mem ha hc.lp,hf.cells,fun i=> ?_⟩;unfold mT;rw[td _ (cx m a).cells];split
 ·exact(hf.line _).set hc _
 ·exact hf.line i
structure cW (c:Int) (x:Thread):Prop where
 state:0≤x.state∧x.state≤4
 aO:x.aO.length=8
 cells:cL x.aO
 pc:0≤x.pc∧x.pc≤255
 count:0≤x.count∧x.count≤c
 bK: -1≤x.bK∧x.bK≤255
 saved: -1≤x.saved∧x.saved≤255
 cz:0≤x.cz∧x.cz≤6
 code:0≤x.code∧x.code≤65535
theorem cW.mono{c d:Int}{x:Thread}(h:cW c x)(hd:c≤d):cW d x:=by
 obtain⟨h1,h2,h3,h4,h5,h6,h7,h8,h9⟩:=h;exact⟨h1,h2,h3,h4,⟨h5.1,by omega⟩,h6,h7,h8,h9⟩
theorem cW.ok{x:Thread}(h:cW 1099511627776 x):mh x=true:=by
 obtain⟨h1,h2,h3,h4,h5,h6,h7,h8,h9⟩:=h;unfold mh;rw[h3.dr];simp only[Bool.true_and,Bool.and_eq_true,decide_eq_true_eq];omega
structure cp (p:Prog) (c:Int) (m:aJ):Prop where
 prog:rA p
 lay:pE m.layout.aE p.aq
 key:0≤m.layout.key∧m.layout.key≤65535
 mem:lZ m.memory
 len:m.threads.length=4
 ph: ∀i (h:i<m.threads.length),cW c m.threads[i]
 coh:c≤1000000→vk (zO m.layout.aE p.aq) m.memory
theorem cp.mono{p:Prog}{c d:Int}{m:aJ}(h:cp p c m)(hd:c≤d):cp p d m:=⟨h.prog,h.lay,h.key,h.mem,h.len,fun i hi=>(h.ph i hi).mono hd,fun g=>h.coh (by omega)⟩
theorem cp.ok{p:Prog}{m:aJ}(h:cp p 1099511627776 m):jP p m=true:=by
 unfold jP;simp only[Bool.and_eq_true,decide_eq_true_eq];refine⟨Ay h.prog,ln.2 h.lay,Dq.2 h.mem.mem,h.len,?_⟩;unfold ku;rw[List.all_eq_true];intro x hx;obtain⟨i,hi,rfl⟩:=List.getElem_of_mem hx;exact(h.ph i hi).ok
theorem cp.lens{p:Prog}{c:Int}{m:aJ}(h:cp p c m):G5 m:=by
 have hz:=h.lay.sz.le;have hl:=h.lay.len;have hm:=h.mem.mem.len;have hn:=h.mem.mem.lines;have ht:=h.len;refine⟨by omega,by omega,by omega,fun i hi=> ?_,by omega,fun i hi=> ?_⟩
 ·have:=h.mem.mem.line i hi;by_cases e:(m.memory.lines[i]).tag= -1
  ·rw[(this.none e).2];simp
  ·rw[(this.some e).2.2.2];omega
 ·rw[(h.ph i hi).aO];omega
theorem rA.lens{p:Prog}(h:rA p):G4 p:=by
 have:=h.aq.le;have:=h.len;have:=h.qk;exact⟨by omega,by omega,by omega⟩
structure AO (m:aJ):Prop where
 key:0≤m.layout.key∧m.layout.key≤65535
 cells:s9 m.memory.cells
 line: ∀i (h:i<m.memory.lines.length),s9 (m.memory.lines[i]).cells
 aO: ∀i (h:i<m.threads.length),s9 (m.threads[i]).aO
 code: ∀i (h:i<m.threads.length),0≤(m.threads[i]).code∧(m.threads[i]).code≤65535
theorem yD{p:Prog}{m:aJ}(hr:AO m)(h:jP p m=true):cp p 1099511627776 m:=by
 unfold jP at h;simp only[Bool.and_eq_true,decide_eq_true_eq]at h;obtain⟨h1,h2,h3,h4,h5⟩:=h;have hm:=Dq.1 h3;refine⟨DA h1,ln.1 h2,hr.key,⟨hm,vl hm.cells hr.cells,fun i=> ?_⟩,h4,fun i hi=> ?_,fun g=>by omega⟩
 ·by_cases hi:i<m.memory.lines.length
  ·rw[dZ hi];exact vl (hm.line i hi).cells (hr.line i hi)
  ·unfold cf;simp only[List.getD,List.getElem?_eq_none (Nat.le_of_not_lt hi),Option.getD_none];exact cL.nil
 ·have:=List.all_eq_true.1 h5 _ (List.getElem_mem hi);unfold mh at this;simp only[Bool.and_eq_true,decide_eq_true_eq]at this;have hc:=hr.code i hi;obtain⟨a1,a2,a3,a4,a5,a6,a7,a8,a9,PK,a11,a12,a13,a14⟩:=this;exact⟨⟨a2,a3⟩,a4,vl a1 (hr.aO i hi),⟨a5,a6⟩,⟨a7,a8⟩,⟨a9,PK⟩,⟨a11,a12⟩,⟨a13,a14⟩,hc⟩
structure yE (n m:Nat) (i:Instr):Prop where
 op:0≤i.op∧i.op≤24
 a:0≤i.a∧i.a<8
 b:0≤i.b∧i.b<8
 c:0≤i.c∧i.c<8
 cT:0≤i.cT∧i.cT≤65535
 jump:jumps i.op=true→i.cT<n
 lea:i.op=15→i.cT<m
 sys:i.op=23→i.cT≤15
theorem JX{n m:Nat}{i:Instr}(h:mR i=true)(h2:oG n m i=true):yE n m i:=by
 unfold mR at h;split at h
 ·cases h
 rename_i h1;split at h
 ·cases h
 rename_i ha;split at h
 ·cases h
 rename_i hb;split at h
 ·cases h
 rename_i hc;split at h
 ·cases h
 rename_i hi;unfold oG at h2;simp only[Bool.and_eq_true,Bool.not_eq_true',Bool.and_eq_false_iff,decide_eq_false_iff_not]at h2;refine⟨by omega,by omega,by omega,by omega,by omega,fun hj=> ?_,fun hl=> ?_,fun hs=> ?_⟩
 ·rcases h2.1 with h3|h3
  ·rw[hj]at h3;cases h3
  ·omega
 ·rcases h2.2 with h3|h3
  ·exact absurd hl h3
  ·omega
 ·have hj: ¬jumps i.op=true:=by rw[hs];decide
  rw[if_neg hj,if_neg (by omega),if_pos hs]at h;simpa using h
theorem rA.BL{p:Prog}(h:rA p){k:Nat}(hk:k<p.code.length):yE p.code.length p.aq.length p.code[k]:=JX (h.Tv k hk) (h.range k hk)
theorem vn(n:Int):0≤IntKind.u16.wrap n∧IntKind.u16.wrap n≤65535:=by
 simp only[IntKind.wrap,IntKind.signed,IntKind.bits,Bool.false_and];simp;omega
theorem yF(n:Int):fA ⟨0,IntKind.u16.wrap n⟩:=⟨⟨by simp,by simp⟩,vn n⟩
theorem pN{aE aq:List Int}(hL:pE aE aq){p:Cell}{n:Int}{back:Bool}(h:(fi aE aq p n back).2=0): ∃a:Nat,(fi aE aq p n back).1=⟨1,(a:Int)⟩∧a<512:=by
 by_cases h1:p.tag=1
 case neg=>rw[rB h1]at h;cases h
 cases h2:(resolve aE aq p.val).2 with
 |false=>rw[pK h1 h2]at h;cases h
 |true=>
  obtain⟨k,hk,mI,e,b1,b2⟩:=jh h2;have em:=rC (n:=n) (back:=back) h1 h2 e;have bb:=hL.base k hk mI;have zz:=hL.sz.elem k mI;rw[em]at h⊢;have zh:nth aE k=aE[k]:=db hk;by_cases hi:inside aq k (if back=true then p.val-aE[k]-n else p.val-aE[k]+n)=true
  ·obtain⟨k',G3,ek,o1,o2⟩:=lY.1 hi;have VI:k=k':=by omega
   subst VI;rw[if_pos hi,zh];refine⟨(aE[k]+(if back=true then p.val-aE[k]-n else p.val-aE[k]+n)).toNat,?_,by omega⟩;simp only[Cell.mk.injEq,true_and];omega
  ·rw[if_neg hi]at h;exact absurd h (by simp)
theorem DM: ∀(bs zs:List Int) (k:Nat) (o:Int) (r:Nat) (hk:k<bs.length) (mI:k<zs.length),0≤o→o<zs[k]→(∀j (h:j<bs.length) (h':j<zs.length),j≠k→bs[j]+zs[j]<bs[k]∨bs[k]+zs[k]<bs[j])→(∀j (h':j<zs.length),1≤zs[j])→oF bs zs (bs[k]+o) r=(⟨((r+k:Nat):Int),o⟩,true)
 | [],zs,k,o,r,hk,_,_,_,_,_=>by simp at hk
 |b::bs,[],k,o,r,_,mI,_,_,_,_=>by simp at mI
 |b::bs,z::zs,0,o,r,_,_,h0,h1,_,_=>by
  simp only[List.getElem_cons_zero]at h1⊢;unfold oF;rw[if_pos (by omega)];simp;omega
 |b::bs,z::zs,k+1,o,r,hk,mI,h0,h1,ha,hz=>by
  simp only[List.getElem_cons_succ]at h1⊢;have WW:k<bs.length:=by simpa using hk
  have agf:k<zs.length:=by simpa using mI
  have h:=ha 0 (by simp) (by simp) (by omega);simp only[List.getElem_cons_zero,List.getElem_cons_succ]at h;unfold oF;rw[if_neg (by omega),DM bs zs k o (r+1) WW agf h0 h1 (fun j hj Bc eZ=>by
   have:=ha (j+1) (by simp;omega) (by simp;omega) (by omega);simpa using this) (fun j hj=>by have:=hz (j+1) (by simp;omega);simpa using this)]
  simp only[ax,um.mk.injEq,and_true];omega
theorem F8{aE aq:List Int}(hL:pE aE aq){k:Nat}(hk:k<aE.length)(mI:k<aq.length){o:Int}(h0:0≤o)(h1:o<aq[k]):resolve aE aq (aE[k]+o)=(⟨(k:Int),o⟩,true):=by
 unfold resolve;rw[DM aE aq k o 0 hk mI h0 h1 (fun j h h' eZ=>hL.apart j k h h' hk mI eZ) (fun j h=>(hL.sz.elem j h).1)];simp
theorem JY{aE aq:List Int}(hL:pE aE aq){p:Cell}{n:Int}{back:Bool}(h:(fi aE aq p n back).2=0):(resolve aE aq (fi aE aq p n back).1.val).2=true:=by
 by_cases h1:p.tag=1
 case neg=>rw[rB h1]at h;cases h
 cases h2:(resolve aE aq p.val).2 with
 |false=>rw[pK h1 h2]at h;cases h
 |true=>
  obtain⟨k,hk,mI,e,b1,b2⟩:=jh h2;have em:=rC (n:=n) (back:=back) h1 h2 e;rw[em]at h⊢;by_cases hi:inside aq k (if back=true then p.val-aE[k]-n else p.val-aE[k]+n)=true
  ·obtain⟨k',G3,ek,o1,o2⟩:=lY.1 hi;have VI:k=k':=by omega
   subst VI;rw[if_pos hi,db hk];simp only;rw[F8 hL hk G3 o1 o2]
  ·rw[if_neg hi]at h;exact absurd h (by simp)
theorem tf(aE aq:List Int)(p:Cell)(n:Int)(back:Bool):0≤(fi aE aq p n back).2∧(fi aE aq p n back).2≤6:=by
 by_cases h1:p.tag=1
 case neg=>rw[rB h1];decide
 cases h2:(resolve aE aq p.val).2 with
 |false=>rw[pK h1 h2];decide
 |true=>
  obtain⟨k,hk,mI,e,b1,b2⟩:=jh h2;rw[rC (n:=n) (back:=back) h1 h2 e];by_cases hi:inside aq k (if back=true then p.val-aE[k]-n else p.val-aE[k]+n)=true
  ·rw[if_pos hi];simp
  ·rw[if_neg hi];simp
theorem vo(op:BinOp)(a b:Int):0≤Go.Abs.bits .u16 op a b∧Go.Abs.bits .u16 op a b≤65535:=by
 unfold Go.Abs.bits;split<;>exact vn _
theorem Rh{op b c:Int}(hb:0≤b∧b≤65535)(hc:0≤c∧c≤65535):fA (zM op b c).1∧0≤(zM op b c).2∧(zM op b c).2≤6:=by
 have z: ∀t:Int,0≤t∧t≤6→fA ((⟨0,0⟩:Cell),t).1∧0≤((⟨0,0⟩:Cell),t).2∧((⟨0,0⟩:Cell),t).2≤6:=fun t h=>⟨jj,h⟩;have w: ∀n:Int,fA ((⟨0,IntKind.u16.wrap n⟩:Cell),(0:Int)).1∧0≤((⟨0,IntKind.u16.wrap n⟩:Cell),(0:Int)).2∧((⟨0,IntKind.u16.wrap n⟩:Cell),(0:Int)).2≤6:=fun n=>⟨yF n,by simp⟩;have w2: ∀n:Int,0≤n∧n≤65535→fA ((⟨0,n⟩:Cell),(0:Int)).1∧0≤((⟨0,n⟩:Cell),(0:Int)).2∧((⟨0,n⟩:Cell),(0:Int)).2≤6:=fun n hn=>⟨⟨⟨by simp,by simp⟩,hn⟩,by simp⟩;unfold zM;split
 ·exact w _
 split
 ·exact w _
 split
 ·exact w _
 split
 ·split
  ·exact z _ (by omega)
  ·exact w _
 split
 ·split
  ·exact z _ (by omega)
  ·refine w2 _ ?_;have h1:=Int.tmod_nonneg c hb.1;have h2:b.tmod c≤b:=by
    rw[Int.tmod_eq_emod_of_nonneg hb.1];rcases Int.lt_or_le b c with h|h
    ·rw[Int.emod_eq_of_lt hb.1 h];omega
    ·have:=Int.emod_lt_of_pos b (show 0<c by omega);omega
   omega
 split
 ·exact w2 _ (vo ..)
 split
 ·exact w2 _ (vo ..)
 split
 ·exact w2 _ (vo ..)
 split
 ·exact w _
 split
 ·refine w2 _ ?_;have hp:(0:Int)<2^ (min (c.tmod 16).toNat 16):=Int.pow_pos (by omega);rw[Int.fdiv_eq_ediv_of_nonneg _ (by omega)];have h1:0≤b/2^ (min (c.tmod 16).toNat 16):=Int.ediv_nonneg hb.1 (by omega);have h2:b/2^ (min (c.tmod 16).toNat 16)≤b:=Int.ediv_le_self _ hb.1;omega
 ·split
  ·exact⟨⟨⟨by simp,by simp⟩,by simp⟩,by simp⟩
  ·exact z 0 (by omega)
theorem F9{aE aq:List Int}(hL:pE aE aq)(p:Cell)(n:Int)(back:Bool):fA (fi aE aq p n back).1:=by
 by_cases h:(fi aE aq p n back).2=0
 ·obtain⟨a,e,ha⟩:=pN hL h;rw[e];exact⟨⟨by simp,by simp⟩,by simp only;omega⟩
 ·have:(fi aE aq p n back).1=⟨0,0⟩:=by
   by_cases h1:p.tag=1
   case neg=>rw[rB h1]
   cases h2:(resolve aE aq p.val).2 with
   |false=>rw[pK h1 h2]
   |true=>
    obtain⟨k,hk,mI,e,b1,b2⟩:=jh h2;rw[rC (n:=n) (back:=back) h1 h2 e]at h⊢;by_cases hi:inside aq k (if back=true then p.val-aE[k]-n else p.val-aE[k]+n)=true
    ·rw[if_pos hi]at h;exact absurd rfl h
    ·rw[if_neg hi]
  rw[this];exact jj
theorem Oq{aE aq:List Int}(hL:pE aE aq){op:Int}{b c:Cell}(hb:fA b)(hc:fA c):fA (tM aE aq op b c).1∧0≤(tM aE aq op b c).2∧(tM aE aq op b c).2≤6:=by
 have mv: ∀p n back,fA (fi aE aq p n back).1∧0≤(fi aE aq p n back).2∧(fi aE aq p n back).2≤6:=fun p n back=>⟨F9 hL p n back,tf ..⟩;have one:fA (⟨0,1⟩:Cell):=⟨⟨by simp,by simp⟩,by simp⟩;unfold tM;split
 ·exact⟨jj,by simp⟩
 split
 ·refine⟨?_,by simp⟩;simp only;split
  ·exact one
  ·exact jj
 split
 ·exact Rh hb.2 hc.2
 split
 ·exact mv ..
 split
 ·exact mv ..
 split
 ·exact mv ..
 split
 ·split
  ·exact⟨jj,by simp⟩
  ·split
   ·refine⟨?_,by simp⟩;simp only;split
    ·exact one
    ·exact jj
   ·exact⟨yF _,by simp⟩
 ·exact⟨jj,by simp⟩
def Hg:Instr:=⟨0,0,0,0,0⟩
def tO(x:Thread)(pc:Int)(aO:List Cell):Thread:=⟨x.state,aO,pc,x.count,x.bK,x.saved,x.cz,x.code⟩
def jT(x:Thread)(pc:Int)(aO:List Cell)(saved:Int):Thread:=⟨x.state,aO,pc,x.count+1,x.bK,saved,x.cz,x.code⟩
def pO(x:Thread):Thread:=⟨2,x.aO,x.pc+1,x.count,x.bK,x.saved,x.cz,x.code⟩
def eO(m:aJ)(mem:aF)(t:Nat)(x:Thread):aJ:=⟨m.layout,mem,m.threads.set t x⟩
def gV(x:Thread)(a:Int):Cell:=x.aO.getD a.toNat ⟨0,0⟩
def yG(x:Thread)(a:Int)(c:Cell):List Cell:=x.aO.set a.toNat c
def gb(p:Prog)(m:aJ)(x:Thread)(i:Instr):aF×Thread×Int:=
 if i.op=23 then(m.memory,pO x,1)
 else if i.op=0 then(m.memory,tO x (x.pc+1) x.aO, -1)
 else if i.op=1 then(m.memory,tO x (x.pc+1) (yG x i.a ⟨0,i.cT⟩), -1)
 else if i.op=2 then(m.memory,tO x (x.pc+1) (yG x i.a (gV x i.b)), -1)
 else if i.op=15 then(m.memory,tO x (x.pc+1) (yG x i.a ⟨1,nth m.layout.aE i.cT.toNat⟩), -1)
 else if i.op=16 then
  if(fi m.layout.aE p.aq (gV x i.b) i.cT false).2=0 then
   (cx m.memory (fi m.layout.aE p.aq (gV x i.b) i.cT false).1.val.toNat,
    tO x (x.pc+1) (yG x i.a (na m.memory (fi m.layout.aE p.aq (gV x i.b) i.cT false).1.val.toNat)), -1)
  else(m.memory,fU x (fi m.layout.aE p.aq (gV x i.b) i.cT false).2,2)
 else if i.op=17 then
  if(fi m.layout.aE p.aq (gV x i.a) i.cT false).2=0 then
   (mT m.memory (fi m.layout.aE p.aq (gV x i.a) i.cT false).1.val.toNat (gV x i.b),tO x (x.pc+1) x.aO, -1)
  else(m.memory,fU x (fi m.layout.aE p.aq (gV x i.a) i.cT false).2,2)
 else if i.op=18 then(m.memory,jT x i.cT x.aO x.saved, -1)
 else if i.op=19 then
  if(gV x i.a).tag=0 then(m.memory,jT x (if(gV x i.a).val=0 then i.cT else x.pc+1) x.aO x.saved, -1) else(m.memory,fU x 3,2)
 else if i.op=20 then
  if(gV x i.a).tag=0 then(m.memory,jT x (if(gV x i.a).val=0 then x.pc+1 else i.cT) x.aO x.saved, -1) else(m.memory,fU x 3,2)
 else if i.op=21 then(m.memory,jT x i.cT (yG x i.a ⟨0,x.pc+1⟩) x.saved, -1)
 else if i.op=22 then
  if(gV x i.a).tag=0 then
   if 255<(gV x i.a).val then(m.memory,fU x 2,2) else(m.memory,jT x (gV x i.a).val x.aO x.saved, -1)
  else(m.memory,fU x 3,2)
 else if i.op=24 then
  if x.saved= -1 then(m.memory,fU x 1,2) else(m.memory,jT x x.saved x.aO (-1), -1)
 else if(tM m.layout.aE p.aq i.op (gV x i.b) (gV x i.c)).2=0 then
  (m.memory,tO x (x.pc+1) (yG x i.a (tM m.layout.aE p.aq i.op (gV x i.b) (gV x i.c)).1), -1)
 else(m.memory,fU x (tM m.layout.aE p.aq i.op (gV x i.b) (gV x i.c)).2,2)
def jE(p:Prog)(m:aJ)(x:Thread):aF×Thread×Int:=
 if x.pc<p.code.length then gb p m x (p.code.getD x.pc.toNat Hg) else(m.memory,fU x 2,2)
def iM(p:Prog)(m:aJ)(t:Nat):aJ×Int:=
 (eO m (jE p m (m.threads.getD t cE)).1 t (jE p m (m.threads.getD t cE)).2.1,(jE p m (m.threads.getD t cE)).2.2)
def fV(p:Prog)(t:Nat)(upto:Int):Nat→aJ→aJ×Int
 |0,m=>(m,0)
 |k+1,m=>if(iM p m t).2= -1 then
   if((iM p m t).1.threads.getD t cE).count=upto then((iM p m t).1,0) else fV p t upto k (iM p m t).1
  else iM p m t
def cY(p:Prog)(m:aJ)(t:Nat)(n:Int):aJ×Int:=
 if(m.threads.getD t cE).state=1 then fV p t ((m.threads.getD t cE).count+n) 20000 m else(m,3)
structure iV (c:Int) (x:Thread) (r:aF×Thread×Int):Prop where
 mem:lZ r.1
 ph:cW (c+1) r.2.1
 stop:r.2.2= -1∨r.2.2=1∨r.2.2=2
 Ri:r.2.2= -1→r.2.1.state=x.state∧((r.2.1.count=x.count+1)∨(r.2.1.count=x.count∧r.2.1.pc=x.pc+1))
 calls:r.2.2=1→r.2.1=pO x
 TF:r.2.2=2→r.2.1.state=4∧r.2.1.count=x.count
theorem VR{c:Int}{x:Thread}(h:cW c x){pc:Int}(xh:0≤pc∧pc≤255){aO:List Cell}(hl:aO.length=8)(hr:cL aO):cW (c+1) (tO x pc aO):=
 ⟨h.state,hl,hr,xh,⟨h.count.1,by have:=h.count.2;simp only[tO];omega⟩,h.bK,h.saved,h.cz,h.code⟩
theorem Ot{c:Int}{x:Thread}(h:cW c x){pc:Int}(xh:0≤pc∧pc≤255){aO:List Cell}(hl:aO.length=8)(hr:cL aO){saved:Int}(hs: -1≤saved∧saved≤255):cW (c+1) (jT x pc aO saved):=
 ⟨h.state,hl,hr,xh,by have:=h.count;simp only[jT];omega,h.bK,hs,h.cz,h.code⟩
theorem Ou{c:Int}{x:Thread}(h:cW c x){w:Int}(hw:0≤w∧w≤6):cW (c+1) (fU x w):=
 ⟨by simp[fU],h.aO,h.cells,h.pc,by have:=h.count;simp only[fU];omega,h.bK,h.saved,hw,by simp[fU]⟩
theorem Ov{c:Int}{x:Thread}(h:cW c x)(xh:x.pc≤254):cW (c+1) (pO x):=
 ⟨by simp[pO],h.aO,h.cells,by have:=h.pc;simp only[pO];omega,by have:=h.count;simp only[pO];omega,h.bK,h.saved,h.cz,h.code⟩
theorem sc{c:Int}{x:Thread}(h:cW c x){a:Int}{v:Cell}(hv:fA v):(yG x a v).length=8∧cL (yG x a v):=
 ⟨by simp[yG,h.aO],h.cells.set hv _⟩
theorem iN{c:Int}{x:Thread}(h:cW c x)(a:Int):fA (gV x a):=h.cells.getD _
theorem nZ{c:Int}{x:Thread}(h:cW c x){m:aF}(hm:lZ m)(xh:x.pc≤254){aO:List Cell}(hr:aO.length=8∧cL aO):iV c x (m,tO x (x.pc+1) aO, -1):=
 ⟨hm,VR h (by have:=h.pc;omega) hr.1 hr.2,.inl rfl,fun _=>⟨rfl,.inr ⟨rfl,rfl⟩⟩,fun h=>by simp at h,fun h=>by simp at h⟩
theorem l4{c:Int}{x:Thread}(h:cW c x){m:aF}(hm:lZ m){pc:Int}(xh:0≤pc∧pc≤255){aO:List Cell}(hr:aO.length=8∧cL aO){saved:Int}(hs: -1≤saved∧saved≤255):iV c x (m,jT x pc aO saved, -1):=
 ⟨hm,Ot h xh hr.1 hr.2 hs,.inl rfl,fun _=>⟨rfl,.inl rfl⟩,fun h=>by simp at h,fun h=>by simp at h⟩
theorem jk{c:Int}{x:Thread}(h:cW c x){m:aF}(hm:lZ m){w:Int}(hw:0≤w∧w≤6):iV c x (m,fU x w,2):=
 ⟨hm,Ou h hw,.inr (.inr rfl),fun h=>by simp at h,fun h=>by simp at h,fun _=>⟨rfl,rfl⟩⟩
theorem oo{α:Type}{P:α→Prop}{c:Prop}[Decidable c]{a b:α}(h1:c→P a)(h2: ¬c→P b):P (if c then a else b):=by
 by_cases h:c
 ·rw[if_pos h];exact h1 h
 ·rw[if_neg h];exact h2 h
theorem Rj{p:Prog}{c d:Int}{m:aJ}(H:cp p d m){x:Thread}(hx:cW c x){i:Instr}(hi:yE p.code.length p.aq.length i)(xh:x.pc<p.code.length):iV c x (gb p m x i):=by
 have h64:=H.prog.qk;have hp:x.pc≤254:=by omega
 have hm:=H.mem;have hr:x.aO.length=8∧cL x.aO:=⟨hx.aO,hx.cells⟩;have X8:=hi.cT;unfold gb;refine oo (P:=iV c x) (fun GW=> ?_) fun _=> ?_
 ·exact⟨hm,Ov hx hp,.inr (.inl rfl),fun h=>by simp at h,fun _=>rfl,fun h=>by simp at h⟩
 refine oo (P:=iV c x) (fun h=> ?_) fun _=> ?_
 ·exact nZ hx hm hp hr
 refine oo (P:=iV c x) (fun h=> ?_) fun _=> ?_
 ·exact nZ hx hm hp (sc hx ⟨⟨by simp,by simp⟩,X8⟩)
 refine oo (P:=iV c x) (fun h=> ?_) fun _=> ?_
 ·exact nZ hx hm hp (sc hx (iN hx _))
 refine oo (P:=iV c x) (fun h15=> ?_) fun _=> ?_
 ·refine nZ hx hm hp (sc hx ⟨⟨by simp,by simp⟩,?_⟩);have hl:=hi.lea h15;have hlen:=H.lay.len;have h1:i.cT.toNat<m.layout.aE.length:=by omega
  have h2:i.cT.toNat<p.aq.length:=by omega
  rw[db h1];have:=H.lay.base _ h1 h2;have:=H.lay.sz.elem _ h2;simp only;omega
 refine oo (P:=iV c x) (fun h=> ?_) fun _=> ?_
 ·refine oo (P:=iV c x) (fun h0=> ?_) fun _=> ?_
  ·obtain⟨a,e,ha⟩:=pN H.lay h0;rw[e];exact nZ hx (hm.Oo (by simpa using ha)) hp (sc hx (hm.load (by simpa using ha)))
  ·exact jk hx hm (tf ..)
 refine oo (P:=iV c x) (fun h=> ?_) fun _=> ?_
 ·refine oo (P:=iV c x) (fun h0=> ?_) fun _=> ?_
  ·obtain⟨a,e,ha⟩:=pN H.lay h0;rw[e];exact nZ hx (hm.store (by simpa using ha) (iN hx _)) hp hr
  ·exact jk hx hm (tf ..)
 refine oo (P:=iV c x) (fun ho=> ?_) fun _=> ?_
 ·have:=hi.jump (by rw[ho];decide);exact l4 hx hm (by omega) hr hx.saved
 refine oo (P:=iV c x) (fun ho=> ?_) fun _=> ?_
 ·have:=hi.jump (by rw[ho];decide);have:=hx.pc;refine oo (P:=iV c x) (fun h=> ?_) fun _=> ?_
  ·exact l4 hx hm (by split<;>omega) hr hx.saved
  ·exact jk hx hm (by omega)
 refine oo (P:=iV c x) (fun ho=> ?_) fun _=> ?_
 ·have:=hi.jump (by rw[ho];decide);have:=hx.pc;refine oo (P:=iV c x) (fun h=> ?_) fun _=> ?_
  ·exact l4 hx hm (by split<;>omega) hr hx.saved
  ·exact jk hx hm (by omega)
 refine oo (P:=iV c x) (fun ho=> ?_) fun _=> ?_
 ·have:=hi.jump (by rw[ho];decide);have:=hx.pc;exact l4 hx hm (by omega) (sc hx ⟨⟨by simp,by simp⟩,by simp only;omega⟩) hx.saved
 refine oo (P:=iV c x) (fun ho=> ?_) fun _=> ?_
 ·refine oo (P:=iV c x) (fun h=> ?_) fun _=> ?_
  ·refine oo (P:=iV c x) (fun h=> ?_) fun _=> ?_
   ·exact jk hx hm (by omega)
   ·have:=(iN hx i.a).2;exact l4 hx hm (by omega) hr hx.saved
  ·exact jk hx hm (by omega)
 refine oo (P:=iV c x) (fun ho=> ?_) fun _=> ?_
 ·refine oo (P:=iV c x) (fun h=> ?_) fun _=> ?_
  ·exact jk hx hm (by omega)
  ·have:=hx.saved;exact l4 hx hm (by omega) hr (by omega)
 refine oo (P:=iV c x) (fun ho=> ?_) fun _=> ?_
 ·exact nZ hx hm hp (sc hx (Oq H.lay (iN hx _) (iN hx _)).1)
 ·exact jk hx hm (Oq H.lay (iN hx _) (iN hx _)).2
theorem rH{p:Prog}{c d:Int}{m:aJ}(H:cp p d m){x:Thread}(hx:cW c x):iV c x (jE p m x):=by
 unfold jE;split
 ·rename_i h;have hk:x.pc.toNat<p.code.length:=by have:=hx.pc;omega
  have e:p.code.getD x.pc.toNat Hg=p.code[x.pc.toNat]:=by simp[List.getD,hk]
  rw[e];exact Rj H hx (H.prog.BL hk) h
 ·exact jk hx H.mem (by omega)
theorem Ow{m:aJ}{t:Nat}(h:t<m.threads.length):m.threads.getD t cE=m.threads[t]:=by simp[List.getD,h]
theorem Ox{p:Prog}{d:Int}{m:aJ}(H:cp p d m)(hC:vk (zO m.layout.aE p.aq) m.memory)(x:Thread)(i:Instr):vk (zO m.layout.aE p.aq) (gb p m x i).1:=by
 have fe: ∀c:Cell,(fi m.layout.aE p.aq c i.cT false).2=0→(fi m.layout.aE p.aq c i.cT false).1.val.toNat<512∧ ¬zO m.layout.aE p.aq (fi m.layout.aE p.aq c i.cT false).1.val.toNat:=fun c h=>by
  obtain⟨a,e,ha⟩:=pN H.lay h;have r:=JY H.lay h;rw[e]at r⊢;simp only[Int.toNat_natCast]at r⊢;exact⟨ha,fun g=>by unfold zO at g;rw[g]at r;cases r⟩
 unfold gb;repeat' (refine oo (P:=fun r:aF×Thread×Int=>vk (zO m.layout.aE p.aq) r.1) (fun h=> ?_) fun h=> ?_)
 all_goals first
  |exact hC
  |exact AN H.mem.mem hC (fe _ h).1
  |exact JV H.mem.mem hC (fe _ h).1 (fe _ h).2 _
theorem JZ{p:Prog}{d:Int}{m:aJ}(H:cp p d m)(hC:vk (zO m.layout.aE p.aq) m.memory)(x:Thread):vk (zO m.layout.aE p.aq) (jE p m x).1:=by
 unfold jE;split
 ·exact Ox H hC x _
 ·exact hC
theorem uA{p:Prog}{c d:Int}{m:aJ}(H:cp p c m)(hcd:c≤d){mem:aF}(hm:lZ mem)(hk:d≤1000000→vk (zO m.layout.aE p.aq) mem){t:Nat}{x:Thread}(hx:cW d x):cp p d (eO m mem t x):=by
 refine⟨H.prog,H.lay,H.key,hm,by simp[eO,H.len],fun i hi=> ?_,hk⟩;simp only[eO,List.length_set]at hi;simp only[eO,List.getElem_set];split
 ·exact hx
 ·exact(H.ph i hi).mono hcd
theorem cW.self{c:Int}{x:Thread}(h:cW c x):cW x.count x:=by
 obtain⟨h1,h2,h3,h4,h5,h6,h7,h8,h9⟩:=h;exact⟨h1,h2,h3,h4,⟨h5.1,Int.le_refl _⟩,h6,h7,h8,h9⟩
def bn(m:aJ)(t:Nat):Thread:=m.threads.getD t cE
theorem lA{m:aJ}{t:Nat}(h:t<m.threads.length):bn m t=m.threads[t]:=Ow h
theorem cp.bn{p:Prog}{c:Int}{m:aJ}(h:cp p c m){t:Nat}(ht:t<4):cW c (bn m t):=by
 have hl:t<m.threads.length:=by rw[h.len];exact ht
 rw[lA hl];exact h.ph t hl
theorem J0{m:aJ}{mem:aF}{t:Nat}{x:Thread}(h:t<m.threads.length):bn (eO m mem t x) t=x:=by
 rw[lA (by simpa[eO] using h)];simp[eO]
theorem sd(p:Prog)(m:aJ)(t:Nat):iM p m t=(eO m (jE p m (bn m t)).1 t (jE p m (bn m t)).2.1,(jE p m (bn m t)).2.2):=rfl
theorem rI{p:Prog}{c:Int}{m:aJ}(H:cp p c m){t:Nat}(ht:t<4):bn (iM p m t).1 t=(jE p m (bn m t)).2.1:=by
 rw[sd];exact J0 (by rw[H.len];exact ht)
theorem BM{p:Prog}{c:Int}{m:aJ}(H:cp p c m){t:Nat}(ht:t<4)(hc:(bn m t).count+1≤c):cp p c (iM p m t).1:=by
 have h1:=H.bn ht;have h2:=rH H h1.self;rw[sd];exact uA H (Int.le_refl _) h2.mem (fun g=>JZ H (H.coh g) _) (h2.ph.mono (by omega))
def yH(upto:Int)(x:Thread):Int:=(upto-x.count)*300+(256-x.pc)
theorem vp{p:Prog}{c:Int}{m:aJ}(H:cp p c m){t:Nat}(ht:t<4)(hg:(iM p m t).2= -1)(upto:Int):
  yH upto (bn (iM p m t).1 t)+1≤yH upto (bn m t)∧(bn (iM p m t).1 t).state=(bn m t).state∧(bn m t).count≤(bn (iM p m t).1 t).count∧(bn (iM p m t).1 t).count≤(bn m t).count+1:=by
 have h1:=H.bn ht;have h2:=rH H h1;rw[rI H ht];have h3:=h2.Ri hg;have h4:=h2.ph.pc;have h5:=h1.pc;unfold yH;rcases h3.2 with e|⟨e,e'⟩
 ·rw[e];refine⟨by omega,h3.1,by omega,by omega⟩
 ·rw[e,e'];refine⟨by omega,h3.1,by omega,by omega⟩
theorem J1{p:Prog}{m:aJ}{x:Thread}{i:Instr}(GW: ¬i.op=23): ¬(gb p m x i).2.2=1:=by
 unfold gb;rw[if_neg GW];repeat' (refine oo (P:=fun r:aF×Thread×Int=> ¬r.2.2=1) (fun _=> ?_) fun _=> ?_)
 all_goals simp
theorem Ga{p:Prog}{m:aJ}{x:Thread}(h:(jE p m x).2.2=1):x.pc<p.code.length∧(p.code.getD x.pc.toNat Hg).op=23∧(jE p m x).2.1=pO x∧(jE p m x).1=m.memory:=by
 unfold jE at h⊢;split at h
 case isFalse=>simp at h
 rename_i hp;rw[if_pos hp];obtain⟨i,hi⟩: ∃i,p.code.getD x.pc.toNat Hg=i:=⟨_,rfl⟩;rw[hi]at h⊢;by_cases GW:i.op=23
 ·unfold gb;rw[if_pos GW];exact⟨hp,GW,rfl,rfl⟩
 ·exfalso;exact J1 GW h
structure yI (p:Prog) (d:Int) (t:Nat) (r:aJ×Int):Prop where
 Gb:cp p d r.1
 stop:r.2=0∨r.2=1∨r.2=2
 calls:r.2=1→(bn r.1 t).state=2∧1≤(bn r.1 t).pc∧(bn r.1 t).pc≤p.code.length∧(ji p.code (bn r.1 t).pc).op=23
 TF:r.2=2→(bn r.1 t).state=4
 Ri:r.2=0→(bn r.1 t).state=1
theorem yJ{p:Prog}{d upto:Int}{t:Nat}(ht:t<4)(hd:upto≤d): ∀(k:Nat) (m:aJ),cp p d m→(bn m t).count<upto→(bn m t).state=1→yI p d t (fV p t upto k m)
 |0,m,H,hc,hs=>⟨H,.inl rfl,fun h=>by simp[fV]at h,fun h=>by simp[fV]at h,fun _=>hs⟩
 |k+1,m,H,hc,hs=>by
  have h1:=BM H ht (by omega);unfold fV;split
  ·rename_i hg;have h2:=vp H ht hg upto;split
   ·exact⟨h1,.inl rfl,fun h=>by simp at h,fun h=>by simp at h,fun _=>h2.2.1.trans hs⟩
   ·rename_i eZ;have eZ: ¬(bn (iM p m t).1 t).count=upto:=eZ;exact yJ ht hd k _ h1 (by omega) (by rw[h2.2.1,hs])
  ·rename_i hg;have h3:=rH H (H.bn ht);have e:(iM p m t).2=(jE p m (bn m t)).2.2:=rfl;have gr:=h3.stop;rw[←e]at gr;refine⟨h1,by omega,fun mX=> ?_,fun ZG=> ?_,fun h0=>by omega⟩
   ·rw[rI H ht];obtain⟨c1,c2,c3,c4⟩:=Ga (e▸mX);have xh:=(H.bn ht).pc;rw[c3];refine⟨rfl,by simp only[pO];omega,by simp only[pO];omega,?_⟩;unfold ji;simp only[pO];rw[show(bn m t).pc+1-1=(bn m t).pc by omega];exact c2
   ·rw[rI H ht];exact(h3.TF (e▸ZG)).1
theorem AP{p:Prog}{c:Int}{m:aJ}(H:cp p c m){t:Nat}(ht:t<4){n:Int}(hn:1≤n)(hs:(bn m t).state=1):yI p (c+n) t (cY p m t n):=by
 have e0:m.threads.getD t cE=bn m t:=rfl;unfold cY;rw[e0,if_pos hs];have:=(H.bn ht).count;exact yJ ht (by omega) _ _ (H.mono (by omega)) (by omega) hs
def sj(c:Canon):Prop:=0≤c.val∧c.val≤65535
def gB(l:List Canon):Prop:= ∀c∈l,sj c
theorem gB.nil:gB []:=fun _ h=>by cases h
theorem gB.append{a b:List Canon}(ha:gB a)(hb:gB b):gB (a++b):=fun c hc=>by
 rcases List.mem_append.1 hc with h|h
 ·exact ha c h
 ·exact hb c h
theorem gB.take{l:List Canon}(h:gB l)(n:Nat):gB (l.take n):=fun c hc=>h c (List.mem_of_mem_take hc)
theorem gB.drop{l:List Canon}(h:gB l)(n:Nat):gB (l.drop n):=fun c hc=>h c (List.mem_of_mem_drop hc)
theorem Hh{aE:List Int}{key:Int}{aq:List Int}{c:Cell}(hc:fA c):sj (canon aE key aq c):=by
 unfold canon;split
 ·exact hc.2
 split
 ·exact vn _
 split
 ·exact⟨by simp,by simp⟩
 ·exact⟨by simp,by simp⟩
def tk(f:mY):Prop:= ∀d∈f.data,gB d
theorem tk.at{f:mY}(h:tk f){i:Nat}(hi:i<f.data.length):gB f.data[i]:=h _ (List.getElem_mem hi)
theorem tk.set{f:mY}(h:tk f){d:List Canon}(hd:gB d)(k:Nat)(o:List yi):tk ⟨f.data.set k d,o⟩:=fun x hx=>by
 rcases List.mem_or_eq_of_mem_set hx with hx|rfl
 ·exact h x hx
 ·exact hd
structure ZH (o:j6):Prop where
 input: ∀d∈o.jx,∀x∈d,0≤x∧x≤65535
 files:tk o.files
def OA:j6:=⟨[],[],[],⟨[],[]⟩,[]⟩
structure BO (o:j6):Prop where
 p:N9 o
 r:ZH o
def DO(o:j6):Prop:=BO o∨o=OA
theorem BO.files{o:j6}(h:BO o){f:mY}(hp:BC f)(hr:tk f):BO ⟨o.clock,o.random,o.jx,f,o.fm⟩:=
 ⟨⟨h.p.clock,h.p.random,h.p.jx,h.p.input,hp,h.p.fm,h.p.output⟩,h.r.input,hr⟩
end Go.Proofs.YtdngefmliibcgaaGreat
