/- Part of a proof: G1. -/
import Derived.Test.YtejohpnpnaljdaaGreatM24
import Derived.Test.YtejohpnpnaljdaaGreatM25
import Derived.Test.YtejohpnpnaljdaaGreatM26
import Derived.Test.YtejohpnpnaljdaaGreatM28
import Derived.Test.YtejohpnpnaljdaaGreatM29
set_option linter.all false
set_option maxRecDepth 20000
set_option maxHeartbeats 20000000
namespace Go.Proofs.YtejohpnpnaljdaaGreat
open Go Go.Abs Go.Abs.lu
def d7(B:Nat->Prop)(m:aK):Prop:= ∀r,r<4-> ∀t:Nat,(iD m r).tag=(t:Int)-> ∀o,o<4->((iD m r).iw=false\/B (t*4+o))->(iD m r).cells.getD o ⟨0,0⟩=m.cells.getD (t*4+o) ⟨0,0⟩
theorem look_eq(m:aK)(a:Nat):look m a=if(iD m (a/4 % 4)).tag=((a/4:Nat):Int) then(iD m (a/4 % 4)).cells.getD (a % 4) ⟨0,0⟩ else m.cells.getD a ⟨0,0⟩:=rfl
theorem d8{l xs:List Cell}{k i:Nat}(h:k+xs.length<=l.length):(l9 l k xs).getD i ⟨0,0⟩=if k<=i/\i<k+xs.length then xs.getD (i-k) ⟨0,0⟩ else l.getD i ⟨0,0⟩:=by
 have hk:(l.take k).length=k:=by simp;omega
 unfold l9;simp only[List.getD_eq_getElem?_getD];rw[List.append_assoc];by_cases h1:i<k
 ·rw[List.getElem?_append_left (by omega),if_neg (by omega),List.getElem?_take_of_lt h1]
 ·rw[List.getElem?_append_right (by omega),hk];by_cases h2:i<k+xs.length
  ·rw[if_pos (by omega),List.getElem?_append_left (by omega)]
  ·rw[if_neg (by omega),List.getElem?_append_right (by omega),List.getElem?_drop];congr 2;omega
theorem d9{c:List Cell}{l:List cx}{r i:Nat}{x:cx}(hr:r<l.length):iD ⟨c,l.set r x⟩ i=if r=i then x else iD ⟨c,l⟩ i:=by
 unfold iD;simp only[List.getD_eq_getElem?_getD,List.getElem?_set];by_cases e:r=i
 ·subst e;simp[hr]
 ·simp[e]
theorem i5(c c':List Cell)(l:List cx)(i:Nat):iD ⟨c,l⟩ i=iD ⟨c',l⟩ i:=rfl
theorem i6{m:aK}(hM:w9 m){r:Nat}(hr:r<4):ab2 r (iD m r):=by
 have h1:r<m.lines.length:=by rw[hM.lines];exact hr
 rw[fZ h1];exact hM.line r h1
theorem i7{m:aK}(hM:w9 m){r:Nat}(hr:r<4)(i:Nat):(jU m r).getD i ⟨0,0⟩=if(iD m r).iw=true/\(iD m r).tag=((i/4:Nat):Int) then(iD m r).cells.getD (i % 4) ⟨0,0⟩ else m.cells.getD i ⟨0,0⟩:=by
 unfold jU;by_cases hd:(iD m r).iw=true
 ·have hl:=i6 hM hr;have hn:(iD m r).tag≠ -1:=fun e=>by rw[(hl.none e).1]at hd;cases hd
  obtain⟨g1,g2,g3,g4⟩:=hl.some hn;obtain⟨t,ht⟩:=Int.eq_ofNat_of_zero_le g1;rw[if_pos hd,d8 (by rw[hM.len,g4];omega),g4,ht];simp only[Int.toNat_natCast,hd,true_and];by_cases e:t*4<=i/\i<t*4+4
  ·have e2:t=i/4:=by omega
   rw[if_pos e,if_pos (by rw[e2])];congr 1;omega
  ·rw[if_neg e,if_neg (by omega)]
 ·rw[if_neg hd,if_neg (by simp[hd])]
theorem i9{m:aK}(hM:w9 m){a:Nat}(ha:a<512):(iD (cU m a) (a/4 % 4)).tag=((a/4:Nat):Int):=(qS hM ha).1
theorem t6{B:Nat->Prop}{m:aK}(hM:w9 m)(hC:d7 B m){a:Nat}(ha:a<512)(x:Nat):look (cU m a) x=look m x:=by
 have h4:m.lines.length=4:=hM.lines;unfold cU;by_cases hit:(iD m (a/4 % 4)).tag=((a/4:Nat):Int)
 ·rw[if_pos hit]
 rw[if_neg hit,look_eq,look_eq,d9 (by omega)];have t8:=i7 hM (r:=a/4 % 4) (by omega);by_cases hx:a/4 % 4=x/4 % 4
 ·rw[if_pos hx,<-hx];by_cases he:a/4=x/4
  ·rw[if_pos (by rw[he]),if_neg (by rw[<-he];exact hit)];have hc:((List.drop (a/4*4) (jU m (a/4 % 4))).take 4).getD (x % 4) ⟨0,0⟩=(jU m (a/4 % 4)).getD x ⟨0,0⟩:=by
    simp only[List.getD_eq_getElem?_getD];rw[List.getElem?_take_of_lt (by omega),List.getElem?_drop];congr 2;omega
   rw[hc,t8 x,if_neg (by rw[<-he];exact fun g=>hit g.2)]
  ·rw[if_neg (by simp only;omega),t8 x];by_cases ht:(iD m (a/4 % 4)).tag=((x/4:Nat):Int)
   ·rw[if_pos ht];by_cases hd:(iD m (a/4 % 4)).iw=true
    ·rw[if_pos ⟨hd,ht⟩]
    ·rw[if_neg (fun g=>hd g.1)];have:=hC (a/4 % 4) (by omega) (x/4) ht (x % 4) (by omega) (.inl (by simpa using hd));rw[this];congr 1;omega
   ·rw[if_neg ht,if_neg (fun g=>ht g.2)]
 ·rw[if_neg hx,i5 _ m.cells];by_cases ht:(iD m (x/4 % 4)).tag=((x/4:Nat):Int)
  ·rw[if_pos ht,if_pos ht]
  ·rw[if_neg ht,if_neg ht,t8 x];have hl:=i6 hM (r:=a/4 % 4) (by omega);rw[if_neg];intro g;have hn:(iD m (a/4 % 4)).tag≠ -1:=by rw[g.2];omega
   have:=(hl.some hn).2.2.1;rw[g.2]at this;omega
theorem t9{B:Nat->Prop}{m:aK}(hM:w9 m)(hC:d7 B m){a:Nat}(ha:a<512):kX m a=look m a:=by
 rw[<-t6 hM hC ha a,look_eq,if_pos (i9 hM ha)];rfl
theorem aaa{B:Nat->Prop}{m:aK}(hM:w9 m)(hC:d7 B m){a:Nat}(ha:a<512):d7 B (cU m a):=by
 have h4:m.lines.length=4:=hM.lines;unfold cU;by_cases hit:(iD m (a/4 % 4)).tag=((a/4:Nat):Int)
 ·rw[if_pos hit];exact hC
 rw[if_neg hit];have t8:=i7 hM (r:=a/4 % 4) (by omega);intro r hr t ht o ho hb;rw[d9 (by omega)]at ht hb⊢;by_cases e:a/4 % 4=r
 ·rw[if_pos e]at ht hb⊢;simp only at ht;have et:a/4=t:=by omega
  rw[et];simp only[List.getD_eq_getElem?_getD];rw[List.getElem?_take_of_lt ho,List.getElem?_drop]
 ·rw[if_neg e,i5 _ m.cells]at ht hb⊢;have h1:=hC r hr t ht o ho hb;show _=(jU m (a/4 % 4)).getD (t*4+o) ⟨0,0⟩;rw[t8,if_neg]
  ·exact h1
  ·intro g;have hl:=i6 hM (r:=a/4 % 4) (by omega);have hn:(iD m (a/4 % 4)).tag≠ -1:=by rw[g.2];omega
   have q:=(hl.some hn).2.2.1;rw[g.2]at q;have hl2:=i6 hM hr;have hn2:(iD m r).tag≠ -1:=by rw[ht];omega
   have q2:=(hl2.some hn2).2.2.1;rw[ht]at q2;omega
theorem aab{m:aK}(a:Nat)(c:Cell):mz m a c=⟨(cU m a).cells,(cU m a).lines.set (a/4 % 4) ⟨(iD (cU m a) (a/4 % 4)).tag,true,(iD (cU m a) (a/4 % 4)).cells.set (a % 4) c⟩⟩:=rfl
theorem aac{B:Nat->Prop}{m:aK}(hM:w9 m)(hC:d7 B m){a:Nat}(ha:a<512)(c:Cell)(x:Nat):look (mz m a c) x=if x=a then c else look m x:=by
 have hf:=oC hM ha;have h4:(cU m a).lines.length=4:=hf.lines;obtain⟨t1,t2⟩:=qS hM ha;rw[<-t6 hM hC ha x,aab,look_eq,look_eq,d9 (by omega)];by_cases hx:a/4 % 4=x/4 % 4
 ·rw[if_pos hx,<-hx];by_cases he:a/4=x/4
  ·have q1:(iD (cU m a) (a/4 % 4)).tag=((x/4:Nat):Int):=by rw[t1,he]
   rw[if_pos q1];by_cases e:x=a
   ·subst e;rw[if_pos rfl,List.getD_eq_getElem?_getD,List.getElem?_set_self (by omega)];rfl
   ·rw[if_neg e,if_pos q1,List.getD_eq_getElem?_getD,List.getElem?_set_ne (by omega),List.getD_eq_getElem?_getD]
  ·have q1: ¬(iD (cU m a) (a/4 % 4)).tag=((x/4:Nat):Int):=by rw[t1];omega
   rw[if_neg q1,if_neg q1,if_neg (fun e=>he (by rw[e]))]
 ·rw[if_neg hx,i5 _ (cU m a).cells];rw[if_neg (show¬x=a from fun e=>hx (by rw[e]))]
theorem aad{B:Nat->Prop}{m:aK}(hM:w9 m)(hC:d7 B m){a:Nat}(ha:a<512)(hB: ¬B a)(c:Cell):d7 B (mz m a c):=by
 have hf:=oC hM ha;have hc:=aaa hM hC ha;have h4:(cU m a).lines.length=4:=hf.lines;obtain⟨t1,t2⟩:=qS hM ha;rw[aab];intro r hr t ht o ho hb;rw[d9 (by omega)]at ht hb⊢;by_cases e:a/4 % 4=r
 ·rw[if_pos e]at ht hb⊢;simp only at ht;have et:a/4=t:=by rw[t1]at ht;omega
  rcases hb with hb|hb
  ·cases hb
  have ho2:a % 4≠o:=fun g=>hB (by rw[show a=t*4+o by omega];exact hb);rw[List.getD_eq_getElem?_getD,List.getElem?_set_ne ho2,<-List.getD_eq_getElem?_getD];have:=hc (a/4 % 4) (by omega) t (by rw[t1,et]) o ho (.inr hb);exact this
 ·rw[if_neg e,i5 _ (cU m a).cells]at ht hb⊢;exact hc r hr t ht o ho hb
theorem aae{B:Nat->Prop}{m:aK}(hM:w9 m)(hC:d7 B m){a:Nat}(ha:a<512){x:Nat}(hB:B x):(cU m a).cells.getD x ⟨0,0⟩=m.cells.getD x ⟨0,0⟩:=by
 unfold cU;split
 ·rfl
 show(jU m (a/4 % 4)).getD x ⟨0,0⟩=_;rw[i7 hM (by omega)];split
 ·rename_i g;have:=hC (a/4 % 4) (by omega) (x/4) g.2 (x % 4) (by omega) (.inr (by rw[show x/4*4+x % 4=x by omega];exact hB));rw[this];congr 1;omega
 ·rfl
theorem aag{B:Nat->Prop}{m:aK}(hM:w9 m)(hC:d7 B m){a:Nat}(ha:a<512)(c:Cell){x:Nat}(hB:B x):(mz m a c).cells.getD x ⟨0,0⟩=m.cells.getD x ⟨0,0⟩:=aae hM hC ha hB
theorem aav(B:Nat->Prop)(c:List Cell):d7 B ⟨c,bY⟩:=fun r hr t ht=>by
 have:(iD ⟨c,bY⟩ r).tag= -1:=by
  have:r=0\/r=1\/r=2\/r=3:=by omega
  rcases this with rfl|rfl|rfl|rfl<;>rfl
 rw[this]at ht;omega
def aaw(aD ae:List Int)(a:Nat):Prop:=(resolve aD ae (a:Int)).2=false
def hY(c:Cell):Prop:=(0<=c.tag/\c.tag<=2)/\0<=c.val/\c.val<=65535
def dB(l:List Cell):Prop:= ∀c∈l,hY c
theorem j6:hY ⟨0,0⟩:=⟨⟨by decide,by decide⟩,by decide,by decide⟩
theorem dB.at{l:List Cell}(h:dB l){i:Nat}(hi:i<l.length):hY l[i]:=h _ (List.getElem_mem hi)
theorem dB.getD{l:List Cell}(h:dB l)(i:Nat):hY (l.getD i ⟨0,0⟩):=by
 by_cases hi:i<l.length
 ·simp only[List.getD,List.getElem?_eq_getElem hi,Option.getD_some];exact h.at hi
 ·simp only[List.getD,List.getElem?_eq_none (Nat.le_of_not_lt hi),Option.getD_none];exact j6
theorem dB.set{l:List Cell}(h:dB l){c:Cell}(hc:hY c)(i:Nat):dB (l.set i c):=by
 intro x hx;rcases List.mem_or_eq_of_mem_set hx with hx|rfl
 ·exact h x hx
 ·exact hc
theorem dB.take{l:List Cell}(h:dB l)(n:Nat):dB (l.take n):=fun x hx=>h x (List.mem_of_mem_take hx)
theorem dB.drop{l:List Cell}(h:dB l)(n:Nat):dB (l.drop n):=fun x hx=>h x (List.mem_of_mem_drop hx)
theorem dB.append{l r:List Cell}(h:dB l)(h2:dB r):dB (l++r):=fun x hx=>by
 rcases List.mem_append.1 hx with hx|hx
 ·exact h x hx
 ·exact h2 x hx
theorem dB.nil:dB []:=fun x hx=>by cases hx
theorem dB.eD{l:List Cell}(h:dB l):eD l=true:=by
 unfold Go.Proofs.YtejohpnpnaljdaaGreat.eD;rw[List.all_eq_true];intro x hx;have:=(h x hx).1.2;simpa[l4] using this
theorem dB.afr{l:List Cell}(h:dB l):xf l:=fun i hi=>⟨(h.at hi).1.1,(h.at hi).2⟩
theorem hY.l4{c:Cell}(h:hY c):l4 c=true:=by simpa[Go.Proofs.YtejohpnpnaljdaaGreat.l4] using h.1.2
theorem zx{l:List Cell}(h:eD l=true)(hr:xf l):dB l:=by
 intro x hx;obtain⟨i,hi,rfl⟩:=List.getElem_of_mem hx;have h1:=List.all_eq_true.1 h _ (List.getElem_mem hi);have h2:=hr i hi;simp[l4]at h1;exact⟨⟨h2.1,h1⟩,h2.2⟩
structure pn (m:aK):Prop where
 mem:w9 m
 cells:dB m.cells
 line: ∀i,dB (iD m i).cells
theorem Cl(c c':List Cell)(l:List cx)(r i:Nat)(x:cx):iD ⟨c,l.set r x⟩ i=if r=i/\r<l.length then x else iD ⟨c',l⟩ i:=by
 unfold iD;simp only[List.getD,List.getElem?_set];by_cases h:r=i
 ·subst h;by_cases h2:r<l.length
  ·simp[h2]
  ·simp[h2]
 ·simp[h]
theorem pn.back{m:aK}(h:pn m)(r:Nat):dB (jU m r):=by
 unfold jU;split
 ·unfold l9;exact((h.cells.take _).append (h.line r)).append (h.cells.drop _)
 ·exact h.cells
theorem pn.U0{m:aK}(h:pn m){a:Nat}(ha:a<512):pn (cU m a):=by
 refine⟨oC h.mem ha,?_,fun i=> ?_⟩
 ·unfold cU;split
  ·exact h.cells
  ·exact h.back _
 ·unfold cU;split
  ·exact h.line i
  ·rw[Cl _ m.cells];split
   ·exact((h.back _).drop _).take _
   ·exact h.line i
theorem pn.load{m:aK}(h:pn m){a:Nat}(ha:a<512):hY (kX m a):=((h.U0 ha).line _).getD _
theorem pn.store{m:aK}(h:pn m){a:Nat}(ha:a<512){c:Cell}(hc:hY c):pn (mz m a c):=by
 have hf:=h.U0 ha;refine⟨Cd h.mem ha hc.l4,hf.cells,fun i=> ?_⟩;unfold mz;rw[Cl _ (cU m a).cells];split
 ·exact(hf.line _).set hc _
 ·exact hf.line i
structure dF (c:Int) (x:Thread):Prop where
 state:0<=x.state/\x.state<=4
 bm:x.bm.length=8
 cells:dB x.bm
 pc:0<=x.pc/\x.pc<=255
 count:0<=x.count/\x.count<=c
 bV: -1<=x.bV/\x.bV<=255
 saved: -1<=x.saved/\x.saved<=255
 dd:0<=x.dd/\x.dd<=6
 code:0<=x.code/\x.code<=65535
theorem dF.mono{c d:Int}{x:Thread}(h:dF c x)(hd:c<=d):dF d x:=by
 obtain⟨h1,h2,h3,h4,h5,h6,h7,h8,h9⟩:=h;exact⟨h1,h2,h3,h4,⟨h5.1,by omega⟩,h6,h7,h8,h9⟩
theorem dF.ok{x:Thread}(h:dF 1099511627776 x):lM x=true:=by
 obtain⟨h1,h2,h3,h4,h5,h6,h7,h8,h9⟩:=h;unfold lM;rw[h3.eD];simp only[Bool.true_and,Bool.and_eq_true,decide_eq_true_eq];omega
structure cR (p:Prog) (c:Int) (m:bf):Prop where
 prog:pO p
 lay:nr m.layout.aD p.ae
 key:0<=m.layout.key/\m.layout.key<=65535
 mem:pn m.memory
 len:m.threads.length=4
 nv: ∀i (h:i<m.threads.length),dF c m.threads[i]
 coh:c<=1000000->d7 (aaw m.layout.aD p.ae) m.memory
theorem cR.mono{p:Prog}{c d:Int}{m:bf}(h:cR p c m)(hd:c<=d):cR p d m:=⟨h.prog,h.lay,h.key,h.mem,h.len,fun i hi=>(h.nv i hi).mono hd,fun g=>h.coh (by omega)⟩
theorem cR.ok{p:Prog}{m:bf}(h:cR p 1099511627776 m):jc p m=true:=by
 unfold jc;simp only[Bool.and_eq_true,decide_eq_true_eq];refine⟨vM h.prog,lL.2 h.lay,Ip.2 h.mem.mem,h.len,?_⟩;unfold lh;rw[List.all_eq_true];intro x hx;obtain⟨i,hi,rfl⟩:=List.getElem_of_mem hx;exact(h.nv i hi).ok
theorem cR.lens{p:Prog}{c:Int}{m:bf}(h:cR p c m):qA m:=by
 have hz:=h.lay.sz.le;have hl:=h.lay.len;have hm:=h.mem.mem.len;have hn:=h.mem.mem.lines;have ht:=h.len;refine⟨by omega,by omega,by omega,fun i hi=> ?_,by omega,fun i hi=> ?_⟩
 ·have:=h.mem.mem.line i hi;by_cases e:(m.memory.lines[i]).tag= -1
  ·rw[(this.none e).2];simp
  ·rw[(this.some e).2.2.2];omega
 ·rw[(h.nv i hi).bm];omega
theorem pO.lens{p:Prog}(h:pO p):rK p:=by
 have:=h.ae.le;have:=h.len;have:=h.pk;exact⟨by omega,by omega,by omega⟩
structure yl (m:bf):Prop where
 key:0<=m.layout.key/\m.layout.key<=65535
 cells:xf m.memory.cells
 line: ∀i (h:i<m.memory.lines.length),xf (m.memory.lines[i]).cells
 bm: ∀i (h:i<m.threads.length),xf (m.threads[i]).bm
 code: ∀i (h:i<m.threads.length),0<=(m.threads[i]).code/\(m.threads[i]).code<=65535
theorem uT{p:Prog}{m:bf}(hr:yl m)(h:jc p m=true):cR p 1099511627776 m:=by
 unfold jc at h;simp only[Bool.and_eq_true,decide_eq_true_eq]at h;obtain⟨h1,h2,h3,h4,h5⟩:=h;have hm:=Ip.1 h3;refine⟨ID h1,lL.1 h2,hr.key,⟨hm,zx hm.cells hr.cells,fun i=> ?_⟩,h4,fun i hi=> ?_,fun g=>by omega⟩
 ·by_cases hi:i<m.memory.lines.length
  ·rw[fZ hi];exact zx (hm.line i hi).cells (hr.line i hi)
  ·unfold iD;simp only[List.getD,List.getElem?_eq_none (Nat.le_of_not_lt hi),Option.getD_none];exact dB.nil
 ·have:=List.all_eq_true.1 h5 _ (List.getElem_mem hi);unfold lM at this;simp only[Bool.and_eq_true,decide_eq_true_eq]at this;have hc:=hr.code i hi;obtain⟨a1,a2,a3,a4,a5,a6,a7,a8,a9,Px,a11,a12,a13,a14⟩:=this;exact⟨⟨a2,a3⟩,a4,zx a1 (hr.bm i hi),⟨a5,a6⟩,⟨a7,a8⟩,⟨a9,Px⟩,⟨a11,a12⟩,⟨a13,a14⟩,hc⟩
structure Cm (n m:Nat) (i:Instr):Prop where
 op:0<=i.op/\i.op<=24
 a:0<=i.a/\i.a<8
 b:0<=i.b/\i.b<8
 c:0<=i.c/\i.c<8
 dy:0<=i.dy/\i.dy<=65535
 jump:jumps i.op=true->i.dy<n
 lea:i.op=15->i.dy<m
 sys:i.op=23->i.dy<=15
theorem Py{n m:Nat}{i:Instr}(h:lg i=true)(h2:ng n m i=true):Cm n m i:=by
 unfold lg at h;split at h
 ·cases h
 rename_i h1;split at h
 ·cases h
 rename_i ha;split at h
 ·cases h
 rename_i hb;split at h
 ·cases h
 rename_i hc;split at h
 ·cases h
 rename_i hi;unfold ng at h2;simp only[Bool.and_eq_true,Bool.not_eq_true',Bool.and_eq_false_iff,decide_eq_false_iff_not]at h2;refine⟨by omega,by omega,by omega,by omega,by omega,fun hj=> ?_,fun hl=> ?_,fun hs=> ?_⟩
 ·rcases h2.1 with h3|h3
  ·rw[hj]at h3;cases h3
  ·omega
 ·rcases h2.2 with h3|h3
  ·exact absurd hl h3
  ·omega
 ·have hj: ¬jumps i.op=true:=by rw[hs];decide
  rw[if_neg hj,if_neg (by omega),if_pos hs]at h;simpa using h
theorem pO.zy{p:Prog}(h:pO p){k:Nat}(hk:k<p.code.length):Cm p.code.length p.ae.length p.code[k]:=Py (h.acb k hk) (h.range k hk)
theorem nP(n:Int):0<=IntKind.u16.wrap n/\IntKind.u16.wrap n<=65535:=by
 simp only[IntKind.wrap,IntKind.signed,IntKind.bits,Bool.false_and];simp;omega
theorem Cn(n:Int):hY ⟨0,IntKind.u16.wrap n⟩:=⟨⟨by simp,by simp⟩,nP n⟩
theorem qV{aD ae:List Int}(hL:nr aD ae){p:Cell}{n:Int}{back:Bool}(h:(jb aD ae p n back).2=0): ∃a:Nat,(jb aD ae p n back).1=⟨1,(a:Int)⟩/\a<512:=by
 by_cases h1:p.tag=1
 case neg=>rw[uQ h1]at h;cases h
 cases h2:(resolve aD ae p.val).2 with
 |false=>rw[sD h1 h2]at h;cases h
 |true=>
  obtain⟨k,hk,tP,e,b1,b2⟩:=jB h2;have em:=uR (n:=n) (back:=back) h1 h2 e;have bb:=hL.base k hk tP;have zz:=hL.sz.elem k tP;rw[em]at h⊢;have BH:nth aD k=aD[k]:=cZ hk;by_cases hi:inside ae k (if back=true then p.val-aD[k]-n else p.val-aD[k]+n)=true
  ·obtain⟨k',wy,ek,o1,o2⟩:=kQ.1 hi;have Yy:k=k':=by omega
   subst Yy;rw[if_pos hi,BH];refine⟨(aD[k]+(if back=true then p.val-aD[k]-n else p.val-aD[k]+n)).toNat,?_,by omega⟩;simp only[Cell.mk.injEq,true_and];omega
  ·rw[if_neg hi]at h;exact absurd h (by simp)
theorem aay: ∀(bs zs:List Int) (k:Nat) (o:Int) (r:Nat) (hk:k<bs.length) (hk':k<zs.length),0<=o->o<zs[k]->(∀j (h:j<bs.length) (h':j<zs.length),j≠k->bs[j]+zs[j]<bs[k]\/bs[k]+zs[k]<bs[j])->(∀j (h':j<zs.length),1<=zs[j])->qR bs zs (bs[k]+o) r=(⟨((r+k:Nat):Int),o⟩,true)
 | [],zs,k,o,r,hk,_,_,_,_,_=>by simp at hk
 |b::bs,[],k,o,r,_,hk',_,_,_,_=>by simp at hk'
 |b::bs,z::zs,0,o,r,_,_,h0,h1,_,_=>by
  simp only[List.getElem_cons_zero]at h1⊢;unfold qR;rw[if_pos (by omega)];simp;omega
 |b::bs,z::zs,k+1,o,r,hk,hk',h0,h1,ha,hz=>by
  simp only[List.getElem_cons_succ]at h1⊢;have hkl:k<bs.length:=by simpa using hk
  have aaz:k<zs.length:=by simpa using hk'
  have h:=ha 0 (by simp) (by simp) (by omega);simp only[List.getElem_cons_zero,List.getElem_cons_succ]at h;unfold qR;rw[if_neg (by omega),aay bs zs k o (r+1) hkl aaz h0 h1 (fun j hj hj' iK=>by
   have:=ha (j+1) (by simp;omega) (by simp;omega) (by omega);simpa using this) (fun j hj=>by have:=hz (j+1) (by simp;omega);simpa using this)]
  simp only[aF,AT.mk.injEq,and_true];omega
theorem abt{aD ae:List Int}(hL:nr aD ae){k:Nat}(hk:k<aD.length)(hk':k<ae.length){o:Int}(h0:0<=o)(h1:o<ae[k]):resolve aD ae (aD[k]+o)=(⟨(k:Int),o⟩,true):=by
 unfold resolve;rw[aay aD ae k o 0 hk hk' h0 h1 (fun j h h' iK=>hL.apart j k h h' hk hk' iK) (fun j h=>(hL.sz.elem j h).1)];simp
theorem abu{aD ae:List Int}(hL:nr aD ae){p:Cell}{n:Int}{back:Bool}(h:(jb aD ae p n back).2=0):(resolve aD ae (jb aD ae p n back).1.val).2=true:=by
 by_cases h1:p.tag=1
 case neg=>rw[uQ h1]at h;cases h
 cases h2:(resolve aD ae p.val).2 with
 |false=>rw[sD h1 h2]at h;cases h
 |true=>
  obtain⟨k,hk,hk',e,b1,b2⟩:=jB h2;have em:=uR (n:=n) (back:=back) h1 h2 e;rw[em]at h⊢;by_cases hi:inside ae k (if back=true then p.val-aD[k]-n else p.val-aD[k]+n)=true
  ·obtain⟨k',wy,ek,o1,o2⟩:=kQ.1 hi;have ek':k=k':=by omega
   subst ek';rw[if_pos hi,cZ hk];simp only;rw[abt hL hk wy o1 o2]
  ·rw[if_neg hi]at h;exact absurd h (by simp)
theorem xg(aD ae:List Int)(p:Cell)(n:Int)(back:Bool):0<=(jb aD ae p n back).2/\(jb aD ae p n back).2<=6:=by
 by_cases h1:p.tag=1
 case neg=>rw[uQ h1];decide
 cases h2:(resolve aD ae p.val).2 with
 |false=>rw[sD h1 h2];decide
 |true=>
  obtain⟨k,hk,tP,e,b1,b2⟩:=jB h2;rw[uR (n:=n) (back:=back) h1 h2 e];by_cases hi:inside ae k (if back=true then p.val-aD[k]-n else p.val-aD[k]+n)=true
  ·rw[if_pos hi];simp
  ·rw[if_neg hi];simp
theorem zA(op:BinOp)(a b:Int):0<=Go.Abs.bits .u16 op a b/\Go.Abs.bits .u16 op a b<=65535:=by
 unfold Go.Abs.bits;split<;>exact nP _
theorem YF{op b c:Int}(hb:0<=b/\b<=65535)(hc:0<=c/\c<=65535):hY (xe op b c).1/\0<=(xe op b c).2/\(xe op b c).2<=6:=by
 have z: ∀t:Int,0<=t/\t<=6->hY ((⟨0,0⟩:Cell),t).1/\0<=((⟨0,0⟩:Cell),t).2/\((⟨0,0⟩:Cell),t).2<=6:=fun t h=>⟨j6,h⟩;have w: ∀n:Int,hY ((⟨0,IntKind.u16.wrap n⟩:Cell),(0:Int)).1/\0<=((⟨0,IntKind.u16.wrap n⟩:Cell),(0:Int)).2/\((⟨0,IntKind.u16.wrap n⟩:Cell),(0:Int)).2<=6:=fun n=>⟨Cn n,by simp⟩;have w2: ∀n:Int,0<=n/\n<=65535->hY ((⟨0,n⟩:Cell),(0:Int)).1/\0<=((⟨0,n⟩:Cell),(0:Int)).2/\((⟨0,n⟩:Cell),(0:Int)).2<=6:=fun n hn=>⟨⟨⟨by simp,by simp⟩,hn⟩,by simp⟩;unfold xe;split
 ·exact w _
 split
 ·exact w _
 split
 ·exact w _
 split
 ·split
  ·exact z _ (by omega)
  ·exact w _
 split
 ·split
  ·exact z _ (by omega)
  ·refine w2 _ ?_;have h1:=Int.tmod_nonneg c hb.1;have h2:b.tmod c<=b:=by
    rw[Int.tmod_eq_emod_of_nonneg hb.1];rcases Int.lt_or_le b c with h|h
    ·rw[Int.emod_eq_of_lt hb.1 h];omega
    ·have:=Int.emod_lt_of_pos b (show 0<c by omega);omega
   omega
 split
 ·exact w2 _ (zA ..)
 split
 ·exact w2 _ (zA ..)
 split
 ·exact w2 _ (zA ..)
 split
 ·exact w _
 split
 ·refine w2 _ ?_;have hp:(0:Int)<2^ (min (c.tmod 16).toNat 16):=Int.pow_pos (by omega);rw[Int.fdiv_eq_ediv_of_nonneg _ (by omega)];have h1:0<=b/2^ (min (c.tmod 16).toNat 16):=Int.ediv_nonneg hb.1 (by omega);have h2:b/2^ (min (c.tmod 16).toNat 16)<=b:=Int.ediv_le_self _ hb.1;omega
 ·split
  ·exact⟨⟨⟨by simp,by simp⟩,by simp⟩,by simp⟩
  ·exact z 0 (by omega)
theorem LB{aD ae:List Int}(hL:nr aD ae)(p:Cell)(n:Int)(back:Bool):hY (jb aD ae p n back).1:=by
 by_cases h:(jb aD ae p n back).2=0
 ·obtain⟨a,e,ha⟩:=qV hL h;rw[e];exact⟨⟨by simp,by simp⟩,by simp only;omega⟩
 ·have:(jb aD ae p n back).1=⟨0,0⟩:=by
   by_cases h1:p.tag=1
   case neg=>rw[uQ h1]
   cases h2:(resolve aD ae p.val).2 with
   |false=>rw[sD h1 h2]
   |true=>
    obtain⟨k,hk,tP,e,b1,b2⟩:=jB h2;rw[uR (n:=n) (back:=back) h1 h2 e]at h⊢;by_cases hi:inside ae k (if back=true then p.val-aD[k]-n else p.val-aD[k]+n)=true
    ·rw[if_pos hi]at h;exact absurd rfl h
    ·rw[if_neg hi]
  rw[this];exact j6
theorem U1{aD ae:List Int}(hL:nr aD ae){op:Int}{b c:Cell}(hb:hY b)(hc:hY c):hY (n7 aD ae op b c).1/\0<=(n7 aD ae op b c).2/\(n7 aD ae op b c).2<=6:=by
 have mv: ∀p n back,hY (jb aD ae p n back).1/\0<=(jb aD ae p n back).2/\(jb aD ae p n back).2<=6:=fun p n back=>⟨LB hL p n back,xg ..⟩;have one:hY (⟨0,1⟩:Cell):=⟨⟨by simp,by simp⟩,by simp⟩;unfold n7;split
 ·exact⟨j6,by simp⟩
 split
 ·refine⟨?_,by simp⟩;simp only;split
  ·exact one
  ·exact j6
 split
 ·exact YF hb.2 hc.2
 split
 ·exact mv ..
 split
 ·exact mv ..
 split
 ·exact mv ..
 split
 ·split
  ·exact⟨j6,by simp⟩
  ·split
   ·refine⟨?_,by simp⟩;simp only;split
    ·exact one
    ·exact j6
   ·exact⟨Cn _,by simp⟩
 ·exact⟨j6,by simp⟩
def nU:Instr:=⟨0,0,0,0,0⟩
def si(x:Thread)(pc:Int)(bm:List Cell):Thread:=⟨x.state,bm,pc,x.count,x.bV,x.saved,x.dd,x.code⟩
def kK(x:Thread)(pc:Int)(bm:List Cell)(saved:Int):Thread:=⟨x.state,bm,pc,x.count+1,x.bV,saved,x.dd,x.code⟩
def rL(x:Thread):Thread:=⟨2,x.bm,x.pc+1,x.count,x.bV,x.saved,x.dd,x.code⟩
def kq(m:bf)(mem:aK)(t:Nat)(x:Thread):bf:=⟨m.layout,mem,m.threads.set t x⟩
def iR(x:Thread)(a:Int):Cell:=x.bm.getD a.toNat ⟨0,0⟩
def Co(x:Thread)(a:Int)(c:Cell):List Cell:=x.bm.set a.toNat c
def fR(p:Prog)(m:bf)(x:Thread)(i:Instr):aK×Thread×Int:=
 if i.op=23 then(m.memory,rL x,1)
 else if i.op=0 then(m.memory,si x (x.pc+1) x.bm, -1)
 else if i.op=1 then(m.memory,si x (x.pc+1) (Co x i.a ⟨0,i.dy⟩), -1)
 else if i.op=2 then(m.memory,si x (x.pc+1) (Co x i.a (iR x i.b)), -1)
 else if i.op=15 then(m.memory,si x (x.pc+1) (Co x i.a ⟨1,nth m.layout.aD i.dy.toNat⟩), -1)
 else if i.op=16 then
  if(jb m.layout.aD p.ae (iR x i.b) i.dy false).2=0 then
   (cU m.memory (jb m.layout.aD p.ae (iR x i.b) i.dy false).1.val.toNat,
    si x (x.pc+1) (Co x i.a (kX m.memory (jb m.layout.aD p.ae (iR x i.b) i.dy false).1.val.toNat)), -1)
  else(m.memory,gd x (jb m.layout.aD p.ae (iR x i.b) i.dy false).2,2)
 else if i.op=17 then
  if(jb m.layout.aD p.ae (iR x i.a) i.dy false).2=0 then
   (mz m.memory (jb m.layout.aD p.ae (iR x i.a) i.dy false).1.val.toNat (iR x i.b),si x (x.pc+1) x.bm, -1)
  else(m.memory,gd x (jb m.layout.aD p.ae (iR x i.a) i.dy false).2,2)
 else if i.op=18 then(m.memory,kK x i.dy x.bm x.saved, -1)
 else if i.op=19 then
  if(iR x i.a).tag=0 then(m.memory,kK x (if(iR x i.a).val=0 then i.dy else x.pc+1) x.bm x.saved, -1) else(m.memory,gd x 3,2)
 else if i.op=20 then
  if(iR x i.a).tag=0 then(m.memory,kK x (if(iR x i.a).val=0 then x.pc+1 else i.dy) x.bm x.saved, -1) else(m.memory,gd x 3,2)
 else if i.op=21 then(m.memory,kK x i.dy (Co x i.a ⟨0,x.pc+1⟩) x.saved, -1)
 else if i.op=22 then
  if(iR x i.a).tag=0 then
   if 255<(iR x i.a).val then(m.memory,gd x 2,2) else(m.memory,kK x (iR x i.a).val x.bm x.saved, -1)
  else(m.memory,gd x 3,2)
 else if i.op=24 then
  if x.saved= -1 then(m.memory,gd x 1,2) else(m.memory,kK x x.saved x.bm (-1), -1)
 else if(n7 m.layout.aD p.ae i.op (iR x i.b) (iR x i.c)).2=0 then
  (m.memory,si x (x.pc+1) (Co x i.a (n7 m.layout.aD p.ae i.op (iR x i.b) (iR x i.c)).1), -1)
 else(m.memory,gd x (n7 m.layout.aD p.ae i.op (iR x i.b) (iR x i.c)).2,2)
def mB(p:Prog)(m:bf)(x:Thread):aK×Thread×Int:=
 if x.pc<p.code.length then fR p m x (p.code.getD x.pc.toNat nU) else(m.memory,gd x 2,2)
def hZ(p:Prog)(m:bf)(t:Nat):bf×Int:=
 (kq m (mB p m (m.threads.getD t da)).1 t (mB p m (m.threads.getD t da)).2.1,(mB p m (m.threads.getD t da)).2.2)
def dI(p:Prog)(t:Nat)(upto:Int):Nat->bf->bf×Int
 |0,m=>(m,0)
 |k+1,m=>if(hZ p m t).2= -1 then
   if((hZ p m t).1.threads.getD t da).count=upto then((hZ p m t).1,0) else dI p t upto k (hZ p m t).1
  else hZ p m t
def dm(p:Prog)(m:bf)(t:Nat)(n:Int):bf×Int:=
 if(m.threads.getD t da).state=1 then dI p t ((m.threads.getD t da).count+n) 20000 m else(m,3)
structure lG (c:Int) (x:Thread) (r:aK×Thread×Int):Prop where
 mem:pn r.1
 nv:dF (c+1) r.2.1
 stop:r.2.2= -1\/r.2.2=1\/r.2.2=2
 YG:r.2.2= -1->r.2.1.state=x.state/\((r.2.1.count=x.count+1)\/(r.2.1.count=x.count/\r.2.1.pc=x.pc+1))
 calls:r.2.2=1->r.2.1=rL x
 acd:r.2.2=2->r.2.1.state=4/\r.2.1.count=x.count
theorem afs{c:Int}{x:Thread}(h:dF c x){pc:Int}(Gq:0<=pc/\pc<=255){bm:List Cell}(hl:bm.length=8)(hr:dB bm):dF (c+1) (si x pc bm):=
 ⟨h.state,hl,hr,Gq,⟨h.count.1,by have:=h.count.2;simp only[si];omega⟩,h.bV,h.saved,h.dd,h.code⟩
theorem U2{c:Int}{x:Thread}(h:dF c x){pc:Int}(Gq:0<=pc/\pc<=255){bm:List Cell}(hl:bm.length=8)(hr:dB bm){saved:Int}(hs: -1<=saved/\saved<=255):dF (c+1) (kK x pc bm saved):=
 ⟨h.state,hl,hr,Gq,by have:=h.count;simp only[kK];omega,h.bV,hs,h.dd,h.code⟩
theorem U3{c:Int}{x:Thread}(h:dF c x){w:Int}(hw:0<=w/\w<=6):dF (c+1) (gd x w):=
 ⟨by simp[gd],h.bm,h.cells,h.pc,by have:=h.count;simp only[gd];omega,h.bV,h.saved,hw,by simp[gd]⟩
theorem U4{c:Int}{x:Thread}(h:dF c x)(Gq:x.pc<=254):dF (c+1) (rL x):=
 ⟨by simp[rL],h.bm,h.cells,by have:=h.pc;simp only[rL];omega,by have:=h.count;simp only[rL];omega,h.bV,h.saved,h.dd,h.code⟩
theorem vN{c:Int}{x:Thread}(h:dF c x){a:Int}{v:Cell}(hv:hY v):(Co x a v).length=8/\dB (Co x a v):=
 ⟨by simp[Co,h.bm],h.cells.set hv _⟩
theorem iH{c:Int}{x:Thread}(h:dF c x)(a:Int):hY (iR x a):=h.cells.getD _
theorem qW{c:Int}{x:Thread}(h:dF c x){m:aK}(hm:pn m)(Gq:x.pc<=254){bm:List Cell}(hr:bm.length=8/\dB bm):lG c x (m,si x (x.pc+1) bm, -1):=
 ⟨hm,afs h (by have:=h.pc;omega) hr.1 hr.2,.inl rfl,fun _=>⟨rfl,.inr ⟨rfl,rfl⟩⟩,fun h=>by simp at h,fun h=>by simp at h⟩
theorem po{c:Int}{x:Thread}(h:dF c x){m:aK}(hm:pn m){pc:Int}(Gq:0<=pc/\pc<=255){bm:List Cell}(hr:bm.length=8/\dB bm){saved:Int}(hs: -1<=saved/\saved<=255):lG c x (m,kK x pc bm saved, -1):=
 ⟨hm,U2 h Gq hr.1 hr.2 hs,.inl rfl,fun _=>⟨rfl,.inl rfl⟩,fun h=>by simp at h,fun h=>by simp at h⟩
theorem lO{c:Int}{x:Thread}(h:dF c x){m:aK}(hm:pn m){w:Int}(hw:0<=w/\w<=6):lG c x (m,gd x w,2):=
 ⟨hm,U3 h hw,.inr (.inr rfl),fun h=>by simp at h,fun h=>by simp at h,fun _=>⟨rfl,rfl⟩⟩
theorem nZ{α:Type}{P:α->Prop}{c:Prop}[Decidable c]{a b:α}(h1:c->P a)(h2: ¬c->P b):P (if c then a else b):=by
 by_cases h:c
 ·rw[if_pos h];exact h1 h
 ·rw[if_neg h];exact h2 h
theorem YH{p:Prog}{c d:Int}{m:bf}(H:cR p d m){x:Thread}(hx:dF c x){i:Instr}(hi:Cm p.code.length p.ae.length i)(Gq:x.pc<p.code.length):lG c x (fR p m x i):=by
 have h64:=H.prog.pk;have hp:x.pc<=254:=by omega
 have hm:=H.mem;have hr:x.bm.length=8/\dB x.bm:=⟨hx.bm,hx.cells⟩;have him:=hi.dy;unfold fR;refine nZ (P:=lG c x) (fun QY=> ?_) fun _=> ?_
 ·exact⟨hm,U4 hx hp,.inr (.inl rfl),fun h=>by simp at h,fun _=>rfl,fun h=>by simp at h⟩
 refine nZ (P:=lG c x) (fun h=> ?_) fun _=> ?_
 ·exact qW hx hm hp hr
 refine nZ (P:=lG c x) (fun h=> ?_) fun _=> ?_
 ·exact qW hx hm hp (vN hx ⟨⟨by simp,by simp⟩,him⟩)
 refine nZ (P:=lG c x) (fun h=> ?_) fun _=> ?_
 ·exact qW hx hm hp (vN hx (iH hx _))
 refine nZ (P:=lG c x) (fun h15=> ?_) fun _=> ?_
 ·refine qW hx hm hp (vN hx ⟨⟨by simp,by simp⟩,?_⟩);have hl:=hi.lea h15;have hlen:=H.lay.len;have h1:i.dy.toNat<m.layout.aD.length:=by omega
  have h2:i.dy.toNat<p.ae.length:=by omega
  rw[cZ h1];have:=H.lay.base _ h1 h2;have:=H.lay.sz.elem _ h2;simp only;omega
 refine nZ (P:=lG c x) (fun h=> ?_) fun _=> ?_
 ·refine nZ (P:=lG c x) (fun h0=> ?_) fun _=> ?_
  ·obtain⟨a,e,ha⟩:=qV H.lay h0;rw[e];exact qW hx (hm.U0 (by simpa using ha)) hp (vN hx (hm.load (by simpa using ha)))
  ·exact lO hx hm (xg ..)
 refine nZ (P:=lG c x) (fun h=> ?_) fun _=> ?_
 ·refine nZ (P:=lG c x) (fun h0=> ?_) fun _=> ?_
  ·obtain⟨a,e,ha⟩:=qV H.lay h0;rw[e];exact qW hx (hm.store (by simpa using ha) (iH hx _)) hp hr
  ·exact lO hx hm (xg ..)
 refine nZ (P:=lG c x) (fun ho=> ?_) fun _=> ?_
 ·have:=hi.jump (by rw[ho];decide);exact po hx hm (by omega) hr hx.saved
 refine nZ (P:=lG c x) (fun ho=> ?_) fun _=> ?_
 ·have:=hi.jump (by rw[ho];decide);have:=hx.pc;refine nZ (P:=lG c x) (fun h=> ?_) fun _=> ?_
  ·exact po hx hm (by split<;>omega) hr hx.saved
  ·exact lO hx hm (by omega)
 refine nZ (P:=lG c x) (fun ho=> ?_) fun _=> ?_
 ·have:=hi.jump (by rw[ho];decide);have:=hx.pc;refine nZ (P:=lG c x) (fun h=> ?_) fun _=> ?_
  ·exact po hx hm (by split<;>omega) hr hx.saved
  ·exact lO hx hm (by omega)
 refine nZ (P:=lG c x) (fun ho=> ?_) fun _=> ?_
 ·have:=hi.jump (by rw[ho];decide);have:=hx.pc;exact po hx hm (by omega) (vN hx ⟨⟨by simp,by simp⟩,by simp only;omega⟩) hx.saved
 refine nZ (P:=lG c x) (fun ho=> ?_) fun _=> ?_
 ·refine nZ (P:=lG c x) (fun h=> ?_) fun _=> ?_
  ·refine nZ (P:=lG c x) (fun h=> ?_) fun _=> ?_
   ·exact lO hx hm (by omega)
   ·have:=(iH hx i.a).2;exact po hx hm (by omega) hr hx.saved
  ·exact lO hx hm (by omega)
 refine nZ (P:=lG c x) (fun ho=> ?_) fun _=> ?_
 ·refine nZ (P:=lG c x) (fun h=> ?_) fun _=> ?_
  ·exact lO hx hm (by omega)
  ·have:=hx.saved;exact po hx hm (by omega) hr (by omega)
 refine nZ (P:=lG c x) (fun ho=> ?_) fun _=> ?_
 ·exact qW hx hm hp (vN hx (U1 H.lay (iH hx _) (iH hx _)).1)
 ·exact lO hx hm (U1 H.lay (iH hx _) (iH hx _)).2
theorem uU{p:Prog}{c d:Int}{m:bf}(H:cR p d m){x:Thread}(hx:dF c x):lG c x (mB p m x):=by
 unfold mB;split
 ·rename_i h;have hk:x.pc.toNat<p.code.length:=by have:=hx.pc;omega
  have e:p.code.getD x.pc.toNat nU=p.code[x.pc.toNat]:=by simp[List.getD,hk]
  rw[e];exact YH H hx (H.prog.zy hk) h
 ·exact lO hx H.mem (by omega)
theorem U5{m:bf}{t:Nat}(h:t<m.threads.length):m.threads.getD t da=m.threads[t]:=by simp[List.getD,h]
theorem ab4{p:Prog}{d:Int}{m:bf}(H:cR p d m)(hC:d7 (aaw m.layout.aD p.ae) m.memory)(x:Thread)(i:Instr):d7 (aaw m.layout.aD p.ae) (fR p m x i).1:=by
 have ab5: ∀c:Cell,(jb m.layout.aD p.ae c i.dy false).2=0->(jb m.layout.aD p.ae c i.dy false).1.val.toNat<512/\ ¬aaw m.layout.aD p.ae (jb m.layout.aD p.ae c i.dy false).1.val.toNat:=fun c h=>by
  obtain⟨a,e,ha⟩:=qV H.lay h;have r:=abu H.lay h;rw[e]at r⊢;simp only[Int.toNat_natCast]at r⊢;exact⟨ha,fun g=>by unfold aaw at g;rw[g]at r;cases r⟩
 unfold fR;repeat' (refine nZ (P:=fun r:aK×Thread×Int=>d7 (aaw m.layout.aD p.ae) r.1) (fun h=> ?_) fun h=> ?_)
 all_goals first
  |exact hC
  |exact aaa H.mem.mem hC (ab5 _ h).1
  |exact aad H.mem.mem hC (ab5 _ h).1 (ab5 _ h).2 _
theorem ab6{p:Prog}{d:Int}{m:bf}(H:cR p d m)(hC:d7 (aaw m.layout.aD p.ae) m.memory)(x:Thread):d7 (aaw m.layout.aD p.ae) (mB p m x).1:=by
 unfold mB;split
 ·exact ab4 H hC x _
 ·exact hC
theorem vO{p:Prog}{c d:Int}{m:bf}(H:cR p c m)(hcd:c<=d){mem:aK}(hm:pn mem)(hk:d<=1000000->d7 (aaw m.layout.aD p.ae) mem){t:Nat}{x:Thread}(hx:dF d x):cR p d (kq m mem t x):=by
 refine⟨H.prog,H.lay,H.key,hm,by simp[kq,H.len],fun i hi=> ?_,hk⟩;simp only[kq,List.length_set]at hi;simp only[kq,List.getElem_set];split
 ·exact hx
 ·exact(H.nv i hi).mono hcd
theorem dF.self{c:Int}{x:Thread}(h:dF c x):dF x.count x:=by
 obtain⟨h1,h2,h3,h4,h5,h6,h7,h8,h9⟩:=h;exact⟨h1,h2,h3,h4,⟨h5.1,Int.le_refl _⟩,h6,h7,h8,h9⟩
def cg(m:bf)(t:Nat):Thread:=m.threads.getD t da
theorem ie{m:bf}{t:Nat}(h:t<m.threads.length):cg m t=m.threads[t]:=U5 h
theorem cR.cg{p:Prog}{c:Int}{m:bf}(h:cR p c m){t:Nat}(ht:t<4):dF c (cg m t):=by
 have hl:t<m.threads.length:=by rw[h.len];exact ht
 rw[ie hl];exact h.nv t hl
theorem Pz{m:bf}{mem:aK}{t:Nat}{x:Thread}(h:t<m.threads.length):cg (kq m mem t x) t=x:=by
 rw[ie (by simpa[kq] using h)];simp[kq]
theorem tD(p:Prog)(m:bf)(t:Nat):hZ p m t=(kq m (mB p m (cg m t)).1 t (mB p m (cg m t)).2.1,(mB p m (cg m t)).2.2):=rfl
theorem yo{p:Prog}{c:Int}{m:bf}(H:cR p c m){t:Nat}(ht:t<4):cg (hZ p m t).1 t=(mB p m (cg m t)).2.1:=by
 rw[tD];exact Pz (by rw[H.len];exact ht)
theorem yp{p:Prog}{c:Int}{m:bf}(H:cR p c m){t:Nat}(ht:t<4)(hc:(cg m t).count+1<=c):cR p c (hZ p m t).1:=by
 have h1:=H.cg ht;have h2:=uU H h1.self;rw[tD];exact vO H (Int.le_refl _) h2.mem (fun g=>ab6 H (H.coh g) _) (h2.nv.mono (by omega))
def oD(upto:Int)(x:Thread):Int:=(upto-x.count)*300+(256-x.pc)
theorem sF{p:Prog}{c:Int}{m:bf}(H:cR p c m){t:Nat}(ht:t<4)(hg:(hZ p m t).2= -1)(upto:Int):
  oD upto (cg (hZ p m t).1 t)+1<=oD upto (cg m t)/\(cg (hZ p m t).1 t).state=(cg m t).state/\(cg m t).count<=(cg (hZ p m t).1 t).count/\(cg (hZ p m t).1 t).count<=(cg m t).count+1:=by
 have h1:=H.cg ht;have h2:=uU H h1;rw[yo H ht];have h3:=h2.YG hg;have h4:=h2.nv.pc;have h5:=h1.pc;unfold oD;rcases h3.2 with e|⟨e,e'⟩
 ·rw[e];refine⟨by omega,h3.1,by omega,by omega⟩
 ·rw[e,e'];refine⟨by omega,h3.1,by omega,by omega⟩
theorem PA{p:Prog}{m:bf}{x:Thread}{i:Instr}(QY: ¬i.op=23): ¬(fR p m x i).2.2=1:=by
 unfold fR;rw[if_neg QY];repeat' (refine nZ (P:=fun r:aK×Thread×Int=> ¬r.2.2=1) (fun _=> ?_) fun _=> ?_)
 all_goals simp
theorem LD{p:Prog}{m:bf}{x:Thread}(h:(mB p m x).2.2=1):x.pc<p.code.length/\(p.code.getD x.pc.toNat nU).op=23/\(mB p m x).2.1=rL x/\(mB p m x).1=m.memory:=by
 unfold mB at h⊢;split at h
 case isFalse=>simp at h
 rename_i hp;rw[if_pos hp];obtain⟨i,hi⟩: ∃i,p.code.getD x.pc.toNat nU=i:=⟨_,rfl⟩;rw[hi]at h⊢;by_cases QY:i.op=23
 ·unfold fR;rw[if_pos QY];exact⟨hp,QY,rfl,rfl⟩
 ·exfalso;exact PA QY h
structure Cp (p:Prog) (d:Int) (t:Nat) (r:bf×Int):Prop where
 yq:cR p d r.1
 stop:r.2=0\/r.2=1\/r.2=2
 calls:r.2=1->(cg r.1 t).state=2/\1<=(cg r.1 t).pc/\(cg r.1 t).pc<=p.code.length/\(qk p.code (cg r.1 t).pc).op=23
 acd:r.2=2->(cg r.1 t).state=4
 YG:r.2=0->(cg r.1 t).state=1
theorem xh{p:Prog}{d upto:Int}{t:Nat}(ht:t<4)(hd:upto<=d): ∀(k:Nat) (m:bf),cR p d m->(cg m t).count<upto->(cg m t).state=1->Cp p d t (dI p t upto k m)
 |0,m,H,hc,hs=>⟨H,.inl rfl,fun h=>by simp[dI]at h,fun h=>by simp[dI]at h,fun _=>hs⟩
 |k+1,m,H,hc,hs=>by
  have h1:=yp H ht (by omega);unfold dI;split
  ·rename_i hg;have h2:=sF H ht hg upto;split
   ·exact⟨h1,.inl rfl,fun h=>by simp at h,fun h=>by simp at h,fun _=>h2.2.1.trans hs⟩
   ·rename_i iK;have iK: ¬(cg (hZ p m t).1 t).count=upto:=iK;exact xh ht hd k _ h1 (by omega) (by rw[h2.2.1,hs])
  ·rename_i hg;have h3:=uU H (H.cg ht);have e:(hZ p m t).2=(mB p m (cg m t)).2.2:=rfl;have iZ:=h3.stop;rw[<-e]at iZ;refine⟨h1,by omega,fun oW=> ?_,fun aml=> ?_,fun h0=>by omega⟩
   ·rw[yo H ht];obtain⟨c1,c2,c3,c4⟩:=LD (e▸oW);have Gq:=(H.cg ht).pc;rw[c3];refine⟨rfl,by simp only[rL];omega,by simp only[rL];omega,?_⟩;unfold qk;simp only[rL];rw[show(cg m t).pc+1-1=(cg m t).pc by omega];exact c2
   ·rw[yo H ht];exact(h3.acd (e▸aml)).1
theorem sG{p:Prog}{c:Int}{m:bf}(H:cR p c m){t:Nat}(ht:t<4){n:Int}(hn:1<=n)(hs:(cg m t).state=1):Cp p (c+n) t (dm p m t n):=by
 have e0:m.threads.getD t da=cg m t:=rfl;unfold dm;rw[e0,if_pos hs];have:=(H.cg ht).count;exact xh ht (by omega) _ _ (H.mono (by omega)) (by omega) hs
def zF(c:Canon):Prop:=0<=c.val/\c.val<=65535
def fe(l:List Canon):Prop:= ∀c∈l,zF c
theorem fe.nil:fe []:=fun _ h=>by cases h
theorem fe.append{a b:List Canon}(ha:fe a)(hb:fe b):fe (a++b):=fun c hc=>by
 rcases List.mem_append.1 hc with h|h
 ·exact ha c h
 ·exact hb c h
theorem fe.take{l:List Canon}(h:fe l)(n:Nat):fe (l.take n):=fun c hc=>h c (List.mem_of_mem_take hc)
theorem fe.drop{l:List Canon}(h:fe l)(n:Nat):fe (l.drop n):=fun c hc=>h c (List.mem_of_mem_drop hc)
theorem fe.af8{l:List Int}(h: ∀x∈l,0<=x/\x<=65535):fe (l.map yy):=fun c hc=>by
 obtain⟨x,hx,rfl⟩:=List.mem_map.1 hc;exact h x hx
theorem sL{aD:List Int}{key:Int}{ae:List Int}{x:Canon}(hx:zF x):hY (raw aD key ae x).1:=by
 unfold raw;split
 ·exact j6
 split
 ·exact⟨⟨by simp,by simp⟩,hx⟩
 split
 ·exact⟨⟨by simp,by simp⟩,nP _⟩
 ·exact⟨⟨by simp,by simp⟩,nP _⟩
theorem F2{aD:List Int}{key:Int}{ae:List Int}{c:Cell}(hc:hY c):zF (canon aD key ae c):=by
 unfold canon;split
 ·exact hc.2
 split
 ·exact nP _
 split
 ·exact⟨by simp,by simp⟩
 ·exact⟨by simp,by simp⟩
def mE(f:bE):Prop:= ∀d∈f.data,fe d
theorem mE.at{f:bE}(h:mE f){i:Nat}(hi:i<f.data.length):fe f.data[i]:=h _ (List.getElem_mem hi)
theorem mE.set{f:bE}(h:mE f){d:List Canon}(hd:fe d)(k:Nat)(o:List dT):mE ⟨f.data.set k d,o⟩:=fun x hx=>by
 rcases List.mem_or_eq_of_mem_set hx with hx|rfl
 ·exact h x hx
 ·exact hd
theorem Y3{f:bE}(h:mE f)(file mode:Int):mE (mP f file mode).1:=by
 unfold mP;split
 ·exact h
 ·unfold tV;split
  ·exact h.set .nil _ _
  ·exact h
theorem Vo{f:bE}(h:mE f)(k:Int):mE (pw f k).1:=by
 unfold pw;split
 ·exact h
 ·exact h
theorem Y4{f:bE}(h:mE f)(k o:Int):mE (pP f k o).1:=by
 unfold pP;split
 ·split
  ·exact h
  ·exact h
 ·exact h
theorem Y5{f:bE}(hf:gS f)(h:mE f)(k n:Int):mE (mD f k n).1/\fe (mD f k n).2.1:=by
 unfold mD;split
 ·rename_i hc;obtain⟨i,rfl,hi,j,hj,e1,e2,e3,e4,e5⟩:=nX hf hc.1;refine⟨h,?_⟩;simp only;rw[e2];exact((h.at hj).drop _).take _
 ·exact⟨h,.nil⟩
theorem Vp{f:bE}(hf:gS f)(h:mE f)(k:Int){l:List Canon}(hl:fe l):mE (lP f k l).1:=by
 unfold lP;split
 ·rename_i hc;obtain⟨i,rfl,hi,j,hj,e1,e2,e3,e4,e5⟩:=nX hf hc.1;refine h.set ?_ _ _;rw[e2];unfold jL;exact(((h.at hj).take _).append (hl.take _)).append ((h.at hj).drop _)
 ·exact h
theorem PU{f:bE}(h:gS f)(k:Int):gS (pw f k).1:=by
 unfold pw;split
 ·exact yB h _ (.inl ⟨rfl,rfl,rfl⟩)
 ·exact h
structure am7 (o:cN):Prop where
 input: ∀d∈o.cO,∀x∈d,0<=x/\x<=65535
 files:mE o.files
theorem Vq{ins:List (List Int)}(h1:ins.length<=2)(h2: ∀i (h:i<ins.length),(ins[i]).length<=64)(h3: ∀d∈ins,∀x∈d,0<=x/\x<=65535)(s n:Int):
  (mQ ins s n).1.length<=2/\(∀i (h:i<(mQ ins s n).1.length),((mQ ins s n).1[i]).length<=64)/\(∀d∈ (mQ ins s n).1,∀x∈d,0<=x/\x<=65535)/\fe (mQ ins s n).2.1/\(mQ ins s n).2.1.length<=64:=by
 unfold mQ;split
 ·exact⟨h1,h2,h3,.nil,by simp⟩
 ·rename_i hc;have hk:s.toNat<ins.length:=by omega
  have e:ins.getD s.toNat []=ins[s.toNat]:=by simp[List.getD,hk]
  have hl:=h2 _ hk;have hx:=h3 _ (List.getElem_mem hk);rw[e];refine⟨by simpa using h1,fun i h=> ?_,fun d hd=> ?_,fe.af8 fun x AL=>hx x (List.mem_of_mem_take AL),by simp;omega⟩
  ·simp only[List.length_set]at h;simp only[List.getElem_set];split
   ·simp;omega
   ·exact h2 i h
  ·rcases List.mem_or_eq_of_mem_set hd with hd|rfl
   ·exact h3 d hd
   ·exact fun x AL=>hx x (List.mem_of_mem_drop AL)
def kr(n:Int)(ok:Bool):sX:=⟨⟨0,if ok=true then IntKind.u16.wrap n else 65535,0,0⟩,[], -1,false⟩
theorem F3(n:Int)(ok:Bool):zF (kr n ok).value:=by
 unfold kr;simp only;split
 ·exact nP _
 ·exact⟨by simp,by simp⟩
def j9:cN:=⟨[],[],[],⟨[],[]⟩,[]⟩
def k8:sX:=⟨⟨0,0,0,0⟩,[],0,false⟩
def fU(r:Request)(i:Nat):Int:=(r.args.getD i ⟨0,0,0,0⟩).val
def wB(l:List Output)(socket:Int)(data:List Canon):List Output:=if o0 l socket data=true then l++ [⟨l.length,socket,data⟩] else l
def am8(l:List Output)(socket:Int)(data:List Canon):Int:=if o0 l socket data=true then(data.length:Int) else 0
def pH(o:cN)(r:Request):cN×sX:=
 if r.call=1 then(⟨o.clock,o.random,o.cO,(lP o.files (fU r 0) r.data).1,o.cT⟩,kr (lP o.files (fU r 0) r.data).2.1 (lP o.files (fU r 0) r.data).2.2)
 else if r.call=2 then(⟨o.clock,o.random,o.cO,(mD o.files (fU r 0) (fU r 2)).1,o.cT⟩,
  ⟨(kr (mD o.files (fU r 0) (fU r 2)).2.1.length (mD o.files (fU r 0) (fU r 2)).2.2).value,(mD o.files (fU r 0) (fU r 2)).2.1, -1,false⟩)
 else if r.call=3 then(⟨o.clock,o.random,o.cO,(mP o.files (fU r 0) (fU r 1)).1,o.cT⟩,
  if 0<=(mP o.files (fU r 0) (fU r 1)).2 then⟨⟨2,IntKind.u16.wrap (mP o.files (fU r 0) (fU r 1)).2,0,0⟩,[], -1,false⟩ else kr 0 false)
 else if r.call=4 then(⟨o.clock,o.random,o.cO,(pw o.files (fU r 0)).1,o.cT⟩,kr 0 (pw o.files (fU r 0)).2)
 else if r.call=5 then(⟨o.clock,o.random,o.cO,(pP o.files (fU r 0) (fU r 1)).1,o.cT⟩,kr 0 (pP o.files (fU r 0) (fU r 1)).2)
 else if r.call=6 then(⟨o.clock.drop 1,o.random,o.cO,o.files,o.cT⟩,match o.clock with| []=>kr 0 false|x::_=>kr x true)
 else if r.call=7 then(⟨o.clock,o.random.drop 1,o.cO,o.files,o.cT⟩,match o.random with| []=>kr 0 false|x::_=>kr x true)
 else if r.call=13 then(⟨o.clock,o.random,o.cO,o.files,wB o.cT (fU r 0) r.data⟩,kr (am8 o.cT (fU r 0) r.data) (o0 o.cT (fU r 0) r.data))
 else(⟨o.clock,o.random,(mQ o.cO (fU r 0) (fU r 2)).1,o.files,o.cT⟩,
  ⟨(kr (mQ o.cO (fU r 0) (fU r 2)).2.1.length (mQ o.cO (fU r 0) (fU r 2)).2.2).value,(mQ o.cO (fU r 0) (fU r 2)).2.1, -1,false⟩)
structure ui (x:sX):Prop where
 value:zF x.value
 data:fe x.data
 len:x.data.length<=64
theorem iI(n:Int)(ok:Bool):ui (kr n ok):=⟨F3 n ok,.nil,by simp[kr]⟩
theorem qG:ui k8:=⟨⟨by simp[k8],by simp[k8]⟩,.nil,by simp[k8]⟩
structure mV (o:cN):Prop where
 p:sJ o
 r:am7 o
def pQ(o:cN):Prop:=mV o\/o=j9
theorem mV.files{o:cN}(h:mV o){f:bE}(hp:gS f)(hr:mE f):mV ⟨o.clock,o.random,o.cO,f,o.cT⟩:=
 ⟨⟨h.p.clock,h.p.random,h.p.cO,h.p.input,hp,h.p.cT,h.p.output⟩,h.r.input,hr⟩
theorem Vr{l:List Output}(h1:l.length<=200)(h2: ∀i (h:i<l.length),(l[i]).seq=i/\0<=(l[i]).socket/\(l[i]).socket<2/\(l[i]).data.length<=16/\iQ (l[i]).data=true)(s:Int){d:List Canon}(hd:iQ d=true):
  (wB l s d).length<=200/\ ∀i (h:i<(wB l s d).length),((wB l s d)[i]).seq=i/\0<=((wB l s d)[i]).socket/\((wB l s d)[i]).socket<2/\((wB l s d)[i]).data.length<=16/\iQ ((wB l s d)[i]).data=true:=by
 by_cases hb:o0 l s d=true
 case neg=>
  have e:wB l s d=l:=if_neg hb;rw[e];exact⟨h1,h2⟩
 have e:wB l s d=l++ [⟨l.length,s,d⟩]:=if_pos hb;rw[e];unfold o0 at hb;simp only[Bool.and_eq_true,decide_eq_true_eq]at hb;obtain⟨b1,b2,b3,b4⟩:=hb;refine⟨by simp;omega,fun i h=> ?_⟩;by_cases hi:i<l.length
 ·rw[List.getElem_append_left hi];exact h2 i hi
 ·simp only[List.length_append,List.length_cons,List.length_nil]at h;have:i=l.length:=by omega
  subst this;simp only[List.getElem_concat_length];exact⟨trivial,b1,b2,b4,hd⟩
theorem tH{o:cN}(h:mV o){r:Request}(hd:iQ r.data=true)(hv:fe r.data):mV (pH o r).1/\ui (pH o r).2:=by
 have hf:=h.p.files;have hr:=h.r.files;unfold pH;refine nZ (P:=fun q:cN×sX=>mV q.1/\ui q.2) (fun _=> ?_) fun _=> ?_
 ·exact⟨h.files (PT hf _ _) (Vp hf hr _ hv),iI _ _⟩
 refine nZ (P:=fun q:cN×sX=>mV q.1/\ui q.2) (fun _=> ?_) fun _=> ?_
 ·have h1:=Vn hf (fU r 0) (fU r 2);have h2:=Y5 hf hr (fU r 0) (fU r 2);exact⟨h.files h1.1 h2.1,F3 _ _,h2.2,h1.2.1⟩
 refine nZ (P:=fun q:cN×sX=>mV q.1/\ui q.2) (fun _=> ?_) fun _=> ?_
 ·refine⟨h.files (Vl hf _ _).1 (Y3 hr _ _),?_⟩;simp only;split
  ·exact⟨nP _,.nil,by simp⟩
  ·exact iI _ _
 refine nZ (P:=fun q:cN×sX=>mV q.1/\ui q.2) (fun _=> ?_) fun _=> ?_
 ·exact⟨h.files (PU hf _) (Vo hr _),iI _ _⟩
 refine nZ (P:=fun q:cN×sX=>mV q.1/\ui q.2) (fun _=> ?_) fun _=> ?_
 ·exact⟨h.files (Vm hf _ _) (Y4 hr _ _),iI _ _⟩
 refine nZ (P:=fun q:cN×sX=>mV q.1/\ui q.2) (fun _=> ?_) fun _=> ?_
 ·refine⟨⟨⟨by have:=h.p.clock;simp;omega,h.p.random,h.p.cO,h.p.input,hf,h.p.cT,h.p.output⟩,h.r.input,hr⟩,?_⟩;simp only;split
  ·exact iI _ _
  ·exact iI _ _
 refine nZ (P:=fun q:cN×sX=>mV q.1/\ui q.2) (fun _=> ?_) fun _=> ?_
 ·refine⟨⟨⟨h.p.clock,by have:=h.p.random;simp;omega,h.p.cO,h.p.input,hf,h.p.cT,h.p.output⟩,h.r.input,hr⟩,?_⟩;simp only;split
  ·exact iI _ _
  ·exact iI _ _
 refine nZ (P:=fun q:cN×sX=>mV q.1/\ui q.2) (fun _=> ?_) fun _=> ?_
 ·have hs:=Vr h.p.cT h.p.output (fU r 0) hd;exact⟨⟨⟨h.p.clock,h.p.random,h.p.cO,h.p.input,hf,hs.1,hs.2⟩,h.r.input,hr⟩,iI _ _⟩
 ·obtain⟨a1,a2,a3,a4,a5⟩:=Vq h.p.cO h.p.input h.r.input (fU r 0) (fU r 2);exact⟨⟨⟨h.p.clock,h.p.random,a1,a2,hf,h.p.cT,h.p.output⟩,a3,hr⟩,F3 _ _,a4,a5⟩
theorem EH{r:Request}(h:rA r=true):iQ r.data=true/\r.data.length<=16:=by
 unfold rA at h;simp only[Bool.and_eq_true,decide_eq_true_eq]at h;obtain⟨_,_,_,_,_,_,_,_,_,_,_,_,_,_,h1,h2⟩:=h;exact⟨h1,h2⟩
theorem IU{l:bR}(h:gY l)(k t:Int): -1<=(fj l k t).2.1/\(fj l k t).2.1<4:=(Cx h k t).2
end Go.Proofs.YtejohpnpnaljdaaGreat
