/- Part of a proof: engine A4. -/
import Derived.Test.YtejohpnpnaljdaaGreatM00
import Derived.WalkKit
set_option linter.all false
set_option maxRecDepth 20000
set_option maxHeartbeats 20000000
namespace Go.Abs
open Go
abbrev gH:=Nat->Option (Nat×Nat×Nat)
def eA:gH:=fun _=>none
mutual
def cC(w:World)(I:Nat->Prop)(σ:gH):V->Value->Prop
 | .int k n,u=>u= .int k n
 | .bool b,u=>u= .bool b
 | .str s,u=> ∃x:ByteArray,u= .string x/\x.data.toList=s
 | .agg cs,u=> ∃us,u= .agg us/\dn w I σ cs us.toList
 | .de cs,u=> ∃us,u= .tuple us/\dU w I σ cs us.toList
 | .sl c es,u=> ∃a cap,u= .slice a es.length cap/\es.length<=cap/\cap<=maxLen/\(c=true->cap=es.length)/\
   (es=[]\/ ∃b o k,a=some ⟨b,o,none⟩/\I b/\cQ w I eA es k b o)
 | .ref cs,u=> ∃b o,u= .pointer (some ⟨b,o,none⟩)/\I b/\mL w I eA cs b o
 | .bU id s l,u=> ∃a cap,u= .slice a l cap/\l<=cap/\cap<=maxLen/\
   (cap=0\/ ∃b o k c el fz,σ id=some (b,o,k)/\a=some ⟨b,o+s*k,none⟩/\w.heap[b]?=some (.cells c el fz)/\o+(s+cap)*k<=c.size)
 | .ptr id i f,u=> ∃b o k,σ id=some (b,o,k)/\u= .pointer (some ⟨b,o+i*k+f,none⟩)
 | .qs,u=>u= .pointer none
 | .fn g bez bs,u=> ∃us vs,u= .func (.func g) us vs/\dU w I σ bez us.toList/\dU w I σ bs vs.toList
 | .bad,_=>True
def dn (w:World) (I:Nat->Prop) (σ:gH):List V->List Value->Prop
 | [],us=>us=[]
 |c::cs,us=> ∃u r,us=u::r/\u.oneCell'=true/\cC w I σ c u/\dn w I σ cs r
def dU (w:World) (I:Nat->Prop) (σ:gH):List V->List Value->Prop
 | [],us=>us=[]
 |c::cs,us=> ∃u r,us=u::r/\cC w I σ c u/\dU w I σ cs r
def mL (w:World) (I:Nat->Prop) (σ:gH):List V->Nat->Nat->Prop
 | [],_,_=>True
 |c::cs,b,o=>(∃u,w.cell? ⟨b,o,none⟩=some u/\u.oneCell'=true/\cC w I σ c u)/\mL w I σ cs b (o+1)
def cQ (w:World) (I:Nat->Prop) (σ:gH):List V->Nat->Nat->Nat->Prop
 | [],_,_,_=>True
 | .agg cs::es,k,b,o=>cs.length=k/\mL w I σ cs b o/\cQ w I σ es k b (o+k)
 |e::es,k,b,o=>k=1/\(∃u,w.cell? ⟨b,o,none⟩=some u/\u.oneCell'=true/\cC w I σ e u)/\cQ w I σ es k b (o+k)
end
structure Ext (w:World) (I:Nat->Prop) (σ:gH) (w':World) (I':Nat->Prop) (σ':gH):Prop where
 Jy: ∀b,I b->w'.heap[b]?=w.heap[b]?
 grow: ∀(b:Nat) c el fz,w.heap[b]?=some (Obj.cells c el fz)-> ∃c' fz',w'.heap[b]?=some (Obj.cells c' el fz')/\c'.size=c.size
 imp: ∀b,I b->I' b
 sig: ∀id x,σ id=some x->σ' id=some x
theorem Ext.refl(w:World)(I:Nat->Prop)(σ:gH):Ext w I σ w I σ:=
 ⟨fun _ _=>rfl,fun _ c _ fz h=>⟨c,fz,h,rfl⟩,fun _ h=>h,fun _ _ h=>h⟩
theorem Ext.trans{w w1 w2:World}{I I1 I2:Nat->Prop}{σ σ1 σ2:gH}(h:Ext w I σ w1 I1 σ1)(h':Ext w1 I1 σ1 w2 I2 σ2):Ext w I σ w2 I2 σ2:=
  ⟨fun b hb=>(h'.Jy b (h.imp b hb)).trans (h.Jy b hb),
   fun b c el fz hb=>by
    obtain⟨c1,fz1,h1,e1⟩:=h.grow b c el fz hb;obtain⟨c2,fz2,h2,e2⟩:=h'.grow b c1 el fz1 h1;exact⟨c2,fz2,h2,e2.trans e1⟩,
   fun b hb=>h'.imp b (h.imp b hb),fun id x hx=>h'.sig id x (h.sig id x hx)⟩
theorem Ext.GM{w w':World}{I I':Nat->Prop}{σ σ':gH}(E:Ext w I σ w' I' σ'):Ext w I eA w' I' eA:=
 ⟨E.Jy,E.grow,E.imp,fun _ _ h=>h⟩
section
variable {w w':World} {I I':Nat->Prop}
mutual
theorem cC.ext': ∀(v:V) (u:Value) {σ σ':gH},Ext w I σ w' I' σ'->cC w I σ v u->cC w' I' σ' v u
 | .int k n,u,σ,σ',E,h=>by simpa[cC] using h
 | .bool b,u,σ,σ',E,h=>by simpa[cC] using h
 | .str s,u,σ,σ',E,h=>by simpa[cC] using h
 | .agg cs,u,σ,σ',E,h=>by
  simp only[cC]at h⊢;obtain⟨us,e,hr⟩:=h;exact⟨us,e,dn.ext' cs us.toList E hr⟩
 | .de cs,u,σ,σ',E,h=>by
  simp only[cC]at h⊢;obtain⟨us,e,hr⟩:=h;exact⟨us,e,dU.ext' cs us.toList E hr⟩
 | .sl c es,u,σ,σ',E,h=>by
  simp only[cC]at h⊢;obtain⟨a,cap,e,h1,h2,h3,h4⟩:=h;refine⟨a,cap,e,h1,h2,h3,?_⟩;rcases h4 with h4|⟨b,o,k,ha,hI,hr⟩
  ·exact .inl h4
  ·exact .inr ⟨b,o,k,ha,E.imp b hI,cQ.ext' es k b o E.GM hI hr⟩
 | .ref cs,u,σ,σ',E,h=>by
  simp only[cC]at h⊢;obtain⟨b,o,e,hI,hr⟩:=h;exact⟨b,o,e,E.imp b hI,mL.ext' cs b o E.GM hI hr⟩
 | .bU id s l,u,σ,σ',E,h=>by
  simp only[cC]at h⊢;obtain⟨a,cap,e,h1,h2,h3⟩:=h;refine⟨a,cap,e,h1,h2,?_⟩;rcases h3 with h3|⟨b,o,k,c,el,fz,hs,ha,hb,hle⟩
  ·exact .inl h3
  ·obtain⟨c',fz',vp,hc⟩:=E.grow b c el fz hb;exact .inr ⟨b,o,k,c',el,fz',E.sig _ _ hs,ha,vp,by omega⟩
 | .ptr id i f,u,σ,σ',E,h=>by
  simp only[cC]at h⊢;obtain⟨b,o,k,hs,e⟩:=h;exact⟨b,o,k,E.sig _ _ hs,e⟩
 | .qs,u,σ,σ',E,h=>by simpa[cC] using h
 | .fn g bez bs,u,σ,σ',E,h=>by
  simp only[cC]at h⊢;obtain⟨us,vs,e,h1,h2⟩:=h;exact⟨us,vs,e,dU.ext' bez us.toList E h1,dU.ext' bs vs.toList E h2⟩
 | .bad,u,σ,σ',E,h=>by simp[cC]
theorem dn.ext': ∀(cs:List V) (us:List Value) {σ σ':gH},Ext w I σ w' I' σ'->dn w I σ cs us->dn w' I' σ' cs us
 | [],us,σ,σ',E,h=>by simpa[dn] using h
 |c::cs,us,σ,σ',E,h=>by
  simp only[dn]at h⊢;obtain⟨u,r,e,h1,h2,h3⟩:=h;exact⟨u,r,e,h1,cC.ext' c u E h2,dn.ext' cs r E h3⟩
theorem dU.ext': ∀(cs:List V) (us:List Value) {σ σ':gH},Ext w I σ w' I' σ'->dU w I σ cs us->dU w' I' σ' cs us
 | [],us,σ,σ',E,h=>by simpa[dU] using h
 |c::cs,us,σ,σ',E,h=>by
  simp only[dU]at h⊢;obtain⟨u,r,e,h2,h3⟩:=h;exact⟨u,r,e,cC.ext' c u E h2,dU.ext' cs r E h3⟩
theorem mL.ext': ∀(cs:List V) (b o:Nat) {σ σ':gH},Ext w I σ w' I' σ'->I b->mL w I σ cs b o->mL w' I' σ' cs b o
 | [],b,o,σ,σ',E,hI,h=>by simp[mL]
 |c::cs,b,o,σ,σ',E,hI,h=>by
  simp only[mL]at h⊢;obtain⟨⟨u,h1,h2,h3⟩,h4⟩:=h;exact⟨⟨u,by rw[World.cell?_of_block (E.Jy b hI)];exact h1,h2,cC.ext' c u E h3⟩,mL.ext' cs b (o+1) E hI h4⟩
theorem cQ.ext': ∀(es:List V) (k b o:Nat) {σ σ':gH},Ext w I σ w' I' σ'->I b->cQ w I σ es k b o->cQ w' I' σ' es k b o
 | [],k,b,o,σ,σ',E,hI,h=>by simp[cQ]
 | .agg cs::es,k,b,o,σ,σ',E,hI,h=>by
  simp only[cQ]at h⊢;exact⟨h.1,mL.ext' cs b o E hI h.2.1,cQ.ext' es k b (o+k) E hI h.2.2⟩
 | .int _ _::es,k,b,o,σ,σ',E,hI,h| .bool _::es,k,b,o,σ,σ',E,hI,h| .str _::es,k,b,o,σ,σ',E,hI,h| .de _::es,k,b,o,σ,σ',E,hI,h
 | .sl _ _::es,k,b,o,σ,σ',E,hI,h| .ref _::es,k,b,o,σ,σ',E,hI,h| .bU _ _ _::es,k,b,o,σ,σ',E,hI,h| .ptr _ _ _::es,k,b,o,σ,σ',E,hI,h
 | .qs::es,k,b,o,σ,σ',E,hI,h| .fn _ _ _::es,k,b,o,σ,σ',E,hI,h| .bad::es,k,b,o,σ,σ',E,hI,h=>by
  simp only[cQ]at h⊢;obtain⟨hk,⟨u,h1,h2,h3⟩,h4⟩:=h;exact⟨hk,⟨u,by rw[World.cell?_of_block (E.Jy b hI)];exact h1,h2,cC.ext' _ u E h3⟩,cQ.ext' es k b (o+k) E hI h4⟩
end
theorem sY: ∀l:List V,(df l).length=l.length
 | []=>rfl
 |c::cs=>by simp[df,sY cs]
mutual
theorem cC.lA: ∀(v:V) (u:Value) {σ:gH},cC w I σ v u->cC w I σ v.jm u
 | .int k n,u,σ,h=>h
 | .bool b,u,σ,h=>h
 | .str s,u,σ,h=>h
 | .agg cs,u,σ,h=>by
  simp only[cC,V.jm]at h⊢;obtain⟨us,e,hr⟩:=h;exact⟨us,e,dn.lA cs us.toList hr⟩
 | .de cs,u,σ,h=>by
  simp only[cC,V.jm]at h⊢;obtain⟨us,e,hr⟩:=h;exact⟨us,e,dU.lA cs us.toList hr⟩
 | .sl c es,u,σ,h=>by
  simp only[cC,V.jm]at h⊢;obtain⟨a,cap,e,h1,h2,h3,h4⟩:=h;rw[sY];refine⟨a,cap,e,h1,h2,(fun hh=>by cases hh),?_⟩;rcases h4 with h4|⟨b,o,k,ha,hI,hr⟩
  ·subst h4;exact .inl rfl
  ·exact .inr ⟨b,o,k,ha,hI,cQ.lA es k b o hr⟩
 | .ref cs,u,σ,h=>h
 | .bU id s l,u,σ,h=>h
 | .ptr id i f,u,σ,h=>h
 | .qs,u,σ,h=>h
 | .fn g bez bs,u,σ,h=>h
 | .bad,u,σ,h=>h
theorem dn.lA: ∀(cs:List V) (us:List Value) {σ:gH},dn w I σ cs us->dn w I σ (df cs) us
 | [],us,σ,h=>h
 |c::cs,us,σ,h=>by
  simp only[dn,df]at h⊢;obtain⟨u,r,e,h1,h2,h3⟩:=h;exact⟨u,r,e,h1,cC.lA c u h2,dn.lA cs r h3⟩
theorem dU.lA: ∀(cs:List V) (us:List Value) {σ:gH},dU w I σ cs us->dU w I σ (df cs) us
 | [],us,σ,h=>h
 |c::cs,us,σ,h=>by
  simp only[dU,df]at h⊢;obtain⟨u,r,e,h2,h3⟩:=h;exact⟨u,r,e,cC.lA c u h2,dU.lA cs r h3⟩
theorem mL.lA: ∀(cs:List V) (b o:Nat) {σ:gH},mL w I σ cs b o->mL w I σ (df cs) b o
 | [],b,o,σ,h=>h
 |c::cs,b,o,σ,h=>by
  simp only[mL,df]at h⊢;obtain⟨⟨u,h1,h2,h3⟩,h4⟩:=h;exact⟨⟨u,h1,h2,cC.lA c u h3⟩,mL.lA cs b (o+1) h4⟩
theorem cQ.lA: ∀(es:List V) (k b o:Nat) {σ:gH},cQ w I σ es k b o->cQ w I σ (df es) k b o
 | [],k,b,o,σ,h=>h
 | .agg cs::es,k,b,o,σ,h=>by
  simp only[cQ,df,V.jm]at h⊢;exact⟨by rw[sY];exact h.1,mL.lA cs b o h.2.1,cQ.lA es k b (o+k) h.2.2⟩
 | .sl c cs::es,k,b,o,σ,h=>by
  simp only[cQ,df]at h⊢;obtain⟨hk,⟨u,h1,h2,h3⟩,h4⟩:=h;have:=cC.lA (.sl c cs) u h3;simp only[V.jm,cQ]at this⊢;exact⟨hk,⟨u,h1,h2,this⟩,cQ.lA es k b (o+k) h4⟩
 | .de cs::es,k,b,o,σ,h=>by
  simp only[cQ,df]at h⊢;obtain⟨hk,⟨u,h1,h2,h3⟩,h4⟩:=h;have:=cC.lA (.de cs) u h3;simp only[V.jm,cQ]at this⊢;exact⟨hk,⟨u,h1,h2,this⟩,cQ.lA es k b (o+k) h4⟩
 | .int _ _::es,k,b,o,σ,h| .bool _::es,k,b,o,σ,h| .str _::es,k,b,o,σ,h
 | .ref _::es,k,b,o,σ,h| .bU _ _ _::es,k,b,o,σ,h| .ptr _ _ _::es,k,b,o,σ,h
 | .qs::es,k,b,o,σ,h| .fn _ _ _::es,k,b,o,σ,h| .bad::es,k,b,o,σ,h=>by
  simp only[cQ,df,V.jm]at h⊢;exact⟨h.1,h.2.1,cQ.lA es k b (o+k) h.2.2⟩
end
theorem cC.jm{σ:gH}{v:V}{u:Value}(h:cC w I σ v u):cC w I σ v.jm u:=cC.lA v u h
theorem cC.ext{σ σ':gH}(E:Ext w I σ w' I' σ'){v:V}{u:Value}(h:cC w I σ v u):cC w' I' σ' v u:=cC.ext' v u E h
end
def yQ(w:World)(I:Nat->Prop)(σ:gH)(cs:List V)(b o:Nat):Prop:=
 ∀j c,cs[j]?=some c-> ∃u,w.cell? ⟨b,o+j,none⟩=some u/\u.oneCell'=true/\cC w I σ c u
section
variable {w w':World} {I I':Nat->Prop} {σ σ':gH}
theorem qD: ∀(cs:List V) (b o:Nat),mL w I σ cs b o↔yQ w I σ cs b o
 | [],b,o=>by simp[mL,yQ]
 |c::cs,b,o=>by
  simp only[mL];rw[qD cs b (o+1)];constructor
  ·rintro⟨h1,h2⟩ j x hj;cases j with
   |zero=>simp at hj;subst hj;simpa using h1
   |succ j=>
    have:=h2 j x (by simpa using hj);rwa[show o+1+j=o+(j+1) by omega]at this
  ·intro h;refine⟨by simpa using h 0 c (by simp),fun j x hj=> ?_⟩;have:=h (j+1) x (by simpa using hj);rwa[show o+(j+1)=o+1+j by omega]at this
theorem jR(e:V)(es:List V)(k b o:Nat):cQ w I σ (e::es) k b o↔e.cells.length=k/\yQ w I σ e.cells b o/\cQ w I σ es k b (o+k):=by
 cases e with
 |agg cs=>simp only[cQ,V.cells,qD]
 |_=>
  simp only[cQ,V.cells,<-qD,mL,List.length_cons,List.length_nil,and_true];constructor<;>rintro⟨h1,h2,h3⟩<;>exact⟨by omega,h2,h3⟩
theorem kO: ∀(es:List V) (k b o:Nat),cQ w I σ es k b o↔ ∀i e,es[i]?=some e->e.cells.length=k/\yQ w I σ e.cells b (o+i*k)
 | [],k,b,o=>by simp[cQ]
 |e::es,k,b,o=>by
  rw[jR,kO es k b (o+k)];constructor
  ·rintro⟨h1,h2,h3⟩ i x hi;cases i with
   |zero=>simp at hi;subst hi;simpa using⟨h1,h2⟩
   |succ i=>
    have:=h3 i x (by simpa using hi);rwa[show o+k+i*k=o+(i+1)*k by rw[Nat.add_mul];omega]at this
  ·intro h;have h0:=h 0 e (by simp);refine⟨h0.1,by simpa using h0.2,fun i x hi=> ?_⟩;have:=h (i+1) x (by simpa using hi);rwa[show o+(i+1)*k=o+k+i*k by rw[Nat.add_mul];omega]at this
theorem kG: ∀(cs:List V) (us:List Value),dU w I σ cs us↔cs.length=us.length/\ ∀(j:Nat) c u,cs[j]?=some c->us[j]?=some u->cC w I σ c u
 | [],us=>by
  simp only[dU];constructor
  ·rintro rfl;simp
  ·rintro⟨h,_⟩;exact List.eq_nil_of_length_eq_zero (by simpa using h.symm)
 |c::cs,us=>by
  simp only[dU];constructor
  ·rintro⟨u,r,rfl,h1,h2⟩;rw[kG cs r]at h2;refine⟨by simp[h2.1],fun j x y hx hy=> ?_⟩;cases j with
   |zero=>simp at hx hy;subst hx;subst hy;exact h1
   |succ j=>exact h2.2 j x y (by simpa using hx) (by simpa using hy)
  ·rintro⟨hl,h⟩;cases us with
   |nil=>simp at hl
   |cons u r=>
    exact⟨u,r,rfl,h 0 c u (by simp) (by simp),(kG cs r).2 ⟨by simpa using hl,fun j x y hx hy=>h (j+1) x y (by simpa using hx) (by simpa using hy)⟩⟩
theorem dh: ∀(cs:List V) (us:List Value),dn w I σ cs us↔cs.length=us.length/\ ∀(j:Nat) c u,cs[j]?=some c->us[j]?=some u->u.oneCell'=true/\cC w I σ c u
 | [],us=>by
  simp only[dn];constructor
  ·rintro rfl;simp
  ·rintro⟨h,_⟩;exact List.eq_nil_of_length_eq_zero (by simpa using h.symm)
 |c::cs,us=>by
  simp only[dn];constructor
  ·rintro⟨u,r,rfl,h0,h1,h2⟩;rw[dh cs r]at h2;refine⟨by simp[h2.1],fun j x y hx hy=> ?_⟩;cases j with
   |zero=>simp at hx hy;subst hx;subst hy;exact⟨h0,h1⟩
   |succ j=>exact h2.2 j x y (by simpa using hx) (by simpa using hy)
  ·rintro⟨hl,h⟩;cases us with
   |nil=>simp at hl
   |cons u r=>
    have:=h 0 c u (by simp) (by simp);exact⟨u,r,rfl,this.1,this.2,(dh cs r).2 ⟨by simpa using hl,fun j x y hx hy=>h (j+1) x y (by simpa using hx) (by simpa using hy)⟩⟩
theorem yQ.ext(E:Ext w I σ w' I' σ'){cs:List V}{b o:Nat}(h:yQ w I σ cs b o)(hb:w'.heap[b]?=w.heap[b]?):yQ w' I' σ' cs b o:=by
 intro j c hj;obtain⟨u,h1,h2,h3⟩:=h j c hj;exact⟨u,by rw[World.cell?_of_block hb];exact h1,h2,h3.ext E⟩
theorem cQ.lJ(E:Ext w I σ w' I' σ'){es:List V}{k b o:Nat}(h:cQ w I σ es k b o)(hb:w'.heap[b]?=w.heap[b]?):cQ w' I' σ' es k b o:=by
 rw[kO]at h⊢;intro i e hi;exact⟨(h i e hi).1,(h i e hi).2.ext E hb⟩
end
def kH(dG:Bool)(σ:gH):gH:=if dG then σ else eA
theorem Ext.o9{w w':World}{I I':Nat->Prop}{σ σ':gH}(E:Ext w I σ w' I' σ')(dG:Bool):Ext w I (kH dG σ) w' I' (kH dG σ'):=by
 cases dG
 ·exact E.GM
 ·exact E
theorem Ext.free{w:World}{I:Nat->Prop}{σ:gH}:Ext w I eA w I σ:=
 ⟨fun _ _=>rfl,fun _ c _ fz h=>⟨c,fz,h,rfl⟩,fun _ h=>h,fun id x h=>by cases h⟩
theorem Ext.Bq{w:World}{I:Nat->Prop}{σ:gH}(dG:Bool):Ext w I (kH dG σ) w I σ:=by
 cases dG
 ·exact Ext.free
 ·exact .refl w I σ
def GN(w:World)(I:Nat->Prop)(σ:gH)(id:Nat)(ob:Ob):Prop:=
 (ob.es=[]/\σ id=none)\/
 ∃b o c el,σ id=some (b,o,ob.k)/\ ¬I b/\w.heap[b]?=some (Obj.cells c el (0,0))/\o+ob.es.length*ob.k<=c.size/\cQ w I (kH ob.dG σ) ob.es ob.k b o
def gm(σ:gH)(h:aY)(b:Nat):Prop:= ∃id ob o k,h id=some ob/\σ id=some (b,o,k)
structure Rel (w:World) (I:Nat->Prop) (σ:gH) (h:aY):Prop where
 dy: ∀b,I b->b<w.heap.size
 obj: ∀id ob,h id=some ob->GN w I σ id ob
 apart: ∀id nj ob lU b o k o' k',h id=some ob->h nj=some lU->σ id=some (b,o,k)->σ nj=some (b,o',k')->id=nj
section
variable {w w':World} {I I':Nat->Prop} {σ σ':gH} {h h':aY}
theorem Rel.owned(R:Rel w I σ h){b:Nat}(hb:gm σ h b): ¬I b/\ ∃c el,w.heap[b]?=some (Obj.cells c el (0,0)):=by
 obtain⟨id,ob,o,k,h1,h2⟩:=hb;rcases R.obj id ob h1 with⟨_,hn⟩|⟨b',o',c,el,hs,hi,hh,_⟩
 ·rw[hn]at h2;cases h2
 ·rw[hs]at h2;simp at h2;obtain⟨rfl,_⟩:=h2;exact⟨hi,c,el,hh⟩
theorem Rel.dG (R:Rel w I σ h) (E:Ext w I σ w' I' σ') (hI: ∀b,I' b->b<w'.heap.size)
  (hb: ∀b,gm σ h b->w'.heap[b]?=w.heap[b]?/\ ¬I' b) (hs: ∀id,h id≠none->σ' id=σ id):Rel w' I' σ' h:=by
 refine⟨hI,fun id ob ho=> ?_,fun id nj ob lU b o k o' k' h1 h2 h3 h4=> ?_⟩
 ·have ajh:=hs id (by rw[ho];simp);rcases R.obj id ob ho with⟨he,hn⟩|⟨b,o,c,el,iT,hi,hh,hle,hr⟩
  ·exact .inl ⟨he,by rw[ajh];exact hn⟩
  ·have:=hb b ⟨id,ob,o,ob.k,ho,iT⟩;exact .inr ⟨b,o,c,el,by rw[ajh];exact iT,this.2,by rw[this.1];exact hh,hle,hr.lJ (E.o9 _) this.1⟩
 ·rw[hs id (by rw[h1];simp)]at h3;rw[hs nj (by rw[h2];simp)]at h4;exact R.apart id nj ob lU b o k o' k' h1 h2 h3 h4
theorem Rel.sub(R:Rel w I σ h)(hh: ∀id ob,h' id=some ob->h id=some ob):Rel w I σ h':=
 ⟨R.dy,fun id ob ho=>R.obj id ob (hh id ob ho),fun id nj ob lU b o k o' k' h1 h2=>R.apart id nj ob lU b o k o' k' (hh _ _ h1) (hh _ _ h2)⟩
theorem Rel.kill(R:Rel w I σ h)(id:Nat):Rel w I σ (aO h id none):=
 R.sub fun i ob hi=>by
  unfold aO at hi;split at hi; · cases hi
  ·exact hi
theorem Ext.Q9{n:Nat}{x:Nat×Nat×Nat}(hn:σ n=none):Ext w I σ w I (aO σ n (some x)):=
 ⟨fun _ _=>rfl,fun _ c _ fz h=>⟨c,fz,h,rfl⟩,fun _ h=>h,fun id y hy=>by
  unfold aO;split
  ·rename_i e;subst e;rw[hn]at hy;cases hy
  ·exact hy⟩
theorem Rel.Z7 (R:Rel w I σ h) {n b o k:Nat} {es:List V} {dG:Bool} {c:Array Value} {el:TypeId} (hn:h n=none) (hs:σ n=none)
  (hb:w.heap[b]?=some (Obj.cells c el (0,0))) (hi: ¬I b) (ho: ¬gm σ h b) (hle:o+es.length*k<=c.size)
  (hr:cQ w I (kH dG (aO σ n (some (b,o,k)))) es k b o):Rel w I (aO σ n (some (b,o,k))) (aO h n (some ⟨k,es,dG⟩)):=by
 have E:Ext w I σ w I (aO σ n (some (b,o,k))):=Ext.Q9 hs;have dg: ∀id,h id≠none->aO σ n (some (b,o,k)) id=σ id:=by
  intro id dg;unfold aO;split
  ·rename_i e;subst e;exact absurd hn dg
  ·rfl
 refine⟨R.dy,fun id ob ea=> ?_,fun id nj ob lU b1 o1 k1 o2 k2 h1 h2 h3 h4=> ?_⟩
 ·unfold aO at ea;split at ea
  ·rename_i e;subst e;simp at ea;subst ea;exact .inr ⟨b,o,c,el,by simp[aO],hi,hb,hle,hr⟩
  ·rename_i e;have:=dg id (by rw[ea];simp);rcases R.obj id ob ea with⟨he,A2⟩|⟨b',o',c',Mp,iT,nf,hh,AJ,A3⟩
   ·exact .inl ⟨he,by rw[this];exact A2⟩
   ·exact .inr ⟨b',o',c',Mp,by rw[this];exact iT,nf,hh,AJ,A3.lJ (E.o9 _) rfl⟩
 ·have key: ∀id ob,aO h n (some (⟨k,es,dG⟩:Ob)) id=some ob->id≠n->h id=some ob:=by
   intro id ob hx iK;simpa[aO,iK] using hx
  by_cases e1:id=n
  ·by_cases e2:nj=n
   ·rw[e1,e2]
   ·exfalso;subst e1;have E4:=key nj lU h2 e2;rw[dg nj (by rw[E4];simp)]at h4;simp[aO]at h3;obtain⟨rfl,_⟩:=h3;exact ho ⟨nj,lU,o2,k2,E4,h4⟩
  ·have sV:=key id ob h1 e1;rw[dg id (by rw[sV];simp)]at h3;by_cases e2:nj=n
   ·exfalso;subst e2;simp[aO]at h4;obtain⟨rfl,_⟩:=h4;exact ho ⟨id,ob,o1,k1,sV,h3⟩
   ·have E4:=key nj lU h2 e2;rw[dg nj (by rw[E4];simp)]at h4;exact R.apart id nj ob lU b1 o1 k1 o2 k2 sV E4 h3 h4
theorem Rel.Ra(R:Rel w I σ h){n k:Nat}{dG:Bool}(hn:h n=none)(hs:σ n=none):Rel w I σ (aO h n (some ⟨k,[],dG⟩)):=by
 refine⟨R.dy,fun id ob ea=> ?_,fun id nj ob lU b o k o' k' h1 h2 h3 h4=> ?_⟩
 ·unfold aO at ea;split at ea
  ·rename_i e;subst e;simp at ea;subst ea;exact .inl ⟨rfl,hs⟩
  ·exact R.obj id ob ea
 ·by_cases e1:id=n
  ·subst e1;rw[hs]at h3;cases h3
  ·by_cases e2:nj=n
   ·subst e2;rw[hs]at h4;cases h4
   ·exact R.apart id nj ob lU b o k o' k' (by simpa[aO,e1] using h1) (by simpa[aO,e2] using h2) h3 h4
end
structure Step (w:World) (I:Nat->Prop) (σ:gH) (h:aY) (n:Nat) (w':World) (I':Nat->Prop) (σ':gH) (h':aY) (n':Nat):Prop where
 ext:Ext w I σ w' I' σ'
 rel:Rel w' I' σ' h'
 os:w'.os=w.os
 tape:w'.tape=w.tape
 output:w'.output=w.output
 size:w.heap.size<=w'.heap.size
 frame: ∀b,b<w.heap.size-> ¬gm σ h b->w'.heap[b]?=w.heap[b]?
 own: ∀b,gm σ' h' b->w.heap.size<=b\/gm σ h b
 sq: ∀b,I' b->I b\/w.heap.size<=b\/gm σ h b
 le:n<=n'
 sigs: ∀id,id<n\/n'<=id->σ' id=σ id
 news: ∀id,id<n\/n'<=id->h id=none->h' id=none
section
variable {w w1 w2:World} {I I1 I2:Nat->Prop} {σ σ1 σ2:gH} {h h1 h2:aY} {n n1 n2:Nat}
theorem Step.refl(R:Rel w I σ h)(n:Nat):Step w I σ h n w I σ h n:=
 ⟨.refl w I σ,R,rfl,rfl,rfl,Nat.le_refl _,fun _ _ _=>rfl,fun _ hb=> .inr hb,fun _ hb=> .inl hb,Nat.le_refl _,fun _ _=>rfl,fun _ _ h=>h⟩
theorem Step.trans(s:Step w I σ h n w1 I1 σ1 h1 n1)(s':Step w1 I1 σ1 h1 n1 w2 I2 σ2 h2 n2):Step w I σ h n w2 I2 σ2 h2 n2 where
 ext:=s.ext.trans s'.ext
 rel:=s'.rel
 os:=s'.os.trans s.os
 tape:=s'.tape.trans s.tape
 output:=s'.output.trans s.output
 size:=Nat.le_trans s.size s'.size
 frame:=fun b hb ho=>(s'.frame b (Nat.lt_of_lt_of_le hb s.size) (fun hx=>by
  rcases s.own b hx with hx|hx
  ·omega
  ·exact ho hx)).trans (s.frame b hb ho)
 own:=fun b hb=>by
  rcases s'.own b hb with hx|hx
  ·exact .inl (Nat.le_trans s.size hx)
  ·exact s.own b hx
 sq:=fun b hb=>by
  rcases s'.sq b hb with hx|hx|hx
  ·exact s.sq b hx
  ·exact .inr (.inl (Nat.le_trans s.size hx))
  ·exact .inr (s.own b hx)
 le:=Nat.le_trans s.le s'.le
 sigs:=fun id dg=>by
  have l1:=s.le;have l2:=s'.le;rw[s'.sigs id (by omega),s.sigs id (by omega)]
 news:=fun id dg hn=>by
  have l1:=s.le;have l2:=s'.le;exact s'.news id (by omega) (s.news id (by omega) hn)
end
theorem Rel.write {w:World} {I:Nat->Prop} {σ:gH} {h:aY} (R:Rel w I σ h) {id b o k:Nat} {ob:Ob} {es:List V} {dG:Bool} {c c':Array Value} {el:TypeId}
  (ho:h id=some ob) (hs:σ id=some (b,o,k)) (hb:w.heap[b]?=some (Obj.cells c el (0,0))) (qE:c'.size=c.size) (hle:o+es.length*k<=c.size)
  (hr:cQ (w.setRow b c') I (kH dG σ) es k b o) (n:Nat):Step w I σ h n (w.setRow b c') I σ (aO h id (some ⟨k,es,dG⟩)) n:=by
 have lW:gm σ h b:=⟨id,ob,o,k,ho,hs⟩;have hI: ¬I b:=(R.owned lW).1;have E:Ext w I σ (w.setRow b c') I σ:=by
  refine⟨fun b' vp=>setRow_other w b b' c' (fun e=>hI (e▸vp)),fun b' c1 el1 fz hc=> ?_,fun _ h=>h,fun _ _ h=>h⟩;by_cases e:b'=b
  ·subst e;rw[hb]at hc;simp at hc;obtain⟨rfl,rfl,rfl⟩:=hc;exact⟨c',(0,0),setRow_heap w b' c c' el (0,0) hb,qE⟩
  ·exact⟨c1,fz,by rw[setRow_other w b b' c' e];exact hc,rfl⟩
 have key: ∀i x,aO h id (some (⟨k,es,dG⟩:Ob)) i=some x->i≠id->h i=some x:=by
  intro i x hx iK;simpa[aO,iK] using hx
 refine⟨E,⟨fun b' vp=>by simpa using R.dy b' vp,fun i x hx=> ?_,fun i i' x x' b1 o1 k1 o2 k2 h1 h2 h3 h4=> ?_⟩,rfl,rfl,rfl,by simp,fun b' _ ud=>setRow_other w b b' c' (fun e=>ud (e▸lW)),
  fun b' vp=> .inr ?_,fun _ h=> .inl h,Nat.le_refl _,fun _ _=>rfl,fun i hi AK=>by
   have:i≠id:=fun e=>by rw[e,ho]at AK;cases AK
   simp[aO,this,AK]⟩
 ·by_cases e:i=id
  ·subst e;simp[aO]at hx;subst hx;exact .inr ⟨b,o,c',el,hs,hI,setRow_heap w b c c' el (0,0) hb,by rw[qE];exact hle,hr⟩
  ·have AL:=key i x hx e;rcases R.obj i x AL with⟨he,A2⟩|⟨b',o',c1,el1,iT,nf,hh,AJ,A3⟩
   ·exact .inl ⟨he,A2⟩
   ·have iK:b'≠b:=fun e'=>e (R.apart i id x ob b o' x.k o k AL ho (e'▸iT) hs);have qn:=setRow_other w b b' c' iK;exact .inr ⟨b',o',c1,el1,iT,nf,by rw[qn];exact hh,AJ,A3.lJ (E.o9 _) qn⟩
 ·by_cases e1:i=id
  ·by_cases e2:i'=id
   ·rw[e1,e2]
   ·subst e1;exact R.apart i i' ob x' b1 o1 k1 o2 k2 ho (key i' x' h2 e2) h3 h4
  ·by_cases e2:i'=id
   ·subst e2;exact R.apart i i' x ob b1 o1 k1 o2 k2 (key i x h1 e1) ho h3 h4
   ·exact R.apart i i' x x' b1 o1 k1 o2 k2 (key i x h1 e1) (key i' x' h2 e2) h3 h4
 ·obtain⟨i,x,o1,k1,h1,h2⟩:=vp;by_cases e:i=id
  ·subst e;exact⟨i,ob,o1,k1,ho,h2⟩
  ·exact⟨i,x,o1,k1,key i x h1 e,h2⟩
def Mq:V->Value->Bool
 | .int k n,.int k' n'=>k==k'&&n==n'
 | .bool b,.bool b'=>b==b'
 | .str [],.string s=>s.data.toList.isEmpty
 | .sl true [],.slice none 0 0=>true
 | .qs,.pointer none=>true
 | .bad,u=>u.oneCell'
 |_,_=>false
def yS:List V->List Value->Bool
 | [],[]=>true
 |c::cs,u::us=>Mq c u&&yS cs us
 |_,_=>false
def DW:V->Value->Bool
 | .agg cs,.agg us=>yS cs us.toList
 | .agg _,_=>false
 |v,u=>Mq v u
def xM(P:Program)(x:TI):TypeDesc->Bool
 | .struct fs=>x.agg&&x.vW==(fs.toList.map fun f=>(f.offset,P.cellsOf f.type))&&x.arr==none&&x.kind==none&&fs.toList.all fun f=>decide (0<P.cellsOf f.type)
 | .array n e=>x.agg&&x.arr==some n&&x.elem==e&&x.kind==none&&x.vW==[]
 | .slice e=> !x.agg&&x.elem==e&&x.arr==none&&x.kind==none&&x.vW==[]
 | .int k=> !x.agg&&x.kind==some k&&x.arr==none&&x.vW==[]
 |_=> !x.agg&&x.kind==none&&x.arr==none&&x.vW==[]
def tiB(P:Program)(t:TypeId)(x:TI):Bool:=
 match P.info? t,P.underlying t with
 |some i,some d=>i.size==x.size&&i.bytes==x.bytes&&decide (0<x.size)&&xM P x d&& (match i.zero with
  |some z=>DW x.zero z&&x.zero.cells.length==x.size&&x.zero.fits x.size
  |none=>false)
 |_,_=>false
structure kP (P:Program) (t:TypeId) (x:TI):Prop where
 info: ∃i z,P.info? t=some i/\i.size=x.size/\i.bytes=x.bytes/\i.zero=some z/\DW x.zero z=true
 pos:0<x.size
 und: ∃d,P.underlying t=some d/\xM P x d=true
 Rb:x.zero.cells.length=x.size
 W6:x.zero.fits x.size=true
theorem arj{P:Program}{t:TypeId}{x:TI}(h:tiB P t x=true):kP P t x:=by
 unfold tiB at h;split at h
 ·rename_i i d hi hd;cases hz:i.zero with
  |none=>simp[hz]at h
  |some z=>
   simp only[hz,Bool.and_eq_true,beq_iff_eq,decide_eq_true_eq]at h;obtain⟨⟨⟨⟨h1,h2⟩,h3⟩,h4⟩,⟨h5,h6⟩,h7⟩:=h;exact⟨⟨i,z,hi,h1,h2,hz,h5⟩,h3,⟨d,hd,h4⟩,h6,h7⟩
 ·cases h
section
variable {w:World} {I:Nat->Prop} {σ:gH}
theorem DX{c:V}{u:Value}(h:Mq c u=true):u.oneCell'=true/\cC w I σ c u:=by
 unfold Mq at h;split at h
 ·simp only[Bool.and_eq_true,beq_iff_eq]at h;obtain⟨rfl,rfl⟩:=h;exact⟨rfl,by simp[cC]⟩
 ·simp only[beq_iff_eq]at h;subst h;exact⟨rfl,by simp[cC]⟩
 ·rename_i s;exact⟨rfl,by simp only[cC];exact⟨s,rfl,List.isEmpty_iff.1 h⟩⟩
 ·exact⟨rfl,by simp only[cC];exact⟨none,0,rfl,Nat.le_refl _,Nat.zero_le _,fun _=>rfl,.inl (by simp)⟩⟩
 ·exact⟨rfl,by simp[cC]⟩
 ·exact⟨h,by simp[cC]⟩
 ·cases h
theorem Br: ∀{cs:List V} {us:List Value},yS cs us=true->dn w I σ cs us
 | [],[],_=>by simp[dn]
 |c::cs,u::us,h=>by
  simp only[yS,Bool.and_eq_true]at h;have:=DX (w:=w) (I:=I) (σ:=σ) h.1;simp only[dn];exact⟨u,us,rfl,this.1,this.2,Br h.2⟩
 | [],_::_,h=>by simp[yS]at h
 |_::_,[],h=>by simp[yS]at h
theorem cC.cells{v:V}{u:Value}{k:Nat}(hr:cC w I σ v u)(hf:v.fits k=true):v.cells.length=k/\dn w I σ v.cells u.cells.toList:=by
 cases v with
 |agg cs=>
  simp only[cC]at hr;obtain⟨us,rfl,h⟩:=hr;exact⟨by simpa[V.fits,V.cells] using hf,h⟩
 |de _=>simp[V.fits]at hf
 |bad=>simp[V.fits]at hf
 |_=>
  have hk:k=1:=by simpa[V.fits] using hf
  refine⟨by simp[V.cells,hk],?_⟩;simp only[V.cells,dn];have A3:=hr;simp only[cC]at A3;first
   |(subst A3;exact⟨_,_,rfl,rfl,hr,rfl⟩)
   |(obtain⟨x,rfl,_⟩:=A3;exact⟨_,_,rfl,rfl,hr,rfl⟩)
   |(obtain⟨x,y,rfl,_⟩:=A3;exact⟨_,_,rfl,rfl,hr,rfl⟩)
   |(obtain⟨x,y,z,_,rfl⟩:=A3;exact⟨_,_,rfl,rfl,hr,rfl⟩)
theorem GO{P:Program}{t:TypeId}{x:TI}(T:kP P t x){z:Value}(hz:DW x.zero z=true):cC w I σ x.zero z:=by
 have:=T.W6;unfold DW at hz;split at hz
 ·rename_i cs us h1;rw[h1];simp only[cC];exact⟨us,rfl,Br hz⟩
 ·cases hz
 ·exact(DX hz).2
end
def ir(w:World)(I:Nat->Prop)(σ:gH)(f:Nat->V)(a:Act):Prop:= ∀t,cC w I σ (f t) (a.tmps.getD t undef)
theorem ir.ext{w w':World}{I I':Nat->Prop}{σ σ':gH}{f:Nat->V}{a:Act}(F:ir w I σ f a)(E:Ext w I σ w' I' σ'):ir w' I' σ' f a:=
 fun t=>(F t).ext E
theorem ir.put{w:World}{I:Nat->Prop}{σ:gH}{f:Nat->V}{a:Act}(F:ir w I σ f a){v:V}{u:Value}(hr:cC w I σ v u)(d:Nat)(hd:d<a.tmps.size):
  ir w I σ (aO f d v) (a.put (some d) u):=by
 intro t;unfold aO;simp only[Act.put];by_cases e:t=d
 ·subst e;simp only[if_true];have:(a.tmps.setIfInBounds t u).getD t undef=u:=by simp[Array.getD,hd]
  rw[this];exact hr
 ·simp only[e,if_false];have:(a.tmps.setIfInBounds d u).getD t undef=a.tmps.getD t undef:=by
   simp only[Array.getD,Array.size_setIfInBounds];split
   ·rename_i ht;show(a.tmps.setIfInBounds d u)[t]'_=a.tmps[t];rw[Array.getElem_setIfInBounds_ne];exact Ne.symm e
   ·rfl
  rw[this];exact F t
def Rc:Value->Bool
 | .agg cs=>cs.toList.all Value.oneCell'
 |_=>true
def W7:Operand->Bool
 | .const v=>Rc v
 |_=>true
theorem GP{w:World}{I:Nat->Prop}{σ:gH}(u:Value):cC w I σ (tX u) u:=by
 unfold tX;split
 ·simp[cC]
 ·simp[cC]
 ·simp only[cC];exact⟨_,rfl,rfl⟩
 ·simp[cC]
 ·simp only[cC];exact⟨none,0,rfl,Nat.le_refl _,Nat.zero_le _,fun _=>rfl,.inl (by simp)⟩
 ·simp[cC]
theorem ND{w:World}{I:Nat->Prop}{σ:gH}{u:Value}(h:Rc u=true):cC w I σ (sm u) u:=by
 unfold sm;split
 ·rename_i cs;simp only[cC];refine⟨cs,rfl,?_⟩;rw[dh];refine⟨by simp,fun j c x hc hx=> ?_⟩;rw[List.getElem?_map,hx]at hc;simp at hc;subst hc;exact⟨List.all_eq_true.1 h x (List.mem_of_getElem? hx),GP x⟩
 ·exact GP u
theorem dO{w:World}{I:Nat->Prop}{σ:gH}{S:St}{a:Act}(F:ir w I σ S.f a){x:Operand}(hx:W7 x=true):cC w I σ (S.ev x) (a.eval x):=by
 cases x with
 |tmp t=>exact F t
 |const v=>exact ND hx
 |global g=>simp[St.ev,cC]
 |func g=>
  simp only[St.ev,Act.eval,cC];exact⟨#[],#[],rfl,by simp[dU],by simp[dU]⟩
theorem vq{P:Program}{t:TypeId}{x:TI}(T:kP P t x)(w:World):(isAgg t).run P w= .ok x.agg w:=by
 obtain⟨d,hd,hb⟩:=T.und;unfold isAgg;rw[Sem.run_bind,run_underlying hd];cases d<;>simp_all [xM]
theorem run_sizeOf{P:Program}{t:TypeId}{x:TI}(T:kP P t x)(w:World):(sizeOf t).run P w= .ok x.size w:=by
 obtain⟨i,z,hi,hs,_⟩:=T.info;simp[sizeOf,typeInfo,hi,hs]
theorem n9(b o j:Nat):(⟨b,o,none⟩:Addr).add j=⟨b,o+j,none⟩:=by
 unfold Addr.add;split
 ·subst_vars;rfl
 ·rfl
theorem yQ.ajj{w:World}{I:Nat->Prop}{σ:gH}{cs:List V}{b o:Nat}(h:yQ w I σ cs b o):
  ∃us:List Value,us.length=cs.length/\(∀j u,us[j]?=some u->w.cell? ⟨b,o+j,none⟩=some u)/\dn w I σ cs us:=by
 induction cs generalizing o with
 |nil=>exact⟨[],rfl,by simp,by simp[dn]⟩
 |cons c cs ih=>
  obtain⟨u,h1,h2,h3⟩:=h 0 c (by simp);obtain⟨us,hl,hu,hr⟩:=ih (o:=o+1) (fun j x hj=>by
   have:=h (j+1) x (by simpa using hj);rwa[show o+(j+1)=o+1+j by omega]at this)
  refine⟨u::us,by simp[hl],fun j x hj=> ?_,by simp only[dn];exact⟨u,us,rfl,h2,h3,hr⟩⟩;cases j with
  |zero=>simp at hj;subst hj;simpa using h1
  |succ j=>
   have:=hu j x (by simpa using hj);rwa[show o+1+j=o+(j+1) by omega]at this
theorem yQ.Mr{w:World}{I:Nat->Prop}{σ:gH}{cs:List V}{b o:Nat}(h:yQ w I σ cs b o)(f n:Nat):yQ w I σ ((cs.drop f).take n) b (o+f):=by
 intro j c hj;rw[List.getElem?_take]at hj;split at hj
 ·rw[List.getElem?_drop]at hj;have:=h (f+j) c hj;rwa[show o+(f+j)=o+f+j by omega]at this
 ·cases hj
theorem Bs{P:Program}{t:TypeId}{x:TI}(T:kP P t x){w:World}{I:Nat->Prop}{σ:gH}{cs:List V}{b o f:Nat}(h:yQ w I σ cs b o){v:V}(hv:part x cs f=some v):
  ∃u,(loadVar t ⟨b,o+f,none⟩).run P w= .ok u w/\cC w I σ v u:=by
 unfold part at hv;by_cases ha:x.agg=true
 ·rw[if_pos ha]at hv;split at hv
  ·rename_i hle;simp at hv;subst hv;obtain⟨us,hl,hu,hr⟩:=(h.Mr f x.size).ajj;have hlen:us.length=x.size:=by rw[hl];simp;omega
   refine⟨.agg us.toArray,?_,by simp only[cC];exact⟨us.toArray,rfl,by simpa using hr⟩⟩;have W8:=run_loadCells_list (P:=P) w ⟨b,o+f,none⟩ us (fun j u hj=>by rw[n9];exact hu j u hj);rw[hlen]at W8;simp[loadVar,vq T,ha,run_sizeOf T,W8]
  ·cases hv
 ·rw[if_neg ha]at hv;obtain⟨u,h1,h2,h3⟩:=h f v hv;refine⟨u,?_,h3⟩;have GQ:x.agg=false:=by simpa using ha
  simp[loadVar,vq T,GQ,h1]
theorem dn.get{w:World}{I:Nat->Prop}{σ:gH}{cs:List V}{us:List Value}(h:dn w I σ cs us){j:Nat}{c:V}(hc:cs[j]?=some c):
  ∃u,us[j]?=some u/\u.oneCell'=true/\cC w I σ c u:=by
 rw[dh]at h;have hj:j<cs.length:=(List.getElem?_eq_some_iff.1 hc).1;have hu:us[j]?=some (us[j]'(by omega)):=by simp
 exact⟨_,hu,h.2 j c _ hc hu⟩
theorem dn.adj{w:World}{I:Nat->Prop}{σ:gH}{cs:List V}{us:List Value}(h:dn w I σ cs us): ∀u∈us,u.oneCell'=true:=by
 intro u hu;rw[dh]at h;obtain⟨j,hj,rfl⟩:=List.mem_iff_getElem.1 hu;have hc:cs[j]?=some (cs[j]'(by omega)):=by simp
 exact(h.2 j _ us[j] hc (by simp)).1
theorem pA: ∀(n:Nat) (cs xs:List V),(jG n cs xs).length=xs.length
 |0,[],xs=>by cases xs<;>simp[jG]
 |0,c::cs,x::xs=>by simp[jG,pA 0 cs xs]
 |0,_::_,[]=>by simp[jG]
 |n+1,cs,x::xs=>by simp[jG,pA n cs xs]
 |n+1,cs,[]=>by simp[jG]
theorem nm: ∀(n:Nat) (cs xs:List V) (j:Nat),n+cs.length<=xs.length->(jG n cs xs)[j]?=if n<=j/\j<n+cs.length then cs[j-n]? else xs[j]?
 |0,[],xs,j,_=>by
  have: ¬(0<=j/\j<0+0):=by omega
  cases xs<;>simp[jG]
 |0,c::cs,x::xs,j,h=>by
  simp only[jG];cases j with
  |zero=>simp
  |succ j=>
   have:=nm 0 cs xs j (by simp at h⊢;omega);simp only[List.getElem?_cons_succ,this,List.length_cons];by_cases hj:j<cs.length
   ·simp[hj]
   ·simp[hj]
 |0,_::_,[],j,h=>by simp at h
 |n+1,cs,x::xs,j,h=>by
  simp only[jG];cases j with
  |zero=>simp
  |succ j=>
   have:=nm n cs xs j (by simp at h⊢;omega);simp only[List.getElem?_cons_succ,this];by_cases hj:n<=j/\j<n+cs.length
   ·rw[if_pos hj,if_pos (by omega)];congr 1;omega
   ·rw[if_neg hj,if_neg (by omega)]
 |n+1,cs,[],j,h=>by simp at h
theorem NF{e v:V}{f k:Nat}(hk:0<k)(hf:v.fits k=true)(hle:f+k<=e.cells.length):(e.put f v).cells=jG f v.cells e.cells:=by
 cases e with
 |agg xs=>simp[V.put,V.cells]
 |_=>
  simp only[V.cells,List.length_cons,List.length_nil]at hle⊢;have h0:f=0:=by omega
  subst h0;cases v with
  |agg cs=>
   simp[V.fits]at hf;rcases cs with _|⟨c,cs⟩
   ·simp at hf;omega
   ·simp at hf;have:cs=[]:=by apply List.eq_nil_of_length_eq_zero;omega
    subst this;simp[V.put,jG]
  |de _=>simp[V.fits]at hf
  |bad=>simp[V.fits]at hf
  |_=>simp[V.put,jG]
theorem Ext.setRow{w:World}{I:Nat->Prop}{σ:gH}{b:Nat}{c c':Array Value}{el:TypeId}(hI: ¬I b)(hb:w.heap[b]?=some (Obj.cells c el (0,0)))(qE:c'.size=c.size):
  Ext w I σ (w.setRow b c') I σ:=by
 refine⟨fun b' vp=>setRow_other w b b' c' (fun e=>hI (e▸vp)),fun b' c1 el1 fz hc=> ?_,fun _ h=>h,fun _ _ h=>h⟩;by_cases e:b'=b
 ·subst e;rw[hb]at hc;simp at hc;obtain⟨rfl,rfl,rfl⟩:=hc;exact⟨c',(0,0),setRow_heap w b' c c' el (0,0) hb,qE⟩
 ·exact⟨c1,fz,by rw[setRow_other w b b' c' e];exact hc,rfl⟩
def pZ(c:Array Value)(p:Nat)(us:List Value):Array Value:=(c.toList.take p++us++c.toList.drop (p+us.length)).toArray
theorem nG{c:Array Value}{p:Nat}{us:List Value}(h:p+us.length<=c.size):(pZ c p us).size=c.size:=by
 simp[pZ];omega
theorem xN{c:Array Value}{p:Nat}{us:List Value}(h:p+us.length<=c.size)(j:Nat):(pZ c p us)[j]?=if p<=j/\j<p+us.length then us[j-p]? else c[j]?:=by
 simp only[pZ,List.getElem?_toArray];by_cases h1:j<p
 ·rw[if_neg (by omega),List.append_assoc,List.getElem?_append_left (by simp;omega),List.getElem?_take,if_pos h1];simp
 ·by_cases h2:j<p+us.length
  ·rw[if_pos (by omega),List.getElem?_append_left (by simp;omega),List.getElem?_append_right (by simp;omega)];congr 1;simp;omega
  ·rw[if_neg (by omega),List.getElem?_append_right (by simp;omega),List.getElem?_drop];simp only[List.length_append,List.length_take,Array.length_toList];rw[show p+us.length+(j-(min p c.size+us.length))=j by omega];simp
theorem E5 {P:Program} {t:TypeId} {x:TI} (T:kP P t x) {w:World} {b p:Nat} {c:Array Value} {el:TypeId} (hb:w.heap[b]?=some (Obj.cells c el (0,0)))
  {u:Value} (hu:u.cells.size=x.size) (h1: ∀y∈u.cells.toList,y.oneCell'=true) (hle:p+x.size<=c.size):
  (storeVar t ⟨b,p,none⟩ u).run P w= .ok () (w.setRow b (pZ c p u.cells.toList)):=by
 have iZ:=run_storeCells_at P b p el u.cells.toList 0 c w hb (by simp;omega) h1;simp only[Nat.add_zero]at iZ;simp[storeVar,run_sizeOf T,hu,iZ,pZ]
theorem cQ.get{w:World}{I:Nat->Prop}{σ:gH}{es:List V}{k b o i:Nat}{e:V}(h:cQ w I σ es k b o)(hi:es[i]?=some e):e.cells.length=k/\yQ w I σ e.cells b (o+i*k):=
 (kO es k b o).1 h i e hi
theorem Rel.at{w:World}{I:Nat->Prop}{σ:gH}{h:aY}(R:Rel w I σ h){id i:Nat}{ob:Ob}{e:V}(ho:h id=some ob)(hi:ob.es[i]?=some e):
  ∃b o c el,σ id=some (b,o,ob.k)/\ ¬I b/\w.heap[b]?=some (Obj.cells c el (0,0))/\o+ob.es.length*ob.k<=c.size/\cQ w I (kH ob.dG σ) ob.es ob.k b o:=by
 rcases R.obj id ob ho with⟨he,_⟩|h
 ·rw[he]at hi;cases hi
 ·exact h
theorem JO{i j k p q:Nat}(hp:p<k)(hq:q<k)(h:i*k+p=j*k+q):i=j:=by
 rcases Nat.lt_trichotomy i j with eX|he|eX
 ·have:(i+1)*k<=j*k:=Nat.mul_le_mul_right k eX;rw[Nat.add_mul]at this;omega
 ·exact he
 ·have:(j+1)*k<=i*k:=Nat.mul_le_mul_right k eX;rw[Nat.add_mul]at this;omega
theorem NG {P:Program} {t:TypeId} {x:TI} (T:kP P t x) {w:World} {I:Nat->Prop} {σ:gH} {h:aY} (R:Rel w I σ h) {id i f:Nat} {ob:Ob} {e v:V} {u:Value}
  (ho:h id=some ob) (hi:ob.es[i]?=some e) (hr:cC w I (kH ob.dG σ) v u) (hf:v.fits x.size=true) (hle:f+x.size<=e.cells.length) (n:Nat)
  {b o k:Nat} (hs:σ id=some (b,o,k)):
  ∃w',(storeVar t ⟨b,o+i*k+f,none⟩ u).run P w= .ok () w'/\Step w I σ h n w' I σ (aO h id (some {ob with es:=ob.es.set i (e.put f v)})) n:=by
 obtain⟨b',o',c,el,ln,hI,hb,qE,dV⟩:=R.at ho hi;rw[hs]at ln;simp only[au,aF]at ln;obtain⟨rfl,rfl,rfl⟩:=ln;have su:=dV.get hi;have mM:=hr.cells hf;have Bt:i<ob.es.length:=(List.getElem?_eq_some_iff.1 hi).1;have E6:(i+1)*ob.k<=ob.es.length*ob.k:=Nat.mul_le_mul_right _ Bt;rw[Nat.add_mul]at E6;have NH:u.cells.size=x.size:=by
  have:=(dh _ _).1 mM.2;simp at this;omega
 have qv:o+i*ob.k+f+x.size<=c.size:=by omega
 have jt:=E5 T (p:=o+i*ob.k+f) hb NH mM.2.adj qv;have C4:o+i*ob.k+f+u.cells.toList.length<=c.size:=by simp;omega
 refine⟨_,jt,R.write ho hs hb (nG C4) (by simpa using qE) ?_ n⟩;have E:Ext w I (kH ob.dG σ) (w.setRow b (pZ c (o+i*ob.k+f) u.cells.toList)) I (kH ob.dG σ):=Ext.setRow hI hb (nG C4);rw[kO];intro j e' hj;rw[List.getElem?_set]at hj;by_cases jk:i=j
 ·subst jk;simp[Bt]at hj;subst hj;have Gq:=NF T.pos hf (e:=e) (f:=f) hle;refine⟨by rw[Gq,pA];exact su.1,?_⟩;intro q y hq;rw[Gq,nm _ _ _ _ (by rw[mM.1];omega)]at hq;rw[cell_setRow_same w b _ c _ el (0,0) hb,xN C4];split at hq
  ·rename_i uv;obtain⟨u',h1,h2,h3⟩:=mM.2.get hq;refine⟨u',?_,h2,h3.ext E⟩;rw[if_pos (by simp;rw[mM.1]at uv;omega)];rw[show o+i*ob.k+q-(o+i*ob.k+f)=q-f by omega];exact h1
  ·rename_i uv;obtain⟨u',h1,h2,h3⟩:=su.2 q y hq;refine⟨u',?_,h2,h3.ext E⟩;rw[if_neg (by simp;rw[mM.1]at uv;omega)];rw[cell_of_row w b _ c el (0,0) hb]at h1;exact h1
 ·rw[if_neg jk]at hj;have xO:=dV.get hj;refine⟨xO.1,?_⟩;intro q y hq;have hqk:q<ob.k:=by rw[<-xO.1];exact(List.getElem?_eq_some_iff.1 hq).1
  obtain⟨u',h1,h2,h3⟩:=xO.2 q y hq;refine⟨u',?_,h2,h3.ext E⟩;rw[cell_setRow_same w b _ c _ el (0,0) hb,xN C4,if_neg ?_]
  ·rw[cell_of_row w b _ c el (0,0) hb]at h1;exact h1
  ·simp only[Array.length_toList];intro ⟨ha,vp⟩;have eX:o+j*ob.k+q<o+i*ob.k+ob.k:=by omega
   have Wh:o+i*ob.k<=o+j*ob.k+q:=by omega
   apply jk;exact JO (k:=ob.k) (p:=j*ob.k+q-i*ob.k) (q:=q) (by omega) hqk (by omega)
theorem JP(w:World)(o:Obj)(b:Nat)(h:b<w.heap.size):(w.alloc o).heap[b]?=w.heap[b]?:=by
 show(w.heap.push o)[b]?=w.heap[b]?;rw[Array.getElem?_push,if_neg (Nat.ne_of_lt h)]
theorem NI(w:World)(o:Obj):(w.alloc o).heap[w.heap.size]?=some o:=by
 show(w.heap.push o)[w.heap.size]?=some o;simp
theorem Ext.alloc{w:World}{I:Nat->Prop}{σ:gH}(hI: ∀b,I b->b<w.heap.size)(ob:Obj):Ext w I σ (w.alloc ob) I σ:=
 ⟨fun b hb=>JP w ob b (hI b hb),fun b c el fz h=>⟨c,fz,by rw[JP w ob b (by have:=(Array.getElem?_eq_some_iff.1 h).1;exact this)];exact h,rfl⟩,fun _ h=>h,fun _ _ h=>h⟩
theorem qJ(w:World)(ob:Obj):(w.alloc ob).heap.size=w.heap.size+1:=by
 show(w.heap.push ob).size=_;simp
theorem Rel.alloc{w:World}{I:Nat->Prop}{σ:gH}{h:aY}(R:Rel w I σ h)(ob:Obj):Rel (w.alloc ob) I σ h:=by
 refine R.dG (Ext.alloc R.dy ob) (fun b hb=>by rw[qJ];have:=R.dy b hb;omega) (fun b hb=> ?_) (fun _ _=>rfl);obtain⟨hi,c,el,hh⟩:=R.owned hb;exact⟨JP w ob b ((Array.getElem?_eq_some_iff.1 hh).1),hi⟩
theorem E7 {w:World} {I:Nat->Prop} {σ:gH} {h:aY} (R:Rel w I σ h) {n k:Nat} {es:List V} {dG:Bool} {el:TypeId} (c:Array Value)
  (hn:h n=none) (hs:σ n=none) (hle:es.length*k<=c.size)
  (hr:cQ (w.alloc (.cells c el)) I (kH dG (aO σ n (some (w.heap.size,0,k)))) es k w.heap.size 0):
  Step w I σ h n (w.alloc (.cells c el)) I (aO σ n (some (w.heap.size,0,k))) (aO h n (some ⟨k,es,dG⟩)) (n+1):=by
 have AM:=NI w (.cells c el);have hnI: ¬I w.heap.size:=fun hi=>by have:=R.dy _ hi;omega
 have hnO: ¬gm σ h w.heap.size:=fun ho=>by
  obtain⟨_,c',Mp,hh⟩:=R.owned ho;have:=(Array.getElem?_eq_some_iff.1 hh).1;omega
 have R1:=(R.alloc (.cells c el)).Z7 (n:=n) (b:=w.heap.size) (o:=0) (k:=k) (es:=es) (dG:=dG) hn hs AM hnI hnO (by omega) hr;refine⟨(Ext.alloc R.dy _).trans (Ext.Q9 hs),R1,rfl,rfl,rfl,by rw[qJ];omega,fun b hb _=>JP w _ b hb,fun b hb=> ?_,fun _ hb=> .inl hb,by omega,fun id dg=>by simp[aO];omega,fun id dg A2=>by simp[aO,A2];omega⟩;obtain⟨id,ob,o,k',h1,h2⟩:=hb;by_cases e:id=n
 ·subst e;simp[aO]at h2;left;omega
 ·right;exact⟨id,ob,o,k',by simpa[aO,e] using h1,by simpa[aO,e] using h2⟩
theorem Ms{w:World}{I:Nat->Prop}{σ:gH}{h:aY}(R:Rel w I σ h){n k:Nat}{v:V}{u:Value}{el:TypeId}(hs:σ n=none)(hr:cC w I σ v u)(hf:v.fits k=true):
  cQ (w.alloc (.cells u.cells el)) I (aO σ n (some (w.heap.size,0,k))) [v] k w.heap.size 0:=by
 have hc:=hr.cells hf;rw[jR];refine⟨hc.1,fun j c hj=> ?_,by simp[cQ]⟩;obtain⟨u',h1,h2,h3⟩:=hc.2.get hj;refine⟨u',?_,h2,h3.ext ((Ext.alloc R.dy _).trans (Ext.Q9 hs))⟩;rw[cell_of_row _ _ _ _ _ _ (NI w (.cells u.cells el))];simpa using h1
def sliceB(P:Program)(t:TypeId)(x:TI):Bool:=
 match P.underlying t with
 |some (.slice e)=>e==x.elem
 |_=>false
def kdB(P:Program)(t:TypeId)(kd:Nat):Bool:=
 match P.underlying t,kd with
 |some (.int _),0=>true
 |some .bool,1=>true
 |some .string,2=>true
 |_,_=>false
def Bu(P:Program):Nat->List Field->List Nat->Bool
 |_,[],[]=>true
 |j,f::fs,k::ks=>f.name != "_" &&f.offset==j&&kdB P f.type k&&Bu P (j+1) fs ks
 |_,_,_=>false
def eqB(P:Program)(t:TypeId)(ag:Bool)(vY:List Nat):Bool:=
 match P.underlying t with
 |some (.struct fs)=>ag&& (vY==[]||(!(P.stoodInHeld t)&& !(P.eqGuardType P.depth t)&&Bu P 0 fs.toList vY))
 |some .bool=> !ag&&vY==[1]
 |some (.pointer _)=> !ag&&vY==[3]
 |some (.array _ _)=>ag&&vY==[9]
 |_=> !ag&& (vY==[]||vY==[0]||vY==[2])
def tB(X:Env)(t:TypeId):Bool:=tiB X.P t (X.ti t)
def NJ(X:Env)(nt:Nat)(o:Oper):Bool:=
 (match o.dst with|some d=>decide (d<nt)|none=>true)&&o.op.operands.toList.all W7&&
 (match o.op with
 | .alloc t| .box t _| .load t _| .fieldAddr t _ _=>tB X t
 | .store t _ _=>tB X t&&o.dst==none
 | .build t _=>tB X t&& ((X.ti t).arr==none||tB X (X.ti t).elem)
 | .buildSlice t n _=>sliceB X.P t (X.ti t)&&tB X (X.ti t).elem&&decide (n*(X.ti (X.ti t).elem).size<=2^24)
 | .makeSlice t _ _=>sliceB X.P t (X.ti t)&&tB X (X.ti t).elem
 | .indexAddr t _ _=>(((X.ti t).arr==none&&sliceB X.P t (X.ti t))||(tB X t&& (X.ti t).arr !=none))&&tB X (X.ti t).elem
 | .index t _ _=>tB X t&& ((X.ti t).arr==none||tB X (X.ti t).elem)&& ((X.ti t).arr !=none||(match X.P.underlying t with|some .string=>true|_=>false))
 | .convert s d _=>tB X d&& (X.P.underlying s).isSome
 | .binOp .eql t _ _ _| .binOp .neq t _ _ _=>eqB X.P t (X.ti t).agg (X.ti t).vY
 | .slice t _ _ _ _=>match X.P.underlying t with|some (.slice e)=> !(X.ti t).isStr&&e==(X.ti t).elem&&tB X e|some .string=>(X.ti t).isStr|_=>false
 | .call ⟨.builtin .append,args,jP⟩=>args.size==2&& (match jP.toList with
   |t::u::_=>sliceB X.P t (X.ti t)&&tB X (X.ti t).elem&& (match X.P.underlying u with
    |some (.slice _)=>true
    |some .string=>true
    |_=>(X.ti u).kind.isSome)
   |_=>false)
 | .call ⟨.builtin .copy,args,jP⟩=>args.size==2&& (match jP.toList with
   |t::u::_=>sliceB X.P t (X.ti t)&&tB X (X.ti t).elem&& (match X.P.underlying u with
    |some (.slice _)=>true
    |some .string=>true
    |_=>false)
   |_=>false)
 | .call ⟨.builtin .len,args,jP⟩=>args.size==1&& (match jP.toList with
   |t::_=>(match X.P.underlying t with|some (.slice _)=> !(X.ti t).isStr|some .string=>(X.ti t).isStr|_=>false)
   |_=>false)
 |_=>true)
def Out(X:Env)(o:Oper)(a:Act)(w:World)(I:Nat->Prop)(σ:gH)(S S1:St):Prop:=
 ∃nx w' I' σ' u v,(execOp a.eval o).run X.P w= .ok nx w'/\(nx= .value u\/(nx= .skip/\u=undef))/\
  Step w I σ S.h S.n w' I' σ' S1.h S1.n/\S1.f=(S.set o.dst v).f/\cC w' I' σ' v u
section
variable {X:Env} {o:Oper} {a:Act} {w:World} {I:Nat->Prop} {σ:gH} {S S1:St}
theorem dJ(S:St)(d:Option Nat)(v:V):(S.set d v).h=S.h:=by cases d<;>rfl
theorem fa(S:St)(d:Option Nat)(v:V):(S.set d v).n=S.n:=by cases d<;>rfl
theorem qo(S S':St)(d:Option Nat)(v:V)(h:S'.f=S.f):(S'.set d v).f=(S.set d v).f:=by cases d<;>simp[St.set,h]
theorem Out.pure{u:Value}{v:V}(R:Rel w I σ S.h)(h:(execOp a.eval o).run X.P w= .ok (.value u) w)(hr:cC w I σ v u)(hs:S1=S.set o.dst v):Out X o a w I σ S S1:=by
 subst hs;refine⟨_,w,I,σ,u,v,h,.inl rfl,?_,rfl,hr⟩;rw[dJ,fa];exact Step.refl R _
def mn(o:Oper):Prop:= ∀x∈o.op.operands.toList,W7 x=true
theorem fl{k:IntKind}{n:Int}{u:Value}(h:cC w I σ (.int k n) u):u= .int k n:=by simpa[cC] using h
theorem qK{b:Bool}{u:Value}(h:cC w I σ (.bool b) u):u= .bool b:=by simpa[cC] using h
theorem Rd {c x y:Operand} (ho:o.op= .pick c x y) (R:Rel w I σ S.h) (F:ir w I σ S.f a) (hx:mn o) {t:Bool} (hc:S.ev c= .bool t)
  (hs:S1=S.set o.dst (if t then S.ev x else S.ev y)):Out X o a w I σ S S1:=by
 have h1:=dO (S:=S) F (hx c (by simp[ho,Op.operands]));have h2:=dO (S:=S) F (hx x (by simp[ho,Op.operands]));have h3:=dO (S:=S) F (hx y (by simp[ho,Op.operands]));rw[hc]at h1;have hb:=qK h1;refine Out.pure (u:=if t then a.eval x else a.eval y) R ?_ ?_ hs
 ·simp[execOp,ho,hb,asBool]
 ·cases t<;>simp[h2,h3]
theorem GR{x:Operand}(ho:o.op= .move x\/o.op= .assign x)(R:Rel w I σ S.h)(F:ir w I σ S.f a)(hx:mn o)(hs:S1=S.set o.dst (S.ev x)):Out X o a w I σ S S1:=by
 have h1:cC w I σ (S.ev x) (a.eval x):=dO (S:=S) F (hx x (by rcases ho with h|h<;>simp[h,Op.operands]));refine Out.pure (u:=a.eval x) R ?_ h1 hs;rcases ho with h|h<;>simp[execOp,h]
theorem Bv{P:Program}{t:TypeId}{x:TI}(T:kP P t x)(w:World): ∃z,(zeroValue t).run P w= .ok z w/\DW x.zero z=true:=by
 obtain⟨i,z,hi,_,_,hz,hb⟩:=T.info;exact⟨z,by simp[zeroValue,typeInfo,hi,hz],hb⟩
theorem NK {t:TypeId} (ho:o.op= .alloc t) (T:kP X.P t (X.ti t)) (R:Rel w I σ S.h) (hn:S.h S.n=none) (sZ:σ S.n=none)
  (hs:S1=(S.new ⟨(X.ti t).size,[(X.ti t).zero],true⟩).set o.dst (.ptr S.n 0 0)):Out X o a w I σ S S1:=by
 subst hs;obtain⟨z,hz,hb⟩:=Bv T w;have hrz:cC w I σ (X.ti t).zero z:=GO T hb;refine⟨_,w.alloc (.cells z.cells t),I,aO σ S.n (some (w.heap.size,0,(X.ti t).size)),.pointer (some ⟨w.heap.size,0,none⟩),.ptr S.n 0 0,?_,.inl rfl,?_,?_,?_⟩
 ·simp[execOp,ho,Instr.alloc,hz,newVar,newRow]
 ·rw[dJ,fa];refine E7 R z.cells hn sZ ?_ (Ms R sZ hrz T.W6);have:=(hrz.cells T.W6);have hl:=(dh _ _).1 this.2;simp at hl⊢;omega
 ·exact qo _ _ _ _ rfl
 ·simp only[cC];exact⟨w.heap.size,0,(X.ti t).size,by simp[aO],by simp⟩
theorem W9 {t:TypeId} {x:Operand} (ho:o.op= .box t x) (R:Rel w I σ S.h) (F:ir w I σ S.f a) (hx:mn o) (hn:S.h S.n=none) (sZ:σ S.n=none)
  (hf:(S.ev x).fits (X.ti t).size=true) (hs:S1=(S.new ⟨(X.ti t).size,[S.ev x],true⟩).set o.dst (.ptr S.n 0 0)):Out X o a w I σ S S1:=by
 subst hs;have hrz:cC w I σ (S.ev x) (a.eval x):=dO (S:=S) F (hx x (by simp[ho,Op.operands]));refine⟨_,w.alloc (.cells (a.eval x).cells t),I,aO σ S.n (some (w.heap.size,0,(X.ti t).size)),.pointer (some ⟨w.heap.size,0,none⟩),.ptr S.n 0 0,?_,.inl rfl,?_,?_,?_⟩
 ·simp[execOp,ho,Instr.box,newVar,newRow]
 ·rw[dJ,fa];refine E7 R (a.eval x).cells hn sZ ?_ (Ms R sZ hrz hf);have:=(hrz.cells hf);have hl:=(dh _ _).1 this.2;simp at hl⊢;omega
 ·exact qo _ _ _ _ rfl
 ·simp only[cC];exact⟨w.heap.size,0,(X.ti t).size,by simp[aO],by simp⟩
theorem E8 {t:TypeId} {x:Operand} (ho:o.op= .load t x) (T:kP X.P t (X.ti t)) (R:Rel w I σ S.h) (F:ir w I σ S.f a) (hx:mn o)
  {id i f:Nat} {ob:Ob} {e v:V} (he:S.ev x= .ptr id i f) (ea:S.h id=some ob) (hi:ob.es[i]?=some e) (hv:part (X.ti t) e.cells f=some v) (hs:S1=S.set o.dst v):Out X o a w I σ S S1:=by
 have h1:cC w I σ (S.ev x) (a.eval x):=dO (S:=S) F (hx x (by simp[ho,Op.operands]));rw[he]at h1;simp only[cC]at h1;obtain⟨b,of,k,iT,hu⟩:=h1;obtain⟨b',o',c,el,ln,hI,hb,qE,dV⟩:=R.at ea hi;rw[iT]at ln;simp only[au,aF]at ln;obtain⟨rfl,rfl,rfl⟩:=ln;have hc:=(dV.get hi).2.ext (Ext.Bq ob.dG) rfl;obtain⟨u,W8,hr⟩:=Bs T (f:=f) hc hv;refine Out.pure (u:=u) R ?_ hr hs;simp[execOp,ho,hu,Instr.loadAt,Instr.sureAddr,W8]
theorem E9 {t:TypeId} {x:Operand} (ho:o.op= .load t x) (T:kP X.P t (X.ti t)) (R:Rel w I σ S.h) (F:ir w I σ S.f a) (hx:mn o)
  {cs:List V} {v:V} (he:S.ev x= .ref cs) (hv:part (X.ti t) cs 0=some v) (hs:S1=S.set o.dst v):Out X o a w I σ S S1:=by
 have h1:cC w I σ (S.ev x) (a.eval x):=dO (S:=S) F (hx x (by simp[ho,Op.operands]));rw[he]at h1;simp only[cC]at h1;obtain⟨b,of,hu,hI,hc⟩:=h1;rw[qD]at hc;obtain⟨u,W8,hr⟩:=Bs T (f:=0) hc hv;refine Out.pure (u:=u) R ?_ (hr.ext Ext.free) hs;simp only[Nat.add_zero]at W8;simp[execOp,ho,hu,Instr.loadAt,Instr.sureAddr,W8]
theorem zR{P:Program}{t:TypeId}{x:TI}(T:kP P t x){i off k:Nat}(hf:x.vW[i]?=some (off,k))(w:World)(b p:Nat):
  (Instr.fieldAt t (.pointer (some ⟨b,p,none⟩)) i).run P w= .ok (.pointer (some ⟨b,p+off,none⟩)) w:=by
 obtain⟨d,hd,hb⟩:=T.und;cases d with
 |struct fs=>
  simp only[xM,Bool.and_eq_true,beq_iff_eq]at hb;obtain⟨⟨⟨⟨_,A4⟩,_⟩,_⟩,De⟩:=hb;rw[A4,List.getElem?_map]at hf;cases NL:fs.toList[i]? with
  |none=>simp[NL]at hf
  |some fd=>
   simp[NL]at hf;obtain⟨rfl,rfl⟩:=hf;have Wi:fs[i]?=some fd:=by simpa using NL
   have hp:=List.all_eq_true.1 De fd (List.mem_of_getElem? NL);simp at hp;have qE:(sizeOf fd.type).run P w= .ok (P.cellsOf fd.type) w:=by
    unfold Program.cellsOf at hp⊢;cases hi:P.info? fd.type with
    |none=>simp[hi]at hp
    |some i=>simp[sizeOf,typeInfo,hi]
   simp[Instr.fieldAt,run_underlying hd,Wi,Instr.sureAddr,fieldPlace,qE,Nat.ne_of_gt hp,n9]
 |_=>
  exfalso;simp[xM]at hb;simp[hb]at hf
theorem wi {t:TypeId} {x:Operand} {i:Nat} (ho:o.op= .fieldAddr t x i) (T:kP X.P t (X.ti t)) (R:Rel w I σ S.h) (F:ir w I σ S.f a) (hx:mn o)
  {off k:Nat} (hf:(X.ti t).vW[i]?=some (off,k)) {v:V} (hv:(∃id j f,S.ev x= .ptr id j f/\v= .ptr id j (f+off))\/(∃cs,S.ev x= .ref cs/\v= .ref (cs.drop off)))
  (hs:S1=S.set o.dst v):Out X o a w I σ S S1:=by
 have h1:cC w I σ (S.ev x) (a.eval x):=dO (S:=S) F (hx x (by simp[ho,Op.operands]));rcases hv with⟨id,j,f,he,rfl⟩|⟨cs,he,rfl⟩
 ·rw[he]at h1;simp only[cC]at h1;obtain⟨b,of,k',iT,hu⟩:=h1;refine Out.pure (u:= .pointer (some ⟨b,of+j*k'+f+off,none⟩)) R ?_ ?_ hs
  ·simp[execOp,ho,hu,zR T hf]
  ·simp only[cC];exact⟨b,of,k',iT,by rw[Nat.add_assoc]⟩
 ·rw[he]at h1;simp only[cC]at h1;obtain⟨b,of,hu,hI,hc⟩:=h1;refine Out.pure (u:= .pointer (some ⟨b,of+off,none⟩)) R ?_ ?_ hs
  ·simp[execOp,ho,hu,zR T hf]
  ·simp only[cC];refine⟨b,of+off,rfl,hI,?_⟩;rw[qD]at hc⊢;intro q c hq;rw[List.getElem?_drop]at hq;have:=hc (off+q) c hq;rwa[show of+(off+q)=of+off+q by omega]at this
end
section
variable {w:World} {I:Nat->Prop} {σ:gH} {h:aY}
theorem sv{v:V}{u:Value}(hv:v.oR=true)(hr:cC w I σ v u):cC w I eA v u:=by
 cases v with
 |int k n=>simpa[cC] using hr
 |bool b=>simpa[cC] using hr
 |str s=>simpa[cC] using hr
 |sl c es=>simpa only[cC] using hr
 |qs=>simpa[cC] using hr
 |fn g bez bs=>
  cases bez with
  |nil=>cases bs with
   |nil=>simpa[cC,dU] using hr
   |cons _ _=>simp[V.oR]at hv
  |cons _ _=>simp[V.oR]at hv
 |_=>simp[V.oR]at hv
def ajl(I:Nat->Prop)(σ:gH)(h h':aY):Nat->Prop:=fun b=>I b\/(gm σ h b/\ ¬gm σ h' b)
theorem gm.JQ{id b:Nat}(ho:gm σ (aO h id none) b):gm σ h b:=by
 obtain⟨i,ob,o,k,h1,h2⟩:=ho;by_cases e:i=id
 ·subst e;simp[aO]at h1
 ·exact⟨i,ob,o,k,by simpa[aO,e] using h1,h2⟩
theorem Rel.JS(R:Rel w I σ h){id b o k:Nat}{ob:Ob}(h1:h id=some ob)(h2:σ id=some (b,o,k)): ¬gm σ (aO h id none) b:=by
 rintro⟨i,lU,o',k',h3,h4⟩;by_cases e:i=id
 ·subst e;simp[aO]at h3
 ·exact e (R.apart i id lU ob b o' k' o k (by simpa[aO,e] using h3) h1 h4 h2)
theorem NM(R:Rel w I σ h){h':aY}(s7: ∀id ob,h' id=some ob->h id=some ob)(n:Nat):Step w I σ h n w (ajl I σ h h') σ h' n:=by
 have E:Ext w I σ w (ajl I σ h h') σ:=⟨fun _ _=>rfl,fun _ c _ fz hh=>⟨c,fz,hh,rfl⟩,fun b hb=> .inl hb,fun _ _ hh=>hh⟩;have lW: ∀b,gm σ h' b->gm σ h b:=fun b ⟨i,ob,o,k,h1,h2⟩=>⟨i,ob,o,k,s7 _ _ h1,h2⟩;refine⟨E,(R.sub s7).dG E (fun b hb=> ?_) (fun b hb=>⟨rfl,?_⟩) (fun _ _=>rfl),rfl,rfl,rfl,Nat.le_refl _,fun _ _ _=>rfl,fun b hb=> .inr (lW b hb),fun b hb=> ?_,Nat.le_refl _,fun _ _=>rfl,fun id _ hn=> ?_⟩
 ·rcases hb with hb|hb
  ·exact R.dy b hb
  ·obtain⟨_,c,el,hh⟩:=R.owned hb.1;exact(Array.getElem?_eq_some_iff.1 hh).1
 ·rintro(hi|⟨_,hn⟩)
  ·exact(R.owned (lW b hb)).1 hi
  ·exact hn hb
 ·rcases hb with hb|hb
  ·exact .inl hb
  ·exact .inr (.inr hb.1)
 ·cases hc:h' id with
  |none=>rfl
  |some ob=>rw[s7 id ob hc]at hn;cases hn
theorem cQ.Mr{es:List V}{k b o:Nat}(hr:cQ w I σ es k b o)(s l:Nat):cQ w I σ ((es.drop s).take l) k b (o+s*k):=by
 rw[kO]at hr⊢;intro i e hi;rw[List.getElem?_take]at hi;split at hi
 ·rw[List.getElem?_drop]at hi;have:=hr (s+i) e hi;rwa[show o+(s+i)*k=o+s*k+i*k by rw[Nat.add_mul];omega]at this
 ·cases hi
theorem GS{es:List V}{k b o:Nat}(he:es.all V.JJ=true)(hr:cQ w I σ es k b o):cQ w I eA es k b o:=by
 rw[kO]at hr⊢;intro i e hi;obtain⟨h1,h2⟩:=hr i e hi;refine⟨h1,fun j c hj=> ?_⟩;obtain⟨u,g1,g2,g3⟩:=h2 j c hj;refine⟨u,g1,g2,sv ?_ g3⟩;have hx:e.JJ=true:=List.all_eq_true.1 he e (List.mem_of_getElem? hi);cases e with
 |agg cs=>exact List.all_eq_true.1 hx c (List.mem_of_getElem? hj)
 |_=>
  cases j with
  |zero=>simp[V.cells]at hj;subst hj;exact hx
  |succ j=>simp[V.cells]at hj
theorem Mt (R:Rel w I σ h) {id s l:Nat} {ob:Ob} {u:Value} (hr:cC w I σ (.bU id s l) u) (ea:h id=some ob) (hk:(!ob.dG||ob.es.all V.JJ)=true) (hle:s+l<=ob.es.length)
  {J:Nat->Prop} (NN: ∀b,I b->J b) (hJ: ∀b o k,σ id=some (b,o,k)->J b):cC w J eA (.sl false ((ob.es.drop s).take l)) u:=by
 simp only[cC]at hr⊢;obtain⟨a,cap,rfl,h1,h2,h3⟩:=hr;have hlen:((ob.es.drop s).take l).length=l:=by simp;omega
 refine⟨a,cap,by rw[hlen],by omega,h2,fun hc=>(by cases hc),?_⟩;by_cases hl:l=0
 ·subst hl;left;simp
 ·right;rcases h3 with h3|⟨b,of,k,c,el,fz,hs,ha,hb,mM⟩
  ·omega
  ·have hi:ob.es[s]?=some (ob.es[s]'(by omega)):=by simp
   obtain⟨b',o',c',Mp,ln,hI,vp,qE,dV⟩:=R.at ea hi;rw[hs]at ln;simp only[au,aF]at ln;obtain⟨rfl,rfl,rfl⟩:=ln;refine⟨b,of+s*ob.k,ob.k,ha,hJ b of ob.k hs,?_⟩;have ajm:cQ w I eA ob.es ob.k b of:=by
    cases vr:ob.dG with
    |false=>rw[vr]at dV;exact dV
    |true=>
     rw[vr]at hk;exact GS (by simpa using hk) dV
   have tM:=ajm.Mr s l;have E:Ext w I eA w J eA:=⟨fun _ _=>rfl,fun _ c _ fz hh=>⟨c,fz,hh,rfl⟩,NN,fun _ _ hh=>hh⟩;exact tM.lJ E rfl
theorem DY(R:Rel w I σ h){v v':V}{h':aY}{u:Value}(hr:cC w I σ v u)(hg:qm h v=some (v',h'))(n:Nat):
  ∃I',Step w I σ h n w I' σ h' n/\cC w I' eA v' u/\(∀id ob,h' id=some ob->h id=some ob):=by
 unfold qm at hg;split at hg
 ·rename_i id s l;cases ea:h id with
  |none=>simp[ea]at hg
  |some ob=>
   simp only[ea]at hg;split at hg
   ·rename_i hc;simp only[Bool.and_eq_true,decide_eq_true_eq]at hc;simp only[au,aF]at hg;obtain⟨rfl,rfl⟩:=hg;have s7: ∀i lU,aO h id none i=some lU->h i=some lU:=by
     intro i lU hi;by_cases e:i=id
     ·subst e;simp[aO]at hi
     ·simpa[aO,e] using hi
    refine⟨_,NM R s7 n,cC.jm (v:= .sl false _) (Mt R hr ea hc.1 hc.2 (fun b hb=> .inl hb) (fun b o k hs=> .inr ⟨⟨id,ob,o,k,ea,hs⟩,R.JS ea hs⟩)),s7⟩
   ·cases hg
 ·rename_i iK;split at hg
  ·rename_i hi;simp only[au,aF]at hg;obtain⟨rfl,rfl⟩:=hg;exact⟨I,Step.refl R n,(sv hi hr).jm,fun _ _ hh=>hh⟩
  ·cases hg
theorem DZ: ∀{cs qC:List V} {I:Nat->Prop} {h h':aY} {us:List Value},Rel w I σ h->dn w I σ cs us->fj h cs=some (qC,h')-> ∀n:Nat,
  ∃I',Step w I σ h n w I' σ h' n/\dn w I' eA qC us/\(∀id ob,h' id=some ob->h id=some ob)
 | [],qC,I,h,h',us,R,hr,hg,n=>by
  simp only[fj,au,aF]at hg;obtain⟨rfl,rfl⟩:=hg;exact⟨I,Step.refl R n,by simpa[dn] using hr,fun _ _ hh=>hh⟩
 |c::cs,qC,I,h,h',us,R,hr,hg,n=>by
  simp only[dn]at hr;obtain⟨u,r,rfl,h1,h2,h3⟩:=hr;simp only[fj]at hg;cases hc:qm h c with
  |none=>simp[hc]at hg
  |some x=>
   obtain⟨c',sV⟩:=x;simp only[hc]at hg;cases hl:fj sV cs with
   |none=>simp[hl]at hg
   |some y=>
    obtain⟨cs1,E4⟩:=y;simp only[hl,au,aF]at hg;obtain⟨rfl,rfl⟩:=hg;obtain⟨I1,s1,r1,Df⟩:=DY R h2 hc n;have hr3:dn w I1 σ cs r:=dn.ext' cs r s1.ext h3;obtain⟨I2,s2,r2,Re⟩:=DZ s1.rel hr3 hl n;refine⟨I2,s1.trans s2,?_,fun id ob hh=>Df _ _ (Re _ _ hh)⟩;simp only[dn];exact⟨u,r,rfl,h1,r1.ext s2.ext.GM,r2⟩
theorem Bw(R:Rel w I σ h){v v':V}{h':aY}{u:Value}(hr:cC w I σ v u)(hg:qu h v=some (v',h'))(n:Nat):
  ∃I',Step w I σ h n w I' σ h' n/\cC w I' eA v' u/\(∀id ob,h' id=some ob->h id=some ob):=by
 unfold qu at hg;split at hg
 ·rename_i cs;cases hl:fj h cs with
  |none=>simp[hl]at hg
  |some y=>
   obtain⟨qC,h2⟩:=y;simp only[hl,au,aF]at hg;obtain⟨rfl,rfl⟩:=hg;simp only[cC]at hr;obtain⟨us,rfl,hc⟩:=hr;obtain⟨I1,s1,r1,sub⟩:=DZ R hc hl n;exact⟨I1,s1,by simp only[cC];exact⟨us,rfl,r1⟩,sub⟩
 ·exact DY R hr hg n
theorem D0: ∀{ps wj:List (Nat×V)} {I:Nat->Prop} {h h':aY} {us:List Value},Rel w I σ h->dU w I σ (ps.map (·.2)) us->lz h ps=some (wj,h')-> ∀n:Nat,
  ∃I',Step w I σ h n w I' σ h' n/\dU w I' eA (wj.map (·.2)) us/\wj.map (·.1)=ps.map (·.1)/\(∀id ob,h' id=some ob->h id=some ob)
 | [],wj,I,h,h',us,R,hr,hg,n=>by
  simp only[lz,au,aF]at hg;obtain⟨rfl,rfl⟩:=hg;exact⟨I,Step.refl R n,by simpa[dU] using hr,rfl,fun _ _ hh=>hh⟩
 |(i,c)::ps,wj,I,h,h',us,R,hr,hg,n=>by
  simp only[List.map_cons,dU]at hr;obtain⟨u,r,rfl,h2,h3⟩:=hr;simp only[lz]at hg;cases hc:qu h c with
  |none=>simp[hc]at hg
  |some x=>
   obtain⟨c',sV⟩:=x;simp only[hc]at hg;cases hl:lz sV ps with
   |none=>simp[hl]at hg
   |some y=>
    obtain⟨cs1,E4⟩:=y;simp only[hl,au,aF]at hg;obtain⟨rfl,rfl⟩:=hg;obtain⟨I1,s1,r1,Df⟩:=Bw R h2 hc n;have hr3:dU w I1 σ (ps.map (·.2)) r:=dU.ext' _ r s1.ext h3;obtain⟨I2,s2,r2,e2,Re⟩:=D0 s1.rel hr3 hl n;refine⟨I2,s1.trans s2,?_,by simp[e2],fun id ob hh=>Df _ _ (Re _ _ hh)⟩;simp only[List.map_cons,dU];exact⟨u,r,rfl,r1.ext s2.ext.GM,r2⟩
end
section
variable {X:Env} {o:Oper} {a:Act} {w:World} {I:Nat->Prop} {σ:gH} {S S1:St}
theorem NO {t:TypeId} {x y:Operand} (ho:o.op= .store t x y) (T:kP X.P t (X.ti t)) (R:Rel w I σ S.h) (F:ir w I σ S.f a) (hx:mn o)
  {id i f:Nat} {C5:Ob} {v:V} {h:aY} {ob:Ob} {e:V} (he:S.ev x= .ptr id i f) (h0:S.h id=some C5)
  (hg:(if C5.dG then some (S.ev y,S.h) else qu S.h (S.ev y))=some (v,h)) (ea:h id=some ob) (hi:ob.es[i]?=some e)
  (hf:(v.fits (X.ti t).size&&decide (f+(X.ti t).size<=e.cells.length))=true) (hd:o.dst=none)
  (hs:S1={S with h:=aO h id (some {ob with es:=ob.es.set i (e.put f v)})}):Out X o a w I σ S S1:=by
 subst hs;have h1:cC w I σ (S.ev x) (a.eval x):=dO (S:=S) F (hx x (by simp[ho,Op.operands]));have h2:cC w I σ (S.ev y) (a.eval y):=dO (S:=S) F (hx y (by simp[ho,Op.operands]));rw[he]at h1;simp only[cC]at h1;obtain⟨b,of,k,iT,hu⟩:=h1;simp only[Bool.and_eq_true,decide_eq_true_eq]at hf;have key: ∃I',Step w I σ S.h S.n w I' σ h S.n/\cC w I' (kH ob.dG σ) v (a.eval y):=by
  by_cases hk:C5.dG=true
  ·rw[if_pos hk]at hg;simp only[au,aF]at hg;obtain⟨rfl,rfl⟩:=hg;rw[h0]at ea;simp at ea;subst ea;exact⟨I,Step.refl R _,by simpa[kH,hk] using h2⟩
  ·rw[if_neg hk]at hg;obtain⟨I',s,r,sub⟩:=Bw R h2 hg S.n;have:=sub id ob ea;rw[h0]at this;simp at this;subst this;exact⟨I',s,by simpa[kH,hk] using r⟩
 obtain⟨I',s,r⟩:=key;obtain⟨w',jt,s'⟩:=NG T s.rel ea hi r hf.1 hf.2 S.n iT;refine⟨_,w',I',σ,undef,.bad,?_,.inr ⟨rfl,rfl⟩,s.trans s',by simp[St.set,hd],by simp[cC]⟩;simp[execOp,ho,hu,Instr.storeAt,Instr.sureAddr,jt]
theorem s8 {x:Operand} (ho:o.op= .nilCheck x) (R:Rel w I σ S.h) (F:ir w I σ S.f a) (hx:mn o)
  (hv:(∃id j f,S.ev x= .ptr id j f)\/(∃cs,S.ev x= .ref cs)\/(∃g p q,S.ev x= .fn g p q)) (hs:S1=S.set o.dst (S.ev x)):Out X o a w I σ S S1:=by
 have h1:cC w I σ (S.ev x) (a.eval x):=dO (S:=S) F (hx x (by simp[ho,Op.operands]));refine Out.pure (u:=a.eval x) R ?_ h1 hs;rcases hv with⟨id,j,f,he⟩|⟨cs,he⟩|⟨g,p,q,he⟩
 ·rw[he]at h1;simp only[cC]at h1;obtain⟨b,of,k,_,hu⟩:=h1;simp[execOp,ho,hu]
 ·rw[he]at h1;simp only[cC]at h1;obtain⟨b,of,hu,_⟩:=h1;simp[execOp,ho,hu]
 ·rw[he]at h1;simp only[cC]at h1;obtain⟨us,vs,hu,_⟩:=h1;simp[execOp,ho,hu]
theorem Rf{op:UnOp}{t:TypeId}{x:Operand}{v:V}(ho:o.op= .unOp op t x)(R:Rel w I σ S.h)(F:ir w I σ S.f a)(hx:mn o)(hv:unV op (S.ev x)=some v)(hs:S1=S.set o.dst v):Out X o a w I σ S S1:=by
 have h1:cC w I σ (S.ev x) (a.eval x):=dO (S:=S) F (hx x (by simp[ho,Op.operands]));unfold unV at hv;split at hv
 ·rename_i k n he;rw[he]at h1;have hu:=fl h1;simp only[au]at hv;subst hv;exact Out.pure (u:= .int k (k.wrap (0-n))) R (by simp[execOp,ho,hu,Op.unary,Op.intArith]) (by simp[cC]) hs
 ·rename_i b he;rw[he]at h1;have hu:=qK h1;simp only[au]at hv;subst hv;exact Out.pure (u:= .bool (!b)) R (by simp[execOp,ho,hu,Op.unary]) (by simp[cC]) hs
 ·cases hv
theorem GU {s d:TypeId} {x:Operand} {k k':IntKind} {n:Int} (ho:o.op= .convert s d x) (T:kP X.P d (X.ti d)) (Fa:(X.P.underlying s).isSome=true) (R:Rel w I σ S.h) (F:ir w I σ S.f a) (hx:mn o)
  (hk:(X.ti d).kind=some k) (he:S.ev x= .int k' n) (hs:S1=S.set o.dst (.int k (k.wrap n))):Out X o a w I σ S S1:=by
 have h1:cC w I σ (S.ev x) (a.eval x):=dO (S:=S) F (hx x (by simp[ho,Op.operands]));rw[he]at h1;have hu:=fl h1;obtain⟨e,hd,hb⟩:=T.und;have hde:e= .int k:=by
  cases e<;>simp_all [xM]
 subst hde;obtain⟨ds,hds⟩:=Option.isSome_iff_exists.1 Fa;exact Out.pure (u:= .int k (k.wrap n)) R (by simp[execOp,ho,hu,convert,run_underlying hds,run_underlying hd,Conv.intToInt]) (by simp[cC]) hs
theorem Fb {g:FuncId} {p q:Array Operand} (ho:o.op= .makeFunc (.func g) p q) (R:Rel w I σ S.h) (F:ir w I σ S.f a) (hx:mn o)
  (hs:S1=S.set o.dst (.fn g (p.toList.map S.ev) (q.toList.map S.ev))):Out X o a w I σ S S1:=by
 have hl: ∀(xs:Array Operand),(∀x∈xs.toList,x∈o.op.operands.toList)->dU w I σ (xs.toList.map S.ev) (xs.map a.eval).toList:=by
  intro xs hxs;rw[kG];refine⟨by simp,fun j c u hc hu=> ?_⟩;rw[List.getElem?_map]at hc;simp only[Array.toList_map,List.getElem?_map]at hu;cases hj:xs.toList[j]? with
  |none=>simp[hj]at hc
  |some y=>
   simp only[hj,Option.map_some,au]at hc hu;subst hc;subst hu;exact dO (S:=S) F (hx y (hxs y (List.mem_of_getElem? hj)))
 refine Out.pure (u:= .func (.func g) (p.map a.eval) (q.map a.eval)) R (by simp[execOp,ho,Instr.makeFunc]) ?_ hs;simp only[cC];exact⟨_,_,rfl,hl p (by simp[ho,Op.operands];intro x hx;exact .inl hx),hl q (by simp[ho,Op.operands];intro x hx;exact .inr hx)⟩
theorem GV{x:Operand}{i:Nat}{vs:List V}{v:V}(ho:o.op= .extract x i)(R:Rel w I σ S.h)(F:ir w I σ S.f a)(hx:mn o)(he:S.ev x= .de vs)(hv:vs[i]?=some v)(hs:S1=S.set o.dst v):Out X o a w I σ S S1:=by
 have h1:cC w I σ (S.ev x) (a.eval x):=dO (S:=S) F (hx x (by simp[ho,Op.operands]));rw[he]at h1;simp only[cC]at h1;obtain⟨us,hu,hr⟩:=h1;rw[kG]at hr;have hi:i<vs.length:=(List.getElem?_eq_some_iff.1 hv).1;have hg:us[i]?=some (us[i]'(by have:=hr.1;simp at this;omega)):=by simp
 exact Out.pure (u:=us[i]'(by have:=hr.1;simp at this;omega)) R (by simp[execOp,ho,hu,Instr.extract,hg]) (hr.2 i v _ hv (by simp)) hs
end
section
variable {w:World} {I:Nat->Prop} {σ:gH}
theorem pC{s:List UInt8}{u:Value}(h:cC w I σ (.str s) u): ∃x:ByteArray,u= .string x/\x.data.toList=s:=by simpa only[cC] using h
theorem toList_eq(x:ByteArray):x.toList=x.data.toList:=by rw[ByteArray.toList_eq]
theorem xP{P:Program}{t:TypeId}{kd:Nat}(hs:kdB P t kd=true){cs:Array Value}{j:Nat}{u:Value}(hj:cs[j]?=some u)(w:World):(Go.part t cs j).run P w= .ok u w:=by
 unfold kdB at hs;have:(isAgg t).run P w= .ok false w:=by
  unfold isAgg;split at hs
  ·rename_i h;rw[Sem.run_bind,run_underlying h];rfl
  ·rename_i h;rw[Sem.run_bind,run_underlying h];rfl
  ·rename_i h;rw[Sem.run_bind,run_underlying h];rfl
  ·cases hs
 simp[Go.part,this,hj]
theorem JU{P:Program}{d:Nat}{t:TypeId}{kd:Nat}(hs:kdB P t kd=true){x y:V}{u v:Value}{r:Bool}(hx:cC w I σ x u)(hy:cC w I σ y v)(hr:V.eqv kd x y=some r)(ws:World):
  (Op.equalIn (d+1) t u v).run P ws= .ok r ws:=by
 unfold V.eqv at hr;split at hr
 ·split at hr
  ·rename_i hk;obtain⟨rfl,rfl⟩:=hk;simp only[au]at hr;subst hr;rw[fl hx,fl hy];unfold kdB at hs;split at hs
   ·rename_i h _;exact run_equalIn_int ws d t _ _ _ _ h
   ·omega
   ·omega
   ·cases hs
  ·cases hr
 ·split at hr
  ·rename_i hk;subst hk;simp only[au]at hr;subst hr;rw[qK hx,qK hy];unfold kdB at hs;split at hs
   ·omega
   ·rename_i h _;exact run_equalIn_bool' ws d t _ _ h
   ·omega
   ·cases hs
  ·cases hr
 ·split at hr
  ·rename_i hk;subst hk;simp only[au]at hr;subst hr;obtain⟨a,rfl,rfl⟩:=pC hx;obtain⟨b,rfl,rfl⟩:=pC hy;unfold kdB at hs;split at hs
   ·omega
   ·omega
   ·rename_i h _;rw[run_equalIn_string ws d t _ _ h,toList_eq,toList_eq]
   ·cases hs
  ·cases hr
 ·cases hr
theorem xQ{P:Program}{d:Nat}: ∀(fs:List Field) (ks:List Nat) (xs ys:List V) (j:Nat) (us vs:Array Value) (r:Bool),Bu P j fs ks=true->vZ ks xs ys=some r->
  dn w I σ xs (us.toList.drop j)->dn w I σ ys (vs.toList.drop j)-> ∀ws,(Op.eqFields (d+1) us vs fs).run P ws= .ok r ws
 | [],ks,xs,ys,j,us,vs,r,hf,he,hx,hy,ws=>by
  cases ks with
  |nil=>
   cases xs with
   |nil=>cases ys with
    |nil=>simp only[vZ,au]at he;subst he;simp[Op.eqFields]
    |cons _ _=>simp[vZ]at he
   |cons _ _=>simp[vZ]at he
  |cons _ _=>simp[Bu]at hf
 |f::fs,ks,xs,ys,j,us,vs,r,hf,he,hx,hy,ws=>by
  cases ks with
  |nil=>simp[Bu]at hf
  |cons k ks=>
   cases xs with
   |nil=>simp[vZ]at he
   |cons x xs=>cases ys with
    |nil=>simp[vZ]at he
    |cons y ys=>
     simp only[Bu,Bool.and_eq_true,bne_iff_ne,beq_iff_eq]at hf;obtain⟨⟨⟨h1,h2⟩,h3⟩,h4⟩:=hf;simp only[vZ]at he;cases e1:V.eqv k x y with
     |none=>simp[e1]at he
     |some p=>cases e2:vZ ks xs ys with
      |none=>simp[e1,e2]at he
      |some q=>
       simp only[e1,e2,au]at he;simp only[dn]at hx hy;obtain⟨u,ru,hu,_,hxu,Rg⟩:=hx;obtain⟨v,rv,hv,_,hyv,hyr⟩:=hy;have gu:us[j]?=some u:=by
        have:=congrArg (fun l:List Value=>l[0]?) hu;simpa[List.getElem?_drop] using this
       have gv:vs[j]?=some v:=by
        have:=congrArg (fun l:List Value=>l[0]?) hv;simpa[List.getElem?_drop] using this
       have du:us.toList.drop (j+1)=ru:=by
        have:=congrArg (List.drop 1) hu;simpa[List.drop_drop] using this
       have dv:vs.toList.drop (j+1)=rv:=by
        have:=congrArg (List.drop 1) hv;simpa[List.drop_drop] using this
       have ih:=xQ (d:=d) fs ks xs ys (j+1) us vs q h4 e2 (by rw[du];exact Rg) (by rw[dv];exact hyr) ws;simp only[Op.eqFields,if_pos h1];rw[h2];simp only[Sem.run_bind,xP h3 gu,xP h3 gv,Result.andThen_ok,JU h3 hxu hyv e1];cases p
       ·simp at he;subst he;simp
       ·simp at he;subst he;simp[ih]
end
section
variable {X:Env} {o:Oper} {a:Act} {w:World} {I:Nat->Prop} {σ:gH} {S S1:St}
theorem AN{P:Program}(w:World)(d:Nat)(t e:TypeId)(p q:Option Addr)(h:P.underlying t=some (.pointer e))(hn:p=none\/q=none):
  (Op.equalIn (d+1) t (.pointer p) (.pointer q)).run P w= .ok (p.isNone&&q.isNone) w:=by
 rcases hn with rfl|rfl
 ·simp[Op.equalIn,run_underlying h]
 ·cases p<;>simp[Op.equalIn,run_underlying h]
theorem Bx{P:Program}(w:World)(t e:TypeId)(p q:Option Addr)(h:P.underlying t=some (.pointer e))(hn:p=none\/q=none):
  (Op.equal t (.pointer p) (.pointer q)).run P w= .ok (p.isNone&&q.isNone) w:=AN w 9999 t e p q h hn
theorem Rh{P:Program}{t:TypeId}{ag:Bool}{vY:List Nat}(hB:eqB P t ag vY=true){x y:V}{u v:Value}{r:Bool}(hx:cC w I σ x u)(hy:cC w I σ y v)(hr:Mm ag vY x y=some r)(p q:Operand):
  (eqGuard .eql t p q u v).run P w= .ok () w/\(eqGuard .neq t p q u v).run P w= .ok () w/\(binOp .eql t u v).run P w= .ok (.bool r) w/\(binOp .neq t u v).run P w= .ok (.bool (!r)) w:=by
 unfold Mm at hr;split at hr
 ·rename_i xs ys;split at hr
  ·rename_i QC;simp only[cC]at hx hy;obtain⟨us,rfl,hcx⟩:=hx;obtain⟨vs,rfl,hcy⟩:=hy;have iK: ∃fs,P.underlying t=some (.struct fs)/\(vY=[]\/(P.stoodInHeld t=false/\P.eqGuardType P.depth t=false/\Bu P 0 fs.toList vY=true)):=by
    unfold eqB at hB;split at hB
    ·rename_i fs h;simp[QC.1]at hB;exact⟨fs,h,hB.imp id fun h=>⟨h.1.1,h.1.2,h.2⟩⟩
    ·simp[QC.1]at hB
    ·simp[QC.1]at hB
    ·simp[QC.1]at hB;subst hB;cases xs with
     |nil=>simp[vZ]at hr
     |cons x xs=>cases ys with
      |nil=>simp[vZ]at hr
      |cons y ys=>cases x<;>cases y<;>simp[vZ,V.eqv]at hr
    ·simp[QC.1]at hB
   obtain⟨fs,hfs,hc⟩:=iK;rcases hc with h0|⟨h1,h2,h3⟩
   ·exact absurd h0 QC.2
   ·have hF:P.fieldsOf t=fs:=by simp[Program.fieldsOf,hfs]
    have he:=xQ (d:=9998) fs.toList vY xs ys 0 us vs r h3 hr (by simpa using hcx) (by simpa using hcy) w;have iZ:(Op.equalIn 10000 t (.agg us) (.agg vs)).run P w= .ok r w:=by
     rw[run_equalIn_struct w 9999 t us vs (by rw[hF];exact hfs) h1,hF];exact he
    refine⟨run_eqGuard_agg w .eql t p q us vs h2,run_eqGuard_agg w .neq t p q us vs h2,?_,?_⟩
    ·rw[run_eql_struct,iZ];rfl
    ·rw[run_neq_struct,iZ];rfl
  ·cases hr
 ·split at hr
  ·rename_i hk;subst hk;simp only[au]at hr;subst hr;rw[fl hx,fl hy];refine⟨by rw[eqGuard_at_int];rfl,by rw[eqGuard_at_int];rfl,by rw[binOp_eql];rfl,by rw[binOp_neq];rfl⟩
  ·cases hr
 ·split at hr
  ·rename_i hc;simp only[au]at hr;subst hr;rw[qK hx,qK hy];have ht:P.underlying t=some .bool:=by
    unfold eqB at hB;split at hB
    ·simp[hc]at hB
    ·assumption
    ·simp[hc]at hB
    ·simp[hc]at hB
    ·simp[hc]at hB
   refine⟨by rw[eqGuard_at_bool];rfl,by rw[eqGuard_at_bool];rfl,?_,?_⟩
   ·simp only[binOp,Sem.run_bind];rw[show Op.equal t (.bool _) (.bool _)=Op.equalIn (9999+1) t (.bool _) (.bool _) from rfl,run_equalIn_bool' w 9999 t _ _ ht];rfl
   ·simp only[binOp,Sem.run_bind];rw[show Op.equal t (.bool _) (.bool _)=Op.equalIn (9999+1) t (.bool _) (.bool _) from rfl,run_equalIn_bool' w 9999 t _ _ ht];rfl
  ·cases hr
 ·simp only[au]at hr;subst hr;obtain⟨a,rfl,rfl⟩:=pC hx;obtain⟨b,rfl,rfl⟩:=pC hy;refine⟨by rw[eqGuard_at_string];rfl,by rw[eqGuard_at_string];rfl,?_,?_⟩
  ·simp[binOp,Op.stringOp,toList_eq]
  ·simp[binOp,Op.stringOp,toList_eq]
 all_goals first|(cases hr;done)|skip
 all_goals
  split at hr
  ·rename_i hc;simp only[au]at hr;subst hr;have ht: ∃e,P.underlying t=some (.pointer e):=by
    unfold eqB at hB;split at hB
    ·simp[hc]at hB
    ·simp[hc]at hB
    ·rename_i e h;exact⟨e,h⟩
    ·simp[hc]at hB
    ·simp[hc]at hB
   obtain⟨e,ht⟩:=ht;simp only[cC]at hx hy;first|(obtain⟨b,o,k,_,rfl⟩:=hx)|subst hx
   first|(obtain⟨b,o,k,_,rfl⟩:=hy)|subst hy
   refine⟨by rw[eqGuard_at_pointer];rfl,by rw[eqGuard_at_pointer];rfl,?_,?_⟩
   ·simp only[binOp,Sem.run_bind];rw[Bx w t e _ _ ht (by simp)];rfl
   ·simp only[binOp,Sem.run_bind];rw[Bx w t e _ _ ht (by simp)];rfl
  ·cases hr
theorem NP {op:BinOp} {t ty:TypeId} {x y:Operand} {v:V} (ho:o.op= .binOp op t x y ty) (hB:op= .eql\/op= .neq->eqB X.P t (X.ti t).agg (X.ti t).vY=true) (R:Rel w I σ S.h) (F:ir w I σ S.f a) (hx:mn o)
  (hv:pX (X.ti t).agg (X.ti t).vY op (S.ev x) (S.ev y)=some v) (hs:S1=S.set o.dst v):Out X o a w I σ S S1:=by
 have h1:cC w I σ (S.ev x) (a.eval x):=dO (S:=S) F (hx x (by simp[ho,Op.operands]));have h2:cC w I σ (S.ev y) (a.eval y):=dO (S:=S) F (hx y (by simp[ho,Op.operands]));generalize S.ev x=p at h1 hv;generalize S.ev y=q at h2 hv;have ints: ∀(f:IntKind->Int->Int->Option V),xF p q f=some v->(∀k m n,p= .int k m->q= .int k n->f k m n=some v-> ∃u,(binOp op t (.int k m) (.int k n)).run X.P w= .ok u w/\cC w I σ v u)->Out X o a w I σ S S1:=by
  intro f hf jt;unfold xF at hf;split at hf
  ·rename_i k m k' n;split at hf
   ·rename_i hk;subst hk;obtain⟨u,hu,hr⟩:=jt k m n rfl rfl hf;refine Out.pure (u:=u) R ?_ hr hs;simp[execOp,ho,fl h1,fl h2,eqGuard_at_int,hu]
   ·cases hf
  ·cases hf
 cases op with
 |eql=>
  simp only[pX]at hv;cases he:Mm (X.ti t).agg (X.ti t).vY p q with
  |none=>simp[he]at hv
  |some r=>
   simp only[he,au]at hv;subst hv;have:=Rh (hB (.inl rfl)) h1 h2 he x y;exact Out.pure (u:= .bool r) R (by simp[execOp,ho,this.1,this.2.2.1]) (by simp[cC]) hs
 |neq=>
  simp only[pX]at hv;cases he:Mm (X.ti t).agg (X.ti t).vY p q with
  |none=>simp[he]at hv
  |some r=>
   simp only[he,au]at hv;subst hv;have:=Rh (hB (.inr rfl)) h1 h2 he x y;exact Out.pure (u:= .bool (!r)) R (by simp[execOp,ho,this.2.1,this.2.2.2]) (by simp[cC]) hs
 |add=>
  simp only[pX]at hv;split at hv
  ·rename_i l m;split at hv
   ·rename_i hle;simp only[au]at hv;subst hv;obtain⟨b1,e1,rfl⟩:=pC h1;obtain⟨b2,e2,rfl⟩:=pC h2;refine Out.pure (u:= .string (b1++b2)) R ?_ (by simp only[cC];exact⟨_,rfl,by simp⟩) hs;have qE: ¬((b1.size+b2.size:Nat):Int)>IntKind.i64.max:=by
     have z1:b1.data.toList.length=b1.size:=Array.length_toList;have z2:b2.data.toList.length=b2.size:=Array.length_toList;rw[IntKind.max_i64];rw[z1,z2]at hle;omega
    simp only[execOp,ho,e1,e2,eqGuard_at_string,Sem.run_bind,Sem.run_pure,Result.andThen_ok,binOp,Op.stringOp,if_neg qE]
   ·cases hv
  ·exact ints _ hv fun k m n _ _ hf=>⟨.int k (k.wrap (m+n)),by rw[binOp_add];rfl,by simp only[au]at hf;subst hf;simp[cC]⟩
 |sub=>exact ints _ hv fun k m n _ _ hf=>⟨.int k (k.wrap (m-n)),by rw[binOp_sub];rfl,by simp only[au]at hf;subst hf;simp[cC]⟩
 |mul=>exact ints _ hv fun k m n _ _ hf=>⟨.int k (k.wrap (m*n)),by rw[binOp_mul];rfl,by simp only[au]at hf;subst hf;simp[cC]⟩
 |quo=>
  refine ints _ hv fun k m n _ _ hf=> ?_;split at hf
  ·cases hf
  ·rename_i hn;simp only[au]at hf;subst hf;exact⟨.int k (k.wrap (m.tdiv n)),by rw[binOp_quo];simp[Op.intDiv,hn],by simp[cC]⟩
 |rem=>
  refine ints _ hv fun k m n _ _ hf=> ?_;split at hf
  ·cases hf
  ·rename_i hn;simp only[au]at hf;subst hf;exact⟨.int k (m.tmod n),by rw[binOp_rem];simp[Op.intDiv,hn],by simp[cC]⟩
 |lss=>exact ints _ hv fun k m n _ _ hf=>⟨.bool (decide (m<n)),by rw[binOp_lss];rfl,by simp only[au]at hf;subst hf;simp[cC]⟩
 |leq=>exact ints _ hv fun k m n _ _ hf=>⟨.bool (decide (m<=n)),by rw[binOp_leq];rfl,by simp only[au]at hf;subst hf;simp[cC]⟩
 |gtr=>exact ints _ hv fun k m n _ _ hf=>⟨.bool (decide (n<m)),by rw[binOp_gtr];rfl,by simp only[au]at hf;subst hf;simp[cC]⟩
 |geq=>exact ints _ hv fun k m n _ _ hf=>⟨.bool (decide (n<=m)),by rw[binOp_geq];rfl,by simp only[au]at hf;subst hf;simp[cC]⟩
 |shl=>
  simp only[pX]at hv;split at hv
  ·rename_i k m k' n;split at hv
   ·cases hv
   ·rename_i hn;simp only[au]at hv;subst hv;refine Out.pure (u:= .int k (k.wrap (m*2^ (min n.toNat k.bits)))) R ?_ (by simp[cC]) hs;simp[execOp,ho,fl h1,fl h2,eqGuard_at_int,binOp,Op.shift,hn]
  ·cases hv
 |shr=>
  simp only[pX]at hv;split at hv
  ·rename_i k m k' n;split at hv
   ·cases hv
   ·rename_i hn;simp only[au]at hv;subst hv;refine Out.pure (u:= .int k (m.fdiv (2^ (min n.toNat k.bits)))) R ?_ (by simp[cC]) hs;simp[execOp,ho,fl h1,fl h2,eqGuard_at_int,binOp,Op.shift,hn]
  ·cases hv
 |and=>exact ints _ hv fun k m n _ _ hf=>⟨.int k (bits k .and m n),by rw[binOp_and];rfl,by simp only[au]at hf;subst hf;simp[cC]⟩
 |or=>exact ints _ hv fun k m n _ _ hf=>⟨.int k (bits k .or m n),by rw[binOp_or];rfl,by simp only[au]at hf;subst hf;simp[cC]⟩
 |xor=>exact ints _ hv fun k m n _ _ hf=>⟨.int k (bits k .xor m n),by rw[binOp_xor];rfl,by simp only[au]at hf;subst hf;simp[cC]⟩
 |andNot=>exact ints _ hv fun k m n _ _ hf=>⟨.int k (bits k .andNot m n),by rw[binOp_andNot];rfl,by simp only[au]at hf;subst hf;simp[cC]⟩
end
theorem lB{P:Program}{t:TypeId}{x:TI}(h:sliceB P t x=true):P.underlying t=some (.slice x.elem):=by
 unfold sliceB at h;split at h
 ·rename_i e he;have:=beq_iff_eq.1 h;rw[he,this]
 ·cases h
section
variable {X:Env} {o:Oper} {a:Act} {w:World} {I:Nat->Prop} {σ:gH} {S S1:St}
theorem Fc {t:TypeId} {x ix:Operand} (ho:o.op= .indexAddr t x ix) (hu:X.P.underlying t=some (.slice (X.ti t).elem)) (T:kP X.P (X.ti t).elem (X.ti (X.ti t).elem)) (R:Rel w I σ S.h) (F:ir w I σ S.f a) (hx:mn o)
  {c:Bool} {es:List V} {k:IntKind} {n:Int} {e:V} (he:S.ev x= .sl c es) (hi:S.ev ix= .int k n) (h0:0<=n/\n<es.length) (hg:es[n.toNat]?=some e) (hk:e.cells.length=(X.ti (X.ti t).elem).size)
  (hs:S1=S.set o.dst (.ref e.cells)):Out X o a w I σ S S1:=by
 have h1:cC w I σ (S.ev x) (a.eval x):=dO (S:=S) F (hx x (by simp[ho,Op.operands]));have h2:cC w I σ (S.ev ix) (a.eval ix):=dO (S:=S) F (hx ix (by simp[ho,Op.operands]));rw[he]at h1;rw[hi]at h2;have GW:=fl h2;simp only[cC]at h1;obtain⟨ad,cap,pW,_,_,_,hr⟩:=h1;rcases hr with hr|⟨b,of,kk,rfl,hI,dV⟩
 ·subst hr;simp at hg
 ·have hgk:=dV.get hg;have vr:kk=(X.ti (X.ti t).elem).size:=by rw[<-hk];exact hgk.1.symm
  refine Out.pure (u:= .pointer (some ⟨b,of+n.toNat*(X.ti (X.ti t).elem).size,none⟩)) R ?_ ?_ hs
  ·simp[execOp,ho,pW,GW,Instr.indexAt,run_underlying hu,asIntOf,h0,run_sizeOf T,n9]
  ·simp only[cC];exact⟨b,_,rfl,hI,by rw[qD,<-vr];exact hgk.2⟩
theorem Dg {t:TypeId} {x ix:Operand} (ho:o.op= .indexAddr t x ix) (hu:X.P.underlying t=some (.slice (X.ti t).elem)) (T:kP X.P (X.ti t).elem (X.ti (X.ti t).elem)) (R:Rel w I σ S.h) (F:ir w I σ S.f a) (hx:mn o)
  {id s l:Nat} {k:IntKind} {n:Int} {ob:Ob} (he:S.ev x= .bU id s l) (hi:S.ev ix= .int k n) (h0:0<=n/\n<l) (hg:S.h id=some ob) (hk:ob.k=(X.ti (X.ti t).elem).size)
  (hs:S1=S.set o.dst (.ptr id (s+n.toNat) 0)):Out X o a w I σ S S1:=by
 have h1:cC w I σ (S.ev x) (a.eval x):=dO (S:=S) F (hx x (by simp[ho,Op.operands]));have h2:cC w I σ (S.ev ix) (a.eval ix):=dO (S:=S) F (hx ix (by simp[ho,Op.operands]));rw[he]at h1;rw[hi]at h2;have GW:=fl h2;simp only[cC]at h1;obtain⟨ad,cap,pW,Xb,_,hr⟩:=h1;rcases hr with hr|⟨b,of,kk,c,el,fz,iT,rfl,hb,_⟩
 ·omega
 ·have vr:kk=ob.k:=by
   rcases R.obj id ob hg with⟨_,hn⟩|⟨b',o',c',Mp,ln,_⟩
   ·rw[hn]at iT;cases iT
   ·rw[ln]at iT;simp at iT;exact iT.2.2.symm
  refine Out.pure (u:= .pointer (some ⟨b,of+s*kk+n.toNat*kk,none⟩)) R ?_ ?_ hs
  ·simp[execOp,ho,pW,GW,Instr.indexAt,run_underlying hu,asIntOf,h0,run_sizeOf T,n9,vr,hk]
  ·simp only[cC];exact⟨b,of,kk,iT,by rw[Nat.add_mul];simp[Nat.add_assoc]⟩
theorem By{P:Program}{t:TypeId}{x:TI}(T:kP P t x){m:Nat}(h:x.arr=some m):P.underlying t=some (.array m x.elem):=by
 obtain⟨d,hd,hb⟩:=T.und;rw[hd];cases d<;>simp_all [xM]
theorem Dh {t:TypeId} {x ix:Operand} (ho:o.op= .indexAddr t x ix) (T0:kP X.P t (X.ti t)) (T:kP X.P (X.ti t).elem (X.ti (X.ti t).elem)) (R:Rel w I σ S.h) (F:ir w I σ S.f a) (hx:mn o)
  {id j f m:Nat} {k:IntKind} {n:Int} (he:S.ev x= .ptr id j f) (hi:S.ev ix= .int k n) (hm:(X.ti t).arr=some m) (h0:0<=n/\n<m)
  (hs:S1=S.set o.dst (.ptr id j (f+n.toNat*(X.ti (X.ti t).elem).size))):Out X o a w I σ S S1:=by
 have h1:cC w I σ (S.ev x) (a.eval x):=dO (S:=S) F (hx x (by simp[ho,Op.operands]));have h2:cC w I σ (S.ev ix) (a.eval ix):=dO (S:=S) F (hx ix (by simp[ho,Op.operands]));rw[he]at h1;rw[hi]at h2;have GW:=fl h2;simp only[cC]at h1;obtain⟨b,of,kk,iT,hp⟩:=h1;have hu:=By T0 hm;refine Out.pure (u:= .pointer (some ⟨b,of+j*kk+f+n.toNat*(X.ti (X.ti t).elem).size,none⟩)) R ?_ ?_ hs
 ·simp[execOp,ho,hp,GW,Instr.indexAt,run_underlying hu,asIntOf,h0,run_sizeOf T,n9,Instr.sureAddr]
 ·simp only[cC];exact⟨b,of,kk,iT,by simp[Nat.add_assoc]⟩
theorem Ri{P:Program}{t:TypeId}{x:TI}(T:kP P t x){cs:List V}{us:Array Value}(hc:dn w I σ cs us.toList){f:Nat}{v:V}(hv:part x cs f=some v):
  ∃u,(Go.part t us f).run P w= .ok u w/\cC w I σ v u:=by
 have hl:=((dh _ _).1 hc).1;unfold part at hv;by_cases ha:x.agg=true
 ·rw[if_pos ha]at hv;split at hv
  ·rename_i hle;simp only[au]at hv;subst hv;refine⟨.agg (us.extract f (f+x.size)),by simp[Go.part,vq T,ha,run_sizeOf T],?_⟩;simp only[cC];refine⟨_,rfl,?_⟩;rw[dh];refine⟨by simp at hl⊢;omega,fun j c u nn huj=> ?_⟩;rw[List.getElem?_take]at nn;split at nn
   ·rename_i hj;rw[List.getElem?_drop]at nn;have arl:us.toList[f+j]?=some u:=by
     simp only[Array.toList_extract,List.extract_eq_take_drop,List.getElem?_take,List.getElem?_drop]at huj;split at huj
     ·exact huj
     ·cases huj
    exact((dh _ _).1 hc).2 (f+j) c u nn arl
   ·cases nn
  ·cases hv
 ·rw[if_neg ha]at hv;have GQ:x.agg=false:=by simpa using ha
  obtain⟨u,h1,_,h3⟩:=hc.get hv;exact⟨u,by
   have sV:us[f]?=some u:=by simpa using h1
   simp[Go.part,vq T,GQ,sV],h3⟩
theorem Di {t:TypeId} {x ix:Operand} (ho:o.op= .index t x ix) (T0:kP X.P t (X.ti t)) (T:kP X.P (X.ti t).elem (X.ti (X.ti t).elem)) (R:Rel w I σ S.h) (F:ir w I σ S.f a) (hx:mn o)
  {cs:List V} {m:Nat} {k:IntKind} {n:Int} {v:V} (he:S.ev x= .agg cs) (hi:S.ev ix= .int k n) (hm:(X.ti t).arr=some m) (h0:0<=n/\n<m)
  (hv:part (X.ti (X.ti t).elem) cs (n.toNat*(X.ti (X.ti t).elem).size)=some v) (hs:S1=S.set o.dst v):Out X o a w I σ S S1:=by
 have h1:cC w I σ (S.ev x) (a.eval x):=dO (S:=S) F (hx x (by simp[ho,Op.operands]));have h2:cC w I σ (S.ev ix) (a.eval ix):=dO (S:=S) F (hx ix (by simp[ho,Op.operands]));rw[he]at h1;rw[hi]at h2;have GW:=fl h2;simp only[cC]at h1;obtain⟨us,hp,hc⟩:=h1;have hu:=By T0 hm;obtain⟨u,jt,hr⟩:=Ri T hc hv;refine Out.pure (u:=u) R ?_ hr hs;simp[execOp,ho,hp,GW,Instr.index,run_underlying hu,asIntOf,h0,run_sizeOf T,jt]
theorem Dj {t:TypeId} {x ix:Operand} (ho:o.op= .index t x ix) (hu:X.P.underlying t=some .string) (R:Rel w I σ S.h) (F:ir w I σ S.f a) (hx:mn o)
  {s:List UInt8} {k:IntKind} {n:Int} {b:UInt8} (he:S.ev x= .str s) (hi:S.ev ix= .int k n) (h0:0<=n) (hg:s[n.toNat]?=some b) (hs:S1=S.set o.dst (.int .u8 b.toNat)):Out X o a w I σ S S1:=by
 have h1:cC w I σ (S.ev x) (a.eval x):=dO (S:=S) F (hx x (by simp[ho,Op.operands]));have h2:cC w I σ (S.ev ix) (a.eval ix):=dO (S:=S) F (hx ix (by simp[ho,Op.operands]));rw[he]at h1;rw[hi]at h2;have GW:=fl h2;obtain⟨bs,hb,rfl⟩:=pC h1;have hg':bs[n.toNat]?=some b:=by
  have hl:n.toNat<bs.data.toList.length:=(List.getElem?_eq_some_iff.1 hg).1;have xz:n.toNat<bs.size:=by simpa using hl
  rw[getElem?_pos bs n.toNat xz];have:=(List.getElem?_eq_some_iff.1 hg).2;simp at this;rw[<-this];rfl
 refine Out.pure (u:= .int .u8 b.toNat) R ?_ (by simp[cC]) hs;simp[execOp,ho,hb,GW,Instr.index,run_underlying hu,asIntOf,h0,hg']
theorem Xc {args:Array Operand} {jP:Array TypeId} {x:Operand} {m:Nat} (ho:o.op= .call ⟨.builtin .len,args,jP⟩) (ha:args.toList=[x]) {t:TypeId} (ht:jP[0]?=some t)
  (hu:((∃e,X.P.underlying t=some (.slice e))/\(X.ti t).isStr=false)\/(X.P.underlying t=some .string/\(X.ti t).isStr=true)) (R:Rel w I σ S.h) (F:ir w I σ S.f a) (hx:mn o)
  (iZ:(S.ev x).isStr=(X.ti t).isStr) (hl:Bm (S.ev x)=some m) (hs:S1=S.set o.dst (.int .i64 m)):Out X o a w I σ S S1:=by
 have wI:args= #[x]:=by rw[<-ha]
 have h1:cC w I σ (S.ev x) (a.eval x):=dO (S:=S) F (hx x (by simp[ho,Op.operands,Call.operands,wI]));refine Out.pure (u:= .int .i64 m) R ?_ (by simp[cC]) hs;have jt:(Builtin.len_ jP o.type #[a.eval x]).run X.P w= .ok (.int .i64 m) w:=by
  rcases hu with⟨⟨e,hu⟩,hn⟩|⟨hu,hn⟩
  ·unfold Bm at hl;split at hl
   ·rename_i c es he;rw[he]at h1;simp only[cC]at h1;obtain⟨ad,cap,hv,_⟩:=h1;simp only[au]at hl;subst hl;simp[Builtin.len_,ht,hv,run_underlying hu,goInt]
   ·rename_i id s l he;rw[he]at h1;simp only[cC]at h1;obtain⟨ad,cap,hv,_⟩:=h1;simp only[au]at hl;subst hl;simp[Builtin.len_,ht,hv,run_underlying hu,goInt]
   ·rename_i s he;rw[he,hn]at iZ;cases iZ
   ·cases hl
  ·cases he:S.ev x with
   |str s=>
    rw[he]at h1 hl;obtain⟨bs,hb,rfl⟩:=pC h1;simp only[Bm,au]at hl;subst hl;have:bs.data.toList.length=bs.size:=Array.length_toList;rw[this];simp[Builtin.len_,ht,hb,run_underlying hu,goInt]
   |_=>rw[he,hn]at iZ;cases iZ
 simp[execOp,ho,wI,resolve,invoke,builtin,jt]
theorem uw{d m q:Nat}{v:Option V}(h:Q7 d v m=some q):(v=none/\q=d)\/ ∃k n,v=some (.int k n)/\0<=n/\n<=m/\q=n.toNat:=by
 unfold Q7 at h;split at h
 ·simp only[au]at h;exact .inl ⟨rfl,h.symm⟩
 ·rename_i k n;split at h
  ·rename_i hn;simp only[au]at h;exact .inr ⟨k,n,rfl,hn.1,hn.2,h.symm⟩
  ·cases h
 ·cases h
theorem wJ {P:Program} {Z8:Bool} {lo hi:Option V} {ulo uhi:Option Value} {n cap l h:Nat} (hb:bounds lo hi n=some (l,h)) (hn:n<=cap) (w:World)
  (hlo: ∀v,lo=some v-> ∃u,ulo=some u/\cC w I σ v u) (Xf:lo=none->ulo=none) (hhi: ∀v,hi=some v-> ∃u,uhi=some u/\cC w I σ v u) (aro:hi=none->uhi=none):
  (Instr.sliceBounds Z8 n cap ulo uhi none).run P w= .ok (l,h,cap) w/\l<=h/\h<=n:=by
 unfold bounds at hb;cases h1:Q7 n hi n with
 |none=>simp[h1]at hb
 |some q=>
  simp only[h1]at hb;cases h2:Q7 0 lo q with
  |none=>simp[h2]at hb
  |some p=>
   simp only[h2,au,aF]at hb;obtain⟨rfl,rfl⟩:=hb;rcases uw h1 with⟨rfl,rfl⟩|⟨k,m,rfl,ha,vp,rfl⟩
   ·rw[aro rfl];rcases uw h2 with⟨rfl,rfl⟩|⟨k,m,rfl,ha,vp,rfl⟩
    ·rw[Xf rfl];exact⟨by simp[Instr.sliceBounds],by omega,by omega⟩
    ·obtain⟨u,rfl,hr⟩:=hlo _ rfl;rw[fl hr];exact⟨by simp[Instr.sliceBounds,Instr.sliceBound,asIntOf,ha,vp],by omega,by omega⟩
   ·obtain⟨u,rfl,hr⟩:=hhi _ rfl;rw[fl hr];have hc:m<=(cap:Int):=by omega
    rcases uw h2 with⟨rfl,rfl⟩|⟨k',m',rfl,GQ,NQ,rfl⟩
    ·rw[Xf rfl];exact⟨by simp[Instr.sliceBounds,Instr.sliceBound,asIntOf,ha,hc],by omega,by omega⟩
    ·obtain⟨u,rfl,hr⟩:=hlo _ rfl;rw[fl hr];have hb3:m'<=max m 0:=by omega
     exact⟨by simp[Instr.sliceBounds,Instr.sliceBound,asIntOf,ha,hc,GQ,hb3],by omega,by omega⟩
theorem zS {P:Program} {Z8:Bool} {lo hi:Option V} {k1 k2:IntKind} {q:Int} {ulo:Option Value} {n cap l h:Nat} (hb:bounds lo hi n=some (l,h)) (hh:hi=some (.int k2 q)) (hn:n<=cap) (w:World)
  (hlo: ∀v,lo=some v-> ∃u,ulo=some u/\cC w I σ v u) (Xf:lo=none->ulo=none):
  (Instr.sliceBounds Z8 n cap ulo (some (.int k2 q)) (some (.int k1 q))).run P w= .ok (l,h,h) w/\l<=h/\h<=n:=by
 unfold bounds at hb;cases h1:Q7 n hi n with
 |none=>simp[h1]at hb
 |some z=>
  simp only[h1]at hb;cases h2:Q7 0 lo z with
  |none=>simp[h2]at hb
  |some p=>
   simp only[h2,au,aF]at hb;obtain⟨rfl,rfl⟩:=hb;rcases uw h1 with⟨h0,_⟩|⟨k,m,h0,ha,vp,rfl⟩
   ·rw[hh]at h0;cases h0
   ·rw[hh]at h0;simp only[au,V.int.injEq]at h0;obtain⟨rfl,rfl⟩:=h0;have hc:q<=(cap:Int):=by omega
    have hq:q<=max q 0:=by omega
    rcases uw h2 with⟨rfl,rfl⟩|⟨k',m',rfl,GQ,NQ,rfl⟩
    ·rw[Xf rfl];exact⟨by simp[Instr.sliceBounds,Instr.sliceBound,asIntOf,ha,hc,hq],by omega,by omega⟩
    ·obtain⟨u,rfl,hr⟩:=hlo _ rfl;rw[fl hr];have hb3:m'<=max q 0:=by omega
     exact⟨by simp[Instr.sliceBounds,Instr.sliceBound,asIntOf,ha,hc,hq,GQ,hb3],by omega,by omega⟩
theorem Rj{c:Bool}{es:List V}{u:Value}{kk l h m:Nat}(h1:cC w I σ (.sl c es) u)(kn:es.all (fun e=>e.cells.length==kk)=true)(hlh:l<=h)(hhn:h<=es.length)(c':Bool)(hm:h<=m)(wm:c'=true->m=h):
  ∃ad cap,u= .slice ad es.length cap/\es.length<=cap/\(m<=cap->cC w I σ (.sl c' ((es.take h).drop l)) (.slice (if m=l then ad else ad.map (·.add (l*kk))) (h-l) (m-l))):=by
 simp only[cC]at h1;obtain⟨ad,cap,pW,hle,hmx,_,hr⟩:=h1;refine⟨ad,cap,pW,hle,fun Xg=> ?_⟩;simp only[cC];have hlen:((es.take h).drop l).length=h-l:=by simp;omega
 refine⟨_,_,by rw[hlen],by omega,by omega,fun hc=>by have:=wm hc;omega,?_⟩;by_cases he:h=l
 ·left;subst he;simp
 ·right;have iK:es≠ []:=by intro h0;subst h0;simp at hhn;omega
  rcases hr with hr|⟨b,of,k,rfl,hI,dV⟩
  ·exact absurd hr iK
  ·have hk:k=kk:=by
    cases es with
    |nil=>exact absurd rfl iK
    |cons e es=>
     have:=(dV.get (i:=0) (e:=e) (by simp)).1;have h2:=List.all_eq_true.1 kn e (by simp);simp at h2;omega
   subst hk;have tM:=dV.Mr l (h-l);refine⟨b,of+l*k,k,?_,hI,by rw[List.drop_take];exact tM⟩;rw[if_neg (by omega)];simp[n9]
theorem pD{S:St}{a:Act}{o:Oper}(F:ir w I σ S.f a)(hx:mn o)(q:Option Operand)(hq: ∀y,q=some y->y∈o.op.operands.toList):
  (∀v,q.map S.ev=some v-> ∃u,q.map a.eval=some u/\cC w I σ v u)/\(q.map S.ev=none->q.map a.eval=none):=by
 cases q with
 |none=>simp
 |some y=>
  refine⟨fun v hv=>⟨a.eval y,rfl,?_⟩,by simp⟩;simp at hv;subst hv;exact dO (S:=S) F (hx y (hq y rfl))
theorem Fe {t:TypeId} {x:Operand} {lo hi:Option Operand} (ho:o.op= .slice t x lo hi none) (R:Rel w I σ S.h) (F:ir w I σ S.f a) (hx:mn o)
  (hu:X.P.underlying t=some (.slice (X.ti t).elem)) (T:kP X.P (X.ti t).elem (X.ti (X.ti t).elem)) {c:Bool} {es:List V} {l h:Nat} (he:S.ev x= .sl c es)
  (kn:es.all (fun e=>e.cells.length==(X.ti (X.ti t).elem).size)=true) (hb:bounds (lo.map S.ev) (hi.map S.ev) es.length=some (l,h)) (hs:S1=S.set o.dst (.sl false ((es.take h).drop l))):Out X o a w I σ S S1:=by
 have h1:cC w I σ (S.ev x) (a.eval x):=dO (S:=S) F (hx x (by simp[ho,Op.operands]));have Mu:=pD F hx lo (by intro y hy;subst hy;simp[ho,Op.operands]);have QD:=pD F hx hi (by intro y hy;subst hy;simp[ho,Op.operands]);rw[he]at h1;have AO: ∃ad cap,a.eval x= .slice ad es.length cap/\es.length<=cap:=by
  simp only[cC]at h1;obtain⟨ad,cap,e1,e2,_⟩:=h1;exact⟨ad,cap,e1,e2⟩
 obtain⟨ad,cap,pW,hle⟩:=AO;have Bz:=wJ (Z8:=true) (P:=X.P) hb hle w Mu.1 Mu.2 QD.1 QD.2;obtain⟨ad',adp,e1,e2,e3⟩:=Rj h1 kn Bz.2.1 Bz.2.2 false (m:=cap) (by omega) (by simp);rw[pW]at e1;simp at e1;obtain⟨rfl,rfl⟩:=e1;refine Out.pure (u:=_) R ?_ (e3 (Nat.le_refl _)) hs;simp[execOp,ho,pW,Instr.sliceAt,Instr.slice,run_underlying hu,Bz.1,run_sizeOf T]
theorem Dk {t:TypeId} {x m:Operand} {lo hi:Option Operand} (ho:o.op= .slice t x lo hi (some m)) (R:Rel w I σ S.h) (F:ir w I σ S.f a) (hx:mn o)
  (hu:X.P.underlying t=some (.slice (X.ti t).elem)) (T:kP X.P (X.ti t).elem (X.ti (X.ti t).elem)) {c:Bool} {es:List V} {l h:Nat} {k1 k2:IntKind} {q:Int} (he:S.ev x= .sl c es)
  (kn:es.all (fun e=>e.cells.length==(X.ti (X.ti t).elem).size)=true) (hm:S.ev m= .int k1 q) (hh:hi.map S.ev=some (.int k2 q)) (hb:bounds (lo.map S.ev) (hi.map S.ev) es.length=some (l,h))
  (hs:S1=S.set o.dst (.sl true ((es.take h).drop l))):Out X o a w I σ S S1:=by
 have h1:cC w I σ (S.ev x) (a.eval x):=dO (S:=S) F (hx x (by simp[ho,Op.operands]));have h2:cC w I σ (S.ev m) (a.eval m):=dO (S:=S) F (hx m (by simp[ho,Op.operands]));have Mu:=pD F hx lo (by intro y hy;subst hy;simp[ho,Op.operands]);have QD:=pD F hx hi (by intro y hy;subst hy;simp[ho,Op.operands]);rw[he]at h1;rw[hm]at h2;have tO:=fl h2;obtain⟨uh,NR,NS⟩:=QD.1 _ hh;have Rk:=fl NS;subst Rk;have AO: ∃ad cap,a.eval x= .slice ad es.length cap/\es.length<=cap:=by
  simp only[cC]at h1;obtain⟨ad,cap,e1,e2,_⟩:=h1;exact⟨ad,cap,e1,e2⟩
 obtain⟨ad,cap,pW,hle⟩:=AO;have Bz:=zS (Z8:=true) (P:=X.P) (k1:=k1) (k2:=k2) (q:=q) hb hh hle w Mu.1 Mu.2;obtain⟨ad',adp,e1,e2,e3⟩:=Rj h1 kn Bz.2.1 Bz.2.2 true (m:=h) (Nat.le_refl _) (by simp);rw[pW]at e1;simp at e1;obtain⟨rfl,rfl⟩:=e1;refine Out.pure (u:=_) R ?_ (e3 (by omega)) hs;simp[execOp,ho,pW,Instr.sliceAt,Instr.slice,run_underlying hu,tO,NR,Bz.1,run_sizeOf T]
theorem Mv{h:aY}(R:Rel w I σ h){id s n:Nat}{u:Value}{kk l hh m:Nat}{ob:Ob}(h1:cC w I σ (.bU id s n) u)(ea:h id=some ob)(hk:ob.k=kk)(hlh:l<=hh)(hhn:hh<=n)(hm:hh<=m):
  ∃ad cap,u= .slice ad n cap/\n<=cap/\(m<=cap->cC w I σ (.bU id (s+l) (hh-l)) (.slice (if m=l then ad else ad.map (·.add (l*kk))) (hh-l) (m-l))):=by
 simp only[cC]at h1;obtain⟨ad,cap,pW,hle,hmx,hr⟩:=h1;refine⟨ad,cap,pW,hle,fun Xg=> ?_⟩;simp only[cC];refine⟨_,_,rfl,by omega,by omega,?_⟩;by_cases he:m=l
 ·left;omega
 ·right;rcases hr with hr|⟨b,of,k,c,el,fz,iT,rfl,hb,mM⟩
  ·omega
  ·have vr:k=ob.k:=by
    rcases R.obj id ob ea with⟨_,hn⟩|⟨b',o',c',Mp,ln,_⟩
    ·rw[hn]at iT;cases iT
    ·rw[ln]at iT;simp at iT;exact iT.2.2.symm
   refine⟨b,of,k,c,el,fz,iT,?_,hb,?_⟩
   ·rw[if_neg he,<-hk,<-vr];simp[n9,Nat.add_mul,Nat.add_assoc]
   ·have:(s+l+(m-l))*k<=(s+cap)*k:=Nat.mul_le_mul_right _ (by omega);omega
theorem Dl {t:TypeId} {x:Operand} {lo hi:Option Operand} (ho:o.op= .slice t x lo hi none) (R:Rel w I σ S.h) (F:ir w I σ S.f a) (hx:mn o)
  (hu:X.P.underlying t=some (.slice (X.ti t).elem)) (T:kP X.P (X.ti t).elem (X.ti (X.ti t).elem)) {id s n l h:Nat} {ob:Ob} (he:S.ev x= .bU id s n) (ea:S.h id=some ob) (hk:ob.k=(X.ti (X.ti t).elem).size)
  (hb:bounds (lo.map S.ev) (hi.map S.ev) n=some (l,h)) (hs:S1=S.set o.dst (.bU id (s+l) (h-l))):Out X o a w I σ S S1:=by
 have h1:cC w I σ (S.ev x) (a.eval x):=dO (S:=S) F (hx x (by simp[ho,Op.operands]));have Mu:=pD F hx lo (by intro y hy;subst hy;simp[ho,Op.operands]);have QD:=pD F hx hi (by intro y hy;subst hy;simp[ho,Op.operands]);rw[he]at h1;have AO: ∃ad cap,a.eval x= .slice ad n cap/\n<=cap:=by
  simp only[cC]at h1;obtain⟨ad,cap,e1,e2,_⟩:=h1;exact⟨ad,cap,e1,e2⟩
 obtain⟨ad,cap,pW,hle⟩:=AO;have Bz:=wJ (Z8:=true) (P:=X.P) hb hle w Mu.1 Mu.2 QD.1 QD.2;obtain⟨ad',adp,e1,e2,e3⟩:=Mv R h1 ea hk Bz.2.1 Bz.2.2 (m:=cap) (by omega);rw[pW]at e1;simp at e1;obtain⟨rfl,rfl⟩:=e1;refine Out.pure (u:=_) R ?_ (e3 (Nat.le_refl _)) hs;simp[execOp,ho,pW,Instr.sliceAt,Instr.slice,run_underlying hu,Bz.1,run_sizeOf T]
theorem BA {t:TypeId} {x m:Operand} {lo hi:Option Operand} (ho:o.op= .slice t x lo hi (some m)) (R:Rel w I σ S.h) (F:ir w I σ S.f a) (hx:mn o)
  (hu:X.P.underlying t=some (.slice (X.ti t).elem)) (T:kP X.P (X.ti t).elem (X.ti (X.ti t).elem)) {id s n l h:Nat} {ob:Ob} {k1 k2:IntKind} {q:Int} (he:S.ev x= .bU id s n) (ea:S.h id=some ob) (hk:ob.k=(X.ti (X.ti t).elem).size)
  (hm:S.ev m= .int k1 q) (hh:hi.map S.ev=some (.int k2 q)) (hb:bounds (lo.map S.ev) (hi.map S.ev) n=some (l,h)) (hs:S1=S.set o.dst (.bU id (s+l) (h-l))):Out X o a w I σ S S1:=by
 have h1:cC w I σ (S.ev x) (a.eval x):=dO (S:=S) F (hx x (by simp[ho,Op.operands]));have h2:cC w I σ (S.ev m) (a.eval m):=dO (S:=S) F (hx m (by simp[ho,Op.operands]));have Mu:=pD F hx lo (by intro y hy;subst hy;simp[ho,Op.operands]);have QD:=pD F hx hi (by intro y hy;subst hy;simp[ho,Op.operands]);rw[he]at h1;rw[hm]at h2;have tO:=fl h2;obtain⟨uh,NR,NS⟩:=QD.1 _ hh;have Rk:=fl NS;subst Rk;have AO: ∃ad cap,a.eval x= .slice ad n cap/\n<=cap:=by
  simp only[cC]at h1;obtain⟨ad,cap,e1,e2,_⟩:=h1;exact⟨ad,cap,e1,e2⟩
 obtain⟨ad,cap,pW,hle⟩:=AO;have Bz:=zS (Z8:=true) (P:=X.P) (k1:=k1) (k2:=k2) (q:=q) hb hh hle w Mu.1 Mu.2;obtain⟨ad',adp,e1,e2,e3⟩:=Mv R h1 ea hk Bz.2.1 Bz.2.2 (m:=h) (Nat.le_refl _);rw[pW]at e1;simp at e1;obtain⟨rfl,rfl⟩:=e1;refine Out.pure (u:=_) R ?_ (e3 (by omega)) hs;simp[execOp,ho,pW,Instr.sliceAt,Instr.slice,run_underlying hu,tO,NR,Bz.1,run_sizeOf T]
theorem Dm {t:TypeId} {x:Operand} {lo hi:Option Operand} (ho:o.op= .slice t x lo hi none) (R:Rel w I σ S.h) (F:ir w I σ S.f a) (hx:mn o)
  (hu:X.P.underlying t=some .string) {s:List UInt8} {l h:Nat} (he:S.ev x= .str s) (hb:bounds (lo.map S.ev) (hi.map S.ev) s.length=some (l,h)) (hs:S1=S.set o.dst (.str ((s.take h).drop l))):Out X o a w I σ S S1:=by
 have h1:cC w I σ (S.ev x) (a.eval x):=dO (S:=S) F (hx x (by simp[ho,Op.operands]));have Mu:=pD F hx lo (by intro y hy;subst hy;simp[ho,Op.operands]);have QD:=pD F hx hi (by intro y hy;subst hy;simp[ho,Op.operands]);rw[he]at h1;obtain⟨bs,Z9,rfl⟩:=pC h1;have hl:bs.data.toList.length=bs.size:=Array.length_toList;rw[hl]at hb;have Bz:=wJ (Z8:=false) (P:=X.P) hb (Nat.le_refl _) w Mu.1 Mu.2 QD.1 QD.2;refine Out.pure (u:= .string (bs.extract l h)) R ?_ ?_ hs
 ·simp[execOp,ho,Z9,Instr.sliceAt,Instr.slice,run_underlying hu,Bz.1]
 ·simp only[cC];exact⟨_,rfl,by simp[ByteArray.data_extract,List.extract_eq_take_drop,List.drop_take]⟩
end
end Go.Abs
