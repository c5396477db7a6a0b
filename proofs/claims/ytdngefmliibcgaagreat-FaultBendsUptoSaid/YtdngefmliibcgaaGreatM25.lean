/- Part of a proof: engine A4. -/
import Derived.Test.YtdngefmliibcgaaGreatM00
import Derived.WalkKit
set_option linter.all false
set_option maxRecDepth 20000
set_option maxHeartbeats 20000000
namespace Go.Abs
open Go
abbrev dK:=Nat→Option (Nat×Nat×Nat)
def cC:dK:=fun _=>none
def lV:Bool→Value→Prop
 |true,u=> ∃t p,u= .iface t p
 |false,u=>u= .nilIface
mutual
def aV(w:World)(I:Nat→Prop)(σ:dK):V→Value→Prop
 | .int k n,u=>u= .int k n
 | .bool b,u=>u= .bool b
 | .str s,u=> ∃x:ByteArray,u= .string x∧x.data.toList=s
 | .agg cs,u=> ∃us,u= .agg us∧bS w I σ cs us.toList
 | .cg cs,u=> ∃us,u= .tuple us∧cI w I σ cs us.toList
 | .sl c es,u=> ∃a cap,u= .slice a es.length cap∧es.length≤cap∧cap≤maxLen∧(c=true→cap=es.length)∧
   (es=[]∨ ∃b o k,a=some ⟨b,o,none⟩∧I b∧bw w I cC es k b o)
 | .ref cs,u=> ∃b o,u= .pointer (some ⟨b,o,none⟩)∧I b∧ke w I cC cs b o
 | .bJ id s l,u=> ∃a cap,u= .slice a l cap∧l≤cap∧cap≤maxLen∧
   (cap=0∨ ∃b o k c el fz,σ id=some (b,o,k)∧a=some ⟨b,o+s*k,none⟩∧w.heap[b]?=some (.cells c el fz)∧o+(s+cap)*k≤c.size)
 | .ptr id i f,u=> ∃b o k,σ id=some (b,o,k)∧u= .pointer (some ⟨b,o+i*k+f,none⟩)
 | .oM,u=>u= .pointer none
 | .D3 b,u=>lV b u
 | .fn g auj bs,u=> ∃us vs,u= .func (.func g) us vs∧cI w I σ auj us.toList∧cI w I σ bs vs.toList
 | .bad,_=>True
def bS (w:World) (I:Nat→Prop) (σ:dK):List V→List Value→Prop
 | [],us=>us=[]
 |c::cs,us=> ∃u r,us=u::r∧u.oneCell'=true∧aV w I σ c u∧bS w I σ cs r
def cI (w:World) (I:Nat→Prop) (σ:dK):List V→List Value→Prop
 | [],us=>us=[]
 |c::cs,us=> ∃u r,us=u::r∧aV w I σ c u∧cI w I σ cs r
def ke (w:World) (I:Nat→Prop) (σ:dK):List V→Nat→Nat→Prop
 | [],_,_=>True
 |c::cs,b,o=>(∃u,w.cell? ⟨b,o,none⟩=some u∧u.oneCell'=true∧aV w I σ c u)∧ke w I σ cs b (o+1)
def bw (w:World) (I:Nat→Prop) (σ:dK):List V→Nat→Nat→Nat→Prop
 | [],_,_,_=>True
 | .agg cs::es,k,b,o=>cs.length=k∧ke w I σ cs b o∧bw w I σ es k b (o+k)
 |e::es,k,b,o=>k=1∧(∃u,w.cell? ⟨b,o,none⟩=some u∧u.oneCell'=true∧aV w I σ e u)∧bw w I σ es k b (o+k)
end
structure Ext (w:World) (I:Nat→Prop) (σ:dK) (w':World) (I':Nat→Prop) (σ':dK):Prop where
 Cd: ∀b,I b→w'.heap[b]?=w.heap[b]?
 grow: ∀(b:Nat) c el fz,w.heap[b]?=some (Obj.cells c el fz)→ ∃c' WG,w'.heap[b]?=some (Obj.cells c' el WG)∧c'.size=c.size
 imp: ∀b,I b→I' b
 sig: ∀id x,σ id=some x→σ' id=some x
theorem Ext.refl(w:World)(I:Nat→Prop)(σ:dK):Ext w I σ w I σ:=
 ⟨fun _ _=>rfl,fun _ c _ fz h=>⟨c,fz,h,rfl⟩,fun _ h=>h,fun _ _ h=>h⟩
theorem Ext.trans{w w1 w2:World}{I I1 I2:Nat→Prop}{σ σ1 σ2:dK}(h:Ext w I σ w1 I1 σ1)(h':Ext w1 I1 σ1 w2 I2 σ2):Ext w I σ w2 I2 σ2:=
  ⟨fun b hb=>(h'.Cd b (h.imp b hb)).trans (h.Cd b hb),
   fun b c el fz hb=>by
    obtain⟨c1,fz1,h1,e1⟩:=h.grow b c el fz hb;obtain⟨c2,fz2,h2,e2⟩:=h'.grow b c1 el fz1 h1;exact⟨c2,fz2,h2,e2.trans e1⟩,
   fun b hb=>h'.imp b (h.imp b hb),fun id x hx=>h'.sig id x (h.sig id x hx)⟩
theorem Ext.AY{w w':World}{I I':Nat→Prop}{σ σ':dK}(E:Ext w I σ w' I' σ'):Ext w I cC w' I' cC:=
 ⟨E.Cd,E.grow,E.imp,fun _ _ h=>h⟩
section
variable {w w':World} {I I':Nat→Prop}
mutual
theorem aV.ext': ∀(v:V) (u:Value) {σ σ':dK},Ext w I σ w' I' σ'→aV w I σ v u→aV w' I' σ' v u
 | .int k n,u,σ,σ',E,h=>by simpa[aV] using h
 | .bool b,u,σ,σ',E,h=>by simpa[aV] using h
 | .str s,u,σ,σ',E,h=>by simpa[aV] using h
 | .agg cs,u,σ,σ',E,h=>by
  simp only[aV]at h⊢;obtain⟨us,e,hr⟩:=h;exact⟨us,e,bS.ext' cs us.toList E hr⟩
 | .cg cs,u,σ,σ',E,h=>by
  simp only[aV]at h⊢;obtain⟨us,e,hr⟩:=h;exact⟨us,e,cI.ext' cs us.toList E hr⟩
 | .sl c es,u,σ,σ',E,h=>by
  simp only[aV]at h⊢;obtain⟨a,cap,e,h1,h2,h3,h4⟩:=h;refine⟨a,cap,e,h1,h2,h3,?_⟩;rcases h4 with h4|⟨b,o,k,ha,hI,hr⟩
  ·exact .inl h4
  ·exact .inr ⟨b,o,k,ha,E.imp b hI,bw.ext' es k b o E.AY hI hr⟩
 | .ref cs,u,σ,σ',E,h=>by
  simp only[aV]at h⊢;obtain⟨b,o,e,hI,hr⟩:=h;exact⟨b,o,e,E.imp b hI,ke.ext' cs b o E.AY hI hr⟩
 | .bJ id s l,u,σ,σ',E,h=>by
  simp only[aV]at h⊢;obtain⟨a,cap,e,h1,h2,h3⟩:=h;refine⟨a,cap,e,h1,h2,?_⟩;rcases h3 with h3|⟨b,o,k,c,el,fz,hs,ha,hb,hle⟩
  ·exact .inl h3
  ·obtain⟨c',WG,qH,hc⟩:=E.grow b c el fz hb;exact .inr ⟨b,o,k,c',el,WG,E.sig _ _ hs,ha,qH,by omega⟩
 | .ptr id i f,u,σ,σ',E,h=>by
  simp only[aV]at h⊢;obtain⟨b,o,k,hs,e⟩:=h;exact⟨b,o,k,E.sig _ _ hs,e⟩
 | .oM,u,σ,σ',E,h=>by simpa[aV] using h
 | .D3 b,u,σ,σ',E,h=>by simpa only[aV] using h
 | .fn g auj bs,u,σ,σ',E,h=>by
  simp only[aV]at h⊢;obtain⟨us,vs,e,h1,h2⟩:=h;exact⟨us,vs,e,cI.ext' auj us.toList E h1,cI.ext' bs vs.toList E h2⟩
 | .bad,u,σ,σ',E,h=>by simp[aV]
theorem bS.ext': ∀(cs:List V) (us:List Value) {σ σ':dK},Ext w I σ w' I' σ'→bS w I σ cs us→bS w' I' σ' cs us
 | [],us,σ,σ',E,h=>by simpa[bS] using h
 |c::cs,us,σ,σ',E,h=>by
  simp only[bS]at h⊢;obtain⟨u,r,e,h1,h2,h3⟩:=h;exact⟨u,r,e,h1,aV.ext' c u E h2,bS.ext' cs r E h3⟩
theorem cI.ext': ∀(cs:List V) (us:List Value) {σ σ':dK},Ext w I σ w' I' σ'→cI w I σ cs us→cI w' I' σ' cs us
 | [],us,σ,σ',E,h=>by simpa[cI] using h
 |c::cs,us,σ,σ',E,h=>by
  simp only[cI]at h⊢;obtain⟨u,r,e,h2,h3⟩:=h;exact⟨u,r,e,aV.ext' c u E h2,cI.ext' cs r E h3⟩
theorem ke.ext': ∀(cs:List V) (b o:Nat) {σ σ':dK},Ext w I σ w' I' σ'→I b→ke w I σ cs b o→ke w' I' σ' cs b o
 | [],b,o,σ,σ',E,hI,h=>by simp[ke]
 |c::cs,b,o,σ,σ',E,hI,h=>by
  simp only[ke]at h⊢;obtain⟨⟨u,h1,h2,h3⟩,h4⟩:=h;exact⟨⟨u,by rw[World.cell?_of_block (E.Cd b hI)];exact h1,h2,aV.ext' c u E h3⟩,ke.ext' cs b (o+1) E hI h4⟩
theorem bw.ext': ∀(es:List V) (k b o:Nat) {σ σ':dK},Ext w I σ w' I' σ'→I b→bw w I σ es k b o→bw w' I' σ' es k b o
 | [],k,b,o,σ,σ',E,hI,h=>by simp[bw]
 | .agg cs::es,k,b,o,σ,σ',E,hI,h=>by
  simp only[bw]at h⊢;exact⟨h.1,ke.ext' cs b o E hI h.2.1,bw.ext' es k b (o+k) E hI h.2.2⟩
 | .int _ _::es,k,b,o,σ,σ',E,hI,h| .bool _::es,k,b,o,σ,σ',E,hI,h| .str _::es,k,b,o,σ,σ',E,hI,h| .cg _::es,k,b,o,σ,σ',E,hI,h
 | .sl _ _::es,k,b,o,σ,σ',E,hI,h| .ref _::es,k,b,o,σ,σ',E,hI,h| .bJ _ _ _::es,k,b,o,σ,σ',E,hI,h| .ptr _ _ _::es,k,b,o,σ,σ',E,hI,h
 | .oM::es,k,b,o,σ,σ',E,hI,h| .D3 _::es,k,b,o,σ,σ',E,hI,h| .fn _ _ _::es,k,b,o,σ,σ',E,hI,h| .bad::es,k,b,o,σ,σ',E,hI,h=>by
  simp only[bw]at h⊢;obtain⟨hk,⟨u,h1,h2,h3⟩,h4⟩:=h;exact⟨hk,⟨u,by rw[World.cell?_of_block (E.Cd b hI)];exact h1,h2,aV.ext' _ u E h3⟩,bw.ext' es k b (o+k) E hI h4⟩
end
theorem pX: ∀l:List V,(cG l).length=l.length
 | []=>rfl
 |c::cs=>by simp[cG,pX cs]
mutual
theorem aV.iQ: ∀(v:V) (u:Value) {σ:dK},aV w I σ v u→aV w I σ v.fo u
 | .int k n,u,σ,h=>h
 | .bool b,u,σ,h=>h
 | .str s,u,σ,h=>h
 | .agg cs,u,σ,h=>by
  simp only[aV,V.fo]at h⊢;obtain⟨us,e,hr⟩:=h;exact⟨us,e,bS.iQ cs us.toList hr⟩
 | .cg cs,u,σ,h=>by
  simp only[aV,V.fo]at h⊢;obtain⟨us,e,hr⟩:=h;exact⟨us,e,cI.iQ cs us.toList hr⟩
 | .sl c es,u,σ,h=>by
  simp only[aV,V.fo]at h⊢;obtain⟨a,cap,e,h1,h2,h3,h4⟩:=h;rw[pX];refine⟨a,cap,e,h1,h2,(fun hh=>by cases hh),?_⟩;rcases h4 with h4|⟨b,o,k,ha,hI,hr⟩
  ·subst h4;exact .inl rfl
  ·exact .inr ⟨b,o,k,ha,hI,bw.iQ es k b o hr⟩
 | .ref cs,u,σ,h=>h
 | .bJ id s l,u,σ,h=>h
 | .ptr id i f,u,σ,h=>h
 | .oM,u,σ,h=>h
 | .D3 _,u,σ,h=>h
 | .fn g auj bs,u,σ,h=>h
 | .bad,u,σ,h=>h
theorem bS.iQ: ∀(cs:List V) (us:List Value) {σ:dK},bS w I σ cs us→bS w I σ (cG cs) us
 | [],us,σ,h=>h
 |c::cs,us,σ,h=>by
  simp only[bS,cG]at h⊢;obtain⟨u,r,e,h1,h2,h3⟩:=h;exact⟨u,r,e,h1,aV.iQ c u h2,bS.iQ cs r h3⟩
theorem cI.iQ: ∀(cs:List V) (us:List Value) {σ:dK},cI w I σ cs us→cI w I σ (cG cs) us
 | [],us,σ,h=>h
 |c::cs,us,σ,h=>by
  simp only[cI,cG]at h⊢;obtain⟨u,r,e,h2,h3⟩:=h;exact⟨u,r,e,aV.iQ c u h2,cI.iQ cs r h3⟩
theorem ke.iQ: ∀(cs:List V) (b o:Nat) {σ:dK},ke w I σ cs b o→ke w I σ (cG cs) b o
 | [],b,o,σ,h=>h
 |c::cs,b,o,σ,h=>by
  simp only[ke,cG]at h⊢;obtain⟨⟨u,h1,h2,h3⟩,h4⟩:=h;exact⟨⟨u,h1,h2,aV.iQ c u h3⟩,ke.iQ cs b (o+1) h4⟩
theorem bw.iQ: ∀(es:List V) (k b o:Nat) {σ:dK},bw w I σ es k b o→bw w I σ (cG es) k b o
 | [],k,b,o,σ,h=>h
 | .agg cs::es,k,b,o,σ,h=>by
  simp only[bw,cG,V.fo]at h⊢;exact⟨by rw[pX];exact h.1,ke.iQ cs b o h.2.1,bw.iQ es k b (o+k) h.2.2⟩
 | .sl c cs::es,k,b,o,σ,h=>by
  simp only[bw,cG]at h⊢;obtain⟨hk,⟨u,h1,h2,h3⟩,h4⟩:=h;have:=aV.iQ (.sl c cs) u h3;simp only[V.fo,bw]at this⊢;exact⟨hk,⟨u,h1,h2,this⟩,bw.iQ es k b (o+k) h4⟩
 | .cg cs::es,k,b,o,σ,h=>by
  simp only[bw,cG]at h⊢;obtain⟨hk,⟨u,h1,h2,h3⟩,h4⟩:=h;have:=aV.iQ (.cg cs) u h3;simp only[V.fo,bw]at this⊢;exact⟨hk,⟨u,h1,h2,this⟩,bw.iQ es k b (o+k) h4⟩
 | .int _ _::es,k,b,o,σ,h| .bool _::es,k,b,o,σ,h| .str _::es,k,b,o,σ,h
 | .ref _::es,k,b,o,σ,h| .bJ _ _ _::es,k,b,o,σ,h| .ptr _ _ _::es,k,b,o,σ,h
 | .oM::es,k,b,o,σ,h| .D3 _::es,k,b,o,σ,h| .fn _ _ _::es,k,b,o,σ,h| .bad::es,k,b,o,σ,h=>by
  simp only[bw,cG,V.fo]at h⊢;exact⟨h.1,h.2.1,bw.iQ es k b (o+k) h.2.2⟩
end
theorem aV.fo{σ:dK}{v:V}{u:Value}(h:aV w I σ v u):aV w I σ v.fo u:=aV.iQ v u h
theorem aV.ext{σ σ':dK}(E:Ext w I σ w' I' σ'){v:V}{u:Value}(h:aV w I σ v u):aV w' I' σ' v u:=aV.ext' v u E h
end
def acs:Nat→Option (Obj→Prop):=fun _=>none
def uH(w:World)(I:Nat→Prop)(σ:dK)(cs:List V)(b o:Nat):Prop:=
 ∀j c,cs[j]?=some c→ ∃u,w.cell? ⟨b,o+j,none⟩=some u∧u.oneCell'=true∧aV w I σ c u
section
variable {w w':World} {I I':Nat→Prop} {σ σ':dK}
theorem np: ∀(cs:List V) (b o:Nat),ke w I σ cs b o↔uH w I σ cs b o
 | [],b,o=>by simp[ke,uH]
 |c::cs,b,o=>by
  simp only[ke];rw[np cs b (o+1)];constructor
  ·rintro⟨h1,h2⟩ j x hj;cases j with
   |zero=>simp at hj;subst hj;simpa using h1
   |succ j=>
    have:=h2 j x (by simpa using hj);rwa[show o+1+j=o+(j+1) by omega]at this
  ·intro h;refine⟨by simpa using h 0 c (by simp),fun j x hj=> ?_⟩;have:=h (j+1) x (by simpa using hj);rwa[show o+(j+1)=o+1+j by omega]at this
theorem fp(e:V)(es:List V)(k b o:Nat):bw w I σ (e::es) k b o↔e.cells.length=k∧uH w I σ e.cells b o∧bw w I σ es k b (o+k):=by
 cases e with
 |agg cs=>simp only[bw,V.cells,np]
 |_=>
  simp only[bw,V.cells,←np,ke,List.length_cons,List.length_nil,and_true];constructor<;>rintro⟨h1,h2,h3⟩<;>exact⟨by omega,h2,h3⟩
theorem gM: ∀(es:List V) (k b o:Nat),bw w I σ es k b o↔ ∀i e,es[i]?=some e→e.cells.length=k∧uH w I σ e.cells b (o+i*k)
 | [],k,b,o=>by simp[bw]
 |e::es,k,b,o=>by
  rw[fp,gM es k b (o+k)];constructor
  ·rintro⟨h1,h2,h3⟩ i x hi;cases i with
   |zero=>simp at hi;subst hi;simpa using⟨h1,h2⟩
   |succ i=>
    have:=h3 i x (by simpa using hi);rwa[show o+k+i*k=o+(i+1)*k by rw[Nat.add_mul];omega]at this
  ·intro h;have h0:=h 0 e (by simp);refine⟨h0.1,by simpa using h0.2,fun i x hi=> ?_⟩;have:=h (i+1) x (by simpa using hi);rwa[show o+(i+1)*k=o+k+i*k by rw[Nat.add_mul];omega]at this
theorem ig: ∀(cs:List V) (us:List Value),cI w I σ cs us↔cs.length=us.length∧ ∀(j:Nat) c u,cs[j]?=some c→us[j]?=some u→aV w I σ c u
 | [],us=>by
  simp only[cI];constructor
  ·rintro rfl;simp
  ·rintro⟨h,_⟩;exact List.eq_nil_of_length_eq_zero (by simpa using h.symm)
 |c::cs,us=>by
  simp only[cI];constructor
  ·rintro⟨u,r,rfl,h1,h2⟩;rw[ig cs r]at h2;refine⟨by simp[h2.1],fun j x y hx hy=> ?_⟩;cases j with
   |zero=>simp at hx hy;subst hx;subst hy;exact h1
   |succ j=>exact h2.2 j x y (by simpa using hx) (by simpa using hy)
  ·rintro⟨hl,h⟩;cases us with
   |nil=>simp at hl
   |cons u r=>
    exact⟨u,r,rfl,h 0 c u (by simp) (by simp),(ig cs r).2 ⟨by simpa using hl,fun j x y hx hy=>h (j+1) x y (by simpa using hx) (by simpa using hy)⟩⟩
theorem bH: ∀(cs:List V) (us:List Value),bS w I σ cs us↔cs.length=us.length∧ ∀(j:Nat) c u,cs[j]?=some c→us[j]?=some u→u.oneCell'=true∧aV w I σ c u
 | [],us=>by
  simp only[bS];constructor
  ·rintro rfl;simp
  ·rintro⟨h,_⟩;exact List.eq_nil_of_length_eq_zero (by simpa using h.symm)
 |c::cs,us=>by
  simp only[bS];constructor
  ·rintro⟨u,r,rfl,h0,h1,h2⟩;rw[bH cs r]at h2;refine⟨by simp[h2.1],fun j x y hx hy=> ?_⟩;cases j with
   |zero=>simp at hx hy;subst hx;subst hy;exact⟨h0,h1⟩
   |succ j=>exact h2.2 j x y (by simpa using hx) (by simpa using hy)
  ·rintro⟨hl,h⟩;cases us with
   |nil=>simp at hl
   |cons u r=>
    have:=h 0 c u (by simp) (by simp);exact⟨u,r,rfl,this.1,this.2,(bH cs r).2 ⟨by simpa using hl,fun j x y hx hy=>h (j+1) x y (by simpa using hx) (by simpa using hy)⟩⟩
theorem uH.ext(E:Ext w I σ w' I' σ'){cs:List V}{b o:Nat}(h:uH w I σ cs b o)(hb:w'.heap[b]?=w.heap[b]?):uH w' I' σ' cs b o:=by
 intro j c hj;obtain⟨u,h1,h2,h3⟩:=h j c hj;exact⟨u,by rw[World.cell?_of_block hb];exact h1,h2,h3.ext E⟩
theorem bw.jc(E:Ext w I σ w' I' σ'){es:List V}{k b o:Nat}(h:bw w I σ es k b o)(hb:w'.heap[b]?=w.heap[b]?):bw w' I' σ' es k b o:=by
 rw[gM]at h⊢;intro i e hi;exact⟨(h i e hi).1,(h i e hi).2.ext E hb⟩
end
def gE(bZ:Bool)(σ:dK):dK:=if bZ then σ else cC
theorem Ext.kW{w w':World}{I I':Nat→Prop}{σ σ':dK}(E:Ext w I σ w' I' σ')(bZ:Bool):Ext w I (gE bZ σ) w' I' (gE bZ σ'):=by
 cases bZ
 ·exact E.AY
 ·exact E
theorem Ext.free{w:World}{I:Nat→Prop}{σ:dK}:Ext w I cC w I σ:=
 ⟨fun _ _=>rfl,fun _ c _ fz h=>⟨c,fz,h,rfl⟩,fun _ h=>h,fun id x h=>by cases h⟩
theorem Ext.xd{w:World}{I:Nat→Prop}{σ:dK}(bZ:Bool):Ext w I (gE bZ σ) w I σ:=by
 cases bZ
 ·exact Ext.free
 ·exact .refl w I σ
def fq(w:World)(b:Nat)(c:Array Value)(el:TypeId):Prop:= ∃fz:Nat×Nat,w.heap[b]?=some (Obj.cells c el fz)∧(fz.2≤fz.1∨c.size≤fz.1)
theorem fq.same{w w':World}{b:Nat}{c:Array Value}{el:TypeId}(h:fq w b c el)(hb:w'.heap[b]?=w.heap[b]?):fq w' b c el:=by
 obtain⟨fz,h1,h2⟩:=h;exact⟨fz,by rw[hb];exact h1,h2⟩
theorem fq.zero{w:World}{b:Nat}{c:Array Value}{el:TypeId}(h:w.heap[b]?=some (Obj.cells c el (0,0))):fq w b c el:=⟨(0,0),h,.inl (Nat.le_refl _)⟩
theorem fq.set{w:World}{b:Nat}{c c':Array Value}{el:TypeId}(h:fq w b c el)(nq:c'.size=c.size):fq (w.setRow b c') b c' el:=by
 obtain⟨fz,h1,h2⟩:=h;exact⟨fz,setRow_heap w b c c' el fz h1,by rw[nq];exact h2⟩
theorem fq.free{w:World}{b:Nat}{c:Array Value}{el:TypeId}(h:fq w b c el){j:Nat}(hj:j<c.size):w.frozen? ⟨b,j,none⟩=false:=by
 obtain⟨fz,h1,h2⟩:=h;simp only[World.frozen?,h1];simp;omega
theorem fq.lt{w:World}{b:Nat}{c:Array Value}{el:TypeId}(h:fq w b c el):b<w.heap.size:=by
 obtain⟨fz,h1,_⟩:=h;exact(Array.getElem?_eq_some_iff.1 h1).1
theorem fq.at{w:World}{b:Nat}{c:Array Value}{el:TypeId}(h:fq w b c el): ∃fz,w.heap[b]?=some (Obj.cells c el fz):=by
 obtain⟨fz,h1,_⟩:=h;exact⟨fz,h1⟩
def Ce(w:World)(I:Nat→Prop)(σ:dK)(id:Nat)(ob:Ob):Prop:=
 (ob.es=[]∧σ id=none)∨
 ∃b o c el,σ id=some (b,o,ob.k)∧ ¬I b∧fq w b c el∧o+ob.es.length*ob.k≤c.size∧bw w I (gE ob.bZ σ) ob.es ob.k b o
def dF(σ:dK)(h:aG)(b:Nat):Prop:= ∃id ob o k,h id=some ob∧σ id=some (b,o,k)
def AZ(w:World)(I:Nat→Prop):Prop:= ∀b p,acs b=some p→I b∧ ∃ob,w.heap[b]?=some ob∧p ob
theorem AZ.ext{w w':World}{I I':Nat→Prop}{σ σ':dK}(E:Ext w I σ w' I' σ')(G:AZ w I):AZ w' I':=fun b p hb=>by
 obtain⟨h1,ob,h2,h3⟩:=G b p hb;exact⟨E.imp b h1,ob,by rw[E.Cd b h1];exact h2,h3⟩
theorem AZ.sub{w:World}{I I':Nat→Prop}(G:AZ w I)(h: ∀b,I b→I' b):AZ w I':=fun b p hb=>⟨h b (G b p hb).1,(G b p hb).2⟩
structure Rel (w:World) (I:Nat→Prop) (σ:dK) (h:aG):Prop where
 cT: ∀b,I b→b<w.heap.size
 obj: ∀id ob,h id=some ob→Ce w I σ id ob
 apart: ∀id iI ob ja b o k o' k',h id=some ob→h iI=some ja→σ id=some (b,o,k)→σ iI=some (b,o',k')→id=iI
 sE:AZ w I
section
variable {w w':World} {I I':Nat→Prop} {σ σ':dK} {h h':aG}
theorem Rel.owned(R:Rel w I σ h){b:Nat}(hb:dF σ h b): ¬I b∧ ∃c el,fq w b c el:=by
 obtain⟨id,ob,o,k,h1,h2⟩:=hb;rcases R.obj id ob h1 with⟨_,hn⟩|⟨b',o',c,el,hs,hi,hh,_⟩
 ·rw[hn]at h2;cases h2
 ·rw[hs]at h2;simp at h2;obtain⟨rfl,_⟩:=h2;exact⟨hi,c,el,hh⟩
theorem Rel.bZ (R:Rel w I σ h) (E:Ext w I σ w' I' σ') (hI: ∀b,I' b→b<w'.heap.size)
  (hb: ∀b,dF σ h b→w'.heap[b]?=w.heap[b]?∧ ¬I' b) (hs: ∀id,h id≠none→σ' id=σ id):Rel w' I' σ' h:=by
 refine⟨hI,fun id ob ho=> ?_,fun id iI ob ja b o k o' k' h1 h2 h3 h4=> ?_,R.sE.ext E⟩
 ·have XI:=hs id (by rw[ho];simp);rcases R.obj id ob ho with⟨he,hn⟩|⟨b,o,c,el,eN,hi,hh,hle,hr⟩
  ·exact .inl ⟨he,by rw[XI];exact hn⟩
  ·have:=hb b ⟨id,ob,o,ob.k,ho,eN⟩;exact .inr ⟨b,o,c,el,by rw[XI];exact eN,this.2,hh.same this.1,hle,hr.jc (E.kW _) this.1⟩
 ·rw[hs id (by rw[h1];simp)]at h3;rw[hs iI (by rw[h2];simp)]at h4;exact R.apart id iI ob ja b o k o' k' h1 h2 h3 h4
theorem Rel.sub(R:Rel w I σ h)(hh: ∀id ob,h' id=some ob→h id=some ob):Rel w I σ h':=
 ⟨R.cT,fun id ob ho=>R.obj id ob (hh id ob ho),fun id iI ob ja b o k o' k' h1 h2=>R.apart id iI ob ja b o k o' k' (hh _ _ h1) (hh _ _ h2),R.sE⟩
theorem Rel.kill(R:Rel w I σ h)(id:Nat):Rel w I σ (aS h id none):=
 R.sub fun i ob hi=>by
  unfold aS at hi;split at hi; · cases hi
  ·exact hi
theorem Ext.HQ{n:Nat}{x:Nat×Nat×Nat}(hn:σ n=none):Ext w I σ w I (aS σ n (some x)):=
 ⟨fun _ _=>rfl,fun _ c _ fz h=>⟨c,fz,h,rfl⟩,fun _ h=>h,fun id y hy=>by
  unfold aS;split
  ·rename_i e;subst e;rw[hn]at hy;cases hy
  ·exact hy⟩
theorem Rel.K1 (R:Rel w I σ h) {n b o k:Nat} {es:List V} {bZ:Bool} {c:Array Value} {el:TypeId} (hn:h n=none) (hs:σ n=none)
  (hb:fq w b c el) (hi: ¬I b) (ho: ¬dF σ h b) (hle:o+es.length*k≤c.size)
  (hr:bw w I (gE bZ (aS σ n (some (b,o,k)))) es k b o):Rel w I (aS σ n (some (b,o,k))) (aS h n (some ⟨k,es,bZ⟩)):=by
 have E:Ext w I σ w I (aS σ n (some (b,o,k))):=Ext.HQ hs;have bV: ∀id,h id≠none→aS σ n (some (b,o,k)) id=σ id:=by
  intro id bV;unfold aS;split
  ·rename_i e;subst e;exact absurd hn bV
  ·rfl
 refine⟨R.cT,fun id ob cy=> ?_,fun id iI ob ja b1 o1 k1 o2 k2 h1 h2 h3 h4=> ?_,R.sE⟩
 ·unfold aS at cy;split at cy
  ·rename_i e;subst e;simp at cy;subst cy;exact .inr ⟨b,o,c,el,by simp[aS],hi,hb,hle,hr⟩
  ·rename_i e;have:=bV id (by rw[cy];simp);rcases R.obj id ob cy with⟨he,xe⟩|⟨b',o',c',Eh,eN,nh,hh,wm,tJ⟩
   ·exact .inl ⟨he,by rw[this];exact xe⟩
   ·exact .inr ⟨b',o',c',Eh,by rw[this];exact eN,nh,hh,wm,tJ.jc (E.kW _) rfl⟩
 ·have key: ∀id ob,aS h n (some (⟨k,es,bZ⟩:Ob)) id=some ob→id≠n→h id=some ob:=by
   intro id ob hx eZ;simpa[aS,eZ] using hx
  by_cases e1:id=n
  ·by_cases e2:iI=n
   ·rw[e1,e2]
   ·exfalso;subst e1;have BZ:=key iI ja h2 e2;rw[bV iI (by rw[BZ];simp)]at h4;simp[aS]at h3;obtain⟨rfl,_⟩:=h3;exact ho ⟨iI,ja,o2,k2,BZ,h4⟩
  ·have rQ:=key id ob h1 e1;rw[bV id (by rw[rQ];simp)]at h3;by_cases e2:iI=n
   ·exfalso;subst e2;simp[aS]at h4;obtain⟨rfl,_⟩:=h4;exact ho ⟨id,ob,o1,k1,rQ,h3⟩
   ·have BZ:=key iI ja h2 e2;rw[bV iI (by rw[BZ];simp)]at h4;exact R.apart id iI ob ja b1 o1 k1 o2 k2 rQ BZ h3 h4
theorem Rel.K2(R:Rel w I σ h){n k:Nat}{bZ:Bool}(hn:h n=none)(hs:σ n=none):Rel w I σ (aS h n (some ⟨k,[],bZ⟩)):=by
 refine⟨R.cT,fun id ob cy=> ?_,fun id iI ob ja b o k o' k' h1 h2 h3 h4=> ?_,R.sE⟩
 ·unfold aS at cy;split at cy
  ·rename_i e;subst e;simp at cy;subst cy;exact .inl ⟨rfl,hs⟩
  ·exact R.obj id ob cy
 ·by_cases e1:id=n
  ·subst e1;rw[hs]at h3;cases h3
  ·by_cases e2:iI=n
   ·subst e2;rw[hs]at h4;cases h4
   ·exact R.apart id iI ob ja b o k o' k' (by simpa[aS,e1] using h1) (by simpa[aS,e2] using h2) h3 h4
end
structure Step (w:World) (I:Nat→Prop) (σ:dK) (h:aG) (n:Nat) (w':World) (I':Nat→Prop) (σ':dK) (h':aG) (n':Nat):Prop where
 ext:Ext w I σ w' I' σ'
 rel:Rel w' I' σ' h'
 os:w'.os=w.os
 tape:w'.tape=w.tape
 output:w'.output=w.output
 size:w.heap.size≤w'.heap.size
 frame: ∀b,b<w.heap.size→ ¬dF σ h b→w'.heap[b]?=w.heap[b]?
 own: ∀b,dF σ' h' b→w.heap.size≤b∨dF σ h b
 pn: ∀b,I' b→I b∨w.heap.size≤b∨dF σ h b
 le:n≤n'
 sigs: ∀id,id<n∨n'≤id→σ' id=σ id
 news: ∀id,id<n∨n'≤id→h id=none→h' id=none
section
variable {w w1 w2:World} {I I1 I2:Nat→Prop} {σ σ1 σ2:dK} {h h1 h2:aG} {n n1 n2:Nat}
theorem Step.refl(R:Rel w I σ h)(n:Nat):Step w I σ h n w I σ h n:=
 ⟨.refl w I σ,R,rfl,rfl,rfl,Nat.le_refl _,fun _ _ _=>rfl,fun _ hb=> .inr hb,fun _ hb=> .inl hb,Nat.le_refl _,fun _ _=>rfl,fun _ _ h=>h⟩
theorem Step.trans(s:Step w I σ h n w1 I1 σ1 h1 n1)(s':Step w1 I1 σ1 h1 n1 w2 I2 σ2 h2 n2):Step w I σ h n w2 I2 σ2 h2 n2 where
 ext:=s.ext.trans s'.ext
 rel:=s'.rel
 os:=s'.os.trans s.os
 tape:=s'.tape.trans s.tape
 output:=s'.output.trans s.output
 size:=Nat.le_trans s.size s'.size
 frame:=fun b hb ho=>(s'.frame b (Nat.lt_of_lt_of_le hb s.size) (fun hx=>by
  rcases s.own b hx with hx|hx
  ·omega
  ·exact ho hx)).trans (s.frame b hb ho)
 own:=fun b hb=>by
  rcases s'.own b hb with hx|hx
  ·exact .inl (Nat.le_trans s.size hx)
  ·exact s.own b hx
 pn:=fun b hb=>by
  rcases s'.pn b hb with hx|hx|hx
  ·exact s.pn b hx
  ·exact .inr (.inl (Nat.le_trans s.size hx))
  ·exact .inr (s.own b hx)
 le:=Nat.le_trans s.le s'.le
 sigs:=fun id bV=>by
  have l1:=s.le;have l2:=s'.le;rw[s'.sigs id (by omega),s.sigs id (by omega)]
 news:=fun id bV hn=>by
  have l1:=s.le;have l2:=s'.le;exact s'.news id (by omega) (s.news id (by omega) hn)
end
theorem Rel.write {w:World} {I:Nat→Prop} {σ:dK} {h:aG} (R:Rel w I σ h) {id b o k:Nat} {ob:Ob} {es:List V} {bZ:Bool} {c c':Array Value} {el:TypeId}
  (ho:h id=some ob) (hs:σ id=some (b,o,k)) (hb:fq w b c el) (nq:c'.size=c.size) (hle:o+es.length*k≤c.size)
  (hr:bw (w.setRow b c') I (gE bZ σ) es k b o) (n:Nat):Step w I σ h n (w.setRow b c') I σ (aS h id (some ⟨k,es,bZ⟩)) n:=by
 have jJ:dF σ h b:=⟨id,ob,o,k,ho,hs⟩;have hI: ¬I b:=(R.owned jJ).1;have E:Ext w I σ (w.setRow b c') I σ:=by
  refine⟨fun b' qH=>setRow_other w b b' c' (fun e=>hI (e▸qH)),fun b' c1 el1 fz hc=> ?_,fun _ h=>h,fun _ _ h=>h⟩;by_cases e:b'=b
  ·subst e;obtain⟨fz0,zj,_⟩:=hb;rw[zj]at hc;simp at hc;obtain⟨rfl,rfl,rfl⟩:=hc;exact⟨c',_,setRow_heap w b' c c' el _ zj,nq⟩
  ·exact⟨c1,fz,by rw[setRow_other w b b' c' e];exact hc,rfl⟩
 have key: ∀i x,aS h id (some (⟨k,es,bZ⟩:Ob)) i=some x→i≠id→h i=some x:=by
  intro i x hx eZ;simpa[aS,eZ] using hx
 refine⟨E,⟨fun b' qH=>by simpa using R.cT b' qH,fun i x hx=> ?_,fun i i' x x' b1 o1 k1 o2 k2 h1 h2 h3 h4=> ?_,R.sE.ext E⟩,rfl,rfl,rfl,by simp,fun b' _ sF=>setRow_other w b b' c' (fun e=>sF (e▸jJ)),
  fun b' qH=> .inr ?_,fun _ h=> .inl h,Nat.le_refl _,fun _ _=>rfl,fun i hi hni=>by
   have:i≠id:=fun e=>by rw[e,ho]at hni;cases hni
   simp[aS,this,hni]⟩
 ·by_cases e:i=id
  ·subst e;simp[aS]at hx;subst hx;exact .inr ⟨b,o,c',el,hs,hI,hb.set nq,by rw[nq];exact hle,hr⟩
  ·have Cf:=key i x hx e;rcases R.obj i x Cf with⟨he,xe⟩|⟨b',o',c1,el1,eN,nh,hh,wm,tJ⟩
   ·exact .inl ⟨he,xe⟩
   ·have eZ:b'≠b:=fun e'=>e (R.apart i id x ob b o' x.k o k Cf ho (e'▸eN) hs);have mW:=setRow_other w b b' c' eZ;exact .inr ⟨b',o',c1,el1,eN,nh,hh.same mW,wm,tJ.jc (E.kW _) mW⟩
 ·by_cases e1:i=id
  ·by_cases e2:i'=id
   ·rw[e1,e2]
   ·subst e1;exact R.apart i i' ob x' b1 o1 k1 o2 k2 ho (key i' x' h2 e2) h3 h4
  ·by_cases e2:i'=id
   ·subst e2;exact R.apart i i' x ob b1 o1 k1 o2 k2 (key i x h1 e1) ho h3 h4
   ·exact R.apart i i' x x' b1 o1 k1 o2 k2 (key i x h1 e1) (key i' x' h2 e2) h3 h4
 ·obtain⟨i,x,o1,k1,h1,h2⟩:=qH;by_cases e:i=id
  ·subst e;exact⟨i,ob,o1,k1,ho,h2⟩
  ·exact⟨i,x,o1,k1,key i x h1 e,h2⟩
def Gw:V→Value→Bool
 | .int k n,.int k' n'=>k==k'&&n==n'
 | .bool b,.bool b'=>b==b'
 | .str [],.string s=>s.data.toList.isEmpty
 | .sl true [],.slice none 0 0=>true
 | .oM,.pointer none=>true
 | .D3 false,.nilIface=>true
 | .bad,u=>u.oneCell'
 |_,_=>false
def uO:List V→List Value→Bool
 | [],[]=>true
 |c::cs,u::us=>Gw c u&&uO cs us
 |_,_=>false
def zV:V→Value→Bool
 | .agg cs,.agg us=>uO cs us.toList
 | .agg _,_=>false
 |v,u=>Gw v u
def sw(P:Program)(x:TI):TypeDesc→Bool
 | .struct fs=>x.agg&&x.pQ==(fs.toList.map fun f=>(f.offset,P.cellsOf f.type))&&x.arr==none&&x.kind==none&&fs.toList.all fun f=>decide (0<P.cellsOf f.type)
 | .array n e=>x.agg&&x.arr==some n&&x.elem==e&&x.kind==none&&x.pQ==[]
 | .slice e=> !x.agg&&x.elem==e&&x.arr==none&&x.kind==none&&x.pQ==[]
 | .int k=> !x.agg&&x.kind==some k&&x.arr==none&&x.pQ==[]
 |_=> !x.agg&&x.kind==none&&x.arr==none&&x.pQ==[]
def tiB(P:Program)(t:TypeId)(x:TI):Bool:=
 match P.info? t,P.underlying t with
 |some i,some d=>i.size==x.size&&i.bytes==x.bytes&&decide (0<x.size)&&sw P x d&& (match i.zero with
  |some z=>zV x.zero z&&x.zero.cells.length==x.size&&x.zero.fits x.size
  |none=>false)
 |_,_=>false
structure gX (P:Program) (t:TypeId) (x:TI):Prop where
 info: ∃i z,P.info? t=some i∧i.size=x.size∧i.bytes=x.bytes∧i.zero=some z∧zV x.zero z=true
 pos:0<x.size
 WH: ∃d,P.underlying t=some d∧sw P x d=true
 K3:x.zero.cells.length=x.size
 PQ:x.zero.fits x.size=true
theorem acx{P:Program}{t:TypeId}{x:TI}(h:tiB P t x=true):gX P t x:=by
 unfold tiB at h;split at h
 ·rename_i i d hi hd;cases hz:i.zero with
  |none=>simp[hz]at h
  |some z=>
   simp only[hz,Bool.and_eq_true,beq_iff_eq,decide_eq_true_eq]at h;obtain⟨⟨⟨⟨h1,h2⟩,h3⟩,h4⟩,⟨h5,h6⟩,h7⟩:=h;exact⟨⟨i,z,hi,h1,h2,hz,h5⟩,h3,⟨d,hd,h4⟩,h6,h7⟩
 ·cases h
section
variable {w:World} {I:Nat→Prop} {σ:dK}
theorem zW{c:V}{u:Value}(h:Gw c u=true):u.oneCell'=true∧aV w I σ c u:=by
 unfold Gw at h;split at h
 ·simp only[Bool.and_eq_true,beq_iff_eq]at h;obtain⟨rfl,rfl⟩:=h;exact⟨rfl,by simp[aV]⟩
 ·simp only[beq_iff_eq]at h;subst h;exact⟨rfl,by simp[aV]⟩
 ·rename_i s;exact⟨rfl,by simp only[aV];exact⟨s,rfl,List.isEmpty_iff.1 h⟩⟩
 ·exact⟨rfl,by simp only[aV];exact⟨none,0,rfl,Nat.le_refl _,Nat.zero_le _,fun _=>rfl,.inl (by simp)⟩⟩
 ·exact⟨rfl,by simp[aV]⟩
 ·exact⟨rfl,by simp[aV,lV]⟩
 ·exact⟨h,by simp[aV]⟩
 ·cases h
theorem xf: ∀{cs:List V} {us:List Value},uO cs us=true→bS w I σ cs us
 | [],[],_=>by simp[bS]
 |c::cs,u::us,h=>by
  simp only[uO,Bool.and_eq_true]at h;have:=zW (w:=w) (I:=I) (σ:=σ) h.1;simp only[bS];exact⟨u,us,rfl,this.1,this.2,xf h.2⟩
 | [],_::_,h=>by simp[uO]at h
 |_::_,[],h=>by simp[uO]at h
theorem aV.cells{v:V}{u:Value}{k:Nat}(hr:aV w I σ v u)(hf:v.fits k=true):v.cells.length=k∧bS w I σ v.cells u.cells.toList:=by
 cases v with
 |agg cs=>
  simp only[aV]at hr;obtain⟨us,rfl,h⟩:=hr;exact⟨by simpa[V.fits,V.cells] using hf,h⟩
 |cg _=>simp[V.fits]at hf
 |bad=>simp[V.fits]at hf
 |D3 b=>
  have hk:k=1:=by simpa[V.fits] using hf
  refine⟨by simp[V.cells,hk],?_⟩;simp only[V.cells,bS];have tJ:=hr;cases b with
  |true=>simp only[aV,lV]at tJ;obtain⟨x,y,rfl⟩:=tJ;exact⟨_,_,rfl,rfl,hr,rfl⟩
  |false=>simp only[aV,lV]at tJ;subst tJ;exact⟨_,_,rfl,rfl,hr,rfl⟩
 |_=>
  have hk:k=1:=by simpa[V.fits] using hf
  refine⟨by simp[V.cells,hk],?_⟩;simp only[V.cells,bS];have tJ:=hr;simp only[aV]at tJ;first
   |(subst tJ;exact⟨_,_,rfl,rfl,hr,rfl⟩)
   |(obtain⟨x,rfl,_⟩:=tJ;exact⟨_,_,rfl,rfl,hr,rfl⟩)
   |(obtain⟨x,y,rfl,_⟩:=tJ;exact⟨_,_,rfl,rfl,hr,rfl⟩)
   |(obtain⟨x,y,z,_,rfl⟩:=tJ;exact⟨_,_,rfl,rfl,hr,rfl⟩)
theorem Cg{P:Program}{t:TypeId}{x:TI}(T:gX P t x){z:Value}(hz:zV x.zero z=true):aV w I σ x.zero z:=by
 have:=T.PQ;unfold zV at hz;split at hz
 ·rename_i cs us h1;rw[h1];simp only[aV];exact⟨us,rfl,xf hz⟩
 ·cases hz
 ·exact(zW hz).2
end
def dM(w:World)(I:Nat→Prop)(σ:dK)(f:Nat→V)(a:Act):Prop:= ∀t,aV w I σ (f t) (a.tmps.getD t undef)
theorem dM.ext{w w':World}{I I':Nat→Prop}{σ σ':dK}{f:Nat→V}{a:Act}(F:dM w I σ f a)(E:Ext w I σ w' I' σ'):dM w' I' σ' f a:=
 fun t=>(F t).ext E
theorem dM.put{w:World}{I:Nat→Prop}{σ:dK}{f:Nat→V}{a:Act}(F:dM w I σ f a){v:V}{u:Value}(hr:aV w I σ v u)(d:Nat)(hd:d<a.tmps.size):
  dM w I σ (aS f d v) (a.put (some d) u):=by
 intro t;unfold aS;simp only[Act.put];by_cases e:t=d
 ·subst e;simp only[if_true];have:(a.tmps.setIfInBounds t u).getD t undef=u:=by simp[Array.getD,hd]
  rw[this];exact hr
 ·simp only[e,if_false];have:(a.tmps.setIfInBounds d u).getD t undef=a.tmps.getD t undef:=by
   simp only[Array.getD,Array.size_setIfInBounds];split
   ·rename_i ht;show(a.tmps.setIfInBounds d u)[t]'_=a.tmps[t];rw[Array.getElem_setIfInBounds_ne];exact Ne.symm e
   ·rfl
  rw[this];exact F t
def K4:Value→Bool
 | .agg cs=>cs.toList.all Value.oneCell'
 |_=>true
def PR:Operand→Bool
 | .const v=>K4 v
 |_=>true
theorem Ch{w:World}{I:Nat→Prop}{σ:dK}(u:Value):aV w I σ (pU u) u:=by
 unfold pU;split
 ·simp[aV]
 ·simp[aV]
 ·simp only[aV];exact⟨_,rfl,rfl⟩
 ·simp[aV]
 ·simp[aV,lV]
 ·simp only[aV];exact⟨none,0,rfl,Nat.le_refl _,Nat.zero_le _,fun _=>rfl,.inl (by simp)⟩
 ·simp[aV]
theorem HS{w:World}{I:Nat→Prop}{σ:dK}{u:Value}(h:K4 u=true):aV w I σ (pj u) u:=by
 unfold pj;split
 ·rename_i cs;simp only[aV];refine⟨cs,rfl,?_⟩;rw[bH];refine⟨by simp,fun j c x hc hx=> ?_⟩;rw[List.getElem?_map,hx]at hc;simp at hc;subst hc;exact⟨List.all_eq_true.1 h x (List.mem_of_getElem? hx),Ch x⟩
 ·exact Ch u
theorem cj{w:World}{I:Nat→Prop}{σ:dK}{S:St}{a:Act}(F:dM w I σ S.f a){x:Operand}(hx:PR x=true):aV w I σ (S.ev x) (a.eval x):=by
 cases x with
 |tmp t=>exact F t
 |const v=>exact HS hx
 |global g=>simp[St.ev,aV]
 |func g=>
  simp only[St.ev,Act.eval,aV];exact⟨#[],#[],rfl,by simp[cI],by simp[cI]⟩
theorem rR{P:Program}{t:TypeId}{x:TI}(T:gX P t x)(w:World):(isAgg t).run P w= .ok x.agg w:=by
 obtain⟨d,hd,hb⟩:=T.WH;unfold isAgg;rw[Sem.run_bind,run_underlying hd];cases d<;>simp_all [sw]
theorem run_sizeOf{P:Program}{t:TypeId}{x:TI}(T:gX P t x)(w:World):(sizeOf t).run P w= .ok x.size w:=by
 obtain⟨i,z,hi,hs,_⟩:=T.info;simp[sizeOf,typeInfo,hi,hs]
theorem kG(b o j:Nat):(⟨b,o,none⟩:Addr).add j=⟨b,o+j,none⟩:=by
 unfold Addr.add;split
 ·subst_vars;rfl
 ·rfl
theorem uH.XJ{w:World}{I:Nat→Prop}{σ:dK}{cs:List V}{b o:Nat}(h:uH w I σ cs b o):
  ∃us:List Value,us.length=cs.length∧(∀j u,us[j]?=some u→w.cell? ⟨b,o+j,none⟩=some u)∧bS w I σ cs us:=by
 induction cs generalizing o with
 |nil=>exact⟨[],rfl,by simp,by simp[bS]⟩
 |cons c cs ih=>
  obtain⟨u,h1,h2,h3⟩:=h 0 c (by simp);obtain⟨us,hl,hu,hr⟩:=ih (o:=o+1) (fun j x hj=>by
   have:=h (j+1) x (by simpa using hj);rwa[show o+(j+1)=o+1+j by omega]at this)
  refine⟨u::us,by simp[hl],fun j x hj=> ?_,by simp only[bS];exact⟨u,us,rfl,h2,h3,hr⟩⟩;cases j with
  |zero=>simp at hj;subst hj;simpa using h1
  |succ j=>
   have:=hu j x (by simpa using hj);rwa[show o+1+j=o+(j+1) by omega]at this
theorem uH.Gx{w:World}{I:Nat→Prop}{σ:dK}{cs:List V}{b o:Nat}(h:uH w I σ cs b o)(f n:Nat):uH w I σ ((cs.drop f).take n) b (o+f):=by
 intro j c hj;rw[List.getElem?_take]at hj;split at hj
 ·rw[List.getElem?_drop]at hj;have:=h (f+j) c hj;rwa[show o+(f+j)=o+f+j by omega]at this
 ·cases hj
theorem xg{P:Program}{t:TypeId}{x:TI}(T:gX P t x){w:World}{I:Nat→Prop}{σ:dK}{cs:List V}{b o f:Nat}(h:uH w I σ cs b o){v:V}(hv:part x cs f=some v):
  ∃u,(loadVar t ⟨b,o+f,none⟩).run P w= .ok u w∧aV w I σ v u:=by
 unfold part at hv;by_cases ha:x.agg=true
 ·rw[if_pos ha]at hv;split at hv
  ·rename_i hle;simp at hv;subst hv;obtain⟨us,hl,hu,hr⟩:=(h.Gx f x.size).XJ;have hlen:us.length=x.size:=by rw[hl];simp;omega
   refine⟨.agg us.toArray,?_,by simp only[aV];exact⟨us.toArray,rfl,by simpa using hr⟩⟩;have PS:=run_loadCells_list (P:=P) w ⟨b,o+f,none⟩ us (fun j u hj=>by rw[kG];exact hu j u hj);rw[hlen]at PS;simp[loadVar,rR T,ha,run_sizeOf T,PS]
  ·cases hv
 ·rw[if_neg ha]at hv;obtain⟨u,h1,h2,h3⟩:=h f v hv;refine⟨u,?_,h3⟩;have Ci:x.agg=false:=by simpa using ha
  simp[loadVar,rR T,Ci,h1]
theorem bS.get{w:World}{I:Nat→Prop}{σ:dK}{cs:List V}{us:List Value}(h:bS w I σ cs us){j:Nat}{c:V}(hc:cs[j]?=some c):
  ∃u,us[j]?=some u∧u.oneCell'=true∧aV w I σ c u:=by
 rw[bH]at h;have hj:j<cs.length:=(List.getElem?_eq_some_iff.1 hc).1;have hu:us[j]?=some (us[j]'(by omega)):=by simp
 exact⟨_,hu,h.2 j c _ hc hu⟩
theorem bS.TV{w:World}{I:Nat→Prop}{σ:dK}{cs:List V}{us:List Value}(h:bS w I σ cs us): ∀u∈us,u.oneCell'=true:=by
 intro u hu;rw[bH]at h;obtain⟨j,hj,rfl⟩:=List.mem_iff_getElem.1 hu;have hc:cs[j]?=some (cs[j]'(by omega)):=by simp
 exact(h.2 j _ us[j] hc (by simp)).1
theorem me: ∀(n:Nat) (cs xs:List V),(gf n cs xs).length=xs.length
 |0,[],xs=>by cases xs<;>simp[gf]
 |0,c::cs,x::xs=>by simp[gf,me 0 cs xs]
 |0,_::_,[]=>by simp[gf]
 |n+1,cs,x::xs=>by simp[gf,me n cs xs]
 |n+1,cs,[]=>by simp[gf]
theorem kH: ∀(n:Nat) (cs xs:List V) (j:Nat),n+cs.length≤xs.length→(gf n cs xs)[j]?=if n≤j∧j<n+cs.length then cs[j-n]? else xs[j]?
 |0,[],xs,j,_=>by
  have: ¬(0≤j∧j<0+0):=by omega
  cases xs<;>simp[gf]
 |0,c::cs,x::xs,j,h=>by
  simp only[gf];cases j with
  |zero=>simp
  |succ j=>
   have:=kH 0 cs xs j (by simp at h⊢;omega);simp only[List.getElem?_cons_succ,this,List.length_cons];by_cases hj:j<cs.length
   ·simp[hj]
   ·simp[hj]
 |0,_::_,[],j,h=>by simp at h
 |n+1,cs,x::xs,j,h=>by
  simp only[gf];cases j with
  |zero=>simp
  |succ j=>
   have:=kH n cs xs j (by simp at h⊢;omega);simp only[List.getElem?_cons_succ,this];by_cases hj:n≤j∧j<n+cs.length
   ·rw[if_pos hj,if_pos (by omega)];congr 1;omega
   ·rw[if_neg hj,if_neg (by omega)]
 |n+1,cs,[],j,h=>by simp at h
theorem HU{e v:V}{f k:Nat}(hk:0<k)(hf:v.fits k=true)(hle:f+k≤e.cells.length):(e.put f v).cells=gf f v.cells e.cells:=by
 cases e with
 |agg xs=>simp[V.put,V.cells]
 |_=>
  simp only[V.cells,List.length_cons,List.length_nil]at hle⊢;have h0:f=0:=by omega
  subst h0;cases v with
  |agg cs=>
   simp[V.fits]at hf;rcases cs with _|⟨c,cs⟩
   ·simp at hf;omega
   ·simp at hf;have:cs=[]:=by apply List.eq_nil_of_length_eq_zero;omega
    subst this;simp[V.put,V.cells,gf]
  |cg _=>simp[V.fits]at hf
  |bad=>simp[V.fits]at hf
  |_=>simp[V.put,V.cells,gf]
theorem Ext.setRow{w:World}{I:Nat→Prop}{σ:dK}{b:Nat}{c c':Array Value}{el:TypeId}(hI: ¬I b)(hb:fq w b c el)(nq:c'.size=c.size):
  Ext w I σ (w.setRow b c') I σ:=by
 refine⟨fun b' qH=>setRow_other w b b' c' (fun e=>hI (e▸qH)),fun b' c1 el1 fz hc=> ?_,fun _ h=>h,fun _ _ h=>h⟩;by_cases e:b'=b
 ·subst e;obtain⟨fz0,zj,_⟩:=hb;rw[zj]at hc;simp at hc;obtain⟨rfl,rfl,rfl⟩:=hc;exact⟨c',_,setRow_heap w b' c c' el _ zj,nq⟩
 ·exact⟨c1,fz,by rw[setRow_other w b b' c' e];exact hc,rfl⟩
def kX(c:Array Value)(p:Nat)(us:List Value):Array Value:=(c.toList.take p++us++c.toList.drop (p+us.length)).toArray
theorem ju{c:Array Value}{p:Nat}{us:List Value}(h:p+us.length≤c.size):(kX c p us).size=c.size:=by
 simp[kX];omega
theorem po{c:Array Value}{p:Nat}{us:List Value}(h:p+us.length≤c.size)(j:Nat):(kX c p us)[j]?=if p≤j∧j<p+us.length then us[j-p]? else c[j]?:=by
 simp only[kX,List.getElem?_toArray];by_cases h1:j<p
 ·rw[if_neg (by omega),List.append_assoc,List.getElem?_append_left (by simp;omega),List.getElem?_take,if_pos h1];simp
 ·by_cases h2:j<p+us.length
  ·rw[if_pos (by omega),List.getElem?_append_left (by simp;omega),List.getElem?_append_right (by simp;omega)];congr 1;simp;omega
  ·rw[if_neg (by omega),List.getElem?_append_right (by simp;omega),List.getElem?_drop];simp only[List.length_append,List.length_take,Array.length_toList];rw[show p+us.length+(j-(min p c.size+us.length))=j by omega];simp
theorem HW{P:Program}{w:World}{b j:Nat}{c:Array Value}{el:TypeId}{v:Value}(h:fq w b c el)(hj:j<c.size)(h1:v.oneCell'=true):
  (store ⟨b,j,none⟩ v).run P w= .ok () (w.setRow b (c.setIfInBounds j v)):=by
 have hf:=h.free hj;obtain⟨fz,hb⟩:=h.at;have e:w.cell? ⟨b,j,none⟩=some c[j]:=by simp[World.cell?,hb,hj]
 rw[run_store P w _ v _ h1,e];simp[hf,setCell_eq_setRow w b j c el fz v hb]
theorem HX{c:Array Value}{p:Nat}{v:Value}{us:List Value}(h:p+(us.length+1)≤c.size):kX (c.setIfInBounds p v) (p+1) us=kX c p (v::us):=by
 apply Array.ext_getElem?;intro j;rw[po (by simp;omega),po (by simpa using h)];by_cases h0:j=p
 ·subst h0;rw[if_neg (by omega),if_pos (by simp),Nat.sub_self,List.getElem?_cons_zero,Array.getElem?_setIfInBounds_self_of_lt (by omega)]
 ·by_cases h2:p+1≤j∧j<p+1+us.length
  ·rw[if_pos h2,if_pos (by simp;omega),show j-p=(j-(p+1))+1 by omega,List.getElem?_cons_succ]
  ·rw[if_neg h2,if_neg (by simp;omega),Array.getElem?_setIfInBounds_ne (by omega)]
theorem pY{P:Program}{b p:Nat}{el:TypeId}: ∀(vs:List Value) (i:Nat) (c:Array Value) (w:World),fq w b c el→p+i+vs.length≤c.size→(∀v∈vs,v.oneCell'=true)→
  (storeCells ⟨b,p,none⟩ vs i).run P w= .ok () (w.setRow b (kX c (p+i) vs))
 | [],i,c,w,h,_,_=>by
  obtain⟨fz,hb⟩:=h.at;have e:kX c (p+i) []=c:=by simp[kX]
  rw[e,setRow_self w b c el fz hb];rfl
 |v::vs,i,c,w,h,hl,h1=>by
  simp only[List.length_cons]at hl;have ha:(⟨b,p,none⟩:Addr).add i=⟨b,p+i,none⟩:=by simp[Addr.add]
  have hs:=HW (P:=P) (v:=v) h (show p+i<c.size by omega) (h1 v (by simp));have ih:=pY (P:=P) (b:=b) (p:=p) vs (i+1) (c.setIfInBounds (p+i) v) (w.setRow b (c.setIfInBounds (p+i) v)) (h.set (by simp)) (by simp;omega) fun x hx=>h1 x (by simp[hx]);rw[←Nat.add_assoc,HX (by omega),setRow_setRow]at ih;simp only[storeCells,Sem.run_bind,ha,hs,Result.andThen_ok,ih]
theorem fq.cell{w:World}{b:Nat}{c:Array Value}{el:TypeId}(h:fq w b c el){j:Nat}:w.cell? ⟨b,j,none⟩=c[j]?:=by
 obtain⟨fz,hb⟩:=h.at;simp[World.cell?,hb]
theorem A0 {P:Program} {t:TypeId} {x:TI} (T:gX P t x) {w:World} {b p:Nat} {c:Array Value} {el:TypeId} (hb:fq w b c el)
  {u:Value} (hu:u.cells.size=x.size) (h1: ∀y∈u.cells.toList,y.oneCell'=true) (hle:p+x.size≤c.size):
  (storeVar t ⟨b,p,none⟩ u).run P w= .ok () (w.setRow b (kX c p u.cells.toList)):=by
 have gr:=pY (P:=P) (b:=b) (p:=p) u.cells.toList 0 c w hb (by simp;omega) h1;simp only[Nat.add_zero]at gr;simp[storeVar,run_sizeOf T,hu,gr]
theorem bw.get{w:World}{I:Nat→Prop}{σ:dK}{es:List V}{k b o i:Nat}{e:V}(h:bw w I σ es k b o)(hi:es[i]?=some e):e.cells.length=k∧uH w I σ e.cells b (o+i*k):=
 (gM es k b o).1 h i e hi
theorem Rel.at{w:World}{I:Nat→Prop}{σ:dK}{h:aG}(R:Rel w I σ h){id i:Nat}{ob:Ob}{e:V}(ho:h id=some ob)(hi:ob.es[i]?=some e):
  ∃b o c el,σ id=some (b,o,ob.k)∧ ¬I b∧fq w b c el∧o+ob.es.length*ob.k≤c.size∧bw w I (gE ob.bZ σ) ob.es ob.k b o:=by
 rcases R.obj id ob ho with⟨he,_⟩|h
 ·rw[he]at hi;cases hi
 ·exact h
theorem Ei{i j k p q:Nat}(hp:p<k)(hq:q<k)(h:i*k+p=j*k+q):i=j:=by
 rcases Nat.lt_trichotomy i j with jw|he|jw
 ·have:(i+1)*k≤j*k:=Nat.mul_le_mul_right k jw;rw[Nat.add_mul]at this;omega
 ·exact he
 ·have:(j+1)*k≤i*k:=Nat.mul_le_mul_right k jw;rw[Nat.add_mul]at this;omega
theorem HY {P:Program} {t:TypeId} {x:TI} (T:gX P t x) {w:World} {I:Nat→Prop} {σ:dK} {h:aG} (R:Rel w I σ h) {id i f:Nat} {ob:Ob} {e v:V} {u:Value}
  (ho:h id=some ob) (hi:ob.es[i]?=some e) (hr:aV w I (gE ob.bZ σ) v u) (hf:v.fits x.size=true) (hle:f+x.size≤e.cells.length) (n:Nat)
  {b o k:Nat} (hs:σ id=some (b,o,k)):
  ∃w',(storeVar t ⟨b,o+i*k+f,none⟩ u).run P w= .ok () w'∧Step w I σ h n w' I σ (aS h id (some {ob with es:=ob.es.set i (e.put f v)})) n:=by
 obtain⟨b',o',c,el,jV,hI,hb,nq,di⟩:=R.at ho hi;obtain⟨fz,zj⟩:=hb.at;rw[hs]at jV;simp only[aa,ax]at jV;obtain⟨rfl,rfl,rfl⟩:=jV;have uI:=di.get hi;have kf:=hr.cells hf;have Kw:i<ob.es.length:=(List.getElem?_eq_some_iff.1 hi).1;have zX:(i+1)*ob.k≤ob.es.length*ob.k:=Nat.mul_le_mul_right _ Kw;rw[Nat.add_mul]at zX;have Kx:u.cells.size=x.size:=by
  have:=(bH _ _).1 kf.2;simp at this;omega
 have nD:o+i*ob.k+f+x.size≤c.size:=by omega
 have eJ:=A0 T (p:=o+i*ob.k+f) hb Kx kf.2.TV nD;have WI:o+i*ob.k+f+u.cells.toList.length≤c.size:=by simp;omega
 refine⟨_,eJ,R.write ho hs hb (ju WI) (by simpa using nq) ?_ n⟩;have E:Ext w I (gE ob.bZ σ) (w.setRow b (kX c (o+i*ob.k+f) u.cells.toList)) I (gE ob.bZ σ):=Ext.setRow hI hb (ju WI);rw[gM];intro j e' hj;rw[List.getElem?_set]at hj;by_cases mN:i=j
 ·subst mN;simp[Kw]at hj;subst hj;have xh:=HU T.pos hf (e:=e) (f:=f) hle;refine⟨by rw[xh,me];exact uI.1,?_⟩;intro q y hq;rw[xh,kH _ _ _ _ (by rw[kf.1];omega)]at hq;rw[cell_setRow_same w b _ c _ el fz zj,po WI];split at hq
  ·rename_i R6;obtain⟨u',h1,h2,h3⟩:=kf.2.get hq;refine⟨u',?_,h2,h3.ext E⟩;rw[if_pos (by simp;rw[kf.1]at R6;omega)];rw[show o+i*ob.k+q-(o+i*ob.k+f)=q-f by omega];exact h1
  ·rename_i R6;obtain⟨u',h1,h2,h3⟩:=uI.2 q y hq;refine⟨u',?_,h2,h3.ext E⟩;rw[if_neg (by simp;rw[kf.1]at R6;omega)];rw[cell_of_row w b _ c el fz zj]at h1;exact h1
 ·rw[if_neg mN]at hj;have Ky:=di.get hj;refine⟨Ky.1,?_⟩;intro q y hq;have hqk:q<ob.k:=by rw[←Ky.1];exact(List.getElem?_eq_some_iff.1 hq).1
  obtain⟨u',h1,h2,h3⟩:=Ky.2 q y hq;refine⟨u',?_,h2,h3.ext E⟩;rw[cell_setRow_same w b _ c _ el fz zj,po WI,if_neg ?_]
  ·rw[cell_of_row w b _ c el fz zj]at h1;exact h1
  ·simp only[Array.length_toList];intro ⟨ha,qH⟩;have jw:o+j*ob.k+q<o+i*ob.k+ob.k:=by omega
   have Pn:o+i*ob.k≤o+j*ob.k+q:=by omega
   apply mN;exact Ei (k:=ob.k) (p:=j*ob.k+q-i*ob.k) (q:=q) (by omega) hqk (by omega)
theorem Ej(w:World)(o:Obj)(b:Nat)(h:b<w.heap.size):(w.alloc o).heap[b]?=w.heap[b]?:=by
 show(w.heap.push o)[b]?=w.heap[b]?;rw[Array.getElem?_push,if_neg (Nat.ne_of_lt h)]
theorem HZ(w:World)(o:Obj):(w.alloc o).heap[w.heap.size]?=some o:=by
 show(w.heap.push o)[w.heap.size]?=some o;simp
theorem Ext.alloc{w:World}{I:Nat→Prop}{σ:dK}(hI: ∀b,I b→b<w.heap.size)(ob:Obj):Ext w I σ (w.alloc ob) I σ:=
 ⟨fun b hb=>Ej w ob b (hI b hb),fun b c el fz h=>⟨c,fz,by rw[Ej w ob b (by have:=(Array.getElem?_eq_some_iff.1 h).1;exact this)];exact h,rfl⟩,fun _ h=>h,fun _ _ h=>h⟩
theorem nE(w:World)(ob:Obj):(w.alloc ob).heap.size=w.heap.size+1:=by
 show(w.heap.push ob).size=_;simp
theorem Rel.alloc{w:World}{I:Nat→Prop}{σ:dK}{h:aG}(R:Rel w I σ h)(ob:Obj):Rel (w.alloc ob) I σ h:=by
 refine R.bZ (Ext.alloc R.cT ob) (fun b hb=>by rw[nE];have:=R.cT b hb;omega) (fun b hb=> ?_) (fun _ _=>rfl);obtain⟨hi,c,el,hh⟩:=R.owned hb;exact⟨Ej w ob b hh.lt,hi⟩
theorem A1 {w:World} {I:Nat→Prop} {σ:dK} {h:aG} (R:Rel w I σ h) {n k:Nat} {es:List V} {bZ:Bool} {el:TypeId} (c:Array Value)
  (hn:h n=none) (hs:σ n=none) (hle:es.length*k≤c.size)
  (hr:bw (w.alloc (.cells c el)) I (gE bZ (aS σ n (some (w.heap.size,0,k)))) es k w.heap.size 0):
  Step w I σ h n (w.alloc (.cells c el)) I (aS σ n (some (w.heap.size,0,k))) (aS h n (some ⟨k,es,bZ⟩)) (n+1):=by
 have sG:=HZ w (.cells c el);have hnI: ¬I w.heap.size:=fun hi=>by have:=R.cT _ hi;omega
 have hnO: ¬dF σ h w.heap.size:=fun ho=>by
  obtain⟨_,c',Eh,hh⟩:=R.owned ho;have:=hh.lt;omega
 have R1:=(R.alloc (.cells c el)).K1 (n:=n) (b:=w.heap.size) (o:=0) (k:=k) (es:=es) (bZ:=bZ) hn hs (fq.zero sG) hnI hnO (by omega) hr;refine⟨(Ext.alloc R.cT _).trans (Ext.HQ hs),R1,rfl,rfl,rfl,by rw[nE];omega,fun b hb _=>Ej w _ b hb,fun b hb=> ?_,fun _ hb=> .inl hb,by omega,fun id bV=>by simp[aS];omega,fun id bV xe=>by simp[aS,xe];omega⟩;obtain⟨id,ob,o,k',h1,h2⟩:=hb;by_cases e:id=n
 ·subst e;simp[aS]at h2;left;omega
 ·right;exact⟨id,ob,o,k',by simpa[aS,e] using h1,by simpa[aS,e] using h2⟩
theorem Gy{w:World}{I:Nat→Prop}{σ:dK}{h:aG}(R:Rel w I σ h){n k:Nat}{v:V}{u:Value}{el:TypeId}(hs:σ n=none)(hr:aV w I σ v u)(hf:v.fits k=true):
  bw (w.alloc (.cells u.cells el)) I (aS σ n (some (w.heap.size,0,k))) [v] k w.heap.size 0:=by
 have hc:=hr.cells hf;rw[fp];refine⟨hc.1,fun j c hj=> ?_,by simp[bw]⟩;obtain⟨u',h1,h2,h3⟩:=hc.2.get hj;refine⟨u',?_,h2,h3.ext ((Ext.alloc R.cT _).trans (Ext.HQ hs))⟩;rw[cell_of_row _ _ _ _ _ _ (HZ w (.cells u.cells el))];simpa using h1
def sliceB(P:Program)(t:TypeId)(x:TI):Bool:=
 match P.underlying t with
 |some (.slice e)=>e==x.elem
 |_=>false
def TW(P:Program)(t:TypeId)(kd:Nat):Bool:=
 match P.underlying t,kd with
 |some (.int _),0=>true
 |some .bool,1=>true
 |some .string,2=>true
 |_,_=>false
def xi(P:Program):Nat→List Field→List Nat→Bool
 |_,[],[]=>true
 |j,f::fs,k::ks=>f.name != "_" &&f.offset==j&&TW P f.type k&&xi P (j+1) fs ks
 |_,_,_=>false
def TX(P:Program)(t:TypeId)(ag:Bool)(pS:List Nat):Bool:=
 match P.underlying t with
 |some (.struct fs)=>ag&& (pS==[]||(!(P.stoodInHeld t)&& !(P.eqGuardType P.depth t)&&xi P 0 fs.toList pS))
 |some .bool=> !ag&&pS==[1]
 |some (.pointer _)=> !ag&&pS==[3]
 |some (.array _ _)=>ag&&pS==[9]
 |some (.interface _)=> !ag&& (pS==[]||pS==[4])
 |_=> !ag&& (pS==[]||pS==[0]||pS==[2])
def tB(X:Env)(t:TypeId):Bool:=tiB X.P t (X.ti t)
def H5(X:Env)(nt:Nat)(o:Oper):Bool:=
 (match o.dst with|some d=>decide (d<nt)|none=>true)&&o.op.operands.toList.all PR&&
 (match o.op with
 | .alloc t| .box t _| .load t _| .fieldAddr t _ _=>tB X t
 | .store t _ _=>tB X t&&o.dst==none
 | .build t _=>tB X t&& ((X.ti t).arr==none||tB X (X.ti t).elem)
 | .buildSlice t n _=>sliceB X.P t (X.ti t)&&tB X (X.ti t).elem&&decide (n*(X.ti (X.ti t).elem).size≤2^24)
 | .makeSlice t _ _=>sliceB X.P t (X.ti t)&&tB X (X.ti t).elem
 | .indexAddr t _ _=>(((X.ti t).arr==none&&sliceB X.P t (X.ti t))||(tB X t&& (X.ti t).arr !=none))&&tB X (X.ti t).elem
 | .index t _ _=>tB X t&& ((X.ti t).arr==none||tB X (X.ti t).elem)&& ((X.ti t).arr !=none||(match X.P.underlying t with|some .string=>true|_=>false))
 | .field t _ f=>tB X o.type&& (match X.P.underlying t with|some (.struct fs)=>(match fs[f]?,(X.ti t).pQ[f]? with|some fd,some (k,_)=>fd.type==o.type&&fd.offset==k|_,_=>false)|_=>false)
 | .convert s d _=>tB X d&& (X.P.underlying s).isSome&& (!(X.ti d).isStr||((match X.P.underlying d with|some .string=>true|_=>false)&& (match X.P.underlying s with|some (.slice e)=>(match X.P.underlying e with|some (.int .u8)=>true|_=>false)|_=>false)))&& ((X.ti d).isStr|| !((X.ti (X.ti d).elem).kind==some .u8)||(X.ti d).kind.isSome||(sliceB X.P d (X.ti d)&&tB X (X.ti d).elem))
 | .binOp .eql t _ y _| .binOp .neq t _ y _=>TX X.P t (X.ti t).agg (X.ti t).pS&& ((X.ti t).pS !=[4]||(match y with| .const _=>true|_=>false))
 | .slice t _ _ _ _=>match X.P.underlying t with|some (.slice e)=> !(X.ti t).isStr&&e==(X.ti t).elem&&tB X e&& (X.ti t).arr==none|some .string=>(X.ti t).isStr&& (X.ti t).arr==none|some (.array n e)=> !(X.ti t).isStr&& (X.ti t).arr==some n&&e==(X.ti t).elem&&tB X e&&decide (n≤1000)|_=>false
 | .call ⟨.builtin .append,args,gq⟩=>args.size==2&& (match gq.toList with
   |t::u::_=>sliceB X.P t (X.ti t)&&tB X (X.ti t).elem&& (match X.P.underlying u with
    |some (.slice _)=>true
    |some .string=>true
    |_=>(X.ti u).kind.isSome)
   |_=>false)
 | .call ⟨.builtin .copy,args,gq⟩=>args.size==2&& (match gq.toList with
   |t::u::_=>sliceB X.P t (X.ti t)&&tB X (X.ti t).elem&& (match X.P.underlying u with
    |some (.slice _)=>true
    |some .string=>true
    |_=>false)
   |_=>false)
 | .call ⟨.builtin .len,args,gq⟩=>args.size==1&& (match gq.toList with
   |t::_=>(match X.P.underlying t with|some (.slice _)=> !(X.ti t).isStr|some .string=>(X.ti t).isStr|_=>false)
   |_=>false)
 |_=>true)
def Out(X:Env)(o:Oper)(a:Act)(w:World)(I:Nat→Prop)(σ:dK)(S S1:St):Prop:=
 ∃nx w' I' σ' u v,(execOp a.eval o).run X.P w= .ok nx w'∧(nx= .value u∨(nx= .skip∧u=undef))∧
  Step w I σ S.h S.n w' I' σ' S1.h S1.n∧S1.f=(S.set o.dst v).f∧aV w' I' σ' v u
section
variable {X:Env} {o:Oper} {a:Act} {w:World} {I:Nat→Prop} {σ:dK} {S S1:St}
theorem ck(S:St)(d:Option Nat)(v:V):(S.set d v).h=S.h:=by cases d<;>rfl
theorem cZ(S:St)(d:Option Nat)(v:V):(S.set d v).n=S.n:=by cases d<;>rfl
theorem lQ(S S':St)(d:Option Nat)(v:V)(h:S'.f=S.f):(S'.set d v).f=(S.set d v).f:=by cases d<;>simp[St.set,h]
theorem Out.pure{u:Value}{v:V}(R:Rel w I σ S.h)(h:(execOp a.eval o).run X.P w= .ok (.value u) w)(hr:aV w I σ v u)(hs:S1=S.set o.dst v):Out X o a w I σ S S1:=by
 subst hs;refine⟨_,w,I,σ,u,v,h,.inl rfl,?_,rfl,hr⟩;rw[ck,cZ];exact Step.refl R _
def jd(o:Oper):Prop:= ∀x∈o.op.operands.toList,PR x=true
theorem dg{k:IntKind}{n:Int}{u:Value}(h:aV w I σ (.int k n) u):u= .int k n:=by simpa[aV] using h
theorem nF{b:Bool}{u:Value}(h:aV w I σ (.bool b) u):u= .bool b:=by simpa[aV] using h
theorem K5 {c x y:Operand} (ho:o.op= .pick c x y) (R:Rel w I σ S.h) (F:dM w I σ S.f a) (hx:jd o) {t:Bool} (hc:S.ev c= .bool t)
  (hs:S1=S.set o.dst (if t then S.ev x else S.ev y)):Out X o a w I σ S S1:=by
 have h1:=cj (S:=S) F (hx c (by simp[ho,Op.operands]));have h2:=cj (S:=S) F (hx x (by simp[ho,Op.operands]));have h3:=cj (S:=S) F (hx y (by simp[ho,Op.operands]));rw[hc]at h1;have hb:=nF h1;refine Out.pure (u:=if t then a.eval x else a.eval y) R ?_ ?_ hs
 ·simp[execOp,ho,hb,asBool]
 ·cases t<;>simp[h2,h3]
theorem Cj{x:Operand}(ho:o.op= .move x∨o.op= .assign x)(R:Rel w I σ S.h)(F:dM w I σ S.f a)(hx:jd o)(hs:S1=S.set o.dst (S.ev x)):Out X o a w I σ S S1:=by
 have h1:aV w I σ (S.ev x) (a.eval x):=cj (S:=S) F (hx x (by rcases ho with h|h<;>simp[h,Op.operands]));refine Out.pure (u:=a.eval x) R ?_ h1 hs;rcases ho with h|h<;>simp[execOp,h]
theorem xj{P:Program}{t:TypeId}{x:TI}(T:gX P t x)(w:World): ∃z,(zeroValue t).run P w= .ok z w∧zV x.zero z=true:=by
 obtain⟨i,z,hi,_,_,hz,hb⟩:=T.info;exact⟨z,by simp[zeroValue,typeInfo,hi,hz],hb⟩
theorem H6 {t:TypeId} (ho:o.op= .alloc t) (T:gX X.P t (X.ti t)) (R:Rel w I σ S.h) (hn:S.h S.n=none) (qM:σ S.n=none)
  (hs:S1=(S.new ⟨(X.ti t).size,[(X.ti t).zero],true⟩).set o.dst (.ptr S.n 0 0)):Out X o a w I σ S S1:=by
 subst hs;obtain⟨z,hz,hb⟩:=xj T w;have XK:aV w I σ (X.ti t).zero z:=Cg T hb;refine⟨_,w.alloc (.cells z.cells t),I,aS σ S.n (some (w.heap.size,0,(X.ti t).size)),.pointer (some ⟨w.heap.size,0,none⟩),.ptr S.n 0 0,?_,.inl rfl,?_,?_,?_⟩
 ·simp[execOp,ho,Instr.alloc,hz,newVar,newRow]
 ·rw[ck,cZ];refine A1 R z.cells hn qM ?_ (Gy R qM XK T.PQ);have:=(XK.cells T.PQ);have hl:=(bH _ _).1 this.2;simp at hl⊢;omega
 ·exact lQ _ _ _ _ rfl
 ·simp only[aV];exact⟨w.heap.size,0,(X.ti t).size,by simp[aS],by simp⟩
theorem PT {t:TypeId} {x:Operand} (ho:o.op= .box t x) (R:Rel w I σ S.h) (F:dM w I σ S.f a) (hx:jd o) (hn:S.h S.n=none) (qM:σ S.n=none)
  (hf:(S.ev x).fits (X.ti t).size=true) (hs:S1=(S.new ⟨(X.ti t).size,[S.ev x],true⟩).set o.dst (.ptr S.n 0 0)):Out X o a w I σ S S1:=by
 subst hs;have XK:aV w I σ (S.ev x) (a.eval x):=cj (S:=S) F (hx x (by simp[ho,Op.operands]));refine⟨_,w.alloc (.cells (a.eval x).cells t),I,aS σ S.n (some (w.heap.size,0,(X.ti t).size)),.pointer (some ⟨w.heap.size,0,none⟩),.ptr S.n 0 0,?_,.inl rfl,?_,?_,?_⟩
 ·simp[execOp,ho,Instr.box,newVar,newRow]
 ·rw[ck,cZ];refine A1 R (a.eval x).cells hn qM ?_ (Gy R qM XK hf);have:=(XK.cells hf);have hl:=(bH _ _).1 this.2;simp at hl⊢;omega
 ·exact lQ _ _ _ _ rfl
 ·simp only[aV];exact⟨w.heap.size,0,(X.ti t).size,by simp[aS],by simp⟩
theorem A2 {t:TypeId} {x:Operand} (ho:o.op= .load t x) (T:gX X.P t (X.ti t)) (R:Rel w I σ S.h) (F:dM w I σ S.f a) (hx:jd o)
  {id i f:Nat} {ob:Ob} {e v:V} (he:S.ev x= .ptr id i f) (cy:S.h id=some ob) (hi:ob.es[i]?=some e) (hv:part (X.ti t) e.cells f=some v) (hs:S1=S.set o.dst v):Out X o a w I σ S S1:=by
 have h1:aV w I σ (S.ev x) (a.eval x):=cj (S:=S) F (hx x (by simp[ho,Op.operands]));rw[he]at h1;simp only[aV]at h1;obtain⟨b,of,k,eN,hu⟩:=h1;obtain⟨b',o',c,el,jV,hI,hb,nq,di⟩:=R.at cy hi;rw[eN]at jV;simp only[aa,ax]at jV;obtain⟨rfl,rfl,rfl⟩:=jV;have hc:=(di.get hi).2.ext (Ext.xd ob.bZ) rfl;obtain⟨u,PS,hr⟩:=xg T (f:=f) hc hv;refine Out.pure (u:=u) R ?_ hr hs;simp[execOp,ho,hu,Instr.loadAt,Instr.sureAddr,PS]
theorem A3 {t:TypeId} {x:Operand} (ho:o.op= .load t x) (T:gX X.P t (X.ti t)) (R:Rel w I σ S.h) (F:dM w I σ S.f a) (hx:jd o)
  {cs:List V} {v:V} (he:S.ev x= .ref cs) (hv:part (X.ti t) cs 0=some v) (hs:S1=S.set o.dst v):Out X o a w I σ S S1:=by
 have h1:aV w I σ (S.ev x) (a.eval x):=cj (S:=S) F (hx x (by simp[ho,Op.operands]));rw[he]at h1;simp only[aV]at h1;obtain⟨b,of,hu,hI,hc⟩:=h1;rw[np]at hc;obtain⟨u,PS,hr⟩:=xg T (f:=0) hc hv;refine Out.pure (u:=u) R ?_ (hr.ext Ext.free) hs;simp only[Nat.add_zero]at PS;simp[execOp,ho,hu,Instr.loadAt,Instr.sureAddr,PS]
theorem vy{P:Program}{t:TypeId}{x:TI}(T:gX P t x){i off k:Nat}(hf:x.pQ[i]?=some (off,k))(w:World)(b p:Nat):
  (Instr.fieldAt t (.pointer (some ⟨b,p,none⟩)) i).run P w= .ok (.pointer (some ⟨b,p+off,none⟩)) w:=by
 obtain⟨d,hd,hb⟩:=T.WH;cases d with
 |struct fs=>
  simp only[sw,Bool.and_eq_true,beq_iff_eq]at hb;obtain⟨⟨⟨⟨_,sH⟩,_⟩,_⟩,zk⟩:=hb;rw[sH,List.getElem?_map]at hf;cases XL:fs.toList[i]? with
  |none=>simp[XL]at hf
  |some fd=>
   simp[XL]at hf;obtain⟨rfl,rfl⟩:=hf;have K6:fs[i]?=some fd:=by simpa using XL
   have hp:=List.all_eq_true.1 zk fd (List.mem_of_getElem? XL);simp at hp;have nq:(sizeOf fd.type).run P w= .ok (P.cellsOf fd.type) w:=by
    unfold Program.cellsOf at hp⊢;cases hi:P.info? fd.type with
    |none=>simp[hi]at hp
    |some i=>simp[sizeOf,typeInfo,hi]
   simp[Instr.fieldAt,run_underlying hd,K6,Instr.sureAddr,fieldPlace,nq,Nat.ne_of_gt hp,kG]
 |_=>
  exfalso;simp[sw]at hb;simp[hb]at hf
theorem sx {t:TypeId} {x:Operand} {i:Nat} (ho:o.op= .fieldAddr t x i) (T:gX X.P t (X.ti t)) (R:Rel w I σ S.h) (F:dM w I σ S.f a) (hx:jd o)
  {off k:Nat} (hf:(X.ti t).pQ[i]?=some (off,k)) {v:V} (hv:(∃id j f,S.ev x= .ptr id j f∧v= .ptr id j (f+off))∨(∃cs,S.ev x= .ref cs∧v= .ref (cs.drop off)))
  (hs:S1=S.set o.dst v):Out X o a w I σ S S1:=by
 have h1:aV w I σ (S.ev x) (a.eval x):=cj (S:=S) F (hx x (by simp[ho,Op.operands]));rcases hv with⟨id,j,f,he,rfl⟩|⟨cs,he,rfl⟩
 ·rw[he]at h1;simp only[aV]at h1;obtain⟨b,of,k',eN,hu⟩:=h1;refine Out.pure (u:= .pointer (some ⟨b,of+j*k'+f+off,none⟩)) R ?_ ?_ hs
  ·simp[execOp,ho,hu,vy T hf]
  ·simp only[aV];exact⟨b,of,k',eN,by rw[Nat.add_assoc]⟩
 ·rw[he]at h1;simp only[aV]at h1;obtain⟨b,of,hu,hI,hc⟩:=h1;refine Out.pure (u:= .pointer (some ⟨b,of+off,none⟩)) R ?_ ?_ hs
  ·simp[execOp,ho,hu,vy T hf]
  ·simp only[aV];refine⟨b,of+off,rfl,hI,?_⟩;rw[np]at hc⊢;intro q c hq;rw[List.getElem?_drop]at hq;have:=hc (off+q) c hq;rwa[show of+(off+q)=of+off+q by omega]at this
end
section
variable {w:World} {I:Nat→Prop} {σ:dK} {h:aG}
theorem nG{v:V}{u:Value}(hv:v.jW=true)(hr:aV w I σ v u):aV w I cC v u:=by
 cases v with
 |int k n=>simpa[aV] using hr
 |bool b=>simpa[aV] using hr
 |str s=>simpa[aV] using hr
 |sl c es=>simpa only[aV] using hr
 |oM=>simpa[aV] using hr
 |D3 b=>simpa only[aV] using hr
 |fn g auj bs=>
  cases auj with
  |nil=>cases bs with
   |nil=>simpa[aV,cI] using hr
   |cons _ _=>simp[V.jW]at hv
  |cons _ _=>simp[V.jW]at hv
 |_=>simp[V.jW]at hv
def PU(I:Nat→Prop)(σ:dK)(h h':aG):Nat→Prop:=fun b=>I b∨(dF σ h b∧ ¬dF σ h' b)
theorem dF.Ek{id b:Nat}(ho:dF σ (aS h id none) b):dF σ h b:=by
 obtain⟨i,ob,o,k,h1,h2⟩:=ho;by_cases e:i=id
 ·subst e;simp[aS]at h1
 ·exact⟨i,ob,o,k,by simpa[aS,e] using h1,h2⟩
theorem Rel.A4(R:Rel w I σ h){id b o k:Nat}{ob:Ob}(h1:h id=some ob)(h2:σ id=some (b,o,k)): ¬dF σ (aS h id none) b:=by
 rintro⟨i,ja,o',k',h3,h4⟩;by_cases e:i=id
 ·subst e;simp[aS]at h3
 ·exact e (R.apart i id ja ob b o' k' o k (by simpa[aS,e] using h3) h1 h4 h2)
theorem zY(R:Rel w I σ h){h':aG}(oQ: ∀id ob,h' id=some ob→h id=some ob)(n:Nat):Step w I σ h n w (PU I σ h h') σ h' n:=by
 have E:Ext w I σ w (PU I σ h h') σ:=⟨fun _ _=>rfl,fun _ c _ fz hh=>⟨c,fz,hh,rfl⟩,fun b hb=> .inl hb,fun _ _ hh=>hh⟩;have jJ: ∀b,dF σ h' b→dF σ h b:=fun b ⟨i,ob,o,k,h1,h2⟩=>⟨i,ob,o,k,oQ _ _ h1,h2⟩;refine⟨E,(R.sub oQ).bZ E (fun b hb=> ?_) (fun b hb=>⟨rfl,?_⟩) (fun _ _=>rfl),rfl,rfl,rfl,Nat.le_refl _,fun _ _ _=>rfl,fun b hb=> .inr (jJ b hb),fun b hb=> ?_,Nat.le_refl _,fun _ _=>rfl,fun id _ hn=> ?_⟩
 ·rcases hb with hb|hb
  ·exact R.cT b hb
  ·obtain⟨_,c,el,hh⟩:=R.owned hb.1;exact hh.lt
 ·rintro(hi|⟨_,hn⟩)
  ·exact(R.owned (jJ b hb)).1 hi
  ·exact hn hb
 ·rcases hb with hb|hb
  ·exact .inl hb
  ·exact .inr (.inr hb.1)
 ·cases hc:h' id with
  |none=>rfl
  |some ob=>rw[oQ id ob hc]at hn;cases hn
theorem bw.Gx{es:List V}{k b o:Nat}(hr:bw w I σ es k b o)(s l:Nat):bw w I σ ((es.drop s).take l) k b (o+s*k):=by
 rw[gM]at hr⊢;intro i e hi;rw[List.getElem?_take]at hi;split at hi
 ·rw[List.getElem?_drop]at hi;have:=hr (s+i) e hi;rwa[show o+(s+i)*k=o+s*k+i*k by rw[Nat.add_mul];omega]at this
 ·cases hi
theorem Ck{es:List V}{k b o:Nat}(he:es.all V.HK=true)(hr:bw w I σ es k b o):bw w I cC es k b o:=by
 rw[gM]at hr⊢;intro i e hi;obtain⟨h1,h2⟩:=hr i e hi;refine⟨h1,fun j c hj=> ?_⟩;obtain⟨u,g1,g2,g3⟩:=h2 j c hj;refine⟨u,g1,g2,nG ?_ g3⟩;have hx:e.HK=true:=List.all_eq_true.1 he e (List.mem_of_getElem? hi);cases e with
 |agg cs=>exact List.all_eq_true.1 hx c (List.mem_of_getElem? hj)
 |_=>
  cases j with
  |zero=>simp[V.cells]at hj;subst hj;exact hx
  |succ j=>simp[V.cells]at hj
theorem Gz (R:Rel w I σ h) {id s l:Nat} {ob:Ob} {u:Value} (hr:aV w I σ (.bJ id s l) u) (cy:h id=some ob) (hk:(!ob.bZ||ob.es.all V.HK)=true) (hle:s+l≤ob.es.length)
  {J:Nat→Prop} (H7: ∀b,I b→J b) (hJ: ∀b o k,σ id=some (b,o,k)→J b):aV w J cC (.sl false ((ob.es.drop s).take l)) u:=by
 simp only[aV]at hr⊢;obtain⟨a,cap,rfl,h1,h2,h3⟩:=hr;have hlen:((ob.es.drop s).take l).length=l:=by simp;omega
 refine⟨a,cap,by rw[hlen],by omega,h2,fun hc=>(by cases hc),?_⟩;by_cases hl:l=0
 ·subst hl;left;simp
 ·right;rcases h3 with h3|⟨b,of,k,c,el,fz,hs,ha,hb,kf⟩
  ·omega
  ·have hi:ob.es[s]?=some (ob.es[s]'(by omega)):=by simp
   obtain⟨b',o',c',Eh,jV,hI,qH,nq,di⟩:=R.at cy hi;rw[hs]at jV;simp only[aa,ax]at jV;obtain⟨rfl,rfl,rfl⟩:=jV;refine⟨b,of+s*ob.k,ob.k,ha,hJ b of ob.k hs,?_⟩;have XM:bw w I cC ob.es ob.k b of:=by
    cases tT:ob.bZ with
    |false=>rw[tT]at di;exact di
    |true=>
     rw[tT]at hk;exact Ck (by simpa using hk) di
   have qy:=XM.Gx s l;have E:Ext w I cC w J cC:=⟨fun _ _=>rfl,fun _ c _ fz hh=>⟨c,fz,hh,rfl⟩,H7,fun _ _ hh=>hh⟩;exact qy.jc E rfl
theorem zZ(R:Rel w I σ h){v v':V}{h':aG}{u:Value}(hr:aV w I σ v u)(hg:jG h v=some (v',h'))(n:Nat):
  ∃I',Step w I σ h n w I' σ h' n∧aV w I' cC v' u∧(∀id ob,h' id=some ob→h id=some ob):=by
 unfold jG at hg;split at hg
 ·rename_i id s l;cases cy:h id with
  |none=>simp[cy]at hg
  |some ob=>
   simp only[cy]at hg;split at hg
   ·rename_i hc;simp only[Bool.and_eq_true,decide_eq_true_eq]at hc;simp only[aa,ax]at hg;obtain⟨rfl,rfl⟩:=hg;have oQ: ∀i ja,aS h id none i=some ja→h i=some ja:=by
     intro i ja hi;by_cases e:i=id
     ·subst e;simp[aS]at hi
     ·simpa[aS,e] using hi
    refine⟨_,zY R oQ n,aV.fo (v:= .sl false _) (Gz R hr cy hc.1 hc.2 (fun b hb=> .inl hb) (fun b o k hs=> .inr ⟨⟨id,ob,o,k,cy,hs⟩,R.A4 cy hs⟩)),oQ⟩
   ·cases hg
 ·rename_i eZ;split at hg
  ·rename_i hi;simp only[aa,ax]at hg;obtain⟨rfl,rfl⟩:=hg;exact⟨I,Step.refl R n,(nG hi hr).fo,fun _ _ hh=>hh⟩
  ·cases hg
theorem z5: ∀{cs lH:List V} {I:Nat→Prop} {h h':aG} {us:List Value},Rel w I σ h→bS w I σ cs us→hZ h cs=some (lH,h')→ ∀n:Nat,
  ∃I',Step w I σ h n w I' σ h' n∧bS w I' cC lH us∧(∀id ob,h' id=some ob→h id=some ob)
 | [],lH,I,h,h',us,R,hr,hg,n=>by
  simp only[hZ,aa,ax]at hg;obtain⟨rfl,rfl⟩:=hg;exact⟨I,Step.refl R n,by simpa[bS] using hr,fun _ _ hh=>hh⟩
 |c::cs,lH,I,h,h',us,R,hr,hg,n=>by
  simp only[bS]at hr;obtain⟨u,r,rfl,h1,h2,h3⟩:=hr;simp only[hZ]at hg;cases hc:jG h c with
  |none=>simp[hc]at hg
  |some x=>
   obtain⟨c',rQ⟩:=x;simp only[hc]at hg;cases hl:hZ rQ cs with
   |none=>simp[hl]at hg
   |some y=>
    obtain⟨cs1,BZ⟩:=y;simp only[hl,aa,ax]at hg;obtain⟨rfl,rfl⟩:=hg;obtain⟨I1,s1,r1,zm⟩:=zZ R h2 hc n;have XN:bS w I1 σ cs r:=bS.ext' cs r s1.ext h3;obtain⟨I2,s2,r2,K7⟩:=z5 s1.rel XN hl n;refine⟨I2,s1.trans s2,?_,fun id ob hh=>zm _ _ (K7 _ _ hh)⟩;simp only[bS];exact⟨u,r,rfl,h1,r1.ext s2.ext.AY,r2⟩
theorem xk(R:Rel w I σ h){v v':V}{h':aG}{u:Value}(hr:aV w I σ v u)(hg:kE h v=some (v',h'))(n:Nat):
  ∃I',Step w I σ h n w I' σ h' n∧aV w I' cC v' u∧(∀id ob,h' id=some ob→h id=some ob):=by
 unfold kE at hg;split at hg
 ·rename_i cs;cases hl:hZ h cs with
  |none=>simp[hl]at hg
  |some y=>
   obtain⟨lH,h2⟩:=y;simp only[hl,aa,ax]at hg;obtain⟨rfl,rfl⟩:=hg;simp only[aV]at hr;obtain⟨us,rfl,hc⟩:=hr;obtain⟨I1,s1,r1,sub⟩:=z5 R hc hl n;exact⟨I1,s1,by simp only[aV];exact⟨us,rfl,r1⟩,sub⟩
 ·exact zZ R hr hg n
theorem z6: ∀{ps qI:List (Nat×V)} {I:Nat→Prop} {h h':aG} {us:List Value},Rel w I σ h→cI w I σ (ps.map (·.2)) us→gp h ps=some (qI,h')→ ∀n:Nat,
  ∃I',Step w I σ h n w I' σ h' n∧cI w I' cC (qI.map (·.2)) us∧qI.map (·.1)=ps.map (·.1)∧(∀id ob,h' id=some ob→h id=some ob)
 | [],qI,I,h,h',us,R,hr,hg,n=>by
  simp only[gp,aa,ax]at hg;obtain⟨rfl,rfl⟩:=hg;exact⟨I,Step.refl R n,by simpa[cI] using hr,rfl,fun _ _ hh=>hh⟩
 |(i,c)::ps,qI,I,h,h',us,R,hr,hg,n=>by
  simp only[List.map_cons,cI]at hr;obtain⟨u,r,rfl,h2,h3⟩:=hr;simp only[gp]at hg;cases hc:kE h c with
  |none=>simp[hc]at hg
  |some x=>
   obtain⟨c',rQ⟩:=x;simp only[hc]at hg;cases hl:gp rQ ps with
   |none=>simp[hl]at hg
   |some y=>
    obtain⟨cs1,BZ⟩:=y;simp only[hl,aa,ax]at hg;obtain⟨rfl,rfl⟩:=hg;obtain⟨I1,s1,r1,zm⟩:=xk R h2 hc n;have XN:cI w I1 σ (ps.map (·.2)) r:=cI.ext' _ r s1.ext h3;obtain⟨I2,s2,r2,e2,K7⟩:=z6 s1.rel XN hl n;refine⟨I2,s1.trans s2,?_,by simp[e2],fun id ob hh=>zm _ _ (K7 _ _ hh)⟩;simp only[List.map_cons,cI];exact⟨u,r,rfl,r1.ext s2.ext.AY,r2⟩
end
section
variable {X:Env} {o:Oper} {a:Act} {w:World} {I:Nat→Prop} {σ:dK} {S S1:St}
theorem H8 {t:TypeId} {x y:Operand} (ho:o.op= .store t x y) (T:gX X.P t (X.ti t)) (R:Rel w I σ S.h) (F:dM w I σ S.f a) (hx:jd o)
  {id i f:Nat} {zf:Ob} {v:V} {h:aG} {ob:Ob} {e:V} (he:S.ev x= .ptr id i f) (h0:S.h id=some zf)
  (hg:(if zf.bZ then some (S.ev y,S.h) else kE S.h (S.ev y))=some (v,h)) (cy:h id=some ob) (hi:ob.es[i]?=some e)
  (hf:(v.fits (X.ti t).size&&decide (f+(X.ti t).size≤e.cells.length))=true) (hd:o.dst=none)
  (hs:S1={S with h:=aS h id (some {ob with es:=ob.es.set i (e.put f v)})}):Out X o a w I σ S S1:=by
 subst hs;have h1:aV w I σ (S.ev x) (a.eval x):=cj (S:=S) F (hx x (by simp[ho,Op.operands]));have h2:aV w I σ (S.ev y) (a.eval y):=cj (S:=S) F (hx y (by simp[ho,Op.operands]));rw[he]at h1;simp only[aV]at h1;obtain⟨b,of,k,eN,hu⟩:=h1;simp only[Bool.and_eq_true,decide_eq_true_eq]at hf;have key: ∃I',Step w I σ S.h S.n w I' σ h S.n∧aV w I' (gE ob.bZ σ) v (a.eval y):=by
  by_cases hk:zf.bZ=true
  ·rw[if_pos hk]at hg;simp only[aa,ax]at hg;obtain⟨rfl,rfl⟩:=hg;rw[h0]at cy;simp at cy;subst cy;exact⟨I,Step.refl R _,by simpa[gE,hk] using h2⟩
  ·rw[if_neg hk]at hg;obtain⟨I',s,r,sub⟩:=xk R h2 hg S.n;have:=sub id ob cy;rw[h0]at this;simp at this;subst this;exact⟨I',s,by simpa[gE,hk] using r⟩
 obtain⟨I',s,r⟩:=key;obtain⟨w',eJ,s'⟩:=HY T s.rel cy hi r hf.1 hf.2 S.n eN;refine⟨_,w',I',σ,undef,.bad,?_,.inr ⟨rfl,rfl⟩,s.trans s',by simp[St.set,hd],by simp[aV]⟩;simp[execOp,ho,hu,Instr.storeAt,Instr.sureAddr,eJ]
theorem pZ {x:Operand} (ho:o.op= .nilCheck x) (R:Rel w I σ S.h) (F:dM w I σ S.f a) (hx:jd o)
  (hv:(∃id j f,S.ev x= .ptr id j f)∨(∃cs,S.ev x= .ref cs)∨(∃g p q,S.ev x= .fn g p q)) (hs:S1=S.set o.dst (S.ev x)):Out X o a w I σ S S1:=by
 have h1:aV w I σ (S.ev x) (a.eval x):=cj (S:=S) F (hx x (by simp[ho,Op.operands]));refine Out.pure (u:=a.eval x) R ?_ h1 hs;rcases hv with⟨id,j,f,he⟩|⟨cs,he⟩|⟨g,p,q,he⟩
 ·rw[he]at h1;simp only[aV]at h1;obtain⟨b,of,k,_,hu⟩:=h1;simp[execOp,ho,hu]
 ·rw[he]at h1;simp only[aV]at h1;obtain⟨b,of,hu,_⟩:=h1;simp[execOp,ho,hu]
 ·rw[he]at h1;simp only[aV]at h1;obtain⟨us,vs,hu,_⟩:=h1;simp[execOp,ho,hu]
theorem K8{op:UnOp}{t:TypeId}{x:Operand}{v:V}(ho:o.op= .unOp op t x)(R:Rel w I σ S.h)(F:dM w I σ S.f a)(hx:jd o)(hv:TT op (S.ev x)=some v)(hs:S1=S.set o.dst v):Out X o a w I σ S S1:=by
 have h1:aV w I σ (S.ev x) (a.eval x):=cj (S:=S) F (hx x (by simp[ho,Op.operands]));unfold TT at hv;split at hv
 ·rename_i k n he;rw[he]at h1;have hu:=dg h1;simp only[aa]at hv;subst hv;exact Out.pure (u:= .int k (k.wrap (0-n))) R (by simp[execOp,ho,hu,Op.unary,Op.intArith]) (by simp[aV]) hs
 ·rename_i b he;rw[he]at h1;have hu:=nF h1;simp only[aa]at hv;subst hv;exact Out.pure (u:= .bool (!b)) R (by simp[execOp,ho,hu,Op.unary]) (by simp[aV]) hs
 ·cases hv
theorem Cl {s d:TypeId} {x:Operand} {k k':IntKind} {n:Int} (ho:o.op= .convert s d x) (T:gX X.P d (X.ti d)) (xl:(X.P.underlying s).isSome=true) (R:Rel w I σ S.h) (F:dM w I σ S.f a) (hx:jd o)
  (hk:(X.ti d).kind=some k) (he:S.ev x= .int k' n) (hs:S1=S.set o.dst (.int k (k.wrap n))):Out X o a w I σ S S1:=by
 have h1:aV w I σ (S.ev x) (a.eval x):=cj (S:=S) F (hx x (by simp[ho,Op.operands]));rw[he]at h1;have hu:=dg h1;obtain⟨e,hd,hb⟩:=T.WH;have hde:e= .int k:=by
  cases e<;>simp_all [sw]
 subst hde;obtain⟨ds,hds⟩:=Option.isSome_iff_exists.1 xl;exact Out.pure (u:= .int k (k.wrap n)) R (by simp[execOp,ho,hu,convert,run_underlying hds,run_underlying hd,Conv.intToInt]) (by simp[aV]) hs
theorem A5 {g:FuncId} {p q:Array Operand} (ho:o.op= .makeFunc (.func g) p q) (R:Rel w I σ S.h) (F:dM w I σ S.f a) (hx:jd o)
  (hs:S1=S.set o.dst (.fn g (p.toList.map S.ev) (q.toList.map S.ev))):Out X o a w I σ S S1:=by
 have hl: ∀(xs:Array Operand),(∀x∈xs.toList,x∈o.op.operands.toList)→cI w I σ (xs.toList.map S.ev) (xs.map a.eval).toList:=by
  intro xs XO;rw[ig];refine⟨by simp,fun j c u hc hu=> ?_⟩;rw[List.getElem?_map]at hc;simp only[Array.toList_map,List.getElem?_map]at hu;cases hj:xs.toList[j]? with
  |none=>simp[hj]at hc
  |some y=>
   simp only[hj,Option.map_some,aa]at hc hu;subst hc;subst hu;exact cj (S:=S) F (hx y (XO y (List.mem_of_getElem? hj)))
 refine Out.pure (u:= .func (.func g) (p.map a.eval) (q.map a.eval)) R (by simp[execOp,ho,Instr.makeFunc]) ?_ hs;simp only[aV];exact⟨_,_,rfl,hl p (by simp[ho,Op.operands];intro x hx;exact .inl hx),hl q (by simp[ho,Op.operands];intro x hx;exact .inr hx)⟩
theorem Cm{x:Operand}{i:Nat}{vs:List V}{v:V}(ho:o.op= .extract x i)(R:Rel w I σ S.h)(F:dM w I σ S.f a)(hx:jd o)(he:S.ev x= .cg vs)(hv:vs[i]?=some v)(hs:S1=S.set o.dst v):Out X o a w I σ S S1:=by
 have h1:aV w I σ (S.ev x) (a.eval x):=cj (S:=S) F (hx x (by simp[ho,Op.operands]));rw[he]at h1;simp only[aV]at h1;obtain⟨us,hu,hr⟩:=h1;rw[ig]at hr;have hi:i<vs.length:=(List.getElem?_eq_some_iff.1 hv).1;have hg:us[i]?=some (us[i]'(by have:=hr.1;simp at this;omega)):=by simp
 exact Out.pure (u:=us[i]'(by have:=hr.1;simp at this;omega)) R (by simp[execOp,ho,hu,Instr.extract,hg]) (hr.2 i v _ hv (by simp)) hs
end
section
variable {w:World} {I:Nat→Prop} {σ:dK}
theorem mf{s:List UInt8}{u:Value}(h:aV w I σ (.str s) u): ∃x:ByteArray,u= .string x∧x.data.toList=s:=by simpa only[aV] using h
theorem toList_eq(x:ByteArray):x.toList=x.data.toList:=by rw[ByteArray.toList_eq]
theorem tU{P:Program}{t:TypeId}{kd:Nat}(hs:TW P t kd=true){cs:Array Value}{j:Nat}{u:Value}(hj:cs[j]?=some u)(w:World):(Go.part t cs j).run P w= .ok u w:=by
 unfold TW at hs;have:(isAgg t).run P w= .ok false w:=by
  unfold isAgg;split at hs
  ·rename_i h;rw[Sem.run_bind,run_underlying h];rfl
  ·rename_i h;rw[Sem.run_bind,run_underlying h];rfl
  ·rename_i h;rw[Sem.run_bind,run_underlying h];rfl
  ·cases hs
 simp[Go.part,this,hj]
theorem El{P:Program}{d:Nat}{t:TypeId}{kd:Nat}(hs:TW P t kd=true){x y:V}{u v:Value}{r:Bool}(hx:aV w I σ x u)(hy:aV w I σ y v)(hr:V.eqv kd x y=some r)(ws:World):
  (Op.equalIn (d+1) t u v).run P ws= .ok r ws:=by
 unfold V.eqv at hr;split at hr
 ·split at hr
  ·rename_i hk;obtain⟨rfl,rfl⟩:=hk;simp only[aa]at hr;subst hr;rw[dg hx,dg hy];unfold TW at hs;split at hs
   ·rename_i h _;exact run_equalIn_int ws d t _ _ _ _ h
   ·omega
   ·omega
   ·cases hs
  ·cases hr
 ·split at hr
  ·rename_i hk;subst hk;simp only[aa]at hr;subst hr;rw[nF hx,nF hy];unfold TW at hs;split at hs
   ·omega
   ·rename_i h _;exact run_equalIn_bool' ws d t _ _ h
   ·omega
   ·cases hs
  ·cases hr
 ·split at hr
  ·rename_i hk;subst hk;simp only[aa]at hr;subst hr;obtain⟨a,rfl,rfl⟩:=mf hx;obtain⟨b,rfl,rfl⟩:=mf hy;unfold TW at hs;split at hs
   ·omega
   ·omega
   ·rename_i h _;rw[run_equalIn_string ws d t _ _ h,toList_eq,toList_eq]
   ·cases hs
  ·cases hr
 ·cases hr
theorem tV{P:Program}{d:Nat}: ∀(fs:List Field) (ks:List Nat) (xs ys:List V) (j:Nat) (us vs:Array Value) (r:Bool),xi P j fs ks=true→sh ks xs ys=some r→
  bS w I σ xs (us.toList.drop j)→bS w I σ ys (vs.toList.drop j)→ ∀ws,(Op.eqFields (d+1) us vs fs).run P ws= .ok r ws
 | [],ks,xs,ys,j,us,vs,r,hf,he,hx,hy,ws=>by
  cases ks with
  |nil=>
   cases xs with
   |nil=>cases ys with
    |nil=>simp only[sh,aa]at he;subst he;simp[Op.eqFields]
    |cons _ _=>simp[sh]at he
   |cons _ _=>simp[sh]at he
  |cons _ _=>simp[xi]at hf
 |f::fs,ks,xs,ys,j,us,vs,r,hf,he,hx,hy,ws=>by
  cases ks with
  |nil=>simp[xi]at hf
  |cons k ks=>
   cases xs with
   |nil=>simp[sh]at he
   |cons x xs=>cases ys with
    |nil=>simp[sh]at he
    |cons y ys=>
     simp only[xi,Bool.and_eq_true,bne_iff_ne,beq_iff_eq]at hf;obtain⟨⟨⟨h1,h2⟩,h3⟩,h4⟩:=hf;simp only[sh]at he;cases e1:V.eqv k x y with
     |none=>simp[e1]at he
     |some p=>cases e2:sh ks xs ys with
      |none=>simp[e1,e2]at he
      |some q=>
       simp only[e1,e2,aa]at he;simp only[bS]at hx hy;obtain⟨u,ru,hu,_,hxu,H9⟩:=hx;obtain⟨v,rv,hv,_,hyv,hyr⟩:=hy;have gu:us[j]?=some u:=by
        have:=congrArg (fun l:List Value=>l[0]?) hu;simpa[List.getElem?_drop] using this
       have gv:vs[j]?=some v:=by
        have:=congrArg (fun l:List Value=>l[0]?) hv;simpa[List.getElem?_drop] using this
       have du:us.toList.drop (j+1)=ru:=by
        have:=congrArg (List.drop 1) hu;simpa[List.drop_drop] using this
       have dv:vs.toList.drop (j+1)=rv:=by
        have:=congrArg (List.drop 1) hv;simpa[List.drop_drop] using this
       have ih:=tV (d:=d) fs ks xs ys (j+1) us vs q h4 e2 (by rw[du];exact H9) (by rw[dv];exact hyr) ws;simp only[Op.eqFields,if_pos h1];rw[h2];simp only[Sem.run_bind,tU h3 gu,tU h3 gv,Result.andThen_ok,El h3 hxu hyv e1];cases p
       ·simp at he;subst he;simp
       ·simp at he;subst he;simp[ih]
end
section
variable {X:Env} {o:Oper} {a:Act} {w:World} {I:Nat→Prop} {σ:dK} {S S1:St}
theorem wo{P:Program}(w:World)(d:Nat)(t e:TypeId)(p q:Option Addr)(h:P.underlying t=some (.pointer e))(hn:p=none∨q=none):
  (Op.equalIn (d+1) t (.pointer p) (.pointer q)).run P w= .ok (p.isNone&&q.isNone) w:=by
 rcases hn with rfl|rfl
 ·simp[Op.equalIn,run_underlying h]
 ·cases p<;>simp[Op.equalIn,run_underlying h]
theorem xm{P:Program}(w:World)(t e:TypeId)(p q:Option Addr)(h:P.underlying t=some (.pointer e))(hn:p=none∨q=none):
  (Op.equal t (.pointer p) (.pointer q)).run P w= .ok (p.isNone&&q.isNone) w:=wo w 9999 t e p q h hn
theorem wq{P:Program}(w:World)(d:Nat)(t:TypeId){ms:Array (String×TypeId)}(h:P.underlying t=some (.interface ms)){a b:Bool}{u v:Value}(hu:lV a u)(hv:lV b v)(hn:(a&&b)=false):
  (Op.equalIn (d+1) t u v).run P w= .ok (a==b) w:=by
 cases a<;>cases b<;>simp only[lV]at hu hv
 ·subst hu;subst hv;simp[Op.equalIn,run_underlying h]
 ·obtain⟨_,_,rfl⟩:=hv;subst hu;simp[Op.equalIn,run_underlying h]
 ·obtain⟨_,_,rfl⟩:=hu;subst hv;simp[Op.equalIn,run_underlying h]
 ·simp at hn
theorem Em{P:Program}(w:World)(t:TypeId){ms:Array (String×TypeId)}(h:P.underlying t=some (.interface ms)){a b:Bool}{u v:Value}(hu:lV a u)(hv:lV b v)(hn:(a&&b)=false):
  (Op.equal t u v).run P w= .ok (a==b) w:=wq w 9999 t h hu hv hn
theorem K9{P:Program}{t:TypeId}{ag:Bool}{pS:List Nat}(hB:TX P t ag pS=true){x y:V}{u v:Value}{r:Bool}(hx:aV w I σ x u)(hy:aV w I σ y v)(hr:D9 ag pS x y=some r)(p q:Operand)(hq:pS=[4]→ ∃z,q= .const z):
  (eqGuard .eql t p q u v).run P w= .ok () w∧(eqGuard .neq t p q u v).run P w= .ok () w∧(binOp .eql t u v).run P w= .ok (.bool r) w∧(binOp .neq t u v).run P w= .ok (.bool (!r)) w:=by
 unfold D9 at hr;split at hr
 ·rename_i xs ys;split at hr
  ·rename_i Ia;simp only[aV]at hx hy;obtain⟨us,rfl,hcx⟩:=hx;obtain⟨vs,rfl,hcy⟩:=hy;have eZ: ∃fs,P.underlying t=some (.struct fs)∧(pS=[]∨(P.stoodInHeld t=false∧P.eqGuardType P.depth t=false∧xi P 0 fs.toList pS=true)):=by
    unfold TX at hB;split at hB
    ·rename_i fs h;simp[Ia.1]at hB;exact⟨fs,h,hB.imp id fun h=>⟨h.1.1,h.1.2,h.2⟩⟩
    ·simp[Ia.1]at hB
    ·simp[Ia.1]at hB
    ·simp[Ia.1]at hB;subst hB;cases xs with
     |nil=>simp[sh]at hr
     |cons x xs=>cases ys with
      |nil=>simp[sh]at hr
      |cons y ys=>cases x<;>cases y<;>simp[sh,V.eqv]at hr
    ·simp[Ia.1]at hB
    ·simp[Ia.1]at hB
   obtain⟨fs,hfs,hc⟩:=eZ;rcases hc with h0|⟨h1,h2,h3⟩
   ·exact absurd h0 Ia.2
   ·have hF:P.fieldsOf t=fs:=by simp[Program.fieldsOf,hfs]
    have he:=tV (d:=9998) fs.toList pS xs ys 0 us vs r h3 hr (by simpa using hcx) (by simpa using hcy) w;have gr:(Op.equalIn 10000 t (.agg us) (.agg vs)).run P w= .ok r w:=by
     rw[run_equalIn_struct w 9999 t us vs (by rw[hF];exact hfs) h1,hF];exact he
    refine⟨run_eqGuard_agg w .eql t p q us vs h2,run_eqGuard_agg w .neq t p q us vs h2,?_,?_⟩
    ·rw[run_eql_struct,gr];rfl
    ·rw[run_neq_struct,gr];rfl
  ·cases hr
 ·split at hr
  ·rename_i hk;subst hk;simp only[aa]at hr;subst hr;rw[dg hx,dg hy];refine⟨by rw[eqGuard_at_int];rfl,by rw[eqGuard_at_int];rfl,by rw[binOp_eql];rfl,by rw[binOp_neq];rfl⟩
  ·cases hr
 ·split at hr
  ·rename_i hc;simp only[aa]at hr;subst hr;rw[nF hx,nF hy];have ht:P.underlying t=some .bool:=by
    unfold TX at hB;split at hB
    ·simp[hc]at hB
    ·assumption
    ·simp[hc]at hB
    ·simp[hc]at hB
    ·simp[hc]at hB
    ·simp[hc]at hB
   refine⟨by rw[eqGuard_at_bool];rfl,by rw[eqGuard_at_bool];rfl,?_,?_⟩
   ·simp only[binOp,Sem.run_bind];rw[show Op.equal t (.bool _) (.bool _)=Op.equalIn (9999+1) t (.bool _) (.bool _) from rfl,run_equalIn_bool' w 9999 t _ _ ht];rfl
   ·simp only[binOp,Sem.run_bind];rw[show Op.equal t (.bool _) (.bool _)=Op.equalIn (9999+1) t (.bool _) (.bool _) from rfl,run_equalIn_bool' w 9999 t _ _ ht];rfl
  ·cases hr
 ·simp only[aa]at hr;subst hr;obtain⟨a,rfl,rfl⟩:=mf hx;obtain⟨b,rfl,rfl⟩:=mf hy;refine⟨by rw[eqGuard_at_string];rfl,by rw[eqGuard_at_string];rfl,?_,?_⟩
  ·simp[binOp,Op.stringOp,toList_eq]
  ·simp[binOp,Op.stringOp,toList_eq]
 all_goals first|(cases hr;done)|skip
 all_goals
  split at hr
  case isFalse=>cases hr
  rename_i hc;simp only[aa]at hr;subst hr
 case h_8=>
  have ht: ∃ms,P.underlying t=some (.interface ms):=by
   unfold TX at hB;split at hB
   ·simp[hc]at hB
   ·simp[hc]at hB
   ·simp[hc]at hB
   ·simp[hc]at hB
   ·rename_i ms h;exact⟨ms,h⟩
   ·simp[hc]at hB
  obtain⟨ms,ht⟩:=ht;obtain⟨z,rfl⟩:=hq hc.2.1;rename_i a b;have h3:=hc.2.2;simp only[aV]at hx hy;have hg: ∀op,(eqGuard op t p (.const z) u v).run P w= .ok () w:=fun op=>by
   cases a<;>cases b<;>simp only[lV]at hx hy
   ·subst hx;subst hy;cases op<;>simp[eqGuard]
   ·obtain⟨_,_,rfl⟩:=hy;subst hx;cases op<;>simp[eqGuard]
   ·obtain⟨_,_,rfl⟩:=hx;subst hy;cases op<;>simp[eqGuard]
   ·simp at h3
  have he:=Em w t ht hx hy h3;have La:(binOp .eql t u v).run P w= .ok (.bool (a==b)) w:=by
   have:binOp .eql t u v=(do pure (.bool (←Op.equal t u v))):=by
    cases a<;>cases b<;>simp only[lV]at hx hy
    ·subst hx;subst hy;rfl
    ·obtain⟨_,_,rfl⟩:=hy;subst hx;rfl
    ·obtain⟨_,_,rfl⟩:=hx;subst hy;rfl
    ·simp at h3
   rw[this,Sem.run_bind,he];rfl
  have A6:(binOp .neq t u v).run P w= .ok (.bool (!(a==b))) w:=by
   have:binOp .neq t u v=(do pure (.bool (!(←Op.equal t u v)))):=by
    cases a<;>cases b<;>simp only[lV]at hx hy
    ·subst hx;subst hy;rfl
    ·obtain⟨_,_,rfl⟩:=hy;subst hx;rfl
    ·obtain⟨_,_,rfl⟩:=hx;subst hy;rfl
    ·simp at h3
   rw[this,Sem.run_bind,he];rfl
  exact⟨hg _,hg _,La,A6⟩
 all_goals
  have ht: ∃e,P.underlying t=some (.pointer e):=by
   unfold TX at hB;split at hB
   ·simp[hc]at hB
   ·simp[hc]at hB
   ·rename_i e h;exact⟨e,h⟩
   ·simp[hc]at hB
   ·simp[hc]at hB
   ·simp[hc]at hB
  obtain⟨e,ht⟩:=ht;simp only[aV]at hx hy;first|(obtain⟨b,o,k,_,rfl⟩:=hx)|subst hx
  first|(obtain⟨b,o,k,_,rfl⟩:=hy)|subst hy
  refine⟨by rw[eqGuard_at_pointer];rfl,by rw[eqGuard_at_pointer];rfl,?_,?_⟩
  ·simp only[binOp,Sem.run_bind];rw[xm w t e _ _ ht (by simp)];rfl
  ·simp only[binOp,Sem.run_bind];rw[xm w t e _ _ ht (by simp)];rfl
theorem Ib {op:BinOp} {t ty:TypeId} {x y:Operand} {v:V} (ho:o.op= .binOp op t x y ty) (hB:op= .eql∨op= .neq→TX X.P t (X.ti t).agg (X.ti t).pS=true∧((X.ti t).pS=[4]→ ∃z,y= .const z)) (R:Rel w I σ S.h) (F:dM w I σ S.f a) (hx:jd o)
  (hv:mL (X.ti t).agg (X.ti t).pS op (S.ev x) (S.ev y)=some v) (hs:S1=S.set o.dst v):Out X o a w I σ S S1:=by
 have h1:aV w I σ (S.ev x) (a.eval x):=cj (S:=S) F (hx x (by simp[ho,Op.operands]));have h2:aV w I σ (S.ev y) (a.eval y):=cj (S:=S) F (hx y (by simp[ho,Op.operands]));generalize S.ev x=p at h1 hv;generalize S.ev y=q at h2 hv;have ints: ∀(f:IntKind→Int→Int→Option V),tP p q f=some v→(∀k m n,p= .int k m→q= .int k n→f k m n=some v→ ∃u,(binOp op t (.int k m) (.int k n)).run X.P w= .ok u w∧aV w I σ v u)→Out X o a w I σ S S1:=by
  intro f hf eJ;unfold tP at hf;split at hf
  ·rename_i k m k' n;split at hf
   ·rename_i hk;subst hk;obtain⟨u,hu,hr⟩:=eJ k m n rfl rfl hf;refine Out.pure (u:=u) R ?_ hr hs;simp[execOp,ho,dg h1,dg h2,eqGuard_at_int,hu]
   ·cases hf
  ·cases hf
 cases op with
 |eql=>
  simp only[mL]at hv;cases he:D9 (X.ti t).agg (X.ti t).pS p q with
  |none=>simp[he]at hv
  |some r=>
   simp only[he,aa]at hv;subst hv;have:=K9 (hB (.inl rfl)).1 h1 h2 he x y (hB (.inl rfl)).2;exact Out.pure (u:= .bool r) R (by simp[execOp,ho,this.1,this.2.2.1]) (by simp[aV]) hs
 |neq=>
  simp only[mL]at hv;cases he:D9 (X.ti t).agg (X.ti t).pS p q with
  |none=>simp[he]at hv
  |some r=>
   simp only[he,aa]at hv;subst hv;have:=K9 (hB (.inr rfl)).1 h1 h2 he x y (hB (.inr rfl)).2;exact Out.pure (u:= .bool (!r)) R (by simp[execOp,ho,this.2.1,this.2.2.2]) (by simp[aV]) hs
 |add=>
  simp only[mL]at hv;split at hv
  ·rename_i l m;split at hv
   ·rename_i hle;simp only[aa]at hv;subst hv;obtain⟨b1,e1,rfl⟩:=mf h1;obtain⟨b2,e2,rfl⟩:=mf h2;refine Out.pure (u:= .string (b1++b2)) R ?_ (by simp only[aV];exact⟨_,rfl,by simp⟩) hs;have nq: ¬((b1.size+b2.size:Nat):Int)>IntKind.i64.max:=by
     have z1:b1.data.toList.length=b1.size:=Array.length_toList;have z2:b2.data.toList.length=b2.size:=Array.length_toList;rw[IntKind.max_i64];rw[z1,z2]at hle;omega
    simp only[execOp,ho,e1,e2,eqGuard_at_string,Sem.run_bind,Sem.run_pure,Result.andThen_ok,binOp,Op.stringOp,if_neg nq]
   ·cases hv
  ·exact ints _ hv fun k m n _ _ hf=>⟨.int k (k.wrap (m+n)),by rw[binOp_add];rfl,by simp only[aa]at hf;subst hf;simp[aV]⟩
 |sub=>exact ints _ hv fun k m n _ _ hf=>⟨.int k (k.wrap (m-n)),by rw[binOp_sub];rfl,by simp only[aa]at hf;subst hf;simp[aV]⟩
 |mul=>exact ints _ hv fun k m n _ _ hf=>⟨.int k (k.wrap (m*n)),by rw[binOp_mul];rfl,by simp only[aa]at hf;subst hf;simp[aV]⟩
 |quo=>
  refine ints _ hv fun k m n _ _ hf=> ?_;split at hf
  ·cases hf
  ·rename_i hn;simp only[aa]at hf;subst hf;exact⟨.int k (k.wrap (m.tdiv n)),by rw[binOp_quo];simp[Op.intDiv,hn],by simp[aV]⟩
 |rem=>
  refine ints _ hv fun k m n _ _ hf=> ?_;split at hf
  ·cases hf
  ·rename_i hn;simp only[aa]at hf;subst hf;exact⟨.int k (m.tmod n),by rw[binOp_rem];simp[Op.intDiv,hn],by simp[aV]⟩
 |lss=>exact ints _ hv fun k m n _ _ hf=>⟨.bool (decide (m<n)),by rw[binOp_lss];rfl,by simp only[aa]at hf;subst hf;simp[aV]⟩
 |leq=>exact ints _ hv fun k m n _ _ hf=>⟨.bool (decide (m≤n)),by rw[binOp_leq];rfl,by simp only[aa]at hf;subst hf;simp[aV]⟩
 |gtr=>exact ints _ hv fun k m n _ _ hf=>⟨.bool (decide (n<m)),by rw[binOp_gtr];rfl,by simp only[aa]at hf;subst hf;simp[aV]⟩
 |geq=>exact ints _ hv fun k m n _ _ hf=>⟨.bool (decide (n≤m)),by rw[binOp_geq];rfl,by simp only[aa]at hf;subst hf;simp[aV]⟩
 |shl=>
  simp only[mL]at hv;split at hv
  ·rename_i k m k' n;split at hv
   ·cases hv
   ·rename_i hn;simp only[aa]at hv;subst hv;refine Out.pure (u:= .int k (k.wrap (m*2^ (min n.toNat k.bits)))) R ?_ (by simp[aV]) hs;simp[execOp,ho,dg h1,dg h2,eqGuard_at_int,binOp,Op.shift,hn]
  ·cases hv
 |shr=>
  simp only[mL]at hv;split at hv
  ·rename_i k m k' n;split at hv
   ·cases hv
   ·rename_i hn;simp only[aa]at hv;subst hv;refine Out.pure (u:= .int k (m.fdiv (2^ (min n.toNat k.bits)))) R ?_ (by simp[aV]) hs;simp[execOp,ho,dg h1,dg h2,eqGuard_at_int,binOp,Op.shift,hn]
  ·cases hv
 |and=>exact ints _ hv fun k m n _ _ hf=>⟨.int k (bits k .and m n),by rw[binOp_and];rfl,by simp only[aa]at hf;subst hf;simp[aV]⟩
 |or=>exact ints _ hv fun k m n _ _ hf=>⟨.int k (bits k .or m n),by rw[binOp_or];rfl,by simp only[aa]at hf;subst hf;simp[aV]⟩
 |xor=>exact ints _ hv fun k m n _ _ hf=>⟨.int k (bits k .xor m n),by rw[binOp_xor];rfl,by simp only[aa]at hf;subst hf;simp[aV]⟩
 |andNot=>exact ints _ hv fun k m n _ _ hf=>⟨.int k (bits k .andNot m n),by rw[binOp_andNot];rfl,by simp only[aa]at hf;subst hf;simp[aV]⟩
end
theorem gy{P:Program}{t:TypeId}{x:TI}(h:sliceB P t x=true):P.underlying t=some (.slice x.elem):=by
 unfold sliceB at h;split at h
 ·rename_i e he;have:=beq_iff_eq.1 h;rw[he,this]
 ·cases h
section
variable {X:Env} {o:Oper} {a:Act} {w:World} {I:Nat→Prop} {σ:dK} {S S1:St}
theorem A7 {t:TypeId} {x ix:Operand} (ho:o.op= .indexAddr t x ix) (hu:X.P.underlying t=some (.slice (X.ti t).elem)) (T:gX X.P (X.ti t).elem (X.ti (X.ti t).elem)) (R:Rel w I σ S.h) (F:dM w I σ S.f a) (hx:jd o)
  {c:Bool} {es:List V} {k:IntKind} {n:Int} {e:V} (he:S.ev x= .sl c es) (hi:S.ev ix= .int k n) (h0:0≤n∧n<es.length) (hg:es[n.toNat]?=some e) (hk:e.cells.length=(X.ti (X.ti t).elem).size)
  (hs:S1=S.set o.dst (.ref e.cells)):Out X o a w I σ S S1:=by
 have h1:aV w I σ (S.ev x) (a.eval x):=cj (S:=S) F (hx x (by simp[ho,Op.operands]));have h2:aV w I σ (S.ev ix) (a.eval ix):=cj (S:=S) F (hx ix (by simp[ho,Op.operands]));rw[he]at h1;rw[hi]at h2;have Kz:=dg h2;simp only[aV]at h1;obtain⟨ad,cap,nH,_,_,_,hr⟩:=h1;rcases hr with hr|⟨b,of,kk,rfl,hI,di⟩
 ·subst hr;simp at hg
 ·have hgk:=di.get hg;have tT:kk=(X.ti (X.ti t).elem).size:=by rw[←hk];exact hgk.1.symm
  refine Out.pure (u:= .pointer (some ⟨b,of+n.toNat*(X.ti (X.ti t).elem).size,none⟩)) R ?_ ?_ hs
  ·simp[execOp,ho,nH,Kz,Instr.indexAt,run_underlying hu,asIntOf,h0,run_sizeOf T,kG]
  ·simp only[aV];exact⟨b,_,rfl,hI,by rw[np,←tT];exact hgk.2⟩
theorem zn {t:TypeId} {x ix:Operand} (ho:o.op= .indexAddr t x ix) (hu:X.P.underlying t=some (.slice (X.ti t).elem)) (T:gX X.P (X.ti t).elem (X.ti (X.ti t).elem)) (R:Rel w I σ S.h) (F:dM w I σ S.f a) (hx:jd o)
  {id s l:Nat} {k:IntKind} {n:Int} {ob:Ob} (he:S.ev x= .bJ id s l) (hi:S.ev ix= .int k n) (h0:0≤n∧n<l) (hg:S.h id=some ob) (hk:ob.k=(X.ti (X.ti t).elem).size)
  (hs:S1=S.set o.dst (.ptr id (s+n.toNat) 0)):Out X o a w I σ S S1:=by
 have h1:aV w I σ (S.ev x) (a.eval x):=cj (S:=S) F (hx x (by simp[ho,Op.operands]));have h2:aV w I σ (S.ev ix) (a.eval ix):=cj (S:=S) F (hx ix (by simp[ho,Op.operands]));rw[he]at h1;rw[hi]at h2;have Kz:=dg h2;simp only[aV]at h1;obtain⟨ad,cap,nH,R7,_,hr⟩:=h1;rcases hr with hr|⟨b,of,kk,c,el,fz,eN,rfl,hb,_⟩
 ·omega
 ·have tT:kk=ob.k:=by
   rcases R.obj id ob hg with⟨_,hn⟩|⟨b',o',c',Eh,jV,_⟩
   ·rw[hn]at eN;cases eN
   ·rw[jV]at eN;simp at eN;exact eN.2.2.symm
  refine Out.pure (u:= .pointer (some ⟨b,of+s*kk+n.toNat*kk,none⟩)) R ?_ ?_ hs
  ·simp[execOp,ho,nH,Kz,Instr.indexAt,run_underlying hu,asIntOf,h0,run_sizeOf T,kG,tT,hk]
  ·simp only[aV];exact⟨b,of,kk,eN,by rw[Nat.add_mul];simp[Nat.add_assoc]⟩
theorem xn{P:Program}{t:TypeId}{x:TI}(T:gX P t x){m:Nat}(h:x.arr=some m):P.underlying t=some (.array m x.elem):=by
 obtain⟨d,hd,hb⟩:=T.WH;rw[hd];cases d<;>simp_all [sw]
theorem zo {t:TypeId} {x ix:Operand} (ho:o.op= .indexAddr t x ix) (T0:gX X.P t (X.ti t)) (T:gX X.P (X.ti t).elem (X.ti (X.ti t).elem)) (R:Rel w I σ S.h) (F:dM w I σ S.f a) (hx:jd o)
  {id j f m:Nat} {k:IntKind} {n:Int} (he:S.ev x= .ptr id j f) (hi:S.ev ix= .int k n) (hm:(X.ti t).arr=some m) (h0:0≤n∧n<m)
  (hs:S1=S.set o.dst (.ptr id j (f+n.toNat*(X.ti (X.ti t).elem).size))):Out X o a w I σ S S1:=by
 have h1:aV w I σ (S.ev x) (a.eval x):=cj (S:=S) F (hx x (by simp[ho,Op.operands]));have h2:aV w I σ (S.ev ix) (a.eval ix):=cj (S:=S) F (hx ix (by simp[ho,Op.operands]));rw[he]at h1;rw[hi]at h2;have Kz:=dg h2;simp only[aV]at h1;obtain⟨b,of,kk,eN,hp⟩:=h1;have hu:=xn T0 hm;refine Out.pure (u:= .pointer (some ⟨b,of+j*kk+f+n.toNat*(X.ti (X.ti t).elem).size,none⟩)) R ?_ ?_ hs
 ·simp[execOp,ho,hp,Kz,Instr.indexAt,run_underlying hu,asIntOf,h0,run_sizeOf T,kG,Instr.sureAddr]
 ·simp only[aV];exact⟨b,of,kk,eN,by simp[Nat.add_assoc]⟩
theorem Cn{P:Program}{t:TypeId}{x:TI}(T:gX P t x){cs:List V}{us:Array Value}(hc:bS w I σ cs us.toList){f:Nat}{v:V}(hv:part x cs f=some v):
  ∃u,(Go.part t us f).run P w= .ok u w∧aV w I σ v u:=by
 have hl:=((bH _ _).1 hc).1;unfold part at hv;by_cases ha:x.agg=true
 ·rw[if_pos ha]at hv;split at hv
  ·rename_i hle;simp only[aa]at hv;subst hv;refine⟨.agg (us.extract f (f+x.size)),by simp[Go.part,rR T,ha,run_sizeOf T],?_⟩;simp only[aV];refine⟨_,rfl,?_⟩;rw[bH];refine⟨by simp at hl⊢;omega,fun j c u kY huj=> ?_⟩;rw[List.getElem?_take]at kY;split at kY
   ·rename_i hj;rw[List.getElem?_drop]at kY;have ac3:us.toList[f+j]?=some u:=by
     simp only[Array.toList_extract,List.extract_eq_take_drop,List.getElem?_take,List.getElem?_drop]at huj;split at huj
     ·exact huj
     ·cases huj
    exact((bH _ _).1 hc).2 (f+j) c u kY ac3
   ·cases kY
  ·cases hv
 ·rw[if_neg ha]at hv;have Ci:x.agg=false:=by simpa using ha
  obtain⟨u,h1,_,h3⟩:=hc.get hv;exact⟨u,by
   have rQ:us[f]?=some u:=by simpa using h1
   simp[Go.part,rR T,Ci,rQ],h3⟩
theorem zp {t:TypeId} {x ix:Operand} (ho:o.op= .index t x ix) (T0:gX X.P t (X.ti t)) (T:gX X.P (X.ti t).elem (X.ti (X.ti t).elem)) (R:Rel w I σ S.h) (F:dM w I σ S.f a) (hx:jd o)
  {cs:List V} {m:Nat} {k:IntKind} {n:Int} {v:V} (he:S.ev x= .agg cs) (hi:S.ev ix= .int k n) (hm:(X.ti t).arr=some m) (h0:0≤n∧n<m)
  (hv:part (X.ti (X.ti t).elem) cs (n.toNat*(X.ti (X.ti t).elem).size)=some v) (hs:S1=S.set o.dst v):Out X o a w I σ S S1:=by
 have h1:aV w I σ (S.ev x) (a.eval x):=cj (S:=S) F (hx x (by simp[ho,Op.operands]));have h2:aV w I σ (S.ev ix) (a.eval ix):=cj (S:=S) F (hx ix (by simp[ho,Op.operands]));rw[he]at h1;rw[hi]at h2;have Kz:=dg h2;simp only[aV]at h1;obtain⟨us,hp,hc⟩:=h1;have hu:=xn T0 hm;obtain⟨u,eJ,hr⟩:=Cn T hc hv;refine Out.pure (u:=u) R ?_ hr hs;simp[execOp,ho,hp,Kz,Instr.index,run_underlying hu,asIntOf,h0,run_sizeOf T,eJ]
theorem Ie {t:TypeId} {x:Operand} {f:Nat} {fs:Array Field} {fd:Field} (ho:o.op= .field t x f) (hu:X.P.underlying t=some (.struct fs)) (hf:fs[f]?=some fd) (T:gX X.P fd.type (X.ti fd.type)) (R:Rel w I σ S.h) (F:dM w I σ S.f a) (hx:jd o)
  {cs:List V} {v:V} (he:S.ev x= .agg cs) (hv:part (X.ti fd.type) cs fd.offset=some v) (hs:S1=S.set o.dst v):Out X o a w I σ S S1:=by
 have h1:aV w I σ (S.ev x) (a.eval x):=cj (S:=S) F (hx x (by simp[ho,Op.operands]));rw[he]at h1;simp only[aV]at h1;obtain⟨us,hp,hc⟩:=h1;obtain⟨u,eJ,hr⟩:=Cn T hc hv;refine Out.pure (u:=u) R ?_ hr hs;simp[execOp,ho,hp,Instr.field,asAgg,run_underlying hu,hf,eJ]
theorem zq {t:TypeId} {x ix:Operand} (ho:o.op= .index t x ix) (hu:X.P.underlying t=some .string) (R:Rel w I σ S.h) (F:dM w I σ S.f a) (hx:jd o)
  {s:List UInt8} {k:IntKind} {n:Int} {b:UInt8} (he:S.ev x= .str s) (hi:S.ev ix= .int k n) (h0:0≤n) (hg:s[n.toNat]?=some b) (hs:S1=S.set o.dst (.int .u8 b.toNat)):Out X o a w I σ S S1:=by
 have h1:aV w I σ (S.ev x) (a.eval x):=cj (S:=S) F (hx x (by simp[ho,Op.operands]));have h2:aV w I σ (S.ev ix) (a.eval ix):=cj (S:=S) F (hx ix (by simp[ho,Op.operands]));rw[he]at h1;rw[hi]at h2;have Kz:=dg h2;obtain⟨bs,hb,rfl⟩:=mf h1;have hg':bs[n.toNat]?=some b:=by
  have hl:n.toNat<bs.data.toList.length:=(List.getElem?_eq_some_iff.1 hg).1;have tK:n.toNat<bs.size:=by simpa using hl
  rw[getElem?_pos bs n.toNat tK];have:=(List.getElem?_eq_some_iff.1 hg).2;simp at this;rw[←this];rfl
 refine Out.pure (u:= .int .u8 b.toNat) R ?_ (by simp[aV]) hs;simp[execOp,ho,hb,Kz,Instr.index,run_underlying hu,asIntOf,h0,hg']
theorem PV {args:Array Operand} {gq:Array TypeId} {x:Operand} {m:Nat} (ho:o.op= .call ⟨.builtin .len,args,gq⟩) (ha:args.toList=[x]) {t:TypeId} (ht:gq[0]?=some t)
  (hu:((∃e,X.P.underlying t=some (.slice e))∧(X.ti t).isStr=false)∨(X.P.underlying t=some .string∧(X.ti t).isStr=true)) (R:Rel w I σ S.h) (F:dM w I σ S.f a) (hx:jd o)
  (gr:(S.ev x).isStr=(X.ti t).isStr) (hl:AW (S.ev x)=some m) (hs:S1=S.set o.dst (.int .i64 m)):Out X o a w I σ S S1:=by
 have sI:args= #[x]:=by rw[←ha]
 have h1:aV w I σ (S.ev x) (a.eval x):=cj (S:=S) F (hx x (by simp[ho,Op.operands,Call.operands,sI]));refine Out.pure (u:= .int .i64 m) R ?_ (by simp[aV]) hs;have eJ:(Builtin.len_ gq o.type #[a.eval x]).run X.P w= .ok (.int .i64 m) w:=by
  rcases hu with⟨⟨e,hu⟩,hn⟩|⟨hu,hn⟩
  ·unfold AW at hl;split at hl
   ·rename_i c es he;rw[he]at h1;simp only[aV]at h1;obtain⟨ad,cap,hv,_⟩:=h1;simp only[aa]at hl;subst hl;simp[Builtin.len_,ht,hv,run_underlying hu,goInt]
   ·rename_i id s l he;rw[he]at h1;simp only[aV]at h1;obtain⟨ad,cap,hv,_⟩:=h1;simp only[aa]at hl;subst hl;simp[Builtin.len_,ht,hv,run_underlying hu,goInt]
   ·rename_i s he;rw[he,hn]at gr;cases gr
   ·cases hl
  ·cases he:S.ev x with
   |str s=>
    rw[he]at h1 hl;obtain⟨bs,hb,rfl⟩:=mf h1;simp only[AW,aa]at hl;subst hl;have:bs.data.toList.length=bs.size:=Array.length_toList;rw[this];simp[Builtin.len_,ht,hb,run_underlying hu,goInt]
   |_=>rw[he,hn]at gr;cases gr
 simp[execOp,ho,sI,resolve,invoke,builtin,eJ]
theorem qN{d m q:Nat}{v:Option V}(h:KY d v m=some q):(v=none∧q=d)∨ ∃k n,v=some (.int k n)∧0≤n∧n≤m∧q=n.toNat:=by
 unfold KY at h;split at h
 ·simp only[aa]at h;exact .inl ⟨rfl,h.symm⟩
 ·rename_i k n;split at h
  ·rename_i hn;simp only[aa]at h;exact .inr ⟨k,n,rfl,hn.1,hn.2,h.symm⟩
  ·cases h
 ·cases h
theorem sJ {P:Program} {R8:Bool} {lo hi:Option V} {TY uhi:Option Value} {n cap l h:Nat} (hb:bounds lo hi n=some (l,h)) (hn:n≤cap) (w:World)
  (hlo: ∀v,lo=some v→ ∃u,TY=some u∧aV w I σ v u) (PW:lo=none→TY=none) (hhi: ∀v,hi=some v→ ∃u,uhi=some u∧aV w I σ v u) (ac5:hi=none→uhi=none):
  (Instr.sliceBounds R8 n cap TY uhi none).run P w= .ok (l,h,cap) w∧l≤h∧h≤n:=by
 unfold bounds at hb;cases h1:KY n hi n with
 |none=>simp[h1]at hb
 |some q=>
  simp only[h1]at hb;cases h2:KY 0 lo q with
  |none=>simp[h2]at hb
  |some p=>
   simp only[h2,aa,ax]at hb;obtain⟨rfl,rfl⟩:=hb;rcases qN h1 with⟨rfl,rfl⟩|⟨k,m,rfl,ha,qH,rfl⟩
   ·rw[ac5 rfl];rcases qN h2 with⟨rfl,rfl⟩|⟨k,m,rfl,ha,qH,rfl⟩
    ·rw[PW rfl];exact⟨by simp[Instr.sliceBounds],by omega,by omega⟩
    ·obtain⟨u,rfl,hr⟩:=hlo _ rfl;rw[dg hr];exact⟨by simp[Instr.sliceBounds,Instr.sliceBound,asIntOf,ha,qH],by omega,by omega⟩
   ·obtain⟨u,rfl,hr⟩:=hhi _ rfl;rw[dg hr];have hc:m≤(cap:Int):=by omega
    rcases qN h2 with⟨rfl,rfl⟩|⟨k',m',rfl,Ci,A6,rfl⟩
    ·rw[PW rfl];exact⟨by simp[Instr.sliceBounds,Instr.sliceBound,asIntOf,ha,hc],by omega,by omega⟩
    ·obtain⟨u,rfl,hr⟩:=hlo _ rfl;rw[dg hr];have XP:m'≤max m 0:=by omega
     exact⟨by simp[Instr.sliceBounds,Instr.sliceBound,asIntOf,ha,hc,Ci,XP],by omega,by omega⟩
theorem vz {P:Program} {R8:Bool} {lo hi:Option V} {k1 k2:IntKind} {q:Int} {TY:Option Value} {n cap l h:Nat} (hb:bounds lo hi n=some (l,h)) (hh:hi=some (.int k2 q)) (hn:n≤cap) (w:World)
  (hlo: ∀v,lo=some v→ ∃u,TY=some u∧aV w I σ v u) (PW:lo=none→TY=none):
  (Instr.sliceBounds R8 n cap TY (some (.int k2 q)) (some (.int k1 q))).run P w= .ok (l,h,h) w∧l≤h∧h≤n:=by
 unfold bounds at hb;cases h1:KY n hi n with
 |none=>simp[h1]at hb
 |some z=>
  simp only[h1]at hb;cases h2:KY 0 lo z with
  |none=>simp[h2]at hb
  |some p=>
   simp only[h2,aa,ax]at hb;obtain⟨rfl,rfl⟩:=hb;rcases qN h1 with⟨h0,_⟩|⟨k,m,h0,ha,qH,rfl⟩
   ·rw[hh]at h0;cases h0
   ·rw[hh]at h0;simp only[aa,V.int.injEq]at h0;obtain⟨rfl,rfl⟩:=h0;have hc:q≤(cap:Int):=by omega
    have hq:q≤max q 0:=by omega
    rcases qN h2 with⟨rfl,rfl⟩|⟨k',m',rfl,Ci,A6,rfl⟩
    ·rw[PW rfl];exact⟨by simp[Instr.sliceBounds,Instr.sliceBound,asIntOf,ha,hc,hq],by omega,by omega⟩
    ·obtain⟨u,rfl,hr⟩:=hlo _ rfl;rw[dg hr];have XP:m'≤max q 0:=by omega
     exact⟨by simp[Instr.sliceBounds,Instr.sliceBound,asIntOf,ha,hc,hq,Ci,XP],by omega,by omega⟩
theorem Lb{c:Bool}{es:List V}{u:Value}{kk l h m:Nat}(h1:aV w I σ (.sl c es) u)(iG:es.all (fun e=>e.cells.length==kk)=true)(hlh:l≤h)(hhn:h≤es.length)(c':Bool)(hm:h≤m)(wv:c'=true→m=h):
  ∃ad cap,u= .slice ad es.length cap∧es.length≤cap∧(m≤cap→aV w I σ (.sl c' ((es.take h).drop l)) (.slice (if m=l then ad else ad.map (·.add (l*kk))) (h-l) (m-l))):=by
 simp only[aV]at h1;obtain⟨ad,cap,nH,hle,hmx,_,hr⟩:=h1;refine⟨ad,cap,nH,hle,fun KA=> ?_⟩;simp only[aV];have hlen:((es.take h).drop l).length=h-l:=by simp;omega
 refine⟨_,_,by rw[hlen],by omega,by omega,fun hc=>by have:=wv hc;omega,?_⟩;by_cases he:h=l
 ·left;subst he;simp
 ·right;have eZ:es≠ []:=by intro h0;subst h0;simp at hhn;omega
  rcases hr with hr|⟨b,of,k,rfl,hI,di⟩
  ·exact absurd hr eZ
  ·have hk:k=kk:=by
    cases es with
    |nil=>exact absurd rfl eZ
    |cons e es=>
     have:=(di.get (i:=0) (e:=e) (by simp)).1;have h2:=List.all_eq_true.1 iG e (by simp);simp at h2;omega
   subst hk;have qy:=di.Gx l (h-l);refine⟨b,of+l*k,k,?_,hI,by rw[List.drop_take];exact qy⟩;rw[if_neg (by omega)];simp[kG]
theorem mg{S:St}{a:Act}{o:Oper}(F:dM w I σ S.f a)(hx:jd o)(q:Option Operand)(hq: ∀y,q=some y→y∈o.op.operands.toList):
  (∀v,q.map S.ev=some v→ ∃u,q.map a.eval=some u∧aV w I σ v u)∧(q.map S.ev=none→q.map a.eval=none):=by
 cases q with
 |none=>simp
 |some y=>
  refine⟨fun v hv=>⟨a.eval y,rfl,?_⟩,by simp⟩;simp at hv;subst hv;exact cj (S:=S) F (hx y (hq y rfl))
theorem A8 {t:TypeId} {x:Operand} {lo hi:Option Operand} (ho:o.op= .slice t x lo hi none) (R:Rel w I σ S.h) (F:dM w I σ S.f a) (hx:jd o)
  (hu:X.P.underlying t=some (.slice (X.ti t).elem)) (T:gX X.P (X.ti t).elem (X.ti (X.ti t).elem)) {c:Bool} {es:List V} {l h:Nat} (he:S.ev x= .sl c es)
  (iG:es.all (fun e=>e.cells.length==(X.ti (X.ti t).elem).size)=true) (hb:bounds (lo.map S.ev) (hi.map S.ev) es.length=some (l,h)) (hs:S1=S.set o.dst (.sl false ((es.take h).drop l))):Out X o a w I σ S S1:=by
 have h1:aV w I σ (S.ev x) (a.eval x):=cj (S:=S) F (hx x (by simp[ho,Op.operands]));have GB:=mg F hx lo (by intro y hy;subst hy;simp[ho,Op.operands]);have KB:=mg F hx hi (by intro y hy;subst hy;simp[ho,Op.operands]);rw[he]at h1;have wx: ∃ad cap,a.eval x= .slice ad es.length cap∧es.length≤cap:=by
  simp only[aV]at h1;obtain⟨ad,cap,e1,e2,_⟩:=h1;exact⟨ad,cap,e1,e2⟩
 obtain⟨ad,cap,nH,hle⟩:=wx;have wy:=sJ (R8:=true) (P:=X.P) hb hle w GB.1 GB.2 KB.1 KB.2;obtain⟨ad',TZ,e1,e2,e3⟩:=Lb h1 iG wy.2.1 wy.2.2 false (m:=cap) (by omega) (by simp);rw[nH]at e1;simp at e1;obtain⟨rfl,rfl⟩:=e1;refine Out.pure (u:=_) R ?_ (e3 (Nat.le_refl _)) hs;simp[execOp,ho,nH,Instr.sliceAt,Instr.slice,run_underlying hu,wy.1,run_sizeOf T]
theorem zr {t:TypeId} {x m:Operand} {lo hi:Option Operand} (ho:o.op= .slice t x lo hi (some m)) (R:Rel w I σ S.h) (F:dM w I σ S.f a) (hx:jd o)
  (hu:X.P.underlying t=some (.slice (X.ti t).elem)) (T:gX X.P (X.ti t).elem (X.ti (X.ti t).elem)) {c:Bool} {es:List V} {l h:Nat} {k1 k2:IntKind} {q:Int} (he:S.ev x= .sl c es)
  (iG:es.all (fun e=>e.cells.length==(X.ti (X.ti t).elem).size)=true) (hm:S.ev m= .int k1 q) (hh:hi.map S.ev=some (.int k2 q)) (hb:bounds (lo.map S.ev) (hi.map S.ev) es.length=some (l,h))
  (hs:S1=S.set o.dst (.sl true ((es.take h).drop l))):Out X o a w I σ S S1:=by
 have h1:aV w I σ (S.ev x) (a.eval x):=cj (S:=S) F (hx x (by simp[ho,Op.operands]));have h2:aV w I σ (S.ev m) (a.eval m):=cj (S:=S) F (hx m (by simp[ho,Op.operands]));have GB:=mg F hx lo (by intro y hy;subst hy;simp[ho,Op.operands]);have KB:=mg F hx hi (by intro y hy;subst hy;simp[ho,Op.operands]);rw[he]at h1;rw[hm]at h2;have wN:=dg h2;obtain⟨uh,Ig,Ih⟩:=KB.1 _ hh;have Lc:=dg Ih;subst Lc;have wx: ∃ad cap,a.eval x= .slice ad es.length cap∧es.length≤cap:=by
  simp only[aV]at h1;obtain⟨ad,cap,e1,e2,_⟩:=h1;exact⟨ad,cap,e1,e2⟩
 obtain⟨ad,cap,nH,hle⟩:=wx;have wy:=vz (R8:=true) (P:=X.P) (k1:=k1) (k2:=k2) (q:=q) hb hh hle w GB.1 GB.2;obtain⟨ad',TZ,e1,e2,e3⟩:=Lb h1 iG wy.2.1 wy.2.2 true (m:=h) (Nat.le_refl _) (by simp);rw[nH]at e1;simp at e1;obtain⟨rfl,rfl⟩:=e1;refine Out.pure (u:=_) R ?_ (e3 (by omega)) hs;simp[execOp,ho,nH,Instr.sliceAt,Instr.slice,run_underlying hu,wN,Ig,wy.1,run_sizeOf T]
theorem GC{h:aG}(R:Rel w I σ h){id s n:Nat}{u:Value}{kk l hh m:Nat}{ob:Ob}(h1:aV w I σ (.bJ id s n) u)(cy:h id=some ob)(hk:ob.k=kk)(hlh:l≤hh)(hhn:hh≤n)(hm:hh≤m):
  ∃ad cap,u= .slice ad n cap∧n≤cap∧(m≤cap→aV w I σ (.bJ id (s+l) (hh-l)) (.slice (if m=l then ad else ad.map (·.add (l*kk))) (hh-l) (m-l))):=by
 simp only[aV]at h1;obtain⟨ad,cap,nH,hle,hmx,hr⟩:=h1;refine⟨ad,cap,nH,hle,fun KA=> ?_⟩;simp only[aV];refine⟨_,_,rfl,by omega,by omega,?_⟩;by_cases he:m=l
 ·left;omega
 ·right;rcases hr with hr|⟨b,of,k,c,el,fz,eN,rfl,hb,kf⟩
  ·omega
  ·have tT:k=ob.k:=by
    rcases R.obj id ob cy with⟨_,hn⟩|⟨b',o',c',Eh,jV,_⟩
    ·rw[hn]at eN;cases eN
    ·rw[jV]at eN;simp at eN;exact eN.2.2.symm
   refine⟨b,of,k,c,el,fz,eN,?_,hb,?_⟩
   ·rw[if_neg he,←hk,←tT];simp[kG,Nat.add_mul,Nat.add_assoc]
   ·have:(s+l+(m-l))*k≤(s+cap)*k:=Nat.mul_le_mul_right _ (by omega);omega
theorem zt {t:TypeId} {x:Operand} {lo hi:Option Operand} (ho:o.op= .slice t x lo hi none) (R:Rel w I σ S.h) (F:dM w I σ S.f a) (hx:jd o)
  (hu:X.P.underlying t=some (.slice (X.ti t).elem)) (T:gX X.P (X.ti t).elem (X.ti (X.ti t).elem)) {id s n l h:Nat} {ob:Ob} (he:S.ev x= .bJ id s n) (cy:S.h id=some ob) (hk:ob.k=(X.ti (X.ti t).elem).size)
  (hb:bounds (lo.map S.ev) (hi.map S.ev) n=some (l,h)) (hs:S1=S.set o.dst (.bJ id (s+l) (h-l))):Out X o a w I σ S S1:=by
 have h1:aV w I σ (S.ev x) (a.eval x):=cj (S:=S) F (hx x (by simp[ho,Op.operands]));have GB:=mg F hx lo (by intro y hy;subst hy;simp[ho,Op.operands]);have KB:=mg F hx hi (by intro y hy;subst hy;simp[ho,Op.operands]);rw[he]at h1;have wx: ∃ad cap,a.eval x= .slice ad n cap∧n≤cap:=by
  simp only[aV]at h1;obtain⟨ad,cap,e1,e2,_⟩:=h1;exact⟨ad,cap,e1,e2⟩
 obtain⟨ad,cap,nH,hle⟩:=wx;have wy:=sJ (R8:=true) (P:=X.P) hb hle w GB.1 GB.2 KB.1 KB.2;obtain⟨ad',TZ,e1,e2,e3⟩:=GC R h1 cy hk wy.2.1 wy.2.2 (m:=cap) (by omega);rw[nH]at e1;simp at e1;obtain⟨rfl,rfl⟩:=e1;refine Out.pure (u:=_) R ?_ (e3 (Nat.le_refl _)) hs;simp[execOp,ho,nH,Instr.sliceAt,Instr.slice,run_underlying hu,wy.1,run_sizeOf T]
theorem xo {t:TypeId} {x m:Operand} {lo hi:Option Operand} (ho:o.op= .slice t x lo hi (some m)) (R:Rel w I σ S.h) (F:dM w I σ S.f a) (hx:jd o)
  (hu:X.P.underlying t=some (.slice (X.ti t).elem)) (T:gX X.P (X.ti t).elem (X.ti (X.ti t).elem)) {id s n l h:Nat} {ob:Ob} {k1 k2:IntKind} {q:Int} (he:S.ev x= .bJ id s n) (cy:S.h id=some ob) (hk:ob.k=(X.ti (X.ti t).elem).size)
  (hm:S.ev m= .int k1 q) (hh:hi.map S.ev=some (.int k2 q)) (hb:bounds (lo.map S.ev) (hi.map S.ev) n=some (l,h)) (hs:S1=S.set o.dst (.bJ id (s+l) (h-l))):Out X o a w I σ S S1:=by
 have h1:aV w I σ (S.ev x) (a.eval x):=cj (S:=S) F (hx x (by simp[ho,Op.operands]));have h2:aV w I σ (S.ev m) (a.eval m):=cj (S:=S) F (hx m (by simp[ho,Op.operands]));have GB:=mg F hx lo (by intro y hy;subst hy;simp[ho,Op.operands]);have KB:=mg F hx hi (by intro y hy;subst hy;simp[ho,Op.operands]);rw[he]at h1;rw[hm]at h2;have wN:=dg h2;obtain⟨uh,Ig,Ih⟩:=KB.1 _ hh;have Lc:=dg Ih;subst Lc;have wx: ∃ad cap,a.eval x= .slice ad n cap∧n≤cap:=by
  simp only[aV]at h1;obtain⟨ad,cap,e1,e2,_⟩:=h1;exact⟨ad,cap,e1,e2⟩
 obtain⟨ad,cap,nH,hle⟩:=wx;have wy:=vz (R8:=true) (P:=X.P) (k1:=k1) (k2:=k2) (q:=q) hb hh hle w GB.1 GB.2;obtain⟨ad',TZ,e1,e2,e3⟩:=GC R h1 cy hk wy.2.1 wy.2.2 (m:=h) (Nat.le_refl _);rw[nH]at e1;simp at e1;obtain⟨rfl,rfl⟩:=e1;refine Out.pure (u:=_) R ?_ (e3 (by omega)) hs;simp[execOp,ho,nH,Instr.sliceAt,Instr.slice,run_underlying hu,wN,Ig,wy.1,run_sizeOf T]
theorem zu {t:TypeId} {x:Operand} {lo hi:Option Operand} (ho:o.op= .slice t x lo hi none) (R:Rel w I σ S.h) (F:dM w I σ S.f a) (hx:jd o)
  (hu:X.P.underlying t=some .string) {s:List UInt8} {l h:Nat} (he:S.ev x= .str s) (hb:bounds (lo.map S.ev) (hi.map S.ev) s.length=some (l,h)) (hs:S1=S.set o.dst (.str ((s.take h).drop l))):Out X o a w I σ S S1:=by
 have h1:aV w I σ (S.ev x) (a.eval x):=cj (S:=S) F (hx x (by simp[ho,Op.operands]));have GB:=mg F hx lo (by intro y hy;subst hy;simp[ho,Op.operands]);have KB:=mg F hx hi (by intro y hy;subst hy;simp[ho,Op.operands]);rw[he]at h1;obtain⟨bs,T1,rfl⟩:=mf h1;have hl:bs.data.toList.length=bs.size:=Array.length_toList;rw[hl]at hb;have wy:=sJ (R8:=false) (P:=X.P) hb (Nat.le_refl _) w GB.1 GB.2 KB.1 KB.2;refine Out.pure (u:= .string (bs.extract l h)) R ?_ ?_ hs
 ·simp[execOp,ho,T1,Instr.sliceAt,Instr.slice,run_underlying hu,wy.1]
 ·simp only[aV];exact⟨_,rfl,by simp[ByteArray.data_extract,List.extract_eq_take_drop,List.drop_take]⟩
end
end Go.Abs
