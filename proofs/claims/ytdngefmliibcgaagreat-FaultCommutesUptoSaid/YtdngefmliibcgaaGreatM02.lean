/- Part of a proof: engine A4. -/
import Derived.Test.YtdngefmliibcgaaGreatM00
import Derived.WalkKit
set_option linter.all false
set_option maxRecDepth 20000
set_option maxHeartbeats 20000000
namespace Go.Abs
open Go
variable  {v e:V}{u z:Value}{es cs:List V}{c c':Array Value}{el t:TypeId}{P:Program}{x:TI}{us:List Value}
abbrev jt:=Nat->Option (Nat×Nat×Nat)
def fy:jt:=fun _=>none
def tQ:Bool->Value->Prop
 |true,u=> ∃t p,u= .iface t p
 |false,u=>u= .nilIface
mutual
def dB(w:World)(I:Nat->Prop)(σ:jt):V->Value->Prop
 | .int k n,u=>u= .int k n
 | .bool b,u=>u= .bool b
 | .str s,u=> ∃x:ByteArray,u= .string x/\x.data.toList=s
 | .agg cs,u=> ∃us,u= .agg us/\fP w I σ cs us.toList
 | .dM cs,u=> ∃us,u= .tuple us/\iN w I σ cs us.toList
 | .sl c es,u=> ∃a cap,u= .slice a es.length cap/\es.length<=cap/\cap<=maxLen/\(c=true->cap=es.length)/\
   (es=[]\/ ∃b o k,a=some ⟨b,o,none⟩/\I b/\dK w I fy es k b o)
 | .ref cs,u=> ∃b o,u= .pointer (some ⟨b,o,none⟩)/\I b/\qH w I fy cs b o
 | .cu id s l,u=> ∃a cap,u= .slice a l cap/\l<=cap/\cap<=maxLen/\
   (cap=0\/ ∃b o k c el fz,σ id=some (b,o,k)/\a=some ⟨b,o+s*k,none⟩/\w.heap[b]?=some (.cells c el fz)/\o+(s+cap)*k<=c.size)
 | .ptr id i f,u=> ∃b o k,σ id=some (b,o,k)/\u= .pointer (some ⟨b,o+i*k+f,none⟩)
 | .u7,u=>u= .pointer none
 | .OQ b,u=>tQ b u
 | .fn g bwf bs,u=> ∃us vs,u= .func (.func g) us vs/\iN w I σ bwf us.toList/\iN w I σ bs vs.toList
 | .bad,_=>True
def fP (w:World) (I:Nat->Prop) (σ:jt):List V->List Value->Prop
 | [],us=>us=[]
 |c::cs,us=> ∃u r,us=u::r/\u.oneCell'=true/\dB w I σ c u/\fP w I σ cs r
def iN (w:World) (I:Nat->Prop) (σ:jt):List V->List Value->Prop
 | [],us=>us=[]
 |c::cs,us=> ∃u r,us=u::r/\dB w I σ c u/\iN w I σ cs r
def qH (w:World) (I:Nat->Prop) (σ:jt):List V->Nat->Nat->Prop
 | [],_,_=>True
 |c::cs,b,o=>(∃u,w.cell? ⟨b,o,none⟩=some u/\u.oneCell'=true/\dB w I σ c u)/\qH w I σ cs b (o+1)
def dK (w:World) (I:Nat->Prop) (σ:jt):List V->Nat->Nat->Nat->Prop
 | [],_,_,_=>True
 | .agg cs::es,k,b,o=>cs.length=k/\qH w I σ cs b o/\dK w I σ es k b (o+k)
 |e::es,k,b,o=>k=1/\(∃u,w.cell? ⟨b,o,none⟩=some u/\u.oneCell'=true/\dB w I σ e u)/\dK w I σ es k b (o+k)
end
structure Ext (w:World) (I:Nat->Prop) (σ:jt) (w':World) (I':Nat->Prop) (σ':jt):Prop where
 LV: ∀b,I b->w'.heap[b]?=w.heap[b]?
 grow: ∀(b:Nat) c el fz,w.heap[b]?=some (Obj.cells c el fz)-> ∃c' fz',w'.heap[b]?=some (Obj.cells c' el fz')/\c'.size=c.size
 imp: ∀b,I b->I' b
 sig: ∀id x,σ id=some x->σ' id=some x
def Ext.refl(w:World)(I:Nat->Prop)(σ:jt):Ext w I σ w I σ:=
 ⟨fun _ _=>rfl,fun _ c _ fz h=>⟨c,fz,h,rfl⟩,fun _ h=>h,fun _ _ h=>h⟩
def Ext.trans{w w1 w2:World}{I I1 I2:Nat->Prop}{σ σ1 σ2:jt}(h:Ext w I σ w1 I1 σ1)(h':Ext w1 I1 σ1 w2 I2 σ2):Ext w I σ w2 I2 σ2:=
  ⟨fun b hb=>(h'.LV b (h.imp b hb)).trans (h.LV b hb),
   fun b c el fz hb=>by
    obtain⟨c1,fz1,h1,e1⟩:=h.grow b c el fz hb;obtain⟨c2,fz2,h2,e2⟩:=h'.grow b c1 el fz1 h1
    grind,
   fun b hb=>h'.imp b (h.imp b hb),fun id x hx=>h'.sig id x (h.sig id x hx)⟩
def Ext.Ke{w w':World}{I I':Nat->Prop}{σ σ':jt}(E:Ext w I σ w' I' σ'):Ext w I fy w' I' fy:=
 ⟨E.LV,E.grow,E.imp,fun _ _ h=>h⟩
section
variable {w w':World} {I I':Nat->Prop}
mutual
theorem dB.ext': ∀(v:V) (u:Value) {σ σ':jt},Ext w I σ w' I' σ'->dB w I σ v u->dB w' I' σ' v u
 | .int k n,u,σ,σ',E,h=>by simpa[dB] using h
 | .bool b,u,σ,σ',E,h=>by simpa[dB] using h
 | .str s,u,σ,σ',E,h=>by simpa[dB] using h
 | .agg cs,u,σ,σ',E,h=>by
  obtain⟨us,e,hr⟩:=h;exact⟨us,e,fP.ext' cs us.toList E hr⟩
 | .dM cs,u,σ,σ',E,h=>by
  obtain⟨us,e,hr⟩:=h;exact⟨us,e,iN.ext' cs us.toList E hr⟩
 | .sl c es,u,σ,σ',E,h=>by
  obtain⟨a,cap,e,h1,h2,h3,h4⟩:=h;refine⟨a,cap,e,h1,h2,h3,?_⟩;rcases h4 with h4|⟨b,o,k,ha,hI,hr⟩
  ·grind
  ·exact .inr ⟨b,o,k,ha,E.imp b hI,dK.ext' es k b o E.Ke hI hr⟩
 | .ref cs,u,σ,σ',E,h=>by
  obtain⟨b,o,e,hI,hr⟩:=h;exact⟨b,o,e,E.imp b hI,qH.ext' cs b o E.Ke hI hr⟩
 | .cu id s l,u,σ,σ',E,h=>by
  obtain⟨a,cap,e,h1,h2,h3⟩:=h;refine⟨a,cap,e,h1,h2,?_⟩;rcases h3 with h3|⟨b,o,k,c,el,fz,hs,ha,hb,hle⟩
  ·omega
  ·obtain⟨c',fz',wL,hc⟩:=E.grow b c el fz hb;exact .inr ⟨b,o,k,c',el,fz',E.sig _ _ hs,ha,wL,by omega⟩
 | .ptr id i f,u,σ,σ',E,h=>by
  obtain⟨b,o,k,hs,e⟩:=h;exact⟨b,o,k,E.sig _ _ hs,e⟩
 | .u7,u,σ,σ',E,h=>by simpa[dB] using h
 | .OQ b,u,σ,σ',E,h=>by simpa only[dB] using h
 | .fn g bwf bs,u,σ,σ',E,h=>by
  obtain⟨us,vs,e,h1,h2⟩:=h;exact⟨us,vs,e,iN.ext' bwf us.toList E h1,iN.ext' bs vs.toList E h2⟩
 | .bad,u,σ,σ',E,h=>by simp[dB]
theorem fP.ext': ∀(cs:List V) (us:List Value) {σ σ':jt},Ext w I σ w' I' σ'->fP w I σ cs us->fP w' I' σ' cs us
 | [],us,σ,σ',E,h=>by simpa[fP] using h
 |c::cs,us,σ,σ',E,h=>by
  obtain⟨u,r,e,h1,h2,h3⟩:=h;exact⟨u,r,e,h1,dB.ext' c u E h2,fP.ext' cs r E h3⟩
theorem iN.ext': ∀(cs:List V) (us:List Value) {σ σ':jt},Ext w I σ w' I' σ'->iN w I σ cs us->iN w' I' σ' cs us
 | [],us,σ,σ',E,h=>by simpa[iN] using h
 |c::cs,us,σ,σ',E,h=>by
  obtain⟨u,r,e,h2,h3⟩:=h;exact⟨u,r,e,dB.ext' c u E h2,iN.ext' cs r E h3⟩
theorem qH.ext': ∀(cs:List V) (b o:Nat) {σ σ':jt},Ext w I σ w' I' σ'->I b->qH w I σ cs b o->qH w' I' σ' cs b o
 | [],b,o,σ,σ',E,hI,h=>by simp[qH]
 |c::cs,b,o,σ,σ',E,hI,h=>by
  obtain⟨⟨u,h1,h2,h3⟩,h4⟩:=h;exact⟨⟨u,by rw[World.cell?_of_block (E.LV b hI)];omega,h2,dB.ext' c u E h3⟩,qH.ext' cs b (o+1) E hI h4⟩
theorem dK.ext': ∀(es:List V) (k b o:Nat) {σ σ':jt},Ext w I σ w' I' σ'->I b->dK w I σ es k b o->dK w' I' σ' es k b o
 | [],k,b,o,σ,σ',E,hI,h=>by simp[dK]
 | .agg cs::es,k,b,o,σ,σ',E,hI,h=>by
  exact⟨h.1,qH.ext' cs b o E hI h.2.1,dK.ext' es k b (o+k) E hI h.2.2⟩
 | .int _ _::es,k,b,o,σ,σ',E,hI,h| .bool _::es,k,b,o,σ,σ',E,hI,h| .str _::es,k,b,o,σ,σ',E,hI,h| .dM _::es,k,b,o,σ,σ',E,hI,h
 | .sl _ _::es,k,b,o,σ,σ',E,hI,h| .ref _::es,k,b,o,σ,σ',E,hI,h| .cu _ _ _::es,k,b,o,σ,σ',E,hI,h| .ptr _ _ _::es,k,b,o,σ,σ',E,hI,h
 | .u7::es,k,b,o,σ,σ',E,hI,h| .OQ _::es,k,b,o,σ,σ',E,hI,h| .fn _ _ _::es,k,b,o,σ,σ',E,hI,h| .bad::es,k,b,o,σ,σ',E,hI,h=>by
  obtain⟨hk,⟨u,h1,h2,h3⟩,h4⟩:=h;exact⟨hk,⟨u,by rw[World.cell?_of_block (E.LV b hI)];omega,h2,dB.ext' _ u E h3⟩,dK.ext' es k b (o+k) E hI h4⟩
end
def wM: ∀l:List V,(eV l).length=l.length
 | []=>rfl
 |c::cs=>by simp[eV,wM cs]
mutual
def dB.nM: ∀(v:V) (u:Value) {σ:jt},dB w I σ v u->dB w I σ v.lM u
 | .int k n,u,σ,h=>h
 | .bool b,u,σ,h=>h
 | .str s,u,σ,h=>h
 | .agg cs,u,σ,h=>by
  obtain⟨us,e,hr⟩:=h;exact⟨us,e,fP.nM cs us.toList hr⟩
 | .dM cs,u,σ,h=>by
  obtain⟨us,e,hr⟩:=h;exact⟨us,e,iN.nM cs us.toList hr⟩
 | .sl c es,u,σ,h=>by
  simp only[dB,V.lM]at h⊢;obtain⟨a,cap,e,h1,h2,h3,h4⟩:=h;rw[wM];refine⟨a,cap,e,h1,h2,(fun hh=>by grind),?_⟩;rcases h4 with h4|⟨b,o,k,ha,hI,hr⟩
  ·subst h4;exact .inl rfl
  ·exact .inr ⟨b,o,k,ha,hI,dK.nM es k b o hr⟩
 | .ref cs,u,σ,h=>h
 | .cu id s l,u,σ,h=>h
 | .ptr id i f,u,σ,h=>h
 | .u7,u,σ,h=>h
 | .OQ _,u,σ,h=>h
 | .fn g bwf bs,u,σ,h=>h
 | .bad,u,σ,h=>h
def fP.nM: ∀(cs:List V) (us:List Value) {σ:jt},fP w I σ cs us->fP w I σ (eV cs) us
 | [],us,σ,h=>h
 |c::cs,us,σ,h=>by
  obtain⟨u,r,e,h1,h2,h3⟩:=h;exact⟨u,r,e,h1,dB.nM c u h2,fP.nM cs r h3⟩
def iN.nM: ∀(cs:List V) (us:List Value) {σ:jt},iN w I σ cs us->iN w I σ (eV cs) us
 | [],us,σ,h=>h
 |c::cs,us,σ,h=>by
  obtain⟨u,r,e,h2,h3⟩:=h;exact⟨u,r,e,dB.nM c u h2,iN.nM cs r h3⟩
def qH.nM: ∀(cs:List V) (b o:Nat) {σ:jt},qH w I σ cs b o->qH w I σ (eV cs) b o
 | [],b,o,σ,h=>h
 |c::cs,b,o,σ,h=>by
  obtain⟨⟨u,h1,h2,h3⟩,h4⟩:=h;exact⟨⟨u,h1,h2,dB.nM c u h3⟩,qH.nM cs b (o+1) h4⟩
def dK.nM: ∀(es:List V) (k b o:Nat) {σ:jt},dK w I σ es k b o->dK w I σ (eV es) k b o
 | [],k,b,o,σ,h=>h
 | .agg cs::es,k,b,o,σ,h=>by
  exact⟨by rw[wM];exact h.1,qH.nM cs b o h.2.1,dK.nM es k b (o+k) h.2.2⟩
 | .sl c cs::es,k,b,o,σ,h=>by
  obtain⟨hk,⟨u,h1,h2,h3⟩,h4⟩:=h;have:=dB.nM (.sl c cs) u h3;exact⟨hk,⟨u,h1,h2,this⟩,dK.nM es k b (o+k) h4⟩
 | .dM cs::es,k,b,o,σ,h=>by
  obtain⟨hk,⟨u,h1,h2,h3⟩,h4⟩:=h;have:=dB.nM (.dM cs) u h3;exact⟨hk,⟨u,h1,h2,this⟩,dK.nM es k b (o+k) h4⟩
 | .int _ _::es,k,b,o,σ,h| .bool _::es,k,b,o,σ,h| .str _::es,k,b,o,σ,h
 | .ref _::es,k,b,o,σ,h| .cu _ _ _::es,k,b,o,σ,h| .ptr _ _ _::es,k,b,o,σ,h
 | .u7::es,k,b,o,σ,h| .OQ _::es,k,b,o,σ,h| .fn _ _ _::es,k,b,o,σ,h| .bad::es,k,b,o,σ,h=>by
  exact⟨h.1,h.2.1,dK.nM es k b (o+k) h.2.2⟩
end
def dB.lM{σ:jt}{v:V}{u:Value}(h:dB w I σ v u):dB w I σ v.lM u:=dB.nM v u h
def dB.ext{σ σ':jt}(E:Ext w I σ w' I' σ')(h:dB w I σ v u):dB w' I' σ' v u:=dB.ext' v u E h
end
def a5y:Nat->Option (Obj->Prop):=fun _=>none
def Cg(w:World)(I:Nat->Prop)(σ:jt)(cs:List V)(b o:Nat):Prop:=
 ∀j c,cs[j]?=some c-> ∃u,w.cell? ⟨b,o+j,none⟩=some u/\u.oneCell'=true/\dB w I σ c u
section
variable {w w':World} {I I':Nat->Prop} {σ σ':jt}
theorem tG: ∀(cs:List V) (b o:Nat),qH w I σ cs b o↔Cg w I σ cs b o
 | [],b,o=>by simp[qH,Cg]
 |c::cs,b,o=>by
  simp only[qH];rw[tG cs b (o+1)];constructor
  ·rintro⟨h1,h2⟩ j x hj;cases j with
   |zero=>grind
   |succ j=>
    have:=h2 j x (by grind)
    grind
  ·intro h;refine⟨by simpa using h 0 c (by simp),fun j x hj=> ?_⟩;have:=h (j+1) x (by grind)
   grind
theorem kM(e:V)(es:List V)(k b o:Nat):dK w I σ (e::es) k b o↔e.cells.length=k/\Cg w I σ e.cells b o/\dK w I σ es k b (o+k):=by
 cases e with
 |agg cs=>simp only[dK,V.cells,tG]
 |_=>
  simp only[dK,V.cells,<-tG,qH,abJ,acM,and_true]
  grind
theorem lN: ∀(es:List V) (k b o:Nat),dK w I σ es k b o↔ ∀i e,es[i]?=some e->e.cells.length=k/\Cg w I σ e.cells b (o+i*k)
 | [],k,b,o=>by simp[dK]
 |e::es,k,b,o=>by
  rw[kM,lN es k b (o+k)];constructor
  ·rintro⟨h1,h2,h3⟩ i x hi;cases i with
   |zero=>grind
   |succ i=>
    grind
  ·intro h;have h0:=h 0 e (by simp);refine⟨h0.1,by grind,fun i x hi=> ?_⟩;have:=h (i+1) x (by grind)
   grind
theorem mP: ∀(cs:List V) (us:List Value),iN w I σ cs us↔cs.length=us.length/\ ∀(j:Nat) c u,cs[j]?=some c->us[j]?=some u->dB w I σ c u
 | [],us=>by
  constructor
  ·rintro rfl;simp
  ·rintro⟨h,_⟩;exact abP (by grind)
 |c::cs,us=>by
  constructor
  ·rintro⟨u,r,rfl,h1,h2⟩;rw[mP cs r]at h2
   grind
  ·rintro⟨hl,h⟩;cases us with
   |nil=>grind
   |cons u r=>
    exact⟨u,r,rfl,h 0 c u (by simp) (by simp),(mP cs r).2 ⟨by grind,fun j x y hx hy=>h (j+1) x y (by grind) (by grind)⟩⟩
theorem dL: ∀(cs:List V) (us:List Value),fP w I σ cs us↔cs.length=us.length/\ ∀(j:Nat) c u,cs[j]?=some c->us[j]?=some u->u.oneCell'=true/\dB w I σ c u
 | [],us=>by
  constructor
  ·rintro rfl;simp
  ·rintro⟨h,_⟩;exact abP (by grind)
 |c::cs,us=>by
  constructor
  ·rintro⟨u,r,rfl,h0,h1,h2⟩;rw[dL cs r]at h2
   grind
  ·rintro⟨hl,h⟩;cases us with
   |nil=>grind
   |cons u r=>
    have:=h 0 c u (by simp) (by simp);exact⟨u,r,rfl,this.1,this.2,(dL cs r).2 ⟨by grind,fun j x y hx hy=>h (j+1) x y (by grind) (by grind)⟩⟩
theorem Cg.ext(E:Ext w I σ w' I' σ'){cs:List V}{b o:Nat}(h:Cg w I σ cs b o)(hb:w'.heap[b]?=w.heap[b]?):Cg w' I' σ' cs b o:=by
 intro j c hj;obtain⟨u,h1,h2,h3⟩:=h j c hj;exact⟨u,by rw[World.cell?_of_block hb];omega,h2,h3.ext E⟩
theorem dK.nZ(E:Ext w I σ w' I' σ'){k b o:Nat}(h:dK w I σ es k b o)(hb:w'.heap[b]?=w.heap[b]?):dK w' I' σ' es k b o:=by
 rw[lN]at h⊢;intro i e hi;exact⟨(h i e hi).1,(h i e hi).2.ext E hb⟩
end
def my(eU:Bool)(σ:jt):jt:=if eU then σ else fy
def Ext.qX{w w':World}{I I':Nat->Prop}{σ σ':jt}(E:Ext w I σ w' I' σ')(eU:Bool):Ext w I (my eU σ) w' I' (my eU σ'):=by
 cases eU
 ·exact E.Ke
 ·exact E
def Ext.free{w:World}{I:Nat->Prop}{σ:jt}:Ext w I fy w I σ:=
 ⟨fun _ _=>rfl,fun _ c _ fz h=>⟨c,fz,h,rfl⟩,fun _ h=>h,fun id x h=>by cases h⟩
def Ext.ES{w:World}{I:Nat->Prop}{σ:jt}(eU:Bool):Ext w I (my eU σ) w I σ:=by
 cases eU
 ·exact Ext.free
 ·exact .refl w I σ
def kN(w:World)(b:Nat)(c:Array Value)(el:TypeId):Prop:= ∃fz:Nat×Nat,w.heap[b]?=some (Obj.cells c el fz)/\(fz.2<=fz.1\/c.size<=fz.1)
def kN.same{w w':World}{b:Nat}(h:kN w b c el)(hb:w'.heap[b]?=w.heap[b]?):kN w' b c el:=by
 obtain⟨fz,h1,h2⟩:=h;exact⟨fz,by grind,h2⟩
def kN.zero{w:World}{b:Nat}(h:w.heap[b]?=some (Obj.cells c el (0,0))):kN w b c el:=⟨(0,0),h,.inl (aaI _)⟩
def kN.set{w:World}{b:Nat}(h:kN w b c el)(sY:c'.size=c.size):kN (w.setRow b c') b c' el:=by
 obtain⟨fz,h1,h2⟩:=h;exact⟨fz,setRow_heap w b c c' el fz h1,by omega⟩
def kN.free{w:World}{b:Nat}(h:kN w b c el){j:Nat}(hj:j<c.size):w.frozen? ⟨b,j,none⟩=false:=by
 obtain⟨fz,h1,h2⟩:=h;simp only[World.frozen?,h1]
 grind
def kN.lt{w:World}{b:Nat}(h:kN w b c el):b<w.heap.size:=by
 obtain⟨fz,h1,_⟩:=h
 grind
def kN.at{w:World}{b:Nat}(h:kN w b c el): ∃fz,w.heap[b]?=some (Obj.cells c el fz):=by
 obtain⟨fz,h1,_⟩:=h
 grind
def LW(w:World)(I:Nat->Prop)(σ:jt)(id:Nat)(ob:Ob):Prop:=
 (ob.es=[]/\σ id=none)\/
 ∃b o c el,σ id=some (b,o,ob.k)/\ ¬I b/\kN w b c el/\o+ob.es.length*ob.k<=c.size/\dK w I (my ob.eU σ) ob.es ob.k b o
def jk(σ:jt)(h:bh)(b:Nat):Prop:= ∃id ob o k,h id=some ob/\σ id=some (b,o,k)
def Kf(w:World)(I:Nat->Prop):Prop:= ∀b p,a5y b=some p->I b/\ ∃ob,w.heap[b]?=some ob/\p ob
def Kf.ext{w w':World}{I I':Nat->Prop}{σ σ':jt}(E:Ext w I σ w' I' σ')(G:Kf w I):Kf w' I':=fun b p hb=>by
 obtain⟨h1,ob,h2,h3⟩:=G b p hb;exact⟨E.imp b h1,ob,by rw[E.LV b h1];omega,h3⟩
def Kf.sub{w:World}{I I':Nat->Prop}(G:Kf w I)(h: ∀b,I b->I' b):Kf w I':=fun b p hb=>⟨h b (G b p hb).1,(G b p hb).2⟩
structure Rel (w:World) (I:Nat->Prop) (σ:jt) (h:bh):Prop where
 ed: ∀b,I b->b<w.heap.size
 obj: ∀id ob,h id=some ob->LW w I σ id ob
 apart: ∀id nN ob oK b o k o' k',h id=some ob->h nN=some oK->σ id=some (b,o,k)->σ nN=some (b,o',k')->id=nN
 Av:Kf w I
section
variable {w w':World} {I I':Nat->Prop} {σ σ':jt} {h h':bh}
theorem Rel.owned(R:Rel w I σ h){b:Nat}(hb:jk σ h b): ¬I b/\ ∃c el,kN w b c el:=by
 obtain⟨id,ob,o,k,h1,h2⟩:=hb;rcases R.obj id ob h1 with⟨_,hn⟩|⟨b',o',c,el,hs,hi,hh,_⟩
 ·grind
 grind
theorem Rel.eU (R:Rel w I σ h) (E:Ext w I σ w' I' σ') (hI: ∀b,I' b->b<w'.heap.size)
  (hb: ∀b,jk σ h b->w'.heap[b]?=w.heap[b]?/\ ¬I' b) (hs: ∀id,h id≠none->σ' id=σ id):Rel w' I' σ' h:=by
 refine⟨hI,fun id ob ho=> ?_,fun id nN ob oK b o k o' k' h1 h2 h3 h4=> ?_,R.Av.ext E⟩
 ·have bge:=hs id (by grind);rcases R.obj id ob ho with⟨he,hn⟩|⟨b,o,c,el,mX,hi,hh,hle,hr⟩
  ·exact .inl ⟨he,by grind⟩
  ·have:=hb b ⟨id,ob,o,ob.k,ho,mX⟩;exact .inr ⟨b,o,c,el,by grind,this.2,hh.same this.1,hle,hr.nZ (E.qX _) this.1⟩
 ·rw[hs id (by grind)]at h3;rw[hs nN (by grind)]at h4;exact R.apart id nN ob oK b o k o' k' h1 h2 h3 h4
theorem Rel.sub(R:Rel w I σ h)(hh: ∀id ob,h' id=some ob->h id=some ob):Rel w I σ h':=
 ⟨R.ed,fun id ob ho=>R.obj id ob (hh id ob ho),fun id nN ob oK b o k o' k' h1 h2=>R.apart id nN ob oK b o k o' k' (hh _ _ h1) (hh _ _ h2),R.Av⟩
theorem Rel.kill(R:Rel w I σ h)(id:Nat):Rel w I σ (aR h id none):=
 R.sub fun i ob hi=>by grind [aR]
theorem Ext.Ul{n:Nat}{x:Nat×Nat×Nat}(hn:σ n=none):Ext w I σ w I (aR σ n (some x)):=
 ⟨fun _ _=>rfl,fun _ c _ fz h=>⟨c,fz,h,rfl⟩,fun _ h=>h,fun id y hy=>by grind [aR]⟩
theorem Rel.X3 (R:Rel w I σ h) {n b o k:Nat}  {eU:Bool}   (hn:h n=none) (hs:σ n=none)
  (hb:kN w b c el) (hi: ¬I b) (ho: ¬jk σ h b) (hle:o+es.length*k<=c.size)
  (hr:dK w I (my eU (aR σ n (some (b,o,k)))) es k b o):Rel w I (aR σ n (some (b,o,k))) (aR h n (some ⟨k,es,eU⟩)):=by
 have E:Ext w I σ w I (aR σ n (some (b,o,k))):=Ext.Ul hs;have fg: ∀id,h id≠none->aR σ n (some (b,o,k)) id=σ id:=by
  intro id fg;unfold aR;split
  ·grind
  ·rfl
 refine⟨R.ed,fun id ob gG=> ?_,fun id nN ob oK b1 o1 k1 o2 k2 h1 h2 h3 h4=> ?_,R.Av⟩
 ·unfold aR at gG;split at gG
  ·rename_i e;subst e;simp at gG;subst gG;exact .inr ⟨b,o,c,el,by simp[aR],hi,hb,hle,hr⟩
  ·have:=fg id (by grind);rcases R.obj id ob gG with⟨he,LX⟩|⟨b',o',c',Pm,mX,oE,hh,D0,Df⟩
   ·exact .inl ⟨he,by grind⟩
   ·exact .inr ⟨b',o',c',Pm,by grind,oE,hh,D0,Df.nZ (E.qX _) rfl⟩
 ·have key: ∀id ob,aR h n (some (⟨k,es,eU⟩:Ob)) id=some ob->id≠n->h id=some ob:=by
   intro id ob hx kC;simpa[aR,kC] using hx
  by_cases e1:id=n
  ·by_cases e2:nN=n
   ·omega
   ·exfalso;subst e1;have OT:=key nN oK h2 e2;rw[fg nN (by grind)]at h4;simp[aR]at h3;obtain⟨rfl,_⟩:=h3;exact ho ⟨nN,oK,o2,k2,OT,h4⟩
  ·have uE:=key id ob h1 e1;rw[fg id (by grind)]at h3;by_cases e2:nN=n
   ·exfalso;subst e2;simp[aR]at h4;obtain⟨rfl,_⟩:=h4;exact ho ⟨id,ob,o1,k1,uE,h3⟩
   ·have OT:=key nN oK h2 e2;rw[fg nN (by grind)]at h4;exact R.apart id nN ob oK b1 o1 k1 o2 k2 uE OT h3 h4
theorem Rel.X4(R:Rel w I σ h){n k:Nat}{eU:Bool}(hn:h n=none)(hs:σ n=none):Rel w I σ (aR h n (some ⟨k,[],eU⟩)):=by
 refine⟨R.ed,fun id ob gG=> ?_,fun id nN ob oK b o k o' k' h1 h2 h3 h4=> ?_,R.Av⟩
 ·unfold aR at gG;split at gG
  ·rename_i e;subst e;simp at gG;subst gG;exact .inl ⟨rfl,hs⟩
  ·exact R.obj id ob gG
 ·by_cases e1:id=n
  ·grind
  ·by_cases e2:nN=n
   ·grind
   ·exact R.apart id nN ob oK b o k o' k' (by grind [aR]) (by grind [aR]) h3 h4
end
structure Step (w:World) (I:Nat->Prop) (σ:jt) (h:bh) (n:Nat) (w':World) (I':Nat->Prop) (σ':jt) (h':bh) (n':Nat):Prop where
 ext:Ext w I σ w' I' σ'
 rel:Rel w' I' σ' h'
 os:w'.os=w.os
 tape:w'.tape=w.tape
 output:w'.output=w.output
 size:w.heap.size<=w'.heap.size
 frame: ∀b,b<w.heap.size-> ¬jk σ h b->w'.heap[b]?=w.heap[b]?
 own: ∀b,jk σ' h' b->w.heap.size<=b\/jk σ h b
 vS: ∀b,I' b->I b\/w.heap.size<=b\/jk σ h b
 le:n<=n'
 sigs: ∀id,id<n\/n'<=id->σ' id=σ id
 news: ∀id,id<n\/n'<=id->h id=none->h' id=none
section
variable {w w1 w2:World} {I I1 I2:Nat->Prop} {σ σ1 σ2:jt} {h h1 h2:bh} {n n1 n2:Nat}
theorem Step.refl(R:Rel w I σ h)(n:Nat):Step w I σ h n w I σ h n:=
 ⟨.refl w I σ,R,rfl,rfl,rfl,aaI _,fun _ _ _=>rfl,fun _ hb=> .inr hb,fun _ hb=> .inl hb,aaI _,fun _ _=>rfl,fun _ _ h=>h⟩
theorem Step.trans(s:Step w I σ h n w1 I1 σ1 h1 n1)(s':Step w1 I1 σ1 h1 n1 w2 I2 σ2 h2 n2):Step w I σ h n w2 I2 σ2 h2 n2 where
 ext:=s.ext.trans s'.ext
 rel:=s'.rel
 os:=s'.os.trans s.os
 tape:=s'.tape.trans s.tape
 output:=s'.output.trans s.output
 size:=abG s.size s'.size
 frame:=fun b hb ho=>(s'.frame b (abS hb s.size) (fun hx=>by
  rcases s.own b hx with hx|hx
  ·omega
  grind)).trans (s.frame b hb ho)
 own:=fun b hb=>by
  rcases s'.own b hb with hx|hx
  ·exact .inl (abG s.size hx)
  ·exact s.own b hx
 vS:=fun b hb=>by
  rcases s'.vS b hb with hx|hx|hx
  ·exact s.vS b hx
  ·exact .inr (.inl (abG s.size hx))
  ·exact .inr (s.own b hx)
 le:=abG s.le s'.le
 sigs:=fun id fg=>by
  have l1:=s.le;have l2:=s'.le;rw[s'.sigs id (by omega),s.sigs id (by omega)]
 news:=fun id fg hn=>by
  have l1:=s.le;have l2:=s'.le;exact s'.news id (by omega) (s.news id (by omega) hn)
end
def Rel.write {w:World} {I:Nat->Prop} {σ:jt} {h:bh} (R:Rel w I σ h) {id b o k:Nat} {ob:Ob}  {eU:Bool}  
  (ho:h id=some ob) (hs:σ id=some (b,o,k)) (hb:kN w b c el) (sY:c'.size=c.size) (hle:o+es.length*k<=c.size)
  (hr:dK (w.setRow b c') I (my eU σ) es k b o) (n:Nat):Step w I σ h n (w.setRow b c') I σ (aR h id (some ⟨k,es,eU⟩)) n:=by
 have rV:jk σ h b:=⟨id,ob,o,k,ho,hs⟩;have hI: ¬I b:=(R.owned rV).1;have E:Ext w I σ (w.setRow b c') I σ:=by
  refine⟨fun b' wL=>setRow_other w b b' c' (fun e=>hI (e▸wL)),fun b' c1 el1 fz hc=> ?_,fun _ h=>h,fun _ _ h=>h⟩;by_cases e:b'=b
  ·subst e;obtain⟨fz0,Lw,_⟩:=hb;rw[Lw]at hc;obtain⟨rfl,rfl,rfl⟩:=hc;exact⟨c',_,setRow_heap w b' c c' el _ Lw,sY⟩
  ·exact⟨c1,fz,by rw[setRow_other w b b' c' e];omega,rfl⟩
 have key: ∀i x,aR h id (some (⟨k,es,eU⟩:Ob)) i=some x->i≠id->h i=some x:=by
  intro i x hx kC;simpa[aR,kC] using hx
 refine⟨E,⟨fun b' wL=>by simpa using R.ed b' wL,fun i x hx=> ?_,fun i i' x x' b1 o1 k1 o2 k2 h1 h2 h3 h4=> ?_,R.Av.ext E⟩,rfl,rfl,rfl,by simp,fun b' _ zp=>setRow_other w b b' c' (fun e=>zp (e▸rV)),
  fun b' wL=> .inr ?_,fun _ h=> .inl h,aaI _,fun _ _=>rfl,fun i hi Ho=>by grind [aR]⟩
 ·by_cases e:i=id
  ·subst e;simp[aR]at hx;subst hx;exact .inr ⟨b,o,c',el,hs,hI,hb.set sY,by grind,hr⟩
  ·have Hy:=key i x hx e;rcases R.obj i x Hy with⟨he,LX⟩|⟨b',o',c1,el1,mX,oE,hh,D0,Df⟩
   ·exact .inl ⟨he,LX⟩
   ·have kC:b'≠b:=fun e'=>e (R.apart i id x ob b o' x.k o k Hy ho (e'▸mX) hs);have sZ:=setRow_other w b b' c' kC;exact .inr ⟨b',o',c1,el1,mX,oE,hh.same sZ,D0,Df.nZ (E.qX _) sZ⟩
 ·by_cases e1:i=id
  ·by_cases e2:i'=id
   ·omega
   ·subst e1;exact R.apart i i' ob x' b1 o1 k1 o2 k2 ho (key i' x' h2 e2) h3 h4
  ·by_cases e2:i'=id
   ·subst e2;exact R.apart i i' x ob b1 o1 k1 o2 k2 (key i x h1 e1) ho h3 h4
   ·exact R.apart i i' x x' b1 o1 k1 o2 k2 (key i x h1 e1) (key i' x' h2 e2) h3 h4
 ·obtain⟨i,x,o1,k1,h1,h2⟩:=wL;by_cases e:i=id
  ·grind
  ·exact⟨i,x,o1,k1,key i x h1 e,h2⟩
def SD:V->Value->Bool
 | .int k n,.int k' n'=>k==k'&&n==n'
 | .bool b,.bool b'=>b==b'
 | .str [],.string s=>s.data.toList.isEmpty
 | .sl true [],.slice none 0 0=>true
 | .u7,.pointer none=>true
 | .OQ false,.nilIface=>true
 | .bad,u=>u.oneCell'
 |_,_=>false
def Cn:List V->List Value->Bool
 | [],[]=>true
 |c::cs,u::us=>SD c u&&Cn cs us
 |_,_=>false
def IL:V->Value->Bool
 | .agg cs,.agg us=>Cn cs us.toList
 | .agg _,_=>false
 |v,u=>SD v u
def Aa(P:Program)(x:TI):TypeDesc->Bool
 | .struct fs=>x.agg&&x.wI==(fs.toList.map fun f=>(f.offset,P.cellsOf f.type))&&x.arr==none&&x.kind==none&&fs.toList.all fun f=>decide (0<P.cellsOf f.type)
 | .array n e=>x.agg&&x.arr==some n&&x.elem==e&&x.kind==none&&x.wI==[]
 | .slice e=> !x.agg&&x.elem==e&&x.arr==none&&x.kind==none&&x.wI==[]
 | .int k=> !x.agg&&x.kind==some k&&x.arr==none&&x.wI==[]
 |_=> !x.agg&&x.kind==none&&x.arr==none&&x.wI==[]
def tiB(P:Program)(t:TypeId)(x:TI):Bool:=
 match P.info? t,P.underlying t with
 |some i,some d=>i.size==x.size&&i.bytes==x.bytes&&decide (0<x.size)&&Aa P x d&& (match i.zero with
  |some z=>IL x.zero z&&x.zero.cells.length==x.size&&x.zero.fits x.size
  |none=>false)
 |_,_=>false
structure mo (P:Program) (t:TypeId) (x:TI):Prop where
 info: ∃i z,P.info? t=some i/\i.size=x.size/\i.bytes=x.bytes/\i.zero=some z/\IL x.zero z=true
 pos:0<x.size
 und: ∃d,P.underlying t=some d/\Aa P x d=true
 X5:x.zero.cells.length=x.size
 ap8:x.zero.fits x.size=true
def a51(h:tiB P t x=true):mo P t x:=by
 unfold tiB at h;split at h
 ·rename_i i d hi hd;cases hz:i.zero with
  |none=>grind
  |some z=>
   simp only[hz,aaF,beq_iff_eq,decide_eq_true_eq]at h;obtain⟨⟨⟨⟨h1,h2⟩,h3⟩,h4⟩,⟨h5,h6⟩,h7⟩:=h;exact⟨⟨i,z,hi,h1,h2,hz,h5⟩,h3,⟨d,hd,h4⟩,h6,h7⟩
 grind
section
variable {w:World} {I:Nat->Prop} {σ:jt}
theorem IM{c:V}(h:SD c u=true):u.oneCell'=true/\dB w I σ c u:=by
 unfold SD at h;split at h
 ·simp only[aaF,beq_iff_eq]at h;obtain⟨rfl,rfl⟩:=h;exact⟨rfl,by simp[dB]⟩
 ·simp only[beq_iff_eq]at h;subst h;exact⟨rfl,by simp[dB]⟩
 ·rename_i s;exact⟨rfl,by exact⟨s,rfl,List.isEmpty_iff.1 h⟩⟩
 ·exact⟨rfl,by exact⟨none,0,rfl,aaI _,ae4 _,fun _=>rfl,.inl (by simp)⟩⟩
 ·exact⟨rfl,by simp[dB]⟩
 ·exact⟨rfl,by simp[dB,tQ]⟩
 ·exact⟨h,by simp[dB]⟩
 grind
theorem ET: ∀{cs:List V} {us:List Value},Cn cs us=true->fP w I σ cs us
 | [],[],_=>by simp[fP]
 |c::cs,u::us,h=>by
  simp only[Cn,aaF]at h;have:=IM (w:=w) (I:=I) (σ:=σ) h.1;exact⟨u,us,rfl,this.1,this.2,ET h.2⟩
 | [],_::_,h=>by simp[Cn]at h
 |_::_,[],h=>by simp[Cn]at h
theorem dB.cells{v:V}{u:Value}{k:Nat}(hr:dB w I σ v u)(hf:v.fits k=true):v.cells.length=k/\fP w I σ v.cells u.cells.toList:=by
 cases v with
 |agg cs=>
  obtain⟨us,rfl,h⟩:=hr;exact⟨by simpa[V.fits,V.cells] using hf,h⟩
 |dM _=>simp[V.fits]at hf
 |bad=>simp[V.fits]at hf
 |OQ b=>
  have hk:k=1:=by simpa[V.fits] using hf
  refine⟨by simp[V.cells,hk],?_⟩;have Df:=hr;cases b with
  |true=>obtain⟨x,y,rfl⟩:=Df;exact⟨_,_,rfl,rfl,hr,rfl⟩
  |false=>subst Df;exact⟨_,_,rfl,rfl,hr,rfl⟩
 |_=>
  have hk:k=1:=by simpa[V.fits] using hf
  refine⟨by simp[V.cells,hk],?_⟩;have Df:=hr;first
   |(subst Df;exact⟨_,_,rfl,rfl,hr,rfl⟩)
   |(obtain⟨x,rfl,_⟩:=Df;exact⟨_,_,rfl,rfl,hr,rfl⟩)
   |(obtain⟨x,y,rfl,_⟩:=Df;exact⟨_,_,rfl,rfl,hr,rfl⟩)
   |(obtain⟨x,y,z,_,rfl⟩:=Df;exact⟨_,_,rfl,rfl,hr,rfl⟩)
theorem LY(T:mo P t x)(hz:IL x.zero z=true):dB w I σ x.zero z:=by
 unfold IL at hz;split at hz
 ·rename_i cs us h1;rw[h1];exact⟨us,rfl,ET hz⟩
 ·grind
 ·exact(IM hz).2
end
def jv(w:World)(I:Nat->Prop)(σ:jt)(f:Nat->V)(a:Act):Prop:= ∀t,dB w I σ (f t) (a.tmps.getD t undef)
def jv.ext{w w':World}{I I':Nat->Prop}{σ σ':jt}{f:Nat->V}{a:Act}(F:jv w I σ f a)(E:Ext w I σ w' I' σ'):jv w' I' σ' f a:=
 fun t=>(F t).ext E
def jv.put{w:World}{I:Nat->Prop}{σ:jt}{f:Nat->V}{a:Act}(F:jv w I σ f a){v:V}{u:Value}(hr:dB w I σ v u)(d:Nat)(hd:d<a.tmps.size):
  jv w I σ (aR f d v) (a.put (some d) u):=by
 intro t;unfold aR;simp only[Act.put];by_cases e:t=d
 ·simp_all
 ·simp only[e,if_false];have:(a.tmps.setIfInBounds d u).getD t undef=a.tmps.getD t undef:=by
   simp only[Array.getD,Array.size_setIfInBounds];split
   ·show(a.tmps.setIfInBounds d u)[t]'_=a.tmps[t]
    grind
   ·rfl
  rw[this];exact F t
def X6:Value->Bool
 | .agg cs=>cs.toList.all Value.oneCell'
 |_=>true
def ahk:Operand->Bool
 | .const v=>X6 v
 |_=>true
def LZ{w:World}{I:Nat->Prop}{σ:jt}(u:Value):dB w I σ (wK u) u:=by
 unfold wK;split
 ·simp[dB]
 ·simp[dB]
 ·exact⟨_,rfl,rfl⟩
 ·simp[dB]
 ·simp[dB,tQ]
 ·exact⟨none,0,rfl,aaI _,ae4 _,fun _=>rfl,.inl (by simp)⟩
 ·simp[dB]
def Um{w:World}{I:Nat->Prop}{σ:jt}(h:X6 u=true):dB w I σ (vO u) u:=by
 unfold vO;split
 ·rename_i cs;refine⟨cs,rfl,?_⟩;rw[dL];refine⟨by simp,fun j c x hc hx=> ?_⟩;rw[abm,hx]at hc;simp at hc;subst hc;exact⟨List.all_eq_true.1 h x (aaT hx),LZ x⟩
 ·exact LZ u
def fj{w:World}{I:Nat->Prop}{σ:jt}{S:St}{a:Act}(F:jv w I σ S.f a){x:Operand}(hx:ahk x=true):dB w I σ (S.ev x) (a.eval x):=by
 cases x with
 |tmp t=>exact F t
 |const v=>exact Um hx
 |global g=>simp[St.ev,dB]
 |func g=>
  exact⟨#[],#[],rfl,by simp[iN],by simp[iN]⟩
def zq(T:mo P t x)(w:World):(isAgg t).run P w= .ok x.agg w:=by
 obtain⟨d,hd,hb⟩:=T.und;unfold isAgg;rw[Sem.run_bind,run_underlying hd];cases d<;>simp_all [Aa]
def run_sizeOf(T:mo P t x)(w:World):(sizeOf t).run P w= .ok x.size w:=by
 obtain⟨i,z,hi,hs,_⟩:=T.info;simp[sizeOf,typeInfo,hi,hs]
def qv(b o j:Nat):(⟨b,o,none⟩:Addr).add j=⟨b,o+j,none⟩:=by
 unfold Addr.add;grind
def Cg.aws{w:World}{I:Nat->Prop}{σ:jt}{b o:Nat}(h:Cg w I σ cs b o):
  ∃us:List Value,us.length=cs.length/\(∀j u,us[j]?=some u->w.cell? ⟨b,o+j,none⟩=some u)/\fP w I σ cs us:=by
 induction cs generalizing o with
 |nil=>exact⟨[],rfl,by simp,by simp[fP]⟩
 |cons c cs ih=>
  obtain⟨u,h1,h2,h3⟩:=h 0 c (by simp);obtain⟨us,hl,hu,hr⟩:=ih (o:=o+1) (fun j x hj=>by
   have:=h (j+1) x (by grind)
   grind)
  refine⟨u::us,by grind,fun j x hj=> ?_,by exact⟨u,us,rfl,h2,h3,hr⟩⟩
  grind
def Cg.SF{w:World}{I:Nat->Prop}{σ:jt}{b o:Nat}(h:Cg w I σ cs b o)(f n:Nat):Cg w I σ ((cs.drop f).take n) b (o+f):=by
 intro j c hj;rw[adI]at hj;split at hj
 ·rw[abT]at hj;have:=h (f+j) c hj
  grind
 grind
def EU(T:mo P t x){w:World}{I:Nat->Prop}{σ:jt}{b o f:Nat}(h:Cg w I σ cs b o)(hv:part x cs f=some v):
  ∃u,(loadVar t ⟨b,o+f,none⟩).run P w= .ok u w/\dB w I σ v u:=by
 unfold part at hv;by_cases ha:x.agg=true
 ·rw[if_pos ha]at hv;split at hv
  ·simp at hv;subst hv;obtain⟨us,hl,hu,hr⟩:=(h.SF f x.size).aws;have hlen:us.length=x.size:=by rw[hl];simp;omega
   refine⟨.agg us.toArray,?_,by exact⟨us.toArray,rfl,by omega⟩⟩;have hld:=run_loadCells_list (P:=P) w ⟨b,o+f,none⟩ us (fun j u hj=>by rw[qv];grind);rw[hlen]at hld;simp[loadVar,zq T,ha,run_sizeOf T,hld]
  grind
 ·rw[if_neg ha]at hv;obtain⟨u,h1,h2,h3⟩:=h f v hv;refine⟨u,?_,h3⟩;have Xi:x.agg=false:=by simpa using ha
  simp[loadVar,zq T,Xi,h1]
def fP.get{w:World}{I:Nat->Prop}{σ:jt}(h:fP w I σ cs us){j:Nat}{c:V}(hc:cs[j]?=some c):
  ∃u,us[j]?=some u/\u.oneCell'=true/\dB w I σ c u:=by
 rw[dL]at h;have hj:j<cs.length:=(List.getElem?_eq_some_iff.1 hc).1;have hu:us[j]?=some (us[j]'(by omega)):=by simp
 grind
def fP.ap9{w:World}{I:Nat->Prop}{σ:jt}(h:fP w I σ cs us): ∀u∈us,u.oneCell'=true:=by
 intro u hu;rw[dL]at h;obtain⟨j,hj,rfl⟩:=List.mem_iff_getElem.1 hu;have hc:cs[j]?=some (cs[j]'(by omega)):=by simp
 exact(h.2 j _ us[j] hc (by simp)).1
def sm: ∀(n:Nat) (cs xs:List V),(lz n cs xs).length=xs.length
 |0,[],xs=>by cases xs<;>simp[lz]
 |0,c::cs,x::xs=>by simp[lz,sm 0 cs xs]
 |0,_::_,[]=>by simp[lz]
 |n+1,cs,x::xs=>by simp[lz,sm n cs xs]
 |n+1,cs,[]=>by simp[lz]
def qw: ∀(n:Nat) (cs xs:List V) (j:Nat),n+cs.length<=xs.length->(lz n cs xs)[j]?=if n<=j/\j<n+cs.length then cs[j-n]? else xs[j]?
 |0,[],xs,j,_=>by
  cases xs<;>simp[lz]
 |0,c::cs,x::xs,j,h=>by
  simp only[lz];cases j with
  |zero=>simp
  |succ j=>
   have:=qw 0 cs xs j (by grind)
   grind
 |0,_::_,[],j,h=>by grind
 |n+1,cs,x::xs,j,h=>by
  simp only[lz];cases j with
  |zero=>simp
  |succ j=>
   have:=qw n cs xs j (by grind)
   grind
 |n+1,cs,[],j,h=>by grind
def Un{f k:Nat}(hk:0<k)(hf:v.fits k=true)(hle:f+k<=e.cells.length):(e.put f v).cells=lz f v.cells e.cells:=by
 cases e with
 |agg xs=>simp[V.put,V.cells]
 |_=>
  simp only[V.cells,abJ,acM]at hle⊢;have h0:f=0:=by omega
  subst h0;cases v with
  |agg cs=>
   simp[V.fits]at hf;rcases cs with _|⟨c,cs⟩
   ·grind
   ·simp at hf;have:cs=[]:=by apply abP;omega
    subst this;simp[V.put,lz]
  |dM _=>simp[V.fits]at hf
  |bad=>simp[V.fits]at hf
  |_=>simp[V.put,lz]
end Go.Abs
