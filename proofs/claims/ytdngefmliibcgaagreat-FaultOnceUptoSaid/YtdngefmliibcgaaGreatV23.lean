/- part -/
import Derived.Test.YtdngefmliibcgaaGreatV00
import Derived.WalkKit
set_option linter.all false
set_option maxRecDepth 20000
set_option maxHeartbeats 20000000
namespace Go.Abs
open Go
variable  {v e v':V}{u z:Value}{es cs vs:List V}{c c':Array Value}{el t s d ty:TypeId}{ob H5:Ob}{P:Program}{x y:Operand}{us:List Value}{k k':IntKind}{b r ag:Bool}{p q:Array Operand}{ms:Array (String×TypeId)}
abbrev ju:=Nat->Option (Nat×Nat×Nat)
def fv:ju:=fun _=>none
def tQ:Bool->Value->Prop
 |true,u=> ∃t p,u= .iface t p
 |false,u=>u= .nilIface
mutual
def dD(w:World)(I:Nat->Prop)(σ:ju):V->Value->Prop
 | .int k n,u=>u= .int k n
 | .bool b,u=>u= .bool b
 | .str s,u=> ∃x:ByteArray,u= .string x/\x.data.toList=s
 | .agg cs,u=> ∃us,u= .agg us/\fR w I σ cs us.toList
 | .dP cs,u=> ∃us,u= .tuple us/\iO w I σ cs us.toList
 | .sl c es,u=> ∃a cap,u= .slice a es.length cap/\es.length<=cap/\cap<=maxLen/\(c=true->cap=es.length)/\
   (es=[]\/ ∃b o k,a=some ⟨b,o,none⟩/\I b/\dN w I fv es k b o)
 | .ref cs,u=> ∃b o,u= .pointer (some ⟨b,o,none⟩)/\I b/\qF w I fv cs b o
 | .cx id s l,u=> ∃a cap,u= .slice a l cap/\l<=cap/\cap<=maxLen/\
   (cap=0\/ ∃b o k c el fz,σ id=some (b,o,k)/\a=some ⟨b,o+s*k,none⟩/\w.heap[b]?=some (.cells c el fz)/\o+(s+cap)*k<=c.size)
 | .ptr id i f,u=> ∃b o k,σ id=some (b,o,k)/\u= .pointer (some ⟨b,o+i*k+f,none⟩)
 | .ve,u=>u= .pointer none
 | .Pn b,u=>tQ b u
 | .fn g bx7 bs,u=> ∃us vs,u= .func (.func g) us vs/\iO w I σ bx7 us.toList/\iO w I σ bs vs.toList
 | .bad,_=>True
def fR (w:World) (I:Nat->Prop) (σ:ju):List V->List Value->Prop
 | [],us=>us=[]
 |c::cs,us=> ∃u r,us=u::r/\u.oneCell'=true/\dD w I σ c u/\fR w I σ cs r
def iO (w:World) (I:Nat->Prop) (σ:ju):List V->List Value->Prop
 | [],us=>us=[]
 |c::cs,us=> ∃u r,us=u::r/\dD w I σ c u/\iO w I σ cs r
def qF (w:World) (I:Nat->Prop) (σ:ju):List V->Nat->Nat->Prop
 | [],_,_=>True
 |c::cs,b,o=>(∃u,w.cell? ⟨b,o,none⟩=some u/\u.oneCell'=true/\dD w I σ c u)/\qF w I σ cs b (o+1)
def dN (w:World) (I:Nat->Prop) (σ:ju):List V->Nat->Nat->Nat->Prop
 | [],_,_,_=>True
 | .agg cs::es,k,b,o=>cs.length=k/\qF w I σ cs b o/\dN w I σ es k b (o+k)
 |e::es,k,b,o=>k=1/\(∃u,w.cell? ⟨b,o,none⟩=some u/\u.oneCell'=true/\dD w I σ e u)/\dN w I σ es k b (o+k)
end
structure Ext (w:World) (I:Nat->Prop) (σ:ju) (w':World) (I':Nat->Prop) (σ':ju):Prop where
 Mo: ∀b,I b->w'.heap[b]?=w.heap[b]?
 grow: ∀(b:Nat) c el fz,w.heap[b]?=some (Obj.cells c el fz)-> ∃c' fz',w'.heap[b]?=some (Obj.cells c' el fz')/\c'.size=c.size
 imp: ∀b,I b->I' b
 sig: ∀id x,σ id=some x->σ' id=some x
def Ext.refl(w:World)(I:Nat->Prop)(σ:ju):Ext w I σ w I σ:=
 ⟨fun _ _=>rfl,fun _ c _ fz h=>⟨c,fz,h,rfl⟩,fun _ h=>h,fun _ _ h=>h⟩
def Ext.trans{w w1 w2:World}{I I1 I2:Nat->Prop}{σ σ1 σ2:ju}(h:Ext w I σ w1 I1 σ1)(h':Ext w1 I1 σ1 w2 I2 σ2):Ext w I σ w2 I2 σ2:=
  ⟨fun b hb=>(h'.Mo b (h.imp b hb)).trans (h.Mo b hb),
   fun b c el fz hb=>by
    obtain⟨c1,fz1,h1,e1⟩:=h.grow b c el fz hb;obtain⟨c2,fz2,h2,e2⟩:=h'.grow b c1 el fz1 h1
    grind,
   fun b hb=>h'.imp b (h.imp b hb),fun id x hx=>h'.sig id x (h.sig id x hx)⟩
def Ext.Kz{w w':World}{I I':Nat->Prop}{σ σ':ju}(E:Ext w I σ w' I' σ'):Ext w I fv w' I' fv:=
 ⟨E.Mo,E.grow,E.imp,fun _ _ h=>h⟩
section
variable {w w':World} {I I':Nat->Prop}
mutual
theorem dD.ext': ∀(v:V) (u:Value) {σ σ':ju},Ext w I σ w' I' σ'->dD w I σ v u->dD w' I' σ' v u
 | .int k n,u,σ,σ',E,h=>by simpa[dD] using h
 | .bool b,u,σ,σ',E,h=>by simpa[dD] using h
 | .str s,u,σ,σ',E,h=>by simpa[dD] using h
 | .agg cs,u,σ,σ',E,h=>by
  obtain⟨us,e,hr⟩:=h;exact⟨us,e,fR.ext' cs us.toList E hr⟩
 | .dP cs,u,σ,σ',E,h=>by
  obtain⟨us,e,hr⟩:=h;exact⟨us,e,iO.ext' cs us.toList E hr⟩
 | .sl c es,u,σ,σ',E,h=>by
  obtain⟨a,cap,e,h1,h2,h3,h4⟩:=h;refine⟨a,cap,e,h1,h2,h3,?_⟩;rcases h4 with h4|⟨b,o,k,ha,hI,hr⟩
  ·grind
  ·exact .inr ⟨b,o,k,ha,E.imp b hI,dN.ext' es k b o E.Kz hI hr⟩
 | .ref cs,u,σ,σ',E,h=>by
  obtain⟨b,o,e,hI,hr⟩:=h;exact⟨b,o,e,E.imp b hI,qF.ext' cs b o E.Kz hI hr⟩
 | .cx id s l,u,σ,σ',E,h=>by
  obtain⟨a,cap,e,h1,h2,h3⟩:=h;refine⟨a,cap,e,h1,h2,?_⟩;rcases h3 with h3|⟨b,o,k,c,el,fz,hs,ha,hb,hle⟩
  ·omega
  ·obtain⟨c',fz',wT,hc⟩:=E.grow b c el fz hb;exact .inr ⟨b,o,k,c',el,fz',E.sig _ _ hs,ha,wT,by omega⟩
 | .ptr id i f,u,σ,σ',E,h=>by
  obtain⟨b,o,k,hs,e⟩:=h;exact⟨b,o,k,E.sig _ _ hs,e⟩
 | .ve,u,σ,σ',E,h=>by simpa[dD] using h
 | .Pn b,u,σ,σ',E,h=>by simpa only[dD] using h
 | .fn g bx7 bs,u,σ,σ',E,h=>by
  obtain⟨us,vs,e,h1,h2⟩:=h;exact⟨us,vs,e,iO.ext' bx7 us.toList E h1,iO.ext' bs vs.toList E h2⟩
 | .bad,u,σ,σ',E,h=>by simp[dD]
theorem fR.ext': ∀(cs:List V) (us:List Value) {σ σ':ju},Ext w I σ w' I' σ'->fR w I σ cs us->fR w' I' σ' cs us
 | [],us,σ,σ',E,h=>by simpa[fR] using h
 |c::cs,us,σ,σ',E,h=>by
  obtain⟨u,r,e,h1,h2,h3⟩:=h;exact⟨u,r,e,h1,dD.ext' c u E h2,fR.ext' cs r E h3⟩
theorem iO.ext': ∀(cs:List V) (us:List Value) {σ σ':ju},Ext w I σ w' I' σ'->iO w I σ cs us->iO w' I' σ' cs us
 | [],us,σ,σ',E,h=>by simpa[iO] using h
 |c::cs,us,σ,σ',E,h=>by
  obtain⟨u,r,e,h2,h3⟩:=h;exact⟨u,r,e,dD.ext' c u E h2,iO.ext' cs r E h3⟩
theorem qF.ext': ∀(cs:List V) (b o:Nat) {σ σ':ju},Ext w I σ w' I' σ'->I b->qF w I σ cs b o->qF w' I' σ' cs b o
 | [],b,o,σ,σ',E,hI,h=>by simp[qF]
 |c::cs,b,o,σ,σ',E,hI,h=>by
  obtain⟨⟨u,h1,h2,h3⟩,h4⟩:=h;exact⟨⟨u,by rw[World.cell?_of_block (E.Mo b hI)];omega,h2,dD.ext' c u E h3⟩,qF.ext' cs b (o+1) E hI h4⟩
theorem dN.ext': ∀(es:List V) (k b o:Nat) {σ σ':ju},Ext w I σ w' I' σ'->I b->dN w I σ es k b o->dN w' I' σ' es k b o
 | [],k,b,o,σ,σ',E,hI,h=>by simp[dN]
 | .agg cs::es,k,b,o,σ,σ',E,hI,h=>by
  exact⟨h.1,qF.ext' cs b o E hI h.2.1,dN.ext' es k b (o+k) E hI h.2.2⟩
 | .int _ _::es,k,b,o,σ,σ',E,hI,h| .bool _::es,k,b,o,σ,σ',E,hI,h| .str _::es,k,b,o,σ,σ',E,hI,h| .dP _::es,k,b,o,σ,σ',E,hI,h
 | .sl _ _::es,k,b,o,σ,σ',E,hI,h| .ref _::es,k,b,o,σ,σ',E,hI,h| .cx _ _ _::es,k,b,o,σ,σ',E,hI,h| .ptr _ _ _::es,k,b,o,σ,σ',E,hI,h
 | .ve::es,k,b,o,σ,σ',E,hI,h| .Pn _::es,k,b,o,σ,σ',E,hI,h| .fn _ _ _::es,k,b,o,σ,σ',E,hI,h| .bad::es,k,b,o,σ,σ',E,hI,h=>by
  obtain⟨hk,⟨u,h1,h2,h3⟩,h4⟩:=h;exact⟨hk,⟨u,by rw[World.cell?_of_block (E.Mo b hI)];omega,h2,dD.ext' _ u E h3⟩,dN.ext' es k b (o+k) E hI h4⟩
end
def wU: ∀l:List V,(eV l).length=l.length
 | []=>rfl
 |c::cs=>by simp[eV,wU cs]
mutual
def dD.nz: ∀(v:V) (u:Value) {σ:ju},dD w I σ v u->dD w I σ v.lP u
 | .int k n,u,σ,h=>h
 | .bool b,u,σ,h=>h
 | .str s,u,σ,h=>h
 | .agg cs,u,σ,h=>by
  obtain⟨us,e,hr⟩:=h;exact⟨us,e,fR.nz cs us.toList hr⟩
 | .dP cs,u,σ,h=>by
  obtain⟨us,e,hr⟩:=h;exact⟨us,e,iO.nz cs us.toList hr⟩
 | .sl c es,u,σ,h=>by
  simp only[dD,V.lP]at h⊢;obtain⟨a,cap,e,h1,h2,h3,h4⟩:=h;rw[wU];refine⟨a,cap,e,h1,h2,(fun hh=>by grind),?_⟩;rcases h4 with h4|⟨b,o,k,ha,hI,hr⟩
  ·subst h4;exact .inl rfl
  ·exact .inr ⟨b,o,k,ha,hI,dN.nz es k b o hr⟩
 | .ref cs,u,σ,h=>h
 | .cx id s l,u,σ,h=>h
 | .ptr id i f,u,σ,h=>h
 | .ve,u,σ,h=>h
 | .Pn _,u,σ,h=>h
 | .fn g bx7 bs,u,σ,h=>h
 | .bad,u,σ,h=>h
def fR.nz: ∀(cs:List V) (us:List Value) {σ:ju},fR w I σ cs us->fR w I σ (eV cs) us
 | [],us,σ,h=>h
 |c::cs,us,σ,h=>by
  obtain⟨u,r,e,h1,h2,h3⟩:=h;exact⟨u,r,e,h1,dD.nz c u h2,fR.nz cs r h3⟩
def iO.nz: ∀(cs:List V) (us:List Value) {σ:ju},iO w I σ cs us->iO w I σ (eV cs) us
 | [],us,σ,h=>h
 |c::cs,us,σ,h=>by
  obtain⟨u,r,e,h2,h3⟩:=h;exact⟨u,r,e,dD.nz c u h2,iO.nz cs r h3⟩
def qF.nz: ∀(cs:List V) (b o:Nat) {σ:ju},qF w I σ cs b o->qF w I σ (eV cs) b o
 | [],b,o,σ,h=>h
 |c::cs,b,o,σ,h=>by
  obtain⟨⟨u,h1,h2,h3⟩,h4⟩:=h;exact⟨⟨u,h1,h2,dD.nz c u h3⟩,qF.nz cs b (o+1) h4⟩
def dN.nz: ∀(es:List V) (k b o:Nat) {σ:ju},dN w I σ es k b o->dN w I σ (eV es) k b o
 | [],k,b,o,σ,h=>h
 | .agg cs::es,k,b,o,σ,h=>by
  exact⟨by rw[wU];exact h.1,qF.nz cs b o h.2.1,dN.nz es k b (o+k) h.2.2⟩
 | .sl c cs::es,k,b,o,σ,h=>by
  obtain⟨hk,⟨u,h1,h2,h3⟩,h4⟩:=h;have:=dD.nz (.sl c cs) u h3;exact⟨hk,⟨u,h1,h2,this⟩,dN.nz es k b (o+k) h4⟩
 | .dP cs::es,k,b,o,σ,h=>by
  obtain⟨hk,⟨u,h1,h2,h3⟩,h4⟩:=h;have:=dD.nz (.dP cs) u h3;exact⟨hk,⟨u,h1,h2,this⟩,dN.nz es k b (o+k) h4⟩
 | .int _ _::es,k,b,o,σ,h| .bool _::es,k,b,o,σ,h| .str _::es,k,b,o,σ,h
 | .ref _::es,k,b,o,σ,h| .cx _ _ _::es,k,b,o,σ,h| .ptr _ _ _::es,k,b,o,σ,h
 | .ve::es,k,b,o,σ,h| .Pn _::es,k,b,o,σ,h| .fn _ _ _::es,k,b,o,σ,h| .bad::es,k,b,o,σ,h=>by
  exact⟨h.1,h.2.1,dN.nz es k b (o+k) h.2.2⟩
end
def dD.lP{σ:ju}{v:V}{u:Value}(h:dD w I σ v u):dD w I σ v.lP u:=dD.nz v u h
def dD.ext{σ σ':ju}(E:Ext w I σ w' I' σ')(h:dD w I σ v u):dD w' I' σ' v u:=dD.ext' v u E h
end
def a7k:Nat->Option (Obj->Prop):=fun _=>none
def Cm(w:World)(I:Nat->Prop)(σ:ju)(cs:List V)(b o:Nat):Prop:=
 ∀j c,cs[j]?=some c-> ∃u,w.cell? ⟨b,o+j,none⟩=some u/\u.oneCell'=true/\dD w I σ c u
section
variable {w w':World} {I I':Nat->Prop} {σ σ':ju}
theorem tH: ∀(cs:List V) (b o:Nat),qF w I σ cs b o↔Cm w I σ cs b o
 | [],b,o=>by simp[qF,Cm]
 |c::cs,b,o=>by
  simp only[qF];rw[tH cs b (o+1)];constructor
  ·rintro⟨h1,h2⟩ j x hj;cases j with
   |zero=>grind
   |succ j=>
    have:=h2 j x (by grind)
    grind
  ·intro h;refine⟨by simpa using h 0 c (by simp),fun j x hj=> ?_⟩;have:=h (j+1) x (by grind)
   grind
theorem kP(e:V)(es:List V)(k b o:Nat):dN w I σ (e::es) k b o↔e.cells.length=k/\Cm w I σ e.cells b o/\dN w I σ es k b (o+k):=by
 cases e with
 |agg cs=>simp only[dN,V.cells,tH]
 |_=>
  simp only[dN,V.cells,<-tH,qF,abP,acP,and_true]
  grind
theorem lQ: ∀(es:List V) (k b o:Nat),dN w I σ es k b o↔ ∀i e,es[i]?=some e->e.cells.length=k/\Cm w I σ e.cells b (o+i*k)
 | [],k,b,o=>by simp[dN]
 |e::es,k,b,o=>by
  rw[kP,lQ es k b (o+k)];constructor
  ·rintro⟨h1,h2,h3⟩ i x hi;cases i with
   |zero=>grind
   |succ i=>
    grind
  ·intro h;have h0:=h 0 e (by simp);refine⟨h0.1,by grind,fun i x hi=> ?_⟩;have:=h (i+1) x (by grind)
   grind
theorem mJ: ∀(cs:List V) (us:List Value),iO w I σ cs us↔cs.length=us.length/\ ∀(j:Nat) c u,cs[j]?=some c->us[j]?=some u->dD w I σ c u
 | [],us=>by
  constructor
  ·rintro rfl;simp
  ·rintro⟨h,_⟩;exact abT (by grind)
 |c::cs,us=>by
  constructor
  ·rintro⟨u,r,rfl,h1,h2⟩;rw[mJ cs r]at h2
   grind
  ·rintro⟨hl,h⟩;cases us with
   |nil=>grind
   |cons u r=>
    exact⟨u,r,rfl,h 0 c u (by simp) (by simp),(mJ cs r).2 ⟨by grind,fun j x y hx hy=>h (j+1) x y (by grind) (by grind)⟩⟩
theorem dO: ∀(cs:List V) (us:List Value),fR w I σ cs us↔cs.length=us.length/\ ∀(j:Nat) c u,cs[j]?=some c->us[j]?=some u->u.oneCell'=true/\dD w I σ c u
 | [],us=>by
  constructor
  ·rintro rfl;simp
  ·rintro⟨h,_⟩;exact abT (by grind)
 |c::cs,us=>by
  constructor
  ·rintro⟨u,r,rfl,h0,h1,h2⟩;rw[dO cs r]at h2
   grind
  ·rintro⟨hl,h⟩;cases us with
   |nil=>grind
   |cons u r=>
    have:=h 0 c u (by simp) (by simp);exact⟨u,r,rfl,this.1,this.2,(dO cs r).2 ⟨by grind,fun j x y hx hy=>h (j+1) x y (by grind) (by grind)⟩⟩
theorem Cm.ext(E:Ext w I σ w' I' σ'){cs:List V}{b o:Nat}(h:Cm w I σ cs b o)(hb:w'.heap[b]?=w.heap[b]?):Cm w' I' σ' cs b o:=by
 intro j c hj;obtain⟨u,h1,h2,h3⟩:=h j c hj;exact⟨u,by rw[World.cell?_of_block hb];omega,h2,h3.ext E⟩
theorem dN.nO(E:Ext w I σ w' I' σ'){k b o:Nat}(h:dN w I σ es k b o)(hb:w'.heap[b]?=w.heap[b]?):dN w' I' σ' es k b o:=by
 rw[lQ]at h⊢;intro i e hi;exact⟨(h i e hi).1,(h i e hi).2.ext E hb⟩
end
def mu(eU:Bool)(σ:ju):ju:=if eU then σ else fv
def Ext.qX{w w':World}{I I':Nat->Prop}{σ σ':ju}(E:Ext w I σ w' I' σ')(eU:Bool):Ext w I (mu eU σ) w' I' (mu eU σ'):=by
 cases eU
 ·exact E.Kz
 ·exact E
def Ext.free{w:World}{I:Nat->Prop}{σ:ju}:Ext w I fv w I σ:=
 ⟨fun _ _=>rfl,fun _ c _ fz h=>⟨c,fz,h,rfl⟩,fun _ h=>h,fun id x h=>by cases h⟩
def Ext.Fc{w:World}{I:Nat->Prop}{σ:ju}(eU:Bool):Ext w I (mu eU σ) w I σ:=by
 cases eU
 ·exact Ext.free
 ·exact .refl w I σ
def kQ(w:World)(b:Nat)(c:Array Value)(el:TypeId):Prop:= ∃fz:Nat×Nat,w.heap[b]?=some (Obj.cells c el fz)/\(fz.2<=fz.1\/c.size<=fz.1)
def kQ.same{w w':World}{b:Nat}(h:kQ w b c el)(hb:w'.heap[b]?=w.heap[b]?):kQ w' b c el:=by
 obtain⟨fz,h1,h2⟩:=h;exact⟨fz,by grind,h2⟩
def kQ.zero{w:World}{b:Nat}(h:w.heap[b]?=some (Obj.cells c el (0,0))):kQ w b c el:=⟨(0,0),h,.inl (aaI _)⟩
def kQ.set{w:World}{b:Nat}(h:kQ w b c el)(s7:c'.size=c.size):kQ (w.setRow b c') b c' el:=by
 obtain⟨fz,h1,h2⟩:=h;exact⟨fz,setRow_heap w b c c' el fz h1,by omega⟩
def kQ.free{w:World}{b:Nat}(h:kQ w b c el){j:Nat}(hj:j<c.size):w.frozen? ⟨b,j,none⟩=false:=by
 obtain⟨fz,h1,h2⟩:=h;simp only[World.frozen?,h1]
 grind
def kQ.lt{w:World}{b:Nat}(h:kQ w b c el):b<w.heap.size:=by
 obtain⟨fz,h1,_⟩:=h
 grind
def kQ.at{w:World}{b:Nat}(h:kQ w b c el): ∃fz,w.heap[b]?=some (Obj.cells c el fz):=by
 obtain⟨fz,h1,_⟩:=h
 grind
def Mp(w:World)(I:Nat->Prop)(σ:ju)(id:Nat)(ob:Ob):Prop:=
 (ob.es=[]/\σ id=none)\/
 ∃b o c el,σ id=some (b,o,ob.k)/\ ¬I b/\kQ w b c el/\o+ob.es.length*ob.k<=c.size/\dN w I (mu ob.eU σ) ob.es ob.k b o
def jk(σ:ju)(h:bh)(b:Nat):Prop:= ∃id ob o k,h id=some ob/\σ id=some (b,o,k)
def KA(w:World)(I:Nat->Prop):Prop:= ∀b p,a7k b=some p->I b/\ ∃ob,w.heap[b]?=some ob/\p ob
def KA.ext{w w':World}{I I':Nat->Prop}{σ σ':ju}(E:Ext w I σ w' I' σ')(G:KA w I):KA w' I':=fun b p hb=>by
 obtain⟨h1,ob,h2,h3⟩:=G b p hb;exact⟨E.imp b h1,ob,by rw[E.Mo b h1];omega,h3⟩
def KA.sub{w:World}{I I':Nat->Prop}(G:KA w I)(h: ∀b,I b->I' b):KA w I':=fun b p hb=>⟨h b (G b p hb).1,(G b p hb).2⟩
structure Rel (w:World) (I:Nat->Prop) (σ:ju) (h:bh):Prop where
 eu: ∀b,I b->b<w.heap.size
 obj: ∀id ob,h id=some ob->Mp w I σ id ob
 apart: ∀id nA ob oE b o k o' k',h id=some ob->h nA=some oE->σ id=some (b,o,k)->σ nA=some (b,o',k')->id=nA
 AA:KA w I
section
variable {w w':World} {I I':Nat->Prop} {σ σ':ju} {h h':bh}
theorem Rel.owned(R:Rel w I σ h){b:Nat}(hb:jk σ h b): ¬I b/\ ∃c el,kQ w b c el:=by
 obtain⟨id,ob,o,k,h1,h2⟩:=hb;rcases R.obj id ob h1 with⟨_,hn⟩|⟨b',o',c,el,hs,hi,hh,_⟩
 ·grind
 grind
theorem Rel.eU (R:Rel w I σ h) (E:Ext w I σ w' I' σ') (hI: ∀b,I' b->b<w'.heap.size)
  (hb: ∀b,jk σ h b->w'.heap[b]?=w.heap[b]?/\ ¬I' b) (hs: ∀id,h id≠none->σ' id=σ id):Rel w' I' σ' h:=by
 refine⟨hI,fun id ob ho=> ?_,fun id nA ob oE b o k o' k' h1 h2 h3 h4=> ?_,R.AA.ext E⟩
 ·have bh5:=hs id (by grind);rcases R.obj id ob ho with⟨he,hn⟩|⟨b,o,c,el,mQ,hi,hh,hle,hr⟩
  ·exact .inl ⟨he,by grind⟩
  ·have:=hb b ⟨id,ob,o,ob.k,ho,mQ⟩;exact .inr ⟨b,o,c,el,by grind,this.2,hh.same this.1,hle,hr.nO (E.qX _) this.1⟩
 ·rw[hs id (by grind)]at h3;rw[hs nA (by grind)]at h4;exact R.apart id nA ob oE b o k o' k' h1 h2 h3 h4
theorem Rel.sub(R:Rel w I σ h)(hh: ∀id ob,h' id=some ob->h id=some ob):Rel w I σ h':=
 ⟨R.eu,fun id ob ho=>R.obj id ob (hh id ob ho),fun id nA ob oE b o k o' k' h1 h2=>R.apart id nA ob oE b o k o' k' (hh _ _ h1) (hh _ _ h2),R.AA⟩
theorem Rel.kill(R:Rel w I σ h)(id:Nat):Rel w I σ (aR h id none):=
 R.sub fun i ob hi=>by grind [aR]
theorem Ext.UL{n:Nat}{x:Nat×Nat×Nat}(hn:σ n=none):Ext w I σ w I (aR σ n (some x)):=
 ⟨fun _ _=>rfl,fun _ c _ fz h=>⟨c,fz,h,rfl⟩,fun _ h=>h,fun id y hy=>by grind [aR]⟩
theorem Rel.YB (R:Rel w I σ h) {n b o k:Nat}  {eU:Bool}   (hn:h n=none) (hs:σ n=none)
  (hb:kQ w b c el) (hi: ¬I b) (ho: ¬jk σ h b) (hle:o+es.length*k<=c.size)
  (hr:dN w I (mu eU (aR σ n (some (b,o,k)))) es k b o):Rel w I (aR σ n (some (b,o,k))) (aR h n (some ⟨k,es,eU⟩)):=by
 have E:Ext w I σ w I (aR σ n (some (b,o,k))):=Ext.UL hs;have fa: ∀id,h id≠none->aR σ n (some (b,o,k)) id=σ id:=by
  intro id fa;unfold aR;split
  ·grind
  ·rfl
 refine⟨R.eu,fun id ob gG=> ?_,fun id nA ob oE b1 o1 k1 o2 k2 h1 h2 h3 h4=> ?_,R.AA⟩
 ·unfold aR at gG;split at gG
  ·rename_i e;subst e;simp at gG;subst gG;exact .inr ⟨b,o,c,el,by simp[aR],hi,hb,hle,hr⟩
  ·have:=fa id (by grind);rcases R.obj id ob gG with⟨he,Mq⟩|⟨b',o',c',PR,mQ,oy,hh,Ei,Dw⟩
   ·exact .inl ⟨he,by grind⟩
   ·exact .inr ⟨b',o',c',PR,by grind,oy,hh,Ei,Dw.nO (E.qX _) rfl⟩
 ·have key: ∀id ob,aR h n (some (⟨k,es,eU⟩:Ob)) id=some ob->id≠n->h id=some ob:=by
   intro id ob hx kz;simpa[aR,kz] using hx
  by_cases e1:id=n
  ·by_cases e2:nA=n
   ·omega
   ·exfalso;subst e1;have Pp:=key nA oE h2 e2;rw[fa nA (by grind)]at h4;simp[aR]at h3;obtain⟨rfl,_⟩:=h3;exact ho ⟨nA,oE,o2,k2,Pp,h4⟩
  ·have uF:=key id ob h1 e1;rw[fa id (by grind)]at h3;by_cases e2:nA=n
   ·exfalso;subst e2;simp[aR]at h4;obtain⟨rfl,_⟩:=h4;exact ho ⟨id,ob,o1,k1,uF,h3⟩
   ·have Pp:=key nA oE h2 e2;rw[fa nA (by grind)]at h4;exact R.apart id nA ob oE b1 o1 k1 o2 k2 uF Pp h3 h4
theorem Rel.YC(R:Rel w I σ h){n k:Nat}{eU:Bool}(hn:h n=none)(hs:σ n=none):Rel w I σ (aR h n (some ⟨k,[],eU⟩)):=by
 refine⟨R.eu,fun id ob gG=> ?_,fun id nA ob oE b o k o' k' h1 h2 h3 h4=> ?_,R.AA⟩
 ·unfold aR at gG;split at gG
  ·rename_i e;subst e;simp at gG;subst gG;exact .inl ⟨rfl,hs⟩
  ·exact R.obj id ob gG
 ·by_cases e1:id=n
  ·grind
  ·by_cases e2:nA=n
   ·grind
   ·exact R.apart id nA ob oE b o k o' k' (by grind [aR]) (by grind [aR]) h3 h4
end
structure Step (w:World) (I:Nat->Prop) (σ:ju) (h:bh) (n:Nat) (w':World) (I':Nat->Prop) (σ':ju) (h':bh) (n':Nat):Prop where
 ext:Ext w I σ w' I' σ'
 rel:Rel w' I' σ' h'
 os:w'.os=w.os
 tape:w'.tape=w.tape
 output:w'.output=w.output
 size:w.heap.size<=w'.heap.size
 frame: ∀b,b<w.heap.size-> ¬jk σ h b->w'.heap[b]?=w.heap[b]?
 own: ∀b,jk σ' h' b->w.heap.size<=b\/jk σ h b
 vY: ∀b,I' b->I b\/w.heap.size<=b\/jk σ h b
 le:n<=n'
 sigs: ∀id,id<n\/n'<=id->σ' id=σ id
 news: ∀id,id<n\/n'<=id->h id=none->h' id=none
section
variable {w w1 w2:World} {I I1 I2:Nat->Prop} {σ σ1 σ2:ju} {h h1 h2:bh} {n n1 n2:Nat}
theorem Step.refl(R:Rel w I σ h)(n:Nat):Step w I σ h n w I σ h n:=
 ⟨.refl w I σ,R,rfl,rfl,rfl,aaI _,fun _ _ _=>rfl,fun _ hb=> .inr hb,fun _ hb=> .inl hb,aaI _,fun _ _=>rfl,fun _ _ h=>h⟩
theorem Step.trans(s:Step w I σ h n w1 I1 σ1 h1 n1)(s':Step w1 I1 σ1 h1 n1 w2 I2 σ2 h2 n2):Step w I σ h n w2 I2 σ2 h2 n2 where
 ext:=s.ext.trans s'.ext
 rel:=s'.rel
 os:=s'.os.trans s.os
 tape:=s'.tape.trans s.tape
 output:=s'.output.trans s.output
 size:=abK s.size s'.size
 frame:=fun b hb ho=>(s'.frame b (abY hb s.size) (fun hx=>by
  rcases s.own b hx with hx|hx
  ·omega
  grind)).trans (s.frame b hb ho)
 own:=fun b hb=>by
  rcases s'.own b hb with hx|hx
  ·exact .inl (abK s.size hx)
  ·exact s.own b hx
 vY:=fun b hb=>by
  rcases s'.vY b hb with hx|hx|hx
  ·exact s.vY b hx
  ·exact .inr (.inl (abK s.size hx))
  ·exact .inr (s.own b hx)
 le:=abK s.le s'.le
 sigs:=fun id fa=>by
  have l1:=s.le;have l2:=s'.le;rw[s'.sigs id (by omega),s.sigs id (by omega)]
 news:=fun id fa hn=>by
  have l1:=s.le;have l2:=s'.le;exact s'.news id (by omega) (s.news id (by omega) hn)
end
def Rel.write {w:World} {I:Nat->Prop} {σ:ju} {h:bh} (R:Rel w I σ h) {id b o k:Nat}   {eU:Bool}  
  (ho:h id=some ob) (hs:σ id=some (b,o,k)) (hb:kQ w b c el) (s7:c'.size=c.size) (hle:o+es.length*k<=c.size)
  (hr:dN (w.setRow b c') I (mu eU σ) es k b o) (n:Nat):Step w I σ h n (w.setRow b c') I σ (aR h id (some ⟨k,es,eU⟩)) n:=by
 have rV:jk σ h b:=⟨id,ob,o,k,ho,hs⟩;have hI: ¬I b:=(R.owned rV).1;have E:Ext w I σ (w.setRow b c') I σ:=by
  refine⟨fun b' wT=>setRow_other w b b' c' (fun e=>hI (e▸wT)),fun b' c1 el1 fz hc=> ?_,fun _ h=>h,fun _ _ h=>h⟩;by_cases e:b'=b
  ·subst e;obtain⟨fz0,LY,_⟩:=hb;rw[LY]at hc;obtain⟨rfl,rfl,rfl⟩:=hc;exact⟨c',_,setRow_heap w b' c c' el _ LY,s7⟩
  ·exact⟨c1,fz,by rw[setRow_other w b b' c' e];omega,rfl⟩
 have key: ∀i x,aR h id (some (⟨k,es,eU⟩:Ob)) i=some x->i≠id->h i=some x:=by
  intro i x hx kz;simpa[aR,kz] using hx
 refine⟨E,⟨fun b' wT=>by simpa using R.eu b' wT,fun i x hx=> ?_,fun i i' x x' b1 o1 k1 o2 k2 h1 h2 h3 h4=> ?_,R.AA.ext E⟩,rfl,rfl,rfl,by simp,fun b' _ zy=>setRow_other w b b' c' (fun e=>zy (e▸rV)),
  fun b' wT=> .inr ?_,fun _ h=> .inl h,aaI _,fun _ _=>rfl,fun i hi HY=>by grind [aR]⟩
 ·by_cases e:i=id
  ·subst e;simp[aR]at hx;subst hx;exact .inr ⟨b,o,c',el,hs,hI,hb.set s7,by grind,hr⟩
  ·have Ig:=key i x hx e;rcases R.obj i x Ig with⟨he,Mq⟩|⟨b',o',c1,el1,mQ,oy,hh,Ei,Dw⟩
   ·exact .inl ⟨he,Mq⟩
   ·have kz:b'≠b:=fun e'=>e (R.apart i id x ob b o' x.k o k Ig ho (e'▸mQ) hs);have s8:=setRow_other w b b' c' kz;exact .inr ⟨b',o',c1,el1,mQ,oy,hh.same s8,Ei,Dw.nO (E.qX _) s8⟩
 ·by_cases e1:i=id
  ·by_cases e2:i'=id
   ·omega
   ·subst e1;exact R.apart i i' ob x' b1 o1 k1 o2 k2 ho (key i' x' h2 e2) h3 h4
  ·by_cases e2:i'=id
   ·subst e2;exact R.apart i i' x ob b1 o1 k1 o2 k2 (key i x h1 e1) ho h3 h4
   ·exact R.apart i i' x x' b1 o1 k1 o2 k2 (key i x h1 e1) (key i' x' h2 e2) h3 h4
 ·obtain⟨i,x,o1,k1,h1,h2⟩:=wT;by_cases e:i=id
  ·grind
  ·exact⟨i,x,o1,k1,key i x h1 e,h2⟩
def Tf:V->Value->Bool
 | .int k n,.int k' n'=>k==k'&&n==n'
 | .bool b,.bool b'=>b==b'
 | .str [],.string s=>s.data.toList.isEmpty
 | .sl true [],.slice none 0 0=>true
 | .ve,.pointer none=>true
 | .Pn false,.nilIface=>true
 | .bad,u=>u.oneCell'
 |_,_=>false
def Cu:List V->List Value->Bool
 | [],[]=>true
 |c::cs,u::us=>Tf c u&&Cu cs us
 |_,_=>false
def Ja:V->Value->Bool
 | .agg cs,.agg us=>Cu cs us.toList
 | .agg _,_=>false
 |v,u=>Tf v u
def Af(P:Program)(x:TI):TypeDesc->Bool
 | .struct fs=>x.agg&&x.wQ==(fs.toList.map fun f=>(f.offset,P.cellsOf f.type))&&x.arr==none&&x.kind==none&&fs.toList.all fun f=>decide (0<P.cellsOf f.type)
 | .array n e=>x.agg&&x.arr==some n&&x.elem==e&&x.kind==none&&x.wQ==[]
 | .slice e=> !x.agg&&x.elem==e&&x.arr==none&&x.kind==none&&x.wQ==[]
 | .int k=> !x.agg&&x.kind==some k&&x.arr==none&&x.wQ==[]
 |_=> !x.agg&&x.kind==none&&x.arr==none&&x.wQ==[]
def tiB(P:Program)(t:TypeId)(x:TI):Bool:=
 match P.info? t,P.underlying t with
 |some i,some d=>i.size==x.size&&i.bytes==x.bytes&&decide (0<x.size)&&Af P x d&& (match i.zero with
  |some z=>Ja x.zero z&&x.zero.cells.length==x.size&&x.zero.fits x.size
  |none=>false)
 |_,_=>false
structure mh (P:Program) (t:TypeId) (x:TI):Prop where
 info: ∃i z,P.info? t=some i/\i.size=x.size/\i.bytes=x.bytes/\i.zero=some z/\Ja x.zero z=true
 pos:0<x.size
 und: ∃d,P.underlying t=some d/\Af P x d=true
 YD:x.zero.cells.length=x.size
 aq9:x.zero.fits x.size=true
def a7n{x:TI}(h:tiB P t x=true):mh P t x:=by
 unfold tiB at h;split at h
 ·rename_i i d hi hd;cases hz:i.zero with
  |none=>grind
  |some z=>
   simp only[hz,aaF,beq_iff_eq,decide_eq_true_eq]at h;obtain⟨⟨⟨⟨h1,h2⟩,h3⟩,h4⟩,⟨h5,h6⟩,h7⟩:=h;exact⟨⟨i,z,hi,h1,h2,hz,h5⟩,h3,⟨d,hd,h4⟩,h6,h7⟩
 grind
section
variable {w:World} {I:Nat->Prop} {σ:ju}
theorem Jb{c:V}(h:Tf c u=true):u.oneCell'=true/\dD w I σ c u:=by
 unfold Tf at h;split at h
 ·simp only[aaF,beq_iff_eq]at h;obtain⟨rfl,rfl⟩:=h;exact⟨rfl,by simp[dD]⟩
 ·simp only[beq_iff_eq]at h;subst h;exact⟨rfl,by simp[dD]⟩
 ·rename_i s;exact⟨rfl,by exact⟨s,rfl,List.isEmpty_iff.1 h⟩⟩
 ·exact⟨rfl,by exact⟨none,0,rfl,aaI _,afD _,fun _=>rfl,.inl (by simp)⟩⟩
 ·exact⟨rfl,by simp[dD]⟩
 ·exact⟨rfl,by simp[dD,tQ]⟩
 ·exact⟨h,by simp[dD]⟩
 grind
theorem Fe: ∀{cs:List V} {us:List Value},Cu cs us=true->fR w I σ cs us
 | [],[],_=>by simp[fR]
 |c::cs,u::us,h=>by
  simp only[Cu,aaF]at h;have:=Jb (w:=w) (I:=I) (σ:=σ) h.1;exact⟨u,us,rfl,this.1,this.2,Fe h.2⟩
 | [],_::_,h=>by simp[Cu]at h
 |_::_,[],h=>by simp[Cu]at h
theorem dD.cells{v:V}{u:Value}{k:Nat}(hr:dD w I σ v u)(hf:v.fits k=true):v.cells.length=k/\fR w I σ v.cells u.cells.toList:=by
 cases v with
 |agg cs=>
  obtain⟨us,rfl,h⟩:=hr;exact⟨by simpa[V.fits,V.cells] using hf,h⟩
 |dP _=>simp[V.fits]at hf
 |bad=>simp[V.fits]at hf
 |Pn b=>
  have hk:k=1:=by simpa[V.fits] using hf
  refine⟨by simp[V.cells,hk],?_⟩;have Dw:=hr;cases b with
  |true=>obtain⟨x,y,rfl⟩:=Dw;exact⟨_,_,rfl,rfl,hr,rfl⟩
  |false=>subst Dw;exact⟨_,_,rfl,rfl,hr,rfl⟩
 |_=>
  have hk:k=1:=by simpa[V.fits] using hf
  refine⟨by simp[V.cells,hk],?_⟩;have Dw:=hr;first
   |(subst Dw;exact⟨_,_,rfl,rfl,hr,rfl⟩)
   |(obtain⟨x,rfl,_⟩:=Dw;exact⟨_,_,rfl,rfl,hr,rfl⟩)
   |(obtain⟨x,y,rfl,_⟩:=Dw;exact⟨_,_,rfl,rfl,hr,rfl⟩)
   |(obtain⟨x,y,z,_,rfl⟩:=Dw;exact⟨_,_,rfl,rfl,hr,rfl⟩)
theorem Mr{x:TI}(T:mh P t x)(hz:Ja x.zero z=true):dD w I σ x.zero z:=by
 unfold Ja at hz;split at hz
 ·rename_i cs us h1;rw[h1];exact⟨us,rfl,Fe hz⟩
 ·grind
 ·exact(Jb hz).2
end
def jw(w:World)(I:Nat->Prop)(σ:ju)(f:Nat->V)(a:Act):Prop:= ∀t,dD w I σ (f t) (a.tmps.getD t undef)
def jw.ext{w w':World}{I I':Nat->Prop}{σ σ':ju}{f:Nat->V}{a:Act}(F:jw w I σ f a)(E:Ext w I σ w' I' σ'):jw w' I' σ' f a:=
 fun t=>(F t).ext E
def jw.put{w:World}{I:Nat->Prop}{σ:ju}{f:Nat->V}{a:Act}(F:jw w I σ f a){v:V}{u:Value}(hr:dD w I σ v u)(d:Nat)(hd:d<a.tmps.size):
  jw w I σ (aR f d v) (a.put (some d) u):=by
 intro t;unfold aR;simp only[Act.put];by_cases e:t=d
 ·simp_all
 ·simp only[e,if_false];have:(a.tmps.setIfInBounds d u).getD t undef=a.tmps.getD t undef:=by
   simp only[Array.getD,Array.size_setIfInBounds];split
   ·show(a.tmps.setIfInBounds d u)[t]'_=a.tmps[t]
    grind
   ·rfl
  rw[this];exact F t
def YE:Value->Bool
 | .agg cs=>cs.toList.all Value.oneCell'
 |_=>true
def aij:Operand->Bool
 | .const v=>YE v
 |_=>true
def Ms{w:World}{I:Nat->Prop}{σ:ju}(u:Value):dD w I σ (wS u) u:=by
 unfold wS;split
 ·simp[dD]
 ·simp[dD]
 ·exact⟨_,rfl,rfl⟩
 ·simp[dD]
 ·simp[dD,tQ]
 ·exact⟨none,0,rfl,aaI _,afD _,fun _=>rfl,.inl (by simp)⟩
 ·simp[dD]
def UM{w:World}{I:Nat->Prop}{σ:ju}(h:YE u=true):dD w I σ (vV u) u:=by
 unfold vV;split
 ·rename_i cs;refine⟨cs,rfl,?_⟩;rw[dO];refine⟨by simp,fun j c x hc hx=> ?_⟩;rw[abG,hx]at hc;simp at hc;subst hc;exact⟨List.all_eq_true.1 h x (aaT hx),Ms x⟩
 ·exact Ms u
def fj{w:World}{I:Nat->Prop}{σ:ju}{S:St}{a:Act}(F:jw w I σ S.f a)(hx:aij x=true):dD w I σ (S.ev x) (a.eval x):=by
 cases x with
 |tmp t=>exact F t
 |const v=>exact UM hx
 |global g=>simp[St.ev,dD]
 |func g=>
  exact⟨#[],#[],rfl,by simp[iO],by simp[iO]⟩
def zA{x:TI}(T:mh P t x)(w:World):(isAgg t).run P w= .ok x.agg w:=by
 obtain⟨d,hd,hb⟩:=T.und;unfold isAgg;rw[Sem.run_bind,run_underlying hd];cases d<;>simp_all [Af]
def run_sizeOf{x:TI}(T:mh P t x)(w:World):(sizeOf t).run P w= .ok x.size w:=by
 obtain⟨i,z,hi,hs,_⟩:=T.info;simp[sizeOf,typeInfo,hi,hs]
def qu(b o j:Nat):(⟨b,o,none⟩:Addr).add j=⟨b,o+j,none⟩:=by
 unfold Addr.add;grind
def Cm.ax8{w:World}{I:Nat->Prop}{σ:ju}{b o:Nat}(h:Cm w I σ cs b o):
  ∃us:List Value,us.length=cs.length/\(∀j u,us[j]?=some u->w.cell? ⟨b,o+j,none⟩=some u)/\fR w I σ cs us:=by
 induction cs generalizing o with
 |nil=>exact⟨[],rfl,by simp,by simp[fR]⟩
 |cons c cs ih=>
  obtain⟨u,h1,h2,h3⟩:=h 0 c (by simp);obtain⟨us,hl,hu,hr⟩:=ih (o:=o+1) (fun j x hj=>by
   have:=h (j+1) x (by grind)
   grind)
  refine⟨u::us,by grind,fun j x hj=> ?_,by exact⟨u,us,rfl,h2,h3,hr⟩⟩
  grind
def Cm.Tg{w:World}{I:Nat->Prop}{σ:ju}{b o:Nat}(h:Cm w I σ cs b o)(f n:Nat):Cm w I σ ((cs.drop f).take n) b (o+f):=by
 intro j c hj;rw[adP]at hj;split at hj
 ·rw[abX]at hj;have:=h (f+j) c hj
  grind
 grind
def Ff{x:TI}(T:mh P t x){w:World}{I:Nat->Prop}{σ:ju}{b o f:Nat}(h:Cm w I σ cs b o)(hv:part x cs f=some v):
  ∃u,(loadVar t ⟨b,o+f,none⟩).run P w= .ok u w/\dD w I σ v u:=by
 unfold part at hv;by_cases ha:x.agg=true
 ·rw[if_pos ha]at hv;split at hv
  ·simp at hv;subst hv;obtain⟨us,hl,hu,hr⟩:=(h.Tg f x.size).ax8;have hlen:us.length=x.size:=by rw[hl];simp;omega
   refine⟨.agg us.toArray,?_,by exact⟨us.toArray,rfl,by omega⟩⟩;have hld:=run_loadCells_list (P:=P) w ⟨b,o+f,none⟩ us (fun j u hj=>by rw[qu];grind);rw[hlen]at hld;simp[loadVar,zA T,ha,run_sizeOf T,hld]
  grind
 ·rw[if_neg ha]at hv;obtain⟨u,h1,h2,h3⟩:=h f v hv;refine⟨u,?_,h3⟩;have XU:x.agg=false:=by simpa using ha
  simp[loadVar,zA T,XU,h1]
def fR.get{w:World}{I:Nat->Prop}{σ:ju}(h:fR w I σ cs us){j:Nat}{c:V}(hc:cs[j]?=some c):
  ∃u,us[j]?=some u/\u.oneCell'=true/\dD w I σ c u:=by
 rw[dO]at h;have hj:j<cs.length:=(List.getElem?_eq_some_iff.1 hc).1;have hu:us[j]?=some (us[j]'(by omega)):=by simp
 grind
def fR.ara{w:World}{I:Nat->Prop}{σ:ju}(h:fR w I σ cs us): ∀u∈us,u.oneCell'=true:=by
 intro u hu;rw[dO]at h;obtain⟨j,hj,rfl⟩:=List.mem_iff_getElem.1 hu;have hc:cs[j]?=some (cs[j]'(by omega)):=by simp
 exact(h.2 j _ us[j] hc (by simp)).1
def sq: ∀(n:Nat) (cs xs:List V),(lC n cs xs).length=xs.length
 |0,[],xs=>by cases xs<;>simp[lC]
 |0,c::cs,x::xs=>by simp[lC,sq 0 cs xs]
 |0,_::_,[]=>by simp[lC]
 |n+1,cs,x::xs=>by simp[lC,sq n cs xs]
 |n+1,cs,[]=>by simp[lC]
def qv: ∀(n:Nat) (cs xs:List V) (j:Nat),n+cs.length<=xs.length->(lC n cs xs)[j]?=if n<=j/\j<n+cs.length then cs[j-n]? else xs[j]?
 |0,[],xs,j,_=>by
  cases xs<;>simp[lC]
 |0,c::cs,x::xs,j,h=>by
  simp only[lC];cases j with
  |zero=>simp
  |succ j=>
   have:=qv 0 cs xs j (by grind)
   grind
 |0,_::_,[],j,h=>by grind
 |n+1,cs,x::xs,j,h=>by
  simp only[lC];cases j with
  |zero=>simp
  |succ j=>
   have:=qv n cs xs j (by grind)
   grind
 |n+1,cs,[],j,h=>by grind
def UN{f k:Nat}(hk:0<k)(hf:v.fits k=true)(hle:f+k<=e.cells.length):(e.put f v).cells=lC f v.cells e.cells:=by
 cases e with
 |agg xs=>simp[V.put,V.cells]
 |_=>
  simp only[V.cells,abP,acP]at hle⊢;have h0:f=0:=by omega
  subst h0;cases v with
  |agg cs=>
   simp[V.fits]at hf;rcases cs with _|⟨c,cs⟩
   ·grind
   ·simp at hf;have:cs=[]:=by apply abT;omega
    subst this;simp[V.put,lC]
  |dP _=>simp[V.fits]at hf
  |bad=>simp[V.fits]at hf
  |_=>simp[V.put,lC]
def Ext.setRow{w:World}{I:Nat->Prop}{σ:ju}{b:Nat}{c c':Array Value}{el:TypeId}(hI: ¬I b)(hb:kQ w b c el)(s7:c'.size=c.size):
  Ext w I σ (w.setRow b c') I σ:=by
 refine⟨fun b' wT=>setRow_other w b b' c' (fun e=>hI (e▸wT)),fun b' c1 el1 fz hc=> ?_,fun _ h=>h,fun _ _ h=>h⟩;by_cases e:b'=b
 ·subst e;obtain⟨fz0,LY,_⟩:=hb;rw[LY]at hc;obtain⟨rfl,rfl,rfl⟩:=hc;exact⟨c',_,setRow_heap w b' c c' el _ LY,s7⟩
 ·exact⟨c1,fz,by rw[setRow_other w b b' c' e];omega,rfl⟩
def rW(c:Array Value)(p:Nat)(us:List Value):Array Value:=(c.toList.take p++us++c.toList.drop (p+us.length)).toArray
def oF{p:Nat}(h:p+us.length<=c.size):(rW c p us).size=c.size:=by
 simp[rW];omega
def vZ{p:Nat}(h:p+us.length<=c.size)(j:Nat):(rW c p us)[j]?=if p<=j/\j<p+us.length then us[j-p]? else c[j]?:=by
 simp only[rW,List.getElem?_toArray];by_cases h1:j<p
 ·grind
 grind
def UO{w:World}{b j:Nat}{v:Value}(h:kQ w b c el)(hj:j<c.size)(h1:v.oneCell'=true):
  (store ⟨b,j,none⟩ v).run P w= .ok () (w.setRow b (c.setIfInBounds j v)):=by
 have hf:=h.free hj;obtain⟨fz,hb⟩:=h.at;have e:w.cell? ⟨b,j,none⟩=some c[j]:=by simp[World.cell?,hb,hj]
 rw[run_store P w _ v _ h1,e];simp[hf,setCell_eq_setRow w b j c el fz v hb]
def UP{p:Nat}{v:Value}(h:p+(us.length+1)<=c.size):rW (c.setIfInBounds p v) (p+1) us=rW c p (v::us):=by
 apply Array.ext_getElem?;intro j;rw[vZ (by grind),vZ (by omega)]
 grind
def wV{P:Program}{b p:Nat}{el:TypeId}: ∀(vs:List Value) (i:Nat) (c:Array Value) (w:World),kQ w b c el->p+i+vs.length<=c.size->(∀v∈vs,v.oneCell'=true)->
  (storeCells ⟨b,p,none⟩ vs i).run P w= .ok () (w.setRow b (rW c (p+i) vs))
 | [],i,c,w,h,_,_=>by
  obtain⟨fz,hb⟩:=h.at;have e:rW c (p+i) []=c:=by simp[rW]
  rw[e,setRow_self w b c el fz hb];rfl
 |v::vs,i,c,w,h,hl,h1=>by
  simp only[abP]at hl;have ha:(⟨b,p,none⟩:Addr).add i=⟨b,p+i,none⟩:=by simp[Addr.add]
  have hs:=UO (P:=P) (v:=v) h (show p+i<c.size by omega) (h1 v (by simp));have ih:=wV (P:=P) (b:=b) (p:=p) vs (i+1) (c.setIfInBounds (p+i) v) (w.setRow b (c.setIfInBounds (p+i) v)) (h.set (by simp)) (by grind) fun x hx=>h1 x (by grind);rw[<-Nat.add_assoc,UP (by omega),setRow_setRow]at ih;simp only[storeCells,Sem.run_bind,ha,hs,Result.andThen_ok,ih]
def kQ.cell{w:World}{b:Nat}{c:Array Value}{el:TypeId}(h:kQ w b c el){j:Nat}:w.cell? ⟨b,j,none⟩=c[j]?:=by
 obtain⟨fz,hb⟩:=h.at;simp[World.cell?,hb]
def KB   {x:TI} (T:mh P t x) {w:World} {b p:Nat}   (hb:kQ w b c el)
   (hu:u.cells.size=x.size) (h1: ∀y∈u.cells.toList,y.oneCell'=true) (hle:p+x.size<=c.size):
  (storeVar t ⟨b,p,none⟩ u).run P w= .ok () (w.setRow b (rW c p u.cells.toList)):=by
 have kH:=wV (P:=P) (b:=b) (p:=p) u.cells.toList 0 c w hb (by grind) h1;simp[storeVar,run_sizeOf T,hu,kH]
def dN.get{w:World}{I:Nat->Prop}{σ:ju}{k b o i:Nat}(h:dN w I σ es k b o)(hi:es[i]?=some e):e.cells.length=k/\Cm w I σ e.cells b (o+i*k):=
 (lQ es k b o).1 h i e hi
def Rel.at{w:World}{I:Nat->Prop}{σ:ju}{h:bh}(R:Rel w I σ h){id i:Nat}(ho:h id=some ob)(hi:ob.es[i]?=some e):
  ∃b o c el,σ id=some (b,o,ob.k)/\ ¬I b/\kQ w b c el/\o+ob.es.length*ob.k<=c.size/\dN w I (mu ob.eU σ) ob.es ob.k b o:=by
 rcases R.obj id ob ho with⟨he,_⟩|h
 ·grind
 omega
def PS{i j k p q:Nat}(hp:p<k)(hq:q<k)(h:i*k+p=j*k+q):i=j:=by
 rcases adT i j with gZ|he|gZ
 ·have:(i+1)*k<=j*k:=abQ k gZ
  grind
 ·omega
 ·have:(j+1)*k<=i*k:=abQ k gZ
  grind
def UQ   {x:TI} (T:mh P t x) {w:World} {I:Nat->Prop} {σ:ju} {h:bh} (R:Rel w I σ h) {id i f:Nat}   
  (ho:h id=some ob) (hi:ob.es[i]?=some e) (hr:dD w I (mu ob.eU σ) v u) (hf:v.fits x.size=true) (hle:f+x.size<=e.cells.length) (n:Nat)
  {b o k:Nat} (hs:σ id=some (b,o,k)):
  ∃w',(storeVar t ⟨b,o+i*k+f,none⟩ u).run P w= .ok () w'/\Step w I σ h n w' I σ (aR h id (some {ob with es:=ob.es.set i (e.put f v)})) n:=by
 obtain⟨b',o',c,el,oG,hI,hb,s7,fX⟩:=R.at ho hi;obtain⟨fz,LY⟩:=hb.at;rw[hs]at oG;obtain⟨rfl,rfl,rfl⟩:=oG;have tw:=fX.get hi;have pS:=hr.cells hf;have Fg:i<ob.es.length:=(List.getElem?_eq_some_iff.1 hi).1;have Jc:(i+1)*ob.k<=ob.es.length*ob.k:=abQ _ Fg;rw[acE]at Jc;have Th:u.cells.size=x.size:=by
  have:=(dO _ _).1 pS.2;simp at this;omega
 have v5:o+i*ob.k+f+x.size<=c.size:=by omega
 have kr:=KB T (p:=o+i*ob.k+f) hb Th pS.2.ara v5;have HZ:o+i*ob.k+f+u.cells.toList.length<=c.size:=by simp;omega
 refine⟨_,kr,R.write ho hs hb (oF HZ) (by grind) ?_ n⟩;have E:Ext w I (mu ob.eU σ) (w.setRow b (rW c (o+i*ob.k+f) u.cells.toList)) I (mu ob.eU σ):=Ext.setRow hI hb (oF HZ);rw[lQ];intro j e' hj;rw[abN]at hj;by_cases mj:i=j
 ·subst mj;simp[Fg]at hj;subst hj;have Cn:=UN T.pos hf (e:=e) (f:=f) hle;refine⟨by rw[Cn,sq];omega,?_⟩;intro q y hq;rw[Cn,qv _ _ _ _ (by omega)]at hq;rw[cell_setRow_same w b _ c _ el fz LY,vZ HZ];split at hq
  ·rename_i wL;obtain⟨u',h1,h2,h3⟩:=pS.2.get hq;refine⟨u',?_,h2,h3.ext E⟩
   grind
  ·rename_i wL;obtain⟨u',h1,h2,h3⟩:=tw.2 q y hq;refine⟨u',?_,h2,h3.ext E⟩;rw[if_neg (by grind)];rw[cell_of_row w b _ c el fz LY]at h1;omega
 ·rw[if_neg mj]at hj;have hej:=fX.get hj;refine⟨hej.1,?_⟩;intro q y hq;have hqk:q<ob.k:=by rw[<-hej.1];exact(List.getElem?_eq_some_iff.1 hq).1
  obtain⟨u',h1,h2,h3⟩:=hej.2 q y hq;refine⟨u',?_,h2,h3.ext E⟩;rw[cell_setRow_same w b _ c _ el fz LY,vZ HZ,if_neg ?_]
  ·rw[cell_of_row w b _ c el fz LY]at h1;omega
  ·simp only[abZ];intro ⟨ha,wT⟩;apply mj;exact PS (k:=ob.k) (p:=j*ob.k+q-i*ob.k) (q:=q) (by omega) hqk (by omega)
def PT(w:World)(o:Obj)(b:Nat)(h:b<w.heap.size):(w.alloc o).heap[b]?=w.heap[b]?:=by
 show(w.heap.push o)[b]?=w.heap[b]?
 grind
def arc(w:World)(o:Obj):(w.alloc o).heap[w.heap.size]?=some o:=by
 show(w.heap.push o)[w.heap.size]?=some o;simp
def Ext.alloc{w:World}{I:Nat->Prop}{σ:ju}(hI: ∀b,I b->b<w.heap.size)(ob:Obj):Ext w I σ (w.alloc ob) I σ:=
 ⟨fun b hb=>PT w ob b (hI b hb),fun b c el fz h=>⟨c,fz,by rw[PT w ob b (by grind)];exact h,rfl⟩,fun _ h=>h,fun _ _ h=>h⟩
def Fh(w:World)(ob:Obj):(w.alloc ob).heap.size=w.heap.size+1:=by simp_all
def Rel.alloc{w:World}{I:Nat->Prop}{σ:ju}{h:bh}(R:Rel w I σ h)(ob:Obj):Rel (w.alloc ob) I σ h:=by
 refine R.eU (Ext.alloc R.eu ob) (fun b hb=>by rw[Fh];have:=R.eu b hb;omega) (fun b hb=> ?_) (fun _ _=>rfl);obtain⟨hi,c,el,hh⟩:=R.owned hb;exact⟨PT w ob b hh.lt,hi⟩
def KC {w:World} {I:Nat->Prop} {σ:ju} {h:bh} (R:Rel w I σ h) {n k:Nat}  {eU:Bool}  (c:Array Value)
  (hn:h n=none) (hs:σ n=none) (hle:es.length*k<=c.size)
  (hr:dN (w.alloc (.cells c el)) I (mu eU (aR σ n (some (w.heap.size,0,k)))) es k w.heap.size 0):
  Step w I σ h n (w.alloc (.cells c el)) I (aR σ n (some (w.heap.size,0,k))) (aR h n (some ⟨k,es,eU⟩)) (n+1):=by
 have Fi:=arc w (.cells c el);have hnI: ¬I w.heap.size:=fun hi=>by have:=R.eu _ hi;omega
 have hnO: ¬jk σ h w.heap.size:=fun ho=>by
  obtain⟨_,c',PR,hh⟩:=R.owned ho;have:=hh.lt;omega
 have R1:=(R.alloc (.cells c el)).YB (n:=n) (b:=w.heap.size) (o:=0) (k:=k) (es:=es) (eU:=eU) hn hs (kQ.zero Fi) hnI hnO (by omega) hr;refine⟨(Ext.alloc R.eu _).trans (Ext.UL hs),R1,rfl,rfl,rfl,by grind,fun b hb _=>PT w _ b hb,fun b hb=> ?_,fun _ hb=> .inl hb,by omega,fun id fa=>by grind [aR],fun id fa Mq=>by grind [aR]⟩;obtain⟨id,ob,o,k',h1,h2⟩:=hb;by_cases e:id=n
 ·grind [aR]
 ·right;exact⟨id,ob,o,k',by grind [aR],by grind [aR]⟩
def Ti{w:World}{I:Nat->Prop}{σ:ju}{h:bh}(R:Rel w I σ h){n k:Nat}(hs:σ n=none)(hr:dD w I σ v u)(hf:v.fits k=true):
  dN (w.alloc (.cells u.cells el)) I (aR σ n (some (w.heap.size,0,k))) [v] k w.heap.size 0:=by
 have hc:=hr.cells hf;rw[kP];refine⟨hc.1,fun j c hj=> ?_,by simp[dN]⟩;obtain⟨u',h1,h2,h3⟩:=hc.2.get hj;refine⟨u',?_,h2,h3.ext ((Ext.alloc R.eu _).trans (Ext.UL hs))⟩
 simp_all
def sliceB(P:Program)(t:TypeId)(x:TI):Bool:=
 match P.underlying t with
 |some (.slice e)=>e==x.elem
 |_=>false
def kdB(P:Program)(t:TypeId)(kd:Nat):Bool:=
 match P.underlying t,kd with
 |some (.int _),0=>true
 |some .bool,1=>true
 |some .string,2=>true
 |_,_=>false
def Fj(P:Program):Nat->List Field->List Nat->Bool
 |_,[],[]=>true
 |j,f::fs,k::ks=>f.name != "_" &&f.offset==j&&kdB P f.type k&&Fj P (j+1) fs ks
 |_,_,_=>false
def eqB(P:Program)(t:TypeId)(ag:Bool)(wR:List Nat):Bool:=
 match P.underlying t with
 |some (.struct fs)=>ag&& (wR==[]||(!(P.stoodInHeld t)&& !(P.eqGuardType P.depth t)&&Fj P 0 fs.toList wR))
 |some .bool=> !ag&&wR==[1]
 |some (.pointer _)=> !ag&&wR==[3]
 |some (.array _ _)=>ag&&wR==[9]
 |some (.interface _)=> !ag&& (wR==[]||wR==[4])
 |_=> !ag&& (wR==[]||wR==[0]||wR==[2])
def tB(X:Env)(t:TypeId):Bool:=tiB X.P t (X.ti t)
def UR(X:Env)(nt:Nat)(o:Oper):Bool:=
 (match o.dst with|some d=>decide (d<nt)|none=>true)&&o.op.operands.toList.all aij&&
 (match o.op with
 | .alloc t| .box t _| .load t _| .fieldAddr t _ _=>tB X t
 | .store t _ _=>tB X t&&o.dst==none
 | .build t _=>tB X t&& ((X.ti t).arr==none||tB X (X.ti t).elem)
 | .buildSlice t n _=>sliceB X.P t (X.ti t)&&tB X (X.ti t).elem&&decide (n*(X.ti (X.ti t).elem).size<=2^24)
 | .makeSlice t _ _=>sliceB X.P t (X.ti t)&&tB X (X.ti t).elem
 | .indexAddr t _ _=>(((X.ti t).arr==none&&sliceB X.P t (X.ti t))||(tB X t&& (X.ti t).arr !=none))&&tB X (X.ti t).elem
 | .index t _ _=>tB X t&& ((X.ti t).arr==none||tB X (X.ti t).elem)&& ((X.ti t).arr !=none||(match X.P.underlying t with|some .string=>true|_=>false))
 | .field t _ f=>tB X o.type&& (match X.P.underlying t with|some (.struct fs)=>(match fs[f]?,(X.ti t).wQ[f]? with|some fd,some (k,_)=>fd.type==o.type&&fd.offset==k|_,_=>false)|_=>false)
 | .convert s d _=>tB X d&& (X.P.underlying s).isSome&& (!(X.ti d).isStr||((match X.P.underlying d with|some .string=>true|_=>false)&& (match X.P.underlying s with|some (.slice e)=>(match X.P.underlying e with|some (.int .u8)=>true|_=>false)|_=>false)))&& ((X.ti d).isStr|| !((X.ti (X.ti d).elem).kind==some .u8)||(X.ti d).kind.isSome||(sliceB X.P d (X.ti d)&&tB X (X.ti d).elem))
 | .binOp .eql t _ y _| .binOp .neq t _ y _=>eqB X.P t (X.ti t).agg (X.ti t).wR&& ((X.ti t).wR !=[4]||(match y with| .const _=>true|_=>false))
 | .slice t _ _ _ _=>match X.P.underlying t with|some (.slice e)=> !(X.ti t).isStr&&e==(X.ti t).elem&&tB X e&& (X.ti t).arr==none|some .string=>(X.ti t).isStr&& (X.ti t).arr==none|some (.array n e)=> !(X.ti t).isStr&& (X.ti t).arr==some n&&e==(X.ti t).elem&&tB X e&&decide (n<=1000)|_=>false
 | .call ⟨.builtin .append,args,mH⟩=>args.size==2&& (match mH.toList with
   |t::u::_=>sliceB X.P t (X.ti t)&&tB X (X.ti t).elem&& (match X.P.underlying u with
    |some (.slice _)=>true
    |some .string=>true
    |_=>(X.ti u).kind.isSome)
   |_=>false)
 | .call ⟨.builtin .copy,args,mH⟩=>args.size==2&& (match mH.toList with
   |t::u::_=>sliceB X.P t (X.ti t)&&tB X (X.ti t).elem&& (match X.P.underlying u with
    |some (.slice _)=>true
    |some .string=>true
    |_=>false)
   |_=>false)
 | .call ⟨.builtin .len,args,mH⟩=>args.size==1&& (match mH.toList with
   |t::_=>(match X.P.underlying t with|some (.slice _)=> !(X.ti t).isStr|some .string=>(X.ti t).isStr|_=>false)
   |_=>false)
 |_=>true)
def Out(X:Env)(o:Oper)(a:Act)(w:World)(I:Nat->Prop)(σ:ju)(S S1:St):Prop:=
 ∃nx w' I' σ' u v,(execOp a.eval o).run X.P w= .ok nx w'/\(nx= .value u\/(nx= .skip/\u=undef))/\
  Step w I σ S.h S.n w' I' σ' S1.h S1.n/\S1.f=(S.set o.dst v).f/\dD w' I' σ' v u
section
variable {X:Env} {o:Oper} {a:Act} {w:World} {I:Nat->Prop} {σ:ju} {S S1:St}
theorem fm(S:St)(d:Option Nat)(v:V):(S.set d v).h=S.h:=by cases d<;>rfl
theorem hX(S:St)(d:Option Nat)(v:V):(S.set d v).n=S.n:=by cases d<;>rfl
theorem rN(S S':St)(d:Option Nat)(v:V)(h:S'.f=S.f):(S'.set d v).f=(S.set d v).f:=by cases d<;>simp[St.set,h]
theorem Out.pure(R:Rel w I σ S.h)(h:(execOp a.eval o).run X.P w= .ok (.value u) w)(hr:dD w I σ v u)(hs:S1=S.set o.dst v):Out X o a w I σ S S1:=by
 subst hs;refine⟨_,w,I,σ,u,v,h,.inl rfl,?_,rfl,hr⟩;rw[fm,hX];exact Step.refl R _
def nP(o:Oper):Prop:= ∀x∈o.op.operands.toList,aij x=true
theorem iG{n:Int}(h:dD w I σ (.int k n) u):u= .int k n:=by simpa[dD] using h
theorem tS(h:dD w I σ (.bool b) u):u= .bool b:=by simpa[dD] using h
theorem YF {c:Operand} (ho:o.op= .pick c x y) (R:Rel w I σ S.h) (F:jw w I σ S.f a) (hx:nP o) {t:Bool} (hc:S.ev c= .bool t)
  (hs:S1=S.set o.dst (if t then S.ev x else S.ev y)):Out X o a w I σ S S1:=by
 have h1:=fj (S:=S) F (hx c (by simp[ho,Op.operands]));have h2:=fj (S:=S) F (hx x (by simp[ho,Op.operands]));have h3:=fj (S:=S) F (hx y (by simp[ho,Op.operands]));rw[hc]at h1;have hb:=tS h1;refine Out.pure (u:=if t then a.eval x else a.eval y) R ?_ ?_ hs
 ·simp[execOp,ho,hb,asBool]
 grind
theorem Mt(ho:o.op= .move x\/o.op= .assign x)(R:Rel w I σ S.h)(F:jw w I σ S.f a)(hx:nP o)(hs:S1=S.set o.dst (S.ev x)):Out X o a w I σ S S1:=by
 have h1:dD w I σ (S.ev x) (a.eval x):=fj (S:=S) F (hx x (by rcases ho with h|h<;>simp[h,Op.operands]));refine Out.pure (u:=a.eval x) R ?_ h1 hs;rcases ho with h|h<;>simp[execOp,h]
theorem Fk{x:TI}(T:mh P t x)(w:World): ∃z,(zeroValue t).run P w= .ok z w/\Ja x.zero z=true:=by
 obtain⟨i,z,hi,_,_,hz,hb⟩:=T.info;exact⟨z,by simp[zeroValue,typeInfo,hi,hz],hb⟩
theorem US  (ho:o.op= .alloc t) (T:mh X.P t (X.ti t)) (R:Rel w I σ S.h) (hn:S.h S.n=none) (vk:σ S.n=none)
  (hs:S1=(S.new ⟨(X.ti t).size,[(X.ti t).zero],true⟩).set o.dst (.ptr S.n 0 0)):Out X o a w I σ S S1:=by
 subst hs;obtain⟨z,hz,hb⟩:=Fk T w;have hrz:dD w I σ (X.ti t).zero z:=Mr T hb;refine⟨_,w.alloc (.cells z.cells t),I,aR σ S.n (some (w.heap.size,0,(X.ti t).size)),.pointer (some ⟨w.heap.size,0,none⟩),.ptr S.n 0 0,?_,.inl rfl,?_,?_,?_⟩
 ·simp[execOp,ho,Instr.alloc,hz,newVar,newRow]
 ·rw[fm,hX];refine KC R z.cells hn vk ?_ (Ti R vk hrz T.aq9);have:=(hrz.cells T.aq9);have hl:=(dO _ _).1 this.2
  grind
 ·exact rN _ _ _ _ rfl
 ·exact⟨w.heap.size,0,(X.ti t).size,by simp[aR],by simp⟩
theorem ail   (ho:o.op= .box t x) (R:Rel w I σ S.h) (F:jw w I σ S.f a) (hx:nP o) (hn:S.h S.n=none) (vk:σ S.n=none)
  (hf:(S.ev x).fits (X.ti t).size=true) (hs:S1=(S.new ⟨(X.ti t).size,[S.ev x],true⟩).set o.dst (.ptr S.n 0 0)):Out X o a w I σ S S1:=by
 subst hs;have hrz:dD w I σ (S.ev x) (a.eval x):=fj (S:=S) F (hx x (by simp[ho,Op.operands]));refine⟨_,w.alloc (.cells (a.eval x).cells t),I,aR σ S.n (some (w.heap.size,0,(X.ti t).size)),.pointer (some ⟨w.heap.size,0,none⟩),.ptr S.n 0 0,?_,.inl rfl,?_,?_,?_⟩
 ·simp[execOp,ho,Instr.box,newVar,newRow]
 ·rw[fm,hX];refine KC R (a.eval x).cells hn vk ?_ (Ti R vk hrz hf);have:=(hrz.cells hf);have hl:=(dO _ _).1 this.2
  grind
 ·exact rN _ _ _ _ rfl
 ·exact⟨w.heap.size,0,(X.ti t).size,by simp[aR],by simp⟩
theorem KD   (ho:o.op= .load t x) (T:mh X.P t (X.ti t)) (R:Rel w I σ S.h) (F:jw w I σ S.f a) (hx:nP o)
  {id i f:Nat}   (he:S.ev x= .ptr id i f) (gG:S.h id=some ob) (hi:ob.es[i]?=some e) (hv:part (X.ti t) e.cells f=some v) (hs:S1=S.set o.dst v):Out X o a w I σ S S1:=by
 have h1:dD w I σ (S.ev x) (a.eval x):=fj (S:=S) F (hx x (by simp[ho,Op.operands]));rw[he]at h1;obtain⟨b,of,k,mQ,hu⟩:=h1;obtain⟨b',o',c,el,oG,hI,hb,s7,fX⟩:=R.at gG hi;rw[mQ]at oG;obtain⟨rfl,rfl,rfl⟩:=oG;have hc:=(fX.get hi).2.ext (Ext.Fc ob.eU) rfl;obtain⟨u,hld,hr⟩:=Ff T (f:=f) hc hv;refine Out.pure (u:=u) R ?_ hr hs;simp[execOp,ho,hu,Instr.loadAt,Instr.sureAddr,hld]
theorem KE   (ho:o.op= .load t x) (T:mh X.P t (X.ti t)) (R:Rel w I σ S.h) (F:jw w I σ S.f a) (hx:nP o)
    (he:S.ev x= .ref cs) (hv:part (X.ti t) cs 0=some v) (hs:S1=S.set o.dst v):Out X o a w I σ S S1:=by
 have h1:dD w I σ (S.ev x) (a.eval x):=fj (S:=S) F (hx x (by simp[ho,Op.operands]));rw[he]at h1;obtain⟨b,of,hu,hI,hc⟩:=h1;rw[tH]at hc;obtain⟨u,hld,hr⟩:=Ff T (f:=0) hc hv;refine Out.pure (u:=u) R ?_ (hr.ext Ext.free) hs;simp only[adU]at hld;simp[execOp,ho,hu,Instr.loadAt,Instr.sureAddr,hld]
theorem Dx{x:TI}(T:mh P t x){i off k:Nat}(hf:x.wQ[i]?=some (off,k))(w:World)(b p:Nat):
  (Instr.fieldAt t (.pointer (some ⟨b,p,none⟩)) i).run P w= .ok (.pointer (some ⟨b,p+off,none⟩)) w:=by
 obtain⟨d,hd,hb⟩:=T.und;cases d with
 |struct fs=>
  simp only[Af,aaF,beq_iff_eq]at hb;obtain⟨⟨⟨⟨_,wW⟩,_⟩,_⟩,Mu⟩:=hb;rw[wW,abG]at hf;cases KF:fs.toList[i]? with
  |none=>grind
  |some fd=>
   simp[KF]at hf;have Jd:fs[i]?=some fd:=by simpa using KF
   have hp:=List.all_eq_true.1 Mu fd (aaT KF);simp at hp;have s7:(sizeOf fd.type).run P w= .ok (P.cellsOf fd.type) w:=by
    unfold Program.cellsOf at hp⊢;cases hi:P.info? fd.type with
    |none=>grind
    |some i=>simp[sizeOf,typeInfo,hi]
   simp[Instr.fieldAt,run_underlying hd,Jd,Instr.sureAddr,fieldPlace,s7,Nat.ne_of_gt hp,qu]
 |_=>
  simp[Af]at hb
  grind
theorem Ag   {i:Nat} (ho:o.op= .fieldAddr t x i) (T:mh X.P t (X.ti t)) (R:Rel w I σ S.h) (F:jw w I σ S.f a) (hx:nP o)
  {off k:Nat} (hf:(X.ti t).wQ[i]?=some (off,k))  (hv:(∃id j f,S.ev x= .ptr id j f/\v= .ptr id j (f+off))\/(∃cs,S.ev x= .ref cs/\v= .ref (cs.drop off)))
  (hs:S1=S.set o.dst v):Out X o a w I σ S S1:=by
 have h1:dD w I σ (S.ev x) (a.eval x):=fj (S:=S) F (hx x (by simp[ho,Op.operands]));rcases hv with⟨id,j,f,he,rfl⟩|⟨cs,he,rfl⟩
 ·rw[he]at h1;obtain⟨b,of,k',mQ,hu⟩:=h1;refine Out.pure (u:= .pointer (some ⟨b,of+j*k'+f+off,none⟩)) R ?_ ?_ hs
  ·simp[execOp,ho,hu,Dx T hf]
  ·exact⟨b,of,k',mQ,by grind⟩
 ·rw[he]at h1;obtain⟨b,of,hu,hI,hc⟩:=h1;refine Out.pure (u:= .pointer (some ⟨b,of+off,none⟩)) R ?_ ?_ hs
  ·simp[execOp,ho,hu,Dx T hf]
  ·refine⟨b,of+off,rfl,hI,?_⟩;rw[tH]at hc⊢;intro q c hq;rw[abX]at hq;have:=hc (off+q) c hq
   grind
end
section
variable {w:World} {I:Nat->Prop} {σ:ju} {h:bh}
theorem tU(hv:v.oU=true)(hr:dD w I σ v u):dD w I fv v u:=by
 cases v with
 |int k n=>simpa[dD] using hr
 |bool b=>simpa[dD] using hr
 |str s=>simpa[dD] using hr
 |sl c es=>simpa only[dD] using hr
 |ve=>simpa[dD] using hr
 |Pn b=>simpa only[dD] using hr
 |fn g bx7 bs=>
  cases bx7 with
  |nil=>cases bs with
   |nil=>simpa[dD,iO] using hr
   |cons _ _=>simp[V.oU]at hv
  |cons _ _=>simp[V.oU]at hv
 |_=>simp[V.oU]at hv
def aim(I:Nat->Prop)(σ:ju)(h h':bh):Nat->Prop:=fun b=>I b\/(jk σ h b/\ ¬jk σ h' b)
theorem jk.PU{id b:Nat}(ho:jk σ (aR h id none) b):jk σ h b:=by
 obtain⟨i,ob,o,k,h1,h2⟩:=ho;by_cases e:i=id
 ·grind [aR]
 ·exact⟨i,ob,o,k,by grind [aR],h2⟩
theorem Rel.KG(R:Rel w I σ h){id b o k:Nat}(h1:h id=some ob)(h2:σ id=some (b,o,k)): ¬jk σ (aR h id none) b:=by
 rintro⟨i,oE,o',k',h3,h4⟩;by_cases e:i=id
 ·grind [aR]
 ·exact e (R.apart i id oE ob b o' k' o k (by grind [aR]) h1 h4 h2)
theorem Je(R:Rel w I σ h){h':bh}(AB: ∀id ob,h' id=some ob->h id=some ob)(n:Nat):Step w I σ h n w (aim I σ h h') σ h' n:=by
 have E:Ext w I σ w (aim I σ h h') σ:=⟨fun _ _=>rfl,fun _ c _ fz hh=>⟨c,fz,hh,rfl⟩,fun b hb=> .inl hb,fun _ _ hh=>hh⟩;have rV: ∀b,jk σ h' b->jk σ h b:=fun b ⟨i,ob,o,k,h1,h2⟩=>⟨i,ob,o,k,AB _ _ h1,h2⟩;refine⟨E,(R.sub AB).eU E (fun b hb=> ?_) (fun b hb=>⟨rfl,?_⟩) (fun _ _=>rfl),rfl,rfl,rfl,aaI _,fun _ _ _=>rfl,fun b hb=> .inr (rV b hb),fun b hb=> ?_,aaI _,fun _ _=>rfl,fun id _ hn=> ?_⟩
 ·rcases hb with hb|hb
  ·exact R.eu b hb
  ·obtain⟨_,c,el,hh⟩:=R.owned hb.1;exact hh.lt
 ·rintro(hi|⟨_,hn⟩)
  ·exact(R.owned (rV b hb)).1 hi
  grind
 ·rcases hb with hb|hb
  ·grind
  grind
 ·cases hc:h' id with
  |none=>rfl
  |some ob=>grind
theorem dN.Tg{k b o:Nat}(hr:dN w I σ es k b o)(s l:Nat):dN w I σ ((es.drop s).take l) k b (o+s*k):=by
 rw[lQ]at hr⊢
 grind
theorem Mv{k b o:Nat}(he:es.all V.PH=true)(hr:dN w I σ es k b o):dN w I fv es k b o:=by
 rw[lQ]at hr⊢;intro i e hi;obtain⟨h1,h2⟩:=hr i e hi;refine⟨h1,fun j c hj=> ?_⟩;obtain⟨u,g1,g2,g3⟩:=h2 j c hj;refine⟨u,g1,g2,tU ?_ g3⟩;have hx:e.PH=true:=List.all_eq_true.1 he e (aaT hi);cases e with
 |agg cs=>exact List.all_eq_true.1 hx c (aaT hj)
 |_=>
  cases j with
  |zero=>simp[V.cells]at hj;subst hj;exact hx
  |succ j=>simp[V.cells]at hj
theorem Tj (R:Rel w I σ h) {id s l:Nat}   (hr:dD w I σ (.cx id s l) u) (gG:h id=some ob) (hk:(!ob.eU||ob.es.all V.PH)=true) (hle:s+l<=ob.es.length)
  {J:Nat->Prop} (UT: ∀b,I b->J b) (hJ: ∀b o k,σ id=some (b,o,k)->J b):dD w J fv (.sl false ((ob.es.drop s).take l)) u:=by
 obtain⟨a,cap,rfl,h1,h2,h3⟩:=hr;have hlen:((ob.es.drop s).take l).length=l:=by simp;omega
 refine⟨a,cap,by grind,by omega,h2,fun hc=>(by grind),?_⟩;by_cases hl:l=0
 ·grind
 ·right;rcases h3 with h3|⟨b,of,k,c,el,fz,hs,ha,hb,pS⟩
  ·omega
  ·have hi:ob.es[s]?=some (ob.es[s]'(by omega)):=by simp
   obtain⟨b',o',c',PR,oG,hI,wT,s7,fX⟩:=R.at gG hi;rw[hs]at oG;obtain⟨rfl,rfl,rfl⟩:=oG;refine⟨b,of+s*ob.k,ob.k,ha,hJ b of ob.k hs,?_⟩;have aya:dN w I fv ob.es ob.k b of:=by
    cases v7:ob.eU with
    |false=>rw[v7]at fX;exact fX
    |true=>
     rw[v7]at hk;exact Mv (by grind) fX
   have yi:=aya.Tg s l;have E:Ext w I fv w J fv:=⟨fun _ _=>rfl,fun _ c _ fz hh=>⟨c,fz,hh,rfl⟩,UT,fun _ _ hh=>hh⟩;exact yi.nO E rfl
theorem Jf(R:Rel w I σ h){h':bh}(hr:dD w I σ v u)(hg:oV h v=some (v',h'))(n:Nat):
  ∃I',Step w I σ h n w I' σ h' n/\dD w I' fv v' u/\(∀id ob,h' id=some ob->h id=some ob):=by
 unfold oV at hg;split at hg
 ·rename_i id s l;cases gG:h id with
  |none=>grind
  |some ob=>
   simp only[gG]at hg;split at hg
   ·rename_i hc;simp only[aaF,decide_eq_true_eq]at hc;obtain⟨rfl,rfl⟩:=hg;have AB: ∀i oE,aR h id none i=some oE->h i=some oE:=by
     intro i oE hi;by_cases e:i=id
     ·grind [aR]
     ·grind [aR]
    refine⟨_,Je R AB n,dD.lP (v:= .sl false _) (Tj R hr gG hc.1 hc.2 (fun b hb=> .inl hb) (fun b o k hs=> .inr ⟨⟨id,ob,o,k,gG,hs⟩,R.KG gG hs⟩)),AB⟩
   grind
 ·split at hg
  ·rename_i hi;obtain⟨rfl,rfl⟩:=hg;exact⟨I,Step.refl R n,(tU hi hr).lP,fun _ _ hh=>hh⟩
  grind
theorem Jg: ∀{cs rS:List V} {I:Nat->Prop} {h h':bh} {us:List Value},Rel w I σ h->fR w I σ cs us->gd h cs=some (rS,h')-> ∀n:Nat,
  ∃I',Step w I σ h n w I' σ h' n/\fR w I' fv rS us/\(∀id ob,h' id=some ob->h id=some ob)
 | [],rS,I,h,h',us,R,hr,hg,n=>by
  obtain⟨rfl,rfl⟩:=hg;exact⟨I,Step.refl R n,by simpa[fR] using hr,fun _ _ hh=>hh⟩
 |c::cs,rS,I,h,h',us,R,hr,hg,n=>by
  obtain⟨u,r,rfl,h1,h2,h3⟩:=hr;simp only[gd]at hg;cases hc:oV h c with
  |none=>grind
  |some x=>
   obtain⟨c',uF⟩:=x;simp only[hc]at hg;cases hl:gd uF cs with
   |none=>grind
   |some y=>
    simp only[hl,aA,bM]at hg;obtain⟨rfl,rfl⟩:=hg;obtain⟨I1,s1,r1,Ih⟩:=Jf R h2 hc n;have YG:fR w I1 σ cs r:=fR.ext' cs r s1.ext h3;obtain⟨I2,s2,r2,YH⟩:=Jg s1.rel YG hl n;refine⟨I2,s1.trans s2,?_,fun id ob hh=>Ih _ _ (YH _ _ hh)⟩;exact⟨u,r,rfl,h1,r1.ext s2.ext.Kz,r2⟩
theorem Fl(R:Rel w I σ h){h':bh}(hr:dD w I σ v u)(hg:qs h v=some (v',h'))(n:Nat):
  ∃I',Step w I σ h n w I' σ h' n/\dD w I' fv v' u/\(∀id ob,h' id=some ob->h id=some ob):=by
 unfold qs at hg;split at hg
 ·rename_i cs;cases hl:gd h cs with
  |none=>grind
  |some y=>
   simp only[hl,aA,bM]at hg;obtain⟨rfl,rfl⟩:=hg;obtain⟨us,rfl,hc⟩:=hr;obtain⟨I1,s1,r1,sub⟩:=Jg R hc hl n;exact⟨I1,s1,by exact⟨us,rfl,r1⟩,sub⟩
 ·exact Jf R hr hg n
theorem Jh: ∀{ps x9:List (Nat×V)} {I:Nat->Prop} {h h':bh} {us:List Value},Rel w I σ h->iO w I σ (ps.map (·.2)) us->mG h ps=some (x9,h')-> ∀n:Nat,
  ∃I',Step w I σ h n w I' σ h' n/\iO w I' fv (x9.map (·.2)) us/\x9.map (·.1)=ps.map (·.1)/\(∀id ob,h' id=some ob->h id=some ob)
 | [],x9,I,h,h',us,R,hr,hg,n=>by
  obtain⟨rfl,rfl⟩:=hg;exact⟨I,Step.refl R n,by simpa[iO] using hr,rfl,fun _ _ hh=>hh⟩
 |(i,c)::ps,x9,I,h,h',us,R,hr,hg,n=>by
  obtain⟨u,r,rfl,h2,h3⟩:=hr;simp only[mG]at hg;cases hc:qs h c with
  |none=>grind
  |some x=>
   obtain⟨c',uF⟩:=x;simp only[hc]at hg;cases hl:mG uF ps with
   |none=>grind
   |some y=>
    simp only[hl,aA,bM]at hg;obtain⟨rfl,rfl⟩:=hg;obtain⟨I1,s1,r1,Ih⟩:=Fl R h2 hc n;have YG:iO w I1 σ (ps.map (·.2)) r:=iO.ext' _ r s1.ext h3;obtain⟨I2,s2,r2,e2,YH⟩:=Jh s1.rel YG hl n;refine⟨I2,s1.trans s2,?_,by grind,fun id ob hh=>Ih _ _ (YH _ _ hh)⟩;exact⟨u,r,rfl,r1.ext s2.ext.Kz,r2⟩
end
section
variable {X:Env} {o:Oper} {a:Act} {w:World} {I:Nat->Prop} {σ:ju} {S S1:St}
theorem UU   (ho:o.op= .store t x y) (T:mh X.P t (X.ti t)) (R:Rel w I σ S.h) (F:jw w I σ S.f a) (hx:nP o)
  {id i f:Nat}   {h:bh}   (he:S.ev x= .ptr id i f) (h0:S.h id=some H5)
  (hg:(if H5.eU then some (S.ev y,S.h) else qs S.h (S.ev y))=some (v,h)) (gG:h id=some ob) (hi:ob.es[i]?=some e)
  (hf:(v.fits (X.ti t).size&&decide (f+(X.ti t).size<=e.cells.length))=true) (hd:o.dst=none)
  (hs:S1={S with h:=aR h id (some {ob with es:=ob.es.set i (e.put f v)})}):Out X o a w I σ S S1:=by
 subst hs;have h1:dD w I σ (S.ev x) (a.eval x):=fj (S:=S) F (hx x (by simp[ho,Op.operands]));have h2:dD w I σ (S.ev y) (a.eval y):=fj (S:=S) F (hx y (by simp[ho,Op.operands]));rw[he]at h1;obtain⟨b,of,k,mQ,hu⟩:=h1;simp only[aaF,decide_eq_true_eq]at hf;have key: ∃I',Step w I σ S.h S.n w I' σ h S.n/\dD w I' (mu ob.eU σ) v (a.eval y):=by
  by_cases hk:H5.eU=true
  ·rw[if_pos hk]at hg;obtain⟨rfl,rfl⟩:=hg;rw[h0]at gG;simp at gG;subst gG;exact⟨I,Step.refl R _,by simpa[mu,hk] using h2⟩
  ·rw[if_neg hk]at hg;obtain⟨I',s,r,sub⟩:=Fl R h2 hg S.n;have:=sub id ob gG;rw[h0]at this;simp at this;subst this;exact⟨I',s,by simpa[mu,hk] using r⟩
 obtain⟨I',s,r⟩:=key;obtain⟨w',kr,s'⟩:=UQ T s.rel gG hi r hf.1 hf.2 S.n mQ;refine⟨_,w',I',σ,undef,.bad,?_,.inr ⟨rfl,rfl⟩,s.trans s',by simp[St.set,hd],by simp[dD]⟩;simp[execOp,ho,hu,Instr.storeAt,Instr.sureAddr,kr]
theorem wX  (ho:o.op= .nilCheck x) (R:Rel w I σ S.h) (F:jw w I σ S.f a) (hx:nP o)
  (hv:(∃id j f,S.ev x= .ptr id j f)\/(∃cs,S.ev x= .ref cs)\/(∃g p q,S.ev x= .fn g p q)) (hs:S1=S.set o.dst (S.ev x)):Out X o a w I σ S S1:=by
 have h1:dD w I σ (S.ev x) (a.eval x):=fj (S:=S) F (hx x (by simp[ho,Op.operands]));refine Out.pure (u:=a.eval x) R ?_ h1 hs;rcases hv with⟨id,j,f,he⟩|⟨cs,he⟩|⟨g,p,q,he⟩
 ·rw[he]at h1;obtain⟨b,of,k,_,hu⟩:=h1;simp[execOp,ho,hu]
 ·rw[he]at h1;obtain⟨b,of,hu,_⟩:=h1;simp[execOp,ho,hu]
 ·rw[he]at h1;obtain⟨us,vs,hu,_⟩:=h1;simp[execOp,ho,hu]
theorem YI{op:UnOp}(ho:o.op= .unOp op t x)(R:Rel w I σ S.h)(F:jw w I σ S.f a)(hx:nP o)(hv:unV op (S.ev x)=some v)(hs:S1=S.set o.dst v):Out X o a w I σ S S1:=by
 have h1:dD w I σ (S.ev x) (a.eval x):=fj (S:=S) F (hx x (by simp[ho,Op.operands]));unfold unV at hv;split at hv
 ·rename_i k n he;rw[he]at h1;have hu:=iG h1;simp only[aA]at hv;subst hv;exact Out.pure (u:= .int k (k.wrap (0-n))) R (by simp[execOp,ho,hu,Op.unary,Op.intArith]) (by simp[dD]) hs
 ·rename_i b he;rw[he]at h1;have hu:=tS h1;simp only[aA]at hv;subst hv;exact Out.pure (u:= .bool (!b)) R (by simp[execOp,ho,hu,Op.unary]) (by simp[dD]) hs
 grind
theorem Mw    {n:Int} (ho:o.op= .convert s d x) (T:mh X.P d (X.ti d)) (Fm:(X.P.underlying s).isSome=true) (R:Rel w I σ S.h) (F:jw w I σ S.f a) (hx:nP o)
  (hk:(X.ti d).kind=some k) (he:S.ev x= .int k' n) (hs:S1=S.set o.dst (.int k (k.wrap n))):Out X o a w I σ S S1:=by
 have h1:dD w I σ (S.ev x) (a.eval x):=fj (S:=S) F (hx x (by simp[ho,Op.operands]));rw[he]at h1;have hu:=iG h1;obtain⟨e,hd,hb⟩:=T.und;have hde:e= .int k:=by
  cases e<;>simp_all [Af]
 subst hde;obtain⟨ds,hds⟩:=Option.isSome_iff_exists.1 Fm;exact Out.pure (u:= .int k (k.wrap n)) R (by simp[execOp,ho,hu,convert,run_underlying hds,run_underlying hd,Conv.intToInt]) (by simp[dD]) hs
theorem KH {g:FuncId}  (ho:o.op= .makeFunc (.func g) p q) (R:Rel w I σ S.h) (F:jw w I σ S.f a) (hx:nP o)
  (hs:S1=S.set o.dst (.fn g (p.toList.map S.ev) (q.toList.map S.ev))):Out X o a w I σ S S1:=by
 have hl: ∀(xs:Array Operand),(∀x∈xs.toList,x∈o.op.operands.toList)->iO w I σ (xs.toList.map S.ev) (xs.map a.eval).toList:=by
  intro xs hxs;rw[mJ];refine⟨by simp,fun j c u hc hu=> ?_⟩;rw[abG]at hc;simp only[Array.toList_map,abG]at hu;cases hj:xs.toList[j]? with
  |none=>grind
  |some y=>
   simp only[hj,acq,aA]at hc hu;subst hc;subst hu;exact fj (S:=S) F (hx y (hxs y (aaT hj)))
 refine Out.pure (u:= .func (.func g) (p.map a.eval) (q.map a.eval)) R (by simp[execOp,ho,Instr.makeFunc]) ?_ hs;exact⟨_,_,rfl,hl p (by simp[ho,Op.operands];grind),hl q (by simp[ho,Op.operands];grind)⟩
theorem Mx{i:Nat}(ho:o.op= .extract x i)(R:Rel w I σ S.h)(F:jw w I σ S.f a)(hx:nP o)(he:S.ev x= .dP vs)(hv:vs[i]?=some v)(hs:S1=S.set o.dst v):Out X o a w I σ S S1:=by
 have h1:dD w I σ (S.ev x) (a.eval x):=fj (S:=S) F (hx x (by simp[ho,Op.operands]));rw[he]at h1;obtain⟨us,hu,hr⟩:=h1;rw[mJ]at hr;have hi:i<vs.length:=(List.getElem?_eq_some_iff.1 hv).1;have hg:us[i]?=some (us[i]'(by grind)):=by simp
 exact Out.pure (u:=us[i]'(by grind)) R (by simp[execOp,ho,hu,Instr.extract,hg]) (hr.2 i v _ hv (by simp)) hs
end
section
variable {w:World} {I:Nat->Prop} {σ:ju}
theorem su{s:List UInt8}(h:dD w I σ (.str s) u): ∃x:ByteArray,u= .string x/\x.data.toList=s:=by simpa only[dD] using h
theorem toList_eq(x:ByteArray):x.toList=x.data.toList:=by rw[ByteArray.toList_eq]
theorem Bv{kd:Nat}(hs:kdB P t kd=true){cs:Array Value}{j:Nat}(hj:cs[j]?=some u)(w:World):(Go.part t cs j).run P w= .ok u w:=by
 unfold kdB at hs;have:(isAgg t).run P w= .ok false w:=by
  unfold isAgg;split at hs
  ·rename_i h;rw[Sem.run_bind,run_underlying h];rfl
  ·rename_i h;rw[Sem.run_bind,run_underlying h];rfl
  ·rename_i h;rw[Sem.run_bind,run_underlying h];rfl
  ·grind
 simp[Go.part,this,hj]
theorem PV{d:Nat}{kd:Nat}(hs:kdB P t kd=true){x y:V}{v:Value}(hx:dD w I σ x u)(hy:dD w I σ y v)(hr:V.eqv kd x y=some r)(ws:World):
  (Op.equalIn (d+1) t u v).run P ws= .ok r ws:=by
 unfold V.eqv at hr;split at hr
 ·split at hr
  ·rename_i hk;obtain⟨rfl,rfl⟩:=hk;simp only[aA]at hr;subst hr;rw[iG hx,iG hy];unfold kdB at hs;split at hs
   ·rename_i h _;exact run_equalIn_int ws d t _ _ _ _ h
   ·omega
   ·omega
   grind
  grind
 ·split at hr
  ·rename_i hk;subst hk;simp only[aA]at hr;subst hr;rw[tS hx,tS hy];unfold kdB at hs;split at hs
   ·omega
   ·rename_i h _;exact run_equalIn_bool' ws d t _ _ h
   ·omega
   grind
  grind
 ·split at hr
  ·rename_i hk;subst hk;simp only[aA]at hr;subst hr;obtain⟨a,rfl,rfl⟩:=su hx;obtain⟨b,rfl,rfl⟩:=su hy;unfold kdB at hs;split at hs
   ·omega
   ·omega
   ·rename_i h _;rw[run_equalIn_string ws d t _ _ h,toList_eq,toList_eq]
   grind
  grind
 grind
theorem Bw{P:Program}{d:Nat}: ∀(fs:List Field) (ks:List Nat) (xs ys:List V) (j:Nat) (us vs:Array Value) (r:Bool),Fj P j fs ks=true->zY ks xs ys=some r->
  fR w I σ xs (us.toList.drop j)->fR w I σ ys (vs.toList.drop j)-> ∀ws,(Op.eqFields (d+1) us vs fs).run P ws= .ok r ws
 | [],ks,xs,ys,j,us,vs,r,hf,he,hx,hy,ws=>by
  cases ks with
  |nil=>
   cases xs with
   |nil=>cases ys with
    |nil=>simp only[zY,aA]at he;subst he;simp[Op.eqFields]
    |cons _ _=>simp[zY]at he
   |cons _ _=>simp[zY]at he
  |cons _ _=>simp[Fj]at hf
 |f::fs,ks,xs,ys,j,us,vs,r,hf,he,hx,hy,ws=>by
  cases ks with
  |nil=>simp[Fj]at hf
  |cons k ks=>
   cases xs with
   |nil=>simp[zY]at he
   |cons x xs=>cases ys with
    |nil=>simp[zY]at he
    |cons y ys=>
     simp only[Fj,aaF,bne_iff_ne,beq_iff_eq]at hf;obtain⟨⟨⟨h1,h2⟩,h3⟩,h4⟩:=hf;simp only[zY]at he;cases e1:V.eqv k x y with
     |none=>grind
     |some p=>cases e2:zY ks xs ys with
      |none=>grind
      |some q=>
       simp only[e1,e2,aA]at he;obtain⟨u,ru,hu,_,hxu,hxr⟩:=hx;obtain⟨v,rv,hv,_,hyv,hyr⟩:=hy;have gu:us[j]?=some u:=by
        have:=congrArg (fun l:List Value=>l[0]?) hu;simpa[abX] using this
       have gv:vs[j]?=some v:=by
        have:=congrArg (fun l:List Value=>l[0]?) hv;simpa[abX] using this
       have du:us.toList.drop (j+1)=ru:=by
        have:=congrArg (List.drop 1) hu;simpa[afu] using this
       have dv:vs.toList.drop (j+1)=rv:=by
        have:=congrArg (List.drop 1) hv;simpa[afu] using this
       have ih:=Bw (d:=d) fs ks xs ys (j+1) us vs q h4 e2 (by grind) (by grind) ws;simp only[Op.eqFields,if_pos h1];rw[h2];simp only[Sem.run_bind,Bv h3 gu,Bv h3 gv,Result.andThen_ok,PV h3 hxu hyv e1];cases p
       ·simp_all
       grind
end
section
variable {X:Env} {o:Oper} {a:Act} {w:World} {I:Nat->Prop} {σ:ju} {S S1:St}
theorem Ej(w:World)(d:Nat)(t e:TypeId)(p q:Option Addr)(h:P.underlying t=some (.pointer e))(hn:p=none\/q=none):
  (Op.equalIn (d+1) t (.pointer p) (.pointer q)).run P w= .ok (p.isNone&&q.isNone) w:=by
 rcases hn with rfl|rfl
 ·simp[Op.equalIn,run_underlying h]
 ·cases p<;>simp[Op.equalIn,run_underlying h]
theorem Fo(w:World)(t e:TypeId)(p q:Option Addr)(h:P.underlying t=some (.pointer e))(hn:p=none\/q=none):
  (Op.equal t (.pointer p) (.pointer q)).run P w= .ok (p.isNone&&q.isNone) w:=Ej w 9999 t e p q h hn
theorem Ek(w:World)(d:Nat)(t:TypeId)(h:P.underlying t=some (.interface ms)){a:Bool}{v:Value}(hu:tQ a u)(hv:tQ b v)(hn:(a&&b)=false):
  (Op.equalIn (d+1) t u v).run P w= .ok (a==b) w:=by
 cases a<;>cases b<;>simp only[tQ]at hu hv
 ·subst hu;subst hv;simp[Op.equalIn,run_underlying h]
 ·obtain⟨_,_,rfl⟩:=hv;subst hu;simp[Op.equalIn,run_underlying h]
 ·obtain⟨_,_,rfl⟩:=hu;subst hv;simp[Op.equalIn,run_underlying h]
 grind
theorem PW(w:World)(t:TypeId)(h:P.underlying t=some (.interface ms)){a:Bool}{v:Value}(hu:tQ a u)(hv:tQ b v)(hn:(a&&b)=false):
  (Op.equal t u v).run P w= .ok (a==b) w:=Ek w 9999 t h hu hv hn
theorem YJ{wR:List Nat}(hB:eqB P t ag wR=true){x y:V}{v:Value}(hx:dD w I σ x u)(hy:dD w I σ y v)(hr:PI ag wR x y=some r)(p q:Operand)(hq:wR=[4]-> ∃z,q= .const z):
  (eqGuard .eql t p q u v).run P w= .ok () w/\(eqGuard .neq t p q u v).run P w= .ok () w/\(binOp .eql t u v).run P w= .ok (.bool r) w/\(binOp .neq t u v).run P w= .ok (.bool (!r)) w:=by
 unfold PI at hr;split at hr
 ·rename_i xs ys;split at hr
  ·rename_i hag;obtain⟨us,rfl,hcx⟩:=hx;obtain⟨vs,rfl,hcy⟩:=hy;have kz: ∃fs,P.underlying t=some (.struct fs)/\(wR=[]\/(P.stoodInHeld t=false/\P.eqGuardType P.depth t=false/\Fj P 0 fs.toList wR=true)):=by
    unfold eqB at hB;split at hB
    ·grind
    ·grind
    ·grind
    ·simp[hag.1]at hB;subst hB;cases xs with
     |nil=>simp[zY]at hr
     |cons x xs=>cases ys with
      |nil=>simp[zY]at hr
      |cons y ys=>cases x<;>cases y<;>simp[zY,V.eqv]at hr
    ·grind
    ·grind
   obtain⟨fs,hfs,hc⟩:=kz;rcases hc with h0|⟨h1,h2,h3⟩
   ·grind
   ·have hF:P.fieldsOf t=fs:=by simp[Program.fieldsOf,hfs]
    have he:=Bw (d:=9998) fs.toList wR xs ys 0 us vs r h3 hr (by simpa using hcx) (by grind) w;have kH:(Op.equalIn 10000 t (.agg us) (.agg vs)).run P w= .ok r w:=by
     rw[run_equalIn_struct w 9999 t us vs (by grind) h1,hF];exact he
    refine⟨run_eqGuard_agg w .eql t p q us vs h2,run_eqGuard_agg w .neq t p q us vs h2,?_,?_⟩
    ·rw[run_eql_struct,kH];rfl
    ·rw[run_neq_struct,kH];rfl
  grind
 ·split at hr
  ·rename_i hk;subst hk;simp only[aA]at hr;subst hr;rw[iG hx,iG hy];refine⟨by rfl,by rfl,by rw[binOp_eql];rfl,by rw[binOp_neq];rfl⟩
  grind
 ·split at hr
  ·rename_i hc;simp only[aA]at hr;subst hr;rw[tS hx,tS hy];have ht:P.underlying t=some .bool:=by
    unfold eqB at hB;split at hB
    ·grind
    ·omega
    ·grind
    ·grind
    ·grind
    ·grind
   refine⟨by rfl,by rfl,?_,?_⟩
   ·simp only[binOp,Sem.run_bind];rw[show Op.equal t (.bool _) (.bool _)=Op.equalIn (9999+1) t (.bool _) (.bool _) from rfl,run_equalIn_bool' w 9999 t _ _ ht];rfl
   ·simp only[binOp,Sem.run_bind];rw[show Op.equal t (.bool _) (.bool _)=Op.equalIn (9999+1) t (.bool _) (.bool _) from rfl,run_equalIn_bool' w 9999 t _ _ ht];rfl
  grind
 ·simp only[aA]at hr;subst hr;obtain⟨a,rfl,rfl⟩:=su hx;obtain⟨b,rfl,rfl⟩:=su hy;refine⟨by rfl,by rfl,?_,?_⟩
  ·simp[binOp,Op.stringOp,toList_eq]
  ·simp[binOp,Op.stringOp,toList_eq]
 all_goals first|(cases hr;done)|skip
 all_goals
  split at hr
  case isFalse=>grind
  rename_i hc;simp only[aA]at hr;subst hr
 case h_8=>
  have ht: ∃ms,P.underlying t=some (.interface ms):=by
   unfold eqB at hB;split at hB
   ·grind
   ·grind
   ·grind
   ·grind
   ·grind
   ·grind
  obtain⟨ms,ht⟩:=ht;obtain⟨z,rfl⟩:=hq hc.2.1;rename_i a b;have h3:=hc.2.2;simp only[dD]at hx hy;have hg: ∀op,(eqGuard op t p (.const z) u v).run P w= .ok () w:=fun op=>by
   cases a<;>cases b<;>simp only[tQ]at hx hy
   ·subst hx;subst hy;cases op<;>simp[eqGuard]
   ·obtain⟨_,_,rfl⟩:=hy;cases op<;>simp[eqGuard]
   ·obtain⟨_,_,rfl⟩:=hx;cases op<;>simp[eqGuard]
   grind
  have he:=PW w t ht hx hy h3;have PX:(binOp .eql t u v).run P w= .ok (.bool (a==b)) w:=by
   have:binOp .eql t u v=(do pure (.bool (<-Op.equal t u v))):=by
    cases a<;>cases b<;>simp only[tQ]at hx hy
    ·subst hx;rfl
    ·subst hx;rfl
    ·obtain⟨_,_,rfl⟩:=hx;rfl
    ·grind
   rw[this,Sem.run_bind,he];rfl
  have Bn:(binOp .neq t u v).run P w= .ok (.bool (!(a==b))) w:=by
   have:binOp .neq t u v=(do pure (.bool (!(<-Op.equal t u v)))):=by
    cases a<;>cases b<;>simp only[tQ]at hx hy
    ·subst hx;rfl
    ·subst hx;rfl
    ·obtain⟨_,_,rfl⟩:=hx;rfl
    ·grind
   rw[this,Sem.run_bind,he];rfl
  grind
 all_goals
  have ht: ∃e,P.underlying t=some (.pointer e):=by
   unfold eqB at hB;split at hB
   ·grind
   ·grind
   ·grind
   ·grind
   ·grind
   ·grind
  obtain⟨e,ht⟩:=ht;first|(obtain⟨b,o,k,_,rfl⟩:=hx)|subst hx
  first|(obtain⟨b,o,k,_,rfl⟩:=hy)|subst hy
  refine⟨by rfl,by rfl,?_,?_⟩
  ·simp only[binOp,Sem.run_bind];rw[Fo w t e _ _ ht (by simp)];rfl
  ·simp only[binOp,Sem.run_bind];rw[Fo w t e _ _ ht (by simp)];rfl
theorem UW {op:BinOp}    (ho:o.op= .binOp op t x y ty) (hB:op= .eql\/op= .neq->eqB X.P t (X.ti t).agg (X.ti t).wR=true/\((X.ti t).wR=[4]-> ∃z,y= .const z)) (R:Rel w I σ S.h) (F:jw w I σ S.f a) (hx:nP o)
  (hv:sQ (X.ti t).agg (X.ti t).wR op (S.ev x) (S.ev y)=some v) (hs:S1=S.set o.dst v):Out X o a w I σ S S1:=by
 have h1:dD w I σ (S.ev x) (a.eval x):=fj (S:=S) F (hx x (by simp[ho,Op.operands]));have h2:dD w I σ (S.ev y) (a.eval y):=fj (S:=S) F (hx y (by simp[ho,Op.operands]));generalize S.ev x=p at h1 hv;generalize S.ev y=q at h2 hv;have ints: ∀(f:IntKind->Int->Int->Option V),Bq p q f=some v->(∀k m n,p= .int k m->q= .int k n->f k m n=some v-> ∃u,(binOp op t (.int k m) (.int k n)).run X.P w= .ok u w/\dD w I σ v u)->Out X o a w I σ S S1:=by
  intro f hf kr;unfold Bq at hf;split at hf
  ·rename_i k m k' n;split at hf
   ·rename_i hk;subst hk;obtain⟨u,hu,hr⟩:=kr k m n rfl rfl hf;refine Out.pure (u:=u) R ?_ hr hs;simp[execOp,ho,iG h1,iG h2,eqGuard_at_int,hu]
   grind
  ·grind
 cases op with
 |eql=>
  simp only[sQ]at hv;cases he:PI (X.ti t).agg (X.ti t).wR p q with
  |none=>grind
  |some r=>
   simp only[he,aA]at hv;subst hv;have:=YJ (hB (.inl rfl)).1 h1 h2 he x y (hB (.inl rfl)).2;exact Out.pure (u:= .bool r) R (by simp[execOp,ho,this.1,this.2.2.1]) (by simp[dD]) hs
 |neq=>
  simp only[sQ]at hv;cases he:PI (X.ti t).agg (X.ti t).wR p q with
  |none=>grind
  |some r=>
   simp only[he,aA]at hv;subst hv;have:=YJ (hB (.inr rfl)).1 h1 h2 he x y (hB (.inr rfl)).2;exact Out.pure (u:= .bool (!r)) R (by simp[execOp,ho,this.2.1,this.2.2.2]) (by simp[dD]) hs
 |add=>
  simp only[sQ]at hv;split at hv
  ·split at hv
   ·rename_i hle;simp only[aA]at hv;subst hv;obtain⟨b1,e1,rfl⟩:=su h1;obtain⟨b2,e2,rfl⟩:=su h2;refine Out.pure (u:= .string (b1++b2)) R ?_ (by exact⟨_,rfl,by simp⟩) hs;have s7: ¬((b1.size+b2.size:Nat):Int)>IntKind.i64.max:=by
     have z1:b1.data.toList.length=b1.size:=abZ;have z2:b2.data.toList.length=b2.size:=abZ;rw[IntKind.max_i64];rw[z1,z2]at hle;omega
    simp only[execOp,ho,e1,e2,eqGuard_at_string,Sem.run_bind,Sem.run_pure,Result.andThen_ok,binOp,Op.stringOp,if_neg s7]
   grind
  ·exact ints _ hv fun k m n _ _ hf=>⟨.int k (k.wrap (m+n)),by rw[binOp_add];rfl,by simp only[aA]at hf;subst hf;simp[dD]⟩
 |sub=>exact ints _ hv fun k m n _ _ hf=>⟨.int k (k.wrap (m-n)),by rw[binOp_sub];rfl,by simp only[aA]at hf;subst hf;simp[dD]⟩
 |mul=>exact ints _ hv fun k m n _ _ hf=>⟨.int k (k.wrap (m*n)),by rw[binOp_mul];rfl,by simp only[aA]at hf;subst hf;simp[dD]⟩
 |quo=>
  refine ints _ hv fun k m n _ _ hf=> ?_;split at hf
  ·grind
  ·rename_i hn;simp only[aA]at hf;subst hf;exact⟨.int k (k.wrap (m.tdiv n)),by rw[binOp_quo];simp[Op.intDiv,hn],by simp[dD]⟩
 |rem=>
  refine ints _ hv fun k m n _ _ hf=> ?_;split at hf
  ·grind
  ·rename_i hn;simp only[aA]at hf;subst hf;exact⟨.int k (m.tmod n),by rw[binOp_rem];simp[Op.intDiv,hn],by simp[dD]⟩
 |lss=>exact ints _ hv fun k m n _ _ hf=>⟨.bool (decide (m<n)),by rw[binOp_lss];rfl,by simp only[aA]at hf;subst hf;simp[dD]⟩
 |leq=>exact ints _ hv fun k m n _ _ hf=>⟨.bool (decide (m<=n)),by rw[binOp_leq];rfl,by simp only[aA]at hf;subst hf;simp[dD]⟩
 |gtr=>exact ints _ hv fun k m n _ _ hf=>⟨.bool (decide (n<m)),by rw[binOp_gtr];rfl,by simp only[aA]at hf;subst hf;simp[dD]⟩
 |geq=>exact ints _ hv fun k m n _ _ hf=>⟨.bool (decide (n<=m)),by rw[binOp_geq];rfl,by simp only[aA]at hf;subst hf;simp[dD]⟩
 |shl=>
  simp only[sQ]at hv;split at hv
  ·rename_i k m k' n;split at hv
   ·grind
   ·rename_i hn;simp only[aA]at hv;subst hv;refine Out.pure (u:= .int k (k.wrap (m*2^ (min n.toNat k.bits)))) R ?_ (by simp[dD]) hs;simp[execOp,ho,iG h1,iG h2,eqGuard_at_int,binOp,Op.shift,hn]
  grind
 |shr=>
  simp only[sQ]at hv;split at hv
  ·rename_i k m k' n;split at hv
   ·grind
   ·rename_i hn;simp only[aA]at hv;subst hv;refine Out.pure (u:= .int k (m.fdiv (2^ (min n.toNat k.bits)))) R ?_ (by simp[dD]) hs;simp[execOp,ho,iG h1,iG h2,eqGuard_at_int,binOp,Op.shift,hn]
  grind
 |and=>exact ints _ hv fun k m n _ _ hf=>⟨.int k (bits k .and m n),by rw[binOp_and];rfl,by simp only[aA]at hf;subst hf;simp[dD]⟩
 |or=>exact ints _ hv fun k m n _ _ hf=>⟨.int k (bits k .or m n),by rw[binOp_or];rfl,by simp only[aA]at hf;subst hf;simp[dD]⟩
 |xor=>exact ints _ hv fun k m n _ _ hf=>⟨.int k (bits k .xor m n),by rw[binOp_xor];rfl,by simp only[aA]at hf;subst hf;simp[dD]⟩
 |andNot=>exact ints _ hv fun k m n _ _ hf=>⟨.int k (bits k .andNot m n),by rw[binOp_andNot];rfl,by simp only[aA]at hf;subst hf;simp[dD]⟩
end
end Go.Abs
