import Derived.Test.YtdngefmliibcgaaGreatB00
import Derived.WalkKit
set_option linter.all false
set_option maxRecDepth 20000
set_option maxHeartbeats 0
namespace Go.Abs
open Go
variable  {v e v':V}{u z:Value}{es cs vs:List V}{c c':Array Value}{el t s d ty:TypeId}{ob Jj:Ob}{P:Program}{x y:Operand}{us:List Value}{k k':IntKind}{b r ag:Bool}{p q:Array Operand}{ms:Array (String×TypeId)}
abbrev jI:=Nat->Option (Nat×Nat×Nat)
def fJ:jI:=fun _=>none
def vd:Bool->Value->Prop
 |true,u=> ∃t p,u= .iface t p
 |false,u=>u= .nilIface
mutual
def dX(w:World)(I:Nat->Prop)(σ:jI):V->Value->Prop
 | .int k n,u=>u= .int k n
 | .bool b,u=>u= .bool b
 | .str s,u=> ∃x:ByteArray,u= .string x/\x.data.toList=s
 | .agg cs,u=> ∃y,u= .agg y/\fW w I σ cs y.toList
 | .ed cs,u=> ∃y,u= .tuple y/\iT w I σ cs y.toList
 | .sl c es,u=> ∃a cap,u= .slice a es.length cap/\es.length<=cap/\cap<=maxLen/\(c=true->cap=es.length)/\
   (es=[]\/ ∃b o k,a=some ⟨b,o,none⟩/\I b/\ey w I fJ es k b o)
 | .ref cs,u=> ∃b o,u= .pointer (some ⟨b,o,none⟩)/\I b/\rG w I fJ cs b o
 | .cX id s l,u=> ∃a cap,u= .slice a l cap/\l<=cap/\cap<=maxLen/\
   (cap=0\/ ∃b o k c el fz,σ id=some (b,o,k)/\a=some ⟨b,o+s*k,none⟩/\w.heap[b]?=some (.cells c el fz)/\o+(s+cap)*k<=c.size)
 | .ptr id i f,u=> ∃b o k,σ id=some (b,o,k)/\u= .pointer (some ⟨b,o+i*k+f,none⟩)
 | .wC,u=>u= .pointer none
 | .Qz b,u=>vd b u
 | .fn g bxb U,u=> ∃y vs,u= .func (.func g) y vs/\iT w I σ bxb y.toList/\iT w I σ U vs.toList
 | .bad,_=>True
def fW (w:World) (I:Nat->Prop) (σ:jI):List V->List Value->Prop
 | [],s=>s=[]
 |c::cs,s=> ∃u r,s=u::r/\u.oneCell'=true/\dX w I σ c u/\fW w I σ cs r
def iT (w:World) (I:Nat->Prop) (σ:jI):List V->List Value->Prop
 | [],s=>s=[]
 |c::cs,s=> ∃u r,s=u::r/\dX w I σ c u/\iT w I σ cs r
def rG (w:World) (I:Nat->Prop) (σ:jI):List V->Nat->Nat->Prop
 | [],_,_=>True
 |c::cs,b,o=>(∃u,w.cell? ⟨b,o,none⟩=some u/\u.oneCell'=true/\dX w I σ c u)/\rG w I σ cs b (o+1)
def ey (w:World) (I:Nat->Prop) (σ:jI):List V->Nat->Nat->Nat->Prop
 | [],_,_,_=>True
 | .agg cs::es,k,b,o=>cs.length=k/\rG w I σ cs b o/\ey w I σ es k b (o+k)
 |e::es,k,b,o=>k=1/\(∃u,w.cell? ⟨b,o,none⟩=some u/\u.oneCell'=true/\dX w I σ e u)/\ey w I σ es k b (o+k)
end
structure Ext (w:World) (I:Nat->Prop) (σ:jI) (w':World) (I':Nat->Prop) (σ':jI):Prop where
 Nx: ∀b,I b->w'.heap[b]?=w.heap[b]?
 grow: ∀(b:Nat) c el fz,w.heap[b]?=some (Obj.cells c el fz)-> ∃c' fz',w'.heap[b]?=some (Obj.cells c' el fz')/\c'.size=c.size
 imp: ∀b,I b->I' b
 sig: ∀id x,σ id=some x->σ' id=some x
def Ext.refl(w:World)(I:Nat->Prop)(σ:jI):Ext w I σ w I σ:=
 ⟨fun _ _=>rfl,fun _ c _ fz h=>⟨c,fz,h,rfl⟩,fun _ h=>h,fun _ _ h=>h⟩
def Ext.trans{w D L:World}{I t B:Nat->Prop}{σ j r:jI}(h:Ext w I σ D t j)(h':Ext D t j L B r):Ext w I σ L B r:=
  ⟨fun b e=>(h'.Nx b (h.imp b e)).trans (h.Nx b e),
   fun b c el fz e=>by
    obtain⟨T,f,h1,i⟩:=h.grow b c el fz e;obtain⟨d,z,K,p⟩:=h'.grow b T el f h1
    grind,
   fun b e=>h'.imp b (h.imp b e),fun id x hx=>h'.sig id x (h.sig id x hx)⟩
def Ext.Ls{w w':World}{I I':Nat->Prop}{σ σ':jI}(E:Ext w I σ w' I' σ'):Ext w I fJ w' I' fJ:=
 ⟨E.Nx,E.grow,E.imp,fun _ _ h=>h⟩
section
variable {w w':World} {I I':Nat->Prop}
mutual
theorem dX.ext': ∀(v:V) (u:Value) {σ σ':jI},Ext w I σ w' I' σ'->dX w I σ v u->dX w' I' σ' v u
 | .int k n,u,σ,σ',E,h=>b0
 | .bool b,u,σ,σ',E,h=>b0
 | .str s,u,σ,σ',E,h=>b0
 | .agg cs,u,σ,σ',E,h=>by
  obtain⟨x,e,r⟩:=h;exact⟨x,e,fW.ext' cs x.toList E r⟩
 | .ed cs,u,σ,σ',E,h=>by
  obtain⟨x,e,r⟩:=h;exact⟨x,e,iT.ext' cs x.toList E r⟩
 | .sl c es,u,σ,σ',E,h=>by
  obtain⟨a,cap,e,h1,K,S,d⟩:=h;refine⟨a,cap,e,h1,K,S,?_⟩;rcases d with d|⟨b,o,k,W,m,r⟩
  .grind
  .exact .inr ⟨b,o,k,W,E.imp b m,ey.ext' es k b o E.Ls m r⟩
 | .ref cs,u,σ,σ',E,h=>by
  obtain⟨b,o,e,m,r⟩:=h;exact⟨b,o,e,E.imp b m,rG.ext' cs b o E.Ls m r⟩
 | .cX id s l,u,σ,σ',E,h=>by
  obtain⟨a,cap,e,h1,K,S⟩:=h;refine⟨a,cap,e,h1,K,?_⟩;rcases S with S|⟨b,o,k,c,el,fz,L,W,p,j⟩
  .omega
  .obtain⟨c',fz',H,q⟩:=E.grow b c el fz p;exact .inr ⟨b,o,k,c',el,fz',E.sig _ _ L,W,H,ab⟩
 | .ptr id i f,u,σ,σ',E,h=>by
  obtain⟨b,o,k,L,e⟩:=h;exact⟨b,o,k,E.sig _ _ L,e⟩
 | .wC,u,σ,σ',E,h=>b0
 | .Qz b,u,σ,σ',E,h=>by simpa only[dX] using h
 | .fn g bxb U,u,σ,σ',E,h=>by
  obtain⟨x,vs,e,h1,K⟩:=h;exact⟨x,vs,e,iT.ext' bxb x.toList E h1,iT.ext' U vs.toList E K⟩
 | .bad,u,σ,σ',E,h=>a_
theorem fW.ext': ∀(cs:List V) (us:List Value) {σ σ':jI},Ext w I σ w' I' σ'->fW w I σ cs us->fW w' I' σ' cs us
 | [],us,σ,σ',E,h=>by simpa[fW] using h
 |c::cs,us,σ,σ',E,h=>by
  obtain⟨u,r,e,h1,K,S⟩:=h;exact⟨u,r,e,h1,dX.ext' c u E K,fW.ext' cs r E S⟩
theorem iT.ext': ∀(cs:List V) (us:List Value) {σ σ':jI},Ext w I σ w' I' σ'->iT w I σ cs us->iT w' I' σ' cs us
 | [],us,σ,σ',E,h=>by simpa[iT] using h
 |c::cs,us,σ,σ',E,h=>by
  obtain⟨u,r,e,K,S⟩:=h;exact⟨u,r,e,dX.ext' c u E K,iT.ext' cs r E S⟩
theorem rG.ext': ∀(cs:List V) (b o:Nat) {σ σ':jI},Ext w I σ w' I' σ'->I b->rG w I σ cs b o->rG w' I' σ' cs b o
 | [],b,o,σ,σ',E,m,h=>by simp[rG]
 |c::cs,b,o,σ,σ',E,m,h=>by
  obtain⟨⟨u,h1,K,S⟩,a⟩:=h;exact⟨⟨u,e_,K,dX.ext' c u E S⟩,rG.ext' cs b (o+1) E m a⟩
theorem ey.ext': ∀(es:List V) (k b o:Nat) {σ σ':jI},Ext w I σ w' I' σ'->I b->ey w I σ es k b o->ey w' I' σ' es k b o
 | [],k,b,o,σ,σ',E,m,h=>dZ
 | .agg cs::es,k,b,o,σ,σ',E,m,h=>by
  exact⟨h.1,rG.ext' cs b o E m h.2.1,ey.ext' es k b (o+k) E m h.2.2⟩
 | .int _ _::es,k,b,o,σ,σ',E,m,h| .bool _::es,k,b,o,σ,σ',E,m,h| .str _::es,k,b,o,σ,σ',E,m,h| .ed _::es,k,b,o,σ,σ',E,m,h
 | .sl _ _::es,k,b,o,σ,σ',E,m,h| .ref _::es,k,b,o,σ,σ',E,m,h| .cX _ _ _::es,k,b,o,σ,σ',E,m,h| .ptr _ _ _::es,k,b,o,σ,σ',E,m,h
 | .wC::es,k,b,o,σ,σ',E,m,h| .Qz _::es,k,b,o,σ,σ',E,m,h| .fn _ _ _::es,k,b,o,σ,σ',E,m,h| .bad::es,k,b,o,σ,σ',E,m,h=>by
  obtain⟨y,⟨u,h1,K,S⟩,a⟩:=h;exact⟨y,⟨u,e_,K,dX.ext' _ u E S⟩,ey.ext' es k b (o+k) E m a⟩
end
def yd: ∀l:List V,(ft l).length=l.length
 | []=>rfl
 |c::cs=>by simp[ft,yd cs]
mutual
def dX.oD: ∀(v:V) (u:Value) {σ:jI},dX w I σ v u->dX w I σ v.l6 u
 | .int k n,u,σ,h=>h
 | .bool b,u,σ,h=>h
 | .str s,u,σ,h=>h
 | .agg cs,u,σ,h=>by
  obtain⟨x,e,r⟩:=h;exact⟨x,e,fW.oD cs x.toList r⟩
 | .ed cs,u,σ,h=>by
  obtain⟨x,e,r⟩:=h;exact⟨x,e,iT.oD cs x.toList r⟩
 | .sl c es,u,σ,h=>by
  simp only[dX,V.l6]at h⊢;obtain⟨a,cap,e,h1,K,S,d⟩:=h;rw[yd];refine⟨a,cap,e,h1,K,(fun j=>aj),?_⟩;rcases d with d|⟨b,o,k,W,m,r⟩
  .subst d;exact .inl rfl
  .exact .inr ⟨b,o,k,W,m,ey.oD es k b o r⟩
 | .ref cs,u,σ,h=>h
 | .cX id s l,u,σ,h=>h
 | .ptr id i f,u,σ,h=>h
 | .wC,u,σ,h=>h
 | .Qz _,u,σ,h=>h
 | .fn g bxb U,u,σ,h=>h
 | .bad,u,σ,h=>h
def fW.oD: ∀(cs:List V) (us:List Value) {σ:jI},fW w I σ cs us->fW w I σ (ft cs) us
 | [],us,σ,h=>h
 |c::cs,us,σ,h=>by
  obtain⟨u,r,e,h1,K,S⟩:=h;exact⟨u,r,e,h1,dX.oD c u K,fW.oD cs r S⟩
def iT.oD: ∀(cs:List V) (us:List Value) {σ:jI},iT w I σ cs us->iT w I σ (ft cs) us
 | [],us,σ,h=>h
 |c::cs,us,σ,h=>by
  obtain⟨u,r,e,K,S⟩:=h;exact⟨u,r,e,dX.oD c u K,iT.oD cs r S⟩
def rG.oD: ∀(cs:List V) (b o:Nat) {σ:jI},rG w I σ cs b o->rG w I σ (ft cs) b o
 | [],b,o,σ,h=>h
 |c::cs,b,o,σ,h=>by
  obtain⟨⟨u,h1,K,S⟩,a⟩:=h;exact⟨⟨u,h1,K,dX.oD c u S⟩,rG.oD cs b (o+1) a⟩
def ey.oD: ∀(es:List V) (k b o:Nat) {σ:jI},ey w I σ es k b o->ey w I σ (ft es) k b o
 | [],k,b,o,σ,h=>h
 | .agg cs::es,k,b,o,σ,h=>by
  exact⟨by rw[yd];exact h.1,rG.oD cs b o h.2.1,ey.oD es k b (o+k) h.2.2⟩
 | .sl c cs::es,k,b,o,σ,h=>by
  obtain⟨y,⟨u,h1,K,S⟩,a⟩:=h;have:=dX.oD (.sl c cs) u S;exact rj
 | .ed cs::es,k,b,o,σ,h=>by
  obtain⟨y,⟨u,h1,K,S⟩,a⟩:=h;have:=dX.oD (.ed cs) u S;exact rj
 | .int _ _::es,k,b,o,σ,h| .bool _::es,k,b,o,σ,h| .str _::es,k,b,o,σ,h
 | .ref _::es,k,b,o,σ,h| .cX _ _ _::es,k,b,o,σ,h| .ptr _ _ _::es,k,b,o,σ,h
 | .wC::es,k,b,o,σ,h| .Qz _::es,k,b,o,σ,h| .fn _ _ _::es,k,b,o,σ,h| .bad::es,k,b,o,σ,h=>by
  exact⟨h.1,h.2.1,ey.oD es k b (o+k) h.2.2⟩
end
def dX.l6{σ:jI}{v:V}{u:Value}(h:dX w I σ v u):dX w I σ v.l6 u:=dX.oD v u h
def dX.ext{σ σ':jI}(E:Ext w I σ w' I' σ')(h:dX w I σ v u):dX w' I' σ' v u:=dX.ext' v u E h
end
def a71:Nat->Option (Obj->Prop):=fun _=>none
def DD(w:World)(I:Nat->Prop)(σ:jI)(cs:List V)(b o:Nat):Prop:=
 ∀j c,cs[j]?=some c-> ∃u,w.cell? ⟨b,o+j,none⟩=some u/\u.oneCell'=true/\dX w I σ c u
section
variable {w w':World} {I I':Nat->Prop} {σ σ':jI}
theorem uV: ∀(cs:List V) (b o:Nat),rG w I σ cs b o↔DD w I σ cs b o
 | [],b,o=>by simp[rG,DD]
 |c::cs,b,o=>by
  simp only[rG];rw[uV cs b (o+1)];constructor
  .rintro⟨h1,K⟩ j x q;cases j with
   |zero=>grind
   |succ j=>
    have:=K j x aj
    grind
  .intro h;refine⟨by simpa using h 0 c ai,fun j x q=> ?_⟩;have:=h (j+1) x aj
   grind
theorem lg(e:V)(es:List V)(k b o:Nat):ey w I σ (e::es) k b o↔e.cells.length=k/\DD w I σ e.cells b o/\ey w I σ es k b (o+k):=by
 cases e with
 |agg cs=>simp only[ey,V.cells,uV]
 |_=>
  simp only[ey,V.cells,<-uV,rG,s9,w4,and_true]
  grind
theorem l7: ∀(es:List V) (k b o:Nat),ey w I σ es k b o↔ ∀i e,es[i]?=some e->e.cells.length=k/\DD w I σ e.cells b (o+i*k)
 | [],k,b,o=>dZ
 |e::es,k,b,o=>by
  rw[lg,l7 es k b (o+k)];constructor
  .rintro⟨h1,K,S⟩ i x j;cases i with
   |zero=>grind
   |succ i=>
    grind
  .intro h;have h0:=h 0 e ai;refine⟨h0.1,aj,fun i x j=> ?_⟩;have:=h (i+1) x aj
   grind
theorem mZ: ∀(cs:List V) (us:List Value),iT w I σ cs us↔cs.length=us.length/\ ∀(j:Nat) c u,cs[j]?=some c->us[j]?=some u->dX w I σ c u
 | [],us=>by
  constructor
  .rintro rfl;simp
  .rintro⟨h,_⟩;exact xR aj
 |c::cs,us=>by
  constructor
  .rintro⟨u,r,rfl,h1,K⟩;rw[mZ cs r]at K
   grind
  .rintro⟨l,h⟩;cases us with
   |nil=>grind
   |cons u r=>
    exact⟨u,r,rfl,h 0 c u ai ai,(mZ cs r).2 ⟨aj,fun j x y hx G=>h (j+1) x y aj aj⟩⟩
theorem ez: ∀(cs:List V) (us:List Value),fW w I σ cs us↔cs.length=us.length/\ ∀(j:Nat) c u,cs[j]?=some c->us[j]?=some u->u.oneCell'=true/\dX w I σ c u
 | [],us=>by
  constructor
  .rintro rfl;simp
  .rintro⟨h,_⟩;exact xR aj
 |c::cs,us=>by
  constructor
  .rintro⟨u,r,rfl,h0,h1,K⟩;rw[ez cs r]at K
   grind
  .rintro⟨l,h⟩;cases us with
   |nil=>grind
   |cons u r=>
    have:=h 0 c u ai ai;exact⟨u,r,rfl,this.1,this.2,(ez cs r).2 ⟨aj,fun j x y hx G=>h (j+1) x y aj aj⟩⟩
theorem DD.ext(E:Ext w I σ w' I' σ'){cs:List V}{b o:Nat}(h:DD w I σ cs b o)(e:w'.heap[b]?=w.heap[b]?):DD w' I' σ' cs b o:=by
 intro j c q;obtain⟨u,h1,K,S⟩:=h j c q;exact⟨u,by rw[World.cell?_of_block e];omega,K,S.ext E⟩
theorem ey.oM(E:Ext w I σ w' I' σ'){k b o:Nat}(h:ey w I σ es k b o)(f:w'.heap[b]?=w.heap[b]?):ey w' I' σ' es k b o:=by
 rw[l7]at h⊢;intro i e j;exact⟨(h i e j).1,(h i e j).2.ext E f⟩
end
def mJ(eP:Bool)(σ:jI):jI:=if eP then σ else fJ
def Ext.r8{w w':World}{I I':Nat->Prop}{σ σ':jI}(E:Ext w I σ w' I' σ')(eP:Bool):Ext w I (mJ eP σ) w' I' (mJ eP σ'):=by
 cases eP
 .exact E.Ls
 .exact E
def Ext.free{w:World}{I:Nat->Prop}{σ:jI}:Ext w I fJ w I σ:=
 ⟨fun _ _=>rfl,fun _ c _ fz h=>⟨c,fz,h,rfl⟩,fun _ h=>h,fun id x h=>bF⟩
def Ext.Gw{w:World}{I:Nat->Prop}{σ:jI}(eP:Bool):Ext w I (mJ eP σ) w I σ:=by
 cases eP
 .exact Ext.free
 .exact .refl w I σ
def lh(w:World)(b:Nat)(c:Array Value)(el:TypeId):Prop:= ∃fz:Nat×Nat,w.heap[b]?=some (Obj.cells c el fz)/\(fz.2<=fz.1\/c.size<=fz.1)
def lh.same{w w':World}{b:Nat}(h:lh w b c el)(e:w'.heap[b]?=w.heap[b]?):lh w' b c el:=by
 obtain⟨fz,h1,K⟩:=h;exact⟨fz,aj,K⟩
def lh.zero{w:World}{b:Nat}(h:w.heap[b]?=some (Obj.cells c el (0,0))):lh w b c el:=⟨(0,0),h,.inl (iX _)⟩
def lh.set{w:World}{b:Nat}(h:lh w b c el)(q:c'.size=c.size):lh (w.setRow b c') b c' el:=by
 obtain⟨fz,h1,K⟩:=h;exact⟨fz,setRow_heap w b c c' el fz h1,ab⟩
def lh.free{w:World}{b:Nat}(h:lh w b c el){j:Nat}(q:j<c.size):w.frozen? ⟨b,j,none⟩=false:=by
 obtain⟨fz,h1,K⟩:=h;simp only[World.frozen?,h1]
 grind
def lh.lt{w:World}{b:Nat}(h:lh w b c el):b<w.heap.size:=by
 obtain⟨fz,h1,_⟩:=h
 grind
def lh.at{w:World}{b:Nat}(h:lh w b c el): ∃fz,w.heap[b]?=some (Obj.cells c el fz):=by
 obtain⟨fz,h1,_⟩:=h
 grind
def Ny(w:World)(I:Nat->Prop)(σ:jI)(id:Nat)(ob:Ob):Prop:=
 (ob.es=[]/\σ id=none)\/
 ∃b o c el,σ id=some (b,o,ob.k)/\ ¬I b/\lh w b c el/\o+ob.es.length*ob.k<=c.size/\ey w I (mJ ob.eP σ) ob.es ob.k b o
def ju(σ:jI)(h:bI)(b:Nat):Prop:= ∃id ob o k,h id=some ob/\σ id=some (b,o,k)
def Lt(w:World)(I:Nat->Prop):Prop:= ∀b p,a71 b=some p->I b/\ ∃ob,w.heap[b]?=some ob/\p ob
def Lt.ext{w w':World}{I I':Nat->Prop}{σ σ':jI}(E:Ext w I σ w' I' σ')(G:Lt w I):Lt w' I':=fun b p h=>by
 obtain⟨h1,ob,K,S⟩:=G b p h;exact⟨E.imp b h1,ob,by rw[E.Nx b h1];omega,S⟩
def Lt.sub{w:World}{I I':Nat->Prop}(G:Lt w I)(h: ∀b,I b->I' b):Lt w I':=fun b p e=>⟨h b (G b p e).1,(G b p e).2⟩
structure Rel (w:World) (I:Nat->Prop) (σ:jI) (h:bI):Prop where
 eA: ∀b,I b->b<w.heap.size
 obj: ∀id ob,h id=some ob->Ny w I σ id ob
 apart: ∀id rY ob po b o k o' k',h id=some ob->h rY=some po->σ id=some (b,o,k)->σ rY=some (b,o',k')->id=rY
 BV:Lt w I
section
variable {w w':World} {I I':Nat->Prop} {σ σ':jI} {h h':bI}
theorem Rel.owned(R:Rel w I σ h){b:Nat}(e:ju σ h b): ¬I b/\ ∃c el,lh w b c el:=by
 obtain⟨id,ob,o,k,h1,K⟩:=e;rcases R.obj id ob h1 with⟨_,n⟩|⟨l,o',c,el,s,i,a,_⟩
 .grind
 grind
theorem Rel.eP (R:Rel w I σ h) (E:Ext w I σ w' I' σ') (m: ∀b,I' b->b<w'.heap.size)
  (f: ∀b,ju σ h b->w'.heap[b]?=w.heap[b]?/\ ¬I' b) (s: ∀id,h id≠none->σ' id=σ id):Rel w' I' σ' h:=by
 refine⟨m,fun id ob e=> ?_,fun id rY ob po b o k o' k' h1 K S a=> ?_,R.BV.ext E⟩
 .have v:=s id aj;rcases R.obj id ob e with⟨C,n⟩|⟨b,o,c,el,q,i,d,l,r⟩
  .exact n6
  .have:=f b ⟨id,ob,o,ob.k,e,q⟩;exact .inr ⟨b,o,c,el,aj,this.2,d.same this.1,l,r.oM (E.r8 _) this.1⟩
 .rw[s id aj]at S;rw[s rY aj]at a;exact R.apart id rY ob po b o k o' k' h1 K S a
theorem Rel.sub(R:Rel w I σ h)(a: ∀id ob,h' id=some ob->h id=some ob):Rel w I σ h':=
 ⟨R.eA,fun id ob e=>R.obj id ob (a id ob e),fun id rY ob po b o k o' k' h1 K=>R.apart id rY ob po b o k o' k' (a _ _ h1) (a _ _ K),R.BV⟩
theorem Rel.kill(R:Rel w I σ h)(id:Nat):Rel w I σ (bB h id none):=
 R.sub fun i ob j=>aV
theorem Ext.Vy{n:Nat}{x:Nat×Nat×Nat}(W:σ n=none):Ext w I σ w I (bB σ n (some x)):=
 ⟨fun _ _=>rfl,fun _ c _ fz h=>⟨c,fz,h,rfl⟩,fun _ h=>h,fun id y G=>aV⟩
theorem Rel.Zp (R:Rel w I σ h) {n b o k:Nat}  {eP:Bool}   (W:h n=none) (s:σ n=none)
  (t:lh w b c el) (m: ¬I b) (i: ¬ju σ h b) (l:o+es.length*k<=c.size)
  (r:ey w I (mJ eP (bB σ n (some (b,o,k)))) es k b o):Rel w I (bB σ n (some (b,o,k))) (bB h n (some ⟨k,es,eP⟩)):=by
 have E:Ext w I σ w I (bB σ n (some (b,o,k))):=Ext.Vy s;have f: ∀id,h id≠none->bB σ n (some (b,o,k)) id=σ id:=by
  intro id f;unfold bB;split
  .grind
  .rfl
 refine⟨R.eA,fun id ob g=> ?_,fun id rY ob po M z k1 H k2 h1 K S a=> ?_,R.BV⟩
 .unfold bB at g;split at g
  .rename_i e;subst e;simp at g;subst g;exact .inr ⟨b,o,c,el,al,m,t,l,r⟩
  .have:=f id aj;rcases R.obj id ob g with⟨C,N⟩|⟨v,o',c',Q,x,q,d,F,B⟩
   .exact n6
   .exact .inr ⟨v,o',c',Q,aj,q,d,F,B.oM (E.r8 _) rfl⟩
 .have key: ∀id ob,bB h n (some (⟨k,es,eP⟩:Ob)) id=some ob->id≠n->h id=some ob:=by
   intro id ob hx X;simpa[bB,X] using hx
  by_cases j:id=n
  .by_cases p:rY=n
   .omega
   .exfalso;subst j;have J:=key rY po K p;rw[f rY aj]at a;simp[bB]at S;obtain⟨rfl,_⟩:=S;exact i ⟨rY,po,H,k2,J,a⟩
  .have u:=key id ob h1 j;rw[f id aj]at S;by_cases p:rY=n
   .exfalso;subst p;simp[bB]at a;obtain⟨rfl,_⟩:=a;exact i ⟨id,ob,z,k1,u,S⟩
   .have J:=key rY po K p;rw[f rY aj]at a;exact R.apart id rY ob po M z k1 H k2 u J S a
theorem Rel.Zq(R:Rel w I σ h){n k:Nat}{eP:Bool}(W:h n=none)(s:σ n=none):Rel w I σ (bB h n (some ⟨k,[],eP⟩)):=by
 refine⟨R.eA,fun id ob g=> ?_,fun id rY ob po b o k o' k' h1 K S a=> ?_,R.BV⟩
 .unfold bB at g;split at g
  .rename_i e;subst e;simp at g;subst g;exact .inl ⟨rfl,s⟩
  .exact R.obj id ob g
 .by_cases i:id=n
  .grind
  .by_cases p:rY=n
   .grind
   .exact R.apart id rY ob po b o k o' k' aV aV S a
end
structure Step (w:World) (I:Nat->Prop) (σ:jI) (h:bI) (n:Nat) (w':World) (I':Nat->Prop) (σ':jI) (h':bI) (n':Nat):Prop where
 ext:Ext w I σ w' I' σ'
 rel:Rel w' I' σ' h'
 os:w'.os=w.os
 tape:w'.tape=w.tape
 output:w'.output=w.output
 size:w.heap.size<=w'.heap.size
 frame: ∀b,b<w.heap.size-> ¬ju σ h b->w'.heap[b]?=w.heap[b]?
 own: ∀b,ju σ' h' b->w.heap.size<=b\/ju σ h b
 xg: ∀b,I' b->I b\/w.heap.size<=b\/ju σ h b
 le:n<=n'
 sigs: ∀id,id<n\/n'<=id->σ' id=σ id
 news: ∀id,id<n\/n'<=id->h id=none->h' id=none
section
variable {w w1 w2:World} {I I1 I2:Nat->Prop} {σ σ1 σ2:jI} {h h1 h2:bI} {n n1 n2:Nat}
theorem Step.refl(R:Rel w I σ h)(n:Nat):Step w I σ h n w I σ h n:=
 ⟨.refl w I σ,R,rfl,rfl,rfl,iX _,fun _ _ _=>rfl,fun _ b=> .inr b,fun _ b=> .inl b,iX _,fun _ _=>rfl,fun _ _ h=>h⟩
theorem Step.trans(s:Step w I σ h n w1 I1 σ1 h1 n1)(s':Step w1 I1 σ1 h1 n1 w2 I2 σ2 h2 n2):Step w I σ h n w2 I2 σ2 h2 n2 where
 ext:=s.ext.trans s'.ext
 rel:=s'.rel
 os:=s'.os.trans s.os
 tape:=s'.tape.trans s.tape
 output:=s'.output.trans s.output
 size:=r4 s.size s'.size
 frame:=fun b hb ho=>(s'.frame b (va hb s.size) (fun hx=>by
  rcases s.own b hx with hx|hx
  .omega
  grind)).trans (s.frame b hb ho)
 own:=fun b hb=>by
  rcases s'.own b hb with hx|hx
  .exact .inl (r4 s.size hx)
  .exact s.own b hx
 xg:=fun b hb=>by
  rcases s'.xg b hb with hx|hx|hx
  .exact s.xg b hx
  .exact p4
  .exact .inr (s.own b hx)
 le:=r4 s.le s'.le
 sigs:=fun id fv=>by
  have l1:=s.le;have l2:=s'.le;rw[s'.sigs id ab,s.sigs id ab]
 news:=fun id fv hn=>by
  have l1:=s.le;have l2:=s'.le;exact s'.news id ab (s.news id ab hn)
end
def Rel.write {w:World} {I:Nat->Prop} {σ:jI} {h:bI} (R:Rel w I σ h) {id b o k:Nat}   {eP:Bool}  
  (f:h id=some ob) (s:σ id=some (b,o,k)) (g:lh w b c el) (q:c'.size=c.size) (F:o+es.length*k<=c.size)
  (D:ey (w.setRow b c') I (mJ eP σ) es k b o) (n:Nat):Step w I σ h n (w.setRow b c') I σ (bB h id (some ⟨k,es,eP⟩)) n:=by
 have r:ju σ h b:=⟨id,ob,o,k,f,s⟩;have y: ¬I b:=(R.owned r).1;have E:Ext w I σ (w.setRow b c') I σ:=by
  refine⟨fun l H=>setRow_other w b l c' (fun e=>y (e▸H)),fun l T K fz v=> ?_,fun _ h=>h,fun _ _ h=>h⟩;by_cases e:l=b
  .subst e;obtain⟨Q,N,_⟩:=g;rw[N]at v;obtain⟨rfl,rfl,rfl⟩:=v;exact⟨c',_,setRow_heap w l c c' el _ N,q⟩
  .exact⟨T,fz,by rw[setRow_other w b l c' e];omega,rfl⟩
 have key: ∀i x,bB h id (some (⟨k,es,eP⟩:Ob)) i=some x->i≠id->h i=some x:=by
  intro i x hx X;simpa[bB,X] using hx
 refine⟨E,⟨fun l H=>by simpa using R.eA l H,fun i x hx=> ?_,fun i j x x' M z k1 J k2 h1 L S a=> ?_,R.BV.ext E⟩,rfl,rfl,rfl,ai,fun l _ B=>setRow_other w b l c' (fun e=>B (e▸r)),
  fun l H=> .inr ?_,fun _ h=> .inl h,iX _,fun _ _=>rfl,fun i W Y=>aV⟩
 .by_cases e:i=id
  .subst e;simp[bB]at hx;subst hx;exact .inr ⟨b,o,c',el,s,y,g.set q,aj,D⟩
  .have A:=key i x hx e;rcases R.obj i x A with⟨O,C⟩|⟨l,o',T,K,t,d,G,U,V⟩
   .exact .inl ⟨O,C⟩
   .have X:l≠b:=fun P=>e (R.apart i id x ob b o' x.k o k A f (P▸t) s);have u:=setRow_other w b l c' X;exact .inr ⟨l,o',T,K,t,d,G.same u,U,V.oM (E.r8 _) u⟩
 .by_cases m:i=id
  .by_cases p:j=id
   .omega
   .subst m;exact R.apart i j ob x' M z k1 J k2 f (key j x' L p) S a
  .by_cases p:j=id
   .subst p;exact R.apart i j x ob M z k1 J k2 (key i x h1 m) f S a
   .exact R.apart i j x x' M z k1 J k2 (key i x h1 m) (key j x' L p) S a
 .obtain⟨i,x,z,k1,h1,L⟩:=H;by_cases e:i=id
  .grind
  .exact⟨i,x,z,k1,key i x h1 e,L⟩
def TW:V->Value->Bool
 | .int k n,.int k' n'=>k==k'&&n==n'
 | .bool b,.bool l=>b==l
 | .str [],.string s=>s.data.toList.isEmpty
 | .sl true [],.slice none 0 0=>true
 | .wC,.pointer none=>true
 | .Qz false,.nilIface=>true
 | .bad,u=>u.oneCell'
 |_,_=>false
def DK:List V->List Value->Bool
 | [],[]=>true
 |c::cs,u::s=>TW c u&&DK cs s
 |_,_=>false
def Kd:V->Value->Bool
 | .agg cs,.agg s=>DK cs s.toList
 | .agg _,_=>false
 |v,u=>TW v u
def By(P:Program)(x:TI):TypeDesc->Bool
 | .struct s=>x.agg&&x.x9==(s.toList.map fun f=>(f.offset,P.cellsOf f.type))&&x.arr==none&&x.kind==none&&s.toList.all fun f=>decide (0<P.cellsOf f.type)
 | .array n e=>x.agg&&x.arr==some n&&x.elem==e&&x.kind==none&&x.x9==[]
 | .slice e=> !x.agg&&x.elem==e&&x.arr==none&&x.kind==none&&x.x9==[]
 | .int k=> !x.agg&&x.kind==some k&&x.arr==none&&x.x9==[]
 |_=> !x.agg&&x.kind==none&&x.arr==none&&x.x9==[]
def AL(P:Program)(t:TypeId)(x:TI):Bool:=
 match P.info? t,P.underlying t with
 |some i,some d=>i.size==x.size&&i.bytes==x.bytes&&decide (0<x.size)&&By P x d&& (match i.zero with
  |some z=>Kd x.zero z&&x.zero.cells.length==x.size&&x.zero.fits x.size
  |none=>false)
 |_,_=>false
structure mE (P:Program) (t:TypeId) (x:TI):Prop where
 info: ∃i z,P.info? t=some i/\i.size=x.size/\i.bytes=x.bytes/\i.zero=some z/\Kd x.zero z=true
 pos:0<x.size
 und: ∃d,P.underlying t=some d/\By P x d=true
 Zr:x.zero.cells.length=x.size
 aso:x.zero.fits x.size=true
def a74{x:TI}(h:AL P t x=true):mE P t x:=by
 unfold AL at h;split at h
 .rename_i i d j u;cases O:i.zero with
  |none=>grind
  |some z=>
   simp only[O,X8,beq_iff_eq,decide_eq_true_eq]at h;obtain⟨⟨⟨⟨h1,K⟩,S⟩,a⟩,⟨k,q⟩,y⟩:=h;exact⟨⟨i,z,j,h1,K,O,k⟩,S,⟨d,u,a⟩,q,y⟩
 grind
section
variable {w:World} {I:Nat->Prop} {σ:jI}
theorem Ke{c:V}(h:TW c u=true):u.oneCell'=true/\dX w I σ c u:=by
 unfold TW at h;split at h
 .simp only[X8,beq_iff_eq]at h;obtain⟨rfl,rfl⟩:=h;exact⟨rfl,a_⟩
 .simp only[beq_iff_eq]at h;subst h;exact⟨rfl,a_⟩
 .rename_i s;exact⟨rfl,by exact⟨s,rfl,List.isEmpty_iff.1 h⟩⟩
 .exact⟨rfl,by exact⟨none,0,rfl,iX _,B8 _,fun _=>rfl,.inl ai⟩⟩
 .exact⟨rfl,a_⟩
 .exact⟨rfl,by simp[dX,vd]⟩
 .exact⟨h,a_⟩
 grind
theorem Gx: ∀{cs:List V} {us:List Value},DK cs us=true->fW w I σ cs us
 | [],[],_=>f_
 |c::cs,u::us,h=>by
  simp only[DK,X8]at h;have:=Ke (w:=w) (I:=I) (σ:=σ) h.1;exact⟨u,us,rfl,this.1,this.2,Gx h.2⟩
 | [],_::_,h=>by simp[DK]at h
 |_::_,[],h=>by simp[DK]at h
theorem dX.cells{v:V}{u:Value}{k:Nat}(r:dX w I σ v u)(f:v.fits k=true):v.cells.length=k/\fW w I σ v.cells u.cells.toList:=by
 cases v with
 |agg cs=>
  obtain⟨s,rfl,h⟩:=r;exact⟨by simpa[V.fits,V.cells] using f,h⟩
 |ed _=>simp[V.fits]at f
 |bad=>simp[V.fits]at f
 |Qz b=>
  have A:k=1:=by simpa[V.fits] using f
  refine⟨by simp[V.cells,A],?_⟩;have B:=r;cases b with
  |true=>obtain⟨x,y,rfl⟩:=B;exact⟨_,_,rfl,rfl,r,rfl⟩
  |false=>subst B;exact⟨_,_,rfl,rfl,r,rfl⟩
 |_=>
  have A:k=1:=by simpa[V.fits] using f
  refine⟨by simp[V.cells,A],?_⟩;have B:=r;first
   |(subst B;exact⟨_,_,rfl,rfl,r,rfl⟩)
   |(obtain⟨x,rfl,_⟩:=B;exact⟨_,_,rfl,rfl,r,rfl⟩)
   |(obtain⟨x,y,rfl,_⟩:=B;exact⟨_,_,rfl,rfl,r,rfl⟩)
   |(obtain⟨x,y,z,_,rfl⟩:=B;exact⟨_,_,rfl,rfl,r,rfl⟩)
theorem Nz{x:TI}(T:mE P t x)(h:Kd x.zero z=true):dX w I σ x.zero z:=by
 unfold Kd at h;split at h
 .rename_i cs u h1;rw[h1];exact⟨u,rfl,Gx h⟩
 .grind
 .exact(Ke h).2
end
def jO(w:World)(I:Nat->Prop)(σ:jI)(f:Nat->V)(a:Act):Prop:= ∀t,dX w I σ (f t) (a.tmps.getD t undef)
def jO.ext{w w':World}{I I':Nat->Prop}{σ σ':jI}{f:Nat->V}{a:Act}(F:jO w I σ f a)(E:Ext w I σ w' I' σ'):jO w' I' σ' f a:=
 fun t=>(F t).ext E
def jO.put{w:World}{I:Nat->Prop}{σ:jI}{f:Nat->V}{a:Act}(F:jO w I σ f a){v:V}{u:Value}(h:dX w I σ v u)(d:Nat)(x:d<a.tmps.size):
  jO w I σ (bB f d v) (a.put (some d) u):=by
 intro t;unfold bB;simp only[Act.put];by_cases e:t=d
 .simp_all
 .simp only[e,if_false];have:(a.tmps.setIfInBounds d u).getD t undef=a.tmps.getD t undef:=by
   simp only[Array.getD,Array.size_setIfInBounds];split
   .show(a.tmps.setIfInBounds d u)[t]'_=a.tmps[t]
    grind
   .rfl
  rw[this];exact F t
def Zs:Value->Bool
 | .agg cs=>cs.toList.all Value.oneCell'
 |_=>true
def zr:Operand->Bool
 | .const v=>Zs v
 |_=>true
def NA{w:World}{I:Nat->Prop}{σ:jI}(u:Value):dX w I σ (yc u) u:=by
 unfold yc;split
 .simp[dX]
 .simp[dX]
 .exact⟨_,rfl,rfl⟩
 .simp[dX]
 .simp[dX,vd]
 .exact⟨none,0,rfl,iX _,B8 _,fun _=>rfl,.inl ai⟩
 .simp[dX]
def Vz{w:World}{I:Nat->Prop}{σ:jI}(h:Zs u=true):dX w I σ (xe u) u:=by
 unfold xe;split
 .rename_i cs;refine⟨cs,rfl,?_⟩;rw[ez];refine⟨ai,fun j c x m hx=> ?_⟩;rw[tm,hx]at m;simp at m;subst m;exact⟨List.all_eq_true.1 h x (t6 hx),NA x⟩
 .exact NA u
def fu{w:World}{I:Nat->Prop}{σ:jI}{S:St}{a:Act}(F:jO w I σ S.f a)(hx:zr x=true):dX w I σ (S.ev x) (a.eval x):=by
 cases x with
 |tmp t=>exact F t
 |const v=>exact Vz hx
 |global g=>simp[St.ev,dX]
 |func g=>
  exact⟨#[],#[],rfl,fL,fL⟩
def AG{x:TI}(T:mE P t x)(w:World):(isAgg t).run P w= .ok x.agg w:=by
 obtain⟨d,h,b⟩:=T.und;unfold isAgg;rw[Sem.run_bind,run_underlying h];cases d<;>simp_all [By]
def run_sizeOf{x:TI}(T:mE P t x)(w:World):(sizeOf t).run P w= .ok x.size w:=by
 obtain⟨i,z,j,h,_⟩:=T.info;simp[sizeOf,typeInfo,j,h]
def rf(b o j:Nat):(⟨b,o,none⟩:Addr).add j=⟨b,o+j,none⟩:=by
 unfold Addr.add;grind
def DD.FF{w:World}{I:Nat->Prop}{σ:jI}{b o:Nat}(h:DD w I σ cs b o):
  ∃us:List Value,us.length=cs.length/\(∀j u,us[j]?=some u->w.cell? ⟨b,o+j,none⟩=some u)/\fW w I σ cs us:=by
 induction cs generalizing o with
 |nil=>exact⟨[],rfl,ai,f_⟩
 |cons c cs i=>
  obtain⟨u,h1,K,S⟩:=h 0 c ai;obtain⟨us,l,a,r⟩:=i (o:=o+1) (fun j x q=>by
   have:=h (j+1) x aj
   grind)
  refine⟨u::us,aj,fun j x q=> ?_,by exact⟨u,us,rfl,K,S,r⟩⟩
  grind
def DD.TX{w:World}{I:Nat->Prop}{σ:jI}{b o:Nat}(h:DD w I σ cs b o)(f n:Nat):DD w I σ ((cs.drop f).take n) b (o+f):=by
 intro j c q;rw[z0]at q;split at q
 .rw[ux]at q;have:=h (f+j) c q
  grind
 grind
def Gy{x:TI}(T:mE P t x){w:World}{I:Nat->Prop}{σ:jI}{b o f:Nat}(h:DD w I σ cs b o)(i:part x cs f=some v):
  ∃u,(loadVar t ⟨b,o+f,none⟩).run P w= .ok u w/\dX w I σ v u:=by
 unfold part at i;by_cases a:x.agg=true
 .rw[if_pos a]at i;split at i
  .simp at i;subst i;obtain⟨s,G,c,r⟩:=(h.TX f x.size).FF;have l:s.length=x.size:=by rw[G];simp;omega
   refine⟨.agg s.toArray,?_,by exact⟨s.toArray,rfl,ab⟩⟩;have d:=run_loadCells_list (P:=P) w ⟨b,o+f,none⟩ s (fun j u q=>by rw[rf];grind);rw[l]at d;simp[loadVar,AG T,a,run_sizeOf T,d]
  grind
 .rw[if_neg a]at i;obtain⟨u,h1,K,S⟩:=h f v i;refine⟨u,?_,S⟩;have Y:x.agg=false:=by simpa using a
  simp[loadVar,AG T,Y,h1]
def fW.get{w:World}{I:Nat->Prop}{σ:jI}(h:fW w I σ cs us){j:Nat}{c:V}(m:cs[j]?=some c):
  ∃u,us[j]?=some u/\u.oneCell'=true/\dX w I σ c u:=by
 rw[ez]at h;have q:j<cs.length:=(List.getElem?_eq_some_iff.1 m).1;have a:us[j]?=some (us[j]' ab):=ai
 grind
def fW.Bq{w:World}{I:Nat->Prop}{σ:jI}(h:fW w I σ cs us): ∀u∈us,u.oneCell'=true:=by
 intro u a;rw[ez]at h;obtain⟨j,q,rfl⟩:=List.mem_iff_getElem.1 a;have c:cs[j]?=some (cs[j]' ab):=ai
 exact(h.2 j _ us[j] c ai).1
def tO: ∀(n:Nat) (cs xs:List V),(lK n cs xs).length=xs.length
 |0,[],xs=>by cases xs<;>simp[lK]
 |0,c::cs,x::xs=>by simp[lK,tO 0 cs xs]
 |0,_::_,[]=>by simp[lK]
 |n+1,cs,x::xs=>by simp[lK,tO n cs xs]
 |n+1,cs,[]=>by simp[lK]
def rh: ∀(n:Nat) (cs xs:List V) (j:Nat),n+cs.length<=xs.length->(lK n cs xs)[j]?=if n<=j/\j<n+cs.length then cs[j-n]? else xs[j]?
 |0,[],xs,j,_=>by
  cases xs<;>simp[lK]
 |0,c::cs,x::xs,j,h=>by
  simp only[lK];cases j with
  |zero=>simp
  |succ j=>
   have:=rh 0 cs xs j aj
   grind
 |0,_::_,[],j,h=>aj
 |n+1,cs,x::xs,j,h=>by
  simp only[lK];cases j with
  |zero=>simp
  |succ j=>
   have:=rh n cs xs j aj
   grind
 |n+1,cs,[],j,h=>aj
def VA{f k:Nat}(y:0<k)(h:v.fits k=true)(l:f+k<=e.cells.length):(e.put f v).cells=lK f v.cells e.cells:=by
 cases e with
 |agg x=>simp[V.put,V.cells]
 |_=>
  simp only[V.cells,s9,w4]at l⊢;have h0:f=0:=ab
  subst h0;cases v with
  |agg cs=>
   simp[V.fits]at h;rcases cs with _|⟨c,cs⟩
   .grind
   .simp at h;have:cs=[]:=by apply xR;omega
    subst this;simp[V.put,lK]
  |ed _=>simp[V.fits]at h
  |bad=>simp[V.fits]at h
  |_=>simp[V.put,lK]
def Ext.setRow{w:World}{I:Nat->Prop}{σ:jI}{b:Nat}{c c':Array Value}{el:TypeId}(n: ¬I b)(f:lh w b c el)(q:c'.size=c.size):
  Ext w I σ (w.setRow b c') I σ:=by
 refine⟨fun k H=>setRow_other w b k c' (fun e=>n (e▸H)),fun k T l fz m=> ?_,fun _ h=>h,fun _ _ h=>h⟩;by_cases e:k=b
 .subst e;obtain⟨z,N,_⟩:=f;rw[N]at m;obtain⟨rfl,rfl,rfl⟩:=m;exact⟨c',_,setRow_heap w k c c' el _ N,q⟩
 .exact⟨T,fz,by rw[setRow_other w b k c' e];omega,rfl⟩
def qF(c:Array Value)(p:Nat)(us:List Value):Array Value:=(c.toList.take p++us++c.toList.drop (p+us.length)).toArray
def pq{p:Nat}(h:p+us.length<=c.size):(qF c p us).size=c.size:=by
 simp[qF];omega
def xh{p:Nat}(h:p+us.length<=c.size)(j:Nat):(qF c p us)[j]?=if p<=j/\j<p+us.length then us[j-p]? else c[j]?:=by
 simp only[qF,List.getElem?_toArray];by_cases h1:j<p
 .grind
 grind
def VB{w:World}{b j:Nat}{v:Value}(h:lh w b c el)(q:j<c.size)(h1:v.oneCell'=true):
  (store ⟨b,j,none⟩ v).run P w= .ok () (w.setRow b (c.setIfInBounds j v)):=by
 have K:=h.free q;obtain⟨fz,f⟩:=h.at;have e:w.cell? ⟨b,j,none⟩=some c[j]:=by simp[World.cell?,f,q]
 rw[run_store P w _ v _ h1,e];simp[K,setCell_eq_setRow w b j c el fz v f]
def VC{p:Nat}{v:Value}(h:p+(us.length+1)<=c.size):qF (c.setIfInBounds p v) (p+1) us=qF c p (v::us):=by
 apply Array.ext_getElem?;intro j;rw[xh aj,xh ab]
 grind
def ye{P:Program}{b p:Nat}{el:TypeId}: ∀(vs:List Value) (i:Nat) (c:Array Value) (w:World),lh w b c el->p+i+vs.length<=c.size->(∀v∈vs,v.oneCell'=true)->
  (storeCells ⟨b,p,none⟩ vs i).run P w= .ok () (w.setRow b (qF c (p+i) vs))
 | [],i,c,w,h,_,_=>by
  obtain⟨fz,f⟩:=h.at;have e:qF c (p+i) []=c:=by simp[qF]
  rw[e,setRow_self w b c el fz f];rfl
 |v::vs,i,c,w,h,l,h1=>by
  simp only[s9]at l;have a:(⟨b,p,none⟩:Addr).add i=⟨b,p+i,none⟩:=by simp[Addr.add]
  have s:=VB (P:=P) (v:=v) h (show p+i<c.size from ab) (h1 v ai);have j:=ye (P:=P) (b:=b) (p:=p) vs (i+1) (c.setIfInBounds (p+i) v) (w.setRow b (c.setIfInBounds (p+i) v)) (h.set ai) aj fun x hx=>h1 x aj;rw[<-Nat.add_assoc,VC ab,setRow_setRow]at j;simp only[storeCells,Sem.run_bind,a,s,Result.andThen_ok,j]
def lh.cell{w:World}{b:Nat}{c:Array Value}{el:TypeId}(h:lh w b c el){j:Nat}:w.cell? ⟨b,j,none⟩=c[j]?:=by
 obtain⟨fz,e⟩:=h.at;simp[World.cell?,e]
def Lu   {x:TI} (T:mE P t x) {w:World} {b p:Nat}   (e:lh w b c el)
   (h:u.cells.size=x.size) (h1: ∀y∈u.cells.toList,y.oneCell'=true) (l:p+x.size<=c.size):
  (storeVar t ⟨b,p,none⟩ u).run P w= .ok () (w.setRow b (qF c p u.cells.toList)):=by
 have k:=ye (P:=P) (b:=b) (p:=p) u.cells.toList 0 c w e aj h1;simp[storeVar,run_sizeOf T,h,k]
def ey.get{w:World}{I:Nat->Prop}{σ:jI}{k b o i:Nat}(h:ey w I σ es k b o)(j:es[i]?=some e):e.cells.length=k/\DD w I σ e.cells b (o+i*k):=
 (l7 es k b o).1 h i e j
def Rel.at{w:World}{I:Nat->Prop}{σ:jI}{h:bI}(R:Rel w I σ h){id i:Nat}(f:h id=some ob)(j:ob.es[i]?=some e):
  ∃b o c el,σ id=some (b,o,ob.k)/\ ¬I b/\lh w b c el/\o+ob.es.length*ob.k<=c.size/\ey w I (mJ ob.eP σ) ob.es ob.k b o:=by
 rcases R.obj id ob f with⟨C,_⟩|h
 .grind
 omega
def QU{i j k p q:Nat}(hp:p<k)(u:q<k)(h:i*k+p=j*k+q):i=j:=by
 rcases zV i j with S|he|S
 .have:(i+1)*k<=j*k:=ul k S
  grind
 .omega
 .have:(j+1)*k<=i*k:=ul k S
  grind
def VD   {x:TI} (T:mE P t x) {w:World} {I:Nat->Prop} {σ:jI} {h:bI} (R:Rel w I σ h) {id i f:Nat}   
  (B:h id=some ob) (s:ob.es[i]?=some e) (X:dX w I (mJ ob.eP σ) v u) (O:v.fits x.size=true) (m:f+x.size<=e.cells.length) (n:Nat)
  {b o k:Nat} (L:σ id=some (b,o,k)):
  ∃w',(storeVar t ⟨b,o+i*k+f,none⟩ u).run P w= .ok () w'/\Step w I σ h n w' I σ (bB h id (some {ob with es:=ob.es.set i (e.put f v)})) n:=by
 obtain⟨b',o',c,el,A,Y,g,he,C⟩:=R.at B s;obtain⟨fz,a⟩:=g.at;rw[L]at A;obtain⟨rfl,rfl,rfl⟩:=A;have W:=C.get s;have l:=X.cells O;have G:i<ob.es.length:=(List.getElem?_eq_some_iff.1 s).1;have Z:(i+1)*ob.k<=ob.es.length*ob.k:=ul _ G;rw[t1]at Z;have d:u.cells.size=x.size:=by
  have:=(ez _ _).1 l.2;simp at this;omega
 have D:o+i*ob.k+f+x.size<=c.size:=ab
 have Q:=Lu T (p:=o+i*ob.k+f) g d l.2.Bq D;have J:o+i*ob.k+f+u.cells.toList.length<=c.size:=aA
 refine⟨_,Q,R.write B L g (pq J) aj ?_ n⟩;have E:Ext w I (mJ ob.eP σ) (w.setRow b (qF c (o+i*ob.k+f) u.cells.toList)) I (mJ ob.eP σ):=Ext.setRow Y g (pq J);rw[l7];intro j hc r;rw[t3]at r;by_cases M:i=j
 .subst M;simp[G]at r;subst r;have F:=VA T.pos O (e:=e) (f:=f) m;refine⟨by rw[F,tO];omega,?_⟩;intro q y z;rw[F,rh _ _ _ _ ab]at z;rw[cell_setRow_same w b _ c _ el fz a,xh J];split at z
  .rename_i H;obtain⟨N,h1,K,S⟩:=l.2.get z;refine⟨N,?_,K,S.ext E⟩
   grind
  .rename_i H;obtain⟨N,h1,K,S⟩:=W.2 q y z;refine⟨N,?_,K,S.ext E⟩;rw[if_neg aj];rw[cell_of_row w b _ c el fz a]at h1;omega
 .rw[if_neg M]at r;have U:=C.get r;refine⟨U.1,?_⟩;intro q y z;have V:q<ob.k:=by rw[<-U.1];exact(List.getElem?_eq_some_iff.1 z).1
  obtain⟨N,h1,K,S⟩:=U.2 q y z;refine⟨N,?_,K,S.ext E⟩;rw[cell_setRow_same w b _ c _ el fz a,xh J,if_neg ?_]
  .rw[cell_of_row w b _ c el fz a]at h1;omega
  .simp only[uy];intro ⟨ha,hx⟩;apply M;exact QU (k:=ob.k) (p:=j*ob.k+q-i*ob.k) (q:=q) ab V ab
def QV(w:World)(o:Obj)(b:Nat)(h:b<w.heap.size):(w.alloc o).heap[b]?=w.heap[b]?:=by
 show(w.heap.push o)[b]?=w.heap[b]?
 grind
def Bo(w:World)(o:Obj):(w.alloc o).heap[w.heap.size]?=some o:=by
 show(w.heap.push o)[w.heap.size]?=some o;simp
def Ext.alloc{w:World}{I:Nat->Prop}{σ:jI}(m: ∀b,I b->b<w.heap.size)(ob:Obj):Ext w I σ (w.alloc ob) I σ:=
 ⟨fun b e=>QV w ob b (m b e),fun b c el fz h=>⟨c,fz,by rw[QV w ob b aj];exact h,rfl⟩,fun _ h=>h,fun _ _ h=>h⟩
def GC(w:World)(ob:Obj):(w.alloc ob).heap.size=w.heap.size+1:=bu
def Rel.alloc{w:World}{I:Nat->Prop}{σ:jI}{h:bI}(R:Rel w I σ h)(ob:Obj):Rel (w.alloc ob) I σ h:=by
 refine R.eP (Ext.alloc R.eA ob) (fun b e=>by rw[GC];have:=R.eA b e;omega) (fun b e=> ?_) (fun _ _=>rfl);obtain⟨i,c,el,a⟩:=R.owned e;exact⟨QV w ob b a.lt,i⟩
def Lv {w:World} {I:Nat->Prop} {σ:jI} {h:bI} (R:Rel w I σ h) {n k:Nat}  {eP:Bool}  (c:Array Value)
  (W:h n=none) (s:σ n=none) (l:es.length*k<=c.size)
  (r:ey (w.alloc (.cells c el)) I (mJ eP (bB σ n (some (w.heap.size,0,k)))) es k w.heap.size 0):
  Step w I σ h n (w.alloc (.cells c el)) I (bB σ n (some (w.heap.size,0,k))) (bB h n (some ⟨k,es,eP⟩)) (n+1):=by
 have G:=Bo w (.cells c el);have D: ¬I w.heap.size:=fun i=>by have:=R.eA _ i;omega
 have O: ¬ju σ h w.heap.size:=fun g=>by
  obtain⟨_,c',Q,a⟩:=R.owned g;have:=a.lt;omega
 have E:=(R.alloc (.cells c el)).Zp (n:=n) (b:=w.heap.size) (o:=0) (k:=k) (es:=es) (eP:=eP) W s (lh.zero G) D O ab r;refine⟨(Ext.alloc R.eA _).trans (Ext.Vy s),E,rfl,rfl,rfl,aj,fun b f _=>QV w _ b f,fun b f=> ?_,fun _ f=> .inl f,ab,fun id v=>aV,fun id v z=>aV⟩;obtain⟨id,ob,o,k',h1,K⟩:=f;by_cases e:id=n
 .grind [bB]
 .right;exact⟨id,ob,o,k',aV,aV⟩
def TZ{w:World}{I:Nat->Prop}{σ:jI}{h:bI}(R:Rel w I σ h){n k:Nat}(s:σ n=none)(r:dX w I σ v u)(f:v.fits k=true):
  ey (w.alloc (.cells u.cells el)) I (bB σ n (some (w.heap.size,0,k))) [v] k w.heap.size 0:=by
 have m:=r.cells f;rw[lg];refine⟨m.1,fun j c q=> ?_,dZ⟩;obtain⟨N,h1,K,S⟩:=m.2.get q;refine⟨N,?_,K,S.ext ((Ext.alloc R.eA _).trans (Ext.Vy s))⟩
 simp_all
def sliceB(P:Program)(t:TypeId)(x:TI):Bool:=
 match P.underlying t with
 |some (.slice e)=>e==x.elem
 |_=>false
def wJ(P:Program)(t:TypeId)(k:Nat):Bool:=
 match P.underlying t,k with
 |some (.int _),0=>true
 |some .bool,1=>true
 |some .string,2=>true
 |_,_=>false
def GF(P:Program):Nat->List Field->List Nat->Bool
 |_,[],[]=>true
 |j,f::w,k::s=>f.name != "_" &&f.offset==j&&wJ P f.type k&&GF P (j+1) w s
 |_,_,_=>false
def wX(P:Program)(t:TypeId)(ag:Bool)(ya:List Nat):Bool:=
 match P.underlying t with
 |some (.struct f)=>ag&& (ya==[]||(!(P.stoodInHeld t)&& !(P.eqGuardType P.depth t)&&GF P 0 f.toList ya))
 |some .bool=> !ag&&ya==[1]
 |some (.pointer _)=> !ag&&ya==[3]
 |some (.array _ _)=>ag&&ya==[9]
 |some (.interface _)=> !ag&& (ya==[]||ya==[4])
 |_=> !ag&& (ya==[]||ya==[0]||ya==[2])
def tB(X:Env)(t:TypeId):Bool:=AL X.P t (X.ti t)
def VE(X:Env)(I:Nat)(o:Oper):Bool:=
 (match o.dst with|some d=>decide (d<I)|none=>true)&&o.op.operands.toList.all zr&&
 (match o.op with
 | .alloc t| .box t _| .load t _| .fieldAddr t _ _=>tB X t
 | .store t _ _=>tB X t&&o.dst==none
 | .build t _=>tB X t&& ((X.ti t).arr==none||tB X (X.ti t).elem)
 | .buildSlice t n _=>sliceB X.P t (X.ti t)&&tB X (X.ti t).elem&&decide (n*(X.ti (X.ti t).elem).size<=2^24)
 | .makeSlice t _ _=>sliceB X.P t (X.ti t)&&tB X (X.ti t).elem
 | .indexAddr t _ _=>(((X.ti t).arr==none&&sliceB X.P t (X.ti t))||(tB X t&& (X.ti t).arr !=none))&&tB X (X.ti t).elem
 | .index t _ _=>tB X t&& ((X.ti t).arr==none||tB X (X.ti t).elem)&& ((X.ti t).arr !=none||(match X.P.underlying t with|some .string=>true|_=>false))
 | .field t _ f=>tB X o.type&& (match X.P.underlying t with|some (.struct w)=>(match w[f]?,(X.ti t).x9[f]? with|some g,some (k,_)=>g.type==o.type&&g.offset==k|_,_=>false)|_=>false)
 | .convert s d _=>tB X d&& (X.P.underlying s).isSome&& (!(X.ti d).isStr||((match X.P.underlying d with|some .string=>true|_=>false)&& (match X.P.underlying s with|some (.slice e)=>(match X.P.underlying e with|some (.int .u8)=>true|_=>false)|_=>false)))&& ((X.ti d).isStr|| !((X.ti (X.ti d).elem).kind==some .u8)||(X.ti d).kind.isSome||(sliceB X.P d (X.ti d)&&tB X (X.ti d).elem))
 | .binOp .eql t _ y _| .binOp .neq t _ y _=>wX X.P t (X.ti t).agg (X.ti t).ya&& ((X.ti t).ya !=[4]||(match y with| .const _=>true|_=>false))
 | .slice t _ _ _ _=>match X.P.underlying t with|some (.slice e)=> !(X.ti t).isStr&&e==(X.ti t).elem&&tB X e&& (X.ti t).arr==none|some .string=>(X.ti t).isStr&& (X.ti t).arr==none|some (.array n e)=> !(X.ti t).isStr&& (X.ti t).arr==some n&&e==(X.ti t).elem&&tB X e&&decide (n<=1000)|_=>false
 | .call ⟨.builtin .append,args,m⟩=>args.size==2&& (match m.toList with
   |t::u::_=>sliceB X.P t (X.ti t)&&tB X (X.ti t).elem&& (match X.P.underlying u with
    |some (.slice _)=>true
    |some .string=>true
    |_=>(X.ti u).kind.isSome)
   |_=>false)
 | .call ⟨.builtin .copy,args,m⟩=>args.size==2&& (match m.toList with
   |t::u::_=>sliceB X.P t (X.ti t)&&tB X (X.ti t).elem&& (match X.P.underlying u with
    |some (.slice _)=>true
    |some .string=>true
    |_=>false)
   |_=>false)
 | .call ⟨.builtin .len,args,m⟩=>args.size==1&& (match m.toList with
   |t::_=>(match X.P.underlying t with|some (.slice _)=> !(X.ti t).isStr|some .string=>(X.ti t).isStr|_=>false)
   |_=>false)
 |_=>true)
def Out(X:Env)(o:Oper)(a:Act)(w:World)(I:Nat->Prop)(σ:jI)(S S1:St):Prop:=
 ∃n w' I' σ' u v,(execOp a.eval o).run X.P w= .ok n w'/\(n= .value u\/(n= .skip/\u=undef))/\
  Step w I σ S.h S.n w' I' σ' S1.h S1.n/\S1.f=(S.set o.dst v).f/\dX w' I' σ' v u
section
variable {X:Env} {o:Oper} {a:Act} {w:World} {I:Nat->Prop} {σ:jI} {S S1:St}
theorem fw(S:St)(d:Option Nat)(v:V):(S.set d v).h=S.h:=fe
theorem ik(S:St)(d:Option Nat)(v:V):(S.set d v).n=S.n:=fe
theorem sT(S j:St)(d:Option Nat)(v:V)(h:j.f=S.f):(j.set d v).f=(S.set d v).f:=by cases d<;>simp[St.set,h]
theorem Out.pure(R:Rel w I σ S.h)(h:(execOp a.eval o).run X.P w= .ok (.value u) w)(r:dX w I σ v u)(s:S1=S.set o.dst v):Out X o a w I σ S S1:=by
 subst s;refine⟨_,w,I,σ,u,v,h,.inl rfl,?_,rfl,r⟩;rw[fw,ik];exact Step.refl R _
def oN(o:Oper):Prop:= ∀x∈o.op.operands.toList,zr x=true
theorem iJ{n:Int}(h:dX w I σ (.int k n) u):u= .int k n:=b0
theorem ve(h:dX w I σ (.bool b) u):u= .bool b:=b0
theorem Zt {c:Operand} (h:o.op= .pick c x y) (R:Rel w I σ S.h) (F:jO w I σ S.f a) (hx:oN o) {t:Bool} (m:S.ev c= .bool t)
  (s:S1=S.set o.dst (if t then S.ev x else S.ev y)):Out X o a w I σ S S1:=by
 have h1:=fu (S:=S) F (hx c aT);have K:=fu (S:=S) F (hx x aT);have T:=fu (S:=S) F (hx y aT);rw[m]at h1;have b:=ve h1;refine Out.pure (u:=if t then a.eval x else a.eval y) R ?_ ?_ s
 .simp[execOp,h,b,asBool]
 grind
theorem NC(e:o.op= .move x\/o.op= .assign x)(R:Rel w I σ S.h)(F:jO w I σ S.f a)(hx:oN o)(s:S1=S.set o.dst (S.ev x)):Out X o a w I σ S S1:=by
 have h1:dX w I σ (S.ev x) (a.eval x):=fu (S:=S) F (hx x (by rcases e with h|h<;>simp[h,Op.operands]));refine Out.pure (u:=a.eval x) R ?_ h1 s;rcases e with h|h<;>simp[execOp,h]
theorem GH{x:TI}(T:mE P t x)(w:World): ∃z,(zeroValue t).run P w= .ok z w/\Kd x.zero z=true:=by
 obtain⟨i,z,j,_,_,h,b⟩:=T.info;exact⟨z,by simp[zeroValue,typeInfo,j,h],b⟩
theorem VF  (e:o.op= .alloc t) (T:mE X.P t (X.ti t)) (R:Rel w I σ S.h) (W:S.h S.n=none) (n:σ S.n=none)
  (s:S1=(S.new ⟨(X.ti t).size,[(X.ti t).zero],true⟩).set o.dst (.ptr S.n 0 0)):Out X o a w I σ S S1:=by
 subst s;obtain⟨z,O,b⟩:=GH T w;have h:dX w I σ (X.ti t).zero z:=Nz T b;refine⟨_,w.alloc (.cells z.cells t),I,bB σ S.n (some (w.heap.size,0,(X.ti t).size)),.pointer (some ⟨w.heap.size,0,none⟩),.ptr S.n 0 0,?_,.inl rfl,?_,?_,?_⟩
 .simp[execOp,e,Instr.alloc,O,newVar,newRow]
 .rw[fw,ik];refine Lv R z.cells W n ?_ (TZ R n h T.aso);have:=(h.cells T.aso);have l:=(ez _ _).1 this.2
  grind
 .exact sT _ _ _ _ rfl
 .exact⟨w.heap.size,0,(X.ti t).size,al,ai⟩
theorem YL   (e:o.op= .box t x) (R:Rel w I σ S.h) (F:jO w I σ S.f a) (hx:oN o) (W:S.h S.n=none) (n:σ S.n=none)
  (f:(S.ev x).fits (X.ti t).size=true) (s:S1=(S.new ⟨(X.ti t).size,[S.ev x],true⟩).set o.dst (.ptr S.n 0 0)):Out X o a w I σ S S1:=by
 subst s;have h:dX w I σ (S.ev x) (a.eval x):=fu (S:=S) F (hx x bd);refine⟨_,w.alloc (.cells (a.eval x).cells t),I,bB σ S.n (some (w.heap.size,0,(X.ti t).size)),.pointer (some ⟨w.heap.size,0,none⟩),.ptr S.n 0 0,?_,.inl rfl,?_,?_,?_⟩
 .simp[execOp,e,Instr.box,newVar,newRow]
 .rw[fw,ik];refine Lv R (a.eval x).cells W n ?_ (TZ R n h f);have:=(h.cells f);have l:=(ez _ _).1 this.2
  grind
 .exact sT _ _ _ _ rfl
 .exact⟨w.heap.size,0,(X.ti t).size,al,ai⟩
theorem Lw   (g:o.op= .load t x) (T:mE X.P t (X.ti t)) (R:Rel w I σ S.h) (F:jO w I σ S.f a) (hx:oN o)
  {id i f:Nat}   (C:S.ev x= .ptr id i f) (y:S.h id=some ob) (j:ob.es[i]?=some e) (m:part (X.ti t) e.cells f=some v) (s:S1=S.set o.dst v):Out X o a w I σ S S1:=by
 have h1:dX w I σ (S.ev x) (a.eval x):=fu (S:=S) F (hx x (by simp[g,Op.operands]));rw[C]at h1;obtain⟨b,of,k,l,d⟩:=h1;obtain⟨B,o',c,el,n,A,z,L,q⟩:=R.at y j;rw[l]at n;obtain⟨rfl,rfl,rfl⟩:=n;have p:=(q.get j).2.ext (Ext.Gw ob.eP) rfl;obtain⟨u,h,r⟩:=Gy T (f:=f) p m;refine Out.pure (u:=u) R ?_ r s;simp[execOp,g,d,Instr.loadAt,Instr.sureAddr,h]
theorem Lx   (e:o.op= .load t x) (T:mE X.P t (X.ti t)) (R:Rel w I σ S.h) (F:jO w I σ S.f a) (hx:oN o)
    (C:S.ev x= .ref cs) (i:part (X.ti t) cs 0=some v) (s:S1=S.set o.dst v):Out X o a w I σ S S1:=by
 have h1:dX w I σ (S.ev x) (a.eval x):=fu (S:=S) F (hx x bd);rw[C]at h1;obtain⟨b,of,d,m,c⟩:=h1;rw[uV]at c;obtain⟨u,h,r⟩:=Gy T (f:=0) c i;refine Out.pure (u:=u) R ?_ (r.ext Ext.free) s;simp only[xt]at h;simp[execOp,e,d,Instr.loadAt,Instr.sureAddr,h]
theorem Et{x:TI}(T:mE P t x){i off k:Nat}(K:x.x9[i]?=some (off,k))(w:World)(b p:Nat):
  (Instr.fieldAt t (.pointer (some ⟨b,p,none⟩)) i).run P w= .ok (.pointer (some ⟨b,p+off,none⟩)) w:=by
 obtain⟨d,u,e⟩:=T.und;cases d with
 |struct s=>
  simp only[By,X8,beq_iff_eq]at e;obtain⟨⟨⟨⟨_,y⟩,_⟩,_⟩,N⟩:=e;rw[y,tm]at K;cases L:s.toList[i]? with
  |none=>grind
  |some f=>
   simp[L]at K;have Q:s[i]?=some f:=by simpa using L
   have h:=List.all_eq_true.1 N f (t6 L);simp at h;have q:(sizeOf f.type).run P w= .ok (P.cellsOf f.type) w:=by
    unfold Program.cellsOf at h⊢;cases j:P.info? f.type with
    |none=>grind
    |some i=>simp[sizeOf,typeInfo,j]
   simp[Instr.fieldAt,run_underlying u,Q,Instr.sureAddr,fieldPlace,q,Nat.ne_of_gt h,rf]
 |_=>
  simp[By]at e
  grind
theorem Bz   {i:Nat} (e:o.op= .fieldAddr t x i) (T:mE X.P t (X.ti t)) (R:Rel w I σ S.h) (F:jO w I σ S.f a) (hx:oN o)
  {off k:Nat} (K:(X.ti t).x9[i]?=some (off,k))  (n:(∃id j f,S.ev x= .ptr id j f/\v= .ptr id j (f+off))\/(∃cs,S.ev x= .ref cs/\v= .ref (cs.drop off)))
  (s:S1=S.set o.dst v):Out X o a w I σ S S1:=by
 have h1:dX w I σ (S.ev x) (a.eval x):=fu (S:=S) F (hx x bd);rcases n with⟨id,j,f,C,rfl⟩|⟨cs,C,rfl⟩
 .rw[C]at h1;obtain⟨b,of,k',l,h⟩:=h1;refine Out.pure (u:= .pointer (some ⟨b,of+j*k'+f+off,none⟩)) R ?_ ?_ s
  .simp[execOp,e,h,Et T K]
  .exact⟨b,of,k',l,aj⟩
 .rw[C]at h1;obtain⟨b,of,h,p,m⟩:=h1;refine Out.pure (u:= .pointer (some ⟨b,of+off,none⟩)) R ?_ ?_ s
  .simp[execOp,e,h,Et T K]
  .refine⟨b,of+off,rfl,p,?_⟩;rw[uV]at m⊢;intro q c y;rw[ux]at y;have:=m (off+q) c y
   grind
end
section
variable {w:World} {I:Nat->Prop} {σ:jI} {h:bI}
theorem vf(i:v.pP=true)(h:dX w I σ v u):dX w I fJ v u:=by
 cases v with
 |int k n=>simpa[dX] using h
 |bool b=>simpa[dX] using h
 |str s=>simpa[dX] using h
 |sl c es=>simpa only[dX] using h
 |wC=>simpa[dX] using h
 |Qz b=>simpa only[dX] using h
 |fn g bxb U=>
  cases bxb with
  |nil=>cases U with
   |nil=>simpa[dX,iT] using h
   |cons _ _=>simp[V.pP]at i
  |cons _ _=>simp[V.pP]at i
 |_=>simp[V.pP]at i
def zt(I:Nat->Prop)(σ:jI)(h h':bI):Nat->Prop:=fun b=>I b\/(ju σ h b/\ ¬ju σ h' b)
theorem ju.QW{id b:Nat}(f:ju σ (bB h id none) b):ju σ h b:=by
 obtain⟨i,ob,o,k,h1,K⟩:=f;by_cases e:i=id
 .grind [bB]
 .exact⟨i,ob,o,k,aV,K⟩
theorem Rel.Lz(R:Rel w I σ h){id b o k:Nat}(h1:h id=some ob)(K:σ id=some (b,o,k)): ¬ju σ (bB h id none) b:=by
 rintro⟨i,po,o',k',S,a⟩;by_cases e:i=id
 .grind [bB]
 .exact e (R.apart i id po ob b o' k' o k aV h1 a K)
theorem Kg(R:Rel w I σ h){h':bI}(B: ∀id ob,h' id=some ob->h id=some ob)(n:Nat):Step w I σ h n w (zt I σ h h') σ h' n:=by
 have E:Ext w I σ w (zt I σ h h') σ:=⟨fun _ _=>rfl,fun _ c _ fz a=>⟨c,fz,a,rfl⟩,fun b e=> .inl e,fun _ _ a=>a⟩;have r: ∀b,ju σ h' b->ju σ h b:=fun b ⟨i,ob,o,k,h1,K⟩=>⟨i,ob,o,k,B _ _ h1,K⟩;refine⟨E,(R.sub B).eP E (fun b e=> ?_) (fun b e=>⟨rfl,?_⟩) (fun _ _=>rfl),rfl,rfl,rfl,iX _,fun _ _ _=>rfl,fun b e=> .inr (r b e),fun b e=> ?_,iX _,fun _ _=>rfl,fun id _ W=> ?_⟩
 .rcases e with e|e
  .exact R.eA b e
  .obtain⟨_,c,el,a⟩:=R.owned e.1;exact a.lt
 .rintro(j|⟨_,W⟩)
  .exact(R.owned (r b e)).1 j
  grind
 .rcases e with e|e
  .grind
  grind
 .cases m:h' id with
  |none=>rfl
  |some ob=>grind
theorem ey.TX{k b o:Nat}(h:ey w I σ es k b o)(s l:Nat):ey w I σ ((es.drop s).take l) k b (o+s*k):=by
 rw[l7]at h⊢
 grind
theorem NF{k b o:Nat}(C:es.all V.QK=true)(r:ey w I σ es k b o):ey w I fJ es k b o:=by
 rw[l7]at r⊢;intro i e l;obtain⟨h1,K⟩:=r i e l;refine⟨h1,fun j c h=> ?_⟩;obtain⟨u,v,D,g⟩:=K j c h;refine⟨u,v,D,vf ?_ g⟩;have hx:e.QK=true:=List.all_eq_true.1 C e (t6 l);cases e with
 |agg cs=>exact List.all_eq_true.1 hx c (t6 h)
 |_=>
  cases j with
  |zero=>simp[V.cells]at h;subst h;exact hx
  |succ j=>simp[V.cells]at h
theorem T5 (R:Rel w I σ h) {id s l:Nat}   (r:dX w I σ (.cX id s l) u) (X:h id=some ob) (y:(!ob.eP||ob.es.all V.QK)=true) (f:s+l<=ob.es.length)
  {J:Nat->Prop} (G: ∀b,I b->J b) (v: ∀b o k,σ id=some (b,o,k)->J b):dX w J fJ (.sl false ((ob.es.drop s).take l)) u:=by
 obtain⟨a,cap,rfl,h1,L,S⟩:=r;have e:((ob.es.drop s).take l).length=l:=aA
 refine⟨a,cap,aj,ab,L,fun m=>aj,?_⟩;by_cases M:l=0
 .grind
 .right;rcases S with S|⟨b,of,k,c,el,fz,K,W,j,q⟩
  .omega
  .have i:ob.es[s]?=some (ob.es[s]' ab):=ai
   obtain⟨t,o',c',Q,n,p,H,Y,g⟩:=R.at X i;rw[K]at n;obtain⟨rfl,rfl,rfl⟩:=n;refine⟨b,of+s*ob.k,ob.k,W,v b of ob.k K,?_⟩;have z:ey w I fJ ob.es ob.k b of:=by
    cases C:ob.eP with
    |false=>rw[C]at g;exact g
    |true=>
     rw[C]at y;exact NF aj g
   have D:=z.TX s l;have E:Ext w I fJ w J fJ:=⟨fun _ _=>rfl,fun _ c _ fz d=>⟨c,fz,d,rfl⟩,G,fun _ _ d=>d⟩;exact D.oM E rfl
theorem Kh(R:Rel w I σ h){h':bI}(r:dX w I σ v u)(g:pQ h v=some (v',h'))(n:Nat):
  ∃I',Step w I σ h n w I' σ h' n/\dX w I' fJ v' u/\(∀id ob,h' id=some ob->h id=some ob):=by
 unfold pQ at g;split at g
 .rename_i id s l;cases X:h id with
  |none=>grind
  |some ob=>
   simp only[X]at g;split at g
   .rename_i c;simp only[X8,decide_eq_true_eq]at c;obtain⟨rfl,rfl⟩:=g;have B: ∀i po,bB h id none i=some po->h i=some po:=by
     intro i po j;by_cases e:i=id
     .grind [bB]
     .grind [bB]
    refine⟨_,Kg R B n,dX.l6 (v:= .sl false _) (T5 R r X c.1 c.2 (fun b f=> .inl f) (fun b o k K=> .inr ⟨⟨id,ob,o,k,X,K⟩,R.Lz X K⟩)),B⟩
   grind
 .split at g
  .rename_i j;obtain⟨rfl,rfl⟩:=g;exact⟨I,Step.refl R n,(vf j r).l6,fun _ _ a=>a⟩
  grind
theorem Ki: ∀{cs s:List V} {I:Nat->Prop} {h h':bI} {us:List Value},Rel w I σ h->fW w I σ cs us->eY h cs=some (s,h')-> ∀n:Nat,
  ∃I',Step w I σ h n w I' σ h' n/\fW w I' fJ s us/\(∀id ob,h' id=some ob->h id=some ob)
 | [],s,I,h,h',us,R,C,g,n=>by
  obtain⟨rfl,rfl⟩:=g;exact⟨I,Step.refl R n,by simpa[fW] using C,fun _ _ a=>a⟩
 |c::cs,s,I,h,h',us,R,C,g,n=>by
  obtain⟨u,r,rfl,h1,K,S⟩:=C;simp only[eY]at g;cases m:pQ h c with
  |none=>grind
  |some x=>
   obtain⟨c',L⟩:=x;simp only[m]at g;cases l:eY L cs with
   |none=>grind
   |some y=>
    simp only[l,aS,cy]at g;obtain⟨rfl,rfl⟩:=g;obtain⟨t,b,U,J⟩:=Kh R K m n;have i:fW w t σ cs r:=fW.ext' cs r b.ext S;obtain⟨B,j,d,Z⟩:=Ki b.rel i l n;refine⟨B,b.trans j,?_,fun id ob a=>J _ _ (Z _ _ a)⟩;exact⟨u,r,rfl,h1,U.ext j.ext.Ls,d⟩
theorem GJ(R:Rel w I σ h){h':bI}(r:dX w I σ v u)(g:re h v=some (v',h'))(n:Nat):
  ∃I',Step w I σ h n w I' σ h' n/\dX w I' fJ v' u/\(∀id ob,h' id=some ob->h id=some ob):=by
 unfold re at g;split at g
 .rename_i cs;cases l:eY h cs with
  |none=>grind
  |some y=>
   simp only[l,aS,cy]at g;obtain⟨rfl,rfl⟩:=g;obtain⟨s,rfl,c⟩:=r;obtain⟨t,b,U,sub⟩:=Ki R c l n;exact⟨t,b,by exact⟨s,rfl,U⟩,sub⟩
 .exact Kh R r g n
theorem Kj: ∀{ps z:List (Nat×V)} {I:Nat->Prop} {h h':bI} {us:List Value},Rel w I σ h->iT w I σ (ps.map (·.2)) us->mV h ps=some (z,h')-> ∀n:Nat,
  ∃I',Step w I σ h n w I' σ h' n/\iT w I' fJ (z.map (·.2)) us/\z.map (·.1)=ps.map (·.1)/\(∀id ob,h' id=some ob->h id=some ob)
 | [],z,I,h,h',us,R,C,g,n=>by
  obtain⟨rfl,rfl⟩:=g;exact⟨I,Step.refl R n,by simpa[iT] using C,rfl,fun _ _ a=>a⟩
 |(i,c)::ps,z,I,h,h',us,R,C,g,n=>by
  obtain⟨u,r,rfl,K,S⟩:=C;simp only[mV]at g;cases m:re h c with
  |none=>grind
  |some x=>
   obtain⟨c',L⟩:=x;simp only[m]at g;cases l:mV L ps with
   |none=>grind
   |some y=>
    simp only[l,aS,cy]at g;obtain⟨rfl,rfl⟩:=g;obtain⟨t,s,U,J⟩:=GJ R K m n;have k:iT w t σ (ps.map (·.2)) r:=iT.ext' _ r s.ext S;obtain⟨B,j,d,e,Z⟩:=Kj s.rel k l n;refine⟨B,s.trans j,?_,aj,fun id ob a=>J _ _ (Z _ _ a)⟩;exact⟨u,r,rfl,U.ext j.ext.Ls,d⟩
end
section
variable {X:Env} {o:Oper} {a:Act} {w:World} {I:Nat->Prop} {σ:jI} {S S1:St}
theorem VH   (j:o.op= .store t x y) (T:mE X.P t (X.ti t)) (R:Rel w I σ S.h) (F:jO w I σ S.f a) (hx:oN o)
  {id i f:Nat}   {h:bI}   (C:S.ev x= .ptr id i f) (h0:S.h id=some Jj)
  (U:(if Jj.eP then some (S.ev y,S.h) else re S.h (S.ev y))=some (v,h)) (g:h id=some ob) (m:ob.es[i]?=some e)
  (K:(v.fits (X.ti t).size&&decide (f+(X.ti t).size<=e.cells.length))=true) (d:o.dst=none)
  (M:S1={S with h:=bB h id (some {ob with es:=ob.es.set i (e.put f v)})}):Out X o a w I σ S S1:=by
 subst M;have h1:dX w I σ (S.ev x) (a.eval x):=fu (S:=S) F (hx x (by simp[j,Op.operands]));have L:dX w I σ (S.ev y) (a.eval y):=fu (S:=S) F (hx y (by simp[j,Op.operands]));rw[C]at h1;obtain⟨b,of,k,l,u⟩:=h1;simp only[X8,decide_eq_true_eq]at K;have key: ∃I',Step w I σ S.h S.n w I' σ h S.n/\dX w I' (mJ ob.eP σ) v (a.eval y):=by
  by_cases z:Jj.eP=true
  .rw[if_pos z]at U;obtain⟨rfl,rfl⟩:=U;rw[h0]at g;simp at g;subst g;exact⟨I,Step.refl R _,by simpa[mJ,z] using L⟩
  .rw[if_neg z]at U;obtain⟨I',s,r,sub⟩:=GJ R L U S.n;have:=sub id ob g;rw[h0]at this;simp at this;subst this;exact⟨I',s,by simpa[mJ,z] using r⟩
 obtain⟨I',s,r⟩:=key;obtain⟨w',O,s'⟩:=VD T s.rel g m r K.1 K.2 S.n l;refine⟨_,w',I',σ,undef,.bad,?_,.inr ⟨rfl,rfl⟩,s.trans s',by simp[St.set,d],a_⟩;simp[execOp,j,u,Instr.storeAt,Instr.sureAddr,O]
theorem yf  (i:o.op= .nilCheck x) (R:Rel w I σ S.h) (F:jO w I σ S.f a) (hx:oN o)
  (v:(∃id j f,S.ev x= .ptr id j f)\/(∃cs,S.ev x= .ref cs)\/(∃g p q,S.ev x= .fn g p q)) (s:S1=S.set o.dst (S.ev x)):Out X o a w I σ S S1:=by
 have h1:dX w I σ (S.ev x) (a.eval x):=fu (S:=S) F (hx x (by simp[i,Op.operands]));refine Out.pure (u:=a.eval x) R ?_ h1 s;rcases v with⟨id,j,f,e⟩|⟨cs,e⟩|⟨g,p,q,e⟩
 .rw[e]at h1;obtain⟨b,of,k,_,h⟩:=h1;simp[execOp,i,h]
 .rw[e]at h1;obtain⟨b,of,h,_⟩:=h1;simp[execOp,i,h]
 .rw[e]at h1;obtain⟨y,vs,h,_⟩:=h1;simp[execOp,i,h]
theorem Zw{op:UnOp}(e:o.op= .unOp op t x)(R:Rel w I σ S.h)(F:jO w I σ S.f a)(hx:oN o)(h:ws op (S.ev x)=some v)(s:S1=S.set o.dst v):Out X o a w I σ S S1:=by
 have h1:dX w I σ (S.ev x) (a.eval x):=fu (S:=S) F (hx x bd);unfold ws at h;split at h
 .rename_i k n C;rw[C]at h1;have c:=iJ h1;simp only[aS]at h;subst h;exact Out.pure (u:= .int k (k.wrap (0-n))) R (by simp[execOp,e,c,Op.unary,Op.intArith]) a_ s
 .rename_i b C;rw[C]at h1;have c:=ve h1;simp only[aS]at h;subst h;exact Out.pure (u:= .bool (!b)) R (by simp[execOp,e,c,Op.unary]) a_ s
 grind
theorem NG    {n:Int} (f:o.op= .convert s d x) (T:mE X.P d (X.ti d)) (G:(X.P.underlying s).isSome=true) (R:Rel w I σ S.h) (F:jO w I σ S.f a) (hx:oN o)
  (y:(X.ti d).kind=some k) (C:S.ev x= .int k' n) (K:S1=S.set o.dst (.int k (k.wrap n))):Out X o a w I σ S S1:=by
 have h1:dX w I σ (S.ev x) (a.eval x):=fu (S:=S) F (hx x bz);rw[C]at h1;have b:=iJ h1;obtain⟨e,v,g⟩:=T.und;have U:e= .int k:=by
  cases e<;>simp_all [By]
 subst U;obtain⟨i,h⟩:=Option.isSome_iff_exists.1 G;exact Out.pure (u:= .int k (k.wrap n)) R (by simp[execOp,f,b,convert,run_underlying h,run_underlying v,Conv.intToInt]) a_ K
theorem LA {g:FuncId}  (e:o.op= .makeFunc (.func g) p q) (R:Rel w I σ S.h) (F:jO w I σ S.f a) (hx:oN o)
  (K:S1=S.set o.dst (.fn g (p.toList.map S.ev) (q.toList.map S.ev))):Out X o a w I σ S S1:=by
 have l: ∀(s:Array Operand),(∀x∈s.toList,x∈o.op.operands.toList)->iT w I σ (s.toList.map S.ev) (s.map a.eval).toList:=by
  intro s h;rw[mZ];refine⟨ai,fun j c u m b=> ?_⟩;rw[tm]at m;simp only[Array.toList_map,tm]at b;cases r:s.toList[j]? with
  |none=>grind
  |some y=>
   simp only[r,ue,aS]at m b;subst m;subst b;exact fu (S:=S) F (hx y (h y (t6 r)))
 refine Out.pure (u:= .func (.func g) (p.map a.eval) (q.map a.eval)) R (by simp[execOp,e,Instr.makeFunc]) ?_ K;exact⟨_,_,rfl,l p (by simp[e,Op.operands];grind),l q (by simp[e,Op.operands];grind)⟩
theorem NH{i:Nat}(e:o.op= .extract x i)(R:Rel w I σ S.h)(F:jO w I σ S.f a)(hx:oN o)(C:S.ev x= .ed vs)(h:vs[i]?=some v)(K:S1=S.set o.dst v):Out X o a w I σ S S1:=by
 have h1:dX w I σ (S.ev x) (a.eval x):=fu (S:=S) F (hx x bd);rw[C]at h1;obtain⟨s,b,r⟩:=h1;rw[mZ]at r;have j:i<vs.length:=(List.getElem?_eq_some_iff.1 h).1;have g:s[i]?=some (s[i]' aj):=ai
 exact Out.pure (u:=s[i]' aj) R (by simp[execOp,e,b,Instr.extract,g]) (r.2 i v _ h ai) K
end
section
variable {w:World} {I:Nat->Prop} {σ:jI}
theorem tP{s:List UInt8}(h:dX w I σ (.str s) u): ∃x:ByteArray,u= .string x/\x.data.toList=s:=by simpa only[dX] using h
theorem toList_eq(x:ByteArray):x.toList=x.data.toList:=by rw[ByteArray.toList_eq]
theorem CN{k:Nat}(s:wJ P t k=true){cs:Array Value}{j:Nat}(q:cs[j]?=some u)(w:World):(Go.part t cs j).run P w= .ok u w:=by
 unfold wJ at s;have:(isAgg t).run P w= .ok false w:=by
  unfold isAgg;split at s
  .exact mG
  .exact mG
  .exact mG
  .grind
 simp[Go.part,this,q]
theorem QX{d:Nat}{Q:Nat}(s:wJ P t Q=true){x y:V}{v:Value}(hx:dX w I σ x u)(G:dX w I σ y v)(C:V.eqv Q x y=some r)(L:World):
  (Op.equalIn (d+1) t u v).run P L= .ok r L:=by
 unfold V.eqv at C;split at C
 .split at C
  .rename_i k;obtain⟨rfl,rfl⟩:=k;simp only[aS]at C;subst C;rw[iJ hx,iJ G];unfold wJ at s;split at s
   .rename_i h _;exact run_equalIn_int L d t _ _ _ _ h
   .omega
   .omega
   grind
  grind
 .split at C
  .rename_i k;subst k;simp only[aS]at C;subst C;rw[ve hx,ve G];unfold wJ at s;split at s
   .omega
   .rename_i h _;exact run_equalIn_bool' L d t _ _ h
   .omega
   grind
  grind
 .split at C
  .rename_i k;subst k;simp only[aS]at C;subst C;obtain⟨a,rfl,rfl⟩:=tP hx;obtain⟨b,rfl,rfl⟩:=tP G;unfold wJ at s;split at s
   .omega
   .omega
   .rename_i h _;rw[run_equalIn_string L d t _ _ h,toList_eq,toList_eq]
   grind
  grind
 grind
theorem CO{P:Program}{d:Nat}: ∀(z:List Field) (g:List Nat) (xs s:List V) (j:Nat) (us vs:Array Value) (r:Bool),GF P j z g=true->Bg g xs s=some r->
  fW w I σ xs (us.toList.drop j)->fW w I σ s (vs.toList.drop j)-> ∀L,(Op.eqFields (d+1) us vs z).run P L= .ok r L
 | [],g,xs,s,j,us,vs,r,K,h,hx,G,L=>by
  cases g with
  |nil=>
   cases xs with
   |nil=>cases s with
    |nil=>simp only[Bg,aS]at h;subst h;simp[Op.eqFields]
    |cons _ _=>simp[Bg]at h
   |cons _ _=>simp[Bg]at h
  |cons _ _=>simp[GF]at K
 |f::z,g,xs,s,j,us,vs,r,K,h,hx,G,L=>by
  cases g with
  |nil=>simp[GF]at K
  |cons k g=>
   cases xs with
   |nil=>simp[Bg]at h
   |cons x xs=>cases s with
    |nil=>simp[Bg]at h
    |cons y s=>
     simp only[GF,X8,bne_iff_ne,beq_iff_eq]at K;obtain⟨⟨⟨h1,N⟩,S⟩,b⟩:=K;simp only[Bg]at h;cases m:V.eqv k x y with
     |none=>grind
     |some p=>cases e:Bg g xs s with
      |none=>grind
      |some q=>
       simp only[m,e,aS]at h;obtain⟨u,t,a,_,M,n⟩:=hx;obtain⟨v,rv,i,_,c,A⟩:=G;have T:us[j]?=some u:=by
        have:=congrArg (fun l:List Value=>l[0]?) a;simpa[ux] using this
       have o:vs[j]?=some v:=by
        have:=congrArg (fun l:List Value=>l[0]?) i;simpa[ux] using this
       have C:us.toList.drop (j+1)=t:=by
        have:=congrArg (List.drop 1) a;simpa[BA] using this
       have dv:vs.toList.drop (j+1)=rv:=by
        have:=congrArg (List.drop 1) i;simpa[BA] using this
       have B:=CO (d:=d) z g xs s (j+1) us vs q b e aj aj L;simp only[Op.eqFields,if_pos h1];rw[N];simp only[Sem.run_bind,CN S T,CN S o,Result.andThen_ok,QX S M c m];cases p
       .simp_all
       grind
end
section
variable {X:Env} {o:Oper} {a:Act} {w:World} {I:Nat->Prop} {σ:jI} {S S1:St}
theorem Ft(w:World)(d:Nat)(t e:TypeId)(p q:Option Addr)(h:P.underlying t=some (.pointer e))(n:p=none\/q=none):
  (Op.equalIn (d+1) t (.pointer p) (.pointer q)).run P w= .ok (p.isNone&&q.isNone) w:=by
 rcases n with rfl|rfl
 .exact nm
 .cases p<;>simp[Op.equalIn,run_underlying h]
theorem GL(w:World)(t e:TypeId)(p q:Option Addr)(h:P.underlying t=some (.pointer e))(n:p=none\/q=none):
  (Op.equal t (.pointer p) (.pointer q)).run P w= .ok (p.isNone&&q.isNone) w:=Ft w 9999 t e p q h n
theorem Fu(w:World)(d:Nat)(t:TypeId)(h:P.underlying t=some (.interface ms)){a:Bool}{v:Value}(c:vd a u)(i:vd b v)(n:(a&&b)=false):
  (Op.equalIn (d+1) t u v).run P w= .ok (a==b) w:=by
 cases a<;>cases b<;>simp only[vd]at c i
 .subst c;subst i;exact nm
 .obtain⟨_,_,rfl⟩:=i;subst c;exact nm
 .obtain⟨_,_,rfl⟩:=c;subst i;exact nm
 grind
theorem QY(w:World)(t:TypeId)(h:P.underlying t=some (.interface ms)){a:Bool}{v:Value}(c:vd a u)(i:vd b v)(n:(a&&b)=false):
  (Op.equal t u v).run P w= .ok (a==b) w:=Fu w 9999 t h c i n
theorem Zx{ya:List Nat}(B:wX P t ag ya=true){x y:V}{v:Value}(hx:dX w I σ x u)(G:dX w I σ y v)(h:QL ag ya x y=some r)(p q:Operand)(D:ya=[4]-> ∃z,q= .const z):
  (eqGuard .eql t p q u v).run P w= .ok () w/\(eqGuard .neq t p q u v).run P w= .ok () w/\(binOp .eql t u v).run P w= .ok (.bool r) w/\(binOp .neq t u v).run P w= .ok (.bool (!r)) w:=by
 unfold QL at h;split at h
 .rename_i T Z;split at h
  .rename_i N;obtain⟨s,rfl,g⟩:=hx;obtain⟨vs,rfl,j⟩:=G;have X: ∃f,P.underlying t=some (.struct f)/\(ya=[]\/(P.stoodInHeld t=false/\P.eqGuardType P.depth t=false/\GF P 0 f.toList ya=true)):=by
    unfold wX at B;split at B
    .grind
    .grind
    .grind
    .simp[N.1]at B;subst B;cases T with
     |nil=>simp[Bg]at h
     |cons x T=>cases Z with
      |nil=>simp[Bg]at h
      |cons y Z=>cases x<;>cases y<;>simp[Bg,V.eqv]at h
    .grind
    .grind
   obtain⟨f,F,c⟩:=X;rcases c with h0|⟨h1,K,U⟩
   .grind
   .have O:P.fieldsOf t=f:=by simp[Program.fieldsOf,F]
    have C:=CO (d:=9998) f.toList ya T Z 0 s vs r U h (by simpa using g) aj w;have A:(Op.equalIn 10000 t (.agg s) (.agg vs)).run P w= .ok r w:=by
     rw[run_equalIn_struct w 9999 t s vs aj h1,O];exact C
    refine⟨run_eqGuard_agg w .eql t p q s vs K,run_eqGuard_agg w .neq t p q s vs K,?_,?_⟩
    .rw[run_eql_struct,A];rfl
    .rw[run_neq_struct,A];rfl
  grind
 .split at h
  .rename_i E;subst E;simp only[aS]at h;subst h;rw[iJ hx,iJ G];refine⟨gT,gT,by rw[binOp_eql];rfl,by rw[binOp_neq];rfl⟩
  grind
 .split at h
  .rename_i c;simp only[aS]at h;subst h;rw[ve hx,ve G];have S:P.underlying t=some .bool:=by
    unfold wX at B;split at B
    .grind
    .omega
    .grind
    .grind
    .grind
    .grind
   refine⟨gT,gT,?_,?_⟩
   .exact kj
   .exact kj
  grind
 .simp only[aS]at h;subst h;obtain⟨a,rfl,rfl⟩:=tP hx;obtain⟨b,rfl,rfl⟩:=tP G;refine⟨gT,gT,?_,?_⟩
  .simp[binOp,Op.stringOp,toList_eq]
  .simp[binOp,Op.stringOp,toList_eq]
 all_goals first|(cases h;done)|skip
 all_goals
  split at h
  case isFalse=>grind
  rename_i c;simp only[aS]at h;subst h
 case h_8=>
  have S: ∃m,P.underlying t=some (.interface m):=by
   unfold wX at B;split at B
   .grind
   .grind
   .grind
   .grind
   .grind
   .grind
  obtain⟨m,S⟩:=S;obtain⟨z,rfl⟩:=D c.2.1;rename_i a b;have U:=c.2.2;simp only[dX]at hx G;have W: ∀op,(eqGuard op t p (.const z) u v).run P w= .ok () w:=fun op=>by
   cases a<;>cases b<;>simp only[vd]at hx G
   .subst hx;subst G;cases op<;>simp[eqGuard]
   .obtain⟨_,_,rfl⟩:=G;cases op<;>simp[eqGuard]
   .obtain⟨_,_,rfl⟩:=hx;cases op<;>simp[eqGuard]
   grind
  have C:=QY w t S hx G U;have Y:(binOp .eql t u v).run P w= .ok (.bool (a==b)) w:=by
   have:binOp .eql t u v=(do pure (.bool (<-Op.equal t u v))):=by
    cases a<;>cases b<;>simp only[vd]at hx G
    .subst hx;rfl
    .subst hx;rfl
    .obtain⟨_,_,rfl⟩:=hx;rfl
    .grind
   rw[this,Sem.run_bind,C];rfl
  have i:(binOp .neq t u v).run P w= .ok (.bool (!(a==b))) w:=by
   have:binOp .neq t u v=(do pure (.bool (!(<-Op.equal t u v)))):=by
    cases a<;>cases b<;>simp only[vd]at hx G
    .subst hx;rfl
    .subst hx;rfl
    .obtain⟨_,_,rfl⟩:=hx;rfl
    .grind
   rw[this,Sem.run_bind,C];rfl
  grind
 all_goals
  have S: ∃e,P.underlying t=some (.pointer e):=by
   unfold wX at B;split at B
   .grind
   .grind
   .grind
   .grind
   .grind
   .grind
  obtain⟨e,S⟩:=S;first|(obtain⟨b,o,k,_,rfl⟩:=hx)|subst hx
  first|(obtain⟨b,o,k,_,rfl⟩:=G)|subst G
  refine⟨gT,gT,?_,?_⟩
  .exact qf
  .exact qf
theorem VI {op:BinOp}    (e:o.op= .binOp op t x y ty) (B:op= .eql\/op= .neq->wX X.P t (X.ti t).agg (X.ti t).ya=true/\((X.ti t).ya=[4]-> ∃z,y= .const z)) (R:Rel w I σ S.h) (F:jO w I σ S.f a) (hx:oN o)
  (j:uA (X.ti t).agg (X.ti t).ya op (S.ev x) (S.ev y)=some v) (s:S1=S.set o.dst v):Out X o a w I σ S S1:=by
 have h1:dX w I σ (S.ev x) (a.eval x):=fu (S:=S) F (hx x bd);have K:dX w I σ (S.ev y) (a.eval y):=fu (S:=S) F (hx y bd);generalize S.ev x=p at h1 j;generalize S.ev y=q at K j;have i: ∀(f:IntKind->Int->Int->Option V),CG p q f=some v->(∀k m n,p= .int k m->q= .int k n->f k m n=some v-> ∃u,(binOp op t (.int k m) (.int k n)).run X.P w= .ok u w/\dX w I σ v u)->Out X o a w I σ S S1:=by
  intro f h O;unfold CG at h;split at h
  .rename_i k m k' n;split at h
   .rename_i A;subst A;obtain⟨u,c,D⟩:=O k m n rfl rfl h;refine Out.pure (u:=u) R ?_ D s;simp[execOp,e,iJ h1,iJ K,eqGuard_at_int,c]
   grind
  .grind
 cases op with
 |eql=>
  simp only[uA]at j;cases C:QL (X.ti t).agg (X.ti t).ya p q with
  |none=>grind
  |some r=>
   simp only[C,aS]at j;subst j;have:=Zx (B (.inl rfl)).1 h1 K C x y (B (.inl rfl)).2;exact Out.pure (u:= .bool r) R (by simp[execOp,e,this.1,this.2.2.1]) a_ s
 |neq=>
  simp only[uA]at j;cases C:QL (X.ti t).agg (X.ti t).ya p q with
  |none=>grind
  |some r=>
   simp only[C,aS]at j;subst j;have:=Zx (B (.inr rfl)).1 h1 K C x y (B (.inr rfl)).2;exact Out.pure (u:= .bool (!r)) R (by simp[execOp,e,this.2.1,this.2.2.2]) a_ s
 |add=>
  simp only[uA]at j;split at j
  .split at j
   .rename_i l;simp only[aS]at j;subst j;obtain⟨M,G,rfl⟩:=tP h1;obtain⟨b,E,rfl⟩:=tP K;refine Out.pure (u:= .string (M++b)) R ?_ (by exact⟨_,rfl,ai⟩) s;have L: ¬((M.size+b.size:Nat):Int)>IntKind.i64.max:=by
     have Y:M.data.toList.length=M.size:=uy;have g:b.data.toList.length=b.size:=uy;rw[IntKind.max_i64];rw[Y,g]at l;omega
    simp only[execOp,e,G,E,eqGuard_at_string,Sem.run_bind,Sem.run_pure,Result.andThen_ok,binOp,Op.stringOp,if_neg L]
   grind
  .exact i _ j fun k m n _ _ h=>⟨.int k (k.wrap (m+n)),by rw[binOp_add];rfl,aO⟩
 |sub=>exact i _ j fun k m n _ _ h=>⟨.int k (k.wrap (m-n)),by rw[binOp_sub];rfl,aO⟩
 |mul=>exact i _ j fun k m n _ _ h=>⟨.int k (k.wrap (m*n)),by rw[binOp_mul];rfl,aO⟩
 |quo=>
  refine i _ j fun k m n _ _ h=> ?_;split at h
  .grind
  .rename_i W;simp only[aS]at h;subst h;exact⟨.int k (k.wrap (m.tdiv n)),by rw[binOp_quo];simp[Op.intDiv,W],a_⟩
 |rem=>
  refine i _ j fun k m n _ _ h=> ?_;split at h
  .grind
  .rename_i W;simp only[aS]at h;subst h;exact⟨.int k (m.tmod n),by rw[binOp_rem];simp[Op.intDiv,W],a_⟩
 |lss=>exact i _ j fun k m n _ _ h=>⟨.bool (decide (m<n)),by rw[binOp_lss];rfl,aO⟩
 |leq=>exact i _ j fun k m n _ _ h=>⟨.bool (decide (m<=n)),by rw[binOp_leq];rfl,aO⟩
 |gtr=>exact i _ j fun k m n _ _ h=>⟨.bool (decide (n<m)),by rw[binOp_gtr];rfl,aO⟩
 |geq=>exact i _ j fun k m n _ _ h=>⟨.bool (decide (n<=m)),by rw[binOp_geq];rfl,aO⟩
 |shl=>
  simp only[uA]at j;split at j
  .rename_i k m k' n;split at j
   .grind
   .rename_i W;simp only[aS]at j;subst j;refine Out.pure (u:= .int k (k.wrap (m*2^ (min n.toNat k.bits)))) R ?_ a_ s;exact p9
  grind
 |shr=>
  simp only[uA]at j;split at j
  .rename_i k m k' n;split at j
   .grind
   .rename_i W;simp only[aS]at j;subst j;refine Out.pure (u:= .int k (m.fdiv (2^ (min n.toNat k.bits)))) R ?_ a_ s;exact p9
  grind
 |and=>exact i _ j fun k m n _ _ h=>⟨.int k (bits k .and m n),by rw[binOp_and];rfl,aO⟩
 |or=>exact i _ j fun k m n _ _ h=>⟨.int k (bits k .or m n),by rw[binOp_or];rfl,aO⟩
 |xor=>exact i _ j fun k m n _ _ h=>⟨.int k (bits k .xor m n),by rw[binOp_xor];rfl,aO⟩
 |andNot=>exact i _ j fun k m n _ _ h=>⟨.int k (bits k .andNot m n),by rw[binOp_andNot];rfl,aO⟩
end
end Go.Abs
