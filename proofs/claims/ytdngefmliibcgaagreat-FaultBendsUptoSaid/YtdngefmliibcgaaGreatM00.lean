/- Part of a proof: engine A1. -/
import Derived.Calls
set_option linter.all false
set_option maxRecDepth 20000
set_option maxHeartbeats 20000000
namespace Go.Abs
open Go
theorem aa{α:Type _}(a b:α):(some a=some b)=(a=b):=Option.some.injEq a b
theorem ax {α:Type _} {β:Type _} (a:α) (b:β) (c:α) (d:β):((a,b)=(c,d))=(a=c∧b=d):=Prod.mk.injEq a b c d
theorem aQ {α:Type _} {l:List α} {i:Nat} (h:l.length≤i):l.take i=l:=List.take_of_length_le h
inductive V where
 |int (k:IntKind) (n:Int)
 |bool (b:Bool)
 |str (s:List UInt8)
 |agg (cs:List V)
 |cg (vs:List V)
 |sl (clip:Bool) (es:List V)
 |ref (cs:List V)
 |bJ (id start len:Nat)
 |ptr (id i f:Nat)
 |oM
 |D3 (b:Bool)
 |fn (g:FuncId) (first wk:List V)
 |bad
 deriving Inhabited
def V.cells:V→List V
 | .agg cs=>cs
 |v=> [v]
structure Ob where
 k:Nat
 es:List V
 bZ:Bool
 deriving Inhabited
structure TI where
 size:Nat
 bytes:Nat
 agg:Bool
 zero:V
 elem:Nat
 pQ:List (Nat×Nat)
 arr:Option Nat
 kind:Option IntKind
 pS:List Nat
 deriving Inhabited
abbrev aG:=Nat→Option Ob
structure St where
 f:Nat→V
 h:aG
 n:Nat
abbrev dH:=FuncId→List V→aG→Nat→Option (V×aG×Nat)
inductive Loc where
 |box (t:Nat)
 |slot (t:Nat)
 |cell (t j:Nat)
 deriving DecidableEq
structure Gr where
 loc:Loc
 new:Nat
 k:Nat
 bZ:Bool
structure Norm where
 XG:List Nat
 roots:List Gr
 base:Bool
 n:Nat
structure Prim where
 run:dH→List V→Option V
 mono: ∀(c d:dH) auj v,(∀g a h k r,c g a h k=some r→d g a h k=some r)→run c auj=some v→run d auj=some v
 cont: ∀(c:Nat→dH) (d:dH) auj v,(∀n g a h k r,c n g a h k=some r→c (n+1) g a h k=some r)→(∀g a h k r,d g a h k=some r→ ∃n,c n g a h k=some r)→run d auj=some v→ ∃n,run (c n) auj=some v
structure Env where
 P:Program
 ti:TypeId→TI
 nf:FuncId→Nat→Bool
 fg:FuncId→Bool
 dP:FuncId→Bool
 clone:FuncId→Option TypeId
 ki:FuncId→Option Prim
 flat:FuncId→Nat→Bool:=fun _ _=>false
 dX:FuncId→TypeId→Bool
 uG:FuncId→Nat→List (Nat×Nat)
 norm:FuncId→Nat→Option Norm
 low:FuncId→Bool
 mask:FuncId→Nat→List (Nat×Nat×TypeId)
 dI:FuncId→List (Nat×Nat×TypeId)
def aS{α:Type}(f:Nat→α)(t:Nat)(v:α):Nat→α:=fun u=>if u=t then v else f u
def St.set(S:St)(d:Option Nat)(v:V):St:=
 match d with
 |some t=>{S with f:=aS S.f t v}
 |none=>S
def St.new(S:St)(o:Ob):St:={S with h:=aS S.h S.n (some o),n:=S.n+1}
def pU:Value→V
 | .bool b=> .bool b
 | .int k n=> .int k n
 | .string s=> .str s.data.toList
 | .pointer none=> .oM
 | .nilIface=> .D3 false
 | .slice none 0 0=> .sl true []
 |_=> .bad
def pj:Value→V
 | .agg cs=> .agg (cs.toList.map pU)
 |v=>pU v
def St.ev(S:St):Operand→V
 | .tmp t=>S.f t
 | .const v=>pj v
 | .func g=> .fn g [] []
 | .global _=> .bad
def aY{α:Type}:List (Option α)→Option (List α)
 | []=>some []
 |none::_=>none
 |some a::r=>match aY r with|some l=>some (a::l)|none=>none
mutual
def V.fo:V→V
 | .sl _ es=> .sl false (cG es)
 | .agg cs=> .agg (cG cs)
 | .cg cs=> .cg (cG cs)
 |v=>v
def cG:List V→List V
 | []=> []
 |c::cs=>c.fo::cG cs
end
def aX(h:aG):Nat→V→Option V
 |_,.int k n=>some (.int k n)
 |_,.bool b=>some (.bool b)
 |_,.str s=>some (.str s)
 |_,.sl c es=>some (.sl c es)
 |_,.oM=>some .oM
 |_,.D3 b=>some (.D3 b)
 |_,.fn g [] []=>some (.fn g [] [])
 |d+1,.agg cs=>match aY (cs.map (aX h d)) with|some l=>some (.agg l)|none=>none
 |d+1,.cg cs=>match aY (cs.map (aX h d)) with|some l=>some (.cg l)|none=>none
 |d+1,.bJ id s l=>
  match h id with
  |some o=>
   if s+l≤o.es.length then
    if o.bZ then match aY (((o.es.drop s).take l).map (aX h d)) with|some l=>some (.sl false l)|none=>none
    else some (.sl false ((o.es.drop s).take l))
   else none
  |none=>none
 |_,_=>none
def depth:Nat:=12
def V.jW:V→Bool
 | .int .. =>true
 | .bool _=>true
 | .str _=>true
 | .sl .. =>true
 | .oM=>true
 | .D3 _=>true
 | .fn _ [] []=>true
 |_=>false
def V.HK:V→Bool
 | .agg cs=>cs.all V.jW
 |v=>v.jW
def jG(h:aG)(v:V):Option (V×aG):=
 match v with
 | .bJ id s l=>match h id with
  |some ob=>if(!ob.bZ||ob.es.all V.HK)&&decide (s+l≤ob.es.length) then some ((V.sl false ((ob.es.drop s).take l)).fo,aS h id none) else none
  |none=>none
 |v=>if v.jW then some (v.fo,h) else none
def hZ(h:aG):List V→Option (List V×aG)
 | []=>some ([],h)
 |c::cs=>match jG h c with
  |some (c',h1)=>match hZ h1 cs with
   |some (lH,h2)=>some (c'::lH,h2)
   |none=>none
  |none=>none
def kE(h:aG)(v:V):Option (V×aG):=
 match v with
 | .agg cs=>match hZ h cs with|some (lH,h')=>some (.agg lH,h')|none=>none
 |v=>jG h v
def gp(h:aG):List (Nat×V)→Option (List (Nat×V)×aG)
 | []=>some ([],h)
 |(i,v)::r=>match kE h v with
  |some (v',h1)=>match gp h1 r with
   |some (r',h2)=>some ((i,v')::r',h2)
   |none=>none
  |none=>none
def V.leaf:V→Bool
 | .int .. =>true
 | .bool _=>true
 | .str _=>true
 | .oM=>true
 | .D3 _=>true
 |_=>false
def V.qK:V→Bool
 | .agg cs=>cs.all V.leaf
 |v=>v.leaf
def V.scalar:V→Bool
 | .cg vs=>vs.all V.qK
 |v=>v.qK
def V.B4:V→Bool
 | .bJ .. =>true
 |_=>false
def V.qB:V→Bool
 | .agg cs=>cs.any V.B4
 | .cg _=>true
 |v=>v.B4
def gf:Nat→List V→List V→List V
 |0,[],xs=>xs
 |0,c::cs,_::xs=>c::gf 0 cs xs
 |0,_::_,[]=> []
 |n+1,cs,x::xs=>x::gf n cs xs
 |_+1,_,[]=> []
def V.put(e:V)(f:Nat)(v:V):V:=
 match e with
 | .agg xs=> .agg (gf f v.cells xs)
 |_=>v
def part(t:TI)(cs:List V)(f:Nat):Option V:=
 if t.agg then(if f+t.size≤cs.length then some (.agg ((cs.drop f).take t.size)) else none) else cs[f]?
def V.eqv(kd:Nat):V→V→Option Bool
 | .int k a,.int k' b=>if k=k'∧kd=0 then some (a==b) else none
 | .bool a,.bool b=>if kd=1 then some (a==b) else none
 | .str a,.str b=>if kd=2 then some (a==b) else none
 |_,_=>none
def sh:List Nat→List V→List V→Option Bool
 | [],[],[]=>some true
 |k::ks,x::xs,y::ys=>match V.eqv k x y,sh ks xs ys with|some a,some b=>some (a&&b)|_,_=>none
 |_,_,_=>none
def D9(ag:Bool)(pS:List Nat):V→V→Option Bool
 | .agg xs,.agg ys=>if ag=true∧pS≠ [] then sh pS xs ys else none
 | .int k a,.int k' b=>if k=k' then some (a==b) else none
 | .bool a,.bool b=>if ag=false∧pS=[1] then some (a==b) else none
 | .str a,.str b=>some (a==b)
 | .oM,.oM=>if ag=false∧pS=[3] then some true else none
 | .oM,.ptr .. =>if ag=false∧pS=[3] then some false else none
 | .ptr ..,.oM=>if ag=false∧pS=[3] then some false else none
 | .D3 a,.D3 b=>if ag=false∧pS=[4]∧(a&&b)=false then some (a==b) else none
 |_,_=>none
def bits(k:IntKind)(op:BinOp)(x y:Int):Int:=
 match op with
 | .and=>k.wrap (BitVec.ofInt k.bits x&&&BitVec.ofInt k.bits y).toNat
 | .or=>k.wrap (BitVec.ofInt k.bits x|||BitVec.ofInt k.bits y).toNat
 | .xor=>k.wrap (BitVec.ofInt k.bits x^^^BitVec.ofInt k.bits y).toNat
 |_=>k.wrap (BitVec.ofInt k.bits x&&& ~~~ BitVec.ofInt k.bits y).toNat
def tP(x y:V)(f:IntKind→Int→Int→Option V):Option V:=
 match x,y with
 | .int k a,.int k' b=>if k=k' then f k a b else none
 |_,_=>none
def mL(ag:Bool)(pS:List Nat)(op:BinOp)(x y:V):Option V:=
 match op with
 | .eql=>match D9 ag pS x y with|some b=>some (.bool b)|none=>none
 | .neq=>match D9 ag pS x y with|some b=>some (.bool (!b))|none=>none
 | .add=>match x,y with
  | .str a,.str b=>if a.length+b.length≤2^62 then some (.str (a++b)) else none
  |x,y=>tP x y fun k a b=>some (.int k (k.wrap (a+b)))
 | .sub=>tP x y fun k a b=>some (.int k (k.wrap (a-b)))
 | .mul=>tP x y fun k a b=>some (.int k (k.wrap (a*b)))
 | .quo=>tP x y fun k a b=>if b=0 then none else some (.int k (k.wrap (a.tdiv b)))
 | .rem=>tP x y fun k a b=>if b=0 then none else some (.int k (a.tmod b))
 | .lss=>tP x y fun _ a b=>some (.bool (decide (a<b)))
 | .leq=>tP x y fun _ a b=>some (.bool (decide (a≤b)))
 | .gtr=>tP x y fun _ a b=>some (.bool (decide (b<a)))
 | .geq=>tP x y fun _ a b=>some (.bool (decide (b≤a)))
 | .shl=>match x,y with| .int k a,.int _ b=>if b<0 then none else some (.int k (k.wrap (a*2^ (min b.toNat k.bits))))|_,_=>none
 | .shr=>match x,y with| .int k a,.int _ b=>if b<0 then none else some (.int k (a.fdiv (2^ (min b.toNat k.bits))))|_,_=>none
 |op=>tP x y fun k a b=>some (.int k (bits k op a b))
def TT(op:UnOp)(x:V):Option V:=
 match op,x with
 | .neg,.int k n=>some (.int k (k.wrap (0-n)))
 | .not,.bool b=>some (.bool (!b))
 |_,_=>none
def elems(h:aG):V→Option (List V×Bool)
 | .sl _ es=>some (es,false)
 | .bJ id s l=>match h id with|some o=>if s+l≤o.es.length then some ((o.es.drop s).take l,o.bZ) else none|none=>none
 | .str s=>some (s.map fun b=> .int .u8 b.toNat,false)
 |_=>none
def byteOf:V→Option UInt8
 | .int .u8 n=>some (UInt8.ofNat n.toNat)
 |_=>none
def bytesOf(es:List V):Option (List UInt8):=aY (es.map byteOf)
def AW:V→Option Nat
 | .sl _ es=>some es.length
 | .bJ _ _ l=>some l
 | .str s=>some s.length
 |_=>none
def V.isStr:V→Bool
 | .str _=>true
 |_=>false
def V.tQ:V→Bool
 | .ptr .. =>true
 |_=>false
def TI.isStr(t:TI):Bool:=t.pS==[2]
def V.fits(v:V)(k:Nat):Bool:=
 match v with
 | .agg cs=>cs.length==k
 | .cg _=>false
 | .bad=>false
 |_=>k==1
def qx(Ea:List (Nat×Nat))(cs:List V):List (Nat×V)→Option (List V)
 | []=>some cs
 |(i,v)::r=>match Ea[i]? with
  |some (o,k)=>if v.fits k&&decide (o+k≤cs.length) then qx Ea (gf o v.cells cs) r else none
  |none=>none
def kP(k:Nat)(es:List V):List (Nat×V)→Option (List V)
 | []=>some es
 |(i,v)::r=>if v.fits k&&decide (i<es.length) then kP k (es.set i v) r else none
def KY(d:Nat)(v:Option V)(m:Nat):Option Nat:=
 match v with
 |none=>some d
 |some (.int _ n)=>if 0≤n∧n≤m then some n.toNat else none
 |some _=>none
def bounds(lo hi:Option V)(len:Nat):Option (Nat×Nat):=
 match KY len hi len with
 |some h=>match KY 0 lo h with
  |some l=>some (l,h)
  |none=>none
 |none=>none
def zT(b:Bool)(k:Option IntKind)(h:aG)(n:Nat):V→Option (V×aG×Nat)
 | .str s=>if b=false∧k=some .u8∧s.length≤2^62 then some (.bJ n 0 s.length,aS h n (some ⟨1,s.map fun c=> .int .u8 c.toNat,false⟩),n+1) else none
 |_=>none
theorem nz{b:Bool}{k:Option IntKind}{h h1:aG}{n n1:Nat}{v v1:V}(he:zT b k h n v=some (v1,h1,n1)):
  b=false∧k=some .u8∧ ∃s,v= .str s∧s.length≤2^62∧v1= .bJ n 0 s.length∧h1=aS h n (some ⟨1,s.map fun c=> .int .u8 c.toNat,false⟩)∧n1=n+1:=by
 cases v with
 |str s=>
  simp only[zT]at he;split at he
  ·rename_i hc;simp only[aa,ax]at he;obtain⟨rfl,rfl,rfl⟩:=he;exact⟨hc.1,hc.2.1,s,rfl,hc.2.2,rfl,rfl,rfl⟩
  ·cases he
 |_=>cases he
def aR(X:Env)(aP:FuncId)(o:Oper)(ρ:Operand→V)(h0:aG)(n0:Nat):Option (V×aG×Nat):=
 match o.op with
 | .move x=>some ((ρ x),h0,n0)
 | .assign x=>some ((ρ x),h0,n0)
 | .pick c a b=>match ρ c with| .bool t=>some ((if t then ρ a else ρ b),h0,n0)|_=>none
 | .alloc t=>some ((.ptr n0 0 0),aS h0 n0 (some ⟨(X.ti t).size,[(X.ti t).zero],true⟩),n0+1)
 | .box t x=>if(ρ x).fits (X.ti t).size then some ((.ptr n0 0 0),aS h0 n0 (some ⟨(X.ti t).size,[ρ x],true⟩),n0+1) else none
 | .build t ps=>
  match(X.ti t).arr with
  |none=>if(X.ti t).pQ=[] then none else match qx (X.ti t).pQ (X.ti t).zero.cells (ps.toList.map fun p=>(p.1,ρ p.2)) with
   |some cs=>some ((.agg cs),h0,n0)
   |none=>none
  |some m=>match qx ((List.range m).map fun i=>(i*(X.ti (X.ti t).elem).size,(X.ti (X.ti t).elem).size)) (X.ti t).zero.cells (ps.toList.map fun p=>(p.1,ρ p.2)) with
   |some cs=>some ((.agg cs),h0,n0)
   |none=>none
 | .buildSlice t n ps=>
  let e:=(X.ti t).elem
  if X.dX aP e then
   match kP (X.ti e).size (List.replicate n (X.ti e).zero) (ps.toList.map fun p=>(p.1,ρ p.2)) with
   |some es=>some ((.bJ n0 0 n),aS h0 n0 (some ⟨(X.ti e).size,es,true⟩),n0+1)
   |none=>none
  else if o.dst.any (X.flat aP) then
   match gp (fun _=>none) (ps.toList.map fun p=>(p.1,ρ p.2)) with
   |some (l,_)=>match kP (X.ti e).size (List.replicate n (X.ti e).zero) l with
    |some es=>some ((.sl true es),h0,n0)
    |none=>none
   |none=>none
  else
  match gp h0 (ps.toList.map fun p=>(p.1,ρ p.2)) with
  |some (l,h)=>
   match kP (X.ti e).size (List.replicate n (X.ti e).zero) l with
   |some es=>
    if o.dst.any (X.nf aP) then some ((.bJ n0 0 n),aS (h) n0 (some ⟨(X.ti e).size,es,false⟩),n0+1)
    else some ((.sl true es),h,n0)
   |none=>none
  |none=>none
 | .load t a=>match ρ a with
  | .ptr id i f=>match h0 id with
   |some ob=>match ob.es[i]? with
    |some e=>match part (X.ti t) e.cells f with|some v=>some (v,h0,n0)|none=>none
    |none=>none
   |none=>none
  | .ref cs=>match part (X.ti t) cs 0 with|some v=>some (v,h0,n0)|none=>none
  |_=>none
 | .store t a x=>match ρ a with
  | .ptr id i f=>match h0 id with
   |some ob=>
    match(if ob.bZ then some (ρ x,h0) else kE h0 (ρ x)) with
    |some (v,h)=>match h id with
     |some ob=>match ob.es[i]? with
      |some e=>if v.fits (X.ti t).size&&decide (f+(X.ti t).size≤e.cells.length) then some (.bad,aS h id (some {ob with es:=ob.es.set i (e.put f v)}),n0) else none
      |none=>none
     |none=>none
    |none=>none
   |none=>none
  |_=>none
 | .nilCheck x=>match ρ x with
  | .ptr id i f=>some ((.ptr id i f),h0,n0)
  | .ref cs=>some ((.ref cs),h0,n0)
  | .fn g a b=>some ((.fn g a b),h0,n0)
  |_=>none
 | .binOp op t x y _=>match mL (X.ti t).agg (X.ti t).pS op (ρ x) (ρ y) with|some v=>some (v,h0,n0)|none=>none
 | .unOp op _ x=>match TT op (ρ x) with|some v=>some (v,h0,n0)|none=>none
 | .convert _ d x=>match(X.ti d).kind,ρ x with
  |some k,.int _ n=>some ((.int k (k.wrap n)),h0,n0)
  |none,v=>if(X.ti d).isStr=true∧v.isStr=false then(match elems h0 v with
   |some (es,_)=>match bytesOf es with
    |some s=>some (.str s,h0,n0)
    |none=>none
   |none=>none) else zT (X.ti d).isStr (X.ti (X.ti d).elem).kind h0 n0 v
  |_,_=>none
 | .makeFunc (.func g) a b=>some ((.fn g (a.toList.map ρ) (b.toList.map ρ)),h0,n0)
 | .makeSlice t l c=>match ρ l,ρ c with
  | .int _ n,.int _ m=>if 0≤n∧n≤m∧m*(X.ti (X.ti t).elem).bytes≤2^47∧m≤2^62 then
    some ((.bJ n0 0 n.toNat),aS h0 n0 (some ⟨(X.ti (X.ti t).elem).size,List.replicate n.toNat (X.ti (X.ti t).elem).zero,X.dX aP (X.ti t).elem⟩),n0+1) else none
  |_,_=>none
 | .slice t x lo hi mx=>
  if(ρ x).isStr=(X.ti t).isStr∧(ρ x).tQ=(X.ti t).arr.isSome then
   match ρ x with
   | .sl _ es=>
    if es.all (fun e=>e.cells.length==(X.ti (X.ti t).elem).size) then
     match mx with
     |none=>match bounds (lo.map ρ) (hi.map ρ) es.length with|some (l,h)=>some ((.sl false ((es.take h).drop l)),h0,n0)|none=>none
     |some m=>match ρ m,hi.map ρ with
      | .int _ p,some (.int _ q)=>if p=q then(match bounds (lo.map ρ) (hi.map ρ) es.length with|some (l,h)=>some ((.sl true ((es.take h).drop l)),h0,n0)|none=>none) else none
      |_,_=>none
    else none
   | .bJ id s n=>
    match mx,h0 id with
    |none,some ob=>if ob.k=(X.ti (X.ti t).elem).size then(match bounds (lo.map ρ) (hi.map ρ) n with|some (l,h)=>some ((.bJ id (s+l) (h-l)),h0,n0)|none=>none) else none
    |some m,some ob=>if ob.k=(X.ti (X.ti t).elem).size then(match ρ m,hi.map ρ with
      | .int _ p,some (.int _ q)=>if p=q then(match bounds (lo.map ρ) (hi.map ρ) n with|some (l,h)=>some ((.bJ id (s+l) (h-l)),h0,n0)|none=>none) else none
      |_,_=>none) else none
    |_,none=>none
   | .str s=>match mx with
    |none=>match bounds (lo.map ρ) (hi.map ρ) s.length with|some (l,h)=>some ((.str ((s.take h).drop l)),h0,n0)|none=>none
    |some _=>none
   | .ptr id 0 0=>match mx,lo,hi,(X.ti t).arr,h0 id with
    |none,none,none,some m,some ob=>match ob.es with
     | [e]=>if e.cells.all V.jW=true∧e.cells.length=m∧(X.ti (X.ti t).elem).size=1∧0<m then some (.sl true e.cells,aS h0 id none,n0) else none
     |_=>none
    |_,_,_,_,_=>none
   |_=>none
  else none
 | .fieldAddr t x i=>match(X.ti t).pQ[i]? with
  |some (off,_)=>match ρ x with
   | .ptr id j f=>some ((.ptr id j (f+off)),h0,n0)
   | .ref cs=>some ((.ref (cs.drop off)),h0,n0)
   |_=>none
  |none=>none
 | .indexAddr t x ix=>match ρ ix with
  | .int _ n=>match ρ x with
   | .sl _ es=>if(0≤n∧n<es.length)∧(X.ti t).arr=none then(match es[n.toNat]? with|some e=>if e.cells.length=(X.ti (X.ti t).elem).size then some ((.ref e.cells),h0,n0) else none|none=>none) else none
   | .bJ id s l=>if(0≤n∧n<l)∧(X.ti t).arr=none then(match h0 id with|some ob=>if ob.k=(X.ti (X.ti t).elem).size then some ((.ptr id (s+n.toNat) 0),h0,n0) else none|none=>none) else none
   | .ptr id j f=>match(X.ti t).arr with
    |some m=>if 0≤n∧n<m then some ((.ptr id j (f+n.toNat*(X.ti (X.ti t).elem).size)),h0,n0) else none
    |none=>none
   |_=>none
  |_=>none
 | .index t x ix=>match ρ ix with
  | .int _ n=>match ρ x with
   | .str s=>if 0≤n∧(X.ti t).arr=none then(match s[n.toNat]? with|some b=>some ((.int .u8 b.toNat),h0,n0)|none=>none) else none
   | .agg cs=>match(X.ti t).arr with
    |some m=>if 0≤n∧n<m then(match part (X.ti (X.ti t).elem) cs (n.toNat*(X.ti (X.ti t).elem).size) with|some v=>some (v,h0,n0)|none=>none) else none
    |none=>none
   |_=>none
  |_=>none
 | .field t x f=>match ρ x with
  | .agg cs=>match(X.ti t).pQ[f]? with
   |some (k,_)=>match part (X.ti o.type) cs k with|some v=>some (v,h0,n0)|none=>none
   |none=>none
  |_=>none
 | .extract x i=>match ρ x with
  | .cg vs=>match vs[i]? with|some v=>some (v,h0,n0)|none=>none
  |_=>none
 | .call ⟨.builtin .len,args,gq⟩=>match args.toList.map ρ with
  | [x]=>if x.isStr=(X.ti (gq.getD 0 0)).isStr then(match AW x with|some n=>some ((.int .i64 n),h0,n0)|none=>none) else none
  |_=>none
 | .call ⟨.builtin .min,args,_⟩=>match args.toList.map ρ with
  | [.int k a,.int k' b]=>if k=k' then some ((.int k (if b<a then b else a)),h0,n0) else none
  |_=>none
 | .call ⟨.builtin .max,args,_⟩=>match args.toList.map ρ with
  | [.int k a,.int k' b]=>if k=k' then some ((.int k (if b>a then b else a)),h0,n0) else none
  |_=>none
 | .call ⟨.builtin .append,args,gq⟩=>match args.toList.map ρ with
  | [s,x]=>match elems h0 s,elems h0 x with
   |some (es,kb),some (xs,kx)=>
    let e:=(X.ti (gq.getD 0 0)).elem;let kp:=X.dX aP e
    if((kb||kx)&& !kp)|| !(xs.all fun v=>v.cells.length==(X.ti e).size)||(X.ti (gq.getD 1 0)).kind.isSome then none else
    if(es.length+xs.length)*(X.ti e).bytes≤2^47∧es.length+xs.length≤2^62 then
     match s with
     | .sl true []=>some ((.bJ n0 0 xs.length),aS h0 n0 (some ⟨(X.ti e).size,xs,kp⟩),n0+1)
     | .sl true _=>if kx|| !(es.all fun v=>v.cells.length==(X.ti e).size) then none else some ((.sl false (es++xs)),h0,n0)
     | .bJ id _ _=>match h0 id with
      |some ob=>if ob.k=(X.ti e).size then some ((.bJ n0 0 (es.length+xs.length)),aS (aS h0 id none) n0 (some ⟨(X.ti e).size,es++xs,kp⟩),n0+1) else none
      |none=>none
     |_=>none
    else none
   |_,_=>none
  |_=>none
 | .call ⟨.builtin .copy,args,gq⟩=>match args.toList.map ρ with
  | [.bJ id s l,x]=>match h0 id,elems h0 x with
   |some ob,some (xs,kx)=>
    if x.isStr||(kx&& !ob.bZ)|| !(xs.all fun v=>v.cells.length==ob.k) then none else
    if s+l≤ob.es.length∧ob.k=(X.ti (X.ti (gq.getD 0 0)).elem).size then
     some ((.int .i64 (min xs.length l:Nat)),aS h0 id (some {ob with es:=ob.es.take s++xs.take (min xs.length l)++ob.es.drop (s+min xs.length l)}),n0)
    else none
   |_,_=>none
  |_=>none
 |_=>none
def PO(X:Env)(aP:FuncId)(o:Oper)(S:St):Option St:=
 match aR X aP o S.ev S.h S.n with
 |some (v,h,n)=>some (({S with h:=h,n:=n}:St).set o.dst v)
 |none=>none
def V.KZ:V→Bool
 | .int .. =>true
 | .bool _=>true
 | .str _=>true
 | .sl _ es=>es.isEmpty
 | .oM=>true
 | .D3 _=>true
 | .bJ .. =>true
 | .ptr .. =>true
 | .bad=>true
 | .fn _ [] []=>true
 |_=>false
def V.B5:V→Bool
 | .agg cs=>cs.all V.KZ
 |v=>v.KZ
def V.pu:V→Bool
 | .cg vs=>vs.all V.B5
 |v=>v.B5
def iy:Option Ob→Option Ob
 |some ob=>if ob.es.all V.B5 then some ob else none
 |none=>none
def V.cellAt(v:V)(i j:Nat):V:=
 match v with
 | .cg vs=>(vs.getD i .bad).cells.getD j .bad
 |v=>if i=0 then v.cells.getD j .bad else .bad
def lL(F:Nat→V→V):Nat→List V→List V
 |_,[]=> []
 |j,c::cs=>F j c::lL F (j+1) cs
def oz(F:Nat→V→V):V→V
 | .agg cs=> .agg (lL F 0 cs)
 |v=>F 0 v
def pV(F:Nat→Nat→V→V):V→V
 | .cg vs=> .cg (lL (fun i v=>oz (F i) v) 0 vs)
 |v=>oz (F 0) v
def V.src:V→Option Nat
 | .bJ id _ _=>some id
 |_=>none
def differ:Option Nat→Option Nat→Bool
 |some a,some b=>a !=b
 |_,_=>true
def oN:List (Option Nat)→Bool
 | []=>true
 |a::r=>r.all (differ a)&&oN r
def cP(h:aG):List (Option Nat)→aG
 | []=>h
 |some id::r=>aS (cP h r) id none
 |none::r=>cP h r
def rowAt(X:Env)(h hx:aG)(t:TypeId)(c:V):Option (List V):=
 match c with
 | .sl true []=>some []
 | .bJ id s l=>match h id with
  |some ob=>if ob.k=(X.ti t).size∧s+l≤ob.es.length then match aY (((ob.es.drop s).take l).map (aX hx depth)) with
    |some es=>some (cG es)
    |none=>none
   else none
  |none=>none
 |_=>none
abbrev Mask:=List (Nat×Nat×TypeId)
def iz:Nat→Mask→Nat→Nat→Option (Nat×TypeId)
 |_,[],_,_=>none
 |n,(a,b,t)::r,i,j=>if a=i∧b=j then some (n,t) else iz (n+1) r i j
def gh(X:Env)(h hx:aG)(m:Mask)(i j:Nat)(c:V):V:=
 match iz 0 m i j with
 |some (_,t)=>match rowAt X h hx t c with
  |some es=> .sl false es
  |none=> .bad
 |none=>match aX hx depth c with
  |some c'=>c'.fo
  |none=> .bad
def dd(v:V)(m:Mask):List (Option Nat):=m.map fun q=>(v.cellAt q.1 q.2.1).src
def tR(X:Env)(h hx:aG)(v:V)(m:Mask):Option V:=
 if oN (dd v m)&&m.all (fun q=>(rowAt X h hx q.2.2 (v.cellAt q.1 q.2.1)).isSome) then some (pV (gh X h hx m) v) else none
def Eb(X:Env)(h:aG)(v:V)(m:Mask):Option V:=tR X h (cP h (dd v m)) v m
def oO(n:Nat)(m:Mask):V→V:=pV fun i j c=>
 match iz n m i j with
 |some (q,_)=>match c with
  | .sl _ es=> .bJ q 0 es.length
  |_=> .bad
 |none=>c
def tS(X:Env)(kp:TypeId→Bool)(R:V)(q:Nat×Nat×TypeId):Option Ob:=
 match R.cellAt q.1 q.2.1 with
 | .sl _ es=>some ⟨(X.ti q.2.2).size,es,kp q.2.2⟩
 |_=>none
def qC(X:Env)(kp:TypeId→Bool)(R:V):Nat→Mask→aG→aG
 |_,[],h=>h
 |n,q::m,h=>aS (qC X kp R (n+1) m h) n (tS X kp R q)
def kq(h:aG):List V→Option (List V×aG)
 | []=>some ([],h)
 |v::r=>match kE h v with
  |some (v',h1)=>match kq h1 r with
   |some (r',h2)=>some (v'::r',h2)
   |none=>none
  |none=>none
def kU(e v:V):V:=
 match v with
 | .cg vs=> .cg (e::vs)
 |v=> .cg [e,v]
def su(v:V)(vs:List V):V:=
 match v with
 | .cg _=> .cg vs
 |_=>vs.headD .bad
def lS(X:Env)(aP:FuncId)(dst:Option Nat)(g:FuncId):Mask:=X.dI g++(dst.elim [] (X.mask aP)).map fun q=>(q.1+1,q.2.1,q.2.2)
def wX(X:Env)(M:Mask)(v:V)(h:aG):Option (Nat×V×List V):=
 match h 0 with
 |some ja=>
  match ja.es with
  | [e']=>if ja.bZ then
    match Eb X (aS h 0 none) (kU e' v) M with
    |some (.cg (r::rs))=>some (ja.k,r,rs)
    |_=>none
   else none
  |_=>none
 |none=>none
def jB(X:Env)(g:FuncId)(k:Nat)(R:V):aG:=qC X (X.dX g) R 1 (X.dI g) (aS (fun _=>none) 0 (some ⟨k,[oO 1 (X.dI g) R],true⟩))
def wY:V→V
 | .cg (v::_)=>v
 |_=> .bad
def Gv:V→List V
 | .cg (_::vs)=>vs
 |_=> []
def oP(X:Env)(call:dH)(aP:FuncId)(dst:Option Nat)(g:FuncId)(args:List V)(S:St):Option St:=
 match args with
 | .ptr id 0 0::rest=>
  match S.h id with
  |some ob=>
   match ob.es with
   | [e]=>
    if ob.bZ then
     match tR X (aS S.h id none) (fun _=>none) e (X.dI g) with
     |some R=>
      match kq (cP (aS S.h id none) (dd e (X.dI g))) rest with
      |some (auj,h1)=>
       match call g (.ptr 0 0 0::auj) (jB X g ob.k R) (1+(X.dI g).length) with
       |some (v,h,_)=>
        match wX X (lS X aP dst g) v h with
        |some (k',r,rs)=>
         some ((⟨S.f,qC X (X.dX aP) (.cg (r::rs)) S.n (lS X aP dst g) (aS h1 id (some ⟨k',[wY (oO S.n (lS X aP dst g) (.cg (r::rs)))],true⟩)),S.n+(lS X aP dst g).length⟩:St).set dst
          (su v (Gv (oO S.n (lS X aP dst g) (.cg (r::rs))))))
        |none=>none
       |none=>none
      |none=>none
     |none=>none
    else none
   |_=>none
  |none=>none
 |_=>none
def iA(X:Env)(call:dH)(aP:FuncId)(dst:Option Nat)(g:FuncId)(args:List V)(S:St):Option St:=
 match kq S.h args with
 |some (auj,h1)=>
  match call g auj (fun _=>none) 0 with
  |some (v,h,_)=>
   match Eb X h v (dst.elim [] (X.mask aP)) with
   |some r=>some ((⟨S.f,qC X (X.dX aP) r S.n (dst.elim [] (X.mask aP)) h1,S.n+(dst.elim [] (X.mask aP)).length⟩:St).set dst (oO S.n (dst.elim [] (X.mask aP)) r))
   |none=>none
  |none=>none
 |none=>none
def kV(X:Env)(call:dH)(g:FuncId)(auj:List V):Option (V×aG×Nat):=
 match X.ki g with
 |some pr=>match pr.run call auj with
  |some v=>some (v,fun _=>none,0)
  |none=>none
 |none=>call g auj (fun _=>none) 0
def cX(X:Env)(call:dH)(aP:FuncId)(dst:Option Nat)(g:FuncId)(args:List V)(S:St):Option St:=
 match X.clone g with
 |some t=>
  match args with
  | [s]=>match elems S.h s with
   |some (es,kx)=>if s.isStr||(kx&& !X.dX aP (X.ti t).elem)|| !(es.all fun v=>v.cells.length==(X.ti (X.ti t).elem).size)|| !decide (es.length*(X.ti (X.ti t).elem).bytes≤2^47∧es.length≤2^62) then none else some ((S.new ⟨(X.ti (X.ti t).elem).size,es,X.dX aP (X.ti t).elem⟩).set dst (.bJ S.n 0 es.length))
   |none=>none
  |_=>none
 |none=>
 if X.fg g&& !X.low g then
  match call g args S.h S.n with
  |some (v,h,n)=>some (({S with h:=h,n:=n}:St).set dst v)
  |none=>none
 else if X.dP g then oP X call aP dst g args S
 else if !(dst.elim [] (X.mask aP)).isEmpty then iA X call aP dst g args S
 else
  match aY (args.map (aX S.h depth)) with
  |some auj=>
   if dst.any (X.nf aP)&& !X.low g then
    match call g (cG auj) (fun _=>none) S.n with
    |some (v,h,n)=>if args.any V.qB&& !v.pu then none else some (({S with h:=fun id=>if id<S.n then S.h id else if args.any V.qB then iy (h id) else h id,n:=n}:St).set dst v)
    |none=>none
   else
    match kV X call g (cG auj) with
    |some (v,h,_)=>match aX h depth v with
     |some v=>if args.any V.qB&& !v.scalar then none else some (S.set dst v.fo)
     |none=>none
    |none=>none
  |none=>none
def cw(X:Env)(call:dH)(aP:FuncId)(n0 j:Nat)(o:Oper)(S:St):Option St:=
 match o.op with
 | .call ⟨.value x,args,_⟩=>
  match S.ev x with
  | .fn g first wk=>cX X call aP o.dst g (first++args.toList.map S.ev++wk) S
  |_=>none
 |_=>
  match aR X aP o S.ev S.h (n0+j) with
  |some (v,h,_)=>some (({S with h:=h}:St).set o.dst v)
  |none=>none
def cQ(X:Env)(call:dH)(aP:FuncId)(bm:List (Option Nat))(n0:Nat):Nat→List Oper→St→Option St
 |_,[],S=>some S
 |k,o::r,S=>
  match o.guard with
  |none=>match cw X call aP n0 k o S with|some S1=>cQ X call aP bm n0 (k+1) r S1|none=>none
  |some (j,want)=>
   match bm[j]? with
   |some (some d)=>match S.f d with
    | .bool b=>if b=want then(match cw X call aP n0 k o S with|some S1=>cQ X call aP bm n0 (k+1) r S1|none=>none) else cQ X call aP bm n0 (k+1) r (S.set o.dst (.cg []))
    | .cg []=>cQ X call aP bm n0 (k+1) r (S.set o.dst (.cg []))
    |_=>none
   |_=>none
inductive Ex where
 |normal
 |exit (id:Nat)
 |ret
 deriving DecidableEq
def iH(X:Env)(rs:List ResultVar)(S:St):Option V:=
 match aY (rs.map fun
  | .tmp t=>some (S.f t)
  | .cell a t=>match S.f a with
   | .ptr id i f=>match S.h id with
    |some ob=>match ob.es[i]? with
     |some e=>part (X.ti t) e.cells f
     |none=>none
    |none=>none
   |_=>none) with
 |some [v]=>some v
 |some vs=>some (.cg vs)
 |none=>none
def kF(args:List V):Nat→V:=fun t=>match args[t]? with|some v=>v|none=> .bad
abbrev Ev:=FuncId→Code→St→Option (Ex×St)
def pk(X:Env)(rs:List ResultVar):Option (Ex×St)→Option (V×aG×Nat)
 |some (.normal,S)=>match iH X rs S with|some v=>some (v,S.h,S.n)|none=>none
 |some (.ret,S)=>match iH X rs S with|some v=>some (v,S.h,S.n)|none=>none
 |_=>none
def bz(X:Env)(E:Ev):dH:=fun g args h k=>
 match X.ki g with
 |some _=>none
 |none=>match X.P.funcs[g]? with
  |some fn=>match fn.body with
   |some b=>pk X fn.results.toList (E g b ⟨kF args,h,k⟩)
   |none=>none
  |none=>none
def zU(bm:List (Option Nat))(o:Oper)(S1:St):Prop:=
 match o.guard with
 |some (j,want)=>(match bm[j]? with
  |some (some d)=>S1.f d= .cg []∨S1.f d= .bool (!want)
  |_=>False)
 |none=>False
def fW(X:Env)(call:dH)(aP:FuncId)(ops:List Oper)(n0:Nat)(S0 S1:St)(l:List (Nat×Nat)):Prop:=
 ∀q∈l,(∃o,ops[q.1]?=some o∧zU (ops.map (·.dst)) o S1)∨(∃o T v,ops[q.1]?=some o∧cQ X call aP (ops.map (·.dst)) n0 0 (ops.take q.2) S0=some T∧
  aR X aP o S1.ev T.h (n0+q.1)=some (v,T.h,n0+q.1)∧ ∀d,o.dst=some d→S1.f d=v)
def Loc.val(S:St):Loc→V
 | .box t=>S.f t
 | .slot t=>S.f t
 | .cell t j=>match S.f t with
  | .ptr id 0 0=>match S.h id with
   |some ob=>match ob.es with
    | [e]=>e.cells.getD j .bad
    |_=> .bad
   |none=> .bad
  |_=> .bad
def V.root:V→Option Nat
 | .bJ id _ _=>some id
 | .ptr id 0 0=>some id
 |_=>none
def V.boxed:V→Option Nat
 | .ptr id 0 0=>some id
 |_=>none
def look(S:St)(id:Nat):List Gr→Option Nat
 | []=>none
 |a::r=>if(a.loc.val S).root=some id then some a.new else look S id r
def V.wide:V→V
 | .sl _ es=> .sl false es
 |v=>v
def fixC(S:St)(N:Norm)(hx:aG):V→V
 | .bJ id s l=>match look S id N.roots with
  |some j=> .bJ j s l
  |none=>match aX hx depth (.bJ id s l) with
   |some v=>v
   |none=> .bad
 | .ptr id i f=>match look S id N.roots with
  |some j=> .ptr j i f
  |none=> .bad
 |v=>if v.jW then v.wide else .bad
def AX(S:St)(N:Norm)(hx:aG):V→V
 | .agg cs=> .agg (cs.map (fixC S N hx))
 |v=>fixC S N hx v
def wZ(S:St)(N:Norm)(hx:aG):V→V
 | .cg vs=> .cg (vs.map (AX S N hx))
 | .fn g a b=> .fn g (a.map (AX S N hx)) (b.map (AX S N hx))
 | .ref cs=> .ref cs
 |v=>AX S N hx v
def rP(t:Nat):List Gr→Option Nat
 | []=>none
 |a::r=>if a.loc= .slot t then some a.new else rP t r
def kB(S:St)(id j:Nat):List Gr→Option Nat
 | []=>none
 |a::r=>match a.loc with
  | .cell t j'=>if j'=j∧(S.f t).boxed=some id then some a.new else kB S id j r
  |_=>kB S id j r
def qD(o:Option Nat)(v w:V):V:=
 match v with
 | .sl true []=>match o with
  |some n=> .bJ n 0 0
  |none=>w
 |_=>w
def sv(S:St)(N:Norm)(hx:aG)(id:Nat):Nat→List V→List V
 |_,[]=> []
 |j,c::cs=>qD (kB S id j N.roots) c (fixC S N hx c)::sv S N hx id (j+1) cs
def B6(S:St)(N:Norm)(hx:aG)(id:Nat):V→V
 | .agg cs=> .agg (sv S N hx id 0 cs)
 |v=>qD (kB S id 0 N.roots) v (fixC S N hx v)
def w7(S:St)(N:Norm)(hx:aG)(id:Nat):Option Ob→Option Ob
 |some ob=>
  if ob.bZ then
   match ob.es with
   | [e]=>some ⟨ob.k,[B6 S N hx id e],true⟩
   |es=>if es.all V.HK then some ob else none
  else some ob
 |none=>none
def fixF(S:St)(N:Norm)(hx:aG):List Nat→Nat→V
 | []=>fun _=> .bad
 |t::r=>aS (fixF S N hx r) t (qD (rP t N.roots) (S.f t) (wZ S N hx (S.f t)))
def Ec(S:St)(N:Norm)(hx:aG)(k:Nat)(bZ:Bool):V→Option Ob
 | .sl true []=>some ⟨k,[],bZ⟩
 |v=>match v.root with
  |some id=>w7 S N hx id (S.h id)
  |none=>none
def Gr.ob(S:St)(N:Norm)(hx:aG)(a:Gr):Option Ob:=Ec S N hx a.k a.bZ (a.loc.val S)
def Ed(S:St)(N:Norm)(hx:aG):List Gr→aG
 | []=>fun _=>none
 |a::r=>aS (Ed S N hx r) a.new (a.ob S N hx)
def Norm.mM(N:Norm)(S:St):List (Option Nat):=N.roots.map fun a=>(a.loc.val S).root
def ie(id:Nat):List Gr→Option Gr
 | []=>none
 |a::r=>if a.new=id then some a else ie id r
def Norm.first(N:Norm)(S:St):Bool:=
 match N.base,N.roots with
 |false,_=>true
 |true,a::_=>a.new==0&& (a.loc.val S).root==some 0
 |_,_=>false
def Norm.ok(N:Norm):Bool:=decide (1≤N.n)&&N.roots.all (fun a=>decide (a.new<N.n)&& (match ie a.new N.roots with|some b=>decide (b.loc=a.loc)|none=>false))
def Norm.run(N:Norm)(S:St):Option St:=
 if oN (N.mM S)&&N.first S then
  some ⟨fixF S N (cP S.h (N.mM S)) N.XG,Ed S N (cP S.h (N.mM S)) N.roots,N.n⟩
 else none
def eY:Code→Nat
 | .region id _ _=>id
 | .seq a _=>eY a
 | .block _ b=>eY b
 | .loop b=>eY b
 |_=>0
def jH(X:Env)(aP:FuncId)(key:Nat)(S:St):Option St:=
 match X.norm aP key with
 |some N=>N.run S
 |none=>some S
open Classical in
noncomputable def eS(X:Env)(E:Ev):Ev:=fun aP c S=>
 match c with
 | .skip=>some (.normal,S)
 | .region id ops _=>match jH X aP (2*id) S with
  |some S=>match cQ X (bz X E) aP (ops.toList.map (·.dst)) S.n 0 ops.toList {S with n:=S.n+ops.size} with
   |some S1=>if fW X (bz X E) aP ops.toList S.n {S with n:=S.n+ops.size} S1 (X.uG aP id) then some (.normal,S1) else none
   |none=>none
  |none=>none
 | .seq a b=>match E aP a S with
  |some (.normal,S1)=>E aP b S1
  |r=>r
 | .cond x a b=>match S.ev x with
  | .bool t=>if t then E aP a S else E aP b S
  |_=>none
 | .block id b=>match E aP b S with
  |some (.exit i,S1)=>if i=id then some (.normal,S1) else some (.exit i,S1)
  |r=>r
 | .loop b=>match jH X aP (2*eY b+1) S with
  |some S=>match E aP b S with
   |some (.normal,S1)=>E aP (.loop b) S1
   |r=>r
  |none=>none
 | .exit id=>some (.exit id,S)
 | .ret=>some (.ret,S)
 |_=>none
noncomputable def ng(X:Env):Nat→Ev
 |0=>fun _ _ _=>none
 |n+1=>eS X (ng X n)
def dH.le(c d:dH):Prop:= ∀g a h k r,c g a h k=some r→d g a h k=some r
def Ev.le(c d:Ev):Prop:= ∀f b S r,c f b S=some r→d f b S=some r
theorem fl{X:Env}{E E':Ev}(h:E.le E'):(bz X E).le (bz X E'):=by
 intro g a hp k r hr;unfold bz at hr⊢;have vw:X.ki g=none:=by
  cases vw:X.ki g with
  |none=>rfl
  |some pr=>simp[vw]at hr
 simp only[vw]at hr⊢;split at hr
 ·rename_i fn hf;split at hr
  ·rename_i b hb;cases he:E g b ⟨kF a,hp,k⟩ with
   |none=>simp[he,pk]at hr
   |some x=>rw[h _ _ _ _ he];rw[he]at hr;exact hr
  ·cases hr
 ·cases hr
theorem Ee{X:Env}{c d:dH}(h:c.le d){g auj r}(hr:kV X c g auj=some r):kV X d g auj=some r:=by
 unfold kV at hr⊢;cases hp:X.ki g with
 |none=>simp only[hp]at hr⊢;exact h _ _ _ _ _ hr
 |some pr=>
  simp only[hp]at hr⊢;cases hv:pr.run c auj with
  |none=>simp[hv]at hr
  |some v=>rw[hv]at hr;rw[pr.mono c d auj v h hv];exact hr
theorem HL{X:Env}{c d:dH}(h:c.le d){aP dst g args S r}(hr:oP X c aP dst g args S=some r):oP X d aP dst g args S=some r:=by
 unfold oP at hr⊢;split at hr
 case h_2=>cases hr
 rename_i id rest;cases ho:S.h id with
 |none=>simp[ho]at hr
 |some ob=>
  simp only[ho]at hr⊢;split at hr
  case h_2=>cases hr
  rename_i e he;split at hr
  case isFalse=>cases hr
  rename_i hk;rw[if_pos hk];split at hr
  case h_2=>cases hr
  rename_i R hR;split at hr
  case h_2=>cases hr
  rename_i auj h1 hg;cases h5:c g (.ptr 0 0 0::auj) (jB X g ob.k R) (1+(X.dI g).length) with
  |none=>simp[h5]at hr
  |some x=>rw[h _ _ _ _ _ h5];rw[h5]at hr;exact hr
theorem B7{X:Env}{c d:dH}(h:c.le d){aP dst g args S r}(hr:iA X c aP dst g args S=some r):iA X d aP dst g args S=some r:=by
 unfold iA at hr⊢;split at hr
 case h_2=>cases hr
 rename_i auj h1 hg;cases h5:c g auj (fun _=>none) 0 with
 |none=>simp[h5]at hr
 |some x=>rw[h _ _ _ _ _ h5];rw[h5]at hr;exact hr
theorem B8{X:Env}{c d:dH}(h:c.le d){aP dst g args S r}(hr:cX X c aP dst g args S=some r):cX X d aP dst g args S=some r:=by
 unfold cX at hr⊢;cases h1:X.clone g with
 |some t=>simp only[h1]at hr⊢;exact hr
 |none=>
  simp only[h1]at hr⊢;by_cases h2:(X.fg g&& !X.low g)=true
  ·simp only[h2,if_true]at hr⊢;cases h5:c g args S.h S.n with
   |none=>simp[h5]at hr
   |some x=>rw[h _ _ _ _ _ h5];rw[h5]at hr;exact hr
  ·simp only[h2,if_false,Bool.false_eq_true]at hr⊢;by_cases pW:X.dP g=true
   ·simp only[pW,if_true]at hr⊢;exact HL h hr
   simp only[pW,if_false,Bool.false_eq_true]at hr⊢;by_cases wM:(!(dst.elim [] (X.mask aP)).isEmpty)=true
   ·simp only[wM,if_true]at hr⊢;exact B7 h hr
   simp only[wM,if_false,Bool.false_eq_true]at hr⊢;cases h3:aY (args.map (aX S.h depth)) with
   |none=>simp[h3]at hr
   |some auj=>
    simp only[h3]at hr⊢;by_cases h4:(dst.any (X.nf aP)&& !X.low g)=true
    ·simp only[h4,if_true]at hr⊢;cases h5:c g (cG auj) (fun _=>none) S.n with
     |none=>simp[h5]at hr
     |some x=>rw[h _ _ _ _ _ h5];rw[h5]at hr;exact hr
    ·simp only[h4,if_false,Bool.false_eq_true]at hr⊢;cases h5:kV X c g (cG auj) with
     |none=>simp[h5]at hr
     |some x=>rw[Ee h h5];rw[h5]at hr;exact hr
theorem qL{X:Env}{c d:dH}(h:c.le d){aP n0 j o S r}(hr:cw X c aP n0 j o S=some r):cw X d aP n0 j o S=some r:=by
 unfold cw at hr⊢;split at hr
 ·split at hr
  ·exact B8 h hr
  ·cases hr
 ·exact hr
theorem jb{X:Env}{c d:dH}(h:c.le d){aP bm n0}: ∀{k l S r},cQ X c aP bm n0 k l S=some r→cQ X d aP bm n0 k l S=some r
 |_,[],S,r,hr=>hr
 |k,o::l,S,r,hr=>by
  unfold cQ at hr⊢;split at hr
  ·split at hr
   ·rename_i S1 h1;rw[qL h h1];exact jb h hr
   ·cases hr
  ·split at hr
   ·split at hr
    ·split at hr
     ·split at hr
      ·rename_i S1 h1;rename_i TU _;simp only[TU,if_true];rw[qL h h1];exact jb h hr
      ·cases hr
     ·rename_i TU;simp only[TU,if_false];exact jb h hr
    ·exact jb h hr
    ·cases hr
   ·cases hr
theorem fW.mono{X:Env}{c d:dH}(h:c.le d){aP ops n0 S0 S1 l}(hs:fW X c aP ops n0 S0 S1 l):fW X d aP ops n0 S0 S1 l:=by
 intro q hq;rcases hs q hq with hk|⟨o,T,v,h1,h2,h3⟩
 ·exact .inl hk
 ·exact .inr ⟨o,T,v,h1,jb h h2,h3⟩
theorem w9{X:Env}{E E':Ev}(h:E.le E'):(eS X E).le (eS X E'):=by
 intro f c S r hr;unfold eS at hr⊢;split at hr
 ·exact hr
 ·split at hr
  case h_2=>cases hr
  rename_i S0 hn;split at hr
  ·rename_i S1 h1;split at hr
   ·rename_i hs;rw[jb (fl h) h1];simp only[hs.mono (fl h),if_true];exact hr
   ·cases hr
  ·cases hr
 ·rename_i a b;cases ha:E f a S with
  |none=>simp[ha]at hr
  |some x=>
   rw[h _ _ _ _ ha];rw[ha]at hr;obtain⟨e,S1⟩:=x;cases e with
   |normal=>exact h _ _ _ _ hr
   |exit i=>exact hr
   |ret=>exact hr
 ·split at hr
  ·split at hr
   ·rename_i ht;simp only[ht,if_true];exact h _ _ _ _ hr
   ·rename_i ht;simp only[ht,if_false,Bool.false_eq_true];exact h _ _ _ _ hr
  ·cases hr
 ·rename_i id b;cases hb:E f b S with
  |none=>simp[hb]at hr
  |some x=>rw[h _ _ _ _ hb];rw[hb]at hr;exact hr
 ·rename_i b;split at hr
  case h_2=>cases hr
  rename_i S0 hn;cases hb:E f b S0 with
  |none=>simp[hb]at hr
  |some x=>
   rw[h _ _ _ _ hb];rw[hb]at hr;obtain⟨e,S1⟩:=x;cases e with
   |normal=>exact h _ _ _ _ hr
   |exit i=>exact hr
   |ret=>exact hr
 ·exact hr
 ·exact hr
 ·cases hr
theorem K0(X:Env): ∀n,(ng X n).le (ng X (n+1))
 |0=>by intro f c S r hr;simp[ng]at hr
 |n+1=>w9 (K0 X n)
theorem jI(X:Env){n m:Nat}(h:n≤m):(ng X n).le (ng X m):=by
 induction h with
 |refl=>intro f c S r hr;exact hr
 |step _ ih=>intro f c S r hr;exact K0 X _ _ _ _ _ (ih _ _ _ _ hr)
open Classical in
noncomputable def ev(X:Env):Ev:=fun f c S=>if h: ∃n,∃r,ng X n f c S=some r then some h.choose_spec.choose else none
theorem lU{X:Env}{f c S r}:ev X f c S=some r↔ ∃n,ng X n f c S=some r:=by
 unfold ev;constructor
 ·intro h;split at h
  ·rename_i hx;have:=hx.choose_spec.choose_spec;exact⟨hx.choose,by rw[this];simpa using h⟩
  ·cases h
 ·rintro⟨n,hn⟩;have hx: ∃n,∃r,ng X n f c S=some r:=⟨n,r,hn⟩;rw[dif_pos hx];have h2:=hx.choose_spec.choose_spec;have h3:=jI X (Nat.le_max_left n hx.choose) _ _ _ _ hn;have h4:=jI X (Nat.le_max_right n hx.choose) _ _ _ _ h2;rw[h3]at h4;simp only[aa]at h4;rw[h4]
theorem HN(X:Env)(n:Nat):(ng X n).le (ev X):=fun _ _ _ _ h=>lU.2 ⟨n,h⟩
theorem iB{X:Env}{g a h k r}(hr:bz X (ev X) g a h k=some r): ∃n,bz X (ng X n) g a h k=some r:=by
 unfold bz at hr;have vw:X.ki g=none:=by
  cases vw:X.ki g with
  |none=>rfl
  |some pr=>simp[vw]at hr
 simp only[vw]at hr;split at hr
 ·rename_i fn hf;split at hr
  ·rename_i b hb;cases he:ev X g b ⟨kF a,h,k⟩ with
   |none=>simp[he,pk]at hr
   |some x=>
    obtain⟨n,hn⟩:=lU.1 he;exact⟨n,by unfold bz;simp only[vw,hf,hb,hn];rw[he]at hr;exact hr⟩
  ·cases hr
 ·cases hr
theorem Ef{X:Env}{g auj r}(hr:kV X (bz X (ev X)) g auj=some r): ∃n,kV X (bz X (ng X n)) g auj=some r:=by
 unfold kV at hr;cases hp:X.ki g with
 |none=>
  simp only[hp]at hr;obtain⟨n,hn⟩:=iB hr;exact⟨n,by unfold kV;simp only[hp];exact hn⟩
 |some pr=>
  simp only[hp]at hr;cases hv:pr.run (bz X (ev X)) auj with
  |none=>simp[hv]at hr
  |some v=>
   rw[hv]at hr;obtain⟨n,hn⟩:=pr.cont (fun n=>bz X (ng X n)) _ auj v (fun n=>fl (jI X (Nat.le_succ n))) (fun _ _ _ _ _ h=>iB h) hv;exact⟨n,by unfold kV;simp only[hp,hn];exact hr⟩
theorem HP{X:Env}{aP dst g args S r}(hr:oP X (bz X (ev X)) aP dst g args S=some r): ∃n,oP X (bz X (ng X n)) aP dst g args S=some r:=by
 unfold oP at hr;split at hr
 case h_2=>cases hr
 rename_i id rest;cases ho:S.h id with
 |none=>simp[ho]at hr
 |some ob=>
  simp only[ho]at hr;split at hr
  case h_2=>cases hr
  rename_i e he;split at hr
  case isFalse=>cases hr
  rename_i hk;split at hr
  case h_2=>cases hr
  rename_i R hR;split at hr
  case h_2=>cases hr
  rename_i auj h1 hg;cases h5:bz X (ev X) g (.ptr 0 0 0::auj) (jB X g ob.k R) (1+(X.dI g).length) with
  |none=>simp[h5]at hr
  |some x=>
   obtain⟨n,hn⟩:=iB h5;rw[h5]at hr;exact⟨n,by unfold oP;simp only[ho,he,hk,if_true,hR,hg,hn];exact hr⟩
theorem B9{X:Env}{aP dst g args S r}(hr:iA X (bz X (ev X)) aP dst g args S=some r): ∃n,iA X (bz X (ng X n)) aP dst g args S=some r:=by
 unfold iA at hr;split at hr
 case h_2=>cases hr
 rename_i auj h1 hg;cases h5:bz X (ev X) g auj (fun _=>none) 0 with
 |none=>simp[h5]at hr
 |some x=>
  obtain⟨n,hn⟩:=iB h5;rw[h5]at hr;exact⟨n,by unfold iA;simp only[hg,hn];exact hr⟩
theorem Ca{X:Env}{aP dst g args S r}(hr:cX X (bz X (ev X)) aP dst g args S=some r): ∃n,cX X (bz X (ng X n)) aP dst g args S=some r:=by
 unfold cX at hr;cases h1:X.clone g with
 |some t=>exact⟨0,by unfold cX;simp only[h1]at hr⊢;exact hr⟩
 |none=>
  simp only[h1]at hr;by_cases h2:(X.fg g&& !X.low g)=true
  ·simp only[h2,if_true]at hr;cases h5:bz X (ev X) g args S.h S.n with
   |none=>simp[h5]at hr
   |some x=>
    obtain⟨n,hn⟩:=iB h5;rw[h5]at hr;exact⟨n,by unfold cX;simp only[h1,h2,if_true,hn];exact hr⟩
  ·simp only[h2,if_false,Bool.false_eq_true]at hr;by_cases pW:X.dP g=true
   ·simp only[pW,if_true]at hr;obtain⟨n,hn⟩:=HP hr;exact⟨n,by unfold cX;simp only[h1,h2,if_false,Bool.false_eq_true,pW,if_true,hn]⟩
   simp only[pW,if_false,Bool.false_eq_true]at hr;by_cases wM:(!(dst.elim [] (X.mask aP)).isEmpty)=true
   ·simp only[wM,if_true]at hr;obtain⟨n,hn⟩:=B9 hr;exact⟨n,by unfold cX;simp only[h1,h2,if_false,Bool.false_eq_true,pW,wM,if_true,hn]⟩
   simp only[wM,if_false,Bool.false_eq_true]at hr;cases h3:aY (args.map (aX S.h depth)) with
   |none=>simp[h3]at hr
   |some auj=>
    simp only[h3]at hr;by_cases h4:(dst.any (X.nf aP)&& !X.low g)=true
    ·simp only[h4,if_true]at hr;cases h5:bz X (ev X) g (cG auj) (fun _=>none) S.n with
     |none=>simp[h5]at hr
     |some x=>
      obtain⟨n,hn⟩:=iB h5;rw[h5]at hr;exact⟨n,by unfold cX;simp only[h1,if_false,Bool.false_eq_true,h2,pW,wM,h3,h4,if_true,hn];exact hr⟩
    ·simp only[h4,if_false,Bool.false_eq_true]at hr;cases h5:kV X (bz X (ev X)) g (cG auj) with
     |none=>simp[h5]at hr
     |some x=>
      obtain⟨n,hn⟩:=Ef h5;rw[h5]at hr;exact⟨n,by unfold cX;simp only[h1,if_false,Bool.false_eq_true,h2,pW,wM,h3,h4,hn];exact hr⟩
theorem Cb{X:Env}{aP n0 j o S r}(hr:cw X (bz X (ev X)) aP n0 j o S=some r): ∃n,cw X (bz X (ng X n)) aP n0 j o S=some r:=by
 unfold cw at hr;split at hr
 ·rename_i x args gq ho;split at hr
  ·rename_i g first wk hx
   obtain⟨n,hn⟩:=Ca hr;exact⟨n,by unfold cw;simp only[ho,hx];exact hn⟩
  ·cases hr
 ·rename_i eZ;refine⟨0,?_⟩;unfold cw;split
  ·rename_i x args gq ho;exact absurd ho (eZ x args gq)
  ·exact hr
theorem nA{X:Env}{aP bm n0}: ∀{k l S r},cQ X (bz X (ev X)) aP bm n0 k l S=some r→ ∃n,cQ X (bz X (ng X n)) aP bm n0 k l S=some r
 |_,[],S,r,hr=>⟨0,hr⟩
 |k,o::l,S,r,hr=>by
  have two: ∀{S1},cw X (bz X (ev X)) aP n0 k o S=some S1→cQ X (bz X (ev X)) aP bm n0 (k+1) l S1=some r→ ∃n,cw X (bz X (ng X n)) aP n0 k o S=some S1∧cQ X (bz X (ng X n)) aP bm n0 (k+1) l S1=some r:=by
   intro S1 h1 h2;obtain⟨a,ha⟩:=Cb h1;obtain⟨b,hb⟩:=nA h2;exact⟨max a b,qL (fl (jI X (Nat.le_max_left a b))) ha,jb (fl (jI X (Nat.le_max_right a b))) hb⟩
  unfold cQ at hr;split at hr
  ·rename_i hg;split at hr
   ·rename_i S1 h1;obtain⟨n,ha,hb⟩:=two h1 hr;exact⟨n,by unfold cQ;simp only[hg,ha];exact hb⟩
   ·cases hr
  ·rename_i j want hg;split at hr
   ·rename_i d hd;split at hr
    ·rename_i b zj;split at hr
     ·rename_i TU;split at hr
      ·rename_i S1 h1;obtain⟨n,ha,hb⟩:=two h1 hr;exact⟨n,by unfold cQ;simp only[hg,hd,zj,TU,if_true,ha];exact hb⟩
      ·cases hr
     ·rename_i TU;obtain⟨n,hn⟩:=nA hr;exact⟨n,by unfold cQ;simp only[hg,hd,zj,TU,if_false];exact hn⟩
    ·rename_i lI;obtain⟨n,hn⟩:=nA hr;refine⟨n,?_⟩;unfold cQ;simp only[hg,hd,lI];exact hn
    ·cases hr
   ·cases hr
theorem fW.cont{X:Env}{aP ops n0 S0 S1}: ∀{l},fW X (bz X (ev X)) aP ops n0 S0 S1 l→ ∃n,fW X (bz X (ng X n)) aP ops n0 S0 S1 l
 | [],_=>⟨0,fun q hq=>by cases hq⟩
 |q::l,hs=>by
  obtain⟨a,ha⟩:=fW.cont (l:=l) fun x hx=>hs x (List.mem_cons_of_mem _ hx);rcases hs q (List.mem_cons_self ..) with hk|⟨o,T,v,h1,h2,h3⟩
  ·refine⟨a,fun x hx=> ?_⟩;rcases List.mem_cons.1 hx with rfl|hx
   ·exact .inl hk
   ·exact ha x hx
  obtain⟨b,hb⟩:=nA h2;refine⟨max a b,fun x hx=> ?_⟩;rcases List.mem_cons.1 hx with rfl|hx
  ·exact .inr ⟨o,T,v,h1,jb (fl (jI X (Nat.le_max_right a b))) hb,h3⟩
  ·exact ha.mono (fl (jI X (Nat.le_max_left a b))) x hx
theorem Eg{X:Env}{f c S r}(hr:eS X (ev X) f c S=some r): ∃n,eS X (ng X n) f c S=some r:=by
 have XH: ∀{a b:Code} {S S1 r},ev X f a S=some (.normal,S1)→ev X f b S1=some r→ ∃n,ng X n f a S=some (.normal,S1)∧ng X n f b S1=some r:=by
  intro a b S S1 r h1 h2;obtain⟨p,hp⟩:=lU.1 h1;obtain⟨q,hq⟩:=lU.1 h2;exact⟨max p q,jI X (Nat.le_max_left p q) _ _ _ _ hp,jI X (Nat.le_max_right p q) _ _ _ _ hq⟩
 cases c with
 |skip=>exact⟨0,hr⟩
 |exit id=>exact⟨0,hr⟩
 |ret=>exact⟨0,hr⟩
 |region id ops d=>
  simp only[eS]at hr⊢;split at hr
  case h_2=>cases hr
  rename_i S0 Cc;split at hr
  ·rename_i S1 h1;split at hr
   ·rename_i hs;obtain⟨n,hn⟩:=nA h1;obtain⟨m,hm⟩:=hs.cont;refine⟨max n m,?_⟩;rw[jb (fl (jI X (Nat.le_max_left n m))) hn];simp only[hm.mono (fl (jI X (Nat.le_max_right n m))),if_true];exact hr
   ·cases hr
  ·cases hr
 |seq a b=>
  simp only[eS]at hr⊢;cases ha:ev X f a S with
  |none=>simp[ha]at hr
  |some x=>
   obtain⟨e,S1⟩:=x;rw[ha]at hr;cases e with
   |normal=>
    obtain⟨n,h1,h2⟩:=XH ha hr;exact⟨n,by rw[h1];exact h2⟩
   |exit i=>obtain⟨n,hn⟩:=lU.1 ha;exact⟨n,by rw[hn];exact hr⟩
   |ret=>obtain⟨n,hn⟩:=lU.1 ha;exact⟨n,by rw[hn];exact hr⟩
 |cond x a b=>
  simp only[eS]at hr⊢;split at hr
  ·split at hr
   ·rename_i ht;obtain⟨n,hn⟩:=lU.1 hr;exact⟨n,by simp only[ht,if_true];exact hn⟩
   ·rename_i ht;obtain⟨n,hn⟩:=lU.1 hr;exact⟨n,by simp only[ht,if_false,Bool.false_eq_true];exact hn⟩
  ·cases hr
 |block id b=>
  simp only[eS]at hr⊢;cases hb:ev X f b S with
  |none=>simp[hb]at hr
  |some x=>obtain⟨n,hn⟩:=lU.1 hb;rw[hb]at hr;exact⟨n,by rw[hn];exact hr⟩
 |loop b=>
  simp only[eS]at hr⊢;split at hr
  case h_2=>cases hr
  rename_i S0 Cc;cases hb:ev X f b S0 with
  |none=>simp[hb]at hr
  |some x=>
   obtain⟨e,S1⟩:=x;rw[hb]at hr;cases e with
   |normal=>
    obtain⟨n,h1,h2⟩:=XH hb hr;exact⟨n,by rw[h1];exact h2⟩
   |exit i=>obtain⟨n,hn⟩:=lU.1 hb;exact⟨n,by rw[hn];exact hr⟩
   |ret=>obtain⟨n,hn⟩:=lU.1 hb;exact⟨n,by rw[hn];exact hr⟩
 |_=>simp[eS]at hr
theorem vx(X:Env)(f:FuncId)(c:Code)(S:St):ev X f c S=eS X (ev X) f c S:=by
 cases h:eS X (ev X) f c S with
 |some r=>
  obtain⟨n,hn⟩:=Eg h;exact lU.2 ⟨n+1,hn⟩
 |none=>
  cases h2:ev X f c S with
  |none=>rfl
  |some r=>
   obtain⟨n,hn⟩:=lU.1 h2;cases n with
   |zero=>simp[ng]at hn
   |succ n=>
    have:=w9 (HN X n) _ _ _ _ hn;rw[h]at this;cases this
noncomputable def bt(X:Env):dH:=bz X (ev X)
noncomputable def ba(X:Env)(g:FuncId)(args:List V):Option V:=
 match kV X (bt X) g args with
 |some (v,h,_)=>(aX h depth v).map V.fo
 |none=>none
end Go.Abs
