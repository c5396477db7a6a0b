/- Part of a proof: engine A1. -/
import Derived.Calls
set_option linter.all false
set_option maxRecDepth 20000
set_option maxHeartbeats 20000000
namespace Go.Abs
open Go
theorem au{α:Type _}(a b:α):(some a=some b)=(a=b):=Option.some.injEq a b
theorem aF {α:Type _} {β:Type _} (a:α) (b:β) (c:α) (d:β):((a,b)=(c,d))=(a=c/\b=d):=Prod.mk.injEq a b c d
theorem bn {α:Type _} {l:List α} {i:Nat} (h:l.length<=i):l.take i=l:=List.take_of_length_le h
inductive V where
 |int (k:IntKind) (n:Int)
 |bool (b:Bool)
 |str (s:List UInt8)
 |agg (cs:List V)
 |de (vs:List V)
 |sl (clip:Bool) (es:List V)
 |ref (cs:List V)
 |bU (id start len:Nat)
 |ptr (id i f:Nat)
 |qs
 |fn (g:FuncId) (first AI:List V)
 |bad
 deriving Inhabited
def V.cells:V->List V
 | .agg cs=>cs
 |v=> [v]
structure Ob where
 k:Nat
 es:List V
 dG:Bool
 deriving Inhabited
structure TI where
 size:Nat
 bytes:Nat
 agg:Bool
 zero:V
 elem:Nat
 vW:List (Nat×Nat)
 arr:Option Nat
 kind:Option IntKind
 vY:List Nat
 deriving Inhabited
abbrev aY:=Nat->Option Ob
structure St where
 f:Nat->V
 h:aY
 n:Nat
abbrev iz:=FuncId->List V->aY->Nat->Option (V×aY×Nat)
inductive Loc where
 |box (t:Nat)
 |slot (t:Nat)
 |cell (t j:Nat)
 deriving DecidableEq
structure Gr where
 loc:Loc
 new:Nat
 k:Nat
 dG:Bool
structure Norm where
 aje:List Nat
 roots:List Gr
 base:Bool
 n:Nat
structure Env where
 P:Program
 ti:TypeId->TI
 mX:FuncId->Nat->Bool
 fw:FuncId->Bool
 eJ:FuncId->Bool
 clone:FuncId->Option TypeId
 eh:FuncId->TypeId->Bool
 rq:FuncId->Nat->List (Nat×Nat)
 norm:FuncId->Nat->Option Norm
 low:FuncId->Bool
 mask:FuncId->Nat->List (Nat×Nat×TypeId)
 dM:FuncId->List (Nat×Nat×TypeId)
def aO{α:Type}(f:Nat->α)(t:Nat)(v:α):Nat->α:=fun u=>if u=t then v else f u
def St.set(S:St)(d:Option Nat)(v:V):St:=
 match d with
 |some t=>{S with f:=aO S.f t v}
 |none=>S
def St.new(S:St)(o:Ob):St:={S with h:=aO S.h S.n (some o),n:=S.n+1}
def tX:Value->V
 | .bool b=> .bool b
 | .int k n=> .int k n
 | .string s=> .str s.data.toList
 | .pointer none=> .qs
 | .slice none 0 0=> .sl true []
 |_=> .bad
def sm:Value->V
 | .agg cs=> .agg (cs.toList.map tX)
 |v=>tX v
def St.ev(S:St):Operand->V
 | .tmp t=>S.f t
 | .const v=>sm v
 | .func g=> .fn g [] []
 | .global _=> .bad
def cn{α:Type}:List (Option α)->Option (List α)
 | []=>some []
 |none::_=>none
 |some a::r=>match cn r with|some l=>some (a::l)|none=>none
mutual
def V.jm:V->V
 | .sl _ es=> .sl false (df es)
 | .agg cs=> .agg (df cs)
 | .de cs=> .de (df cs)
 |v=>v
def df:List V->List V
 | []=> []
 |c::cs=>c.jm::df cs
end
def bT(h:aY):Nat->V->Option V
 |_,.int k n=>some (.int k n)
 |_,.bool b=>some (.bool b)
 |_,.str s=>some (.str s)
 |_,.sl c es=>some (.sl c es)
 |_,.qs=>some .qs
 |_,.fn g [] []=>some (.fn g [] [])
 |d+1,.agg cs=>match cn (cs.map (bT h d)) with|some l=>some (.agg l)|none=>none
 |d+1,.de cs=>match cn (cs.map (bT h d)) with|some l=>some (.de l)|none=>none
 |d+1,.bU id s l=>
  match h id with
  |some o=>
   if s+l<=o.es.length then
    if o.dG then match cn (((o.es.drop s).take l).map (bT h d)) with|some l=>some (.sl false l)|none=>none
    else some (.sl false ((o.es.drop s).take l))
   else none
  |none=>none
 |_,_=>none
def depth:Nat:=12
def V.oR:V->Bool
 | .int .. =>true
 | .bool _=>true
 | .str _=>true
 | .sl .. =>true
 | .qs=>true
 | .fn _ [] []=>true
 |_=>false
def V.JJ:V->Bool
 | .agg cs=>cs.all V.oR
 |v=>v.oR
def qm(h:aY)(v:V):Option (V×aY):=
 match v with
 | .bU id s l=>match h id with
  |some ob=>if(!ob.dG||ob.es.all V.JJ)&&decide (s+l<=ob.es.length) then some ((V.sl false ((ob.es.drop s).take l)).jm,aO h id none) else none
  |none=>none
 |v=>if v.oR then some (v.jm,h) else none
def fj(h:aY):List V->Option (List V×aY)
 | []=>some ([],h)
 |c::cs=>match qm h c with
  |some (c',h1)=>match fj h1 cs with
   |some (qC,h2)=>some (c'::qC,h2)
   |none=>none
  |none=>none
def qu(h:aY)(v:V):Option (V×aY):=
 match v with
 | .agg cs=>match fj h cs with|some (qC,h')=>some (.agg qC,h')|none=>none
 |v=>qm h v
def lz(h:aY):List (Nat×V)->Option (List (Nat×V)×aY)
 | []=>some ([],h)
 |(i,v)::r=>match qu h v with
  |some (v',h1)=>match lz h1 r with
   |some (r',h2)=>some ((i,v')::r',h2)
   |none=>none
  |none=>none
def V.leaf:V->Bool
 | .int .. =>true
 | .bool _=>true
 | .str _=>true
 | .qs=>true
 |_=>false
def V.uo:V->Bool
 | .agg cs=>cs.all V.leaf
 |v=>v.leaf
def V.scalar:V->Bool
 | .de vs=>vs.all V.uo
 |v=>v.uo
def V.GB:V->Bool
 | .bU .. =>true
 |_=>false
def V.tY:V->Bool
 | .agg cs=>cs.any V.GB
 | .de _=>true
 |v=>v.GB
def jG:Nat->List V->List V->List V
 |0,[],xs=>xs
 |0,c::cs,_::xs=>c::jG 0 cs xs
 |0,_::_,[]=> []
 |n+1,cs,x::xs=>x::jG n cs xs
 |_+1,_,[]=> []
def V.put(e:V)(f:Nat)(v:V):V:=
 match e with
 | .agg xs=> .agg (jG f v.cells xs)
 |_=>v
def part(t:TI)(cs:List V)(f:Nat):Option V:=
 if t.agg then(if f+t.size<=cs.length then some (.agg ((cs.drop f).take t.size)) else none) else cs[f]?
def V.eqv(kd:Nat):V->V->Option Bool
 | .int k a,.int k' b=>if k=k'/\kd=0 then some (a==b) else none
 | .bool a,.bool b=>if kd=1 then some (a==b) else none
 | .str a,.str b=>if kd=2 then some (a==b) else none
 |_,_=>none
def vZ:List Nat->List V->List V->Option Bool
 | [],[],[]=>some true
 |k::ks,x::xs,y::ys=>match V.eqv k x y,vZ ks xs ys with|some a,some b=>some (a&&b)|_,_=>none
 |_,_,_=>none
def Mm(ag:Bool)(vY:List Nat):V->V->Option Bool
 | .agg xs,.agg ys=>if ag=true/\vY≠ [] then vZ vY xs ys else none
 | .int k a,.int k' b=>if k=k' then some (a==b) else none
 | .bool a,.bool b=>if ag=false/\vY=[1] then some (a==b) else none
 | .str a,.str b=>some (a==b)
 | .qs,.qs=>if ag=false/\vY=[3] then some true else none
 | .qs,.ptr .. =>if ag=false/\vY=[3] then some false else none
 | .ptr ..,.qs=>if ag=false/\vY=[3] then some false else none
 |_,_=>none
def bits(k:IntKind)(op:BinOp)(x y:Int):Int:=
 match op with
 | .and=>k.wrap (BitVec.ofInt k.bits x&&&BitVec.ofInt k.bits y).toNat
 | .or=>k.wrap (BitVec.ofInt k.bits x|||BitVec.ofInt k.bits y).toNat
 | .xor=>k.wrap (BitVec.ofInt k.bits x^^^BitVec.ofInt k.bits y).toNat
 |_=>k.wrap (BitVec.ofInt k.bits x&&& ~~~ BitVec.ofInt k.bits y).toNat
def xF(x y:V)(f:IntKind->Int->Int->Option V):Option V:=
 match x,y with
 | .int k a,.int k' b=>if k=k' then f k a b else none
 |_,_=>none
def pX(ag:Bool)(vY:List Nat)(op:BinOp)(x y:V):Option V:=
 match op with
 | .eql=>match Mm ag vY x y with|some b=>some (.bool b)|none=>none
 | .neq=>match Mm ag vY x y with|some b=>some (.bool (!b))|none=>none
 | .add=>match x,y with
  | .str a,.str b=>if a.length+b.length<=2^62 then some (.str (a++b)) else none
  |x,y=>xF x y fun k a b=>some (.int k (k.wrap (a+b)))
 | .sub=>xF x y fun k a b=>some (.int k (k.wrap (a-b)))
 | .mul=>xF x y fun k a b=>some (.int k (k.wrap (a*b)))
 | .quo=>xF x y fun k a b=>if b=0 then none else some (.int k (k.wrap (a.tdiv b)))
 | .rem=>xF x y fun k a b=>if b=0 then none else some (.int k (a.tmod b))
 | .lss=>xF x y fun _ a b=>some (.bool (decide (a<b)))
 | .leq=>xF x y fun _ a b=>some (.bool (decide (a<=b)))
 | .gtr=>xF x y fun _ a b=>some (.bool (decide (b<a)))
 | .geq=>xF x y fun _ a b=>some (.bool (decide (b<=a)))
 | .shl=>match x,y with| .int k a,.int _ b=>if b<0 then none else some (.int k (k.wrap (a*2^ (min b.toNat k.bits))))|_,_=>none
 | .shr=>match x,y with| .int k a,.int _ b=>if b<0 then none else some (.int k (a.fdiv (2^ (min b.toNat k.bits))))|_,_=>none
 |op=>xF x y fun k a b=>some (.int k (bits k op a b))
def unV(op:UnOp)(x:V):Option V:=
 match op,x with
 | .neg,.int k n=>some (.int k (k.wrap (0-n)))
 | .not,.bool b=>some (.bool (!b))
 |_,_=>none
def elems(h:aY):V->Option (List V×Bool)
 | .sl _ es=>some (es,false)
 | .bU id s l=>match h id with|some o=>if s+l<=o.es.length then some ((o.es.drop s).take l,o.dG) else none|none=>none
 | .str s=>some (s.map fun b=> .int .u8 b.toNat,false)
 |_=>none
def Bm:V->Option Nat
 | .sl _ es=>some es.length
 | .bU _ _ l=>some l
 | .str s=>some s.length
 |_=>none
def V.isStr:V->Bool
 | .str _=>true
 |_=>false
def TI.isStr(t:TI):Bool:=t.vY==[2]
def nat?:V->Option Int
 | .int _ n=>some n
 |_=>none
def V.fits(v:V)(k:Nat):Bool:=
 match v with
 | .agg cs=>cs.length==k
 | .de _=>false
 | .bad=>false
 |_=>k==1
def tL(JK:List (Nat×Nat))(cs:List V):List (Nat×V)->Option (List V)
 | []=>some cs
 |(i,v)::r=>match JK[i]? with
  |some (o,k)=>if v.fits k&&decide (o+k<=cs.length) then tL JK (jG o v.cells cs) r else none
  |none=>none
def oU(k:Nat)(es:List V):List (Nat×V)->Option (List V)
 | []=>some es
 |(i,v)::r=>if v.fits k&&decide (i<es.length) then oU k (es.set i v) r else none
def Q7(d:Nat)(v:Option V)(m:Nat):Option Nat:=
 match v with
 |none=>some d
 |some (.int _ n)=>if 0<=n/\n<=m then some n.toNat else none
 |some _=>none
def bounds(lo hi:Option V)(len:Nat):Option (Nat×Nat):=
 match Q7 len hi len with
 |some h=>match Q7 0 lo h with
  |some l=>some (l,h)
  |none=>none
 |none=>none
def cm(X:Env)(bO:FuncId)(o:Oper)(ρ:Operand->V)(h0:aY)(n0:Nat):Option (V×aY×Nat):=
 match o.op with
 | .move x=>some ((ρ x),h0,n0)
 | .assign x=>some ((ρ x),h0,n0)
 | .pick c a b=>match ρ c with| .bool t=>some ((if t then ρ a else ρ b),h0,n0)|_=>none
 | .alloc t=>some ((.ptr n0 0 0),aO h0 n0 (some ⟨(X.ti t).size,[(X.ti t).zero],true⟩),n0+1)
 | .box t x=>if(ρ x).fits (X.ti t).size then some ((.ptr n0 0 0),aO h0 n0 (some ⟨(X.ti t).size,[ρ x],true⟩),n0+1) else none
 | .build t ps=>
  match(X.ti t).arr with
  |none=>if(X.ti t).vW=[] then none else match tL (X.ti t).vW (X.ti t).zero.cells (ps.toList.map fun p=>(p.1,ρ p.2)) with
   |some cs=>some ((.agg cs),h0,n0)
   |none=>none
  |some m=>match tL ((List.range m).map fun i=>(i*(X.ti (X.ti t).elem).size,(X.ti (X.ti t).elem).size)) (X.ti t).zero.cells (ps.toList.map fun p=>(p.1,ρ p.2)) with
   |some cs=>some ((.agg cs),h0,n0)
   |none=>none
 | .buildSlice t n ps=>
  let e:=(X.ti t).elem
  if X.eh bO e then
   match oU (X.ti e).size (List.replicate n (X.ti e).zero) (ps.toList.map fun p=>(p.1,ρ p.2)) with
   |some es=>some ((.bU n0 0 n),aO h0 n0 (some ⟨(X.ti e).size,es,true⟩),n0+1)
   |none=>none
  else
  match lz h0 (ps.toList.map fun p=>(p.1,ρ p.2)) with
  |some (l,h)=>
   match oU (X.ti e).size (List.replicate n (X.ti e).zero) l with
   |some es=>
    if o.dst.any (X.mX bO) then some ((.bU n0 0 n),aO (h) n0 (some ⟨(X.ti e).size,es,false⟩),n0+1)
    else some ((.sl true es),h,n0)
   |none=>none
  |none=>none
 | .load t a=>match ρ a with
  | .ptr id i f=>match h0 id with
   |some ob=>match ob.es[i]? with
    |some e=>match part (X.ti t) e.cells f with|some v=>some (v,h0,n0)|none=>none
    |none=>none
   |none=>none
  | .ref cs=>match part (X.ti t) cs 0 with|some v=>some (v,h0,n0)|none=>none
  |_=>none
 | .store t a x=>match ρ a with
  | .ptr id i f=>match h0 id with
   |some ob=>
    match(if ob.dG then some (ρ x,h0) else qu h0 (ρ x)) with
    |some (v,h)=>match h id with
     |some ob=>match ob.es[i]? with
      |some e=>if v.fits (X.ti t).size&&decide (f+(X.ti t).size<=e.cells.length) then some (.bad,aO h id (some {ob with es:=ob.es.set i (e.put f v)}),n0) else none
      |none=>none
     |none=>none
    |none=>none
   |none=>none
  |_=>none
 | .nilCheck x=>match ρ x with
  | .ptr id i f=>some ((.ptr id i f),h0,n0)
  | .ref cs=>some ((.ref cs),h0,n0)
  | .fn g a b=>some ((.fn g a b),h0,n0)
  |_=>none
 | .binOp op t x y _=>match pX (X.ti t).agg (X.ti t).vY op (ρ x) (ρ y) with|some v=>some (v,h0,n0)|none=>none
 | .unOp op _ x=>match unV op (ρ x) with|some v=>some (v,h0,n0)|none=>none
 | .convert _ d x=>match(X.ti d).kind,ρ x with
  |some k,.int _ n=>some ((.int k (k.wrap n)),h0,n0)
  |_,_=>none
 | .makeFunc (.func g) a b=>some ((.fn g (a.toList.map ρ) (b.toList.map ρ)),h0,n0)
 | .makeSlice t l c=>match ρ l,ρ c with
  | .int _ n,.int _ m=>if 0<=n/\n<=m/\m*(X.ti (X.ti t).elem).bytes<=2^47/\m<=2^62 then
    some ((.bU n0 0 n.toNat),aO h0 n0 (some ⟨(X.ti (X.ti t).elem).size,List.replicate n.toNat (X.ti (X.ti t).elem).zero,X.eh bO (X.ti t).elem⟩),n0+1) else none
  |_,_=>none
 | .slice t x lo hi mx=>
  if(ρ x).isStr=(X.ti t).isStr then
   match ρ x with
   | .sl _ es=>
    if es.all (fun e=>e.cells.length==(X.ti (X.ti t).elem).size) then
     match mx with
     |none=>match bounds (lo.map ρ) (hi.map ρ) es.length with|some (l,h)=>some ((.sl false ((es.take h).drop l)),h0,n0)|none=>none
     |some m=>match ρ m,hi.map ρ with
      | .int _ p,some (.int _ q)=>if p=q then(match bounds (lo.map ρ) (hi.map ρ) es.length with|some (l,h)=>some ((.sl true ((es.take h).drop l)),h0,n0)|none=>none) else none
      |_,_=>none
    else none
   | .bU id s n=>
    match mx,h0 id with
    |none,some ob=>if ob.k=(X.ti (X.ti t).elem).size then(match bounds (lo.map ρ) (hi.map ρ) n with|some (l,h)=>some ((.bU id (s+l) (h-l)),h0,n0)|none=>none) else none
    |some m,some ob=>if ob.k=(X.ti (X.ti t).elem).size then(match ρ m,hi.map ρ with
      | .int _ p,some (.int _ q)=>if p=q then(match bounds (lo.map ρ) (hi.map ρ) n with|some (l,h)=>some ((.bU id (s+l) (h-l)),h0,n0)|none=>none) else none
      |_,_=>none) else none
    |_,none=>none
   | .str s=>match mx with
    |none=>match bounds (lo.map ρ) (hi.map ρ) s.length with|some (l,h)=>some ((.str ((s.take h).drop l)),h0,n0)|none=>none
    |some _=>none
   |_=>none
  else none
 | .fieldAddr t x i=>match(X.ti t).vW[i]? with
  |some (off,_)=>match ρ x with
   | .ptr id j f=>some ((.ptr id j (f+off)),h0,n0)
   | .ref cs=>some ((.ref (cs.drop off)),h0,n0)
   |_=>none
  |none=>none
 | .indexAddr t x ix=>match ρ ix with
  | .int _ n=>match ρ x with
   | .sl _ es=>if(0<=n/\n<es.length)/\(X.ti t).arr=none then(match es[n.toNat]? with|some e=>if e.cells.length=(X.ti (X.ti t).elem).size then some ((.ref e.cells),h0,n0) else none|none=>none) else none
   | .bU id s l=>if(0<=n/\n<l)/\(X.ti t).arr=none then(match h0 id with|some ob=>if ob.k=(X.ti (X.ti t).elem).size then some ((.ptr id (s+n.toNat) 0),h0,n0) else none|none=>none) else none
   | .ptr id j f=>match(X.ti t).arr with
    |some m=>if 0<=n/\n<m then some ((.ptr id j (f+n.toNat*(X.ti (X.ti t).elem).size)),h0,n0) else none
    |none=>none
   |_=>none
  |_=>none
 | .index t x ix=>match ρ ix with
  | .int _ n=>match ρ x with
   | .str s=>if 0<=n/\(X.ti t).arr=none then(match s[n.toNat]? with|some b=>some ((.int .u8 b.toNat),h0,n0)|none=>none) else none
   | .agg cs=>match(X.ti t).arr with
    |some m=>if 0<=n/\n<m then(match part (X.ti (X.ti t).elem) cs (n.toNat*(X.ti (X.ti t).elem).size) with|some v=>some (v,h0,n0)|none=>none) else none
    |none=>none
   |_=>none
  |_=>none
 | .extract x i=>match ρ x with
  | .de vs=>match vs[i]? with|some v=>some (v,h0,n0)|none=>none
  |_=>none
 | .call ⟨.builtin .len,args,jP⟩=>match args.toList.map ρ with
  | [x]=>if x.isStr=(X.ti (jP.getD 0 0)).isStr then(match Bm x with|some n=>some ((.int .i64 n),h0,n0)|none=>none) else none
  |_=>none
 | .call ⟨.builtin .min,args,_⟩=>match args.toList.map ρ with
  | [.int k a,.int k' b]=>if k=k' then some ((.int k (if b<a then b else a)),h0,n0) else none
  |_=>none
 | .call ⟨.builtin .max,args,_⟩=>match args.toList.map ρ with
  | [.int k a,.int k' b]=>if k=k' then some ((.int k (if b>a then b else a)),h0,n0) else none
  |_=>none
 | .call ⟨.builtin .append,args,jP⟩=>match args.toList.map ρ with
  | [s,x]=>match elems h0 s,elems h0 x with
   |some (es,kb),some (xs,kx)=>
    let e:=(X.ti (jP.getD 0 0)).elem;let kp:=X.eh bO e
    if((kb||kx)&& !kp)|| !(xs.all fun v=>v.cells.length==(X.ti e).size)||(X.ti (jP.getD 1 0)).kind.isSome then none else
    if(es.length+xs.length)*(X.ti e).bytes<=2^47/\es.length+xs.length<=2^62 then
     match s with
     | .sl true []=>some ((.bU n0 0 xs.length),aO h0 n0 (some ⟨(X.ti e).size,xs,kp⟩),n0+1)
     | .sl true _=>if kx|| !(es.all fun v=>v.cells.length==(X.ti e).size) then none else some ((.sl false (es++xs)),h0,n0)
     | .bU id _ _=>match h0 id with
      |some ob=>if ob.k=(X.ti e).size then some ((.bU n0 0 (es.length+xs.length)),aO (aO h0 id none) n0 (some ⟨(X.ti e).size,es++xs,kp⟩),n0+1) else none
      |none=>none
     |_=>none
    else none
   |_,_=>none
  |_=>none
 | .call ⟨.builtin .copy,args,jP⟩=>match args.toList.map ρ with
  | [.bU id s l,x]=>match h0 id,elems h0 x with
   |some ob,some (xs,kx)=>
    if x.isStr||(kx&& !ob.dG)|| !(xs.all fun v=>v.cells.length==ob.k) then none else
    if s+l<=ob.es.length/\ob.k=(X.ti (X.ti (jP.getD 0 0)).elem).size then
     some ((.int .i64 (min xs.length l:Nat)),aO h0 id (some {ob with es:=ob.es.take s++xs.take (min xs.length l)++ob.es.drop (s+min xs.length l)}),n0)
    else none
   |_,_=>none
  |_=>none
 |_=>none
def W5(X:Env)(bO:FuncId)(o:Oper)(S:St):Option St:=
 match cm X bO o S.ev S.h S.n with
 |some (v,h,n)=>some (({S with h:=h,n:=n}:St).set o.dst v)
 |none=>none
def V.Mn:V->Bool
 | .int .. =>true
 | .bool _=>true
 | .str _=>true
 | .sl _ es=>es.isEmpty
 | .qs=>true
 | .bU .. =>true
 | .ptr .. =>true
 | .bad=>true
 | .fn _ [] []=>true
 |_=>false
def V.Jw:V->Bool
 | .agg cs=>cs.all V.Mn
 |v=>v.Mn
def V.pu:V->Bool
 | .de vs=>vs.all V.Jw
 |v=>v.Jw
def jz:Option Ob->Option Ob
 |some ob=>if ob.es.all V.Jw then some ob else none
 |none=>none
def V.cellAt(v:V)(i j:Nat):V:=
 match v with
 | .de vs=>(vs.getD i .bad).cells.getD j .bad
 |v=>if i=0 then v.cells.getD j .bad else .bad
def oS(F:Nat->V->V):Nat->List V->List V
 |_,[]=> []
 |j,c::cs=>F j c::oS F (j+1) cs
def ry(F:Nat->V->V):V->V
 | .agg cs=> .agg (oS F 0 cs)
 |v=>F 0 v
def rR(F:Nat->Nat->V->V):V->V
 | .de vs=> .de (oS (fun i v=>ry (F i) v) 0 vs)
 |v=>ry (F 0) v
def V.src:V->Option Nat
 | .bU id _ _=>some id
 |_=>none
def differ:Option Nat->Option Nat->Bool
 |some a,some b=>a !=b
 |_,_=>true
def rS:List (Option Nat)->Bool
 | []=>true
 |a::r=>r.all (differ a)&&rS r
def ep(h:aY):List (Option Nat)->aY
 | []=>h
 |some id::r=>aO (ep h r) id none
 |none::r=>ep h r
def rowAt(X:Env)(h hx:aY)(t:TypeId)(c:V):Option (List V):=
 match c with
 | .sl true []=>some []
 | .bU id s l=>match h id with
  |some ob=>if ob.k=(X.ti t).size/\s+l<=ob.es.length then match cn (((ob.es.drop s).take l).map (bT hx depth)) with
    |some es=>some (df es)
    |none=>none
   else none
  |none=>none
 |_=>none
abbrev Mask:=List (Nat×Nat×TypeId)
def kM:Nat->Mask->Nat->Nat->Option (Nat×TypeId)
 |_,[],_,_=>none
 |n,(a,b,t)::r,i,j=>if a=i/\b=j then some (n,t) else kM (n+1) r i j
def jH(X:Env)(h hx:aY)(m:Mask)(i j:Nat)(c:V):V:=
 match kM 0 m i j with
 |some (_,t)=>match rowAt X h hx t c with
  |some es=> .sl false es
  |none=> .bad
 |none=>match bT hx depth c with
  |some c'=>c'.jm
  |none=> .bad
def eZ(v:V)(m:Mask):List (Option Nat):=m.map fun q=>(v.cellAt q.1 q.2.1).src
def xG(X:Env)(h hx:aY)(v:V)(m:Mask):Option V:=
 if rS (eZ v m)&&m.all (fun q=>(rowAt X h hx q.2.2 (v.cellAt q.1 q.2.1)).isSome) then some (rR (jH X h hx m) v) else none
def GC(X:Env)(h:aY)(v:V)(m:Mask):Option V:=xG X h (ep h (eZ v m)) v m
def rT(n:Nat)(m:Mask):V->V:=rR fun i j c=>
 match kM n m i j with
 |some (q,_)=>match c with
  | .sl _ es=> .bU q 0 es.length
  |_=> .bad
 |none=>c
def xH(X:Env)(kp:TypeId->Bool)(R:V)(q:Nat×Nat×TypeId):Option Ob:=
 match R.cellAt q.1 q.2.1 with
 | .sl _ es=>some ⟨(X.ti q.2.2).size,es,kp q.2.2⟩
 |_=>none
def tZ(X:Env)(kp:TypeId->Bool)(R:V):Nat->Mask->aY->aY
 |_,[],h=>h
 |n,q::m,h=>aO (tZ X kp R (n+1) m h) n (xH X kp R q)
def mY(h:aY):List V->Option (List V×aY)
 | []=>some ([],h)
 |v::r=>match qu h v with
  |some (v',h1)=>match mY h1 r with
   |some (r',h2)=>some (v'::r',h2)
   |none=>none
  |none=>none
def nF(e v:V):V:=
 match v with
 | .de vs=> .de (e::vs)
 |v=> .de [e,v]
def uq(v:V)(vs:List V):V:=
 match v with
 | .de _=> .de vs
 |_=>vs.headD .bad
def o7(X:Env)(bO:FuncId)(dst:Option Nat)(g:FuncId):Mask:=X.dM g++(dst.elim [] (X.mask bO)).map fun q=>(q.1+1,q.2.1,q.2.2)
def xJ(X:Env)(M:Mask)(v:V)(h:aY):Option (Nat×V×List V):=
 match h 0 with
 |some lU=>
  match lU.es with
  | [e']=>if lU.dG then
    match GC X (aO h 0 none) (nF e' v) M with
    |some (.de (r::rs))=>some (lU.k,r,rs)
    |_=>none
   else none
  |_=>none
 |none=>none
def kg(X:Env)(g:FuncId)(k:Nat)(R:V):aY:=tZ X (X.eh g) R 1 (X.dM g) (aO (fun _=>none) 0 (some ⟨k,[rT 1 (X.dM g) R],true⟩))
def Bn:V->V
 | .de (v::_)=>v
 |_=> .bad
def Mo:V->List V
 | .de (_::vs)=>vs
 |_=> []
def rU(X:Env)(call:iz)(bO:FuncId)(dst:Option Nat)(g:FuncId)(args:List V)(S:St):Option St:=
 match args with
 | .ptr id 0 0::rest=>
  match S.h id with
  |some ob=>
   match ob.es with
   | [e]=>
    if ob.dG then
     match xG X (aO S.h id none) (fun _=>none) e (X.dM g) with
     |some R=>
      match mY (ep (aO S.h id none) (eZ e (X.dM g))) rest with
      |some (bez,h1)=>
       match call g (.ptr 0 0 0::bez) (kg X g ob.k R) (1+(X.dM g).length) with
       |some (v,h,_)=>
        match xJ X (o7 X bO dst g) v h with
        |some (k',r,rs)=>
         some ((⟨S.f,tZ X (X.eh bO) (.de (r::rs)) S.n (o7 X bO dst g) (aO h1 id (some ⟨k',[Bn (rT S.n (o7 X bO dst g) (.de (r::rs)))],true⟩)),S.n+(o7 X bO dst g).length⟩:St).set dst
          (uq v (Mo (rT S.n (o7 X bO dst g) (.de (r::rs))))))
        |none=>none
       |none=>none
      |none=>none
     |none=>none
    else none
   |_=>none
  |none=>none
 |_=>none
def kN(X:Env)(call:iz)(bO:FuncId)(dst:Option Nat)(g:FuncId)(args:List V)(S:St):Option St:=
 match mY S.h args with
 |some (bez,h1)=>
  match call g bez (fun _=>none) 0 with
  |some (v,h,_)=>
   match GC X h v (dst.elim [] (X.mask bO)) with
   |some r=>some ((⟨S.f,tZ X (X.eh bO) r S.n (dst.elim [] (X.mask bO)) h1,S.n+(dst.elim [] (X.mask bO)).length⟩:St).set dst (rT S.n (dst.elim [] (X.mask bO)) r))
   |none=>none
  |none=>none
 |none=>none
def eK(X:Env)(call:iz)(bO:FuncId)(dst:Option Nat)(g:FuncId)(args:List V)(S:St):Option St:=
 match X.clone g with
 |some t=>
  match args with
  | [s]=>match elems S.h s with
   |some (es,kx)=>if s.isStr||(kx&& !X.eh bO (X.ti t).elem)|| !(es.all fun v=>v.cells.length==(X.ti (X.ti t).elem).size)|| !decide (es.length*(X.ti (X.ti t).elem).bytes<=2^47/\es.length<=2^62) then none else some ((S.new ⟨(X.ti (X.ti t).elem).size,es,X.eh bO (X.ti t).elem⟩).set dst (.bU S.n 0 es.length))
   |none=>none
  |_=>none
 |none=>
 if X.fw g&& !X.low g then
  match call g args S.h S.n with
  |some (v,h,n)=>some (({S with h:=h,n:=n}:St).set dst v)
  |none=>none
 else if X.eJ g then rU X call bO dst g args S
 else if !(dst.elim [] (X.mask bO)).isEmpty then kN X call bO dst g args S
 else
  match cn (args.map (bT S.h depth)) with
  |some bez=>
   if dst.any (X.mX bO)&& !X.low g then
    match call g (df bez) (fun _=>none) S.n with
    |some (v,h,n)=>if args.any V.tY&& !v.pu then none else some (({S with h:=fun id=>if id<S.n then S.h id else if args.any V.tY then jz (h id) else h id,n:=n}:St).set dst v)
    |none=>none
   else
    match call g (df bez) (fun _=>none) 0 with
    |some (v,h,_)=>match bT h depth v with
     |some v=>if args.any V.tY&& !v.scalar then none else some (S.set dst v.jm)
     |none=>none
    |none=>none
  |none=>none
def dH(X:Env)(call:iz)(bO:FuncId)(n0 j:Nat)(o:Oper)(S:St):Option St:=
 match o.op with
 | .call ⟨.value x,args,_⟩=>
  match S.ev x with
  | .fn g first AI=>eK X call bO o.dst g (first++args.toList.map S.ev++AI) S
  |_=>none
 |_=>
  match cm X bO o S.ev S.h (n0+j) with
  |some (v,h,_)=>some (({S with h:=h}:St).set o.dst v)
  |none=>none
def eu(X:Env)(call:iz)(bO:FuncId)(cG:List (Option Nat))(n0:Nat):Nat->List Oper->St->Option St
 |_,[],S=>some S
 |k,o::r,S=>
  match o.guard with
  |none=>match dH X call bO n0 k o S with|some S1=>eu X call bO cG n0 (k+1) r S1|none=>none
  |some (j,want)=>
   match cG[j]? with
   |some (some d)=>match S.f d with
    | .bool b=>if b=want then(match dH X call bO n0 k o S with|some S1=>eu X call bO cG n0 (k+1) r S1|none=>none) else eu X call bO cG n0 (k+1) r (S.set o.dst (.de []))
    | .de []=>eu X call bO cG n0 (k+1) r (S.set o.dst (.de []))
    |_=>none
   |_=>none
inductive Ex where
 |normal
 |exit (id:Nat)
 |ret
 deriving DecidableEq
def k9(X:Env)(rs:List ResultVar)(S:St):Option V:=
 match cn (rs.map fun
  | .tmp t=>some (S.f t)
  | .cell a t=>match S.f a with
   | .ptr id i f=>match S.h id with
    |some ob=>match ob.es[i]? with
     |some e=>part (X.ti t) e.cells f
     |none=>none
    |none=>none
   |_=>none) with
 |some [v]=>some v
 |some vs=>some (.de vs)
 |none=>none
def mS(args:List V):Nat->V:=fun t=>match args[t]? with|some v=>v|none=> .bad
abbrev Ev:=FuncId->Code->St->Option (Ex×St)
def so(X:Env)(rs:List ResultVar):Option (Ex×St)->Option (V×aY×Nat)
 |some (.normal,S)=>match k9 X rs S with|some v=>some (v,S.h,S.n)|none=>none
 |some (.ret,S)=>match k9 X rs S with|some v=>some (v,S.h,S.n)|none=>none
 |_=>none
def cW(X:Env)(E:Ev):iz:=fun g args h k=>
 match X.P.funcs[g]? with
 |some fn=>match fn.body with
  |some b=>so X fn.results.toList (E g b ⟨mS args,h,k⟩)
  |none=>none
 |none=>none
def DV(cG:List (Option Nat))(o:Oper)(S1:St):Prop:=
 match o.guard with
 |some (j,want)=>(match cG[j]? with
  |some (some d)=>S1.f d= .de []\/S1.f d= .bool (!want)
  |_=>False)
 |none=>False
def jA(X:Env)(call:iz)(bO:FuncId)(ops:List Oper)(n0:Nat)(S0 S1:St)(l:List (Nat×Nat)):Prop:=
 ∀q∈l,(∃o,ops[q.1]?=some o/\DV (ops.map (·.dst)) o S1)\/(∃o T v,ops[q.1]?=some o/\eu X call bO (ops.map (·.dst)) n0 0 (ops.take q.2) S0=some T/\
  cm X bO o S1.ev T.h (n0+q.1)=some (v,T.h,n0+q.1)/\ ∀d,o.dst=some d->S1.f d=v)
def Loc.val(S:St):Loc->V
 | .box t=>S.f t
 | .slot t=>S.f t
 | .cell t j=>match S.f t with
  | .ptr id 0 0=>match S.h id with
   |some ob=>match ob.es with
    | [e]=>e.cells.getD j .bad
    |_=> .bad
   |none=> .bad
  |_=> .bad
def V.root:V->Option Nat
 | .bU id _ _=>some id
 | .ptr id 0 0=>some id
 |_=>none
def V.boxed:V->Option Nat
 | .ptr id 0 0=>some id
 |_=>none
def look(S:St)(id:Nat):List Gr->Option Nat
 | []=>none
 |a::r=>if(a.loc.val S).root=some id then some a.new else look S id r
def V.wide:V->V
 | .sl _ es=> .sl false es
 |v=>v
def fixC(S:St)(N:Norm)(hx:aY):V->V
 | .bU id s l=>match look S id N.roots with
  |some j=> .bU j s l
  |none=>match bT hx depth (.bU id s l) with
   |some v=>v
   |none=> .bad
 | .ptr id i f=>match look S id N.roots with
  |some j=> .ptr j i f
  |none=> .bad
 |v=>if v.oR then v.wide else .bad
def E3(S:St)(N:Norm)(hx:aY):V->V
 | .agg cs=> .agg (cs.map (fixC S N hx))
 |v=>fixC S N hx v
def Dd(S:St)(N:Norm)(hx:aY):V->V
 | .de vs=> .de (vs.map (E3 S N hx))
 | .fn g a b=> .fn g (a.map (E3 S N hx)) (b.map (E3 S N hx))
 | .ref cs=> .ref cs
 |v=>E3 S N hx v
def vo(t:Nat):List Gr->Option Nat
 | []=>none
 |a::r=>if a.loc= .slot t then some a.new else vo t r
def nd(S:St)(id j:Nat):List Gr->Option Nat
 | []=>none
 |a::r=>match a.loc with
  | .cell t j'=>if j'=j/\(S.f t).boxed=some id then some a.new else nd S id j r
  |_=>nd S id j r
def ub(o:Option Nat)(v w:V):V:=
 match v with
 | .sl true []=>match o with
  |some n=> .bU n 0 0
  |none=>w
 |_=>w
def wh(S:St)(N:Norm)(hx:aY)(id:Nat):Nat->List V->List V
 |_,[]=> []
 |j,c::cs=>ub (nd S id j N.roots) c (fixC S N hx c)::wh S N hx id (j+1) cs
def GD(S:St)(N:Norm)(hx:aY)(id:Nat):V->V
 | .agg cs=> .agg (wh S N hx id 0 cs)
 |v=>ub (nd S id 0 N.roots) v (fixC S N hx v)
def Bo(S:St)(N:Norm)(hx:aY)(id:Nat):Option Ob->Option Ob
 |some ob=>
  if ob.dG then
   match ob.es with
   | [e]=>some ⟨ob.k,[GD S N hx id e],true⟩
   |es=>if es.all V.JJ then some ob else none
  else some ob
 |none=>none
def fixF(S:St)(N:Norm)(hx:aY):List Nat->Nat->V
 | []=>fun _=> .bad
 |t::r=>aO (fixF S N hx r) t (ub (vo t N.roots) (S.f t) (Dd S N hx (S.f t)))
def JL(S:St)(N:Norm)(hx:aY)(k:Nat)(dG:Bool):V->Option Ob
 | .sl true []=>some ⟨k,[],dG⟩
 |v=>match v.root with
  |some id=>Bo S N hx id (S.h id)
  |none=>none
def Gr.ob(S:St)(N:Norm)(hx:aY)(a:Gr):Option Ob:=JL S N hx a.k a.dG (a.loc.val S)
def JM(S:St)(N:Norm)(hx:aY):List Gr->aY
 | []=>fun _=>none
 |a::r=>aO (JM S N hx r) a.new (a.ob S N hx)
def Norm.pY(N:Norm)(S:St):List (Option Nat):=N.roots.map fun a=>(a.loc.val S).root
def kF(id:Nat):List Gr->Option Gr
 | []=>none
 |a::r=>if a.new=id then some a else kF id r
def Norm.first(N:Norm)(S:St):Bool:=
 match N.base,N.roots with
 |false,_=>true
 |true,a::_=>a.new==0&& (a.loc.val S).root==some 0
 |_,_=>false
def Norm.ok(N:Norm):Bool:=decide (1<=N.n)&&N.roots.all (fun a=>decide (a.new<N.n)&& (match kF a.new N.roots with|some b=>decide (b.loc=a.loc)|none=>false))
def Norm.run(N:Norm)(S:St):Option St:=
 if rS (N.pY S)&&N.first S then
  some ⟨fixF S N (ep S.h (N.pY S)) N.aje,JM S N (ep S.h (N.pY S)) N.roots,N.n⟩
 else none
def gZ:Code->Nat
 | .region id _ _=>id
 | .seq a _=>gZ a
 | .block _ b=>gZ b
 | .loop b=>gZ b
 |_=>0
def mj(X:Env)(bO:FuncId)(key:Nat)(S:St):Option St:=
 match X.norm bO key with
 |some N=>N.run S
 |none=>some S
open Classical in
noncomputable def iP(X:Env)(E:Ev):Ev:=fun bO c S=>
 match c with
 | .skip=>some (.normal,S)
 | .region id ops _=>match mj X bO (2*id) S with
  |some S=>match eu X (cW X E) bO (ops.toList.map (·.dst)) S.n 0 ops.toList {S with n:=S.n+ops.size} with
   |some S1=>if jA X (cW X E) bO ops.toList S.n {S with n:=S.n+ops.size} S1 (X.rq bO id) then some (.normal,S1) else none
   |none=>none
  |none=>none
 | .seq a b=>match E bO a S with
  |some (.normal,S1)=>E bO b S1
  |r=>r
 | .cond x a b=>match S.ev x with
  | .bool t=>if t then E bO a S else E bO b S
  |_=>none
 | .block id b=>match E bO b S with
  |some (.exit i,S1)=>if i=id then some (.normal,S1) else some (.exit i,S1)
  |r=>r
 | .loop b=>match mj X bO (2*gZ b+1) S with
  |some S=>match E bO b S with
   |some (.normal,S1)=>E bO (.loop b) S1
   |r=>r
  |none=>none
 | .exit id=>some (.exit id,S)
 | .ret=>some (.ret,S)
 |_=>none
noncomputable def qH(X:Env):Nat->Ev
 |0=>fun _ _ _=>none
 |n+1=>iP X (qH X n)
def iz.le(c d:iz):Prop:= ∀g a h k r,c g a h k=some r->d g a h k=some r
def Ev.le(c d:Ev):Prop:= ∀f b S r,c f b S=some r->d f b S=some r
theorem jQ{X:Env}{E E':Ev}(h:E.le E'):(cW X E).le (cW X E'):=by
 intro g a hp k r hr;unfold cW at hr⊢;split at hr
 ·rename_i fn hf;split at hr
  ·rename_i b hb;cases he:E g b ⟨mS a,hp,k⟩ with
   |none=>simp[he,so]at hr
   |some x=>rw[h _ _ _ _ he];rw[he]at hr;exact hr
  ·cases hr
 ·cases hr
theorem NA{X:Env}{c d:iz}(h:c.le d){bO dst g args S r}(hr:rU X c bO dst g args S=some r):rU X d bO dst g args S=some r:=by
 unfold rU at hr⊢;split at hr
 case h_2=>cases hr
 rename_i id rest;cases ho:S.h id with
 |none=>simp[ho]at hr
 |some ob=>
  simp only[ho]at hr⊢;split at hr
  case h_2=>cases hr
  rename_i e he;split at hr
  case isFalse=>cases hr
  rename_i hk;rw[if_pos hk];split at hr
  case h_2=>cases hr
  rename_i R hR;split at hr
  case h_2=>cases hr
  rename_i bez h1 hg;cases h5:c g (.ptr 0 0 0::bez) (kg X g ob.k R) (1+(X.dM g).length) with
  |none=>simp[h5]at hr
  |some x=>rw[h _ _ _ _ _ h5];rw[h5]at hr;exact hr
theorem GF{X:Env}{c d:iz}(h:c.le d){bO dst g args S r}(hr:kN X c bO dst g args S=some r):kN X d bO dst g args S=some r:=by
 unfold kN at hr⊢;split at hr
 case h_2=>cases hr
 rename_i bez h1 hg;cases h5:c g bez (fun _=>none) 0 with
 |none=>simp[h5]at hr
 |some x=>rw[h _ _ _ _ _ h5];rw[h5]at hr;exact hr
theorem GH{X:Env}{c d:iz}(h:c.le d){bO dst g args S r}(hr:eK X c bO dst g args S=some r):eK X d bO dst g args S=some r:=by
 unfold eK at hr⊢;cases h1:X.clone g with
 |some t=>simp only[h1]at hr⊢;exact hr
 |none=>
  simp only[h1]at hr⊢;by_cases h2:(X.fw g&& !X.low g)=true
  ·simp only[h2,if_true]at hr⊢;cases h5:c g args S.h S.n with
   |none=>simp[h5]at hr
   |some x=>rw[h _ _ _ _ _ h5];rw[h5]at hr;exact hr
  ·simp only[h2,if_false,Bool.false_eq_true]at hr⊢;by_cases rC:X.eJ g=true
   ·simp only[rC,if_true]at hr⊢;exact NA h hr
   simp only[rC,if_false,Bool.false_eq_true]at hr⊢;by_cases xK:(!(dst.elim [] (X.mask bO)).isEmpty)=true
   ·simp only[xK,if_true]at hr⊢;exact GF h hr
   simp only[xK,if_false,Bool.false_eq_true]at hr⊢;cases h3:cn (args.map (bT S.h depth)) with
   |none=>simp[h3]at hr
   |some bez=>
    simp only[h3]at hr⊢;by_cases h4:(dst.any (X.mX bO)&& !X.low g)=true
    ·simp only[h4,if_true]at hr⊢;cases h5:c g (df bez) (fun _=>none) S.n with
     |none=>simp[h5]at hr
     |some x=>rw[h _ _ _ _ _ h5];rw[h5]at hr;exact hr
    ·simp only[h4,if_false,Bool.false_eq_true]at hr⊢;cases h5:c g (df bez) (fun _=>none) 0 with
     |none=>simp[h5]at hr
     |some x=>rw[h _ _ _ _ _ h5];rw[h5]at hr;exact hr
theorem ur{X:Env}{c d:iz}(h:c.le d){bO n0 j o S r}(hr:dH X c bO n0 j o S=some r):dH X d bO n0 j o S=some r:=by
 unfold dH at hr⊢;split at hr
 ·split at hr
  ·exact GH h hr
  ·cases hr
 ·exact hr
theorem lI{X:Env}{c d:iz}(h:c.le d){bO cG n0}: ∀{k l S r},eu X c bO cG n0 k l S=some r->eu X d bO cG n0 k l S=some r
 |_,[],S,r,hr=>hr
 |k,o::l,S,r,hr=>by
  unfold eu at hr⊢;split at hr
  ·split at hr
   ·rename_i S1 h1;rw[ur h h1];exact lI h hr
   ·cases hr
  ·split at hr
   ·split at hr
    ·split at hr
     ·split at hr
      ·rename_i S1 h1;rename_i hif _;simp only[hif,if_true];rw[ur h h1];exact lI h hr
      ·cases hr
     ·rename_i hif;simp only[hif,if_false];exact lI h hr
    ·exact lI h hr
    ·cases hr
   ·cases hr
theorem jA.mono{X:Env}{c d:iz}(h:c.le d){bO ops n0 S0 S1 l}(hs:jA X c bO ops n0 S0 S1 l):jA X d bO ops n0 S0 S1 l:=by
 intro q hq;rcases hs q hq with hk|⟨o,T,v,h1,h2,h3⟩
 ·exact .inl hk
 ·exact .inr ⟨o,T,v,h1,lI h h2,h3⟩
theorem Bp{X:Env}{E E':Ev}(h:E.le E'):(iP X E).le (iP X E'):=by
 intro f c S r hr;unfold iP at hr⊢;split at hr
 ·exact hr
 ·split at hr
  case h_2=>cases hr
  rename_i S0 hn;split at hr
  ·rename_i S1 h1;split at hr
   ·rename_i hs;rw[lI (jQ h) h1];simp only[hs.mono (jQ h),if_true];exact hr
   ·cases hr
  ·cases hr
 ·rename_i a b;cases ha:E f a S with
  |none=>simp[ha]at hr
  |some x=>
   rw[h _ _ _ _ ha];rw[ha]at hr;obtain⟨e,S1⟩:=x;cases e with
   |normal=>exact h _ _ _ _ hr
   |exit i=>exact hr
   |ret=>exact hr
 ·split at hr
  ·split at hr
   ·rename_i ht;simp only[ht,if_true];exact h _ _ _ _ hr
   ·rename_i ht;simp only[ht,if_false,Bool.false_eq_true];exact h _ _ _ _ hr
  ·cases hr
 ·rename_i id b;cases hb:E f b S with
  |none=>simp[hb]at hr
  |some x=>rw[h _ _ _ _ hb];rw[hb]at hr;exact hr
 ·rename_i b;split at hr
  case h_2=>cases hr
  rename_i S0 hn;cases hb:E f b S0 with
  |none=>simp[hb]at hr
  |some x=>
   rw[h _ _ _ _ hb];rw[hb]at hr;obtain⟨e,S1⟩:=x;cases e with
   |normal=>exact h _ _ _ _ hr
   |exit i=>exact hr
   |ret=>exact hr
 ·exact hr
 ·exact hr
 ·cases hr
theorem Q8(X:Env): ∀n,(qH X n).le (qH X (n+1))
 |0=>by intro f c S r hr;simp[qH]at hr
 |n+1=>Bp (Q8 X n)
theorem mZ(X:Env){n m:Nat}(h:n<=m):(qH X n).le (qH X m):=by
 induction h with
 |refl=>intro f c S r hr;exact hr
 |step _ ih=>intro f c S r hr;exact Q8 X _ _ _ _ _ (ih _ _ _ _ hr)
open Classical in
noncomputable def ev(X:Env):Ev:=fun f c S=>if h: ∃n,∃r,qH X n f c S=some r then some h.choose_spec.choose else none
theorem o8{X:Env}{f c S r}:ev X f c S=some r↔ ∃n,qH X n f c S=some r:=by
 unfold ev;constructor
 ·intro h;split at h
  ·rename_i hx;have:=hx.choose_spec.choose_spec;exact⟨hx.choose,by rw[this];simpa using h⟩
  ·cases h
 ·rintro⟨n,hn⟩;have hx: ∃n,∃r,qH X n f c S=some r:=⟨n,r,hn⟩;rw[dif_pos hx];have h2:=hx.choose_spec.choose_spec;have h3:=mZ X (Nat.le_max_left n hx.choose) _ _ _ _ hn;have h4:=mZ X (Nat.le_max_right n hx.choose) _ _ _ _ h2;rw[h3]at h4;simp only[au]at h4;rw[h4]
theorem NB(X:Env)(n:Nat):(qH X n).le (ev X):=fun _ _ _ _ h=>o8.2 ⟨n,h⟩
theorem l7{X:Env}{g a h k r}(hr:cW X (ev X) g a h k=some r): ∃n,cW X (qH X n) g a h k=some r:=by
 unfold cW at hr;split at hr
 ·rename_i fn hf;split at hr
  ·rename_i b hb;cases he:ev X g b ⟨mS a,h,k⟩ with
   |none=>simp[he,so]at hr
   |some x=>
    obtain⟨n,hn⟩:=o8.1 he;exact⟨n,by unfold cW;simp only[hf,hb,hn];rw[he]at hr;exact hr⟩
  ·cases hr
 ·cases hr
theorem NC{X:Env}{bO dst g args S r}(hr:rU X (cW X (ev X)) bO dst g args S=some r): ∃n,rU X (cW X (qH X n)) bO dst g args S=some r:=by
 unfold rU at hr;split at hr
 case h_2=>cases hr
 rename_i id rest;cases ho:S.h id with
 |none=>simp[ho]at hr
 |some ob=>
  simp only[ho]at hr;split at hr
  case h_2=>cases hr
  rename_i e he;split at hr
  case isFalse=>cases hr
  rename_i hk;split at hr
  case h_2=>cases hr
  rename_i R hR;split at hr
  case h_2=>cases hr
  rename_i bez h1 hg;cases h5:cW X (ev X) g (.ptr 0 0 0::bez) (kg X g ob.k R) (1+(X.dM g).length) with
  |none=>simp[h5]at hr
  |some x=>
   obtain⟨n,hn⟩:=l7 h5;rw[h5]at hr;exact⟨n,by unfold rU;simp only[ho,he,hk,if_true,hR,hg,hn];exact hr⟩
theorem GJ{X:Env}{bO dst g args S r}(hr:kN X (cW X (ev X)) bO dst g args S=some r): ∃n,kN X (cW X (qH X n)) bO dst g args S=some r:=by
 unfold kN at hr;split at hr
 case h_2=>cases hr
 rename_i bez h1 hg;cases h5:cW X (ev X) g bez (fun _=>none) 0 with
 |none=>simp[h5]at hr
 |some x=>
  obtain⟨n,hn⟩:=l7 h5;rw[h5]at hr;exact⟨n,by unfold kN;simp only[hg,hn];exact hr⟩
theorem GK{X:Env}{bO dst g args S r}(hr:eK X (cW X (ev X)) bO dst g args S=some r): ∃n,eK X (cW X (qH X n)) bO dst g args S=some r:=by
 unfold eK at hr;cases h1:X.clone g with
 |some t=>exact⟨0,by unfold eK;simp only[h1]at hr⊢;exact hr⟩
 |none=>
  simp only[h1]at hr;by_cases h2:(X.fw g&& !X.low g)=true
  ·simp only[h2,if_true]at hr;cases h5:cW X (ev X) g args S.h S.n with
   |none=>simp[h5]at hr
   |some x=>
    obtain⟨n,hn⟩:=l7 h5;rw[h5]at hr;exact⟨n,by unfold eK;simp only[h1,h2,if_true,hn];exact hr⟩
  ·simp only[h2,if_false,Bool.false_eq_true]at hr;by_cases rC:X.eJ g=true
   ·simp only[rC,if_true]at hr;obtain⟨n,hn⟩:=NC hr;exact⟨n,by unfold eK;simp only[h1,h2,if_false,Bool.false_eq_true,rC,if_true,hn]⟩
   simp only[rC,if_false,Bool.false_eq_true]at hr;by_cases xK:(!(dst.elim [] (X.mask bO)).isEmpty)=true
   ·simp only[xK,if_true]at hr;obtain⟨n,hn⟩:=GJ hr;exact⟨n,by unfold eK;simp only[h1,h2,if_false,Bool.false_eq_true,rC,xK,if_true,hn]⟩
   simp only[xK,if_false,Bool.false_eq_true]at hr;cases h3:cn (args.map (bT S.h depth)) with
   |none=>simp[h3]at hr
   |some bez=>
    simp only[h3]at hr;by_cases h4:(dst.any (X.mX bO)&& !X.low g)=true
    ·simp only[h4,if_true]at hr;cases h5:cW X (ev X) g (df bez) (fun _=>none) S.n with
     |none=>simp[h5]at hr
     |some x=>
      obtain⟨n,hn⟩:=l7 h5;rw[h5]at hr;exact⟨n,by unfold eK;simp only[h1,if_false,Bool.false_eq_true,h2,rC,xK,h3,h4,if_true,hn];exact hr⟩
    ·simp only[h4,if_false,Bool.false_eq_true]at hr;cases h5:cW X (ev X) g (df bez) (fun _=>none) 0 with
     |none=>simp[h5]at hr
     |some x=>
      obtain⟨n,hn⟩:=l7 h5;rw[h5]at hr;exact⟨n,by unfold eK;simp only[h1,if_false,Bool.false_eq_true,h2,rC,xK,h3,h4,hn];exact hr⟩
theorem GL{X:Env}{bO n0 j o S r}(hr:dH X (cW X (ev X)) bO n0 j o S=some r): ∃n,dH X (cW X (qH X n)) bO n0 j o S=some r:=by
 unfold dH at hr;split at hr
 ·rename_i x args jP ho;split at hr
  ·rename_i g first AI hx
   obtain⟨n,hn⟩:=GK hr;exact⟨n,by unfold dH;simp only[ho,hx];exact hn⟩
  ·cases hr
 ·rename_i iK;refine⟨0,?_⟩;unfold dH;split
  ·rename_i x args jP ho;exact absurd ho (iK x args jP)
  ·exact hr
theorem qI{X:Env}{bO cG n0}: ∀{k l S r},eu X (cW X (ev X)) bO cG n0 k l S=some r-> ∃n,eu X (cW X (qH X n)) bO cG n0 k l S=some r
 |_,[],S,r,hr=>⟨0,hr⟩
 |k,o::l,S,r,hr=>by
  have two: ∀{S1},dH X (cW X (ev X)) bO n0 k o S=some S1->eu X (cW X (ev X)) bO cG n0 (k+1) l S1=some r-> ∃n,dH X (cW X (qH X n)) bO n0 k o S=some S1/\eu X (cW X (qH X n)) bO cG n0 (k+1) l S1=some r:=by
   intro S1 h1 h2;obtain⟨a,ha⟩:=GL h1;obtain⟨b,hb⟩:=qI h2;exact⟨max a b,ur (jQ (mZ X (Nat.le_max_left a b))) ha,lI (jQ (mZ X (Nat.le_max_right a b))) hb⟩
  unfold eu at hr;split at hr
  ·rename_i hg;split at hr
   ·rename_i S1 h1;obtain⟨n,ha,hb⟩:=two h1 hr;exact⟨n,by unfold eu;simp only[hg,ha];exact hb⟩
   ·cases hr
  ·rename_i j want hg;split at hr
   ·rename_i d hd;split at hr
    ·rename_i b hb0;split at hr
     ·rename_i hif;split at hr
      ·rename_i S1 h1;obtain⟨n,ha,hb⟩:=two h1 hr;exact⟨n,by unfold eu;simp only[hg,hd,hb0,hif,if_true,ha];exact hb⟩
      ·cases hr
     ·rename_i hif;obtain⟨n,hn⟩:=qI hr;exact⟨n,by unfold eu;simp only[hg,hd,hb0,hif,if_false];exact hn⟩
    ·rename_i hnb;obtain⟨n,hn⟩:=qI hr;refine⟨n,?_⟩;unfold eu;simp only[hg,hd,hnb];exact hn
    ·cases hr
   ·cases hr
theorem jA.cont{X:Env}{bO ops n0 S0 S1}: ∀{l},jA X (cW X (ev X)) bO ops n0 S0 S1 l-> ∃n,jA X (cW X (qH X n)) bO ops n0 S0 S1 l
 | [],_=>⟨0,fun q hq=>by cases hq⟩
 |q::l,hs=>by
  obtain⟨a,ha⟩:=jA.cont (l:=l) fun x hx=>hs x (List.mem_cons_of_mem _ hx);rcases hs q (List.mem_cons_self ..) with hk|⟨o,T,v,h1,h2,h3⟩
  ·refine⟨a,fun x hx=> ?_⟩;rcases List.mem_cons.1 hx with rfl|hx
   ·exact .inl hk
   ·exact ha x hx
  obtain⟨b,hb⟩:=qI h2;refine⟨max a b,fun x hx=> ?_⟩;rcases List.mem_cons.1 hx with rfl|hx
  ·exact .inr ⟨o,T,v,h1,lI (jQ (mZ X (Nat.le_max_right a b))) hb,h3⟩
  ·exact ha.mono (jQ (mZ X (Nat.le_max_left a b))) x hx
theorem JN{X:Env}{f c S r}(hr:iP X (ev X) f c S=some r): ∃n,iP X (qH X n) f c S=some r:=by
 have ajf: ∀{a b:Code} {S S1 r},ev X f a S=some (.normal,S1)->ev X f b S1=some r-> ∃n,qH X n f a S=some (.normal,S1)/\qH X n f b S1=some r:=by
  intro a b S S1 r h1 h2;obtain⟨p,hp⟩:=o8.1 h1;obtain⟨q,hq⟩:=o8.1 h2;exact⟨max p q,mZ X (Nat.le_max_left p q) _ _ _ _ hp,mZ X (Nat.le_max_right p q) _ _ _ _ hq⟩
 cases c with
 |skip=>exact⟨0,hr⟩
 |exit id=>exact⟨0,hr⟩
 |ret=>exact⟨0,hr⟩
 |region id ops d=>
  simp only[iP]at hr⊢;split at hr
  case h_2=>cases hr
  rename_i S0 Jx;split at hr
  ·rename_i S1 h1;split at hr
   ·rename_i hs;obtain⟨n,hn⟩:=qI h1;obtain⟨m,hm⟩:=hs.cont;refine⟨max n m,?_⟩;rw[lI (jQ (mZ X (Nat.le_max_left n m))) hn];simp only[hm.mono (jQ (mZ X (Nat.le_max_right n m))),if_true];exact hr
   ·cases hr
  ·cases hr
 |seq a b=>
  simp only[iP]at hr⊢;cases ha:ev X f a S with
  |none=>simp[ha]at hr
  |some x=>
   obtain⟨e,S1⟩:=x;rw[ha]at hr;cases e with
   |normal=>
    obtain⟨n,h1,h2⟩:=ajf ha hr;exact⟨n,by rw[h1];exact h2⟩
   |exit i=>obtain⟨n,hn⟩:=o8.1 ha;exact⟨n,by rw[hn];exact hr⟩
   |ret=>obtain⟨n,hn⟩:=o8.1 ha;exact⟨n,by rw[hn];exact hr⟩
 |cond x a b=>
  simp only[iP]at hr⊢;split at hr
  ·split at hr
   ·rename_i ht;obtain⟨n,hn⟩:=o8.1 hr;exact⟨n,by simp only[ht,if_true];exact hn⟩
   ·rename_i ht;obtain⟨n,hn⟩:=o8.1 hr;exact⟨n,by simp only[ht,if_false,Bool.false_eq_true];exact hn⟩
  ·cases hr
 |block id b=>
  simp only[iP]at hr⊢;cases hb:ev X f b S with
  |none=>simp[hb]at hr
  |some x=>obtain⟨n,hn⟩:=o8.1 hb;rw[hb]at hr;exact⟨n,by rw[hn];exact hr⟩
 |loop b=>
  simp only[iP]at hr⊢;split at hr
  case h_2=>cases hr
  rename_i S0 Jx;cases hb:ev X f b S0 with
  |none=>simp[hb]at hr
  |some x=>
   obtain⟨e,S1⟩:=x;rw[hb]at hr;cases e with
   |normal=>
    obtain⟨n,h1,h2⟩:=ajf hb hr;exact⟨n,by rw[h1];exact h2⟩
   |exit i=>obtain⟨n,hn⟩:=o8.1 hb;exact⟨n,by rw[hn];exact hr⟩
   |ret=>obtain⟨n,hn⟩:=o8.1 hb;exact⟨n,by rw[hn];exact hr⟩
 |_=>simp[iP]at hr
theorem zQ(X:Env)(f:FuncId)(c:Code)(S:St):ev X f c S=iP X (ev X) f c S:=by
 cases h:iP X (ev X) f c S with
 |some r=>
  obtain⟨n,hn⟩:=JN h;exact o8.2 ⟨n+1,hn⟩
 |none=>
  cases h2:ev X f c S with
  |none=>rfl
  |some r=>
   obtain⟨n,hn⟩:=o8.1 h2;cases n with
   |zero=>simp[qH]at hn
   |succ n=>
    have:=Bp (NB X n) _ _ _ _ hn;rw[h]at this;cases this
noncomputable def cy(X:Env):iz:=cW X (ev X)
noncomputable def cz(X:Env)(g:FuncId)(args:List V):Option V:=
 match cy X g args (fun _=>none) 0 with
 |some (v,h,_)=>(bT h depth v).map V.jm
 |none=>none
end Go.Abs
