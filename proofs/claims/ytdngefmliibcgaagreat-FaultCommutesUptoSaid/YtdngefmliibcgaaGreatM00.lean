/- Part of a proof: engine A1. -/
import Derived.Calls
set_option linter.all false
set_option maxRecDepth 20000
set_option maxHeartbeats 20000000
namespace Go.Abs
open Go
def aaE:=@Nat.add_assoc
def aaF:=@Bool.and_eq_true
def aaG:=@Int.eq_ofNat_of_zero_le
def aaH:=@Int.toNat_natCast
def aaI:=@Nat.le_refl
def aaJ:=@List.getElem?_eq_getElem
def aaK:=@Int.tmod_eq_emod_of_nonneg
def aaL:=@List.getElem_mem
def aaM:=@Bool.false_eq_true
def aaN:=@List.length_set
def aaO:=@List.getElem?_append_right
def aaP:=@List.all_eq_true
def aaQ:=@List.getD_eq_getElem?_getD
def aaR:=@Nat.lt_or_ge
def aaS:=@List.mem_of_mem_take
def aaT:=@List.mem_of_getElem?
def aaU:=@List.map_cons
def aaV:=@List.getElem?_append_left
def aaW:=@Ne.symm
def aaX:=@List.mem_or_eq_of_mem_set
def aaY:=@List.length_append
def aaZ:=@Bool.not_eq_true'
def abh:=@List.mem_of_mem_drop
def abi:=@List.take_length
def abk:=@List.getElem_set
def abm:=@List.getElem?_map
def abA:=@List.ext_getElem?
def abB:=@Array.getD_eq_getD_getElem?
def abC:=@List.getElem?_eq_none
def abD:=@Int.tdiv_eq_ediv_of_nonneg
def abE:=@List.getElem_of_mem
def abF:=@List.length_map
def abG:=@Nat.le_trans
def abH:=@List.map_append
def abI:=@List.map_nil
def abJ:=@List.length_cons
def abK:=@List.getElem?_set
def abL:=@List.map_set
def abM:=@Nat.mul_le_mul_right
def abN:=@List.length_take
def abO:=@List.set_getElem_self
def abP:=@List.eq_nil_of_length_eq_zero
def abQ:=@List.getElem_set_ne
def abR:=@Option.getD_some
def abS:=@Nat.lt_of_lt_of_le
def abT:=@List.getElem?_drop
def abU:=@Array.length_toList
def abV:=@List.getElem?_mapIdx
def abW:=@Int.emod_lt_of_pos
def abX:=@Bool.or_eq_true
def abY:=@List.getElem_set_self
def abZ:=@Option.map_some
def acg:=@List.cons.injEq
def aco:=@List.getElem_cons_zero
def acr:=@List.append_assoc
def acA:=@Nat.add_mul
def acB:=@Bool.false_and
def acC:=@List.getD_cons_zero
def acD:=@Int.emod_nonneg
def acE:=@List.drop_eq_getElem_cons
def acF:=@List.exists_mem_of_ne_nil
def acG:=@Nat.xor_lt_two_pow
def acH:=@List.range_succ
def acI:=@List.set_set
def acJ:=@Array.getElem?_toList
def acK:=@List.contains_iff_mem
def acL:=@Classical.byContradiction
def acM:=@List.length_nil
def acN:=@Nat.zero_add
def acO:=@Bool.not_eq_false
def acP:=@List.getElem_append_left
def acQ:=@List.mem_cons_self
def acR:=@List.getElem_cons_succ
def acS:=@Nat.sub_self
def acT:=@List.length_take_of_le
def acU:=@List.append_nil
def acV:=@Bool.and_eq_false_iff
def acW:=@List.take_add_one
def acX:=@List.foldl_append
def acY:=@List.mem_cons_of_mem
def acZ:=@List.getElem?_set_ne
def adm:=@Nat.le_max_right
def adp:=@Nat.mod_eq_of_lt
def adz:=@List.map_map
def adA:=@Option.getD_none
def adB:=@List.mem_map
def adC:=@List.getElem_map
def adD:=@Array.mapM_eq_mapM_toList
def adE:=@List.getElem_append_right
def adF:=@List.eq_of_mem_replicate
def adG:=@List.getElem?_take_of_lt
def adH:=@Nat.le_max_left
def adI:=@List.getElem?_take
def adJ:=@List.set_cons_zero
def adK:=@List.filter_append
def adL:=@List.mem_singleton
def adM:=@List.length_mapIdx
def adN:=@List.getElem?_cons_zero
def adO:=@Int.le_refl
def adP:=@Nat.lt_trichotomy
def adQ:=@Nat.add_zero
def adR:=@Classical.choose_spec
def adS:=@List.set_append_right
def adT:=@Option.bind_some
def adU:=@Nat.le_of_not_lt
def adV:=@List.length_drop
def adW:=@Nat.le_add_right
def adX:=@Bool.true_and
def adY:=@Bool.not_true
def adZ:=@List.all_cons
def aei:=@List.getElem?_of_mem
def aeu:=@List.foldl_cons
def aew:=@List.mem_append
def aeA:=@Option.some.inj
def aeB:=@List.replicate_succ
def aeC:=@List.map_congr_left
def aeD:=@List.getD_cons_succ
def aeE:=@Nat.zero_mul
def aeF:=@Nat.ne_of_lt
def aeG:=@List.drop_take
def aeH:=@Array.getElem?_map
def aeI:=@List.drop_zero
def aeJ:=@Bool.false_or
def aeK:=@Bool.not_eq_true
def aeL:=@List.not_mem_nil
def aeM:=@List.cons_append
def aeN:=@List.any_eq_true
def aeO:=@Int.ediv_le_self
def aeP:=@List.mapIdx_cons
def aeQ:=@List.nil_append
def aeR:=@List.all_append
def aeS:=@Nat.min_eq_left
def aeT:=@Int.ediv_nonneg
def aeU:=@Int.tmod_nonneg
def aeV:=@List.drop_drop
def aeW:=@List.mapM_cons
def aeX:=@List.mem_range
def aeY:=@List.mem_cons
def aeZ:=@List.sum_cons
def ae1:=@List.map_take
def ae4:=@Nat.zero_le
variable  {i n n1 m:Nat}
def aA{α:Type _}(a b:α):(some a=some b)=(a=b):=Option.some.injEq a b
def bM {α:Type _} {β:Type _} (a:α) (b:β) (c:α) (d:β):((a,b)=(c,d))=(a=c/\b=d):=Prod.mk.injEq a b c d
def aZ {α:Type _} {l:List α}  (h:l.length<=i):l.take i=l:=List.take_of_length_le h
inductive V where
 |int (k:IntKind) (n:Int)
 |bool (b:Bool)
 |str (s:List UInt8)
 |agg (cs:List V)
 |dM (vs:List V)
 |sl (clip:Bool) (es:List V)
 |ref (cs:List V)
 |cu (id start len:Nat)
 |ptr (id i f:Nat)
 |u7
 |OQ (b:Bool)
 |fn (g:FuncId) (first EL:List V)
 |bad
 deriving Inhabited
def V.cells:V->List V
 | .agg cs=>cs
 |v=> [v]
structure Ob where
 k:Nat
 es:List V
 eU:Bool
 deriving Inhabited
structure TI where
 size:Nat
 bytes:Nat
 agg:Bool
 zero:V
 elem:Nat
 wI:List (Nat×Nat)
 arr:Option Nat
 kind:Option IntKind
 wJ:List Nat
 deriving Inhabited
abbrev bh:=Nat->Option Ob
structure St where
 f:Nat->V
 h:bh
 n:Nat
abbrev jm:=FuncId->List V->bh->Nat->Option (V×bh×Nat)
inductive Loc where
 |box (t:Nat)
 |slot (t:Nat)
 |cell (t j:Nat)
 deriving DecidableEq
structure Gr where
 loc:Loc
 new:Nat
 k:Nat
 eU:Bool
structure Norm where
 awq:List Nat
 roots:List Gr
 base:Bool
 n:Nat
structure Prim where
 run:jm->List V->Option V
 mono: ∀(c d:jm) bwf v,(∀g a h k r,c g a h k=some r->d g a h k=some r)->run c bwf=some v->run d bwf=some v
 cont: ∀(c:Nat->jm) (d:jm) bwf v,(∀n g a h k r,c n g a h k=some r->c (n+1) g a h k=some r)->(∀g a h k r,d g a h k=some r-> ∃n,c n g a h k=some r)->run d bwf=some v-> ∃n,run (c n) bwf=some v
structure Env where
 P:Program
 ti:TypeId->TI
 oV:FuncId->Nat->Bool
 hZ:FuncId->Bool
 gm:FuncId->Bool
 clone:FuncId->Option TypeId
 oW:FuncId->Option Prim
 flat:FuncId->Nat->Bool:=fun _ _=>false
 fX:FuncId->TypeId->Bool
 sX:FuncId->Nat->List (Nat×Nat)
 norm:FuncId->Nat->Option Norm
 low:FuncId->Bool
 mask:FuncId->Nat->List (Nat×Nat×TypeId)
 fl:FuncId->List (Nat×Nat×TypeId)
def aR{α:Type}(f:Nat->α)(t:Nat)(v:α):Nat->α:=fun u=>if u=t then v else f u
def St.set(S:St)(d:Option Nat)(v:V):St:=
 match d with
 |some t=>{S with f:=aR S.f t v}
 |none=>S
def St.new(S:St)(o:Ob):St:={S with h:=aR S.h S.n (some o),n:=S.n+1}
def wK:Value->V
 | .bool b=> .bool b
 | .int k n=> .int k n
 | .string s=> .str s.data.toList
 | .pointer none=> .u7
 | .nilIface=> .OQ false
 | .slice none 0 0=> .sl true []
 |_=> .bad
def vO:Value->V
 | .agg cs=> .agg (cs.toList.map wK)
 |v=>wK v
def St.ev(S:St):Operand->V
 | .tmp t=>S.f t
 | .const v=>vO v
 | .func g=> .fn g [] []
 | .global _=> .bad
def cF{α:Type}:List (Option α)->Option (List α)
 | []=>some []
 |none::_=>none
 |some a::r=>match cF r with|some l=>some (a::l)|none=>none
mutual
def V.lM:V->V
 | .sl _ es=> .sl false (eV es)
 | .agg cs=> .agg (eV cs)
 | .dM cs=> .dM (eV cs)
 |v=>v
def eV:List V->List V
 | []=> []
 |c::cs=>c.lM::eV cs
end
def cx(h:bh):Nat->V->Option V
 |_,.int k n=>some (.int k n)
 |_,.bool b=>some (.bool b)
 |_,.str s=>some (.str s)
 |_,.sl c es=>some (.sl c es)
 |_,.u7=>some .u7
 |_,.OQ b=>some (.OQ b)
 |_,.fn g [] []=>some (.fn g [] [])
 |d+1,.agg cs=>match cF (cs.map (cx h d)) with|some l=>some (.agg l)|none=>none
 |d+1,.dM cs=>match cF (cs.map (cx h d)) with|some l=>some (.dM l)|none=>none
 |d+1,.cu id s l=>
  match h id with
  |some o=>
   if s+l<=o.es.length then
    if o.eU then match cF (((o.es.drop s).take l).map (cx h d)) with|some l=>some (.sl false l)|none=>none
    else some (.sl false ((o.es.drop s).take l))
   else none
  |none=>none
 |_,_=>none
def depth:Nat:=12
def V.oX:V->Bool
 | .int .. =>true
 | .bool _=>true
 | .str _=>true
 | .sl .. =>true
 | .u7=>true
 | .OQ _=>true
 | .fn _ [] []=>true
 |_=>false
def V.Pc:V->Bool
 | .agg cs=>cs.all V.oX
 |v=>v.oX
def oY(h:bh)(v:V):Option (V×bh):=
 match v with
 | .cu id s l=>match h id with
  |some ob=>if(!ob.eU||ob.es.all V.Pc)&&decide (s+l<=ob.es.length) then some ((V.sl false ((ob.es.drop s).take l)).lM,aR h id none) else none
  |none=>none
 |v=>if v.oX then some (v.lM,h) else none
def fY(h:bh):List V->Option (List V×bh)
 | []=>some ([],h)
 |c::cs=>match oY h c with
  |some (c',h1)=>match fY h1 cs with
   |some (rS,h2)=>some (c'::rS,h2)
   |none=>none
  |none=>none
def qu(h:bh)(v:V):Option (V×bh):=
 match v with
 | .agg cs=>match fY h cs with|some (rS,h')=>some (.agg rS,h')|none=>none
 |v=>oY h v
def mL(h:bh):List (Nat×V)->Option (List (Nat×V)×bh)
 | []=>some ([],h)
 |(i,v)::r=>match qu h v with
  |some (v',h1)=>match mL h1 r with
   |some (r',h2)=>some ((i,v')::r',h2)
   |none=>none
  |none=>none
def V.leaf:V->Bool
 | .int .. =>true
 | .bool _=>true
 | .str _=>true
 | .u7=>true
 | .OQ _=>true
 |_=>false
def V.xZ:V->Bool
 | .agg cs=>cs.all V.leaf
 |v=>v.leaf
def V.scalar:V->Bool
 | .dM vs=>vs.all V.xZ
 |v=>v.xZ
def V.LL:V->Bool
 | .cu .. =>true
 |_=>false
def V.xN:V->Bool
 | .agg cs=>cs.any V.LL
 | .dM _=>true
 |v=>v.LL
def lz:Nat->List V->List V->List V
 |0,[],xs=>xs
 |0,c::cs,_::xs=>c::lz 0 cs xs
 |0,_::_,[]=> []
 |n+1,cs,x::xs=>x::lz n cs xs
 |_+1,_,[]=> []
def V.put(e:V)(f:Nat)(v:V):V:=
 match e with
 | .agg xs=> .agg (lz f v.cells xs)
 |_=>v
def part(t:TI)(cs:List V)(f:Nat):Option V:=
 if t.agg then(if f+t.size<=cs.length then some (.agg ((cs.drop f).take t.size)) else none) else cs[f]?
def V.eqv(kd:Nat):V->V->Option Bool
 | .int k a,.int k' b=>if k=k'/\kd=0 then some (a==b) else none
 | .bool a,.bool b=>if kd=1 then some (a==b) else none
 | .str a,.str b=>if kd=2 then some (a==b) else none
 |_,_=>none
def zQ:List Nat->List V->List V->Option Bool
 | [],[],[]=>some true
 |k::ks,x::xs,y::ys=>match V.eqv k x y,zQ ks xs ys with|some a,some b=>some (a&&b)|_,_=>none
 |_,_,_=>none
def Pd(ag:Bool)(wJ:List Nat):V->V->Option Bool
 | .agg xs,.agg ys=>if ag=true/\wJ≠ [] then zQ wJ xs ys else none
 | .int k a,.int k' b=>if k=k' then some (a==b) else none
 | .bool a,.bool b=>if ag=false/\wJ=[1] then some (a==b) else none
 | .str a,.str b=>some (a==b)
 | .u7,.u7=>if ag=false/\wJ=[3] then some true else none
 | .u7,.ptr .. =>if ag=false/\wJ=[3] then some false else none
 | .ptr ..,.u7=>if ag=false/\wJ=[3] then some false else none
 | .OQ a,.OQ b=>if ag=false/\wJ=[4]/\(a&&b)=false then some (a==b) else none
 |_,_=>none
def bits(k:IntKind)(op:BinOp)(x y:Int):Int:=
 match op with
 | .and=>k.wrap (BitVec.ofInt k.bits x&&&BitVec.ofInt k.bits y).toNat
 | .or=>k.wrap (BitVec.ofInt k.bits x|||BitVec.ofInt k.bits y).toNat
 | .xor=>k.wrap (BitVec.ofInt k.bits x^^^BitVec.ofInt k.bits y).toNat
 |_=>k.wrap (BitVec.ofInt k.bits x&&& ~~~ BitVec.ofInt k.bits y).toNat
def Bj(x y:V)(f:IntKind->Int->Int->Option V):Option V:=
 match x,y with
 | .int k a,.int k' b=>if k=k' then f k a b else none
 |_,_=>none
def sP(ag:Bool)(wJ:List Nat)(op:BinOp)(x y:V):Option V:=
 match op with
 | .eql=>match Pd ag wJ x y with|some b=>some (.bool b)|none=>none
 | .neq=>match Pd ag wJ x y with|some b=>some (.bool (!b))|none=>none
 | .add=>match x,y with
  | .str a,.str b=>if a.length+b.length<=2^62 then some (.str (a++b)) else none
  |x,y=>Bj x y fun k a b=>some (.int k (k.wrap (a+b)))
 | .sub=>Bj x y fun k a b=>some (.int k (k.wrap (a-b)))
 | .mul=>Bj x y fun k a b=>some (.int k (k.wrap (a*b)))
 | .quo=>Bj x y fun k a b=>if b=0 then none else some (.int k (k.wrap (a.tdiv b)))
 | .rem=>Bj x y fun k a b=>if b=0 then none else some (.int k (a.tmod b))
 | .lss=>Bj x y fun _ a b=>some (.bool (decide (a<b)))
 | .leq=>Bj x y fun _ a b=>some (.bool (decide (a<=b)))
 | .gtr=>Bj x y fun _ a b=>some (.bool (decide (b<a)))
 | .geq=>Bj x y fun _ a b=>some (.bool (decide (b<=a)))
 | .shl=>match x,y with| .int k a,.int _ b=>if b<0 then none else some (.int k (k.wrap (a*2^ (min b.toNat k.bits))))|_,_=>none
 | .shr=>match x,y with| .int k a,.int _ b=>if b<0 then none else some (.int k (a.fdiv (2^ (min b.toNat k.bits))))|_,_=>none
 |op=>Bj x y fun k a b=>some (.int k (bits k op a b))
def unV(op:UnOp)(x:V):Option V:=
 match op,x with
 | .neg,.int k n=>some (.int k (k.wrap (0-n)))
 | .not,.bool b=>some (.bool (!b))
 |_,_=>none
def elems(h:bh):V->Option (List V×Bool)
 | .sl _ es=>some (es,false)
 | .cu id s l=>match h id with|some o=>if s+l<=o.es.length then some ((o.es.drop s).take l,o.eU) else none|none=>none
 | .str s=>some (s.map fun b=> .int .u8 b.toNat,false)
 |_=>none
def byteOf:V->Option UInt8
 | .int .u8 n=>some (UInt8.ofNat n.toNat)
 |_=>none
def bytesOf(es:List V):Option (List UInt8):=cF (es.map byteOf)
def EM:V->Option Nat
 | .sl _ es=>some es.length
 | .cu _ _ l=>some l
 | .str s=>some s.length
 |_=>none
def V.isStr:V->Bool
 | .str _=>true
 |_=>false
def V.Bk:V->Bool
 | .ptr .. =>true
 |_=>false
def TI.isStr(t:TI):Bool:=t.wJ==[2]
def V.fits(v:V)(k:Nat):Bool:=
 match v with
 | .agg cs=>cs.length==k
 | .dM _=>false
 | .bad=>false
 |_=>k==1
def xx(Pe:List (Nat×Nat))(cs:List V):List (Nat×V)->Option (List V)
 | []=>some cs
 |(i,v)::r=>match Pe[i]? with
  |some (o,k)=>if v.fits k&&decide (o+k<=cs.length) then xx Pe (lz o v.cells cs) r else none
  |none=>none
def qF(k:Nat)(es:List V):List (Nat×V)->Option (List V)
 | []=>some es
 |(i,v)::r=>if v.fits k&&decide (i<es.length) then qF k (es.set i v) r else none
def X0(d:Nat)(v:Option V)(m:Nat):Option Nat:=
 match v with
 |none=>some d
 |some (.int _ n)=>if 0<=n/\n<=m then some n.toNat else none
 |some _=>none
def bounds(lo hi:Option V)(len:Nat):Option (Nat×Nat):=
 match X0 len hi len with
 |some h=>match X0 0 lo h with
  |some l=>some (l,h)
  |none=>none
 |none=>none
def LM(b:Bool)(k:Option IntKind)(h:bh)(n:Nat):V->Option (V×bh×Nat)
 | .str s=>if b=false/\k=some .u8/\s.length<=2^62 then some (.cu n 0 s.length,aR h n (some ⟨1,s.map fun c=> .int .u8 c.toNat,false⟩),n+1) else none
 |_=>none
def tO{b:Bool}{k:Option IntKind}{h h1:bh}{v v1:V}(he:LM b k h n v=some (v1,h1,n1)):
  b=false/\k=some .u8/\ ∃s,v= .str s/\s.length<=2^62/\v1= .cu n 0 s.length/\h1=aR h n (some ⟨1,s.map fun c=> .int .u8 c.toNat,false⟩)/\n1=n+1:=by
 cases v with
 |str s=>
  simp only[LM]at he
  grind
 |_=>cases he
def cI(X:Env)(bY:FuncId)(o:Oper)(ρ:Operand->V)(h0:bh)(n0:Nat):Option (V×bh×Nat):=
 match o.op with
 | .move x=>some ((ρ x),h0,n0)
 | .assign x=>some ((ρ x),h0,n0)
 | .pick c a b=>match ρ c with| .bool t=>some ((if t then ρ a else ρ b),h0,n0)|_=>none
 | .alloc t=>some ((.ptr n0 0 0),aR h0 n0 (some ⟨(X.ti t).size,[(X.ti t).zero],true⟩),n0+1)
 | .box t x=>if(ρ x).fits (X.ti t).size then some ((.ptr n0 0 0),aR h0 n0 (some ⟨(X.ti t).size,[ρ x],true⟩),n0+1) else none
 | .build t ps=>
  match(X.ti t).arr with
  |none=>if(X.ti t).wI=[] then none else match xx (X.ti t).wI (X.ti t).zero.cells (ps.toList.map fun p=>(p.1,ρ p.2)) with
   |some cs=>some ((.agg cs),h0,n0)
   |none=>none
  |some m=>match xx ((List.range m).map fun i=>(i*(X.ti (X.ti t).elem).size,(X.ti (X.ti t).elem).size)) (X.ti t).zero.cells (ps.toList.map fun p=>(p.1,ρ p.2)) with
   |some cs=>some ((.agg cs),h0,n0)
   |none=>none
 | .buildSlice t n ps=>
  let e:=(X.ti t).elem
  if X.fX bY e then
   match qF (X.ti e).size (List.replicate n (X.ti e).zero) (ps.toList.map fun p=>(p.1,ρ p.2)) with
   |some es=>some ((.cu n0 0 n),aR h0 n0 (some ⟨(X.ti e).size,es,true⟩),n0+1)
   |none=>none
  else if o.dst.any (X.flat bY) then
   match mL (fun _=>none) (ps.toList.map fun p=>(p.1,ρ p.2)) with
   |some (l,_)=>match qF (X.ti e).size (List.replicate n (X.ti e).zero) l with
    |some es=>some ((.sl true es),h0,n0)
    |none=>none
   |none=>none
  else
  match mL h0 (ps.toList.map fun p=>(p.1,ρ p.2)) with
  |some (l,h)=>
   match qF (X.ti e).size (List.replicate n (X.ti e).zero) l with
   |some es=>
    if o.dst.any (X.oV bY) then some ((.cu n0 0 n),aR (h) n0 (some ⟨(X.ti e).size,es,false⟩),n0+1)
    else some ((.sl true es),h,n0)
   |none=>none
  |none=>none
 | .load t a=>match ρ a with
  | .ptr id i f=>match h0 id with
   |some ob=>match ob.es[i]? with
    |some e=>match part (X.ti t) e.cells f with|some v=>some (v,h0,n0)|none=>none
    |none=>none
   |none=>none
  | .ref cs=>match part (X.ti t) cs 0 with|some v=>some (v,h0,n0)|none=>none
  |_=>none
 | .store t a x=>match ρ a with
  | .ptr id i f=>match h0 id with
   |some ob=>
    match(if ob.eU then some (ρ x,h0) else qu h0 (ρ x)) with
    |some (v,h)=>match h id with
     |some ob=>match ob.es[i]? with
      |some e=>if v.fits (X.ti t).size&&decide (f+(X.ti t).size<=e.cells.length) then some (.bad,aR h id (some {ob with es:=ob.es.set i (e.put f v)}),n0) else none
      |none=>none
     |none=>none
    |none=>none
   |none=>none
  |_=>none
 | .nilCheck x=>match ρ x with
  | .ptr id i f=>some ((.ptr id i f),h0,n0)
  | .ref cs=>some ((.ref cs),h0,n0)
  | .fn g a b=>some ((.fn g a b),h0,n0)
  |_=>none
 | .binOp op t x y _=>match sP (X.ti t).agg (X.ti t).wJ op (ρ x) (ρ y) with|some v=>some (v,h0,n0)|none=>none
 | .unOp op _ x=>match unV op (ρ x) with|some v=>some (v,h0,n0)|none=>none
 | .convert _ d x=>match(X.ti d).kind,ρ x with
  |some k,.int _ n=>some ((.int k (k.wrap n)),h0,n0)
  |none,v=>if(X.ti d).isStr=true/\v.isStr=false then(match elems h0 v with
   |some (es,_)=>match bytesOf es with
    |some s=>some (.str s,h0,n0)
    |none=>none
   |none=>none) else LM (X.ti d).isStr (X.ti (X.ti d).elem).kind h0 n0 v
  |_,_=>none
 | .makeFunc (.func g) a b=>some ((.fn g (a.toList.map ρ) (b.toList.map ρ)),h0,n0)
 | .makeSlice t l c=>match ρ l,ρ c with
  | .int _ n,.int _ m=>if 0<=n/\n<=m/\m*(X.ti (X.ti t).elem).bytes<=2^47/\m<=2^62 then
    some ((.cu n0 0 n.toNat),aR h0 n0 (some ⟨(X.ti (X.ti t).elem).size,List.replicate n.toNat (X.ti (X.ti t).elem).zero,X.fX bY (X.ti t).elem⟩),n0+1) else none
  |_,_=>none
 | .slice t x lo hi mx=>
  if(ρ x).isStr=(X.ti t).isStr/\(ρ x).Bk=(X.ti t).arr.isSome then
   match ρ x with
   | .sl _ es=>
    if es.all (fun e=>e.cells.length==(X.ti (X.ti t).elem).size) then
     match mx with
     |none=>match bounds (lo.map ρ) (hi.map ρ) es.length with|some (l,h)=>some ((.sl false ((es.take h).drop l)),h0,n0)|none=>none
     |some m=>match ρ m,hi.map ρ with
      | .int _ p,some (.int _ q)=>if p=q then(match bounds (lo.map ρ) (hi.map ρ) es.length with|some (l,h)=>some ((.sl true ((es.take h).drop l)),h0,n0)|none=>none) else none
      |_,_=>none
    else none
   | .cu id s n=>
    match mx,h0 id with
    |none,some ob=>if ob.k=(X.ti (X.ti t).elem).size then(match bounds (lo.map ρ) (hi.map ρ) n with|some (l,h)=>some ((.cu id (s+l) (h-l)),h0,n0)|none=>none) else none
    |some m,some ob=>if ob.k=(X.ti (X.ti t).elem).size then(match ρ m,hi.map ρ with
      | .int _ p,some (.int _ q)=>if p=q then(match bounds (lo.map ρ) (hi.map ρ) n with|some (l,h)=>some ((.cu id (s+l) (h-l)),h0,n0)|none=>none) else none
      |_,_=>none) else none
    |_,none=>none
   | .str s=>match mx with
    |none=>match bounds (lo.map ρ) (hi.map ρ) s.length with|some (l,h)=>some ((.str ((s.take h).drop l)),h0,n0)|none=>none
    |some _=>none
   | .ptr id 0 0=>match mx,lo,hi,(X.ti t).arr,h0 id with
    |none,none,none,some m,some ob=>match ob.es with
     | [e]=>if e.cells.all V.oX=true/\e.cells.length=m/\(X.ti (X.ti t).elem).size=1/\0<m then some (.sl true e.cells,aR h0 id none,n0) else none
     |_=>none
    |_,_,_,_,_=>none
   |_=>none
  else none
 | .fieldAddr t x i=>match(X.ti t).wI[i]? with
  |some (off,_)=>match ρ x with
   | .ptr id j f=>some ((.ptr id j (f+off)),h0,n0)
   | .ref cs=>some ((.ref (cs.drop off)),h0,n0)
   |_=>none
  |none=>none
 | .indexAddr t x ix=>match ρ ix with
  | .int _ n=>match ρ x with
   | .sl _ es=>if(0<=n/\n<es.length)/\(X.ti t).arr=none then(match es[n.toNat]? with|some e=>if e.cells.length=(X.ti (X.ti t).elem).size then some ((.ref e.cells),h0,n0) else none|none=>none) else none
   | .cu id s l=>if(0<=n/\n<l)/\(X.ti t).arr=none then(match h0 id with|some ob=>if ob.k=(X.ti (X.ti t).elem).size then some ((.ptr id (s+n.toNat) 0),h0,n0) else none|none=>none) else none
   | .ptr id j f=>match(X.ti t).arr with
    |some m=>if 0<=n/\n<m then some ((.ptr id j (f+n.toNat*(X.ti (X.ti t).elem).size)),h0,n0) else none
    |none=>none
   |_=>none
  |_=>none
 | .index t x ix=>match ρ ix with
  | .int _ n=>match ρ x with
   | .str s=>if 0<=n/\(X.ti t).arr=none then(match s[n.toNat]? with|some b=>some ((.int .u8 b.toNat),h0,n0)|none=>none) else none
   | .agg cs=>match(X.ti t).arr with
    |some m=>if 0<=n/\n<m then(match part (X.ti (X.ti t).elem) cs (n.toNat*(X.ti (X.ti t).elem).size) with|some v=>some (v,h0,n0)|none=>none) else none
    |none=>none
   |_=>none
  |_=>none
 | .field t x f=>match ρ x with
  | .agg cs=>match(X.ti t).wI[f]? with
   |some (k,_)=>match part (X.ti o.type) cs k with|some v=>some (v,h0,n0)|none=>none
   |none=>none
  |_=>none
 | .extract x i=>match ρ x with
  | .dM vs=>match vs[i]? with|some v=>some (v,h0,n0)|none=>none
  |_=>none
 | .call ⟨.builtin .len,args,mM⟩=>match args.toList.map ρ with
  | [x]=>if x.isStr=(X.ti (mM.getD 0 0)).isStr then(match EM x with|some n=>some ((.int .i64 n),h0,n0)|none=>none) else none
  |_=>none
 | .call ⟨.builtin .min,args,_⟩=>match args.toList.map ρ with
  | [.int k a,.int k' b]=>if k=k' then some ((.int k (if b<a then b else a)),h0,n0) else none
  |_=>none
 | .call ⟨.builtin .max,args,_⟩=>match args.toList.map ρ with
  | [.int k a,.int k' b]=>if k=k' then some ((.int k (if b>a then b else a)),h0,n0) else none
  |_=>none
 | .call ⟨.builtin .append,args,mM⟩=>match args.toList.map ρ with
  | [s,x]=>match elems h0 s,elems h0 x with
   |some (es,kb),some (xs,kx)=>
    let e:=(X.ti (mM.getD 0 0)).elem;let kp:=X.fX bY e
    if((kb||kx)&& !kp)|| !(xs.all fun v=>v.cells.length==(X.ti e).size)||(X.ti (mM.getD 1 0)).kind.isSome then none else
    if(es.length+xs.length)*(X.ti e).bytes<=2^47/\es.length+xs.length<=2^62 then
     match s with
     | .sl true []=>some ((.cu n0 0 xs.length),aR h0 n0 (some ⟨(X.ti e).size,xs,kp⟩),n0+1)
     | .sl true _=>if kx|| !(es.all fun v=>v.cells.length==(X.ti e).size) then none else some ((.sl false (es++xs)),h0,n0)
     | .cu id _ _=>match h0 id with
      |some ob=>if ob.k=(X.ti e).size then some ((.cu n0 0 (es.length+xs.length)),aR (aR h0 id none) n0 (some ⟨(X.ti e).size,es++xs,kp⟩),n0+1) else none
      |none=>none
     |_=>none
    else none
   |_,_=>none
  |_=>none
 | .call ⟨.builtin .copy,args,mM⟩=>match args.toList.map ρ with
  | [.cu id s l,x]=>match h0 id,elems h0 x with
   |some ob,some (xs,kx)=>
    if x.isStr||(kx&& !ob.eU)|| !(xs.all fun v=>v.cells.length==ob.k) then none else
    if s+l<=ob.es.length/\ob.k=(X.ti (X.ti (mM.getD 0 0)).elem).size then
     some ((.int .i64 (min xs.length l:Nat)),aR h0 id (some {ob with es:=ob.es.take s++xs.take (min xs.length l)++ob.es.drop (s+min xs.length l)}),n0)
    else none
   |_,_=>none
  |_=>none
 |_=>none
def ahi(X:Env)(bY:FuncId)(o:Oper)(S:St):Option St:=
 match cI X bY o S.ev S.h S.n with
 |some (v,h,n)=>some (({S with h:=h,n:=n}:St).set o.dst v)
 |none=>none
def V.SB:V->Bool
 | .int .. =>true
 | .bool _=>true
 | .str _=>true
 | .sl _ es=>es.isEmpty
 | .u7=>true
 | .OQ _=>true
 | .cu .. =>true
 | .ptr .. =>true
 | .bad=>true
 | .fn _ [] []=>true
 |_=>false
def V.LN:V->Bool
 | .agg cs=>cs.all V.SB
 |v=>v.SB
def V.pu:V->Bool
 | .dM vs=>vs.all V.LN
 |v=>v.LN
def kL:Option Ob->Option Ob
 |some ob=>if ob.es.all V.LN then some ob else none
 |none=>none
def V.cellAt(v:V)(i j:Nat):V:=
 match v with
 | .dM vs=>(vs.getD i .bad).cells.getD j .bad
 |v=>if i=0 then v.cells.getD j .bad else .bad
def rJ(F:Nat->V->V):Nat->List V->List V
 |_,[]=> []
 |j,c::cs=>F j c::rJ F (j+1) cs
def uD(F:Nat->V->V):V->V
 | .agg cs=> .agg (rJ F 0 cs)
 |v=>F 0 v
def u9(F:Nat->Nat->V->V):V->V
 | .dM vs=> .dM (rJ (fun i v=>uD (F i) v) 0 vs)
 |v=>uD (F 0) v
def V.src:V->Option Nat
 | .cu id _ _=>some id
 |_=>none
def differ:Option Nat->Option Nat->Bool
 |some a,some b=>a !=b
 |_,_=>true
def vb:List (Option Nat)->Bool
 | []=>true
 |a::r=>r.all (differ a)&&vb r
def gq(h:bh):List (Option Nat)->bh
 | []=>h
 |some id::r=>aR (gq h r) id none
 |none::r=>gq h r
def rowAt(X:Env)(h hx:bh)(t:TypeId)(c:V):Option (List V):=
 match c with
 | .sl true []=>some []
 | .cu id s l=>match h id with
  |some ob=>if ob.k=(X.ti t).size/\s+l<=ob.es.length then match cF (((ob.es.drop s).take l).map (cx hx depth)) with
    |some es=>some (eV es)
    |none=>none
   else none
  |none=>none
 |_=>none
abbrev Mask:=List (Nat×Nat×TypeId)
def mY:Nat->Mask->Nat->Nat->Option (Nat×TypeId)
 |_,[],_,_=>none
 |n,(a,b,t)::r,i,j=>if a=i/\b=j then some (n,t) else mY (n+1) r i j
def mO(X:Env)(h hx:bh)(m:Mask)(i j:Nat)(c:V):V:=
 match mY 0 m i j with
 |some (_,t)=>match rowAt X h hx t c with
  |some es=> .sl false es
  |none=> .bad
 |none=>match cx hx depth c with
  |some c'=>c'.lM
  |none=> .bad
def iD(v:V)(m:Mask):List (Option Nat):=m.map fun q=>(v.cellAt q.1 q.2.1).src
def Bl(X:Env)(h hx:bh)(v:V)(m:Mask):Option V:=
 if vb (iD v m)&&m.all (fun q=>(rowAt X h hx q.2.2 (v.cellAt q.1 q.2.1)).isSome) then some (u9 (mO X h hx m) v) else none
def LO(X:Env)(h:bh)(v:V)(m:Mask):Option V:=Bl X h (gq h (iD v m)) v m
def vc(n:Nat)(m:Mask):V->V:=u9 fun i j c=>
 match mY n m i j with
 |some (q,_)=>match c with
  | .sl _ es=> .cu q 0 es.length
  |_=> .bad
 |none=>c
def Bm(X:Env)(kp:TypeId->Bool)(R:V)(q:Nat×Nat×TypeId):Option Ob:=
 match R.cellAt q.1 q.2.1 with
 | .sl _ es=>some ⟨(X.ti q.2.2).size,es,kp q.2.2⟩
 |_=>none
def xO(X:Env)(kp:TypeId->Bool)(R:V):Nat->Mask->bh->bh
 |_,[],h=>h
 |n,q::m,h=>aR (xO X kp R (n+1) m h) n (Bm X kp R q)
def rL(h:bh):List V->Option (List V×bh)
 | []=>some ([],h)
 |v::r=>match qu h v with
  |some (v',h1)=>match rL h1 r with
   |some (r',h2)=>some (v'::r',h2)
   |none=>none
  |none=>none
def qG(e v:V):V:=
 match v with
 | .dM vs=> .dM (e::vs)
 |v=> .dM [e,v]
def z9(v:V)(vs:List V):V:=
 match v with
 | .dM _=> .dM vs
 |_=>vs.headD .bad
def rT(X:Env)(bY:FuncId)(dst:Option Nat)(g:FuncId):Mask:=X.fl g++(dst.elim [] (X.mask bY)).map fun q=>(q.1+1,q.2.1,q.2.2)
def x8(X:Env)(M:Mask)(v:V)(h:bh):Option (Nat×V×List V):=
 match h 0 with
 |some oK=>
  match oK.es with
  | [e']=>if oK.eU then
    match LO X (aR h 0 none) (qG e' v) M with
    |some (.dM (r::rs))=>some (oK.k,r,rs)
    |_=>none
   else none
  |_=>none
 |none=>none
def ma(X:Env)(g:FuncId)(k:Nat)(R:V):bh:=xO X (X.fX g) R 1 (X.fl g) (aR (fun _=>none) 0 (some ⟨k,[vc 1 (X.fl g) R],true⟩))
def EN:V->V
 | .dM (v::_)=>v
 |_=> .bad
def SC:V->List V
 | .dM (_::vs)=>vs
 |_=> []
def vd(X:Env)(call:jm)(bY:FuncId)(dst:Option Nat)(g:FuncId)(args:List V)(S:St):Option St:=
 match args with
 | .ptr id 0 0::rest=>
  match S.h id with
  |some ob=>
   match ob.es with
   | [e]=>
    if ob.eU then
     match Bl X (aR S.h id none) (fun _=>none) e (X.fl g) with
     |some R=>
      match rL (gq (aR S.h id none) (iD e (X.fl g))) rest with
      |some (bwf,h1)=>
       match call g (.ptr 0 0 0::bwf) (ma X g ob.k R) (1+(X.fl g).length) with
       |some (v,h,_)=>
        match x8 X (rT X bY dst g) v h with
        |some (k',r,rs)=>
         some ((⟨S.f,xO X (X.fX bY) (.dM (r::rs)) S.n (rT X bY dst g) (aR h1 id (some ⟨k',[EN (vc S.n (rT X bY dst g) (.dM (r::rs)))],true⟩)),S.n+(rT X bY dst g).length⟩:St).set dst
          (z9 v (SC (vc S.n (rT X bY dst g) (.dM (r::rs))))))
        |none=>none
       |none=>none
      |none=>none
     |none=>none
    else none
   |_=>none
  |none=>none
 |_=>none
def mZ(X:Env)(call:jm)(bY:FuncId)(dst:Option Nat)(g:FuncId)(args:List V)(S:St):Option St:=
 match rL S.h args with
 |some (bwf,h1)=>
  match call g bwf (fun _=>none) 0 with
  |some (v,h,_)=>
   match LO X h v (dst.elim [] (X.mask bY)) with
   |some r=>some ((⟨S.f,xO X (X.fX bY) r S.n (dst.elim [] (X.mask bY)) h1,S.n+(dst.elim [] (X.mask bY)).length⟩:St).set dst (vc S.n (dst.elim [] (X.mask bY)) r))
   |none=>none
  |none=>none
 |none=>none
def rM(X:Env)(call:jm)(g:FuncId)(bwf:List V):Option (V×bh×Nat):=
 match X.oW g with
 |some pr=>match pr.run call bwf with
  |some v=>some (v,fun _=>none,0)
  |none=>none
 |none=>call g bwf (fun _=>none) 0
def gU(X:Env)(call:jm)(bY:FuncId)(dst:Option Nat)(g:FuncId)(args:List V)(S:St):Option St:=
 match X.clone g with
 |some t=>
  match args with
  | [s]=>match elems S.h s with
   |some (es,kx)=>if s.isStr||(kx&& !X.fX bY (X.ti t).elem)|| !(es.all fun v=>v.cells.length==(X.ti (X.ti t).elem).size)|| !decide (es.length*(X.ti (X.ti t).elem).bytes<=2^47/\es.length<=2^62) then none else some ((S.new ⟨(X.ti (X.ti t).elem).size,es,X.fX bY (X.ti t).elem⟩).set dst (.cu S.n 0 es.length))
   |none=>none
  |_=>none
 |none=>
 if X.hZ g&& !X.low g then
  match call g args S.h S.n with
  |some (v,h,n)=>some (({S with h:=h,n:=n}:St).set dst v)
  |none=>none
 else if X.gm g then vd X call bY dst g args S
 else if !(dst.elim [] (X.mask bY)).isEmpty then mZ X call bY dst g args S
 else
  match cF (args.map (cx S.h depth)) with
  |some bwf=>
   if dst.any (X.oV bY)&& !X.low g then
    match call g (eV bwf) (fun _=>none) S.n with
    |some (v,h,n)=>if args.any V.xN&& !v.pu then none else some (({S with h:=fun id=>if id<S.n then S.h id else if args.any V.xN then kL (h id) else h id,n:=n}:St).set dst v)
    |none=>none
   else
    match rM X call g (eV bwf) with
    |some (v,h,_)=>match cx h depth v with
     |some v=>if args.any V.xN&& !v.scalar then none else some (S.set dst v.lM)
     |none=>none
    |none=>none
  |none=>none
def fu(X:Env)(call:jm)(bY:FuncId)(n0 j:Nat)(o:Oper)(S:St):Option St:=
 match o.op with
 | .call ⟨.value x,args,_⟩=>
  match S.ev x with
  | .fn g first EL=>gU X call bY o.dst g (first++args.toList.map S.ev++EL) S
  |_=>none
 |_=>
  match cI X bY o S.ev S.h (n0+j) with
  |some (v,h,_)=>some (({S with h:=h}:St).set o.dst v)
  |none=>none
def gM(X:Env)(call:jm)(bY:FuncId)(da:List (Option Nat))(n0:Nat):Nat->List Oper->St->Option St
 |_,[],S=>some S
 |k,o::r,S=>
  match o.guard with
  |none=>match fu X call bY n0 k o S with|some S1=>gM X call bY da n0 (k+1) r S1|none=>none
  |some (j,want)=>
   match da[j]? with
   |some (some d)=>match S.f d with
    | .bool b=>if b=want then(match fu X call bY n0 k o S with|some S1=>gM X call bY da n0 (k+1) r S1|none=>none) else gM X call bY da n0 (k+1) r (S.set o.dst (.dM []))
    | .dM []=>gM X call bY da n0 (k+1) r (S.set o.dst (.dM []))
    |_=>none
   |_=>none
inductive Ex where
 |normal
 |exit (id:Nat)
 |ret
 deriving DecidableEq
def nm(X:Env)(rs:List ResultVar)(S:St):Option V:=
 match cF (rs.map fun
  | .tmp t=>some (S.f t)
  | .cell a t=>match S.f a with
   | .ptr id i f=>match S.h id with
    |some ob=>match ob.es[i]? with
     |some e=>part (X.ti t) e.cells f
     |none=>none
    |none=>none
   |_=>none) with
 |some [v]=>some v
 |some vs=>some (.dM vs)
 |none=>none
def oN(args:List V):Nat->V:=fun t=>match args[t]? with|some v=>v|none=> .bad
abbrev Ev:=FuncId->Code->St->Option (Ex×St)
def vQ(X:Env)(rs:List ResultVar):Option (Ex×St)->Option (V×bh×Nat)
 |some (.normal,S)=>match nm X rs S with|some v=>some (v,S.h,S.n)|none=>none
 |some (.ret,S)=>match nm X rs S with|some v=>some (v,S.h,S.n)|none=>none
 |_=>none
def dA(X:Env)(E:Ev):jm:=fun g args h k=>
 match X.oW g with
 |some _=>none
 |none=>match X.P.funcs[g]? with
  |some fn=>match fn.body with
   |some b=>vQ X fn.results.toList (E g b ⟨oN args,h,k⟩)
   |none=>none
  |none=>none
def IK(da:List (Option Nat))(o:Oper)(S1:St):Prop:=
 match o.guard with
 |some (j,want)=>(match da[j]? with
  |some (some d)=>S1.f d= .dM []\/S1.f d= .bool (!want)
  |_=>False)
 |none=>False
def lA(X:Env)(call:jm)(bY:FuncId)(ops:List Oper)(n0:Nat)(S0 S1:St)(l:List (Nat×Nat)):Prop:=
 ∀q∈l,(∃o,ops[q.1]?=some o/\IK (ops.map (·.dst)) o S1)\/(∃o T v,ops[q.1]?=some o/\gM X call bY (ops.map (·.dst)) n0 0 (ops.take q.2) S0=some T/\
  cI X bY o S1.ev T.h (n0+q.1)=some (v,T.h,n0+q.1)/\ ∀d,o.dst=some d->S1.f d=v)
def Loc.val(S:St):Loc->V
 | .box t=>S.f t
 | .slot t=>S.f t
 | .cell t j=>match S.f t with
  | .ptr id 0 0=>match S.h id with
   |some ob=>match ob.es with
    | [e]=>e.cells.getD j .bad
    |_=> .bad
   |none=> .bad
  |_=> .bad
def V.root:V->Option Nat
 | .cu id _ _=>some id
 | .ptr id 0 0=>some id
 |_=>none
def V.boxed:V->Option Nat
 | .ptr id 0 0=>some id
 |_=>none
def look(S:St)(id:Nat):List Gr->Option Nat
 | []=>none
 |a::r=>if(a.loc.val S).root=some id then some a.new else look S id r
def V.wide:V->V
 | .sl _ es=> .sl false es
 |v=>v
def fixC(S:St)(N:Norm)(hx:bh):V->V
 | .cu id s l=>match look S id N.roots with
  |some j=> .cu j s l
  |none=>match cx hx depth (.cu id s l) with
   |some v=>v
   |none=> .bad
 | .ptr id i f=>match look S id N.roots with
  |some j=> .ptr j i f
  |none=> .bad
 |v=>if v.oX then v.wide else .bad
def Kc(S:St)(N:Norm)(hx:bh):V->V
 | .agg cs=> .agg (cs.map (fixC S N hx))
 |v=>fixC S N hx v
def EO(S:St)(N:Norm)(hx:bh):V->V
 | .dM vs=> .dM (vs.map (Kc S N hx))
 | .fn g a b=> .fn g (a.map (Kc S N hx)) (b.map (Kc S N hx))
 | .ref cs=> .ref cs
 |v=>Kc S N hx v
def zn(t:Nat):List Gr->Option Nat
 | []=>none
 |a::r=>if a.loc= .slot t then some a.new else zn t r
def qp(S:St)(id j:Nat):List Gr->Option Nat
 | []=>none
 |a::r=>match a.loc with
  | .cell t j'=>if j'=j/\(S.f t).boxed=some id then some a.new else qp S id j r
  |_=>qp S id j r
def xP(o:Option Nat)(v w:V):V:=
 match v with
 | .sl true []=>match o with
  |some n=> .cu n 0 0
  |none=>w
 |_=>w
def Bn(S:St)(N:Norm)(hx:bh)(id:Nat):Nat->List V->List V
 |_,[]=> []
 |j,c::cs=>xP (qp S id j N.roots) c (fixC S N hx c)::Bn S N hx id (j+1) cs
def Pf(S:St)(N:Norm)(hx:bh)(id:Nat):V->V
 | .agg cs=> .agg (Bn S N hx id 0 cs)
 |v=>xP (qp S id 0 N.roots) v (fixC S N hx v)
def EP(S:St)(N:Norm)(hx:bh)(id:Nat):Option Ob->Option Ob
 |some ob=>
  if ob.eU then
   match ob.es with
   | [e]=>some ⟨ob.k,[Pf S N hx id e],true⟩
   |es=>if es.all V.Pc then some ob else none
  else some ob
 |none=>none
def fixF(S:St)(N:Norm)(hx:bh):List Nat->Nat->V
 | []=>fun _=> .bad
 |t::r=>aR (fixF S N hx r) t (xP (zn t N.roots) (S.f t) (EO S N hx (S.f t)))
def Pg(S:St)(N:Norm)(hx:bh)(k:Nat)(eU:Bool):V->Option Ob
 | .sl true []=>some ⟨k,[],eU⟩
 |v=>match v.root with
  |some id=>EP S N hx id (S.h id)
  |none=>none
def Gr.ob(S:St)(N:Norm)(hx:bh)(a:Gr):Option Ob:=Pg S N hx a.k a.eU (a.loc.val S)
def Ph(S:St)(N:Norm)(hx:bh):List Gr->bh
 | []=>fun _=>none
 |a::r=>aR (Ph S N hx r) a.new (a.ob S N hx)
def Norm.tf(N:Norm)(S:St):List (Option Nat):=N.roots.map fun a=>(a.loc.val S).root
def nj(id:Nat):List Gr->Option Gr
 | []=>none
 |a::r=>if a.new=id then some a else nj id r
def Norm.first(N:Norm)(S:St):Bool:=
 match N.base,N.roots with
 |false,_=>true
 |true,a::_=>a.new==0&& (a.loc.val S).root==some 0
 |_,_=>false
def Norm.ok(N:Norm):Bool:=decide (1<=N.n)&&N.roots.all (fun a=>decide (a.new<N.n)&& (match nj a.new N.roots with|some b=>decide (b.loc=a.loc)|none=>false))
def Norm.run(N:Norm)(S:St):Option St:=
 if vb (N.tf S)&&N.first S then
  some ⟨fixF S N (gq S.h (N.tf S)) N.awq,Ph S N (gq S.h (N.tf S)) N.roots,N.n⟩
 else none
def jb:Code->Nat
 | .region id _ _=>id
 | .seq a _=>jb a
 | .block _ b=>jb b
 | .loop b=>jb b
 |_=>0
def oR(X:Env)(bY:FuncId)(key:Nat)(S:St):Option St:=
 match X.norm bY key with
 |some N=>N.run S
 |none=>some S
open Classical in
noncomputable def ki(X:Env)(E:Ev):Ev:=fun bY c S=>
 match c with
 | .skip=>some (.normal,S)
 | .region id ops _=>match oR X bY (2*id) S with
  |some S=>match gM X (dA X E) bY (ops.toList.map (·.dst)) S.n 0 ops.toList {S with n:=S.n+ops.size} with
   |some S1=>if lA X (dA X E) bY ops.toList S.n {S with n:=S.n+ops.size} S1 (X.sX bY id) then some (.normal,S1) else none
   |none=>none
  |none=>none
 | .seq a b=>match E bY a S with
  |some (.normal,S1)=>E bY b S1
  |r=>r
 | .cond x a b=>match S.ev x with
  | .bool t=>if t then E bY a S else E bY b S
  |_=>none
 | .block id b=>match E bY b S with
  |some (.exit i,S1)=>if i=id then some (.normal,S1) else some (.exit i,S1)
  |r=>r
 | .loop b=>match oR X bY (2*jb b+1) S with
  |some S=>match E bY b S with
   |some (.normal,S1)=>E bY (.loop b) S1
   |r=>r
  |none=>none
 | .exit id=>some (.exit id,S)
 | .ret=>some (.ret,S)
 |_=>none
noncomputable def tp(X:Env):Nat->Ev
 |0=>fun _ _ _=>none
 |n+1=>ki X (tp X n)
def jm.le(c d:jm):Prop:= ∀g a h k r,c g a h k=some r->d g a h k=some r
def Ev.le(c d:Ev):Prop:= ∀f b S r,c f b S=some r->d f b S=some r
def kB{X:Env}{E E':Ev}(h:E.le E'):(dA X E).le (dA X E'):=by
 intro g a hp k r hr;unfold dA at hr⊢;have Kd:X.oW g=none:=by
  cases Kd:X.oW g with
  |none=>rfl
  |some pr=>grind
 simp only[Kd]at hr⊢;split at hr
 ·split at hr
  ·rename_i b hb;cases he:E g b ⟨oN a,hp,k⟩ with
   |none=>simp[he,vQ]at hr
   |some x=>rw[h _ _ _ _ he];grind
  omega
 omega
def Pj{X:Env}{c d:jm}(h:c.le d){g bwf r}(hr:rM X c g bwf=some r):rM X d g bwf=some r:=by
 unfold rM at hr⊢;cases hp:X.oW g with
 |none=>simp only[hp]at hr⊢;exact h _ _ _ _ _ hr
 |some pr=>
  simp only[hp]at hr⊢;cases hv:pr.run c bwf with
  |none=>grind
  |some v=>rw[hv]at hr;rw[pr.mono c d bwf v h hv];omega
def Ui{X:Env}{c d:jm}(h:c.le d){bY dst g args S r}(hr:vd X c bY dst g args S=some r):vd X d bY dst g args S=some r:=by
 unfold vd at hr⊢;split at hr
 case h_2=>omega
 rename_i id rest;cases ho:S.h id with
 |none=>grind
 |some ob=>
  simp only[ho]at hr⊢;split at hr
  case h_2=>omega
  split at hr
  case isFalse=>grind
  rename_i hk;rw[if_pos hk];split at hr
  case h_2=>omega
  rename_i R hR;split at hr
  case h_2=>omega
  rename_i bwf h1 hg;cases h5:c g (.ptr 0 0 0::bwf) (ma X g ob.k R) (1+(X.fl g).length) with
  |none=>grind
  |some x=>rw[h _ _ _ _ _ h5];grind
def LP{X:Env}{c d:jm}(h:c.le d){bY dst g args S r}(hr:mZ X c bY dst g args S=some r):mZ X d bY dst g args S=some r:=by
 unfold mZ at hr⊢;split at hr
 case h_2=>omega
 rename_i bwf h1 hg;cases h5:c g bwf (fun _=>none) 0 with
 |none=>grind
 |some x=>rw[h _ _ _ _ _ h5];grind
def LQ{X:Env}{c d:jm}(h:c.le d){bY dst g args S r}(hr:gU X c bY dst g args S=some r):gU X d bY dst g args S=some r:=by
 unfold gU at hr⊢;cases h1:X.clone g with
 |some t=>grind
 |none=>
  simp only[h1]at hr⊢;by_cases h2:(X.hZ g&& !X.low g)=true
  ·simp only[h2,if_true]at hr⊢;cases h5:c g args S.h S.n with
   |none=>grind
   |some x=>rw[h _ _ _ _ _ h5];grind
  ·simp only[h2,if_false,aaM]at hr⊢;by_cases Bg:X.gm g=true
   ·simp only[Bg,if_true]at hr⊢;exact Ui h hr
   simp only[Bg,if_false,aaM]at hr⊢;by_cases Hn:(!(dst.elim [] (X.mask bY)).isEmpty)=true
   ·simp only[Hn,if_true]at hr⊢;exact LP h hr
   simp only[Hn,if_false,aaM]at hr⊢;cases h3:cF (args.map (cx S.h depth)) with
   |none=>grind
   |some bwf=>
    simp only[h3]at hr⊢;by_cases h4:(dst.any (X.oV bY)&& !X.low g)=true
    ·simp only[h4,if_true]at hr⊢;cases h5:c g (eV bwf) (fun _=>none) S.n with
     |none=>grind
     |some x=>rw[h _ _ _ _ _ h5];grind
    ·simp only[h4,if_false,aaM]at hr⊢;cases h5:rM X c g (eV bwf) with
     |none=>grind
     |some x=>rw[Pj h h5];grind
def x9{X:Env}{c d:jm}(h:c.le d){bY n0 j o S r}(hr:fu X c bY n0 j o S=some r):fu X d bY n0 j o S=some r:=by
 unfold fu at hr⊢;split at hr
 ·split at hr
  ·exact LQ h hr
  omega
 omega
def nY{X:Env}{c d:jm}(h:c.le d){bY da n0}: ∀{k l S r},gM X c bY da n0 k l S=some r->gM X d bY da n0 k l S=some r
 |_,[],S,r,hr=>hr
 |k,o::l,S,r,hr=>by
  unfold gM at hr⊢;split at hr
  ·split at hr
   ·rename_i S1 h1;rw[x9 h h1];exact nY h hr
   grind
  ·split at hr
   ·split at hr
    ·split at hr
     ·split at hr
      ·rename_i S1 h1;rename_i hif _;simp only[hif,if_true];rw[x9 h h1];exact nY h hr
      grind
     ·rename_i hif;simp only[hif,if_false];exact nY h hr
    ·exact nY h hr
    omega
   omega
def lA.mono{X:Env}{c d:jm}(h:c.le d){bY ops n0 S0 S1 l}(hs:lA X c bY ops n0 S0 S1 l):lA X d bY ops n0 S0 S1 l:=by
 intro q hq;rcases hs q hq with hk|⟨o,T,v,h1,h2,h3⟩
 ·grind
 ·exact .inr ⟨o,T,v,h1,nY h h2,h3⟩
def ER{X:Env}{E E':Ev}(h:E.le E'):(ki X E).le (ki X E'):=by
 intro f c S r hr;unfold ki at hr⊢;split at hr
 ·omega
 ·split at hr
  case h_2=>omega
  split at hr
  ·rename_i S1 h1;split at hr
   ·rename_i hs;rw[nY (kB h) h1];simp only[hs.mono (kB h),if_true];omega
   grind
  grind
 ·rename_i a b;cases ha:E f a S with
  |none=>grind
  |some x=>
   rw[h _ _ _ _ ha];rw[ha]at hr;obtain⟨e,S1⟩:=x;cases e with
   |normal=>exact h _ _ _ _ hr
   |exit i=>omega
   |ret=>omega
 ·split at hr
  ·split at hr
   ·rename_i ht;simp only[ht,if_true];exact h _ _ _ _ hr
   ·rename_i ht;simp only[ht,if_false,aaM];exact h _ _ _ _ hr
  omega
 ·rename_i id b;cases hb:E f b S with
  |none=>grind
  |some x=>rw[h _ _ _ _ hb];grind
 ·rename_i b;split at hr
  case h_2=>omega
  rename_i S0 hn;cases hb:E f b S0 with
  |none=>grind
  |some x=>
   rw[h _ _ _ _ hb];rw[hb]at hr;obtain⟨e,S1⟩:=x;cases e with
   |normal=>exact h _ _ _ _ hr
   |exit i=>omega
   |ret=>omega
 ·omega
 ·omega
 omega
def X2(X:Env): ∀n,(tp X n).le (tp X (n+1))
 |0=>by intro f c S r hr;simp[tp]at hr
 |n+1=>ER (X2 X n)
def oZ(X:Env)(h:n<=m):(tp X n).le (tp X m):=by
 induction h with
 |refl=>intro f c S r hr;omega
 |step _ ih=>intro f c S r hr;exact X2 X _ _ _ _ _ (ih _ _ _ _ hr)
open Classical in
noncomputable def ev(X:Env):Ev:=fun f c S=>if h: ∃n,∃r,tp X n f c S=some r then some h.choose_spec.choose else none
def rU{X:Env}{f c S r}:ev X f c S=some r↔ ∃n,tp X n f c S=some r:=by
 unfold ev;constructor
 ·intro h;split at h
  ·grind
  grind
 ·rintro⟨n,hn⟩;have hx: ∃n,∃r,tp X n f c S=some r:=⟨n,r,hn⟩;rw[dif_pos hx];have h2:=hx.choose_spec.choose_spec;have h3:=oZ X (adH n hx.choose) _ _ _ _ hn;have h4:=oZ X (adm n hx.choose) _ _ _ _ h2
  grind
def Uj(X:Env)(n:Nat):(tp X n).le (ev X):=fun _ _ _ _ h=>rU.2 ⟨n,h⟩
def m7{X:Env}{g a h k r}(hr:dA X (ev X) g a h k=some r): ∃n,dA X (tp X n) g a h k=some r:=by
 unfold dA at hr;have Kd:X.oW g=none:=by
  cases Kd:X.oW g with
  |none=>rfl
  |some pr=>grind
 simp only[Kd]at hr;split at hr
 ·rename_i fn hf;split at hr
  ·rename_i b hb;cases he:ev X g b ⟨oN a,h,k⟩ with
   |none=>simp[he,vQ]at hr
   |some x=>
    obtain⟨n,hn⟩:=rU.1 he;exact⟨n,by unfold dA;grind⟩
  grind
 grind
def Pk{X:Env}{g bwf r}(hr:rM X (dA X (ev X)) g bwf=some r): ∃n,rM X (dA X (tp X n)) g bwf=some r:=by
 unfold rM at hr;cases hp:X.oW g with
 |none=>
  simp only[hp]at hr;obtain⟨n,hn⟩:=m7 hr;exact⟨n,by unfold rM;grind⟩
 |some pr=>
  simp only[hp]at hr;cases hv:pr.run (dA X (ev X)) bwf with
  |none=>grind
  |some v=>
   rw[hv]at hr;obtain⟨n,hn⟩:=pr.cont (fun n=>dA X (tp X n)) _ bwf v (fun n=>kB (oZ X (Nat.le_succ n))) (fun _ _ _ _ _ h=>m7 h) hv;exact⟨n,by unfold rM;grind⟩
def Uk{X:Env}{bY dst g args S r}(hr:vd X (dA X (ev X)) bY dst g args S=some r): ∃n,vd X (dA X (tp X n)) bY dst g args S=some r:=by
 unfold vd at hr;split at hr
 case h_2=>grind
 rename_i id rest;cases ho:S.h id with
 |none=>grind
 |some ob=>
  simp only[ho]at hr;split at hr
  case h_2=>grind
  rename_i e he;split at hr
  case isFalse=>grind
  rename_i hk;split at hr
  case h_2=>grind
  rename_i R hR;split at hr
  case h_2=>grind
  rename_i bwf h1 hg;cases h5:dA X (ev X) g (.ptr 0 0 0::bwf) (ma X g ob.k R) (1+(X.fl g).length) with
  |none=>grind
  |some x=>
   obtain⟨n,hn⟩:=m7 h5;rw[h5]at hr;exact⟨n,by unfold vd;grind⟩
def LR{X:Env}{bY dst g args S r}(hr:mZ X (dA X (ev X)) bY dst g args S=some r): ∃n,mZ X (dA X (tp X n)) bY dst g args S=some r:=by
 unfold mZ at hr;split at hr
 case h_2=>grind
 rename_i bwf h1 hg;cases h5:dA X (ev X) g bwf (fun _=>none) 0 with
 |none=>grind
 |some x=>
  obtain⟨n,hn⟩:=m7 h5;rw[h5]at hr;exact⟨n,by unfold mZ;grind⟩
def LS{X:Env}{bY dst g args S r}(hr:gU X (dA X (ev X)) bY dst g args S=some r): ∃n,gU X (dA X (tp X n)) bY dst g args S=some r:=by
 unfold gU at hr;cases h1:X.clone g with
 |some t=>exact⟨0,by unfold gU;grind⟩
 |none=>
  simp only[h1]at hr;by_cases h2:(X.hZ g&& !X.low g)=true
  ·simp only[h2,if_true]at hr;cases h5:dA X (ev X) g args S.h S.n with
   |none=>grind
   |some x=>
    obtain⟨n,hn⟩:=m7 h5;rw[h5]at hr;exact⟨n,by unfold gU;grind⟩
  ·simp only[h2,if_false,aaM]at hr;by_cases Bg:X.gm g=true
   ·simp only[Bg,if_true]at hr;obtain⟨n,hn⟩:=Uk hr;exact⟨n,by unfold gU;grind⟩
   simp only[Bg,if_false,aaM]at hr;by_cases Hn:(!(dst.elim [] (X.mask bY)).isEmpty)=true
   ·simp only[Hn,if_true]at hr;obtain⟨n,hn⟩:=LR hr;exact⟨n,by unfold gU;grind⟩
   simp only[Hn,if_false,aaM]at hr;cases h3:cF (args.map (cx S.h depth)) with
   |none=>grind
   |some bwf=>
    simp only[h3]at hr;by_cases h4:(dst.any (X.oV bY)&& !X.low g)=true
    ·simp only[h4,if_true]at hr;cases h5:dA X (ev X) g (eV bwf) (fun _=>none) S.n with
     |none=>grind
     |some x=>
      obtain⟨n,hn⟩:=m7 h5;rw[h5]at hr;exact⟨n,by unfold gU;grind⟩
    ·simp only[h4,if_false,aaM]at hr;cases h5:rM X (dA X (ev X)) g (eV bwf) with
     |none=>grind
     |some x=>
      obtain⟨n,hn⟩:=Pk h5;rw[h5]at hr;exact⟨n,by unfold gU;grind⟩
def LU{X:Env}{bY n0 j o S r}(hr:fu X (dA X (ev X)) bY n0 j o S=some r): ∃n,fu X (dA X (tp X n)) bY n0 j o S=some r:=by
 unfold fu at hr;split at hr
 ·rename_i x args mM ho;split at hr
  ·rename_i g first EL hx
   obtain⟨n,hn⟩:=LS hr;exact⟨n,by unfold fu;grind⟩
  grind
 ·rename_i kC;exact⟨0,by unfold fu;grind⟩
def tP{X:Env}{bY da n0}: ∀{k l S r},gM X (dA X (ev X)) bY da n0 k l S=some r-> ∃n,gM X (dA X (tp X n)) bY da n0 k l S=some r
 |_,[],S,r,hr=>⟨0,hr⟩
 |k,o::l,S,r,hr=>by
  have two: ∀{S1},fu X (dA X (ev X)) bY n0 k o S=some S1->gM X (dA X (ev X)) bY da n0 (k+1) l S1=some r-> ∃n,fu X (dA X (tp X n)) bY n0 k o S=some S1/\gM X (dA X (tp X n)) bY da n0 (k+1) l S1=some r:=by
   intro S1 h1 h2;obtain⟨a,ha⟩:=LU h1;obtain⟨b,hb⟩:=tP h2;exact⟨max a b,x9 (kB (oZ X (adH a b))) ha,nY (kB (oZ X (adm a b))) hb⟩
  unfold gM at hr;split at hr
  ·rename_i hg;split at hr
   ·rename_i S1 h1;obtain⟨n,ha,hb⟩:=two h1 hr;exact⟨n,by unfold gM;grind⟩
   grind
  ·rename_i j want hg;split at hr
   ·rename_i d hd;split at hr
    ·rename_i b Lw;split at hr
     ·rename_i hif;split at hr
      ·rename_i S1 h1;obtain⟨n,ha,hb⟩:=two h1 hr;exact⟨n,by unfold gM;grind⟩
      grind
     ·rename_i hif;obtain⟨n,hn⟩:=tP hr;exact⟨n,by unfold gM;grind⟩
    ·rename_i hnb;obtain⟨n,hn⟩:=tP hr;refine⟨n,?_⟩;unfold gM
     grind
    grind
   grind
def lA.cont{X:Env}{bY ops n0 S0 S1}: ∀{l},lA X (dA X (ev X)) bY ops n0 S0 S1 l-> ∃n,lA X (dA X (tp X n)) bY ops n0 S0 S1 l
 | [],_=>⟨0,fun q hq=>by grind⟩
 |q::l,hs=>by
  obtain⟨a,ha⟩:=lA.cont (l:=l) fun x hx=>hs x (acY _ hx);rcases hs q (acQ ..) with hk|⟨o,T,v,h1,h2,h3⟩
  ·refine⟨a,fun x hx=> ?_⟩;rcases List.mem_cons.1 hx with rfl|hx
   ·grind
   ·exact ha x hx
  obtain⟨b,hb⟩:=tP h2;refine⟨max a b,fun x hx=> ?_⟩;rcases List.mem_cons.1 hx with rfl|hx
  ·exact .inr ⟨o,T,v,h1,nY (kB (oZ X (adm a b))) hb,h3⟩
  ·exact ha.mono (kB (oZ X (adH a b))) x hx
def Pl{X:Env}{f c S r}(hr:ki X (ev X) f c S=some r): ∃n,ki X (tp X n) f c S=some r:=by
 have bgc: ∀{a b:Code} {S S1 r},ev X f a S=some (.normal,S1)->ev X f b S1=some r-> ∃n,tp X n f a S=some (.normal,S1)/\tp X n f b S1=some r:=by
  intro a b S S1 r h1 h2;obtain⟨p,hp⟩:=rU.1 h1;obtain⟨q,hq⟩:=rU.1 h2;exact⟨max p q,oZ X (adH p q) _ _ _ _ hp,oZ X (adm p q) _ _ _ _ hq⟩
 cases c with
 |skip=>exact⟨0,hr⟩
 |exit id=>exact⟨0,hr⟩
 |ret=>exact⟨0,hr⟩
 |region id ops d=>
  simp only[ki]at hr⊢;split at hr
  case h_2=>grind
  split at hr
  ·rename_i S1 h1;split at hr
   ·rename_i hs;obtain⟨n,hn⟩:=tP h1;obtain⟨m,hm⟩:=hs.cont;refine⟨max n m,?_⟩;rw[nY (kB (oZ X (adH n m))) hn];simp only[hm.mono (kB (oZ X (adm n m))),if_true];omega
   grind
  grind
 |seq a b=>
  simp only[ki]at hr⊢;cases ha:ev X f a S with
  |none=>grind
  |some x=>
   obtain⟨e,S1⟩:=x;rw[ha]at hr;cases e with
   |normal=>
    grind
   |exit i=>obtain⟨n,hn⟩:=rU.1 ha;grind
   |ret=>obtain⟨n,hn⟩:=rU.1 ha;grind
 |cond x a b=>
  simp only[ki]at hr⊢;split at hr
  ·split at hr
   ·rename_i ht;obtain⟨n,hn⟩:=rU.1 hr;grind
   ·rename_i ht;obtain⟨n,hn⟩:=rU.1 hr;grind
  grind
 |block id b=>
  simp only[ki]at hr⊢;cases hb:ev X f b S with
  |none=>grind
  |some x=>obtain⟨n,hn⟩:=rU.1 hb;grind
 |loop b=>
  simp only[ki]at hr⊢;split at hr
  case h_2=>grind
  rename_i S0 OS;cases hb:ev X f b S0 with
  |none=>grind
  |some x=>
   obtain⟨e,S1⟩:=x;rw[hb]at hr;cases e with
   |normal=>
    grind
   |exit i=>obtain⟨n,hn⟩:=rU.1 hb;grind
   |ret=>obtain⟨n,hn⟩:=rU.1 hb;grind
 |_=>simp[ki]at hr
def De(X:Env)(f:FuncId)(c:Code)(S:St):ev X f c S=ki X (ev X) f c S:=by
 cases h:ki X (ev X) f c S with
 |some r=>
  obtain⟨n,hn⟩:=Pl h;exact rU.2 ⟨n+1,hn⟩
 |none=>
  cases h2:ev X f c S with
  |none=>rfl
  |some r=>
   obtain⟨n,hn⟩:=rU.1 h2;cases n with
   |zero=>simp[tp]at hn
   |succ n=>
    have:=ER (Uj X n) _ _ _ _ hn
    grind
noncomputable def cL(X:Env):jm:=dA X (ev X)
noncomputable def bW(X:Env)(g:FuncId)(args:List V):Option V:=
 match rM X (cL X) g args with
 |some (v,h,_)=>(cx h depth v).map V.lM
 |none=>none
end Go.Abs
