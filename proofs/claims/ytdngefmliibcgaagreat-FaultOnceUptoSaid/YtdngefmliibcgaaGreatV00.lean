/- part -/
import Derived.Calls
set_option linter.all false
set_option maxRecDepth 20000
set_option maxHeartbeats 20000000
namespace Go.Abs
open Go
def aaE:=@Nat.add_assoc
def aaF:=@Bool.and_eq_true
def aaG:=@Int.eq_ofNat_of_zero_le
def aaH:=@Int.toNat_natCast
def aaI:=@Nat.le_refl
def aaJ:=@List.getElem?_eq_getElem
def aaK:=@Int.tmod_eq_emod_of_nonneg
def aaL:=@List.getElem_mem
def aaM:=@Bool.false_eq_true
def aaN:=@List.length_set
def aaO:=@List.getElem?_append_right
def aaP:=@List.all_eq_true
def aaQ:=@List.getD_eq_getElem?_getD
def aaR:=@Nat.lt_or_ge
def aaS:=@List.mem_of_mem_take
def aaT:=@List.mem_of_getElem?
def aaU:=@Ne.symm
def aaV:=@List.map_cons
def aaW:=@List.getElem?_append_left
def aaX:=@List.mem_or_eq_of_mem_set
def aaY:=@List.length_append
def aaZ:=@Bool.not_eq_true'
def abA:=@List.getElem_set
def abB:=@List.mem_of_mem_drop
def abC:=@List.take_length
def abD:=@Int.tdiv_eq_ediv_of_nonneg
def abE:=@List.getElem_of_mem
def abF:=@List.ext_getElem?
def abG:=@List.getElem?_map
def abH:=@Array.getD_eq_getD_getElem?
def abI:=@List.getElem?_eq_none
def abJ:=@List.length_map
def abK:=@Nat.le_trans
def abL:=@List.map_append
def abM:=@List.map_nil
def abN:=@List.getElem?_set
def abO:=@List.map_set
def abP:=@List.length_cons
def abQ:=@Nat.mul_le_mul_right
def abR:=@List.length_take
def abS:=@List.set_getElem_self
def abT:=@List.eq_nil_of_length_eq_zero
def abU:=@List.getElem_set_ne
def abV:=@Option.getD_some
def abW:=@Int.emod_lt_of_pos
def abX:=@List.getElem?_drop
def abY:=@Nat.lt_of_lt_of_le
def abZ:=@Array.length_toList
def ack:=@List.getElem?_mapIdx
def acm:=@Bool.or_eq_true
def aco:=@List.getElem_set_self
def acq:=@Option.map_some
def acA:=@List.cons.injEq
def acB:=@List.getElem_cons_zero
def acC:=@List.append_assoc
def acD:=@Int.emod_nonneg
def acE:=@Nat.add_mul
def acF:=@Bool.false_and
def acG:=@List.getD_cons_zero
def acH:=@List.drop_eq_getElem_cons
def acI:=@List.exists_mem_of_ne_nil
def acJ:=@Nat.xor_lt_two_pow
def acK:=@List.range_succ
def acL:=@Nat.zero_add
def acM:=@Array.getElem?_toList
def acN:=@List.contains_iff_mem
def acO:=@Classical.byContradiction
def acP:=@List.length_nil
def acQ:=@Bool.not_eq_false
def acR:=@List.set_set
def acS:=@List.getElem_append_left
def acT:=@List.mem_cons_self
def acU:=@List.getElem_cons_succ
def acV:=@Nat.sub_self
def acW:=@List.length_take_of_le
def acX:=@List.append_nil
def acY:=@Bool.and_eq_false_iff
def acZ:=@List.take_add_one
def adl:=@List.foldl_append
def ads:=@List.mem_cons_of_mem
def adw:=@List.getElem?_set_ne
def adA:=@Nat.le_max_right
def adB:=@List.map_map
def adC:=@List.mem_map
def adD:=@List.getElem_map
def adE:=@Option.getD_none
def adF:=@Nat.mod_eq_of_lt
def adG:=@List.getElem_append_right
def adH:=@Array.mapM_eq_mapM_toList
def adI:=@List.getElem?_take_of_lt
def adJ:=@List.eq_of_mem_replicate
def adK:=@Nat.le_max_left
def adL:=@List.filter_append
def adM:=@List.mem_singleton
def adN:=@List.length_mapIdx
def adO:=@List.set_cons_zero
def adP:=@List.getElem?_take
def adQ:=@Int.le_refl
def adR:=@List.getElem?_cons_zero
def adS:=@Nat.xor_self
def adT:=@Nat.lt_trichotomy
def adU:=@Nat.add_zero
def adV:=@List.set_append_right
def adW:=@Classical.choose_spec
def adX:=@List.length_drop
def adY:=@Nat.le_of_not_lt
def adZ:=@Nat.le_add_right
def aeo:=@Option.bind_some
def aer:=@Bool.true_and
def aeA:=@List.all_cons
def aeB:=@Bool.not_true
def aeC:=@List.getElem?_of_mem
def aeD:=@List.mem_append
def aeE:=@Option.some.inj
def aeF:=@List.foldl_cons
def aeG:=@List.map_congr_left
def aeH:=@List.getD_cons_succ
def aeI:=@List.replicate_succ
def aeJ:=@Nat.ne_of_lt
def aeK:=@Nat.zero_mul
def aeL:=@List.drop_take
def aeM:=@Array.getElem?_map
def aeN:=@List.drop_zero
def aeO:=@Bool.false_or
def aeP:=@Int.ediv_le_self
def aeQ:=@List.any_eq_true
def aeR:=@List.mapIdx_cons
def aeS:=@List.not_mem_nil
def aeT:=@List.cons_append
def aeU:=@Bool.not_eq_true
def aeV:=@List.nil_append
def aeW:=@List.all_append
def aeX:=@Int.ediv_nonneg
def aeY:=@Int.tmod_nonneg
def aeZ:=@Nat.min_eq_left
def ae0:=@Nat.two_pow_pos
def afi:=@List.mem_range
def afu:=@List.drop_drop
def afw:=@List.mapM_cons
def afA:=@List.map_take
def afB:=@List.mem_cons
def afC:=@List.sum_cons
def afD:=@Nat.zero_le
variable  {i n n1 m:Nat}
def aA{α:Type _}(a b:α):(some a=some b)=(a=b):=Option.some.injEq a b
def bM {α:Type _} {β:Type _} (a:α) (b:β) (c:α) (d:β):((a,b)=(c,d))=(a=c/\b=d):=Prod.mk.injEq a b c d
def aZ {α:Type _} {l:List α}  (h:l.length<=i):l.take i=l:=List.take_of_length_le h
inductive V where
 |int (k:IntKind) (n:Int)
 |bool (b:Bool)
 |str (s:List UInt8)
 |agg (cs:List V)
 |dP (vs:List V)
 |sl (clip:Bool) (es:List V)
 |ref (cs:List V)
 |cx (id start len:Nat)
 |ptr (id i f:Nat)
 |ve
 |Pn (b:Bool)
 |fn (g:FuncId) (first E6:List V)
 |bad
 deriving Inhabited
def V.cells:V->List V
 | .agg cs=>cs
 |v=> [v]
structure Ob where
 k:Nat
 es:List V
 eU:Bool
 deriving Inhabited
structure TI where
 size:Nat
 bytes:Nat
 agg:Bool
 zero:V
 elem:Nat
 wQ:List (Nat×Nat)
 arr:Option Nat
 kind:Option IntKind
 wR:List Nat
 deriving Inhabited
abbrev bh:=Nat->Option Ob
structure St where
 f:Nat->V
 h:bh
 n:Nat
abbrev jm:=FuncId->List V->bh->Nat->Option (V×bh×Nat)
inductive Loc where
 |box (t:Nat)
 |slot (t:Nat)
 |cell (t j:Nat)
 deriving DecidableEq
structure Gr where
 loc:Loc
 new:Nat
 k:Nat
 eU:Bool
structure Norm where
 ax6:List Nat
 roots:List Gr
 base:Bool
 n:Nat
structure Prim where
 run:jm->List V->Option V
 mono: ∀(c d:jm) bx7 v,(∀g a h k r,c g a h k=some r->d g a h k=some r)->run c bx7=some v->run d bx7=some v
 cont: ∀(c:Nat->jm) (d:jm) bx7 v,(∀n g a h k r,c n g a h k=some r->c (n+1) g a h k=some r)->(∀g a h k r,d g a h k=some r-> ∃n,c n g a h k=some r)->run d bx7=some v-> ∃n,run (c n) bx7=some v
structure Env where
 P:Program
 ti:TypeId->TI
 oR:FuncId->Nat->Bool
 ie:FuncId->Bool
 gq:FuncId->Bool
 clone:FuncId->Option TypeId
 oS:FuncId->Option Prim
 flat:FuncId->Nat->Bool:=fun _ _=>false
 fZ:FuncId->TypeId->Bool
 sZ:FuncId->Nat->List (Nat×Nat)
 norm:FuncId->Nat->Option Norm
 low:FuncId->Bool
 mask:FuncId->Nat->List (Nat×Nat×TypeId)
 fl:FuncId->List (Nat×Nat×TypeId)
def aR{α:Type}(f:Nat->α)(t:Nat)(v:α):Nat->α:=fun u=>if u=t then v else f u
def St.set(S:St)(d:Option Nat)(v:V):St:=
 match d with
 |some t=>{S with f:=aR S.f t v}
 |none=>S
def St.new(S:St)(o:Ob):St:={S with h:=aR S.h S.n (some o),n:=S.n+1}
def wS:Value->V
 | .bool b=> .bool b
 | .int k n=> .int k n
 | .string s=> .str s.data.toList
 | .pointer none=> .ve
 | .nilIface=> .Pn false
 | .slice none 0 0=> .sl true []
 |_=> .bad
def vV:Value->V
 | .agg cs=> .agg (cs.toList.map wS)
 |v=>wS v
def St.ev(S:St):Operand->V
 | .tmp t=>S.f t
 | .const v=>vV v
 | .func g=> .fn g [] []
 | .global _=> .bad
def cF{α:Type}:List (Option α)->Option (List α)
 | []=>some []
 |none::_=>none
 |some a::r=>match cF r with|some l=>some (a::l)|none=>none
mutual
def V.lP:V->V
 | .sl _ es=> .sl false (eV es)
 | .agg cs=> .agg (eV cs)
 | .dP cs=> .dP (eV cs)
 |v=>v
def eV:List V->List V
 | []=> []
 |c::cs=>c.lP::eV cs
end
def cy(h:bh):Nat->V->Option V
 |_,.int k n=>some (.int k n)
 |_,.bool b=>some (.bool b)
 |_,.str s=>some (.str s)
 |_,.sl c es=>some (.sl c es)
 |_,.ve=>some .ve
 |_,.Pn b=>some (.Pn b)
 |_,.fn g [] []=>some (.fn g [] [])
 |d+1,.agg cs=>match cF (cs.map (cy h d)) with|some l=>some (.agg l)|none=>none
 |d+1,.dP cs=>match cF (cs.map (cy h d)) with|some l=>some (.dP l)|none=>none
 |d+1,.cx id s l=>
  match h id with
  |some o=>
   if s+l<=o.es.length then
    if o.eU then match cF (((o.es.drop s).take l).map (cy h d)) with|some l=>some (.sl false l)|none=>none
    else some (.sl false ((o.es.drop s).take l))
   else none
  |none=>none
 |_,_=>none
def depth:Nat:=12
def V.oU:V->Bool
 | .int .. =>true
 | .bool _=>true
 | .str _=>true
 | .sl .. =>true
 | .ve=>true
 | .Pn _=>true
 | .fn _ [] []=>true
 |_=>false
def V.PH:V->Bool
 | .agg cs=>cs.all V.oU
 |v=>v.oU
def oV(h:bh)(v:V):Option (V×bh):=
 match v with
 | .cx id s l=>match h id with
  |some ob=>if(!ob.eU||ob.es.all V.PH)&&decide (s+l<=ob.es.length) then some ((V.sl false ((ob.es.drop s).take l)).lP,aR h id none) else none
  |none=>none
 |v=>if v.oU then some (v.lP,h) else none
def gd(h:bh):List V->Option (List V×bh)
 | []=>some ([],h)
 |c::cs=>match oV h c with
  |some (c',h1)=>match gd h1 cs with
   |some (rS,h2)=>some (c'::rS,h2)
   |none=>none
  |none=>none
def qs(h:bh)(v:V):Option (V×bh):=
 match v with
 | .agg cs=>match gd h cs with|some (rS,h')=>some (.agg rS,h')|none=>none
 |v=>oV h v
def mG(h:bh):List (Nat×V)->Option (List (Nat×V)×bh)
 | []=>some ([],h)
 |(i,v)::r=>match qs h v with
  |some (v',h1)=>match mG h1 r with
   |some (r',h2)=>some ((i,v')::r',h2)
   |none=>none
  |none=>none
def V.leaf:V->Bool
 | .int .. =>true
 | .bool _=>true
 | .str _=>true
 | .ve=>true
 | .Pn _=>true
 |_=>false
def V.ye:V->Bool
 | .agg cs=>cs.all V.leaf
 |v=>v.leaf
def V.scalar:V->Bool
 | .dP vs=>vs.all V.ye
 |v=>v.ye
def V.Mf:V->Bool
 | .cx .. =>true
 |_=>false
def V.xU:V->Bool
 | .agg cs=>cs.any V.Mf
 | .dP _=>true
 |v=>v.Mf
def lC:Nat->List V->List V->List V
 |0,[],xs=>xs
 |0,c::cs,_::xs=>c::lC 0 cs xs
 |0,_::_,[]=> []
 |n+1,cs,x::xs=>x::lC n cs xs
 |_+1,_,[]=> []
def V.put(e:V)(f:Nat)(v:V):V:=
 match e with
 | .agg xs=> .agg (lC f v.cells xs)
 |_=>v
def part(t:TI)(cs:List V)(f:Nat):Option V:=
 if t.agg then(if f+t.size<=cs.length then some (.agg ((cs.drop f).take t.size)) else none) else cs[f]?
def V.eqv(kd:Nat):V->V->Option Bool
 | .int k a,.int k' b=>if k=k'/\kd=0 then some (a==b) else none
 | .bool a,.bool b=>if kd=1 then some (a==b) else none
 | .str a,.str b=>if kd=2 then some (a==b) else none
 |_,_=>none
def zY:List Nat->List V->List V->Option Bool
 | [],[],[]=>some true
 |k::ks,x::xs,y::ys=>match V.eqv k x y,zY ks xs ys with|some a,some b=>some (a&&b)|_,_=>none
 |_,_,_=>none
def PI(ag:Bool)(wR:List Nat):V->V->Option Bool
 | .agg xs,.agg ys=>if ag=true/\wR≠ [] then zY wR xs ys else none
 | .int k a,.int k' b=>if k=k' then some (a==b) else none
 | .bool a,.bool b=>if ag=false/\wR=[1] then some (a==b) else none
 | .str a,.str b=>some (a==b)
 | .ve,.ve=>if ag=false/\wR=[3] then some true else none
 | .ve,.ptr .. =>if ag=false/\wR=[3] then some false else none
 | .ptr ..,.ve=>if ag=false/\wR=[3] then some false else none
 | .Pn a,.Pn b=>if ag=false/\wR=[4]/\(a&&b)=false then some (a==b) else none
 |_,_=>none
def bits(k:IntKind)(op:BinOp)(x y:Int):Int:=
 match op with
 | .and=>k.wrap (BitVec.ofInt k.bits x&&&BitVec.ofInt k.bits y).toNat
 | .or=>k.wrap (BitVec.ofInt k.bits x|||BitVec.ofInt k.bits y).toNat
 | .xor=>k.wrap (BitVec.ofInt k.bits x^^^BitVec.ofInt k.bits y).toNat
 |_=>k.wrap (BitVec.ofInt k.bits x&&& ~~~ BitVec.ofInt k.bits y).toNat
def Bq(x y:V)(f:IntKind->Int->Int->Option V):Option V:=
 match x,y with
 | .int k a,.int k' b=>if k=k' then f k a b else none
 |_,_=>none
def sQ(ag:Bool)(wR:List Nat)(op:BinOp)(x y:V):Option V:=
 match op with
 | .eql=>match PI ag wR x y with|some b=>some (.bool b)|none=>none
 | .neq=>match PI ag wR x y with|some b=>some (.bool (!b))|none=>none
 | .add=>match x,y with
  | .str a,.str b=>if a.length+b.length<=2^62 then some (.str (a++b)) else none
  |x,y=>Bq x y fun k a b=>some (.int k (k.wrap (a+b)))
 | .sub=>Bq x y fun k a b=>some (.int k (k.wrap (a-b)))
 | .mul=>Bq x y fun k a b=>some (.int k (k.wrap (a*b)))
 | .quo=>Bq x y fun k a b=>if b=0 then none else some (.int k (k.wrap (a.tdiv b)))
 | .rem=>Bq x y fun k a b=>if b=0 then none else some (.int k (a.tmod b))
 | .lss=>Bq x y fun _ a b=>some (.bool (decide (a<b)))
 | .leq=>Bq x y fun _ a b=>some (.bool (decide (a<=b)))
 | .gtr=>Bq x y fun _ a b=>some (.bool (decide (b<a)))
 | .geq=>Bq x y fun _ a b=>some (.bool (decide (b<=a)))
 | .shl=>match x,y with| .int k a,.int _ b=>if b<0 then none else some (.int k (k.wrap (a*2^ (min b.toNat k.bits))))|_,_=>none
 | .shr=>match x,y with| .int k a,.int _ b=>if b<0 then none else some (.int k (a.fdiv (2^ (min b.toNat k.bits))))|_,_=>none
 |op=>Bq x y fun k a b=>some (.int k (bits k op a b))
def unV(op:UnOp)(x:V):Option V:=
 match op,x with
 | .neg,.int k n=>some (.int k (k.wrap (0-n)))
 | .not,.bool b=>some (.bool (!b))
 |_,_=>none
def elems(h:bh):V->Option (List V×Bool)
 | .sl _ es=>some (es,false)
 | .cx id s l=>match h id with|some o=>if s+l<=o.es.length then some ((o.es.drop s).take l,o.eU) else none|none=>none
 | .str s=>some (s.map fun b=> .int .u8 b.toNat,false)
 |_=>none
def byteOf:V->Option UInt8
 | .int .u8 n=>some (UInt8.ofNat n.toNat)
 |_=>none
def bytesOf(es:List V):Option (List UInt8):=cF (es.map byteOf)
def E7:V->Option Nat
 | .sl _ es=>some es.length
 | .cx _ _ l=>some l
 | .str s=>some s.length
 |_=>none
def V.isStr:V->Bool
 | .str _=>true
 |_=>false
def V.Br:V->Bool
 | .ptr .. =>true
 |_=>false
def TI.isStr(t:TI):Bool:=t.wR==[2]
def V.fits(v:V)(k:Nat):Bool:=
 match v with
 | .agg cs=>cs.length==k
 | .dP _=>false
 | .bad=>false
 |_=>k==1
def xH(PJ:List (Nat×Nat))(cs:List V):List (Nat×V)->Option (List V)
 | []=>some cs
 |(i,v)::r=>match PJ[i]? with
  |some (o,k)=>if v.fits k&&decide (o+k<=cs.length) then xH PJ (lC o v.cells cs) r else none
  |none=>none
def qD(k:Nat)(es:List V):List (Nat×V)->Option (List V)
 | []=>some es
 |(i,v)::r=>if v.fits k&&decide (i<es.length) then qD k (es.set i v) r else none
def Yz(d:Nat)(v:Option V)(m:Nat):Option Nat:=
 match v with
 |none=>some d
 |some (.int _ n)=>if 0<=n/\n<=m then some n.toNat else none
 |some _=>none
def bounds(lo hi:Option V)(len:Nat):Option (Nat×Nat):=
 match Yz len hi len with
 |some h=>match Yz 0 lo h with
  |some l=>some (l,h)
  |none=>none
 |none=>none
def Mg(b:Bool)(k:Option IntKind)(h:bh)(n:Nat):V->Option (V×bh×Nat)
 | .str s=>if b=false/\k=some .u8/\s.length<=2^62 then some (.cx n 0 s.length,aR h n (some ⟨1,s.map fun c=> .int .u8 c.toNat,false⟩),n+1) else none
 |_=>none
def tO{b:Bool}{k:Option IntKind}{h h1:bh}{v v1:V}(he:Mg b k h n v=some (v1,h1,n1)):
  b=false/\k=some .u8/\ ∃s,v= .str s/\s.length<=2^62/\v1= .cx n 0 s.length/\h1=aR h n (some ⟨1,s.map fun c=> .int .u8 c.toNat,false⟩)/\n1=n+1:=by
 cases v with
 |str s=>
  simp only[Mg]at he
  grind
 |_=>cases he
def cI(X:Env)(bZ:FuncId)(o:Oper)(ρ:Operand->V)(h0:bh)(n0:Nat):Option (V×bh×Nat):=
 match o.op with
 | .move x=>some ((ρ x),h0,n0)
 | .assign x=>some ((ρ x),h0,n0)
 | .pick c a b=>match ρ c with| .bool t=>some ((if t then ρ a else ρ b),h0,n0)|_=>none
 | .alloc t=>some ((.ptr n0 0 0),aR h0 n0 (some ⟨(X.ti t).size,[(X.ti t).zero],true⟩),n0+1)
 | .box t x=>if(ρ x).fits (X.ti t).size then some ((.ptr n0 0 0),aR h0 n0 (some ⟨(X.ti t).size,[ρ x],true⟩),n0+1) else none
 | .build t ps=>
  match(X.ti t).arr with
  |none=>if(X.ti t).wQ=[] then none else match xH (X.ti t).wQ (X.ti t).zero.cells (ps.toList.map fun p=>(p.1,ρ p.2)) with
   |some cs=>some ((.agg cs),h0,n0)
   |none=>none
  |some m=>match xH ((List.range m).map fun i=>(i*(X.ti (X.ti t).elem).size,(X.ti (X.ti t).elem).size)) (X.ti t).zero.cells (ps.toList.map fun p=>(p.1,ρ p.2)) with
   |some cs=>some ((.agg cs),h0,n0)
   |none=>none
 | .buildSlice t n ps=>
  let e:=(X.ti t).elem
  if X.fZ bZ e then
   match qD (X.ti e).size (List.replicate n (X.ti e).zero) (ps.toList.map fun p=>(p.1,ρ p.2)) with
   |some es=>some ((.cx n0 0 n),aR h0 n0 (some ⟨(X.ti e).size,es,true⟩),n0+1)
   |none=>none
  else if o.dst.any (X.flat bZ) then
   match mG (fun _=>none) (ps.toList.map fun p=>(p.1,ρ p.2)) with
   |some (l,_)=>match qD (X.ti e).size (List.replicate n (X.ti e).zero) l with
    |some es=>some ((.sl true es),h0,n0)
    |none=>none
   |none=>none
  else
  match mG h0 (ps.toList.map fun p=>(p.1,ρ p.2)) with
  |some (l,h)=>
   match qD (X.ti e).size (List.replicate n (X.ti e).zero) l with
   |some es=>
    if o.dst.any (X.oR bZ) then some ((.cx n0 0 n),aR (h) n0 (some ⟨(X.ti e).size,es,false⟩),n0+1)
    else some ((.sl true es),h,n0)
   |none=>none
  |none=>none
 | .load t a=>match ρ a with
  | .ptr id i f=>match h0 id with
   |some ob=>match ob.es[i]? with
    |some e=>match part (X.ti t) e.cells f with|some v=>some (v,h0,n0)|none=>none
    |none=>none
   |none=>none
  | .ref cs=>match part (X.ti t) cs 0 with|some v=>some (v,h0,n0)|none=>none
  |_=>none
 | .store t a x=>match ρ a with
  | .ptr id i f=>match h0 id with
   |some ob=>
    match(if ob.eU then some (ρ x,h0) else qs h0 (ρ x)) with
    |some (v,h)=>match h id with
     |some ob=>match ob.es[i]? with
      |some e=>if v.fits (X.ti t).size&&decide (f+(X.ti t).size<=e.cells.length) then some (.bad,aR h id (some {ob with es:=ob.es.set i (e.put f v)}),n0) else none
      |none=>none
     |none=>none
    |none=>none
   |none=>none
  |_=>none
 | .nilCheck x=>match ρ x with
  | .ptr id i f=>some ((.ptr id i f),h0,n0)
  | .ref cs=>some ((.ref cs),h0,n0)
  | .fn g a b=>some ((.fn g a b),h0,n0)
  |_=>none
 | .binOp op t x y _=>match sQ (X.ti t).agg (X.ti t).wR op (ρ x) (ρ y) with|some v=>some (v,h0,n0)|none=>none
 | .unOp op _ x=>match unV op (ρ x) with|some v=>some (v,h0,n0)|none=>none
 | .convert _ d x=>match(X.ti d).kind,ρ x with
  |some k,.int _ n=>some ((.int k (k.wrap n)),h0,n0)
  |none,v=>if(X.ti d).isStr=true/\v.isStr=false then(match elems h0 v with
   |some (es,_)=>match bytesOf es with
    |some s=>some (.str s,h0,n0)
    |none=>none
   |none=>none) else Mg (X.ti d).isStr (X.ti (X.ti d).elem).kind h0 n0 v
  |_,_=>none
 | .makeFunc (.func g) a b=>some ((.fn g (a.toList.map ρ) (b.toList.map ρ)),h0,n0)
 | .makeSlice t l c=>match ρ l,ρ c with
  | .int _ n,.int _ m=>if 0<=n/\n<=m/\m*(X.ti (X.ti t).elem).bytes<=2^47/\m<=2^62 then
    some ((.cx n0 0 n.toNat),aR h0 n0 (some ⟨(X.ti (X.ti t).elem).size,List.replicate n.toNat (X.ti (X.ti t).elem).zero,X.fZ bZ (X.ti t).elem⟩),n0+1) else none
  |_,_=>none
 | .slice t x lo hi mx=>
  if(ρ x).isStr=(X.ti t).isStr/\(ρ x).Br=(X.ti t).arr.isSome then
   match ρ x with
   | .sl _ es=>
    if es.all (fun e=>e.cells.length==(X.ti (X.ti t).elem).size) then
     match mx with
     |none=>match bounds (lo.map ρ) (hi.map ρ) es.length with|some (l,h)=>some ((.sl false ((es.take h).drop l)),h0,n0)|none=>none
     |some m=>match ρ m,hi.map ρ with
      | .int _ p,some (.int _ q)=>if p=q then(match bounds (lo.map ρ) (hi.map ρ) es.length with|some (l,h)=>some ((.sl true ((es.take h).drop l)),h0,n0)|none=>none) else none
      |_,_=>none
    else none
   | .cx id s n=>
    match mx,h0 id with
    |none,some ob=>if ob.k=(X.ti (X.ti t).elem).size then(match bounds (lo.map ρ) (hi.map ρ) n with|some (l,h)=>some ((.cx id (s+l) (h-l)),h0,n0)|none=>none) else none
    |some m,some ob=>if ob.k=(X.ti (X.ti t).elem).size then(match ρ m,hi.map ρ with
      | .int _ p,some (.int _ q)=>if p=q then(match bounds (lo.map ρ) (hi.map ρ) n with|some (l,h)=>some ((.cx id (s+l) (h-l)),h0,n0)|none=>none) else none
      |_,_=>none) else none
    |_,none=>none
   | .str s=>match mx with
    |none=>match bounds (lo.map ρ) (hi.map ρ) s.length with|some (l,h)=>some ((.str ((s.take h).drop l)),h0,n0)|none=>none
    |some _=>none
   | .ptr id 0 0=>match mx,lo,hi,(X.ti t).arr,h0 id with
    |none,none,none,some m,some ob=>match ob.es with
     | [e]=>if e.cells.all V.oU=true/\e.cells.length=m/\(X.ti (X.ti t).elem).size=1/\0<m then some (.sl true e.cells,aR h0 id none,n0) else none
     |_=>none
    |_,_,_,_,_=>none
   |_=>none
  else none
 | .fieldAddr t x i=>match(X.ti t).wQ[i]? with
  |some (off,_)=>match ρ x with
   | .ptr id j f=>some ((.ptr id j (f+off)),h0,n0)
   | .ref cs=>some ((.ref (cs.drop off)),h0,n0)
   |_=>none
  |none=>none
 | .indexAddr t x ix=>match ρ ix with
  | .int _ n=>match ρ x with
   | .sl _ es=>if(0<=n/\n<es.length)/\(X.ti t).arr=none then(match es[n.toNat]? with|some e=>if e.cells.length=(X.ti (X.ti t).elem).size then some ((.ref e.cells),h0,n0) else none|none=>none) else none
   | .cx id s l=>if(0<=n/\n<l)/\(X.ti t).arr=none then(match h0 id with|some ob=>if ob.k=(X.ti (X.ti t).elem).size then some ((.ptr id (s+n.toNat) 0),h0,n0) else none|none=>none) else none
   | .ptr id j f=>match(X.ti t).arr with
    |some m=>if 0<=n/\n<m then some ((.ptr id j (f+n.toNat*(X.ti (X.ti t).elem).size)),h0,n0) else none
    |none=>none
   |_=>none
  |_=>none
 | .index t x ix=>match ρ ix with
  | .int _ n=>match ρ x with
   | .str s=>if 0<=n/\(X.ti t).arr=none then(match s[n.toNat]? with|some b=>some ((.int .u8 b.toNat),h0,n0)|none=>none) else none
   | .agg cs=>match(X.ti t).arr with
    |some m=>if 0<=n/\n<m then(match part (X.ti (X.ti t).elem) cs (n.toNat*(X.ti (X.ti t).elem).size) with|some v=>some (v,h0,n0)|none=>none) else none
    |none=>none
   |_=>none
  |_=>none
 | .field t x f=>match ρ x with
  | .agg cs=>match(X.ti t).wQ[f]? with
   |some (k,_)=>match part (X.ti o.type) cs k with|some v=>some (v,h0,n0)|none=>none
   |none=>none
  |_=>none
 | .extract x i=>match ρ x with
  | .dP vs=>match vs[i]? with|some v=>some (v,h0,n0)|none=>none
  |_=>none
 | .call ⟨.builtin .len,args,mH⟩=>match args.toList.map ρ with
  | [x]=>if x.isStr=(X.ti (mH.getD 0 0)).isStr then(match E7 x with|some n=>some ((.int .i64 n),h0,n0)|none=>none) else none
  |_=>none
 | .call ⟨.builtin .min,args,_⟩=>match args.toList.map ρ with
  | [.int k a,.int k' b]=>if k=k' then some ((.int k (if b<a then b else a)),h0,n0) else none
  |_=>none
 | .call ⟨.builtin .max,args,_⟩=>match args.toList.map ρ with
  | [.int k a,.int k' b]=>if k=k' then some ((.int k (if b>a then b else a)),h0,n0) else none
  |_=>none
 | .call ⟨.builtin .append,args,mH⟩=>match args.toList.map ρ with
  | [s,x]=>match elems h0 s,elems h0 x with
   |some (es,kb),some (xs,kx)=>
    let e:=(X.ti (mH.getD 0 0)).elem;let kp:=X.fZ bZ e
    if((kb||kx)&& !kp)|| !(xs.all fun v=>v.cells.length==(X.ti e).size)||(X.ti (mH.getD 1 0)).kind.isSome then none else
    if(es.length+xs.length)*(X.ti e).bytes<=2^47/\es.length+xs.length<=2^62 then
     match s with
     | .sl true []=>some ((.cx n0 0 xs.length),aR h0 n0 (some ⟨(X.ti e).size,xs,kp⟩),n0+1)
     | .sl true _=>if kx|| !(es.all fun v=>v.cells.length==(X.ti e).size) then none else some ((.sl false (es++xs)),h0,n0)
     | .cx id _ _=>match h0 id with
      |some ob=>if ob.k=(X.ti e).size then some ((.cx n0 0 (es.length+xs.length)),aR (aR h0 id none) n0 (some ⟨(X.ti e).size,es++xs,kp⟩),n0+1) else none
      |none=>none
     |_=>none
    else none
   |_,_=>none
  |_=>none
 | .call ⟨.builtin .copy,args,mH⟩=>match args.toList.map ρ with
  | [.cx id s l,x]=>match h0 id,elems h0 x with
   |some ob,some (xs,kx)=>
    if x.isStr||(kx&& !ob.eU)|| !(xs.all fun v=>v.cells.length==ob.k) then none else
    if s+l<=ob.es.length/\ob.k=(X.ti (X.ti (mH.getD 0 0)).elem).size then
     some ((.int .i64 (min xs.length l:Nat)),aR h0 id (some {ob with es:=ob.es.take s++xs.take (min xs.length l)++ob.es.drop (s+min xs.length l)}),n0)
    else none
   |_,_=>none
  |_=>none
 |_=>none
def aih(X:Env)(bZ:FuncId)(o:Oper)(S:St):Option St:=
 match cI X bZ o S.ev S.h S.n with
 |some (v,h,n)=>some (({S with h:=h,n:=n}:St).set o.dst v)
 |none=>none
def V.Tc:V->Bool
 | .int .. =>true
 | .bool _=>true
 | .str _=>true
 | .sl _ es=>es.isEmpty
 | .ve=>true
 | .Pn _=>true
 | .cx .. =>true
 | .ptr .. =>true
 | .bad=>true
 | .fn _ [] []=>true
 |_=>false
def V.Mh:V->Bool
 | .agg cs=>cs.all V.Tc
 |v=>v.Tc
def V.pu:V->Bool
 | .dP vs=>vs.all V.Mh
 |v=>v.Mh
def kO:Option Ob->Option Ob
 |some ob=>if ob.es.all V.Mh then some ob else none
 |none=>none
def V.cellAt(v:V)(i j:Nat):V:=
 match v with
 | .dP vs=>(vs.getD i .bad).cells.getD j .bad
 |v=>if i=0 then v.cells.getD j .bad else .bad
def rJ(F:Nat->V->V):Nat->List V->List V
 |_,[]=> []
 |j,c::cs=>F j c::rJ F (j+1) cs
def uE(F:Nat->V->V):V->V
 | .agg cs=> .agg (rJ F 0 cs)
 |v=>F 0 v
def vf(F:Nat->Nat->V->V):V->V
 | .dP vs=> .dP (rJ (fun i v=>uE (F i) v) 0 vs)
 |v=>uE (F 0) v
def V.src:V->Option Nat
 | .cx id _ _=>some id
 |_=>none
def differ:Option Nat->Option Nat->Bool
 |some a,some b=>a !=b
 |_,_=>true
def vg:List (Option Nat)->Bool
 | []=>true
 |a::r=>r.all (differ a)&&vg r
def gr(h:bh):List (Option Nat)->bh
 | []=>h
 |some id::r=>aR (gr h r) id none
 |none::r=>gr h r
def rowAt(X:Env)(h hx:bh)(t:TypeId)(c:V):Option (List V):=
 match c with
 | .sl true []=>some []
 | .cx id s l=>match h id with
  |some ob=>if ob.k=(X.ti t).size/\s+l<=ob.es.length then match cF (((ob.es.drop s).take l).map (cy hx depth)) with
    |some es=>some (eV es)
    |none=>none
   else none
  |none=>none
 |_=>none
abbrev Mask:=List (Nat×Nat×TypeId)
def mS:Nat->Mask->Nat->Nat->Option (Nat×TypeId)
 |_,[],_,_=>none
 |n,(a,b,t)::r,i,j=>if a=i/\b=j then some (n,t) else mS (n+1) r i j
def mI(X:Env)(h hx:bh)(m:Mask)(i j:Nat)(c:V):V:=
 match mS 0 m i j with
 |some (_,t)=>match rowAt X h hx t c with
  |some es=> .sl false es
  |none=> .bad
 |none=>match cy hx depth c with
  |some c'=>c'.lP
  |none=> .bad
def iF(v:V)(m:Mask):List (Option Nat):=m.map fun q=>(v.cellAt q.1 q.2.1).src
def Bs(X:Env)(h hx:bh)(v:V)(m:Mask):Option V:=
 if vg (iF v m)&&m.all (fun q=>(rowAt X h hx q.2.2 (v.cellAt q.1 q.2.1)).isSome) then some (vf (mI X h hx m) v) else none
def Mi(X:Env)(h:bh)(v:V)(m:Mask):Option V:=Bs X h (gr h (iF v m)) v m
def vh(n:Nat)(m:Mask):V->V:=vf fun i j c=>
 match mS n m i j with
 |some (q,_)=>match c with
  | .sl _ es=> .cx q 0 es.length
  |_=> .bad
 |none=>c
def Bt(X:Env)(kp:TypeId->Bool)(R:V)(q:Nat×Nat×TypeId):Option Ob:=
 match R.cellAt q.1 q.2.1 with
 | .sl _ es=>some ⟨(X.ti q.2.2).size,es,kp q.2.2⟩
 |_=>none
def xV(X:Env)(kp:TypeId->Bool)(R:V):Nat->Mask->bh->bh
 |_,[],h=>h
 |n,q::m,h=>aR (xV X kp R (n+1) m h) n (Bt X kp R q)
def rL(h:bh):List V->Option (List V×bh)
 | []=>some ([],h)
 |v::r=>match qs h v with
  |some (v',h1)=>match rL h1 r with
   |some (r',h2)=>some (v'::r',h2)
   |none=>none
  |none=>none
def qE(e v:V):V:=
 match v with
 | .dP vs=> .dP (e::vs)
 |v=> .dP [e,v]
def yf(v:V)(vs:List V):V:=
 match v with
 | .dP _=> .dP vs
 |_=>vs.headD .bad
def rT(X:Env)(bZ:FuncId)(dst:Option Nat)(g:FuncId):Mask:=X.fl g++(dst.elim [] (X.mask bZ)).map fun q=>(q.1+1,q.2.1,q.2.2)
def yg(X:Env)(M:Mask)(v:V)(h:bh):Option (Nat×V×List V):=
 match h 0 with
 |some oE=>
  match oE.es with
  | [e']=>if oE.eU then
    match Mi X (aR h 0 none) (qE e' v) M with
    |some (.dP (r::rs))=>some (oE.k,r,rs)
    |_=>none
   else none
  |_=>none
 |none=>none
def l9(X:Env)(g:FuncId)(k:Nat)(R:V):bh:=xV X (X.fZ g) R 1 (X.fl g) (aR (fun _=>none) 0 (some ⟨k,[vh 1 (X.fl g) R],true⟩))
def E8:V->V
 | .dP (v::_)=>v
 |_=> .bad
def Td:V->List V
 | .dP (_::vs)=>vs
 |_=> []
def vj(X:Env)(call:jm)(bZ:FuncId)(dst:Option Nat)(g:FuncId)(args:List V)(S:St):Option St:=
 match args with
 | .ptr id 0 0::rest=>
  match S.h id with
  |some ob=>
   match ob.es with
   | [e]=>
    if ob.eU then
     match Bs X (aR S.h id none) (fun _=>none) e (X.fl g) with
     |some R=>
      match rL (gr (aR S.h id none) (iF e (X.fl g))) rest with
      |some (bx7,h1)=>
       match call g (.ptr 0 0 0::bx7) (l9 X g ob.k R) (1+(X.fl g).length) with
       |some (v,h,_)=>
        match yg X (rT X bZ dst g) v h with
        |some (k',r,rs)=>
         some ((⟨S.f,xV X (X.fZ bZ) (.dP (r::rs)) S.n (rT X bZ dst g) (aR h1 id (some ⟨k',[E8 (vh S.n (rT X bZ dst g) (.dP (r::rs)))],true⟩)),S.n+(rT X bZ dst g).length⟩:St).set dst
          (yf v (Td (vh S.n (rT X bZ dst g) (.dP (r::rs))))))
        |none=>none
       |none=>none
      |none=>none
     |none=>none
    else none
   |_=>none
  |none=>none
 |_=>none
def mT(X:Env)(call:jm)(bZ:FuncId)(dst:Option Nat)(g:FuncId)(args:List V)(S:St):Option St:=
 match rL S.h args with
 |some (bx7,h1)=>
  match call g bx7 (fun _=>none) 0 with
  |some (v,h,_)=>
   match Mi X h v (dst.elim [] (X.mask bZ)) with
   |some r=>some ((⟨S.f,xV X (X.fZ bZ) r S.n (dst.elim [] (X.mask bZ)) h1,S.n+(dst.elim [] (X.mask bZ)).length⟩:St).set dst (vh S.n (dst.elim [] (X.mask bZ)) r))
   |none=>none
  |none=>none
 |none=>none
def rM(X:Env)(call:jm)(g:FuncId)(bx7:List V):Option (V×bh×Nat):=
 match X.oS g with
 |some pr=>match pr.run call bx7 with
  |some v=>some (v,fun _=>none,0)
  |none=>none
 |none=>call g bx7 (fun _=>none) 0
def gV(X:Env)(call:jm)(bZ:FuncId)(dst:Option Nat)(g:FuncId)(args:List V)(S:St):Option St:=
 match X.clone g with
 |some t=>
  match args with
  | [s]=>match elems S.h s with
   |some (es,kx)=>if s.isStr||(kx&& !X.fZ bZ (X.ti t).elem)|| !(es.all fun v=>v.cells.length==(X.ti (X.ti t).elem).size)|| !decide (es.length*(X.ti (X.ti t).elem).bytes<=2^47/\es.length<=2^62) then none else some ((S.new ⟨(X.ti (X.ti t).elem).size,es,X.fZ bZ (X.ti t).elem⟩).set dst (.cx S.n 0 es.length))
   |none=>none
  |_=>none
 |none=>
 if X.ie g&& !X.low g then
  match call g args S.h S.n with
  |some (v,h,n)=>some (({S with h:=h,n:=n}:St).set dst v)
  |none=>none
 else if X.gq g then vj X call bZ dst g args S
 else if !(dst.elim [] (X.mask bZ)).isEmpty then mT X call bZ dst g args S
 else
  match cF (args.map (cy S.h depth)) with
  |some bx7=>
   if dst.any (X.oR bZ)&& !X.low g then
    match call g (eV bx7) (fun _=>none) S.n with
    |some (v,h,n)=>if args.any V.xU&& !v.pu then none else some (({S with h:=fun id=>if id<S.n then S.h id else if args.any V.xU then kO (h id) else h id,n:=n}:St).set dst v)
    |none=>none
   else
    match rM X call g (eV bx7) with
    |some (v,h,_)=>match cy h depth v with
     |some v=>if args.any V.xU&& !v.scalar then none else some (S.set dst v.lP)
     |none=>none
    |none=>none
  |none=>none
def fq(X:Env)(call:jm)(bZ:FuncId)(n0 j:Nat)(o:Oper)(S:St):Option St:=
 match o.op with
 | .call ⟨.value x,args,_⟩=>
  match S.ev x with
  | .fn g first E6=>gV X call bZ o.dst g (first++args.toList.map S.ev++E6) S
  |_=>none
 |_=>
  match cI X bZ o S.ev S.h (n0+j) with
  |some (v,h,_)=>some (({S with h:=h}:St).set o.dst v)
  |none=>none
def gM(X:Env)(call:jm)(bZ:FuncId)(dc:List (Option Nat))(n0:Nat):Nat->List Oper->St->Option St
 |_,[],S=>some S
 |k,o::r,S=>
  match o.guard with
  |none=>match fq X call bZ n0 k o S with|some S1=>gM X call bZ dc n0 (k+1) r S1|none=>none
  |some (j,want)=>
   match dc[j]? with
   |some (some d)=>match S.f d with
    | .bool b=>if b=want then(match fq X call bZ n0 k o S with|some S1=>gM X call bZ dc n0 (k+1) r S1|none=>none) else gM X call bZ dc n0 (k+1) r (S.set o.dst (.dP []))
    | .dP []=>gM X call bZ dc n0 (k+1) r (S.set o.dst (.dP []))
    |_=>none
   |_=>none
inductive Ex where
 |normal
 |exit (id:Nat)
 |ret
 deriving DecidableEq
def na(X:Env)(rs:List ResultVar)(S:St):Option V:=
 match cF (rs.map fun
  | .tmp t=>some (S.f t)
  | .cell a t=>match S.f a with
   | .ptr id i f=>match S.h id with
    |some ob=>match ob.es[i]? with
     |some e=>part (X.ti t) e.cells f
     |none=>none
    |none=>none
   |_=>none) with
 |some [v]=>some v
 |some vs=>some (.dP vs)
 |none=>none
def oH(args:List V):Nat->V:=fun t=>match args[t]? with|some v=>v|none=> .bad
abbrev Ev:=FuncId->Code->St->Option (Ex×St)
def vW(X:Env)(rs:List ResultVar):Option (Ex×St)->Option (V×bh×Nat)
 |some (.normal,S)=>match na X rs S with|some v=>some (v,S.h,S.n)|none=>none
 |some (.ret,S)=>match na X rs S with|some v=>some (v,S.h,S.n)|none=>none
 |_=>none
def dC(X:Env)(E:Ev):jm:=fun g args h k=>
 match X.oS g with
 |some _=>none
 |none=>match X.P.funcs[g]? with
  |some fn=>match fn.body with
   |some b=>vW X fn.results.toList (E g b ⟨oH args,h,k⟩)
   |none=>none
  |none=>none
def I9(dc:List (Option Nat))(o:Oper)(S1:St):Prop:=
 match o.guard with
 |some (j,want)=>(match dc[j]? with
  |some (some d)=>S1.f d= .dP []\/S1.f d= .bool (!want)
  |_=>False)
 |none=>False
def lD(X:Env)(call:jm)(bZ:FuncId)(ops:List Oper)(n0:Nat)(S0 S1:St)(l:List (Nat×Nat)):Prop:=
 ∀q∈l,(∃o,ops[q.1]?=some o/\I9 (ops.map (·.dst)) o S1)\/(∃o T v,ops[q.1]?=some o/\gM X call bZ (ops.map (·.dst)) n0 0 (ops.take q.2) S0=some T/\
  cI X bZ o S1.ev T.h (n0+q.1)=some (v,T.h,n0+q.1)/\ ∀d,o.dst=some d->S1.f d=v)
def Loc.val(S:St):Loc->V
 | .box t=>S.f t
 | .slot t=>S.f t
 | .cell t j=>match S.f t with
  | .ptr id 0 0=>match S.h id with
   |some ob=>match ob.es with
    | [e]=>e.cells.getD j .bad
    |_=> .bad
   |none=> .bad
  |_=> .bad
def V.root:V->Option Nat
 | .cx id _ _=>some id
 | .ptr id 0 0=>some id
 |_=>none
def V.boxed:V->Option Nat
 | .ptr id 0 0=>some id
 |_=>none
def look(S:St)(id:Nat):List Gr->Option Nat
 | []=>none
 |a::r=>if(a.loc.val S).root=some id then some a.new else look S id r
def V.wide:V->V
 | .sl _ es=> .sl false es
 |v=>v
def fixC(S:St)(N:Norm)(hx:bh):V->V
 | .cx id s l=>match look S id N.roots with
  |some j=> .cx j s l
  |none=>match cy hx depth (.cx id s l) with
   |some v=>v
   |none=> .bad
 | .ptr id i f=>match look S id N.roots with
  |some j=> .ptr j i f
  |none=> .bad
 |v=>if v.oU then v.wide else .bad
def Kx(S:St)(N:Norm)(hx:bh):V->V
 | .agg cs=> .agg (cs.map (fixC S N hx))
 |v=>fixC S N hx v
def E9(S:St)(N:Norm)(hx:bh):V->V
 | .dP vs=> .dP (vs.map (Kx S N hx))
 | .fn g a b=> .fn g (a.map (Kx S N hx)) (b.map (Kx S N hx))
 | .ref cs=> .ref cs
 |v=>Kx S N hx v
def zx(t:Nat):List Gr->Option Nat
 | []=>none
 |a::r=>if a.loc= .slot t then some a.new else zx t r
def qo(S:St)(id j:Nat):List Gr->Option Nat
 | []=>none
 |a::r=>match a.loc with
  | .cell t j'=>if j'=j/\(S.f t).boxed=some id then some a.new else qo S id j r
  |_=>qo S id j r
def xW(o:Option Nat)(v w:V):V:=
 match v with
 | .sl true []=>match o with
  |some n=> .cx n 0 0
  |none=>w
 |_=>w
def Bu(S:St)(N:Norm)(hx:bh)(id:Nat):Nat->List V->List V
 |_,[]=> []
 |j,c::cs=>xW (qo S id j N.roots) c (fixC S N hx c)::Bu S N hx id (j+1) cs
def PK(S:St)(N:Norm)(hx:bh)(id:Nat):V->V
 | .agg cs=> .agg (Bu S N hx id 0 cs)
 |v=>xW (qo S id 0 N.roots) v (fixC S N hx v)
def Fa(S:St)(N:Norm)(hx:bh)(id:Nat):Option Ob->Option Ob
 |some ob=>
  if ob.eU then
   match ob.es with
   | [e]=>some ⟨ob.k,[PK S N hx id e],true⟩
   |es=>if es.all V.PH then some ob else none
  else some ob
 |none=>none
def fixF(S:St)(N:Norm)(hx:bh):List Nat->Nat->V
 | []=>fun _=> .bad
 |t::r=>aR (fixF S N hx r) t (xW (zx t N.roots) (S.f t) (E9 S N hx (S.f t)))
def PL(S:St)(N:Norm)(hx:bh)(k:Nat)(eU:Bool):V->Option Ob
 | .sl true []=>some ⟨k,[],eU⟩
 |v=>match v.root with
  |some id=>Fa S N hx id (S.h id)
  |none=>none
def Gr.ob(S:St)(N:Norm)(hx:bh)(a:Gr):Option Ob:=PL S N hx a.k a.eU (a.loc.val S)
def PM(S:St)(N:Norm)(hx:bh):List Gr->bh
 | []=>fun _=>none
 |a::r=>aR (PM S N hx r) a.new (a.ob S N hx)
def Norm.tq(N:Norm)(S:St):List (Option Nat):=N.roots.map fun a=>(a.loc.val S).root
def m9(id:Nat):List Gr->Option Gr
 | []=>none
 |a::r=>if a.new=id then some a else m9 id r
def Norm.first(N:Norm)(S:St):Bool:=
 match N.base,N.roots with
 |false,_=>true
 |true,a::_=>a.new==0&& (a.loc.val S).root==some 0
 |_,_=>false
def Norm.ok(N:Norm):Bool:=decide (1<=N.n)&&N.roots.all (fun a=>decide (a.new<N.n)&& (match m9 a.new N.roots with|some b=>decide (b.loc=a.loc)|none=>false))
def Norm.run(N:Norm)(S:St):Option St:=
 if vg (N.tq S)&&N.first S then
  some ⟨fixF S N (gr S.h (N.tq S)) N.ax6,PM S N (gr S.h (N.tq S)) N.roots,N.n⟩
 else none
def jc:Code->Nat
 | .region id _ _=>id
 | .seq a _=>jc a
 | .block _ b=>jc b
 | .loop b=>jc b
 |_=>0
def oN(X:Env)(bZ:FuncId)(key:Nat)(S:St):Option St:=
 match X.norm bZ key with
 |some N=>N.run S
 |none=>some S
open Classical in
noncomputable def kq(X:Env)(E:Ev):Ev:=fun bZ c S=>
 match c with
 | .skip=>some (.normal,S)
 | .region id ops _=>match oN X bZ (2*id) S with
  |some S=>match gM X (dC X E) bZ (ops.toList.map (·.dst)) S.n 0 ops.toList {S with n:=S.n+ops.size} with
   |some S1=>if lD X (dC X E) bZ ops.toList S.n {S with n:=S.n+ops.size} S1 (X.sZ bZ id) then some (.normal,S1) else none
   |none=>none
  |none=>none
 | .seq a b=>match E bZ a S with
  |some (.normal,S1)=>E bZ b S1
  |r=>r
 | .cond x a b=>match S.ev x with
  | .bool t=>if t then E bZ a S else E bZ b S
  |_=>none
 | .block id b=>match E bZ b S with
  |some (.exit i,S1)=>if i=id then some (.normal,S1) else some (.exit i,S1)
  |r=>r
 | .loop b=>match oN X bZ (2*jc b+1) S with
  |some S=>match E bZ b S with
   |some (.normal,S1)=>E bZ (.loop b) S1
   |r=>r
  |none=>none
 | .exit id=>some (.exit id,S)
 | .ret=>some (.ret,S)
 |_=>none
noncomputable def tu(X:Env):Nat->Ev
 |0=>fun _ _ _=>none
 |n+1=>kq X (tu X n)
def jm.le(c d:jm):Prop:= ∀g a h k r,c g a h k=some r->d g a h k=some r
def Ev.le(c d:Ev):Prop:= ∀f b S r,c f b S=some r->d f b S=some r
def kG{X:Env}{E E':Ev}(h:E.le E'):(dC X E).le (dC X E'):=by
 intro g a hp k r hr;unfold dC at hr⊢;have Ky:X.oS g=none:=by
  cases Ky:X.oS g with
  |none=>rfl
  |some pr=>grind
 simp only[Ky]at hr⊢;split at hr
 ·split at hr
  ·rename_i b hb;cases he:E g b ⟨oH a,hp,k⟩ with
   |none=>simp[he,vW]at hr
   |some x=>rw[h _ _ _ _ he];grind
  omega
 omega
def PN{X:Env}{c d:jm}(h:c.le d){g bx7 r}(hr:rM X c g bx7=some r):rM X d g bx7=some r:=by
 unfold rM at hr⊢;cases hp:X.oS g with
 |none=>simp only[hp]at hr⊢;exact h _ _ _ _ _ hr
 |some pr=>
  simp only[hp]at hr⊢;cases hv:pr.run c bx7 with
  |none=>grind
  |some v=>rw[hv]at hr;rw[pr.mono c d bx7 v h hv];omega
def UI{X:Env}{c d:jm}(h:c.le d){bZ dst g args S r}(hr:vj X c bZ dst g args S=some r):vj X d bZ dst g args S=some r:=by
 unfold vj at hr⊢;split at hr
 case h_2=>omega
 rename_i id rest;cases ho:S.h id with
 |none=>grind
 |some ob=>
  simp only[ho]at hr⊢;split at hr
  case h_2=>omega
  split at hr
  case isFalse=>grind
  rename_i hk;rw[if_pos hk];split at hr
  case h_2=>omega
  rename_i R hR;split at hr
  case h_2=>omega
  rename_i bx7 h1 hg;cases h5:c g (.ptr 0 0 0::bx7) (l9 X g ob.k R) (1+(X.fl g).length) with
  |none=>grind
  |some x=>rw[h _ _ _ _ _ h5];grind
def Mj{X:Env}{c d:jm}(h:c.le d){bZ dst g args S r}(hr:mT X c bZ dst g args S=some r):mT X d bZ dst g args S=some r:=by
 unfold mT at hr⊢;split at hr
 case h_2=>omega
 rename_i bx7 h1 hg;cases h5:c g bx7 (fun _=>none) 0 with
 |none=>grind
 |some x=>rw[h _ _ _ _ _ h5];grind
def Mk{X:Env}{c d:jm}(h:c.le d){bZ dst g args S r}(hr:gV X c bZ dst g args S=some r):gV X d bZ dst g args S=some r:=by
 unfold gV at hr⊢;cases h1:X.clone g with
 |some t=>grind
 |none=>
  simp only[h1]at hr⊢;by_cases h2:(X.ie g&& !X.low g)=true
  ·simp only[h2,if_true]at hr⊢;cases h5:c g args S.h S.n with
   |none=>grind
   |some x=>rw[h _ _ _ _ _ h5];grind
  ·simp only[h2,if_false,aaM]at hr⊢;by_cases Bm:X.gq g=true
   ·simp only[Bm,if_true]at hr⊢;exact UI h hr
   simp only[Bm,if_false,aaM]at hr⊢;by_cases HX:(!(dst.elim [] (X.mask bZ)).isEmpty)=true
   ·simp only[HX,if_true]at hr⊢;exact Mj h hr
   simp only[HX,if_false,aaM]at hr⊢;cases h3:cF (args.map (cy S.h depth)) with
   |none=>grind
   |some bx7=>
    simp only[h3]at hr⊢;by_cases h4:(dst.any (X.oR bZ)&& !X.low g)=true
    ·simp only[h4,if_true]at hr⊢;cases h5:c g (eV bx7) (fun _=>none) S.n with
     |none=>grind
     |some x=>rw[h _ _ _ _ _ h5];grind
    ·simp only[h4,if_false,aaM]at hr⊢;cases h5:rM X c g (eV bx7) with
     |none=>grind
     |some x=>rw[PN h h5];grind
def yh{X:Env}{c d:jm}(h:c.le d){bZ n0 j o S r}(hr:fq X c bZ n0 j o S=some r):fq X d bZ n0 j o S=some r:=by
 unfold fq at hr⊢;split at hr
 ·split at hr
  ·exact Mk h hr
  omega
 omega
def nN{X:Env}{c d:jm}(h:c.le d){bZ dc n0}: ∀{k l S r},gM X c bZ dc n0 k l S=some r->gM X d bZ dc n0 k l S=some r
 |_,[],S,r,hr=>hr
 |k,o::l,S,r,hr=>by
  unfold gM at hr⊢;split at hr
  ·split at hr
   ·rename_i S1 h1;rw[yh h h1];exact nN h hr
   grind
  ·split at hr
   ·split at hr
    ·split at hr
     ·split at hr
      ·rename_i S1 h1;rename_i hif _;simp only[hif,if_true];rw[yh h h1];exact nN h hr
      grind
     ·rename_i hif;simp only[hif,if_false];exact nN h hr
    ·exact nN h hr
    omega
   omega
def lD.mono{X:Env}{c d:jm}(h:c.le d){bZ ops n0 S0 S1 l}(hs:lD X c bZ ops n0 S0 S1 l):lD X d bZ ops n0 S0 S1 l:=by
 intro q hq;rcases hs q hq with hk|⟨o,T,v,h1,h2,h3⟩
 ·grind
 ·exact .inr ⟨o,T,v,h1,nN h h2,h3⟩
def Fb{X:Env}{E E':Ev}(h:E.le E'):(kq X E).le (kq X E'):=by
 intro f c S r hr;unfold kq at hr⊢;split at hr
 ·omega
 ·split at hr
  case h_2=>omega
  split at hr
  ·rename_i S1 h1;split at hr
   ·rename_i hs;rw[nN (kG h) h1];simp only[hs.mono (kG h),if_true];omega
   grind
  grind
 ·rename_i a b;cases ha:E f a S with
  |none=>grind
  |some x=>
   rw[h _ _ _ _ ha];rw[ha]at hr;obtain⟨e,S1⟩:=x;cases e with
   |normal=>exact h _ _ _ _ hr
   |exit i=>omega
   |ret=>omega
 ·split at hr
  ·split at hr
   ·rename_i ht;simp only[ht,if_true];exact h _ _ _ _ hr
   ·rename_i ht;simp only[ht,if_false,aaM];exact h _ _ _ _ hr
  omega
 ·rename_i id b;cases hb:E f b S with
  |none=>grind
  |some x=>rw[h _ _ _ _ hb];grind
 ·rename_i b;split at hr
  case h_2=>omega
  rename_i S0 hn;cases hb:E f b S0 with
  |none=>grind
  |some x=>
   rw[h _ _ _ _ hb];rw[hb]at hr;obtain⟨e,S1⟩:=x;cases e with
   |normal=>exact h _ _ _ _ hr
   |exit i=>omega
   |ret=>omega
 ·omega
 ·omega
 omega
def YA(X:Env): ∀n,(tu X n).le (tu X (n+1))
 |0=>by intro f c S r hr;simp[tu]at hr
 |n+1=>Fb (YA X n)
def oW(X:Env)(h:n<=m):(tu X n).le (tu X m):=by
 induction h with
 |refl=>intro f c S r hr;omega
 |step _ ih=>intro f c S r hr;exact YA X _ _ _ _ _ (ih _ _ _ _ hr)
open Classical in
noncomputable def ev(X:Env):Ev:=fun f c S=>if h: ∃n,∃r,tu X n f c S=some r then some h.choose_spec.choose else none
def rU{X:Env}{f c S r}:ev X f c S=some r↔ ∃n,tu X n f c S=some r:=by
 unfold ev;constructor
 ·intro h;split at h
  ·grind
  grind
 ·rintro⟨n,hn⟩;have hx: ∃n,∃r,tu X n f c S=some r:=⟨n,r,hn⟩;rw[dif_pos hx];have h2:=hx.choose_spec.choose_spec;have h3:=oW X (adK n hx.choose) _ _ _ _ hn;have h4:=oW X (adA n hx.choose) _ _ _ _ h2
  grind
def UJ(X:Env)(n:Nat):(tu X n).le (ev X):=fun _ _ _ _ h=>rU.2 ⟨n,h⟩
def mU{X:Env}{g a h k r}(hr:dC X (ev X) g a h k=some r): ∃n,dC X (tu X n) g a h k=some r:=by
 unfold dC at hr;have Ky:X.oS g=none:=by
  cases Ky:X.oS g with
  |none=>rfl
  |some pr=>grind
 simp only[Ky]at hr;split at hr
 ·rename_i fn hf;split at hr
  ·rename_i b hb;cases he:ev X g b ⟨oH a,h,k⟩ with
   |none=>simp[he,vW]at hr
   |some x=>
    obtain⟨n,hn⟩:=rU.1 he;exact⟨n,by unfold dC;grind⟩
  grind
 grind
def PO{X:Env}{g bx7 r}(hr:rM X (dC X (ev X)) g bx7=some r): ∃n,rM X (dC X (tu X n)) g bx7=some r:=by
 unfold rM at hr;cases hp:X.oS g with
 |none=>
  simp only[hp]at hr;obtain⟨n,hn⟩:=mU hr;exact⟨n,by unfold rM;grind⟩
 |some pr=>
  simp only[hp]at hr;cases hv:pr.run (dC X (ev X)) bx7 with
  |none=>grind
  |some v=>
   rw[hv]at hr;obtain⟨n,hn⟩:=pr.cont (fun n=>dC X (tu X n)) _ bx7 v (fun n=>kG (oW X (Nat.le_succ n))) (fun _ _ _ _ _ h=>mU h) hv;exact⟨n,by unfold rM;grind⟩
def UK{X:Env}{bZ dst g args S r}(hr:vj X (dC X (ev X)) bZ dst g args S=some r): ∃n,vj X (dC X (tu X n)) bZ dst g args S=some r:=by
 unfold vj at hr;split at hr
 case h_2=>grind
 rename_i id rest;cases ho:S.h id with
 |none=>grind
 |some ob=>
  simp only[ho]at hr;split at hr
  case h_2=>grind
  rename_i e he;split at hr
  case isFalse=>grind
  rename_i hk;split at hr
  case h_2=>grind
  rename_i R hR;split at hr
  case h_2=>grind
  rename_i bx7 h1 hg;cases h5:dC X (ev X) g (.ptr 0 0 0::bx7) (l9 X g ob.k R) (1+(X.fl g).length) with
  |none=>grind
  |some x=>
   obtain⟨n,hn⟩:=mU h5;rw[h5]at hr;exact⟨n,by unfold vj;grind⟩
def Ml{X:Env}{bZ dst g args S r}(hr:mT X (dC X (ev X)) bZ dst g args S=some r): ∃n,mT X (dC X (tu X n)) bZ dst g args S=some r:=by
 unfold mT at hr;split at hr
 case h_2=>grind
 rename_i bx7 h1 hg;cases h5:dC X (ev X) g bx7 (fun _=>none) 0 with
 |none=>grind
 |some x=>
  obtain⟨n,hn⟩:=mU h5;rw[h5]at hr;exact⟨n,by unfold mT;grind⟩
def Mm{X:Env}{bZ dst g args S r}(hr:gV X (dC X (ev X)) bZ dst g args S=some r): ∃n,gV X (dC X (tu X n)) bZ dst g args S=some r:=by
 unfold gV at hr;cases h1:X.clone g with
 |some t=>exact⟨0,by unfold gV;grind⟩
 |none=>
  simp only[h1]at hr;by_cases h2:(X.ie g&& !X.low g)=true
  ·simp only[h2,if_true]at hr;cases h5:dC X (ev X) g args S.h S.n with
   |none=>grind
   |some x=>
    obtain⟨n,hn⟩:=mU h5;rw[h5]at hr;exact⟨n,by unfold gV;grind⟩
  ·simp only[h2,if_false,aaM]at hr;by_cases Bm:X.gq g=true
   ·simp only[Bm,if_true]at hr;obtain⟨n,hn⟩:=UK hr;exact⟨n,by unfold gV;grind⟩
   simp only[Bm,if_false,aaM]at hr;by_cases HX:(!(dst.elim [] (X.mask bZ)).isEmpty)=true
   ·simp only[HX,if_true]at hr;obtain⟨n,hn⟩:=Ml hr;exact⟨n,by unfold gV;grind⟩
   simp only[HX,if_false,aaM]at hr;cases h3:cF (args.map (cy S.h depth)) with
   |none=>grind
   |some bx7=>
    simp only[h3]at hr;by_cases h4:(dst.any (X.oR bZ)&& !X.low g)=true
    ·simp only[h4,if_true]at hr;cases h5:dC X (ev X) g (eV bx7) (fun _=>none) S.n with
     |none=>grind
     |some x=>
      obtain⟨n,hn⟩:=mU h5;rw[h5]at hr;exact⟨n,by unfold gV;grind⟩
    ·simp only[h4,if_false,aaM]at hr;cases h5:rM X (dC X (ev X)) g (eV bx7) with
     |none=>grind
     |some x=>
      obtain⟨n,hn⟩:=PO h5;rw[h5]at hr;exact⟨n,by unfold gV;grind⟩
def Mn{X:Env}{bZ n0 j o S r}(hr:fq X (dC X (ev X)) bZ n0 j o S=some r): ∃n,fq X (dC X (tu X n)) bZ n0 j o S=some r:=by
 unfold fq at hr;split at hr
 ·rename_i x args mH ho;split at hr
  ·rename_i g first E6 hx
   obtain⟨n,hn⟩:=Mm hr;exact⟨n,by unfold fq;grind⟩
  grind
 ·rename_i kz;exact⟨0,by unfold fq;grind⟩
def tP{X:Env}{bZ dc n0}: ∀{k l S r},gM X (dC X (ev X)) bZ dc n0 k l S=some r-> ∃n,gM X (dC X (tu X n)) bZ dc n0 k l S=some r
 |_,[],S,r,hr=>⟨0,hr⟩
 |k,o::l,S,r,hr=>by
  have two: ∀{S1},fq X (dC X (ev X)) bZ n0 k o S=some S1->gM X (dC X (ev X)) bZ dc n0 (k+1) l S1=some r-> ∃n,fq X (dC X (tu X n)) bZ n0 k o S=some S1/\gM X (dC X (tu X n)) bZ dc n0 (k+1) l S1=some r:=by
   intro S1 h1 h2;obtain⟨a,ha⟩:=Mn h1;obtain⟨b,hb⟩:=tP h2;exact⟨max a b,yh (kG (oW X (adK a b))) ha,nN (kG (oW X (adA a b))) hb⟩
  unfold gM at hr;split at hr
  ·rename_i hg;split at hr
   ·rename_i S1 h1;obtain⟨n,ha,hb⟩:=two h1 hr;exact⟨n,by unfold gM;grind⟩
   grind
  ·rename_i j want hg;split at hr
   ·rename_i d hd;split at hr
    ·rename_i b LY;split at hr
     ·rename_i hif;split at hr
      ·rename_i S1 h1;obtain⟨n,ha,hb⟩:=two h1 hr;exact⟨n,by unfold gM;grind⟩
      grind
     ·rename_i hif;obtain⟨n,hn⟩:=tP hr;exact⟨n,by unfold gM;grind⟩
    ·rename_i hnb;obtain⟨n,hn⟩:=tP hr;refine⟨n,?_⟩;unfold gM
     grind
    grind
   grind
def lD.cont{X:Env}{bZ ops n0 S0 S1}: ∀{l},lD X (dC X (ev X)) bZ ops n0 S0 S1 l-> ∃n,lD X (dC X (tu X n)) bZ ops n0 S0 S1 l
 | [],_=>⟨0,fun q hq=>by grind⟩
 |q::l,hs=>by
  obtain⟨a,ha⟩:=lD.cont (l:=l) fun x hx=>hs x (ads _ hx);rcases hs q (acT ..) with hk|⟨o,T,v,h1,h2,h3⟩
  ·refine⟨a,fun x hx=> ?_⟩;rcases List.mem_cons.1 hx with rfl|hx
   ·grind
   ·exact ha x hx
  obtain⟨b,hb⟩:=tP h2;refine⟨max a b,fun x hx=> ?_⟩;rcases List.mem_cons.1 hx with rfl|hx
  ·exact .inr ⟨o,T,v,h1,nN (kG (oW X (adA a b))) hb,h3⟩
  ·exact ha.mono (kG (oW X (adK a b))) x hx
def PQ{X:Env}{f c S r}(hr:kq X (ev X) f c S=some r): ∃n,kq X (tu X n) f c S=some r:=by
 have bh3: ∀{a b:Code} {S S1 r},ev X f a S=some (.normal,S1)->ev X f b S1=some r-> ∃n,tu X n f a S=some (.normal,S1)/\tu X n f b S1=some r:=by
  intro a b S S1 r h1 h2;obtain⟨p,hp⟩:=rU.1 h1;obtain⟨q,hq⟩:=rU.1 h2;exact⟨max p q,oW X (adK p q) _ _ _ _ hp,oW X (adA p q) _ _ _ _ hq⟩
 cases c with
 |skip=>exact⟨0,hr⟩
 |exit id=>exact⟨0,hr⟩
 |ret=>exact⟨0,hr⟩
 |region id ops d=>
  simp only[kq]at hr⊢;split at hr
  case h_2=>grind
  split at hr
  ·rename_i S1 h1;split at hr
   ·rename_i hs;obtain⟨n,hn⟩:=tP h1;obtain⟨m,hm⟩:=hs.cont;refine⟨max n m,?_⟩;rw[nN (kG (oW X (adK n m))) hn];simp only[hm.mono (kG (oW X (adA n m))),if_true];omega
   grind
  grind
 |seq a b=>
  simp only[kq]at hr⊢;cases ha:ev X f a S with
  |none=>grind
  |some x=>
   obtain⟨e,S1⟩:=x;rw[ha]at hr;cases e with
   |normal=>
    grind
   |exit i=>obtain⟨n,hn⟩:=rU.1 ha;grind
   |ret=>obtain⟨n,hn⟩:=rU.1 ha;grind
 |cond x a b=>
  simp only[kq]at hr⊢;split at hr
  ·split at hr
   ·rename_i ht;obtain⟨n,hn⟩:=rU.1 hr;grind
   ·rename_i ht;obtain⟨n,hn⟩:=rU.1 hr;grind
  grind
 |block id b=>
  simp only[kq]at hr⊢;cases hb:ev X f b S with
  |none=>grind
  |some x=>obtain⟨n,hn⟩:=rU.1 hb;grind
 |loop b=>
  simp only[kq]at hr⊢;split at hr
  case h_2=>grind
  rename_i S0 Po;cases hb:ev X f b S0 with
  |none=>grind
  |some x=>
   obtain⟨e,S1⟩:=x;rw[hb]at hr;cases e with
   |normal=>
    grind
   |exit i=>obtain⟨n,hn⟩:=rU.1 hb;grind
   |ret=>obtain⟨n,hn⟩:=rU.1 hb;grind
 |_=>simp[kq]at hr
def Dv(X:Env)(f:FuncId)(c:Code)(S:St):ev X f c S=kq X (ev X) f c S:=by
 cases h:kq X (ev X) f c S with
 |some r=>
  obtain⟨n,hn⟩:=PQ h;exact rU.2 ⟨n+1,hn⟩
 |none=>
  cases h2:ev X f c S with
  |none=>rfl
  |some r=>
   obtain⟨n,hn⟩:=rU.1 h2;cases n with
   |zero=>simp[tu]at hn
   |succ n=>
    have:=Fb (UJ X n) _ _ _ _ hn
    grind
noncomputable def cL(X:Env):jm:=dC X (ev X)
noncomputable def bU(X:Env)(g:FuncId)(args:List V):Option V:=
 match rM X (cL X) g args with
 |some (v,h,_)=>(cy h depth v).map V.lP
 |none=>none
end Go.Abs
