/- Part of a proof: T1. -/
import Derived.Test.YtdngefmliibcgaaGreatM01
import Derived.Test.YtdngefmliibcgaaGreatProg
set_option linter.all false
set_option maxRecDepth 20000
set_option maxHeartbeats 20000000
namespace Go.Proofs.YtdngefmliibcgaaGreat
open Go Go.Abs
variable  {α β:Type}{Q:Ex->St->Prop}{b:Code}{S:St}
def ti:TypeId->TI
 |3=>⟨1,8,false,.int .i64 0,0,[],none,some .i64,[0]⟩
 |4=>⟨1,1,false,.bool false,0,[],none,none,[1]⟩
 |5=>⟨1,1,false,.int .u8 0,0,[],none,some .u8,[0]⟩
 |9=>⟨1,16,false,.str [],0,[],none,none,[2]⟩
 |22=>⟨1,24,false,.sl true [],3,[],none,none,[]⟩
 |23=>⟨1,24,false,.sl true [],156,[],none,none,[]⟩
 |24=>⟨1,24,false,.sl true [],37,[],none,none,[]⟩
 |26=>⟨3,72,true,.agg [.sl true [],.sl true [],.sl true []],0,[(0,1),(1,1),(2,1)],none,none,[]⟩
 |27=>⟨1,2,false,.int .u16 0,0,[],none,some .u16,[0]⟩
 |29=>⟨2,32,true,.agg [.sl true [],.int .u16 0],0,[(0,1),(1,1)],none,none,[]⟩
 |30=>⟨1,24,false,.sl true [],120,[],none,none,[]⟩
 |31=>⟨1,24,false,.sl true [],110,[],none,none,[]⟩
 |33=>⟨2,48,true,.agg [.sl true [],.sl true []],0,[(0,1),(1,1)],none,none,[]⟩
 |34=>⟨1,24,false,.sl true [],112,[],none,none,[]⟩
 |36=>⟨5,104,true,.agg [.sl true [],.int .u16 0,.sl true [],.sl true [],.sl true []],0,[(0,2),(2,2),(4,1)],none,none,[]⟩
 |37=>⟨1,24,false,.sl true [],27,[],none,none,[]⟩
 |38=>⟨1,24,false,.sl true [],57,[],none,none,[]⟩
 |39=>⟨1,24,false,.sl true [],301,[],none,none,[]⟩
 |41=>⟨2,48,true,.agg [.sl true [],.sl true []],0,[(0,1),(1,1)],none,none,[]⟩
 |42=>⟨1,24,false,.sl true [],254,[],none,none,[]⟩
 |44=>⟨6,144,true,.agg [.sl true [],.sl true [],.sl true [],.sl true [],.sl true [],.sl true []],0,[(0,1),(1,1),(2,1),(3,2),(5,1)],none,none,[]⟩
 |45=>⟨1,24,false,.sl true [],22,[],none,none,[]⟩
 |47=>⟨2,48,true,.agg [.sl true [],.sl true []],0,[(0,1),(1,1)],none,none,[]⟩
 |48=>⟨1,24,false,.sl true [],65,[],none,none,[]⟩
 |50=>⟨18,416,true,.agg [.sl true [],.sl true [],.sl true [],.sl true [],.int .u16 0,.sl true [],.sl true [],.sl true [],.sl true [],.sl true [],.sl true [],.sl true [],.sl true [],.sl true [],.sl true [],.sl true [],.sl true [],.sl true []],0,[(0,3),(3,5),(8,6),(14,2),(16,1),(17,1)],none,none,[]⟩
 |54=>⟨1,8,false,.int .i64 0,0,[],none,some .i64,[0]⟩
 |57=>⟨1,24,false,.sl true [],61,[],none,none,[]⟩
 |59=>⟨8,96,true,.agg [.int .i64 0,.int .i64 0,.int .i64 0,.int .i64 0,.int .i64 0,.int .i64 0,.sl true [],.sl true []],0,[(0,1),(1,1),(2,1),(3,1),(4,1),(5,1),(6,1),(7,1)],none,none,[]⟩
 |61=>⟨4,24,true,.agg [.int .u8 0,.int .u16 0,.int .i64 0,.int .i64 0],0,[(0,1),(1,1),(2,1),(3,1)],none,none,[0,0,0,0]⟩
 |63=>⟨7,64,true,.agg [.int .u8 0,.int .u16 0,.int .i64 0,.int .i64 0,.sl true [],.int .i64 0,.bool false],0,[(0,4),(4,1),(5,1),(6,1)],none,none,[]⟩
 |65=>⟨18,184,true,.agg [.int .i64 0,.int .i64 0,.int .i64 0,.int .i64 0,.int .i64 0,.int .i64 0,.int .i64 0,.int .i64 0,.int .i64 0,.sl true [],.sl true [],.int .u8 0,.int .u16 0,.int .i64 0,.int .i64 0,.sl true [],.int .i64 0,.bool false],0,[(0,1),(1,1),(2,1),(3,8),(11,7)],none,none,[]⟩
 |81=>⟨1,24,false,.sl true [],48,[],none,none,[]⟩
 |85=>⟨1,24,false,.sl true [],160,[],none,none,[]⟩
 |87=>⟨2,48,true,.agg [.sl true [],.sl true []],0,[(0,1),(1,1)],none,none,[]⟩
 |93=>⟨6,48,true,.agg [.int .i64 0,.int .i64 0,.int .i64 0,.int .i64 0,.int .i64 0,.int .i64 0],0,[(0,1),(1,1),(2,1),(3,1),(4,1),(5,1)],none,none,[0,0,0,0,0,0]⟩
 |94=>⟨1,24,false,.sl true [],5,[],none,none,[]⟩
 |102=>⟨1,24,false,.sl true [],93,[],none,none,[]⟩
 |105=>⟨1,24,false,.sl true [],94,[],none,none,[]⟩
 |110=>⟨3,40,true,.agg [.int .i64 0,.bool false,.sl true []],0,[(0,1),(1,1),(2,1)],none,none,[]⟩
 |112=>⟨8,80,true,.agg [.int .i64 0,.sl true [],.int .i64 0,.int .i64 0,.int .i64 0,.int .i64 0,.int .i64 0,.int .u16 0],0,[(0,1),(1,1),(2,1),(3,1),(4,1),(5,1),(6,1),(7,1)],none,none,[]⟩
 |120=>⟨2,4,true,.agg [.int .u8 0,.int .u16 0],0,[(0,1),(1,1)],none,none,[0,0]⟩
 |128=>⟨2,32,true,.agg [.sl true [],.int .i64 0],0,[(0,1),(1,1)],none,none,[]⟩
 |136=>⟨3,24,true,.agg [.int .i64 0,.int .i64 0,.bool false],0,[(0,1),(1,1),(2,1)],none,none,[0,0,1]⟩
 |156=>⟨5,40,true,.agg [.int .i64 0,.int .i64 0,.int .i64 0,.int .i64 0,.int .i64 0],0,[(0,1),(1,1),(2,1),(3,1),(4,1)],none,none,[0,0,0,0,0]⟩
 |160=>⟨8,80,true,.agg [.int .i64 0,.int .i64 0,.int .i64 0,.int .i64 0,.int .i64 0,.int .i64 0,.int .u16 0,.sl true []],0,[(0,1),(1,1),(2,1),(3,1),(4,1),(5,1),(6,1),(7,1)],none,none,[]⟩
 |169=>⟨1,24,false,.sl true [],9,[],none,none,[]⟩
 |171=>⟨1,8,false,.u7,112,[],none,none,[3]⟩
 |175=>⟨2,16,true,.agg [.int .i64 0,.int .i64 0],0,[(0,1),(1,1)],none,none,[0,0]⟩
 |181=>⟨1,8,false,.int .u64 0,0,[],none,some .u64,[0]⟩
 |184=>⟨2,32,true,.agg [.sl true [],.bool false],0,[(0,1),(1,1)],none,none,[]⟩
 |226=>⟨1,8,false,.u7,36,[],none,none,[3]⟩
 |250=>⟨4,4,true,.agg [.bool false,.bool false,.bool false,.bool false],4,[],some 4,none,[9]⟩
 |252=>⟨1,24,false,.sl true [],23,[],none,none,[]⟩
 |254=>⟨3,40,true,.agg [.int .i64 0,.int .i64 0,.sl true []],0,[(0,1),(1,1),(2,1)],none,none,[]⟩
 |280=>⟨5,88,true,.agg [.sl true [],.sl true [],.sl true [],.u7,.u7],0,[(0,3),(3,1),(4,1)],none,none,[]⟩
 |301=>⟨3,24,true,.agg [.int .i64 0,.int .i64 0,.bool false],0,[(0,1),(1,1),(2,1)],none,none,[0,0,1]⟩
 |338=>⟨4,4,true,.agg [.bool false,.bool false,.bool false,.bool false],0,[(0,1),(1,1),(2,1),(3,1)],none,none,[1,1,1,1]⟩
 |350=>⟨2,2,true,.agg [.int .u8 0,.int .u8 0],0,[(0,1),(1,1)],none,none,[0,0]⟩
 |_=>default
attribute [simp] ti.eq_1 ti.eq_2 ti.eq_3 ti.eq_4 ti.eq_5 ti.eq_6 ti.eq_7 ti.eq_8 ti.eq_9 ti.eq_10 ti.eq_11 ti.eq_12 ti.eq_13 ti.eq_14 ti.eq_15 ti.eq_16 ti.eq_17 ti.eq_18 ti.eq_19 ti.eq_20 ti.eq_21 ti.eq_22 ti.eq_23 ti.eq_24 ti.eq_25 ti.eq_26 ti.eq_27 ti.eq_28 ti.eq_29 ti.eq_30
attribute [simp] ti.eq_31 ti.eq_32 ti.eq_33 ti.eq_34 ti.eq_35 ti.eq_36 ti.eq_37 ti.eq_38 ti.eq_39 ti.eq_40 ti.eq_41 ti.eq_42 ti.eq_43 ti.eq_44 ti.eq_45 ti.eq_46 ti.eq_47 ti.eq_48 ti.eq_49 ti.eq_50 ti.eq_51 ti.eq_52 ti.eq_53 ti.eq_54 ti.eq_55 ti.eq_56 ti.eq_57 ti.eq_58
def cl:FuncId->Option TypeId
 |108=>some 94
 |152=>some 30
 |224=>some 22
 |225=>some 31
 |_=>none
def byL(n:FuncId):Bool:=[18,30,67,119,121,160,161,198,210,226,227,237,243,244,246,251,264,265,268,270,271,273,276,292,294].contains n
def ioL(n:FuncId):Bool:=[19,40,42,43,53,58,63,65,66,68,88,92,97,109,125,126,127,138,139,169,172,181,182,201,209].contains n
def a7o(n:FuncId):Bool:=[3,4,5,7,8,9,10,12,13,15,16,17,20,23,25,28,29,31,35,37,38,40,42,50,51,53,54,57,59,60,63,69,70,78,79,80,81,82,85,87,93,95,96,97,100,101,105,106,113,115,118,122,125,126,130,131,133,140,145,146,154,164,166,167,171,173,174,177,181,182,183,184,188,194,202,203,204,206,207,209,211,215,216,219,230,239,240,241,245,256,262,267,279,282,286,287].contains n
def thL:FuncId->Nat->Bool
 |36,d=>d==17
 |40,d=>d==22
 |41,d=>d==17
 |46,d=>d==17
 |47,d=>d==27
 |67,d=>d==16
 |73,d=>d==11
 |74,d=>d==76
 |75,d=>d==21||d==23||d==42||d==79
 |77,d=>d==40||d==54||d==56||d==66
 |96,d=>d==9
 |103,d=>d==16
 |119,d=>d==51||d==77
 |121,d=>d==54
 |125,d=>d==8
 |127,d=>d==102||d==113||d==134
 |155,d=>d==9
 |161,d=>d==91
 |163,d=>d==10
 |185,d=>d==17
 |193,d=>d==36
 |195,d=>d==9
 |198,d=>d==221
 |226,d=>d==22
 |255,d=>d==14
 |256,d=>d==72
 |280,d=>d==15
 |_,_=>false
def flL:FuncId->Nat->Bool
 |41,d=>d==29
 |_,_=>false
def kpL:FuncId->TypeId->Bool
 |4,t=>t==37
 |36,t=>t==57||t==160
 |40,t=>t==57||t==160
 |46,t=>t==110||t==112
 |47,t=>t==110||t==112
 |73,t=>t==110||t==112
 |75,t=>t==110||t==112
 |77,t=>t==110||t==112
 |89,t=>t==57
 |103,t=>t==110||t==112
 |119,t=>t==110||t==112
 |121,t=>t==110||t==112
 |138,t=>t==112
 |139,t=>t==112
 |151,t=>t==110||t==112
 |160,t=>t==110||t==112
 |161,t=>t==110||t==112
 |179,t=>t==110||t==112
 |193,t=>t==110||t==112
 |198,t=>t==110||t==112
 |205,t=>t==57
 |226,t=>t==110||t==112
 |227,t=>t==110||t==112
 |237,t=>t==110||t==112
 |246,t=>t==110||t==112
 |251,t=>t==110||t==112
 |253,t=>t==22
 |255,t=>t==22
 |264,t=>t==110||t==112
 |265,t=>t==110||t==112
 |268,t=>t==110||t==112
 |271,t=>t==110||t==112
 |273,t=>t==110||t==112
 |276,t=>t==110||t==112
 |280,t=>t==57
 |292,t=>t==110||t==112
 |294,t=>t==110||t==112
 |_,_=>false
@[simp] def a7p(d:Nat):Mask:=if d=70 then [(0,0,3)] else []
@[simp] def a7q(d:Nat):Mask:=if d=34 then [(0,0,65)] else []
@[simp] def ani(d:Nat):Mask:=if d=19 then [(0,7,112)] else []
@[simp] def ayn(d:Nat):Mask:=if d=8 then [(0,0,65)] else []
@[simp] def anj(d:Nat):Mask:=if d=13 then [(0,7,112)] else if d=96 then [(0,4,112)] else []
@[simp] def ank(d:Nat):Mask:=if d=14 then [(0,4,112)] else []
@[simp] def anl(d:Nat):Mask:=if d=39 then [(0,16,65),(0,17,3)] else if d=52 then [(0,4,112)] else if d=70 then [(0,4,112)] else []
@[simp] def anm(d:Nat):Mask:=if d=22 then [(0,4,112)] else []
@[simp] def ayo(d:Nat):Mask:=if d=9 then [(0,4,112)] else []
@[simp] def ZV(d:Nat):Mask:=if d=24 then [(0,4,112)] else []
@[simp] def ZW(d:Nat):Mask:=if d=9 then [(0,4,112)] else []
@[simp] def ZX(d:Nat):Mask:=if d=11 then [(0,0,3),(0,1,22)] else []
@[simp] def ZY(d:Nat):Mask:=if d=18 then [(0,1,22)] else []
@[simp] def arw(d:Nat):Mask:=if d=6 then [(0,1,120)] else []
@[simp] def ZZ(d:Nat):Mask:=if d=6 then [(0,1,120)] else []
@[simp] def arx(d:Nat):Mask:=if d=1 then [(0,1,120)] else []
@[simp] def Z0(d:Nat):Mask:=if d=15 then [(0,1,301)] else []
@[simp] def Z1(d:Nat):Mask:=if d=12 then [(0,0,57),(0,1,301)] else []
@[simp] def Z2(d:Nat):Mask:=if d=8 then [(0,1,301)] else []
@[simp] def Z3(d:Nat):Mask:=if d=10 then [(0,1,301)] else []
@[simp] def Z4(d:Nat):Mask:=if d=11 then [(0,0,254)] else []
@[simp] def Z5(d:Nat):Mask:=if d=15 then [(0,0,37)] else []
def mkL:FuncId->Nat->Mask
 |5=>a7p
 |7=>a7q
 |19=>ani
 |30=>ayn
 |40=>anj
 |64=>ank
 |67=>anl
 |74=>anm
 |76=>ayo
 |118=>ZV
 |120=>ZW
 |208=>ZX
 |211=>ZY
 |238=>arw
 |252=>ZZ
 |269=>arx
 |281=>Z0
 |282=>Z1
 |283=>Z2
 |284=>Z3
 |285=>Z4
 |286=>Z5
 |_=>fun _=> []
def omL:FuncId->Mask
 |138=> [(0,16,65),(0,17,3),(0,7,112)]
 |139=> [(0,16,65),(0,17,3),(0,7,112)]
 |209=> [(0,16,65),(0,17,3),(0,7,112)]
 |_=> []
@[simp] def ayp(k:Nat):Option Norm:=if k=9 then some ⟨[3,4,26,27,28],[⟨.box 3,3,0,false⟩,⟨.box 4,4,0,false⟩],false,1100⟩ else none
@[simp] def ayq(k:Nat):Option Norm:=if k=11 then some ⟨[1,2,7,8,31,32],[⟨.box 7,7,0,false⟩,⟨.box 8,8,0,false⟩,⟨.cell 8 2,1000,1,true⟩],false,1101⟩ else if k=24 then some ⟨[2,7,8],[⟨.box 7,7,0,false⟩,⟨.box 8,8,0,false⟩],false,1100⟩ else if k=34 then some ⟨[2,7,8,11,12],[⟨.box 7,7,0,false⟩,⟨.box 8,8,0,false⟩,⟨.box 11,11,0,false⟩],false,1100⟩ else none
@[simp] def ayr(k:Nat):Option Norm:=if k=9 then some ⟨[0,1,2,3,33,34,35],[],false,1100⟩ else if k=29 then some ⟨[3,12,13,89,90,91],[⟨.box 12,12,0,false⟩,⟨.box 13,13,0,false⟩],false,1100⟩ else if k=43 then some ⟨[3,12,13,16,89,90,91,147,148,149],[⟨.box 12,12,0,false⟩,⟨.box 13,13,0,false⟩],false,1100⟩ else none
@[simp] def ays(k:Nat):Option Norm:=if k=13 then some ⟨[1,7,8,10,11,35,36,37],[⟨.box 7,7,0,false⟩,⟨.box 8,8,0,false⟩,⟨.slot 10,10,18,false⟩,⟨.slot 11,11,1,false⟩],false,1100⟩ else if k=30 then some ⟨[7,8,10,14],[⟨.box 7,7,0,false⟩,⟨.box 8,8,0,false⟩],false,1100⟩ else none
@[simp] def ayt(k:Nat):Option Norm:=if k=15 then some ⟨[5,7,42,43,44],[⟨.box 5,5,0,false⟩,⟨.box 7,7,0,false⟩],false,1100⟩ else none
@[simp] def ayu(k:Nat):Option Norm:=if k=15 then some ⟨[2,4,10,11,12,58,59,60],[⟨.box 4,4,0,false⟩,⟨.box 10,10,0,false⟩,⟨.box 11,11,0,false⟩],false,1100⟩ else if k=25 then some ⟨[2,4,10,11,12,15,58,59,60,95,96,97],[⟨.box 4,4,0,false⟩,⟨.box 10,10,0,false⟩,⟨.box 11,11,0,false⟩,⟨.box 15,15,0,false⟩],false,1100⟩ else none
@[simp] def ann(k:Nat):Option Norm:=if k=19 then some ⟨[4,5,6,7,8,39,40],[⟨.box 4,4,0,false⟩,⟨.box 5,5,0,false⟩,⟨.box 6,6,0,false⟩,⟨.box 7,7,0,false⟩],false,1100⟩ else if k=29 then some ⟨[4,5,6,7,8,63,64],[⟨.box 4,4,0,false⟩,⟨.box 5,5,0,false⟩,⟨.box 6,6,0,false⟩,⟨.box 7,7,0,false⟩],false,1100⟩ else none
@[simp] def ano(k:Nat):Option Norm:=if k=17 then some ⟨[1,2,7,8,10,11,34,35],[⟨.box 7,7,0,false⟩],false,1100⟩ else none
@[simp] def anp(k:Nat):Option Norm:=if k=8 then some ⟨[4,5],[⟨.box 4,4,0,false⟩],false,1100⟩ else if k=15 then some ⟨[4,5,6,7,8,9,10],[⟨.box 4,4,0,false⟩,⟨.box 6,6,0,false⟩,⟨.slot 8,8,6,false⟩,⟨.slot 9,9,6,false⟩],false,1100⟩ else if k=21 then some ⟨[4,5,6,7,8,9,10,49,50,51],[⟨.box 4,4,0,false⟩,⟨.box 6,6,0,false⟩,⟨.slot 8,8,6,false⟩,⟨.slot 9,9,6,false⟩],false,1100⟩ else if k=33 then some ⟨[4,6,7,8,9,64,65,66],[⟨.box 4,4,0,false⟩,⟨.box 6,6,0,false⟩,⟨.slot 8,8,6,false⟩,⟨.slot 9,9,6,false⟩],false,1100⟩ else if k=42 then some ⟨[4,6,7,8,9],[⟨.box 4,4,0,false⟩,⟨.box 6,6,0,false⟩],false,1100⟩ else if k=44 then some ⟨[4,6,7,9,15,16],[⟨.box 4,4,0,false⟩,⟨.box 6,6,0,false⟩,⟨.box 15,15,0,false⟩],false,1100⟩ else none
@[simp] def anq(k:Nat):Option Norm:=if k=11 then some ⟨[3,4,5,14],[⟨.box 3,3,0,false⟩,⟨.box 4,4,0,false⟩,⟨.slot 5,5,6,false⟩],false,1100⟩ else if k=24 then some ⟨[4,5],[⟨.box 4,4,0,false⟩],false,1100⟩ else none
@[simp] def anr(k:Nat):Option Norm:=if k=19 then some ⟨[4,6,7,8,45,46,47],[⟨.box 4,4,0,false⟩,⟨.box 6,6,0,false⟩],false,1100⟩ else none
@[simp] def ans(k:Nat):Option Norm:=if k=12 then some ⟨[1,5,6,7,8,9],[⟨.box 5,5,0,false⟩,⟨.box 6,6,0,false⟩],false,1100⟩ else if k=23 then some ⟨[5,6,7,8,9,12,78,79,80],[⟨.box 5,5,0,false⟩,⟨.box 6,6,0,false⟩,⟨.box 12,12,0,false⟩],false,1100⟩ else if k=40 then some ⟨[6,8,9,17,18,19,20,21],[⟨.box 6,6,0,false⟩],false,1100⟩ else none
@[simp] def Z6(k:Nat):Option Norm:=if k=19 then some ⟨[4,9,38],[⟨.box 4,4,0,false⟩,⟨.box 9,9,0,false⟩,⟨.cell 9 4,1000,8,false⟩],false,1101⟩ else none
@[simp] def Z7(k:Nat):Option Norm:=if k=9 then some ⟨[31,32,33],[],false,1100⟩ else none
@[simp] def Z8(k:Nat):Option Norm:=if k=9 then some ⟨[2,3,31,32],[⟨.box 2,2,0,false⟩,⟨.box 3,3,0,false⟩],false,1100⟩ else none
@[simp] def ant(k:Nat):Option Norm:=if k=11 then some ⟨[2,3,6,9,25,26,27],[⟨.box 3,3,0,false⟩,⟨.box 6,6,0,false⟩,⟨.box 9,9,0,false⟩],false,1100⟩ else none
@[simp] def Z9(k:Nat):Option Norm:=if k=15 then some ⟨[0,1,4,6,7,8,36,37],[⟨.box 4,4,0,false⟩,⟨.box 7,7,0,false⟩,⟨.cell 7 0,1000,1,false⟩],false,1101⟩ else none
@[simp] def anu(k:Nat):Option Norm:=if k=11 then some ⟨[2,3,6,9,26,27,28],[⟨.box 3,3,0,false⟩,⟨.box 6,6,0,false⟩,⟨.box 9,9,0,false⟩],false,1100⟩ else none
@[simp] def anv(k:Nat):Option Norm:=if k=9 then some ⟨[2,3,27,28],[⟨.box 2,2,0,false⟩,⟨.box 3,3,0,false⟩],false,1100⟩ else if k=21 then some ⟨[3,45,46,47],[⟨.box 3,3,0,false⟩],false,1100⟩ else none
@[simp] def anw(k:Nat):Option Norm:=if k=7 then some ⟨[3,6,7,8],[⟨.slot 3,3,18,false⟩],false,1100⟩ else none
@[simp] def anx(k:Nat):Option Norm:=if k=5 then some ⟨[1,8,9,10],[⟨.box 1,1,0,false⟩],false,1100⟩ else if k=17 then some ⟨[1,21,22,23],[⟨.box 1,1,0,false⟩],false,1100⟩ else none
@[simp] def aaa(k:Nat):Option Norm:=if k=46 then some ⟨[0,2,3,4,5,6],[⟨.box 0,0,0,false⟩,⟨.box 2,2,0,false⟩,⟨.box 3,3,0,false⟩,⟨.box 4,4,0,false⟩,⟨.box 5,5,0,false⟩,⟨.box 6,6,0,false⟩,⟨.cell 5 4,1000,8,false⟩],true,1101⟩ else none
@[simp] def anz(k:Nat):Option Norm:=if k=19 then some ⟨[0,2,3,39,40,41],[⟨.box 0,0,0,false⟩,⟨.box 2,2,0,false⟩,⟨.box 3,3,0,false⟩,⟨.cell 3 6,1000,4,false⟩],true,1101⟩ else none
@[simp] def an0(k:Nat):Option Norm:=if k=7 then some ⟨[0,1,5,6],[],false,1100⟩ else none
@[simp] def an1(k:Nat):Option Norm:=if k=5 then some ⟨[0,3],[],false,1100⟩ else none
@[simp] def an2(k:Nat):Option Norm:=if k=7 then some ⟨[0,2,3,9,10],[⟨.box 0,0,0,false⟩,⟨.slot 9,9,6,false⟩],true,1100⟩ else none
@[simp] def aab(k:Nat):Option Norm:=if k=11 then some ⟨[2,3,4,5,10,12,35,36,37],[⟨.box 5,5,0,false⟩,⟨.box 10,10,0,false⟩,⟨.box 12,12,0,false⟩],false,1100⟩ else if k=19 then some ⟨[2,3,4,5,10,12,14,15,16,35,36,37,42,43,44],[⟨.box 5,5,0,false⟩,⟨.box 10,10,0,false⟩,⟨.box 12,12,0,false⟩,⟨.box 15,15,0,false⟩,⟨.slot 16,16,6,false⟩],false,1100⟩ else none
@[simp] def aac(k:Nat):Option Norm:=if k=9 then some ⟨[1,23,24,25],[⟨.box 1,1,0,false⟩],false,1100⟩ else if k=25 then some ⟨[1,50,51,52],[⟨.box 1,1,0,false⟩],false,1100⟩ else if k=37 then some ⟨[1,61,62,63],[⟨.box 1,1,0,false⟩],false,1100⟩ else none
@[simp] def an3(k:Nat):Option Norm:=if k=11 then some ⟨[2,3,4,5,10,12,39,40,41],[⟨.box 5,5,0,false⟩,⟨.box 10,10,0,false⟩,⟨.box 12,12,0,false⟩],false,1100⟩ else if k=23 then some ⟨[2,3,4,5,10,12,50,51,52],[⟨.box 5,5,0,false⟩,⟨.box 10,10,0,false⟩,⟨.box 12,12,0,false⟩],false,1100⟩ else if k=31 then some ⟨[2,3,4,5,10,12,16,17,18,50,51,52,57,58,59],[⟨.box 5,5,0,false⟩,⟨.box 10,10,0,false⟩,⟨.box 12,12,0,false⟩,⟨.box 17,17,0,false⟩,⟨.slot 18,18,6,false⟩],false,1100⟩ else if k=57 then some ⟨[2,3,4,5,10,12,16,21,22,24,26,27,50,51,52,112,113,114],[⟨.box 5,5,0,false⟩,⟨.box 10,10,0,false⟩,⟨.box 12,12,0,false⟩,⟨.box 21,21,0,false⟩,⟨.box 22,22,0,false⟩],false,1100⟩ else none
@[simp] def an4(k:Nat):Option Norm:=if k=11 then some ⟨[9,11,43,44],[⟨.box 9,9,0,false⟩,⟨.box 11,11,0,false⟩],false,1100⟩ else none
@[simp] def aad(k:Nat):Option Norm:=if k=7 then some ⟨[0,2,3,13,14,15],[⟨.box 0,0,0,false⟩,⟨.box 2,2,0,false⟩,⟨.box 3,3,0,false⟩,⟨.cell 3 0,1000,5,false⟩,⟨.cell 3 2,1001,1,false⟩],true,1102⟩ else if k=17 then some ⟨[0,2,3,6],[⟨.box 0,0,0,false⟩,⟨.box 2,2,0,false⟩,⟨.box 3,3,0,false⟩,⟨.cell 3 0,1000,5,false⟩,⟨.cell 3 2,1001,1,false⟩],true,1102⟩ else if k=45 then some ⟨[0,2,3,101,102],[⟨.box 0,0,0,false⟩,⟨.box 2,2,0,false⟩,⟨.box 3,3,0,false⟩,⟨.cell 3 0,1000,5,false⟩,⟨.cell 3 2,1001,1,false⟩],true,1102⟩ else none
@[simp] def aae(k:Nat):Option Norm:=if k=9 then some ⟨[1,2,21,22,23],[⟨.box 2,2,0,false⟩],false,1100⟩ else if k=19 then some ⟨[1,2,5,6,21,22,23,42,43,44],[⟨.box 2,2,0,false⟩],false,1100⟩ else none
@[simp] def aaf(k:Nat):Option Norm:=if k=11 then some ⟨[2,3,4,6,30,31,32],[⟨.box 2,2,0,false⟩,⟨.box 3,3,0,false⟩,⟨.box 4,4,0,false⟩,⟨.box 6,6,0,false⟩,⟨.cell 6 0,1000,2,false⟩],false,1101⟩ else if k=21 then some ⟨[2,3,4,6,7,30,31,32,46,47,48],[⟨.box 2,2,0,false⟩,⟨.box 3,3,0,false⟩,⟨.box 4,4,0,false⟩,⟨.box 6,6,0,false⟩,⟨.cell 6 0,1000,2,false⟩],false,1101⟩ else none
@[simp] def an5(k:Nat):Option Norm:=if k=9 then some ⟨[0,1,12,13],[],false,1100⟩ else none
@[simp] def aag(k:Nat):Option Norm:=if k=9 then some ⟨[22,23,24],[],false,1100⟩ else none
@[simp] def aah(k:Nat):Option Norm:=if k=5 then some ⟨[1,6,7,8],[⟨.box 1,1,0,false⟩],false,1100⟩ else none
@[simp] def aai(k:Nat):Option Norm:=if k=9 then some ⟨[2,3,22,23],[⟨.box 2,2,0,false⟩,⟨.box 3,3,0,false⟩],false,1100⟩ else none
@[simp] def aaj(k:Nat):Option Norm:=if k=9 then some ⟨[2,3,25,26],[⟨.box 2,2,0,false⟩,⟨.box 3,3,0,false⟩],false,1100⟩ else none
@[simp] def aak(k:Nat):Option Norm:=if k=19 then some ⟨[4,9,30],[⟨.box 4,4,0,false⟩,⟨.box 9,9,0,false⟩,⟨.cell 9 4,1000,8,false⟩],false,1101⟩ else none
@[simp] def aal(k:Nat):Option Norm:=if k=5 then some ⟨[0,5,6,7],[],false,1100⟩ else none
@[simp] def aam(k:Nat):Option Norm:=if k=9 then some ⟨[3,4,5,6,37,38,39],[⟨.box 3,3,0,false⟩,⟨.box 4,4,0,false⟩,⟨.box 5,5,0,false⟩,⟨.box 6,6,0,false⟩],false,1100⟩ else if k=15 then some ⟨[3,4,5,6,37,38,39,43,44,45],[⟨.box 3,3,0,false⟩,⟨.box 4,4,0,false⟩,⟨.box 5,5,0,false⟩,⟨.box 6,6,0,false⟩],false,1100⟩ else if k=31 then some ⟨[3,4,5,6,12,68,69,70],[⟨.box 3,3,0,false⟩,⟨.box 4,4,0,false⟩,⟨.box 5,5,0,false⟩,⟨.box 6,6,0,false⟩,⟨.box 12,12,0,false⟩,⟨.cell 12 2,1000,2,false⟩,⟨.cell 12 4,1001,8,false⟩],false,1102⟩ else if k=37 then some ⟨[3,4,5,6,12,13,68,69,70,75,76,77],[⟨.box 3,3,0,false⟩,⟨.box 4,4,0,false⟩,⟨.box 5,5,0,false⟩,⟨.box 6,6,0,false⟩,⟨.box 12,12,0,false⟩,⟨.cell 12 2,1000,2,false⟩,⟨.cell 12 4,1001,8,false⟩],false,1102⟩ else if k=49 then some ⟨[3,4,6,12,104,105,106],[⟨.box 3,3,0,false⟩,⟨.box 4,4,0,false⟩,⟨.box 6,6,0,false⟩,⟨.box 12,12,0,false⟩,⟨.cell 12 2,1000,2,false⟩,⟨.cell 12 4,1001,8,false⟩],false,1102⟩ else if k=57 then some ⟨[3,4,6,12,19,104,105,106,126,127,128],[⟨.box 3,3,0,false⟩,⟨.box 4,4,0,false⟩,⟨.box 6,6,0,false⟩,⟨.box 12,12,0,false⟩,⟨.box 19,19,0,false⟩,⟨.cell 12 2,1000,2,false⟩,⟨.cell 12 4,1001,8,false⟩,⟨.cell 19 1,1002,2,false⟩],false,1103⟩ else none
@[simp] def an6(k:Nat):Option Norm:=if k=5 then some ⟨[0,1,5],[⟨.slot 5,5,1,false⟩],false,1100⟩ else none
@[simp] def an7(k:Nat):Option Norm:=if k=7 then some ⟨[3,10,11,12],[⟨.slot 3,3,1,false⟩],false,1100⟩ else none
@[simp] def an8(k:Nat):Option Norm:=if k=7 then some ⟨[0,5,6],[⟨.box 0,0,0,false⟩,⟨.slot 5,5,4,false⟩],true,1100⟩ else none
@[simp] def Qt(k:Nat):Option Norm:=if k=7 then some ⟨[1,4,10,11,12],[⟨.box 4,4,0,false⟩],false,1100⟩ else none
@[simp] def Qu(k:Nat):Option Norm:=if k=7 then some ⟨[3,6,7,8],[],false,1100⟩ else none
@[simp] def Qv(k:Nat):Option Norm:=if k=5 then some ⟨[1,4,8,9,10],[⟨.box 4,4,0,false⟩],false,1100⟩ else none
@[simp] def Qw(k:Nat):Option Norm:=if k=7 then some ⟨[3,6,7,8],[],false,1100⟩ else none
@[simp] def Qx(k:Nat):Option Norm:=if k=9 then some ⟨[5,6,7,16,17,18],[],false,1100⟩ else none
@[simp] def aan(k:Nat):Option Norm:=if k=9 then some ⟨[1,2,15,16,17],[],false,1100⟩ else none
@[simp] def Qy(k:Nat):Option Norm:=if k=33 then some ⟨[4,8,9,11,14,15,80,81],[⟨.box 4,4,0,false⟩,⟨.box 8,8,0,false⟩,⟨.box 9,9,0,false⟩,⟨.box 11,11,0,false⟩,⟨.box 14,14,0,false⟩,⟨.box 15,15,0,false⟩,⟨.cell 11 4,1000,8,false⟩,⟨.cell 15 6,1001,4,false⟩,⟨.cell 15 7,1002,4,false⟩],false,1103⟩ else if k=45 then some ⟨[4,8,9,11,14,15,109,110],[⟨.box 4,4,0,false⟩,⟨.box 8,8,0,false⟩,⟨.box 9,9,0,false⟩,⟨.box 11,11,0,false⟩,⟨.box 14,14,0,false⟩,⟨.box 15,15,0,false⟩,⟨.cell 11 4,1000,8,false⟩,⟨.cell 15 6,1001,4,false⟩,⟨.cell 15 7,1002,4,false⟩],false,1103⟩ else none
@[simp] def Qz(k:Nat):Option Norm:=if k=11 then some ⟨[1,3,23,24,25],[⟨.box 1,1,0,false⟩,⟨.box 3,3,0,false⟩],false,1100⟩ else none
@[simp] def QA(k:Nat):Option Norm:=if k=7 then some ⟨[0,3,4],[⟨.box 0,0,0,false⟩,⟨.slot 3,3,1,false⟩],true,1100⟩ else none
@[simp] def QB(k:Nat):Option Norm:=if k=7 then some ⟨[0,5,6],[⟨.box 0,0,0,false⟩,⟨.slot 5,5,1,false⟩],true,1100⟩ else none
@[simp] def QC(k:Nat):Option Norm:=if k=5 then some ⟨[1,8,9,10],[⟨.box 1,1,0,false⟩],false,1100⟩ else if k=17 then some ⟨[1,19,20,21],[⟨.box 1,1,0,false⟩],false,1100⟩ else none
@[simp] def QD(k:Nat):Option Norm:=if k=5 then some ⟨[0,10,11,12],[],false,1100⟩ else if k=11 then some ⟨[0,10,11,12,16,17,18],[],false,1100⟩ else none
@[simp] def QE(k:Nat):Option Norm:=if k=7 then some ⟨[0,1,8,9],[⟨.box 0,0,0,false⟩,⟨.box 1,1,0,false⟩,⟨.cell 1 0,1000,1,false⟩],false,1101⟩ else none
@[simp] def QF(k:Nat):Option Norm:=if k=7 then some ⟨[1,5,6],[⟨.slot 1,1,3,false⟩],false,1100⟩ else none
@[simp] def QH(k:Nat):Option Norm:=if k=9 then some ⟨[1,2,20,21,22],[⟨.box 2,2,0,false⟩],false,1100⟩ else if k=19 then some ⟨[1,2,5,6,20,21,22,42,43],[⟨.box 2,2,0,false⟩],false,1100⟩ else none
@[simp] def QI(k:Nat):Option Norm:=if k=9 then some ⟨[16,17,18],[],false,1100⟩ else none
@[simp] def QJ(k:Nat):Option Norm:=if k=15 then some ⟨[3,4,7,8,9,33,34],[⟨.box 3,3,0,false⟩,⟨.box 4,4,0,false⟩,⟨.box 7,7,0,false⟩,⟨.slot 9,9,1,false⟩],false,1100⟩ else none
@[simp] def QK(k:Nat):Option Norm:=if k=5 then some ⟨[5,6,7],[],false,1100⟩ else none
@[simp] def QL(k:Nat):Option Norm:=if k=9 then some ⟨[0,1,12,13],[],false,1100⟩ else none
@[simp] def QM(k:Nat):Option Norm:=if k=11 then some ⟨[2,3,4,6,28,29,30],[⟨.box 2,2,0,false⟩,⟨.box 3,3,0,false⟩,⟨.box 4,4,0,false⟩,⟨.box 6,6,0,false⟩,⟨.cell 6 0,1000,2,false⟩],false,1101⟩ else none
@[simp] def QN(k:Nat):Option Norm:=if k=5 then some ⟨[1,2,6,11,12,13],[⟨.box 6,6,0,false⟩],false,1100⟩ else none
@[simp] def QO(k:Nat):Option Norm:=if k=9 then some ⟨[2,26,27,28],[⟨.box 2,2,0,false⟩],false,1100⟩ else none
@[simp] def QP(k:Nat):Option Norm:=if k=7 then some ⟨[3,10,11,12],[⟨.slot 3,3,1,false⟩],false,1100⟩ else none
@[simp] def QQ(k:Nat):Option Norm:=if k=5 then some ⟨[0,1,7,8,9],[],false,1100⟩ else none
@[simp] def aao(k:Nat):Option Norm:=if k=13 then some ⟨[0,1,5,26,27,28],[⟨.box 0,0,0,false⟩],true,1100⟩ else none
@[simp] def aap(k:Nat):Option Norm:=if k=9 then some ⟨[0,4,5,6],[⟨.box 0,0,0,false⟩,⟨.slot 4,4,4,false⟩],true,1100⟩ else none
@[simp] def QR(k:Nat):Option Norm:=if k=5 then some ⟨[0,1,7,8],[],false,1100⟩ else none
@[simp] def QS(k:Nat):Option Norm:=if k=9 then some ⟨[0,1,12,13],[],false,1100⟩ else none
@[simp] def aaq(k:Nat):Option Norm:=if k=9 then some ⟨[1,2,15,16,17],[],false,1100⟩ else none
@[simp] def QT(k:Nat):Option Norm:=if k=11 then some ⟨[3,4,7,8,9,29,30],[⟨.box 3,3,0,false⟩,⟨.box 4,4,0,false⟩,⟨.box 7,7,0,false⟩],false,1100⟩ else none
@[simp] def QU(k:Nat):Option Norm:=if k=9 then some ⟨[1,18,19,20],[⟨.box 1,1,0,false⟩],false,1100⟩ else if k=21 then some ⟨[1,29,30,31],[⟨.box 1,1,0,false⟩],false,1100⟩ else none
@[simp] def QV(k:Nat):Option Norm:=if k=5 then some ⟨[5,6,7],[],false,1100⟩ else none
@[simp] def QW(k:Nat):Option Norm:=if k=7 then some ⟨[3,6,7,8],[⟨.slot 3,3,1,false⟩],false,1100⟩ else none
@[simp] def QX(k:Nat):Option Norm:=if k=7 then some ⟨[3,6,7,8],[⟨.slot 3,3,3,false⟩],false,1100⟩ else none
@[simp] def QY(k:Nat):Option Norm:=if k=7 then some ⟨[0,2,4,15,16],[⟨.box 2,2,0,false⟩,⟨.box 4,4,0,false⟩,⟨.cell 4 0,1000,1,false⟩,⟨.cell 4 1,1001,3,false⟩],false,1102⟩ else if k=17 then some ⟨[2,4,25,26,27],[⟨.box 2,2,0,false⟩,⟨.box 4,4,0,false⟩,⟨.cell 4 0,1000,1,false⟩,⟨.cell 4 1,1001,3,false⟩],false,1102⟩ else if k=25 then some ⟨[2,4,8,25,26,27,31,32,33],[⟨.box 2,2,0,false⟩,⟨.box 4,4,0,false⟩,⟨.slot 8,8,4,false⟩,⟨.cell 4 0,1000,1,false⟩,⟨.cell 4 1,1001,3,false⟩],false,1102⟩ else none
@[simp] def QZ(k:Nat):Option Norm:=if k=37 then some ⟨[0,4,87,88,89],[⟨.box 0,0,0,false⟩,⟨.box 4,4,0,false⟩,⟨.cell 0 7,1000,8,false⟩,⟨.cell 0 16,1001,18,false⟩,⟨.cell 0 17,1002,1,false⟩],true,1103⟩ else none
@[simp] def Q0(k:Nat):Option Norm:=if k=7 then some ⟨[1,4,6,20,21,22],[⟨.box 4,4,0,false⟩,⟨.box 6,6,0,false⟩,⟨.cell 6 1,1000,1,false⟩],false,1101⟩ else if k=15 then some ⟨[1,4,6,7,9,20,21,22,27,28,29],[⟨.box 4,4,0,false⟩,⟨.box 6,6,0,false⟩,⟨.slot 9,9,1,false⟩,⟨.cell 6 1,1000,1,false⟩],false,1101⟩ else if k=33 then some ⟨[1,4,6,12,49,50],[⟨.box 4,4,0,false⟩,⟨.box 6,6,0,false⟩,⟨.slot 12,12,1,false⟩],false,1100⟩ else none
@[simp] def Q1(k:Nat):Option Norm:=if k=9 then some ⟨[1,22,23,24],[⟨.box 1,1,0,false⟩],false,1100⟩ else if k=27 then some ⟨[1,5,49,50,51],[⟨.box 1,1,0,false⟩],false,1100⟩ else none
@[simp] def Q2(k:Nat):Option Norm:=if k=5 then some ⟨[0,5,6,7],[],false,1100⟩ else none
@[simp] def Q3(k:Nat):Option Norm:=if k=5 then some ⟨[0,1,7,8],[],false,1100⟩ else none
@[simp] def Q4(k:Nat):Option Norm:=if k=11 then some ⟨[5,7,25,26,27],[],false,1100⟩ else none
@[simp] def Q5(k:Nat):Option Norm:=if k=7 then some ⟨[1,5,6],[⟨.slot 1,1,3,false⟩],false,1100⟩ else none
@[simp] def Q6(k:Nat):Option Norm:=if k=7 then some ⟨[3,6,7,8],[⟨.slot 3,3,2,false⟩],false,1100⟩ else none
@[simp] def Q7(k:Nat):Option Norm:=if k=5 then some ⟨[0,6,7,8],[],false,1100⟩ else none
@[simp] def aar(k:Nat):Option Norm:=if k=9 then some ⟨[0,1,12,13],[],false,1100⟩ else none
@[simp] def Q8(k:Nat):Option Norm:=if k=13 then some ⟨[2,3,4,5,7,8,74,75,76],[⟨.box 2,2,0,false⟩,⟨.box 3,3,0,false⟩,⟨.box 4,4,0,false⟩,⟨.box 5,5,0,false⟩,⟨.box 7,7,0,false⟩,⟨.slot 8,8,1,false⟩],false,1100⟩ else none
@[simp] def Q9(k:Nat):Option Norm:=if k=5 then some ⟨[0,1,7,8],[],false,1100⟩ else none
@[simp] def Ra(k:Nat):Option Norm:=if k=5 then some ⟨[1,2,6,11,12,13],[⟨.box 6,6,0,false⟩],false,1100⟩ else none
@[simp] def Rb(k:Nat):Option Norm:=if k=11 then some ⟨[3,16,17,18],[],false,1100⟩ else none
@[simp] def Rc(k:Nat):Option Norm:=if k=7 then some ⟨[1,2,3,6,8,9],[⟨.box 3,3,0,false⟩,⟨.box 6,6,0,false⟩,⟨.box 8,8,0,false⟩,⟨.cell 8 0,1000,1,false⟩,⟨.cell 8 1,1001,3,false⟩],false,1102⟩ else if k=21 then some ⟨[1,2,6,8,9,62,63],[⟨.box 6,6,0,false⟩,⟨.box 8,8,0,false⟩,⟨.cell 8 0,1000,1,false⟩,⟨.cell 8 1,1001,3,false⟩],false,1102⟩ else none
@[simp] def Rd(k:Nat):Option Norm:=if k=15 then some ⟨[1,9,10,11,41,42,43],[⟨.slot 9,9,1,false⟩,⟨.slot 11,11,4,false⟩],false,1100⟩ else none
@[simp] def Re(k:Nat):Option Norm:=if k=5 then some ⟨[0,1,7,8],[],false,1100⟩ else none
def nmL:FuncId->Nat->Option Norm
 |3=>ayp
 |4=>ayq
 |5=>ayr
 |7=>ays
 |8=>ayt
 |9=>ayu
 |10=>ann
 |12=>ano
 |13=>anp
 |15=>anq
 |16=>anr
 |17=>ans
 |20=>Z6
 |23=>Z7
 |25=>Z8
 |28=>ant
 |29=>Z9
 |31=>anu
 |35=>anv
 |37=>anw
 |38=>anx
 |40=>aaa
 |42=>anz
 |50=>an0
 |51=>an1
 |53=>an2
 |54=>aab
 |57=>aac
 |59=>an3
 |60=>an4
 |63=>aad
 |69=>aae
 |70=>aaf
 |78=>an5
 |79=>aag
 |80=>aah
 |81=>aai
 |82=>aaj
 |85=>aak
 |87=>aal
 |93=>aam
 |95=>an6
 |96=>an7
 |97=>an8
 |100=>Qt
 |101=>Qu
 |105=>Qv
 |106=>Qw
 |113=>Qx
 |115=>aan
 |118=>Qy
 |122=>Qz
 |125=>QA
 |126=>QB
 |130=>QC
 |131=>QD
 |133=>QE
 |140=>QF
 |145=>QH
 |146=>QI
 |154=>QJ
 |164=>QK
 |166=>QL
 |167=>QM
 |171=>QN
 |173=>QO
 |174=>QP
 |177=>QQ
 |181=>aao
 |182=>aap
 |183=>QR
 |184=>QS
 |188=>aaq
 |194=>QT
 |202=>QU
 |203=>QV
 |204=>QW
 |206=>QX
 |207=>QY
 |209=>QZ
 |211=>Q0
 |215=>Q1
 |216=>Q2
 |219=>Q3
 |230=>Q4
 |239=>Q5
 |240=>Q6
 |241=>Q7
 |245=>aar
 |256=>Q8
 |262=>Q9
 |267=>Ra
 |279=>Rb
 |282=>Rc
 |286=>Rd
 |287=>Re
 |_=>fun _=>none
@[simp] def a7s(r:Nat):List (Nat×Nat):=if r=9 then [(1,9)] else []
@[simp] def a7t(r:Nat):List (Nat×Nat):=if r=13 then [(2,7)] else []
@[simp] def a7u(r:Nat):List (Nat×Nat):=if r=6 then [(0,3),(0,5),(0,7),(8,0),(8,3),(8,5),(12,0),(12,3),(12,5),(14,0),(14,3),(14,5),(16,0),(16,3),(16,5)] else []
@[simp] def ayv(r:Nat):List (Nat×Nat):=if r=9 then [(1,8)] else []
@[simp] def an9(r:Nat):List (Nat×Nat):=if r=2 then [(0,5),(0,7)] else if r=6 then [(0,3)] else []
@[simp] def aoa(r:Nat):List (Nat×Nat):=if r=7 then [(4,0),(6,0)] else []
@[simp] def aob(r:Nat):List (Nat×Nat):=if r=10 then [(1,3)] else []
@[simp] def aoc(r:Nat):List (Nat×Nat):=if r=9 then [(1,9)] else []
@[simp] def aod(r:Nat):List (Nat×Nat):=if r=9 then [(1,10),(2,10),(3,10)] else if r=18 then [(1,12),(3,12),(5,12)] else if r=21 then [(1,5)] else if r=26 then [(2,4)] else []
@[simp] def ayw(r:Nat):List (Nat×Nat):=if r=4 then [(6,0),(9,0)] else if r=5 then [(6,0)] else []
@[simp] def ayx(r:Nat):List (Nat×Nat):=if r=1 then [(5,9),(5,11),(6,9),(6,11)] else if r=12 then [(1,5),(1,6)] else if r=14 then [(1,4),(1,7)] else if r=16 then [(1,4),(1,7)] else if r=18 then [(1,4),(1,6),(1,8)] else []
@[simp] def ayy(r:Nat):List (Nat×Nat):=if r=6 then [(1,3)] else []
@[simp] def aoe(r:Nat):List (Nat×Nat):=if r=5 then [(1,5),(1,6)] else if r=15 then [(1,8),(1,10)] else if r=18 then [(1,4),(1,7)] else []
@[simp] def aof(r:Nat):List (Nat×Nat):=if r=1 then [(5,9),(6,9)] else []
@[simp] def aog(r:Nat):List (Nat×Nat):=if r=15 then [(1,3)] else []
@[simp] def ayz(r:Nat):List (Nat×Nat):=if r=7 then [(1,10)] else []
@[simp] def aoh(r:Nat):List (Nat×Nat):=if r=6 then [(6,13),(8,13),(9,13)] else []
@[simp] def aoi(r:Nat):List (Nat×Nat):=if r=10 then [(1,4)] else []
@[simp] def ay0(r:Nat):List (Nat×Nat):=if r=1 then [(3,7),(4,7)] else []
@[simp] def ay1(r:Nat):List (Nat×Nat):=if r=1 then [(4,0)] else []
@[simp] def aoj(r:Nat):List (Nat×Nat):=if r=13 then [(4,0)] else []
@[simp] def ay2(r:Nat):List (Nat×Nat):=if r=6 then [(10,0),(10,8)] else if r=7 then [(6,0),(6,4)] else []
@[simp] def aas(r:Nat):List (Nat×Nat):=if r=1 then [(6,0),(6,11),(9,0)] else []
@[simp] def aat(r:Nat):List (Nat×Nat):=if r=18 then [(1,13)] else if r=24 then [(1,19)] else if r=26 then [(1,3)] else []
@[simp] def aau(r:Nat):List (Nat×Nat):=if r=7 then [(1,16),(3,16)] else []
@[simp] def aav(r:Nat):List (Nat×Nat):=if r=7 then [(7,12)] else []
@[simp] def aaw(r:Nat):List (Nat×Nat):=if r=8 then [(3,7),(3,10),(3,13),(4,7),(4,10),(4,13)] else if r=13 then [(8,0),(9,0)] else if r=16 then [(8,0),(9,0)] else []
@[simp] def aax(r:Nat):List (Nat×Nat):=if r=1 then [(4,0),(7,0),(7,3),(10,0),(10,3),(13,0),(13,3)] else []
@[simp] def aay(r:Nat):List (Nat×Nat):=if r=4 then [(6,0),(6,2)] else []
@[simp] def aaz(r:Nat):List (Nat×Nat):=if r=6 then [(4,11)] else []
@[simp] def aa0(r:Nat):List (Nat×Nat):=if r=1 then [(4,0)] else if r=5 then [(1,6)] else []
@[simp] def aa1(r:Nat):List (Nat×Nat):=if r=18 then [(12,0)] else []
@[simp] def ary(r:Nat):List (Nat×Nat):=if r=13 then [(3,11),(5,11)] else []
@[simp] def aa2(r:Nat):List (Nat×Nat):=if r=6 then [(5,0)] else []
@[simp] def aa3(r:Nat):List (Nat×Nat):=if r=27 then [(3,14),(5,14)] else []
@[simp] def aa4(r:Nat):List (Nat×Nat):=if r=5 then [(1,4)] else []
@[simp] def aa5(r:Nat):List (Nat×Nat):=if r=8 then [(2,7),(4,7),(5,7)] else []
@[simp] def aa6(r:Nat):List (Nat×Nat):=if r=2 then [(4,9)] else []
@[simp] def arz(r:Nat):List (Nat×Nat):=if r=2 then [(3,6),(3,8)] else []
@[simp] def aa7(r:Nat):List (Nat×Nat):=if r=6 then [(11,19),(13,19),(14,19),(15,19)] else if r=28 then [(3,13),(5,13)] else []
@[simp] def aa8(r:Nat):List (Nat×Nat):=if r=2 then [(3,6),(3,8)] else []
@[simp] def aa9(r:Nat):List (Nat×Nat):=if r=5 then [(1,4)] else []
@[simp] def aba(r:Nat):List (Nat×Nat):=if r=17 then [(1,10),(1,11),(4,10),(6,10),(7,10)] else []
@[simp] def abb(r:Nat):List (Nat×Nat):=if r=32 then [(7,10),(8,10)] else if r=35 then [(7,10),(8,10)] else if r=43 then [(1,3)] else []
@[simp] def abc(r:Nat):List (Nat×Nat):=if r=15 then [(5,8)] else []
@[simp] def abd(r:Nat):List (Nat×Nat):=if r=1 then [(18,22)] else if r=24 then [(2,13)] else []
@[simp] def abe(r:Nat):List (Nat×Nat):=if r=7 then [(3,17)] else []
@[simp] def abf(r:Nat):List (Nat×Nat):=if r=2 then [(10,0),(10,8)] else if r=3 then [(6,0),(6,4)] else []
@[simp] def abg(r:Nat):List (Nat×Nat):=if r=3 then [(1,14),(8,14),(8,15),(10,14),(10,15)] else []
def exL:FuncId->Nat->List (Nat×Nat)
 |4=>a7s
 |5=>a7t
 |9=>a7u
 |15=>ayv
 |19=>an9
 |20=>aoa
 |21=>aob
 |36=>aoc
 |40=>aod
 |41=>ayw
 |42=>ayx
 |56=>ayy
 |63=>aoe
 |68=>aof
 |74=>aog
 |77=>ayz
 |82=>aoh
 |85=>aoi
 |88=>ay0
 |91=>ay1
 |93=>aoj
 |96=>ay2
 |103=>aas
 |118=>aat
 |119=>aau
 |121=>aav
 |127=>aaw
 |132=>aax
 |134=>aay
 |138=>aaz
 |151=>aa0
 |154=>aa1
 |161=>ary
 |185=>aa2
 |198=>aa3
 |205=>aa4
 |208=>aa5
 |210=>aa6
 |238=>arz
 |246=>aa7
 |252=>aa8
 |253=>aa9
 |255=>aba
 |256=>abb
 |264=>abc
 |265=>abd
 |268=>abe
 |270=>abf
 |297=>abg
 |_=>fun _=> []
noncomputable def X:Env:={P:=Tryz.prog,ti:=ti,oV:=thL,hZ:=byL,gm:=ioL,clone:=cl,fX:=kpL,sX:=exL,norm:=nmL,low:=a7o,mask:=mkL,fl:=omL,flat:=flL,oW:=fun _=>none}
@[simp]def bh4:X.ti=ti:=(rfl)
abbrev Xa(f:FuncId):Prop:=X.clone f=none/\X.hZ f=false/\X.gm f=false/\X.low f=false/\X.fl f=[]
abbrev Xl(f:FuncId):Prop:=X.clone f=none/\X.hZ f=false/\X.gm f=false/\X.low f=true/\X.fl f=[]
abbrev Xt(f:FuncId):Prop:=X.oV f=fun _=>false
abbrev Xf(f:FuncId):Prop:=X.flat f=fun _=>false
abbrev Xk(f:FuncId):Prop:=X.fX f=fun _=>false
abbrev Xm(f:FuncId):Prop:=X.mask f=fun _=> []
abbrev Xn(f:FuncId):Prop:=X.norm f=fun _=>none
abbrev Xe(f:FuncId):Prop:=X.sX f=fun _=> []
abbrev Xy0(f:FuncId):Prop:=X.clone f=none/\X.hZ f=true/\X.gm f=false/\X.low f=false/\X.fl f=[]
abbrev Xy1(f:FuncId):Prop:=X.clone f=none/\X.hZ f=false/\X.gm f=true/\X.low f=false/\X.fl f=[]
abbrev Xy2(f:FuncId):Prop:=X.clone f=none/\X.hZ f=false/\X.gm f=true/\X.low f=true/\X.fl f=[]
abbrev Xd(f:FuncId):Prop:=Xa f/\Xt f/\Xf f/\Xk f/\Xm f/\Xn f/\Xe f
abbrev Xw(f:FuncId):Prop:=Xt f/\Xk f/\Xm f
abbrev Xv(f:FuncId):Prop:=Xt f/\Xk f
@[simp]def X11:Xd 11/\Xy0 18/\Xt 18/\Xf 18/\Xk 18/\Xm 18/\Xn 18/\Xe 18/\Xy1 19/\Xt 19/\Xf 19/\Xk 19/\X.mask 19=ani/\Xn 19/\X.sX 19=an9/\Xl 20/\Xt 20/\Xf 20/\Xk 20/\Xm 20/\X.norm 20=Z6/\X.sX 20=aoa/\Xa 21/\Xt 21/\Xf 21/\Xk 21/\Xm 21/\Xn 21/\X.sX 21=aob/\Xl 23/\Xt 23/\Xf 23/\Xk 23/\Xm 23/\X.norm 23=Z7/\Xe 23/\Xl 25/\Xt 25/\Xf 25/\Xk 25/\Xm 25/\X.norm 25=Z8/\Xe 25/\Xd 27/\Xl 29/\Xt 29/\Xf 29/\Xk 29/\Xm 29/\X.norm 29=Z9/\Xe 29/\Xa 36/\(∀d:Nat,X.oV 36 d=(d==17))/\Xf 36/\(∀t:TypeId,X.fX 36 t=(t==57||t==160))/\Xm 36/\Xn 36/\X.sX 36=aoc/\Xd 39/\Xy2 40/\(∀d:Nat,X.oV 40 d=(d==22))/\Xf 40/\(∀t:TypeId,X.fX 40 t=(t==57||t==160))/\X.mask 40=anj/\X.norm 40=aaa/\X.sX 40=aod/\Xy1 43/\Xt 43/\Xf 43/\Xk 43/\Xm 43/\Xn 43/\Xe 43/\Xd 44/\Xa 46/\(∀d:Nat,X.oV 46 d=(d==17))/\Xf 46/\(∀t:TypeId,X.fX 46 t=(t==110||t==112))/\Xm 46/\Xn 46/\Xe 46/\Xd 48/\Xl 54/\Xt 54/\Xf 54/\Xk 54/\Xm 54/\X.norm 54=aab/\Xe 54/\Xl 57/\Xt 57/\Xf 57/\Xk 57/\Xm 57/\X.norm 57=aac/\Xe 57/\Xy1 58/\Xt 58/\Xf 58/\Xk 58/\Xm 58/\Xn 58/\Xe 58/\Xy2 63/\Xt 63/\Xf 63/\Xk 63/\Xm 63/\X.norm 63=aad/\X.sX 63=aoe/\Xa 64/\Xt 64/\Xf 64/\Xk 64/\X.mask 64=ank/\Xn 64/\Xe 64/\Xy1 65/\Xt 65/\Xf 65/\Xk 65/\Xm 65/\Xn 65/\Xe 65/\Xy1 66/\Xt 66/\Xf 66/\Xk 66/\Xm 66/\Xn 66/\Xe 66/\Xy0 67/\(∀d:Nat,X.oV 67 d=(d==16))/\Xf 67/\Xk 67/\X.mask 67=anl/\Xn 67/\Xe 67:=by and_intros<;>first|rfl|exact fun _=>rfl
@[simp]def X68:Xy1 68/\Xt 68/\Xf 68/\Xk 68/\Xm 68/\Xn 68/\X.sX 68=aof/\Xl 69/\Xt 69/\Xf 69/\Xk 69/\Xm 69/\X.norm 69=aae/\Xe 69/\Xl 70/\Xt 70/\Xf 70/\Xk 70/\Xm 70/\X.norm 70=aaf/\Xe 70/\Xd 71/\Xd 72/\Xa 73/\(∀d:Nat,X.oV 73 d=(d==11))/\Xf 73/\(∀t:TypeId,X.fX 73 t=(t==110||t==112))/\Xm 73/\Xn 73/\Xe 73/\Xa 74/\(∀d:Nat,X.oV 74 d=(d==76))/\Xf 74/\Xk 74/\X.mask 74=anm/\Xn 74/\X.sX 74=aog/\Xl 79/\Xt 79/\Xf 79/\Xk 79/\Xm 79/\X.norm 79=aag/\Xe 79/\Xl 80/\Xt 80/\Xf 80/\Xk 80/\Xm 80/\X.norm 80=aah/\Xe 80/\Xl 81/\Xt 81/\Xf 81/\Xk 81/\Xm 81/\X.norm 81=aai/\Xe 81/\Xl 82/\Xt 82/\Xf 82/\Xk 82/\Xm 82/\X.norm 82=aaj/\X.sX 82=aoh/\Xd 83/\Xd 84/\Xl 85/\Xt 85/\Xf 85/\Xk 85/\Xm 85/\X.norm 85=aak/\X.sX 85=aoi/\Xl 87/\Xt 87/\Xf 87/\Xk 87/\Xm 87/\X.norm 87=aal/\Xe 87/\Xa 89/\Xt 89/\Xf 89/\(∀t:TypeId,X.fX 89 t=(t==57))/\Xm 89/\Xn 89/\Xe 89/\Xd 90/\Xy1 92/\Xt 92/\Xf 92/\Xk 92/\Xm 92/\Xn 92/\Xe 92/\Xl 93/\Xt 93/\Xf 93/\Xk 93/\Xm 93/\X.norm 93=aam/\X.sX 93=aoj/\Xd 94/\Xd 98/\Xd 99/\Xl 100/\Xt 100/\Xf 100/\Xk 100/\Xm 100/\X.norm 100=Qt/\Xe 100/\Xl 101/\Xt 101/\Xf 101/\Xk 101/\Xm 101/\X.norm 101=Qu/\Xe 101:=by and_intros<;>first|rfl|exact fun _=>rfl
@[simp]def bh7:Xd 102/\Xa 103/\(∀d:Nat,X.oV 103 d=(d==16))/\Xf 103/\(∀t:TypeId,X.fX 103 t=(t==110||t==112))/\Xm 103/\Xn 103/\X.sX 103=aas/\Xl 105/\Xt 105/\Xf 105/\Xk 105/\Xm 105/\X.norm 105=Qv/\Xe 105/\Xl 106/\Xt 106/\Xf 106/\Xk 106/\Xm 106/\X.norm 106=Qw/\Xe 106/\Xd 107/\X.clone 108=some 94/\X.hZ 108=false/\X.gm 108=false/\X.low 108=false/\X.fl 108=[]/\Xt 108/\Xf 108/\Xk 108/\Xm 108/\Xn 108/\Xe 108/\Xd 110/\Xd 111/\Xd 112/\Xl 113/\Xt 113/\Xf 113/\Xk 113/\Xm 113/\X.norm 113=Qx/\Xe 113/\Xl 118/\Xt 118/\Xf 118/\Xk 118/\X.mask 118=ZV/\X.norm 118=Qy/\X.sX 118=aat/\Xy0 119/\(∀d:Nat,X.oV 119 d=(d==51||d==77))/\Xf 119/\(∀t:TypeId,X.fX 119 t=(t==110||t==112))/\Xm 119/\Xn 119/\X.sX 119=aau/\Xa 120/\Xt 120/\Xf 120/\Xk 120/\X.mask 120=ZW/\Xn 120/\Xe 120/\Xy0 121/\(∀d:Nat,X.oV 121 d=(d==54))/\Xf 121/\(∀t:TypeId,X.fX 121 t=(t==110||t==112))/\Xm 121/\Xn 121/\X.sX 121=aav/\Xl 122/\Xt 122/\Xf 122/\Xk 122/\Xm 122/\X.norm 122=Qz/\Xe 122/\Xd 123/\Xy2 125/\(∀d:Nat,X.oV 125 d=(d==8))/\Xf 125/\Xk 125/\Xm 125/\X.norm 125=QA/\Xe 125/\Xy2 126/\Xt 126/\Xf 126/\Xk 126/\Xm 126/\X.norm 126=QB/\Xe 126/\Xy1 127/\(∀d:Nat,X.oV 127 d=(d==102||d==113||d==134))/\Xf 127/\Xk 127/\Xm 127/\Xn 127/\X.sX 127=aaw/\Xd 128/\Xd 129/\Xl 130/\Xt 130/\Xf 130/\Xk 130/\Xm 130/\X.norm 130=QC/\Xe 130/\Xl 131/\Xt 131/\Xf 131/\Xk 131/\Xm 131/\X.norm 131=QD/\Xe 131/\Xa 132/\Xt 132/\Xf 132/\Xk 132/\Xm 132/\Xn 132/\X.sX 132=aax:=by and_intros<;>first|rfl|exact fun _=>rfl
@[simp]def biz:Xl 133/\Xt 133/\Xf 133/\Xk 133/\Xm 133/\X.norm 133=QE/\Xe 133/\Xa 134/\Xt 134/\Xf 134/\Xk 134/\Xm 134/\Xn 134/\X.sX 134=aay/\Xd 135/\Xd 136/\Xd 137/\X.clone 138=none/\X.hZ 138=false/\X.gm 138=true/\X.low 138=false/\X.fl 138=[(0,16,65),(0,17,3),(0,7,112)]/\Xt 138/\Xf 138/\(∀t:TypeId,X.fX 138 t=(t==112))/\Xm 138/\Xn 138/\X.sX 138=aaz/\X.clone 139=none/\X.hZ 139=false/\X.gm 139=true/\X.low 139=false/\X.fl 139=[(0,16,65),(0,17,3),(0,7,112)]/\Xt 139/\Xf 139/\(∀t:TypeId,X.fX 139 t=(t==112))/\Xm 139/\Xn 139/\Xe 139/\Xl 140/\Xt 140/\Xf 140/\Xk 140/\Xm 140/\X.norm 140=QF/\Xe 140/\Xd 141/\Xd 142/\Xd 143/\Xd 144/\Xl 145/\Xt 145/\Xf 145/\Xk 145/\Xm 145/\X.norm 145=QH/\Xe 145/\Xl 146/\Xt 146/\Xf 146/\Xk 146/\Xm 146/\X.norm 146=QI/\Xe 146/\Xd 147/\Xd 148/\Xd 149/\Xd 150/\Xa 151/\Xt 151/\Xf 151/\(∀t:TypeId,X.fX 151 t=(t==110||t==112))/\Xm 151/\Xn 151/\X.sX 151=aa0/\X.clone 152=some 30/\X.hZ 152=false/\X.gm 152=false/\X.low 152=false/\X.fl 152=[]/\Xt 152/\Xf 152/\Xk 152/\Xm 152/\Xn 152/\Xe 152/\Xd 153/\Xl 154/\Xt 154/\Xf 154/\Xk 154/\Xm 154/\X.norm 154=QJ/\X.sX 154=aa1/\Xa 155/\(∀d:Nat,X.oV 155 d=(d==9))/\Xf 155/\Xk 155/\Xm 155/\Xn 155/\Xe 155/\Xd 156:=by and_intros<;>first|rfl|exact fun _=>rfl
@[simp]def bjn:Xd 157/\Xl 164/\Xt 164/\Xf 164/\Xk 164/\Xm 164/\X.norm 164=QK/\Xe 164/\Xd 165/\Xl 166/\Xt 166/\Xf 166/\Xk 166/\Xm 166/\X.norm 166=QL/\Xe 166/\Xl 167/\Xt 167/\Xf 167/\Xk 167/\Xm 167/\X.norm 167=QM/\Xe 167/\Xd 168/\Xd 170/\Xl 171/\Xt 171/\Xf 171/\Xk 171/\Xm 171/\X.norm 171=QN/\Xe 171/\Xy1 172/\Xt 172/\Xf 172/\Xk 172/\Xm 172/\Xn 172/\Xe 172/\Xl 173/\Xt 173/\Xf 173/\Xk 173/\Xm 173/\X.norm 173=QO/\Xe 173/\Xl 174/\Xt 174/\Xf 174/\Xk 174/\Xm 174/\X.norm 174=QP/\Xe 174/\Xd 175/\Xd 176/\Xl 177/\Xt 177/\Xf 177/\Xk 177/\Xm 177/\X.norm 177=QQ/\Xe 177/\Xd 178/\Xa 179/\Xt 179/\Xf 179/\(∀t:TypeId,X.fX 179 t=(t==110||t==112))/\Xm 179/\Xn 179/\Xe 179/\Xd 180/\Xl 183/\Xt 183/\Xf 183/\Xk 183/\Xm 183/\X.norm 183=QR/\Xe 183/\Xl 184/\Xt 184/\Xf 184/\Xk 184/\Xm 184/\X.norm 184=QS/\Xe 184/\Xa 185/\(∀d:Nat,X.oV 185 d=(d==17))/\Xf 185/\Xk 185/\Xm 185/\Xn 185/\X.sX 185=aa2/\Xd 186/\Xd 191/\Xa 193/\(∀d:Nat,X.oV 193 d=(d==36))/\Xf 193/\(∀t:TypeId,X.fX 193 t=(t==110||t==112))/\Xm 193/\Xn 193/\Xe 193/\Xl 194/\Xt 194/\Xf 194/\Xk 194/\Xm 194/\X.norm 194=QT/\Xe 194:=by and_intros<;>first|rfl|exact fun _=>rfl
@[simp]def bkb:Xa 195/\(∀d:Nat,X.oV 195 d=(d==9))/\Xf 195/\Xk 195/\Xm 195/\Xn 195/\Xe 195/\Xd 196/\Xd 197/\Xy0 198/\(∀d:Nat,X.oV 198 d=(d==221))/\Xf 198/\(∀t:TypeId,X.fX 198 t=(t==110||t==112))/\Xm 198/\Xn 198/\X.sX 198=aa3/\Xd 199/\Xd 200/\Xy1 201/\Xt 201/\Xf 201/\Xk 201/\Xm 201/\Xn 201/\Xe 201/\Xl 202/\Xt 202/\Xf 202/\Xk 202/\Xm 202/\X.norm 202=QU/\Xe 202/\Xl 203/\Xt 203/\Xf 203/\Xk 203/\Xm 203/\X.norm 203=QV/\Xe 203/\Xl 204/\Xt 204/\Xf 204/\Xk 204/\Xm 204/\X.norm 204=QW/\Xe 204/\Xa 205/\Xt 205/\Xf 205/\(∀t:TypeId,X.fX 205 t=(t==57))/\Xm 205/\Xn 205/\X.sX 205=aa4/\Xl 206/\Xt 206/\Xf 206/\Xk 206/\Xm 206/\X.norm 206=QX/\Xe 206/\Xl 207/\Xt 207/\Xf 207/\Xk 207/\Xm 207/\X.norm 207=QY/\Xe 207/\Xa 208/\Xt 208/\Xf 208/\Xk 208/\X.mask 208=ZX/\Xn 208/\X.sX 208=aa5/\X.clone 209=none/\X.hZ 209=false/\X.gm 209=true/\X.low 209=true/\X.fl 209=[(0,16,65),(0,17,3),(0,7,112)]/\Xt 209/\Xf 209/\Xk 209/\Xm 209/\X.norm 209=QZ/\Xe 209/\Xy0 210/\Xt 210/\Xf 210/\Xk 210/\Xm 210/\Xn 210/\X.sX 210=aa6/\Xl 211/\Xt 211/\Xf 211/\Xk 211/\X.mask 211=ZY/\X.norm 211=Q0/\Xe 211/\Xd 212/\Xd 213/\Xd 214/\Xl 215/\Xt 215/\Xf 215/\Xk 215/\Xm 215/\X.norm 215=Q1/\Xe 215/\Xl 216/\Xt 216/\Xf 216/\Xk 216/\Xm 216/\X.norm 216=Q2/\Xe 216/\Xd 217/\Xd 218:=by and_intros<;>first|rfl|exact fun _=>rfl
@[simp]def bkz:Xl 219/\Xt 219/\Xf 219/\Xk 219/\Xm 219/\X.norm 219=Q3/\Xe 219/\Xd 220/\Xd 221/\Xd 222/\Xd 223/\X.clone 224=some 22/\X.hZ 224=false/\X.gm 224=false/\X.low 224=false/\X.fl 224=[]/\Xt 224/\Xf 224/\Xk 224/\Xm 224/\Xn 224/\Xe 224/\X.clone 225=some 31/\X.hZ 225=false/\X.gm 225=false/\X.low 225=false/\X.fl 225=[]/\Xt 225/\Xf 225/\Xk 225/\Xm 225/\Xn 225/\Xe 225/\Xy0 226/\(∀d:Nat,X.oV 226 d=(d==22))/\Xf 226/\(∀t:TypeId,X.fX 226 t=(t==110||t==112))/\Xm 226/\Xn 226/\Xe 226/\Xy0 227/\Xt 227/\Xf 227/\(∀t:TypeId,X.fX 227 t=(t==110||t==112))/\Xm 227/\Xn 227/\Xe 227/\Xd 228/\Xd 229/\Xl 230/\Xt 230/\Xf 230/\Xk 230/\Xm 230/\X.norm 230=Q4/\Xe 230/\Xd 231/\Xd 232/\Xd 233/\Xd 234/\Xd 235/\Xy0 237/\Xt 237/\Xf 237/\(∀t:TypeId,X.fX 237 t=(t==110||t==112))/\Xm 237/\Xn 237/\Xe 237/\Xl 239/\Xt 239/\Xf 239/\Xk 239/\Xm 239/\X.norm 239=Q5/\Xe 239/\Xl 240/\Xt 240/\Xf 240/\Xk 240/\Xm 240/\X.norm 240=Q6/\Xe 240/\Xl 241/\Xt 241/\Xf 241/\Xk 241/\Xm 241/\X.norm 241=Q7/\Xe 241/\Xd 242/\Xy0 243/\Xt 243/\Xf 243/\Xk 243/\Xm 243/\Xn 243/\Xe 243/\Xy0 244/\Xt 244/\Xf 244/\Xk 244/\Xm 244/\Xn 244/\Xe 244:=by and_intros<;>first|rfl|exact fun _=>rfl
@[simp]def blp:Xy0 246/\Xt 246/\Xf 246/\(∀t:TypeId,X.fX 246 t=(t==110||t==112))/\Xm 246/\Xn 246/\X.sX 246=aa7/\Xd 247/\Xd 248/\Xd 249/\Xd 250/\Xy0 251/\Xt 251/\Xf 251/\(∀t:TypeId,X.fX 251 t=(t==110||t==112))/\Xm 251/\Xn 251/\Xe 251/\Xa 252/\Xt 252/\Xf 252/\Xk 252/\X.mask 252=ZZ/\Xn 252/\X.sX 252=aa8/\Xa 253/\Xt 253/\Xf 253/\(∀t:TypeId,X.fX 253 t=(t==22))/\Xm 253/\Xn 253/\X.sX 253=aa9/\Xd 254/\Xa 255/\(∀d:Nat,X.oV 255 d=(d==14))/\Xf 255/\(∀t:TypeId,X.fX 255 t=(t==22))/\Xm 255/\Xn 255/\X.sX 255=aba/\Xl 256/\(∀d:Nat,X.oV 256 d=(d==72))/\Xf 256/\Xk 256/\Xm 256/\X.norm 256=Q8/\X.sX 256=abb/\Xd 257/\Xd 258/\Xd 259/\Xd 260/\Xd 261/\Xl 262/\Xt 262/\Xf 262/\Xk 262/\Xm 262/\X.norm 262=Q9/\Xe 262/\Xd 263/\Xy0 264/\Xt 264/\Xf 264/\(∀t:TypeId,X.fX 264 t=(t==110||t==112))/\Xm 264/\Xn 264/\X.sX 264=abc/\Xy0 265/\Xt 265/\Xf 265/\(∀t:TypeId,X.fX 265 t=(t==110||t==112))/\Xm 265/\Xn 265/\X.sX 265=abd/\Xd 266/\Xl 267/\Xt 267/\Xf 267/\Xk 267/\Xm 267/\X.norm 267=Ra/\Xe 267/\Xy0 268/\Xt 268/\Xf 268/\(∀t:TypeId,X.fX 268 t=(t==110||t==112))/\Xm 268/\Xn 268/\X.sX 268=abe/\Xy0 270/\Xt 270/\Xf 270/\Xk 270/\Xm 270/\Xn 270/\X.sX 270=abf:=by and_intros<;>first|rfl|exact fun _=>rfl
@[simp]def bme:Xy0 271/\Xt 271/\Xf 271/\(∀t:TypeId,X.fX 271 t=(t==110||t==112))/\Xm 271/\Xn 271/\Xe 271/\Xd 272/\Xy0 273/\Xt 273/\Xf 273/\(∀t:TypeId,X.fX 273 t=(t==110||t==112))/\Xm 273/\Xn 273/\Xe 273/\Xd 274/\Xd 275/\Xy0 276/\Xt 276/\Xf 276/\(∀t:TypeId,X.fX 276 t=(t==110||t==112))/\Xm 276/\Xn 276/\Xe 276/\Xd 277/\Xd 278/\Xl 279/\Xt 279/\Xf 279/\Xk 279/\Xm 279/\X.norm 279=Rb/\Xe 279/\Xa 280/\(∀d:Nat,X.oV 280 d=(d==15))/\Xf 280/\(∀t:TypeId,X.fX 280 t=(t==57))/\Xm 280/\Xn 280/\Xe 280/\Xa 281/\Xt 281/\Xf 281/\Xk 281/\X.mask 281=Z0/\Xn 281/\Xe 281/\Xl 282/\Xt 282/\Xf 282/\Xk 282/\X.mask 282=Z1/\X.norm 282=Rc/\Xe 282/\Xa 283/\Xt 283/\Xf 283/\Xk 283/\X.mask 283=Z2/\Xn 283/\Xe 283/\Xa 284/\Xt 284/\Xf 284/\Xk 284/\X.mask 284=Z3/\Xn 284/\Xe 284/\Xa 285/\Xt 285/\Xf 285/\Xk 285/\X.mask 285=Z4/\Xn 285/\Xe 285/\Xl 286/\Xt 286/\Xf 286/\Xk 286/\X.mask 286=Z5/\X.norm 286=Rd/\Xe 286/\Xl 287/\Xt 287/\Xf 287/\Xk 287/\Xm 287/\X.norm 287=Re/\Xe 287/\Xd 288/\Xd 289/\Xd 290/\Xd 291/\Xy0 292/\Xt 292/\Xf 292/\(∀t:TypeId,X.fX 292 t=(t==110||t==112))/\Xm 292/\Xn 292/\Xe 292/\Xd 293/\Xy0 294/\Xt 294/\Xf 294/\(∀t:TypeId,X.fX 294 t=(t==110||t==112))/\Xm 294/\Xn 294/\Xe 294:=by and_intros<;>first|rfl|exact fun _=>rfl
@[simp]def bm2:Xd 295/\Xd 296/\Xa 297/\Xt 297/\Xf 297/\Xk 297/\Xm 297/\Xn 297/\X.sX 297=abg/\Xd 298/\Xd 299/\Xd 300/\Xd 301/\Xd 302:=by and_intros<;>first|rfl|exact fun _=>rfl
end Go.Proofs.YtdngefmliibcgaaGreat
namespace Go.Abs.kX
open Go Go.Abs
variable  {α β:Type}{Q:Ex->St->Prop}{b:Code}{S:St}
def k7{f:α->V}(h: ∀x,(f x).lM=f x)(l:List α):eV (l.map f)=l.map f:=by
 rw[MQ,adz];exact aeC fun x _=>h x
@[simp]def VQ(k:IntKind)(l:List Int):eV (l.map (V.int k))=l.map (V.int k):=k7 (fun _=>rfl) l
structure Cell where
 tag:Int
 val:Int
 deriving DecidableEq,Inhabited
def Cell.e(x:Cell):V:= .agg [.int .u8 x.tag,.int .u16 x.val]
def Cell.bS(x:Cell):x.e= .agg [.int .u8 x.tag,.int .u16 x.val]:=(rfl)
def Cell.eq_iff(x y:Cell):x=y↔x.tag=y.tag/\x.val=y.val:=by cases x;cases y;simp
@[simp]def Cell.je(x:Cell):x.e.cells=[.int .u8 x.tag,.int .u16 x.val]:=(rfl)
@[simp]def avk(l:List Cell):eV (l.map Cell.e)=l.map Cell.e:=k7 (fun x=>by simp[Cell.bS]) l
structure BC where
 region:Int
 offset:Int
 deriving DecidableEq,Inhabited
def BC.e(x:BC):V:= .agg [.int .i64 x.region,.int .i64 x.offset]
def BC.bS(x:BC):x.e= .agg [.int .i64 x.region,.int .i64 x.offset]:=(rfl)
def BC.eq_iff(x y:BC):x=y↔x.region=y.region/\x.offset=y.offset:=by cases x;cases y;simp
@[simp]def BC.je(x:BC):x.e.cells=[.int .i64 x.region,.int .i64 x.offset]:=(rfl)
structure Layout where
 aD:List Int
 key:Int
 deriving DecidableEq,Inhabited
def Layout.e(x:Layout):V:= .agg [.sl false (x.aD.map (V.int .i64)),.int .u16 x.key]
def Layout.bS(x:Layout):x.e= .agg [.sl false (x.aD.map (V.int .i64)),.int .u16 x.key]:=(rfl)
def Layout.eq_iff(x y:Layout):x=y↔x.aD=y.aD/\x.key=y.key:=by cases x;cases y;simp
@[simp]def Layout.je(x:Layout):x.e.cells=[.sl false (x.aD.map (V.int .i64)),.int .u16 x.key]:=(rfl)
structure cy where
 tag:Int
 iW:Bool
 cells:List Cell
 deriving DecidableEq,Inhabited
def cy.e(x:cy):V:= .agg [.int .i64 x.tag,.bool x.iW,.sl false (x.cells.map Cell.e)]
def cy.bS(x:cy):x.e= .agg [.int .i64 x.tag,.bool x.iW,.sl false (x.cells.map Cell.e)]:=(rfl)
def cy.eq_iff(x y:cy):x=y↔x.tag=y.tag/\x.iW=y.iW/\x.cells=y.cells:=by cases x;cases y;simp
@[simp]def cy.je(x:cy):x.e.cells=[.int .i64 x.tag,.bool x.iW,.sl false (x.cells.map Cell.e)]:=(rfl)
@[simp]def avl(l:List cy):eV (l.map cy.e)=l.map cy.e:=k7 (fun x=>by simp[cy.bS]) l
structure aF where
 cells:List Cell
 lines:List cy
 deriving DecidableEq,Inhabited
def aF.e(x:aF):V:= .agg [.sl false (x.cells.map Cell.e),.sl false (x.lines.map cy.e)]
def aF.bS(x:aF):x.e= .agg [.sl false (x.cells.map Cell.e),.sl false (x.lines.map cy.e)]:=(rfl)
def aF.eq_iff(x y:aF):x=y↔x.cells=y.cells/\x.lines=y.lines:=by cases x;cases y;simp
@[simp]def aF.je(x:aF):x.e.cells=[.sl false (x.cells.map Cell.e),.sl false (x.lines.map cy.e)]:=(rfl)
structure Instr where
 op:Int
 a:Int
 b:Int
 c:Int
 ed:Int
 deriving DecidableEq,Inhabited
def Instr.e(x:Instr):V:= .agg [.int .i64 x.op,.int .i64 x.a,.int .i64 x.b,.int .i64 x.c,.int .i64 x.ed]
def Instr.bS(x:Instr):x.e= .agg [.int .i64 x.op,.int .i64 x.a,.int .i64 x.b,.int .i64 x.c,.int .i64 x.ed]:=(rfl)
def Instr.eq_iff(x y:Instr):x=y↔x.op=y.op/\x.a=y.a/\x.b=y.b/\x.c=y.c/\x.ed=y.ed:=by cases x;cases y;simp
@[simp]def Instr.je(x:Instr):x.e.cells=[.int .i64 x.op,.int .i64 x.a,.int .i64 x.b,.int .i64 x.c,.int .i64 x.ed]:=(rfl)
@[simp]def ar5(l:List Instr):eV (l.map Instr.e)=l.map Instr.e:=k7 (fun x=>by simp[Instr.bS]) l
def aV(x:List Int):V:= .sl false (x.map (V.int .u16))
def AL(x:List Int):aV x= .sl false (x.map (V.int .u16)):=(rfl)
@[simp]def VR(x:List Int):(aV x).cells=[.sl false (x.map (V.int .u16))]:=(rfl)
@[simp]def Jj(l:List (List Int)):eV (l.map aV)=l.map aV:=k7 (fun x=>by simp[AL]) l
structure Prog where
 code:List Instr
 an:List Int
 data:List (List Int)
 deriving DecidableEq,Inhabited
def Prog.e(x:Prog):V:= .agg [.sl false (x.code.map Instr.e),.sl false (x.an.map (V.int .i64)),.sl false (x.data.map aV)]
def Prog.bS(x:Prog):x.e= .agg [.sl false (x.code.map Instr.e),.sl false (x.an.map (V.int .i64)),.sl false (x.data.map aV)]:=(rfl)
def Prog.eq_iff(x y:Prog):x=y↔x.code=y.code/\x.an=y.an/\x.data=y.data:=by cases x;cases y;simp
@[simp]def Prog.je(x:Prog):x.e.cells=[.sl false (x.code.map Instr.e),.sl false (x.an.map (V.int .i64)),.sl false (x.data.map aV)]:=(rfl)
structure Thread where
 state:Int
 bz:List Cell
 pc:Int
 count:Int
 cn:Int
 saved:Int
 dn:Int
 code:Int
 deriving DecidableEq,Inhabited
def Thread.e(x:Thread):V:= .agg [.int .i64 x.state,.sl false (x.bz.map Cell.e),.int .i64 x.pc,.int .i64 x.count,.int .i64 x.cn,.int .i64 x.saved,.int .i64 x.dn,.int .u16 x.code]
def Thread.bS(x:Thread):x.e= .agg [.int .i64 x.state,.sl false (x.bz.map Cell.e),.int .i64 x.pc,.int .i64 x.count,.int .i64 x.cn,.int .i64 x.saved,.int .i64 x.dn,.int .u16 x.code]:=(rfl)
def Thread.eq_iff(x y:Thread):x=y↔x.state=y.state/\x.bz=y.bz/\x.pc=y.pc/\x.count=y.count/\x.cn=y.cn/\x.saved=y.saved/\x.dn=y.dn/\x.code=y.code:=by cases x;cases y;simp
@[simp]def Thread.je(x:Thread):x.e.cells=[.int .i64 x.state,.sl false (x.bz.map Cell.e),.int .i64 x.pc,.int .i64 x.count,.int .i64 x.cn,.int .i64 x.saved,.int .i64 x.dn,.int .u16 x.code]:=(rfl)
@[simp]def aon(l:List Thread):eV (l.map Thread.e)=l.map Thread.e:=k7 (fun x=>by simp[Thread.bS]) l
structure aO where
 layout:Layout
 memory:aF
 threads:List Thread
 deriving DecidableEq,Inhabited
def aO.e(x:aO):V:= .agg [.sl false (x.layout.aD.map (V.int .i64)),.int .u16 x.layout.key,.sl false (x.memory.cells.map Cell.e),.sl false (x.memory.lines.map cy.e),.sl false (x.threads.map Thread.e)]
def aO.bS(x:aO):x.e= .agg [.sl false (x.layout.aD.map (V.int .i64)),.int .u16 x.layout.key,.sl false (x.memory.cells.map Cell.e),.sl false (x.memory.lines.map cy.e),.sl false (x.threads.map Thread.e)]:=(rfl)
def aO.eq_iff(x y:aO):x=y↔x.layout=y.layout/\x.memory=y.memory/\x.threads=y.threads:=by cases x;cases y;simp
@[simp]def aO.je(x:aO):x.e.cells=[.sl false (x.layout.aD.map (V.int .i64)),.int .u16 x.layout.key,.sl false (x.memory.cells.map Cell.e),.sl false (x.memory.lines.map cy.e),.sl false (x.threads.map Thread.e)]:=(rfl)
structure Canon where
 tag:Int
 val:Int
 region:Int
 offset:Int
 deriving DecidableEq,Inhabited
def Canon.e(x:Canon):V:= .agg [.int .u8 x.tag,.int .u16 x.val,.int .i64 x.region,.int .i64 x.offset]
def Canon.bS(x:Canon):x.e= .agg [.int .u8 x.tag,.int .u16 x.val,.int .i64 x.region,.int .i64 x.offset]:=(rfl)
def Canon.eq_iff(x y:Canon):x=y↔x.tag=y.tag/\x.val=y.val/\x.region=y.region/\x.offset=y.offset:=by cases x;cases y;simp
@[simp]def Canon.je(x:Canon):x.e.cells=[.int .u8 x.tag,.int .u16 x.val,.int .i64 x.region,.int .i64 x.offset]:=(rfl)
@[simp]def ar6(l:List Canon):eV (l.map Canon.e)=l.map Canon.e:=k7 (fun x=>by simp[Canon.bS]) l
structure Request where
 dd:Int
 stop:Int
 dn:Int
 count:Int
 pc:Int
 call:Int
 args:List Canon
 data:List Canon
 deriving DecidableEq,Inhabited
def Request.e(x:Request):V:= .agg [.int .i64 x.dd,.int .i64 x.stop,.int .i64 x.dn,.int .i64 x.count,.int .i64 x.pc,.int .i64 x.call,.sl false (x.args.map Canon.e),.sl false (x.data.map Canon.e)]
def Request.bS(x:Request):x.e= .agg [.int .i64 x.dd,.int .i64 x.stop,.int .i64 x.dn,.int .i64 x.count,.int .i64 x.pc,.int .i64 x.call,.sl false (x.args.map Canon.e),.sl false (x.data.map Canon.e)]:=(rfl)
def Request.eq_iff(x y:Request):x=y↔x.dd=y.dd/\x.stop=y.stop/\x.dn=y.dn/\x.count=y.count/\x.pc=y.pc/\x.call=y.call/\x.args=y.args/\x.data=y.data:=by cases x;cases y;simp
@[simp]def Request.je(x:Request):x.e.cells=[.int .i64 x.dd,.int .i64 x.stop,.int .i64 x.dn,.int .i64 x.count,.int .i64 x.pc,.int .i64 x.call,.sl false (x.args.map Canon.e),.sl false (x.data.map Canon.e)]:=(rfl)
structure lL where
 value:Canon
 data:List Canon
 spawn:Int
 wait:Bool
 deriving DecidableEq,Inhabited
def lL.e(x:lL):V:= .agg [.int .u8 x.value.tag,.int .u16 x.value.val,.int .i64 x.value.region,.int .i64 x.value.offset,.sl false (x.data.map Canon.e),.int .i64 x.spawn,.bool x.wait]
def lL.bS(x:lL):x.e= .agg [.int .u8 x.value.tag,.int .u16 x.value.val,.int .i64 x.value.region,.int .i64 x.value.offset,.sl false (x.data.map Canon.e),.int .i64 x.spawn,.bool x.wait]:=(rfl)
def lL.eq_iff(x y:lL):x=y↔x.value=y.value/\x.data=y.data/\x.spawn=y.spawn/\x.wait=y.wait:=by cases x;cases y;simp
@[simp]def lL.je(x:lL):x.e.cells=[.int .u8 x.value.tag,.int .u16 x.value.val,.int .i64 x.value.region,.int .i64 x.value.offset,.sl false (x.data.map Canon.e),.int .i64 x.spawn,.bool x.wait]:=(rfl)
structure View where
 state:Int
 pc:Int
 count:Int
 cn:Int
 saved:Int
 dn:Int
 code:Int
 bz:List Canon
 deriving DecidableEq,Inhabited
def View.e(x:View):V:= .agg [.int .i64 x.state,.int .i64 x.pc,.int .i64 x.count,.int .i64 x.cn,.int .i64 x.saved,.int .i64 x.dn,.int .u16 x.code,.sl false (x.bz.map Canon.e)]
def View.bS(x:View):x.e= .agg [.int .i64 x.state,.int .i64 x.pc,.int .i64 x.count,.int .i64 x.cn,.int .i64 x.saved,.int .i64 x.dn,.int .u16 x.code,.sl false (x.bz.map Canon.e)]:=(rfl)
def View.eq_iff(x y:View):x=y↔x.state=y.state/\x.pc=y.pc/\x.count=y.count/\x.cn=y.cn/\x.saved=y.saved/\x.dn=y.dn/\x.code=y.code/\x.bz=y.bz:=by cases x;cases y;simp
@[simp]def View.je(x:View):x.e.cells=[.int .i64 x.state,.int .i64 x.pc,.int .i64 x.count,.int .i64 x.cn,.int .i64 x.saved,.int .i64 x.dn,.int .u16 x.code,.sl false (x.bz.map Canon.e)]:=(rfl)
@[simp]def avm(l:List View):eV (l.map View.e)=l.map View.e:=k7 (fun x=>by simp[View.bS]) l
def bw(x:List Canon):V:= .sl false (x.map Canon.e)
def tD(x:List Canon):bw x= .sl false (x.map Canon.e):=(rfl)
@[simp]def Rf(x:List Canon):(bw x).cells=[.sl false (x.map Canon.e)]:=(rfl)
@[simp]def Nb(l:List (List Canon)):eV (l.map bw)=l.map bw:=k7 (fun x=>by simp[tD]) l
structure State where
 regions:List (List Canon)
 threads:List View
 deriving DecidableEq,Inhabited
def State.e(x:State):V:= .agg [.sl false (x.regions.map bw),.sl false (x.threads.map View.e)]
def State.bS(x:State):x.e= .agg [.sl false (x.regions.map bw),.sl false (x.threads.map View.e)]:=(rfl)
def State.eq_iff(x y:State):x=y↔x.regions=y.regions/\x.threads=y.threads:=by cases x;cases y;simp
@[simp]def State.je(x:State):x.e.cells=[.sl false (x.regions.map bw),.sl false (x.threads.map View.e)]:=(rfl)
def dc(x:List Int):V:= .sl false (x.map (V.int .i64))
def ku(x:List Int):dc x= .sl false (x.map (V.int .i64)):=(rfl)
@[simp]def VS(x:List Int):(dc x).cells=[.sl false (x.map (V.int .i64))]:=(rfl)
@[simp]def Jk(l:List (List Int)):eV (l.map dc)=l.map dc:=k7 (fun x=>by simp[ku]) l
structure bX where
 owner:List Int
 queue:List (List Int)
 deriving DecidableEq,Inhabited
def bX.e(x:bX):V:= .agg [.sl false (x.owner.map (V.int .i64)),.sl false (x.queue.map dc)]
def bX.bS(x:bX):x.e= .agg [.sl false (x.owner.map (V.int .i64)),.sl false (x.queue.map dc)]:=(rfl)
def bX.eq_iff(x y:bX):x=y↔x.owner=y.owner/\x.queue=y.queue:=by cases x;cases y;simp
@[simp]def bX.je(x:bX):x.e.cells=[.sl false (x.owner.map (V.int .i64)),.sl false (x.queue.map dc)]:=(rfl)
structure fO where
 file:Int
 offset:Int
 write:Bool
 deriving DecidableEq,Inhabited
def fO.e(x:fO):V:= .agg [.int .i64 x.file,.int .i64 x.offset,.bool x.write]
def fO.bS(x:fO):x.e= .agg [.int .i64 x.file,.int .i64 x.offset,.bool x.write]:=(rfl)
def fO.eq_iff(x y:fO):x=y↔x.file=y.file/\x.offset=y.offset/\x.write=y.write:=by cases x;cases y;simp
@[simp]def fO.je(x:fO):x.e.cells=[.int .i64 x.file,.int .i64 x.offset,.bool x.write]:=(rfl)
@[simp]def ay5(l:List fO):eV (l.map fO.e)=l.map fO.e:=k7 (fun x=>by simp[fO.bS]) l
structure bJ where
 data:List (List Canon)
 opens:List fO
 deriving DecidableEq,Inhabited
def bJ.e(x:bJ):V:= .agg [.sl false (x.data.map bw),.sl false (x.opens.map fO.e)]
def bJ.bS(x:bJ):x.e= .agg [.sl false (x.data.map bw),.sl false (x.opens.map fO.e)]:=(rfl)
def bJ.eq_iff(x y:bJ):x=y↔x.data=y.data/\x.opens=y.opens:=by cases x;cases y;simp
@[simp]def bJ.je(x:bJ):x.e.cells=[.sl false (x.data.map bw),.sl false (x.opens.map fO.e)]:=(rfl)
structure Output where
 seq:Int
 socket:Int
 data:List Canon
 deriving DecidableEq,Inhabited
def Output.e(x:Output):V:= .agg [.int .i64 x.seq,.int .i64 x.socket,.sl false (x.data.map Canon.e)]
def Output.bS(x:Output):x.e= .agg [.int .i64 x.seq,.int .i64 x.socket,.sl false (x.data.map Canon.e)]:=(rfl)
def Output.eq_iff(x y:Output):x=y↔x.seq=y.seq/\x.socket=y.socket/\x.data=y.data:=by cases x;cases y;simp
@[simp]def Output.je(x:Output):x.e.cells=[.int .i64 x.seq,.int .i64 x.socket,.sl false (x.data.map Canon.e)]:=(rfl)
@[simp]def aoo(l:List Output):eV (l.map Output.e)=l.map Output.e:=k7 (fun x=>by simp[Output.bS]) l
structure cS where
 clock:List Int
 random:List Int
 dp:List (List Int)
 files:bJ
 dG:List Output
 deriving DecidableEq,Inhabited
def cS.e(x:cS):V:= .agg [.sl false (x.clock.map (V.int .u16)),.sl false (x.random.map (V.int .u16)),.sl false (x.dp.map aV),.sl false (x.files.data.map bw),.sl false (x.files.opens.map fO.e),.sl false (x.dG.map Output.e)]
def cS.bS(x:cS):x.e= .agg [.sl false (x.clock.map (V.int .u16)),.sl false (x.random.map (V.int .u16)),.sl false (x.dp.map aV),.sl false (x.files.data.map bw),.sl false (x.files.opens.map fO.e),.sl false (x.dG.map Output.e)]:=(rfl)
def cS.eq_iff(x y:cS):x=y↔x.clock=y.clock/\x.random=y.random/\x.dp=y.dp/\x.files=y.files/\x.dG=y.dG:=by cases x;cases y;simp
@[simp]def cS.je(x:cS):x.e.cells=[.sl false (x.clock.map (V.int .u16)),.sl false (x.random.map (V.int .u16)),.sl false (x.dp.map aV),.sl false (x.files.data.map bw),.sl false (x.files.opens.map fO.e),.sl false (x.dG.map Output.e)]:=(rfl)
structure Entry where
 kind:Int
 dd:Int
 n:Int
 request:Request
 result:lL
 deriving DecidableEq,Inhabited
def Entry.e(x:Entry):V:= .agg [.int .i64 x.kind,.int .i64 x.dd,.int .i64 x.n,.int .i64 x.request.dd,.int .i64 x.request.stop,.int .i64 x.request.dn,.int .i64 x.request.count,.int .i64 x.request.pc,.int .i64 x.request.call,.sl false (x.request.args.map Canon.e),.sl false (x.request.data.map Canon.e),.int .u8 x.result.value.tag,.int .u16 x.result.value.val,.int .i64 x.result.value.region,.int .i64 x.result.value.offset,.sl false (x.result.data.map Canon.e),.int .i64 x.result.spawn,.bool x.result.wait]
def Entry.bS(x:Entry):x.e= .agg [.int .i64 x.kind,.int .i64 x.dd,.int .i64 x.n,.int .i64 x.request.dd,.int .i64 x.request.stop,.int .i64 x.request.dn,.int .i64 x.request.count,.int .i64 x.request.pc,.int .i64 x.request.call,.sl false (x.request.args.map Canon.e),.sl false (x.request.data.map Canon.e),.int .u8 x.result.value.tag,.int .u16 x.result.value.val,.int .i64 x.result.value.region,.int .i64 x.result.value.offset,.sl false (x.result.data.map Canon.e),.int .i64 x.result.spawn,.bool x.result.wait]:=(rfl)
def Entry.eq_iff(x y:Entry):x=y↔x.kind=y.kind/\x.dd=y.dd/\x.n=y.n/\x.request=y.request/\x.result=y.result:=by cases x;cases y;simp
@[simp]def Entry.je(x:Entry):x.e.cells=[.int .i64 x.kind,.int .i64 x.dd,.int .i64 x.n,.int .i64 x.request.dd,.int .i64 x.request.stop,.int .i64 x.request.dn,.int .i64 x.request.count,.int .i64 x.request.pc,.int .i64 x.request.call,.sl false (x.request.args.map Canon.e),.sl false (x.request.data.map Canon.e),.int .u8 x.result.value.tag,.int .u16 x.result.value.val,.int .i64 x.result.value.region,.int .i64 x.result.value.offset,.sl false (x.result.data.map Canon.e),.int .i64 x.result.spawn,.bool x.result.wait]:=(rfl)
@[simp]def ar7(l:List Entry):eV (l.map Entry.e)=l.map Entry.e:=k7 (fun x=>by simp[Entry.bS]) l
structure Choice where
 dd:Int
 fQ:Int
 CD:Bool
 deriving DecidableEq,Inhabited
def Choice.e(x:Choice):V:= .agg [.int .i64 x.dd,.int .i64 x.fQ,.bool x.CD]
def Choice.bS(x:Choice):x.e= .agg [.int .i64 x.dd,.int .i64 x.fQ,.bool x.CD]:=(rfl)
def Choice.eq_iff(x y:Choice):x=y↔x.dd=y.dd/\x.fQ=y.fQ/\x.CD=y.CD:=by cases x;cases y;simp
@[simp]def Choice.je(x:Choice):x.e.cells=[.int .i64 x.dd,.int .i64 x.fQ,.bool x.CD]:=(rfl)
structure uL where
 program:Prog
 machine:aO
 outside:cS
 v8:bX
 record:List Entry
 xE:List Int
 deriving DecidableEq,Inhabited
def uL.e(x:uL):V:= .agg [.sl false (x.program.code.map Instr.e),.sl false (x.program.an.map (V.int .i64)),.sl false (x.program.data.map aV),.sl false (x.machine.layout.aD.map (V.int .i64)),.int .u16 x.machine.layout.key,.sl false (x.machine.memory.cells.map Cell.e),.sl false (x.machine.memory.lines.map cy.e),.sl false (x.machine.threads.map Thread.e),.sl false (x.outside.clock.map (V.int .u16)),.sl false (x.outside.random.map (V.int .u16)),.sl false (x.outside.dp.map aV),.sl false (x.outside.files.data.map bw),.sl false (x.outside.files.opens.map fO.e),.sl false (x.outside.dG.map Output.e),.sl false (x.v8.owner.map (V.int .i64)),.sl false (x.v8.queue.map dc),.sl false (x.record.map Entry.e),.sl false (x.xE.map (V.int .i64))]
def uL.bS(x:uL):x.e= .agg [.sl false (x.program.code.map Instr.e),.sl false (x.program.an.map (V.int .i64)),.sl false (x.program.data.map aV),.sl false (x.machine.layout.aD.map (V.int .i64)),.int .u16 x.machine.layout.key,.sl false (x.machine.memory.cells.map Cell.e),.sl false (x.machine.memory.lines.map cy.e),.sl false (x.machine.threads.map Thread.e),.sl false (x.outside.clock.map (V.int .u16)),.sl false (x.outside.random.map (V.int .u16)),.sl false (x.outside.dp.map aV),.sl false (x.outside.files.data.map bw),.sl false (x.outside.files.opens.map fO.e),.sl false (x.outside.dG.map Output.e),.sl false (x.v8.owner.map (V.int .i64)),.sl false (x.v8.queue.map dc),.sl false (x.record.map Entry.e),.sl false (x.xE.map (V.int .i64))]:=(rfl)
def uL.eq_iff(x y:uL):x=y↔x.program=y.program/\x.machine=y.machine/\x.outside=y.outside/\x.v8=y.v8/\x.record=y.record/\x.xE=y.xE:=by cases x;cases y;simp
@[simp]def uL.je(x:uL):x.e.cells=[.sl false (x.program.code.map Instr.e),.sl false (x.program.an.map (V.int .i64)),.sl false (x.program.data.map aV),.sl false (x.machine.layout.aD.map (V.int .i64)),.int .u16 x.machine.layout.key,.sl false (x.machine.memory.cells.map Cell.e),.sl false (x.machine.memory.lines.map cy.e),.sl false (x.machine.threads.map Thread.e),.sl false (x.outside.clock.map (V.int .u16)),.sl false (x.outside.random.map (V.int .u16)),.sl false (x.outside.dp.map aV),.sl false (x.outside.files.data.map bw),.sl false (x.outside.files.opens.map fO.e),.sl false (x.outside.dG.map Output.e),.sl false (x.v8.owner.map (V.int .i64)),.sl false (x.v8.queue.map dc),.sl false (x.record.map Entry.e),.sl false (x.xE.map (V.int .i64))]:=(rfl)
structure dF where
 time:Int
 dP:Int
 kind:Int
 dd:Int
 tZ:Int
 bit:Int
 deriving DecidableEq,Inhabited
def dF.e(x:dF):V:= .agg [.int .i64 x.time,.int .i64 x.dP,.int .i64 x.kind,.int .i64 x.dd,.int .i64 x.tZ,.int .i64 x.bit]
def dF.bS(x:dF):x.e= .agg [.int .i64 x.time,.int .i64 x.dP,.int .i64 x.kind,.int .i64 x.dd,.int .i64 x.tZ,.int .i64 x.bit]:=(rfl)
def dF.eq_iff(x y:dF):x=y↔x.time=y.time/\x.dP=y.dP/\x.kind=y.kind/\x.dd=y.dd/\x.tZ=y.tZ/\x.bit=y.bit:=by cases x;cases y;simp
@[simp]def dF.je(x:dF):x.e.cells=[.int .i64 x.time,.int .i64 x.dP,.int .i64 x.kind,.int .i64 x.dd,.int .i64 x.tZ,.int .i64 x.bit]:=(rfl)
@[simp]def ar8(l:List dF):eV (l.map dF.e)=l.map dF.e:=k7 (fun x=>by simp[dF.bS]) l
structure Reader where
 b:List Int
 short:Bool
 deriving DecidableEq,Inhabited
def Reader.e(x:Reader):V:= .agg [.sl false (x.b.map (V.int .u8)),.bool x.short]
instance:Coe Int V:=⟨V.int .i64⟩
instance:Coe Bool V:=⟨V.bool⟩
instance:Coe (List Int) V:=⟨fun x=> .sl false (x.map (V.int .i64))⟩
instance:Coe (List Instr) V:=⟨fun x=> .sl false (x.map Instr.e)⟩
instance:Coe (List Cell) V:=⟨fun x=> .sl false (x.map Cell.e)⟩
instance:Coe (List Thread) V:=⟨fun x=> .sl false (x.map Thread.e)⟩
instance:Coe (List Canon) V:=⟨fun x=> .sl false (x.map Canon.e)⟩
instance:Coe (List Output) V:=⟨fun x=> .sl false (x.map Output.e)⟩
instance:Coe (List View) V:=⟨fun x=> .sl false (x.map View.e)⟩
instance:Coe (List Entry) V:=⟨fun x=> .sl false (x.map Entry.e)⟩
instance:Coe (List cy) V:=⟨fun x=> .sl false (x.map cy.e)⟩
instance:Coe (List fO) V:=⟨fun x=> .sl false (x.map fO.e)⟩
instance:Coe (List (List Int)) V:=⟨fun x=> .sl false (x.map aV)⟩
instance:Coe (List (List Canon)) V:=⟨fun x=> .sl false (x.map bw)⟩
inductive Qf where|KKK(x:aO)|KKQ(a0:List Instr)(a1:List Int)(a2:List (List Int))|KKJ(a0:List Instr)(a1:List Int)(a2:List (List Int))(a3:List Int)(a4:Int)(a5:List Cell)(a6:List cy)(a7:List Thread)(a8:List Int)(a9:List Int)(a10:List (List Int))(a11:List (List Canon))(a12:List fO)(a13:List Output)(a14:List Int)(a15:List (List Int))(a16:List Entry)(a17:List Int)|KKX(x:uL)|KKY(a0:List Int)(a1:Int)(a2:List Cell)(a3:List cy)(a4:List Thread)|KKZ(a0:Int)(a1:Int)(a2:Int)(a3:Int)(a4:Int)(a5:Int)(a6:List Canon)(a7:List Canon)|KKW(x:Request)|KKU(a0:Int)(a1:Int)(a2:Int)(a3:Int)(a4:Int)|KKa(a0:List Int)(a1:Int)|KKb(a0:Int)(a1:Int)(a2:Int)(a3:Int)(a4:List Canon)(a5:Int)(a6:Bool)|KKc(a0:List Int)(a1:Int)|KKd(a0:Int)(a1:V)(a2:Int)(a3:Int)(a4:Int)(a5:Int)(a6:Int)(a7:Int)|KKe(x:Thread)|KKf(x:Cell)|KKg(a0:Int)(a1:List Cell)(a2:Int)(a3:Int)(a4:Int)(a5:Int)(a6:Int)(a7:Int)|KKh(x:cS)|KKi(x:Entry)|KKj(a0:List (List Canon))(a1:List fO)|KKk(x:Prog)|KKl(x:lL)|KKm(a0:Int)(a1:Int)(a2:Int)(a3:Int)(a4:Int)(a5:Int)(a6:Int)(a7:Int)(a8:Int)(a9:List Canon)(a10:List Canon)(a11:Int)(a12:Int)(a13:Int)(a14:Int)(a15:List Canon)(a16:Int)(a17:Bool)|KKn(a0:List Int)(a1:List Int)(a2:List (List Int))(a3:List (List Canon))(a4:List fO)(a5:List Output)|KKo(a0:Int)(a1:Int)|KKp(a0:List Cell)(a1:List cy)|KKq(x:bX)|KKr(x:Canon)|KKs(x:bJ)|KKt(a0:Int)(a1:Bool)(a2:V)|KKu(x:Instr)|KKv(a0:List Int)(a1:List (List Int))|KKw(a0:List (List Canon))(a1:List View)|KKx(a0:Int)(a1:Int)(a2:Int)(a3:Int)|KKy(x:BC)|KKz(x:aF)|KKA(x:Layout)|KKB(a0:Int)(a1:Int)|KKC(a0:List Int)(a1:Int)(a2:V)(a3:List cy)(a4:V)|KKD(a0:V)(a1:Int)(a2:V)(a3:V)(a4:V)
open Qf
variable  {α β:Type}{Q:Ex->St->Prop}{b:Code}{S:St}
instance(x:aO):CoeDep Qf (KKK x) V:=⟨.agg [.sl false (x.layout.aD.map (V.int .i64)),.int .u16 x.layout.key,.sl false (x.memory.cells.map Cell.e),.sl false (x.memory.lines.map cy.e),.sl false (x.threads.map Thread.e)]⟩
instance(a0:List Instr)(a1:List Int)(a2:List (List Int)):CoeDep Qf (KKQ a0 a1 a2) V:=⟨.agg [.sl false (a0.map Instr.e),.sl false (a1.map (V.int .i64)),.sl false (a2.map aV)]⟩
instance(a0:List Instr)(a1:List Int)(a2:List (List Int))(a3:List Int)(a4:Int)(a5:List Cell)(a6:List cy)(a7:List Thread)(a8:List Int)(a9:List Int)(a10:List (List Int))(a11:List (List Canon))(a12:List fO)(a13:List Output)(a14:List Int)(a15:List (List Int))(a16:List Entry)(a17:List Int):CoeDep Qf (KKJ a0 a1 a2 a3 a4 a5 a6 a7 a8 a9 a10 a11 a12 a13 a14 a15 a16 a17) V:=⟨.agg [.sl false (a0.map Instr.e),.sl false (a1.map (V.int .i64)),.sl false (a2.map aV),.sl false (a3.map (V.int .i64)),.int .u16 a4,.sl false (a5.map Cell.e),.sl false (a6.map cy.e),.sl false (a7.map Thread.e),.sl false (a8.map (V.int .u16)),.sl false (a9.map (V.int .u16)),.sl false (a10.map aV),.sl false (a11.map bw),.sl false (a12.map fO.e),.sl false (a13.map Output.e),.sl false (a14.map (V.int .i64)),.sl false (a15.map dc),.sl false (a16.map Entry.e),.sl false (a17.map (V.int .i64))]⟩
instance(x:uL):CoeDep Qf (KKX x) V:=⟨.agg [.sl false (x.program.code.map Instr.e),.sl false (x.program.an.map (V.int .i64)),.sl false (x.program.data.map aV),.sl false (x.machine.layout.aD.map (V.int .i64)),.int .u16 x.machine.layout.key,.sl false (x.machine.memory.cells.map Cell.e),.sl false (x.machine.memory.lines.map cy.e),.sl false (x.machine.threads.map Thread.e),.sl false (x.outside.clock.map (V.int .u16)),.sl false (x.outside.random.map (V.int .u16)),.sl false (x.outside.dp.map aV),.sl false (x.outside.files.data.map bw),.sl false (x.outside.files.opens.map fO.e),.sl false (x.outside.dG.map Output.e),.sl false (x.v8.owner.map (V.int .i64)),.sl false (x.v8.queue.map dc),.sl false (x.record.map Entry.e),.sl false (x.xE.map (V.int .i64))]⟩
instance(a0:List Int)(a1:Int)(a2:List Cell)(a3:List cy)(a4:List Thread):CoeDep Qf (KKY a0 a1 a2 a3 a4) V:=⟨.agg [.sl false (a0.map (V.int .i64)),.int .u16 a1,.sl false (a2.map Cell.e),.sl false (a3.map cy.e),.sl false (a4.map Thread.e)]⟩
instance(a0:Int)(a1:Int)(a2:Int)(a3:Int)(a4:Int)(a5:Int)(a6:List Canon)(a7:List Canon):CoeDep Qf (KKZ a0 a1 a2 a3 a4 a5 a6 a7) V:=⟨.agg [.int .i64 a0,.int .i64 a1,.int .i64 a2,.int .i64 a3,.int .i64 a4,.int .i64 a5,.sl false (a6.map Canon.e),.sl false (a7.map Canon.e)]⟩
instance(x:Request):CoeDep Qf (KKW x) V:=⟨.agg [.int .i64 x.dd,.int .i64 x.stop,.int .i64 x.dn,.int .i64 x.count,.int .i64 x.pc,.int .i64 x.call,.sl false (x.args.map Canon.e),.sl false (x.data.map Canon.e)]⟩
instance(a0:Int)(a1:Int)(a2:Int)(a3:Int)(a4:Int):CoeDep Qf (KKU a0 a1 a2 a3 a4) V:=⟨.agg [.int .i64 a0,.int .i64 a1,.int .i64 a2,.int .i64 a3,.int .i64 a4]⟩
instance(a0:List Int)(a1:Int):CoeDep Qf (KKa a0 a1) V:=⟨.agg [.sl false (a0.map (V.int .i64)),.int .i64 a1]⟩
instance(a0:Int)(a1:Int)(a2:Int)(a3:Int)(a4:List Canon)(a5:Int)(a6:Bool):CoeDep Qf (KKb a0 a1 a2 a3 a4 a5 a6) V:=⟨.agg [.int .u8 a0,.int .u16 a1,.int .i64 a2,.int .i64 a3,.sl false (a4.map Canon.e),.int .i64 a5,.bool a6]⟩
instance(a0:List Int)(a1:Int):CoeDep Qf (KKc a0 a1) V:=⟨.agg [.sl false (a0.map (V.int .i64)),.int .u16 a1]⟩
instance(a0:Int)(a1:V)(a2:Int)(a3:Int)(a4:Int)(a5:Int)(a6:Int)(a7:Int):CoeDep Qf (KKd a0 a1 a2 a3 a4 a5 a6 a7) V:=⟨.agg [.int .i64 a0,a1,.int .i64 a2,.int .i64 a3,.int .i64 a4,.int .i64 a5,.int .i64 a6,.int .u16 a7]⟩
instance(x:Thread):CoeDep Qf (KKe x) V:=⟨.agg [.int .i64 x.state,.sl false (x.bz.map Cell.e),.int .i64 x.pc,.int .i64 x.count,.int .i64 x.cn,.int .i64 x.saved,.int .i64 x.dn,.int .u16 x.code]⟩
instance(x:Cell):CoeDep Qf (KKf x) V:=⟨.agg [.int .u8 x.tag,.int .u16 x.val]⟩
instance(a0:Int)(a1:List Cell)(a2:Int)(a3:Int)(a4:Int)(a5:Int)(a6:Int)(a7:Int):CoeDep Qf (KKg a0 a1 a2 a3 a4 a5 a6 a7) V:=⟨.agg [.int .i64 a0,.sl false (a1.map Cell.e),.int .i64 a2,.int .i64 a3,.int .i64 a4,.int .i64 a5,.int .i64 a6,.int .u16 a7]⟩
instance(x:cS):CoeDep Qf (KKh x) V:=⟨.agg [.sl false (x.clock.map (V.int .u16)),.sl false (x.random.map (V.int .u16)),.sl false (x.dp.map aV),.sl false (x.files.data.map bw),.sl false (x.files.opens.map fO.e),.sl false (x.dG.map Output.e)]⟩
instance(x:Entry):CoeDep Qf (KKi x) V:=⟨.agg [.int .i64 x.kind,.int .i64 x.dd,.int .i64 x.n,.int .i64 x.request.dd,.int .i64 x.request.stop,.int .i64 x.request.dn,.int .i64 x.request.count,.int .i64 x.request.pc,.int .i64 x.request.call,.sl false (x.request.args.map Canon.e),.sl false (x.request.data.map Canon.e),.int .u8 x.result.value.tag,.int .u16 x.result.value.val,.int .i64 x.result.value.region,.int .i64 x.result.value.offset,.sl false (x.result.data.map Canon.e),.int .i64 x.result.spawn,.bool x.result.wait]⟩
instance(a0:List (List Canon))(a1:List fO):CoeDep Qf (KKj a0 a1) V:=⟨.agg [.sl false (a0.map bw),.sl false (a1.map fO.e)]⟩
instance(x:Prog):CoeDep Qf (KKk x) V:=⟨.agg [.sl false (x.code.map Instr.e),.sl false (x.an.map (V.int .i64)),.sl false (x.data.map aV)]⟩
instance(x:lL):CoeDep Qf (KKl x) V:=⟨.agg [.int .u8 x.value.tag,.int .u16 x.value.val,.int .i64 x.value.region,.int .i64 x.value.offset,.sl false (x.data.map Canon.e),.int .i64 x.spawn,.bool x.wait]⟩
instance(a0:Int)(a1:Int)(a2:Int)(a3:Int)(a4:Int)(a5:Int)(a6:Int)(a7:Int)(a8:Int)(a9:List Canon)(a10:List Canon)(a11:Int)(a12:Int)(a13:Int)(a14:Int)(a15:List Canon)(a16:Int)(a17:Bool):CoeDep Qf (KKm a0 a1 a2 a3 a4 a5 a6 a7 a8 a9 a10 a11 a12 a13 a14 a15 a16 a17) V:=⟨.agg [.int .i64 a0,.int .i64 a1,.int .i64 a2,.int .i64 a3,.int .i64 a4,.int .i64 a5,.int .i64 a6,.int .i64 a7,.int .i64 a8,.sl false (a9.map Canon.e),.sl false (a10.map Canon.e),.int .u8 a11,.int .u16 a12,.int .i64 a13,.int .i64 a14,.sl false (a15.map Canon.e),.int .i64 a16,.bool a17]⟩
instance(a0:List Int)(a1:List Int)(a2:List (List Int))(a3:List (List Canon))(a4:List fO)(a5:List Output):CoeDep Qf (KKn a0 a1 a2 a3 a4 a5) V:=⟨.agg [.sl false (a0.map (V.int .u16)),.sl false (a1.map (V.int .u16)),.sl false (a2.map aV),.sl false (a3.map bw),.sl false (a4.map fO.e),.sl false (a5.map Output.e)]⟩
instance(a0:Int)(a1:Int):CoeDep Qf (KKo a0 a1) V:=⟨.agg [.int .u8 a0,.int .u16 a1]⟩
instance(a0:List Cell)(a1:List cy):CoeDep Qf (KKp a0 a1) V:=⟨.agg [.sl false (a0.map Cell.e),.sl false (a1.map cy.e)]⟩
instance(x:bX):CoeDep Qf (KKq x) V:=⟨.agg [.sl false (x.owner.map (V.int .i64)),.sl false (x.queue.map dc)]⟩
instance(x:Canon):CoeDep Qf (KKr x) V:=⟨.agg [.int .u8 x.tag,.int .u16 x.val,.int .i64 x.region,.int .i64 x.offset]⟩
instance(x:bJ):CoeDep Qf (KKs x) V:=⟨.agg [.sl false (x.data.map bw),.sl false (x.opens.map fO.e)]⟩
instance(a0:Int)(a1:Bool)(a2:V):CoeDep Qf (KKt a0 a1 a2) V:=⟨.agg [.int .i64 a0,.bool a1,a2]⟩
instance(x:Instr):CoeDep Qf (KKu x) V:=⟨.agg [.int .i64 x.op,.int .i64 x.a,.int .i64 x.b,.int .i64 x.c,.int .i64 x.ed]⟩
instance(a0:List Int)(a1:List (List Int)):CoeDep Qf (KKv a0 a1) V:=⟨.agg [.sl false (a0.map (V.int .i64)),.sl false (a1.map dc)]⟩
instance(a0:List (List Canon))(a1:List View):CoeDep Qf (KKw a0 a1) V:=⟨.agg [.sl false (a0.map bw),.sl false (a1.map View.e)]⟩
instance(a0:Int)(a1:Int)(a2:Int)(a3:Int):CoeDep Qf (KKx a0 a1 a2 a3) V:=⟨.agg [.int .u8 a0,.int .u16 a1,.int .i64 a2,.int .i64 a3]⟩
instance(x:BC):CoeDep Qf (KKy x) V:=⟨.agg [.int .i64 x.region,.int .i64 x.offset]⟩
instance(x:aF):CoeDep Qf (KKz x) V:=⟨.agg [.sl false (x.cells.map Cell.e),.sl false (x.lines.map cy.e)]⟩
instance(x:Layout):CoeDep Qf (KKA x) V:=⟨.agg [.sl false (x.aD.map (V.int .i64)),.int .u16 x.key]⟩
instance(a0:Int)(a1:Int):CoeDep Qf (KKB a0 a1) V:=⟨.agg [.int .i64 a0,.int .i64 a1]⟩
instance(a0:List Int)(a1:Int)(a2:V)(a3:List cy)(a4:V):CoeDep Qf (KKC a0 a1 a2 a3 a4) V:=⟨.agg [.sl false (a0.map (V.int .i64)),.int .u16 a1,a2,.sl false (a3.map cy.e),a4]⟩
instance(a0:V)(a1:Int)(a2:V)(a3:V)(a4:V):CoeDep Qf (KKD a0 a1 a2 a3 a4) V:=⟨.agg [a0,.int .u16 a1,a2,a3,a4]⟩
def Reader.bS(x:Reader):x.e= .agg [.sl false (x.b.map (V.int .u8)),.bool x.short]:=(rfl)
def Reader.eq_iff(x y:Reader):x=y↔x.b=y.b/\x.short=y.short:=by cases x;cases y;simp
@[simp]def Reader.je(x:Reader):x.e.cells=[.sl false (x.b.map (V.int .u8)),.bool x.short]:=(rfl)
end Go.Abs.kX
namespace Go.Proofs.YtdngefmliibcgaaGreat
open Go Go.Abs Go.Abs.kX Qf
variable  {α β:Type}{Q:Ex->St->Prop}{b:Code}{S:St}
def wrap_i64{n:Int}(h: -9223372036854775808<=n/\n<=9223372036854775807):IntKind.i64.wrap n=n:=by
 simp only[IntKind.wrap,IntKind.signed,IntKind.bits,adX];split<;>rename_i hc<;>simp at hc<;>omega
def nd(i:Nat)(h:(i:Int)+1<=9223372036854775807):IntKind.i64.wrap ((i:Int)+1)=(i:Int)+1:=wrap_i64 (by omega)
def cZ {X:Env} {f:FuncId}    (Inv:Nat->St->Prop) (N:Nat) (hN:N<=4611686018427387904) (step: ∀i S,(i<=N/\IntKind.i64.wrap ((i:Int)+1)=(i:Int)+1/\i<N)->Inv i S->Wp X f b S (Jg X f (2*jb b+1) Inv i N Q))
  (last: ∀S,Inv N S->Wp X f b S (Jg X f (2*jb b+1) Inv N N Q)) (h0:mq (Go.Abs.mark (oR X f (2*jb b+1) S)) (Inv 0)):Wp X f (.loop b) S Q:=
 lS Inv N (fun i S hi h=>by
  rcases aaR i N with g|g
  ·exact step i S ⟨hi,nd i (by omega),g⟩ h
  ·cases Nat.le_antisymm hi g;exact last S h) 0 (ae4 _) h0
def BD{a b:List α}{i:Nat}(h1:i<a.length)(h2:i<b.length)(h:a.take i=b.take i)(he:a[i]=b[i]):a.take (i+1)=b.take (i+1):=by
 rw[acW,acW,h];simp[h1,h2,he]
def yw{a b:List α}{i:Nat}(h1: ¬i<a.length)(h2:a.length=b.length)(h:a.take i=b.take i):a=b:=by
 rwa[aZ (by omega),aZ (by omega)]at h
def fD{a:List α}{i:Nat}(h:i<a.length):a.take (i+1)=a.take i++ [a[i]]:=by
 rw[acW];simp[h]
@[simp]def ai8(f:α->β)(l:List α):(l.map f).take l.length=l.map f:=by rw[<-List.length_map (f:=f),abi]
def vk{p:α->Bool}{l:List α}{i:Nat}(h:i<l.length)(hp:p l[i]=false):l.all p=false:=by
 rw[<-Bool.not_eq_true,aaP];intro m8;have:=m8 _ (aaL h);rw[hp]at this;cases this
def vn{p:α->Bool}{l:List α}{i:Nat}(h:i<l.length):(l.take (i+1)).all p=((l.take i).all p&&p l[i]):=by
 rw[fD h,aeR];simp
noncomputable def aop(X:Env)(fx:FuncId)(v:V)(d:Option Nat)(args:List V)(S:St):Option St:=match v with
 | .fn g first EL=>gU X (cL X) fx d g (first++args++EL) S
 |_=>none
@[simp]def ay6(X:Env)(fx g:FuncId)(a b:List V)(d:Option Nat)(args:List V)(S:St):aop X fx (.fn g a b) d args S=gU X (cL X) fx d g (a++args++b) S:=(rfl)
section
variable {X:Env} {fx:FuncId} {da:List (Option Nat)} {n0 kk n:Nat} {r:List Oper} {ff:Nat->V} {hp:bh} {K:St->Prop} {d:Nat} {ty:TypeId} {ps:String} {af:Array Edge}
@[simp ↓] theorem avn(d:Option Nat)(t:Nat)(args:Array Operand)(mM:Array TypeId):iO X fx da n0 kk (⟨d,.call ⟨.value (.tmp t),args,mM⟩,ty,ps,af,none⟩::r) ⟨ff,hp,n⟩ K=
  mq (Go.Abs.mark (aop X fx (ff t) d (args.toList.map (nF ff)) ⟨ff,hp,n⟩)) fun S1=>iO X fx da n0 (kk+1) r ⟨S1.f,S1.h,S1.n⟩ K:=by
 rw[v7,show nF ff=(⟨ff,hp,n⟩:St).ev from KA ⟨ff,hp,n⟩];show mq (match(⟨ff,hp,n⟩:St).ev (.tmp t) with
  | .fn g first EL=>gU X (cL X) fx d g (first++args.toList.map (⟨ff,hp,n⟩:St).ev++EL) ⟨ff,hp,n⟩
  |_=>none) _=_
 rfl
end
@[simp ↓] theorem ai9(X:Env)(bY:FuncId)(d:Nat)(t:TypeId)(a ix:Operand)(ty:TypeId)(ps:String)(af:Array Edge)(g:Option (Nat×Bool))(S1 T:St)(m:Nat):rdP X bY (some ⟨some d,.indexAddr t a ix,ty,ps,af,g⟩) S1 T m=
  ∃v,(match nF S1.f ix with
  | .int _ n=>match nF S1.f a with
   | .sl _ es=>if(0<=n/\n<es.length)/\(X.ti t).arr=none then(match es[n.toNat]? with|some e=>if e.cells.length=(X.ti (X.ti t).elem).size then some ((.ref e.cells),T.h,m) else none|none=>none) else none
   | .cu id s l=>if(0<=n/\n<l)/\(X.ti t).arr=none then(match T.h id with|some ob=>if ob.k=(X.ti (X.ti t).elem).size then some ((.ptr id (s+n.toNat) 0),T.h,m) else none|none=>none) else none
   | .ptr id j f=>match(X.ti t).arr with
    |some k=>if 0<=n/\n<k then some ((.ptr id j (f+n.toNat*(X.ti (X.ti t).elem).size)),T.h,m) else none
    |none=>none
   |_=>none
  |_=>none)=some (v,T.h,m)/\S1.f d=v:=by
 unfold rdP;rw[KA];apply propext;constructor
 ·rintro⟨o,v,h,h1,h2⟩;simp only[aA]at h;subst h;exact⟨v,h1,h2 d rfl⟩
 ·rintro⟨v,h1,h2⟩;refine⟨_,v,rfl,h1,fun d' h=> ?_⟩;simp only[aA]at h;subst h;exact h2
@[simp ↓] theorem ay7(X:Env)(bY:FuncId)(d:Nat)(t':TypeId)(x':Operand)(Qe oE Zo:Option Operand)(ty:TypeId)(ps:String)(af:Array Edge)(g:Option (Nat×Bool))(S1 T:St)(m:Nat):rdP X bY (some ⟨some d,.slice t' x' Qe oE Zo,ty,ps,af,g⟩) S1 T m=
  ∃v,(if((nF S1.f) x').isStr=(X.ti t').isStr/\((nF S1.f) x').Bk=(X.ti t').arr.isSome then
   match(nF S1.f) x' with
   | .sl _ es=>
    if es.all (fun e=>e.cells.length==(X.ti (X.ti t').elem).size) then
     match Zo with
     |none=>match bounds (Qe.map (nF S1.f)) (oE.map (nF S1.f)) es.length with|some (l,h)=>some ((.sl false ((es.take h).drop l)),T.h,m)|none=>none
     |some mm=>match(nF S1.f) mm,oE.map (nF S1.f) with
      | .int _ p,some (.int _ q)=>if p=q then(match bounds (Qe.map (nF S1.f)) (oE.map (nF S1.f)) es.length with|some (l,h)=>some ((.sl true ((es.take h).drop l)),T.h,m)|none=>none) else none
      |_,_=>none
    else none
   | .cu id s n=>
    match Zo,T.h id with
    |none,some ob=>if ob.k=(X.ti (X.ti t').elem).size then(match bounds (Qe.map (nF S1.f)) (oE.map (nF S1.f)) n with|some (l,h)=>some ((.cu id (s+l) (h-l)),T.h,m)|none=>none) else none
    |some mm,some ob=>if ob.k=(X.ti (X.ti t').elem).size then(match(nF S1.f) mm,oE.map (nF S1.f) with
      | .int _ p,some (.int _ q)=>if p=q then(match bounds (Qe.map (nF S1.f)) (oE.map (nF S1.f)) n with|some (l,h)=>some ((.cu id (s+l) (h-l)),T.h,m)|none=>none) else none
      |_,_=>none) else none
    |_,none=>none
   | .str s=>match Zo with
    |none=>match bounds (Qe.map (nF S1.f)) (oE.map (nF S1.f)) s.length with|some (l,h)=>some ((.str ((s.take h).drop l)),T.h,m)|none=>none
    |some _=>none
   | .ptr id 0 0=>match Zo,Qe,oE,(X.ti t').arr,T.h id with
    |none,none,none,some mm,some ob=>match ob.es with
     | [e]=>if e.cells.all V.oX=true/\e.cells.length=mm/\(X.ti (X.ti t').elem).size=1/\0<mm then some (.sl true e.cells,aR T.h id none,m) else none
     |_=>none
    |_,_,_,_,_=>none
   |_=>none
  else none)=some (v,T.h,m)/\S1.f d=v:=by
 unfold rdP;rw[KA];apply propext;constructor
 ·rintro⟨o,v,h,h1,h2⟩;simp only[aA]at h;subst h;exact⟨v,h1,h2 d rfl⟩
 ·rintro⟨v,h1,h2⟩;refine⟨_,v,rfl,h1,fun d' h=> ?_⟩;simp only[aA]at h;subst h;exact h2
def Tb(X:Env)(f:FuncId)(b:Code)(Q:Ex->St->Prop):Ex->St->Prop
 | .normal,S=>Wp X f (.loop b) S Q
 |e,S=>Q e S
@[simp ↓] theorem aja(X:Env)(f:FuncId)(b:Code)(Q:Ex->St->Prop)(S:St):Tb X f b Q .normal S=Wp X f (.loop b) S Q:=(rfl)
@[simp ↓] theorem ar9(X:Env)(f:FuncId)(b:Code)(Q:Ex->St->Prop)(S:St)(i:Nat):Tb X f b Q (.exit i) S=Q (.exit i) S:=(rfl)
@[simp ↓] theorem avo(X:Env)(f:FuncId)(b:Code)(Q:Ex->St->Prop)(S:St):Tb X f b Q .ret S=Q .ret S:=(rfl)
def dO{X:Env}{f:FuncId}:Wp X f (.loop b) S Q=mq (Go.Abs.mark (oR X f (2*jb b+1) S)) fun S1=>Wp X f b S1 (Tb X f b Q):=by
 unfold Wp Go.Abs.mark;rw[Ky];cases hn:oR X f (2*jb b+1) S with
 |none=>simp[mq]
 |some S1=>
  simp only[mq];apply propext;constructor
  ·rintro⟨e,S2,h,hq⟩;cases hb:ev X f b S1 with
   |none=>rw[hb]at h;cases h
   |some x=>
    obtain⟨e3,S3⟩:=x;rw[hb]at h;refine⟨e3,S3,rfl,?_⟩;cases e3 with
    |normal=>exact⟨e,S2,h,hq⟩
    |exit i=>
     simp only[aA,bM]at h;obtain⟨rfl,rfl⟩:=h;exact hq
    |ret=>
     simp only[aA,bM]at h;obtain⟨rfl,rfl⟩:=h;exact hq
  ·rintro⟨e,S2,h,hq⟩;rw[h];cases e with
   |normal=>
    obtain⟨e3,S3,h3,hq3⟩:=hq;exact⟨e3,S3,h3,hq3⟩
   |exit i=>exact⟨_,_,rfl,hq⟩
   |ret=>exact⟨_,_,rfl,hq⟩
def v9{v n:Int}(h:0<n):v % n=if v.tmod n<0 then v.tmod n+n else v.tmod n:=by
 have h1:=acD v (show n≠0 by omega);have h2:=abW v h;rcases Int.lt_or_le v 0 with hv|hv
 ·have e:=Int.tmod_eq_emod (a:=v) (b:=n);by_cases hd:n∣v
  ·have:v % n=0:=Int.emod_eq_zero_of_dvd hd;rw[if_pos (.inr hd),this]at e;rw[e,this];simp
  ·rw[if_neg (by
    rintro(h|h)
    ·omega
    ·exact hd h)]at e
   have kC:v % n≠0:=fun h=>hd (Int.dvd_of_emod_eq_zero h);rw[e,Int.natAbs_of_nonneg (by omega),if_pos (by omega)];omega
 ·rw[aaK hv,if_neg (by omega)]
def total(l:List Int):Int:=l.foldl (· + ·) 0
def ub(l:List Int)(x:Int):total (l++ [x])=total l+x:=by simp[total]
def BE(n:Int):Bool:=decide (1<=n/\n<=32)
def kF(l:List Int):Bool:=l.all BE&& (decide (1<=l.length)&&decide (l.length<=4))
def inside(an:List Int)(r o:Int):Bool:=decide (0<=r/\r<an.length/\0<=o/\o<an.getD r.toNat 0)
structure oO (l:List Int):Prop where
 elem: ∀i (h:i<l.length),1<=l[i]/\l[i]<=32
 pos:1<=l.length
 le:l.length<=4
def nP{l:List Int}:kF l=true↔oO l:=by
 unfold kF;simp only[aaF,decide_eq_true_eq,aaP];constructor
 ·rintro⟨h1,h2,h3⟩;exact⟨fun i h=>by simpa[BE] using h1 _ (aaL h),h2,h3⟩
 ·rintro⟨h1,h2,h3⟩;refine⟨fun x hx=> ?_,h2,h3⟩;obtain⟨i,h,rfl⟩:=abE hx;simpa[BE] using h1 i h
def nth(l:List Int)(i:Nat):Int:=l.getD i 0
def dC{l:List Int}{i:Nat}(h:i<l.length):nth l i=l[i]:=by simp[nth,List.getD,h]
def ud(aD an:List Int)(i:Nat):Bool:=decide (0<=nth aD i/\nth aD i<=512-nth an i)&& (List.range i).all fun j=> !(decide (nth aD j<=nth aD i+nth an i)&&decide (nth aD i<=nth aD j+nth an j))
def iX(aD an:List Int):Bool:=kF an&& (decide (aD.length=an.length)&& (List.range aD.length).all (ud aD an))
structure ov (aD an:List Int):Prop where
 sz:oO an
 len:aD.length=an.length
 base: ∀i (h:i<aD.length) (h':i<an.length),0<=aD[i]/\aD[i]<=512-an[i]
 apart: ∀i j (h:i<aD.length) (h':i<an.length) (g:j<aD.length) (g':j<an.length),i≠j->aD[i]+an[i]<aD[j]\/aD[j]+an[j]<aD[i]
def mU{aD an:List Int}:iX aD an=true↔ov aD an:=by
 unfold iX;simp only[aaF,decide_eq_true_eq,aaP,nP,aeX,ud,aaZ,acV,decide_eq_false_iff_not];constructor
 ·rintro⟨h1,h2,h3⟩;have ap: ∀i j (h:i<aD.length) (h':i<an.length) (g:j<aD.length) (g':j<an.length),j<i->aD[i]+an[i]<aD[j]\/aD[j]+an[j]<aD[i]:=by
   intro i j h h' g g' mz;have:=(h3 i h).2 j mz;rw[dC h,dC h',dC g,dC g']at this;omega
  refine⟨h1,h2,fun i h h'=> ?_,fun i j h h' g g' kC=> ?_⟩
  ·have:=(h3 i h).1;rwa[dC h,dC h']at this
  ·rcases Nat.lt_or_gt_of_ne kC with hh|hh
   ·have:=ap j i g g' h h' hh;omega
   ·exact ap i j h h' g g' hh
 ·rintro⟨h1,h2,h3,h4⟩;refine⟨h1,h2,fun i h=>⟨?_,fun j hj=> ?_⟩⟩
  ·rw[dC h,dC (h2▸h)];exact h3 i h (h2▸h)
  ·have hj1:j<aD.length:=by omega
   rw[dC h,dC (show i<an.length by omega),dC hj1,dC (show j<an.length by omega)];have:=h4 i j h (by omega) hj1 (by omega) (by omega);omega
def py:List Int->Int->Nat->BC×Int
 | [],_,_=>(⟨0,0⟩,6)
 |n::l,i,r=>if 0<=i/\i<n then(⟨r,i⟩,0) else py l (i-n) (r+1)
def rQ:List Int->List Int->Int->Nat->BC×Bool
 |b::bs,z::zs,a,r=>if b<=a/\a<b+z then(⟨r,a-b⟩,true) else rQ bs zs a (r+1)
 |_,_,_,_=>(⟨0,0⟩,false)
def resolve(aD an:List Int)(a:Int):BC×Bool:=rQ aD an a 0
def canon(aD:List Int)(key:Int)(an:List Int)(c:Cell):Canon:=
 if c.tag=0 then⟨0,c.val,0,0⟩ else if c.tag=2 then⟨2,IntKind.u16.wrap (c.val-key),0,0⟩ else
 if(resolve aD an c.val).2=true then⟨1,0,(resolve aD an c.val).1.region,(resolve aD an c.val).1.offset⟩ else⟨1,0, -1,c.val⟩
def proper(an:List Int)(x:Canon):Bool:=
 if x.tag=0\/x.tag=2 then decide (x.region=0)&&decide (x.offset=0) else if x.tag=1 then decide (x.val=0)&&inside an x.region x.offset else false
def raw(aD:List Int)(key:Int)(an:List Int)(x:Canon):Cell×Int:=
 if proper an x=false then(⟨0,0⟩,1) else if x.tag=0 then(⟨0,x.val⟩,0) else if x.tag=2 then(⟨2,IntKind.u16.wrap (x.val+key)⟩,0) else(⟨1,IntKind.u16.wrap (nth aD x.region.toNat+x.offset)⟩,0)
def drop_cons{l:List α}{i:Nat}(h:i<l.length):l.drop i=l[i]::l.drop (i+1):=acE h
def ld{an:List Int}{r o:Int}:inside an r o=true↔ ∃k,∃h:k<an.length,r=(k:Int)/\0<=o/\o<an[k]:=by
 unfold inside;simp only[decide_eq_true_eq];constructor
 ·rintro⟨h1,h2,h3,h4⟩;refine⟨r.toNat,by omega,by omega,h3,?_⟩;have:r.toNat<an.length:=by omega
  simpa[List.getD,this] using h4
 ·rintro⟨k,h,rfl,h3,h4⟩;refine⟨by omega,by omega,h3,?_⟩;simpa[List.getD,h] using h4
def FT(an:List Int)(cQ:Int)(st:List Int×Int)(k:Nat):List Int×Int:=
 (st.1.set ((k+cQ) % an.length).toNat st.2,st.2+nth an ((k+cQ) % an.length).toNat+1+cQ/ (50*an.length) % 40)
def nG(an:List Int)(cQ:Int)(k:Nat):List Int×Int:=
 (List.range k).foldl (FT an cQ) (List.replicate an.length 0,1+cQ/an.length % 50)
def fG(an:List Int)(cQ:Int):List Int:=(nG an cQ an.length).1
def iG(an:List Int)(cQ:Int)(k:Nat):nG an cQ (k+1)=FT an cQ (nG an cQ k) k:=by
 unfold nG;rw[acH,acX];rfl
@[simp]def bda:IntKind.i64.wrap 0=0:=by decide
@[simp]def bdb:IntKind.i64.wrap 1=1:=by decide
@[simp]def bdc:IntKind.i64.wrap 2=2:=by decide
@[simp]def bdd:IntKind.i64.wrap 3=3:=by decide
@[simp]def bde:IntKind.i64.wrap 4=4:=by decide
@[simp]def bdf:IntKind.i64.wrap 5=5:=by decide
@[simp]def bdg:IntKind.i64.wrap 6=6:=by decide
@[simp]def bdh:IntKind.i64.wrap 7=7:=by decide
@[simp]def bdi:IntKind.i64.wrap 8=8:=by decide
def asg{l:List α}(h:l.length=0):l=[]:=List.length_eq_zero_iff.1 h
def Rh{l:List α}(h:l.length=1): ∃a,l=[a]:=List.length_eq_one_iff.1 h
def ash{l:List α}{n:Nat}(h:l.length=n+1): ∃a r,l=a::r/\r.length=n:=by
 cases l with
 |nil=>cases h
 |cons a r=>exact⟨a,r,rfl,by simpa using h⟩
def Ri{l:List α}(h:l.length=2): ∃a b,l=[a,b]:=by
 obtain⟨a,r1,e1,h1⟩:=ash h;obtain⟨b,e2⟩:=Rh h1;exact⟨a,b,by rw[e1,e2]⟩
def Rj{l:List α}(h:l.length=3): ∃a b c,l=[a,b,c]:=by
 obtain⟨a,r1,e1,h1⟩:=ash h;obtain⟨b,c,e2⟩:=Ri h1;exact⟨a,b,c,by rw[e1,e2]⟩
def Ii{l:List α}(h:l.length=4): ∃a b c d,l=[a,b,c,d]:=by
 obtain⟨a,r1,e1,h1⟩:=ash h;obtain⟨b,c,d,e2⟩:=Rj h1;exact⟨a,b,c,d,by rw[e1,e2]⟩
def qi{α:Type}{f:α->V}{hx:bh}(h: ∀x,cx hx 12 (f x)=some (f x)): ∀l:List α,cF (l.map (cx hx 12∘f))=some (l.map f)
 | []=>rfl
 |a::l=>by simp[cF,h a,qi h l]
def qK{α:Type}{f:α->V}(h: ∀x,(f x).lM=f x): ∀l:List α,eV (l.map f)=l.map f
 | []=>rfl
 |a::l=>by simp[eV,h a,qK h l]
@[simp]def aza(hx:bh)(l:List fO):cF (l.map (cx hx 12∘fO.e))=some (l.map fO.e):=qi (fun _=>rfl) l
@[simp]def wc(l:List fO):eV (l.map fO.e)=l.map fO.e:=qK (fun _=>rfl) l
def Rk(l:List Canon):eV (l.map Canon.e)=l.map Canon.e:=qK (fun _=>rfl) l
def qj{f:α->V}{l:List α}{i:Nat}(h:i<l.length):List.take i (List.take i (l.map f))++ [f l[i]]=List.take (i+1) (l.map f):=by
 rw[List.take_take,Nat.min_self,acW];simp[h]
end Go.Proofs.YtdngefmliibcgaaGreat
