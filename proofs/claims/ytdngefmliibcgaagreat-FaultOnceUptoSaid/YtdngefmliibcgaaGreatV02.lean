/- part -/
import Derived.Test.YtdngefmliibcgaaGreatV01
import Derived.Test.YtdngefmliibcgaaGreatProg
set_option linter.all false
set_option maxRecDepth 20000
set_option maxHeartbeats 20000000
namespace Go.Proofs.YtdngefmliibcgaaGreat
open Go Go.Abs
variable  {α β:Type}{Q:Ex->St->Prop}{b:Code}{S:St}
def ti:TypeId->TI
 |3=>⟨1,8,false,.int .i64 0,0,[],none,some .i64,[0]⟩
 |4=>⟨1,1,false,.bool false,0,[],none,none,[1]⟩
 |5=>⟨1,1,false,.int .u8 0,0,[],none,some .u8,[0]⟩
 |9=>⟨1,16,false,.str [],0,[],none,none,[2]⟩
 |22=>⟨1,24,false,.sl true [],3,[],none,none,[]⟩
 |23=>⟨1,24,false,.sl true [],156,[],none,none,[]⟩
 |24=>⟨1,24,false,.sl true [],37,[],none,none,[]⟩
 |26=>⟨3,72,true,.agg [.sl true [],.sl true [],.sl true []],0,[(0,1),(1,1),(2,1)],none,none,[]⟩
 |27=>⟨1,2,false,.int .u16 0,0,[],none,some .u16,[0]⟩
 |29=>⟨2,32,true,.agg [.sl true [],.int .u16 0],0,[(0,1),(1,1)],none,none,[]⟩
 |30=>⟨1,24,false,.sl true [],120,[],none,none,[]⟩
 |31=>⟨1,24,false,.sl true [],110,[],none,none,[]⟩
 |33=>⟨2,48,true,.agg [.sl true [],.sl true []],0,[(0,1),(1,1)],none,none,[]⟩
 |34=>⟨1,24,false,.sl true [],112,[],none,none,[]⟩
 |36=>⟨5,104,true,.agg [.sl true [],.int .u16 0,.sl true [],.sl true [],.sl true []],0,[(0,2),(2,2),(4,1)],none,none,[]⟩
 |37=>⟨1,24,false,.sl true [],27,[],none,none,[]⟩
 |38=>⟨1,24,false,.sl true [],57,[],none,none,[]⟩
 |39=>⟨1,24,false,.sl true [],301,[],none,none,[]⟩
 |41=>⟨2,48,true,.agg [.sl true [],.sl true []],0,[(0,1),(1,1)],none,none,[]⟩
 |42=>⟨1,24,false,.sl true [],254,[],none,none,[]⟩
 |44=>⟨6,144,true,.agg [.sl true [],.sl true [],.sl true [],.sl true [],.sl true [],.sl true []],0,[(0,1),(1,1),(2,1),(3,2),(5,1)],none,none,[]⟩
 |45=>⟨1,24,false,.sl true [],22,[],none,none,[]⟩
 |47=>⟨2,48,true,.agg [.sl true [],.sl true []],0,[(0,1),(1,1)],none,none,[]⟩
 |48=>⟨1,24,false,.sl true [],65,[],none,none,[]⟩
 |50=>⟨18,416,true,.agg [.sl true [],.sl true [],.sl true [],.sl true [],.int .u16 0,.sl true [],.sl true [],.sl true [],.sl true [],.sl true [],.sl true [],.sl true [],.sl true [],.sl true [],.sl true [],.sl true [],.sl true [],.sl true []],0,[(0,3),(3,5),(8,6),(14,2),(16,1),(17,1)],none,none,[]⟩
 |54=>⟨1,8,false,.int .i64 0,0,[],none,some .i64,[0]⟩
 |57=>⟨1,24,false,.sl true [],61,[],none,none,[]⟩
 |59=>⟨8,96,true,.agg [.int .i64 0,.int .i64 0,.int .i64 0,.int .i64 0,.int .i64 0,.int .i64 0,.sl true [],.sl true []],0,[(0,1),(1,1),(2,1),(3,1),(4,1),(5,1),(6,1),(7,1)],none,none,[]⟩
 |61=>⟨4,24,true,.agg [.int .u8 0,.int .u16 0,.int .i64 0,.int .i64 0],0,[(0,1),(1,1),(2,1),(3,1)],none,none,[0,0,0,0]⟩
 |63=>⟨7,64,true,.agg [.int .u8 0,.int .u16 0,.int .i64 0,.int .i64 0,.sl true [],.int .i64 0,.bool false],0,[(0,4),(4,1),(5,1),(6,1)],none,none,[]⟩
 |65=>⟨18,184,true,.agg [.int .i64 0,.int .i64 0,.int .i64 0,.int .i64 0,.int .i64 0,.int .i64 0,.int .i64 0,.int .i64 0,.int .i64 0,.sl true [],.sl true [],.int .u8 0,.int .u16 0,.int .i64 0,.int .i64 0,.sl true [],.int .i64 0,.bool false],0,[(0,1),(1,1),(2,1),(3,8),(11,7)],none,none,[]⟩
 |81=>⟨1,24,false,.sl true [],48,[],none,none,[]⟩
 |85=>⟨1,24,false,.sl true [],160,[],none,none,[]⟩
 |87=>⟨2,48,true,.agg [.sl true [],.sl true []],0,[(0,1),(1,1)],none,none,[]⟩
 |93=>⟨6,48,true,.agg [.int .i64 0,.int .i64 0,.int .i64 0,.int .i64 0,.int .i64 0,.int .i64 0],0,[(0,1),(1,1),(2,1),(3,1),(4,1),(5,1)],none,none,[0,0,0,0,0,0]⟩
 |94=>⟨1,24,false,.sl true [],5,[],none,none,[]⟩
 |102=>⟨1,24,false,.sl true [],93,[],none,none,[]⟩
 |105=>⟨1,24,false,.sl true [],94,[],none,none,[]⟩
 |110=>⟨3,40,true,.agg [.int .i64 0,.bool false,.sl true []],0,[(0,1),(1,1),(2,1)],none,none,[]⟩
 |112=>⟨8,80,true,.agg [.int .i64 0,.sl true [],.int .i64 0,.int .i64 0,.int .i64 0,.int .i64 0,.int .i64 0,.int .u16 0],0,[(0,1),(1,1),(2,1),(3,1),(4,1),(5,1),(6,1),(7,1)],none,none,[]⟩
 |120=>⟨2,4,true,.agg [.int .u8 0,.int .u16 0],0,[(0,1),(1,1)],none,none,[0,0]⟩
 |128=>⟨2,32,true,.agg [.sl true [],.int .i64 0],0,[(0,1),(1,1)],none,none,[]⟩
 |136=>⟨3,24,true,.agg [.int .i64 0,.int .i64 0,.bool false],0,[(0,1),(1,1),(2,1)],none,none,[0,0,1]⟩
 |156=>⟨5,40,true,.agg [.int .i64 0,.int .i64 0,.int .i64 0,.int .i64 0,.int .i64 0],0,[(0,1),(1,1),(2,1),(3,1),(4,1)],none,none,[0,0,0,0,0]⟩
 |160=>⟨8,80,true,.agg [.int .i64 0,.int .i64 0,.int .i64 0,.int .i64 0,.int .i64 0,.int .i64 0,.int .u16 0,.sl true []],0,[(0,1),(1,1),(2,1),(3,1),(4,1),(5,1),(6,1),(7,1)],none,none,[]⟩
 |169=>⟨1,24,false,.sl true [],9,[],none,none,[]⟩
 |171=>⟨1,8,false,.ve,112,[],none,none,[3]⟩
 |175=>⟨2,16,true,.agg [.int .i64 0,.int .i64 0],0,[(0,1),(1,1)],none,none,[0,0]⟩
 |181=>⟨1,8,false,.int .u64 0,0,[],none,some .u64,[0]⟩
 |184=>⟨2,32,true,.agg [.sl true [],.bool false],0,[(0,1),(1,1)],none,none,[]⟩
 |226=>⟨1,8,false,.ve,36,[],none,none,[3]⟩
 |250=>⟨4,4,true,.agg [.bool false,.bool false,.bool false,.bool false],4,[],some 4,none,[9]⟩
 |252=>⟨1,24,false,.sl true [],23,[],none,none,[]⟩
 |254=>⟨3,40,true,.agg [.int .i64 0,.int .i64 0,.sl true []],0,[(0,1),(1,1),(2,1)],none,none,[]⟩
 |280=>⟨5,88,true,.agg [.sl true [],.sl true [],.sl true [],.ve,.ve],0,[(0,3),(3,1),(4,1)],none,none,[]⟩
 |301=>⟨3,24,true,.agg [.int .i64 0,.int .i64 0,.bool false],0,[(0,1),(1,1),(2,1)],none,none,[0,0,1]⟩
 |338=>⟨4,4,true,.agg [.bool false,.bool false,.bool false,.bool false],0,[(0,1),(1,1),(2,1),(3,1)],none,none,[1,1,1,1]⟩
 |350=>⟨2,2,true,.agg [.int .u8 0,.int .u8 0],0,[(0,1),(1,1)],none,none,[0,0]⟩
 |_=>default
attribute [simp] ti.eq_1 ti.eq_2 ti.eq_3 ti.eq_4 ti.eq_5 ti.eq_6 ti.eq_7 ti.eq_8 ti.eq_9 ti.eq_10 ti.eq_11 ti.eq_12 ti.eq_13 ti.eq_14 ti.eq_15 ti.eq_16 ti.eq_17 ti.eq_18 ti.eq_19 ti.eq_20 ti.eq_21 ti.eq_22 ti.eq_23 ti.eq_24 ti.eq_25 ti.eq_26 ti.eq_27 ti.eq_28 ti.eq_29 ti.eq_30
attribute [simp] ti.eq_31 ti.eq_32 ti.eq_33 ti.eq_34 ti.eq_35 ti.eq_36 ti.eq_37 ti.eq_38 ti.eq_39 ti.eq_40 ti.eq_41 ti.eq_42 ti.eq_43 ti.eq_44 ti.eq_45 ti.eq_46 ti.eq_47 ti.eq_48 ti.eq_49 ti.eq_50 ti.eq_51 ti.eq_52 ti.eq_53 ti.eq_54 ti.eq_55 ti.eq_56 ti.eq_57 ti.eq_58
def cl:FuncId->Option TypeId
 |108=>some 94
 |152=>some 30
 |224=>some 22
 |225=>some 31
 |_=>none
def byL(n:FuncId):Bool:=[18,30,67,119,121,160,161,198,210,226,227,237,243,244,246,251,264,265,268,270,271,273,276,292,294].contains n
def ioL(n:FuncId):Bool:=[19,40,42,43,53,58,63,65,66,68,88,92,97,109,125,126,127,138,139,169,172,181,182,201,209].contains n
def a9a(n:FuncId):Bool:=[3,4,5,7,8,9,10,12,13,15,16,17,20,23,25,28,29,31,35,37,38,40,42,50,51,53,54,57,59,60,63,69,70,78,79,80,81,82,85,87,93,95,96,97,100,101,105,106,113,115,118,122,125,126,130,131,133,140,145,146,154,164,166,167,171,173,174,177,181,182,183,184,188,194,202,203,204,206,207,209,211,215,216,219,230,239,240,241,245,256,262,267,279,282,286,287].contains n
def thL:FuncId->Nat->Bool
 |36,d=>d==17
 |40,d=>d==22
 |41,d=>d==17
 |46,d=>d==17
 |47,d=>d==27
 |67,d=>d==16
 |73,d=>d==11
 |74,d=>d==76
 |75,d=>d==21||d==23||d==42||d==79
 |77,d=>d==40||d==54||d==56||d==66
 |96,d=>d==9
 |103,d=>d==16
 |119,d=>d==51||d==77
 |121,d=>d==54
 |125,d=>d==8
 |127,d=>d==102||d==113||d==134
 |155,d=>d==9
 |161,d=>d==91
 |163,d=>d==10
 |185,d=>d==17
 |193,d=>d==36
 |195,d=>d==9
 |198,d=>d==221
 |226,d=>d==22
 |255,d=>d==14
 |256,d=>d==72
 |280,d=>d==15
 |_,_=>false
def flL:FuncId->Nat->Bool
 |41,d=>d==29
 |_,_=>false
def kpL:FuncId->TypeId->Bool
 |4,t=>t==37
 |36,t=>t==57||t==160
 |40,t=>t==57||t==160
 |46,t=>t==110||t==112
 |47,t=>t==110||t==112
 |73,t=>t==110||t==112
 |75,t=>t==110||t==112
 |77,t=>t==110||t==112
 |89,t=>t==57
 |103,t=>t==110||t==112
 |119,t=>t==110||t==112
 |121,t=>t==110||t==112
 |138,t=>t==112
 |139,t=>t==112
 |151,t=>t==110||t==112
 |160,t=>t==110||t==112
 |161,t=>t==110||t==112
 |179,t=>t==110||t==112
 |193,t=>t==110||t==112
 |198,t=>t==110||t==112
 |205,t=>t==57
 |226,t=>t==110||t==112
 |227,t=>t==110||t==112
 |237,t=>t==110||t==112
 |246,t=>t==110||t==112
 |251,t=>t==110||t==112
 |253,t=>t==22
 |255,t=>t==22
 |264,t=>t==110||t==112
 |265,t=>t==110||t==112
 |268,t=>t==110||t==112
 |271,t=>t==110||t==112
 |273,t=>t==110||t==112
 |276,t=>t==110||t==112
 |280,t=>t==57
 |292,t=>t==110||t==112
 |294,t=>t==110||t==112
 |_,_=>false
@[simp] def a9b(d:Nat):Mask:=if d=70 then [(0,0,3)] else []
@[simp] def a9c(d:Nat):Mask:=if d=34 then [(0,0,65)] else []
@[simp] def aon(d:Nat):Mask:=if d=19 then [(0,7,112)] else []
@[simp] def az2(d:Nat):Mask:=if d=8 then [(0,0,65)] else []
@[simp] def aoo(d:Nat):Mask:=if d=13 then [(0,7,112)] else if d=96 then [(0,4,112)] else []
@[simp] def aop(d:Nat):Mask:=if d=14 then [(0,4,112)] else []
@[simp] def aoq(d:Nat):Mask:=if d=39 then [(0,16,65),(0,17,3)] else if d=52 then [(0,4,112)] else if d=70 then [(0,4,112)] else []
@[simp] def aor(d:Nat):Mask:=if d=22 then [(0,4,112)] else []
@[simp] def az3(d:Nat):Mask:=if d=9 then [(0,4,112)] else []
@[simp] def aat(d:Nat):Mask:=if d=24 then [(0,4,112)] else []
@[simp] def aau(d:Nat):Mask:=if d=9 then [(0,4,112)] else []
@[simp] def aav(d:Nat):Mask:=if d=11 then [(0,0,3),(0,1,22)] else []
@[simp] def aaw(d:Nat):Mask:=if d=18 then [(0,1,22)] else []
@[simp] def asz(d:Nat):Mask:=if d=6 then [(0,1,120)] else []
@[simp] def aax(d:Nat):Mask:=if d=6 then [(0,1,120)] else []
@[simp] def as0(d:Nat):Mask:=if d=1 then [(0,1,120)] else []
@[simp] def aay(d:Nat):Mask:=if d=15 then [(0,1,301)] else []
@[simp] def aaz(d:Nat):Mask:=if d=12 then [(0,0,57),(0,1,301)] else []
@[simp] def aa0(d:Nat):Mask:=if d=8 then [(0,1,301)] else []
@[simp] def aa1(d:Nat):Mask:=if d=10 then [(0,1,301)] else []
@[simp] def aa2(d:Nat):Mask:=if d=11 then [(0,0,254)] else []
@[simp] def aa3(d:Nat):Mask:=if d=15 then [(0,0,37)] else []
def mkL:FuncId->Nat->Mask
 |5=>a9b
 |7=>a9c
 |19=>aon
 |30=>az2
 |40=>aoo
 |64=>aop
 |67=>aoq
 |74=>aor
 |76=>az3
 |118=>aat
 |120=>aau
 |208=>aav
 |211=>aaw
 |238=>asz
 |252=>aax
 |269=>as0
 |281=>aay
 |282=>aaz
 |283=>aa0
 |284=>aa1
 |285=>aa2
 |286=>aa3
 |_=>fun _=> []
def omL:FuncId->Mask
 |138=> [(0,16,65),(0,17,3),(0,7,112)]
 |139=> [(0,16,65),(0,17,3),(0,7,112)]
 |209=> [(0,16,65),(0,17,3),(0,7,112)]
 |_=> []
@[simp] def aa4(k:Nat):Option Norm:=if k=19 then some ⟨[4,5,6,7,8,39,40],[⟨.box 4,4,0,false⟩,⟨.box 5,5,0,false⟩,⟨.box 6,6,0,false⟩,⟨.box 7,7,0,false⟩],false,1100⟩ else if k=29 then some ⟨[4,5,6,7,8,63,64],[⟨.box 4,4,0,false⟩,⟨.box 5,5,0,false⟩,⟨.box 6,6,0,false⟩,⟨.box 7,7,0,false⟩],false,1100⟩ else none
@[simp] def aa5(k:Nat):Option Norm:=if k=19 then some ⟨[4,9,38],[⟨.box 4,4,0,false⟩,⟨.box 9,9,0,false⟩,⟨.cell 9 4,1000,8,false⟩],false,1101⟩ else none
@[simp] def aa6(k:Nat):Option Norm:=if k=9 then some ⟨[31,32,33],[],false,1100⟩ else none
@[simp] def aa7(k:Nat):Option Norm:=if k=9 then some ⟨[2,3,31,32],[⟨.box 2,2,0,false⟩,⟨.box 3,3,0,false⟩],false,1100⟩ else none
@[simp] def aa8(k:Nat):Option Norm:=if k=15 then some ⟨[0,1,4,6,7,8,36,37],[⟨.box 4,4,0,false⟩,⟨.box 7,7,0,false⟩,⟨.cell 7 0,1000,1,false⟩],false,1101⟩ else none
@[simp] def aa9(k:Nat):Option Norm:=if k=46 then some ⟨[0,2,3,4,5,6],[⟨.box 0,0,0,false⟩,⟨.box 2,2,0,false⟩,⟨.box 3,3,0,false⟩,⟨.box 4,4,0,false⟩,⟨.box 5,5,0,false⟩,⟨.box 6,6,0,false⟩,⟨.cell 5 4,1000,8,false⟩],true,1101⟩ else none
@[simp] def aba(k:Nat):Option Norm:=if k=7 then some ⟨[0,1,5,6],[],false,1100⟩ else none
@[simp] def abb(k:Nat):Option Norm:=if k=5 then some ⟨[0,3],[],false,1100⟩ else none
@[simp] def abc(k:Nat):Option Norm:=if k=11 then some ⟨[2,3,4,5,10,12,35,36,37],[⟨.box 5,5,0,false⟩,⟨.box 10,10,0,false⟩,⟨.box 12,12,0,false⟩],false,1100⟩ else if k=19 then some ⟨[2,3,4,5,10,12,14,15,16,35,36,37,42,43,44],[⟨.box 5,5,0,false⟩,⟨.box 10,10,0,false⟩,⟨.box 12,12,0,false⟩,⟨.box 15,15,0,false⟩,⟨.slot 16,16,6,false⟩],false,1100⟩ else none
@[simp] def abd(k:Nat):Option Norm:=if k=9 then some ⟨[1,23,24,25],[⟨.box 1,1,0,false⟩],false,1100⟩ else if k=25 then some ⟨[1,50,51,52],[⟨.box 1,1,0,false⟩],false,1100⟩ else if k=37 then some ⟨[1,61,62,63],[⟨.box 1,1,0,false⟩],false,1100⟩ else none
@[simp] def abe(k:Nat):Option Norm:=if k=7 then some ⟨[0,2,3,13,14,15],[⟨.box 0,0,0,false⟩,⟨.box 2,2,0,false⟩,⟨.box 3,3,0,false⟩,⟨.cell 3 0,1000,5,false⟩,⟨.cell 3 2,1001,1,false⟩],true,1102⟩ else if k=17 then some ⟨[0,2,3,6],[⟨.box 0,0,0,false⟩,⟨.box 2,2,0,false⟩,⟨.box 3,3,0,false⟩,⟨.cell 3 0,1000,5,false⟩,⟨.cell 3 2,1001,1,false⟩],true,1102⟩ else if k=45 then some ⟨[0,2,3,101,102],[⟨.box 0,0,0,false⟩,⟨.box 2,2,0,false⟩,⟨.box 3,3,0,false⟩,⟨.cell 3 0,1000,5,false⟩,⟨.cell 3 2,1001,1,false⟩],true,1102⟩ else none
@[simp] def abf(k:Nat):Option Norm:=if k=9 then some ⟨[1,2,21,22,23],[⟨.box 2,2,0,false⟩],false,1100⟩ else if k=19 then some ⟨[1,2,5,6,21,22,23,42,43,44],[⟨.box 2,2,0,false⟩],false,1100⟩ else none
@[simp] def abg(k:Nat):Option Norm:=if k=11 then some ⟨[2,3,4,6,30,31,32],[⟨.box 2,2,0,false⟩,⟨.box 3,3,0,false⟩,⟨.box 4,4,0,false⟩,⟨.box 6,6,0,false⟩,⟨.cell 6 0,1000,2,false⟩],false,1101⟩ else if k=21 then some ⟨[2,3,4,6,7,30,31,32,46,47,48],[⟨.box 2,2,0,false⟩,⟨.box 3,3,0,false⟩,⟨.box 4,4,0,false⟩,⟨.box 6,6,0,false⟩,⟨.cell 6 0,1000,2,false⟩],false,1101⟩ else none
@[simp] def abh(k:Nat):Option Norm:=if k=9 then some ⟨[22,23,24],[],false,1100⟩ else none
@[simp] def abi(k:Nat):Option Norm:=if k=5 then some ⟨[1,6,7,8],[⟨.box 1,1,0,false⟩],false,1100⟩ else none
@[simp] def abj(k:Nat):Option Norm:=if k=9 then some ⟨[2,3,22,23],[⟨.box 2,2,0,false⟩,⟨.box 3,3,0,false⟩],false,1100⟩ else none
@[simp] def abk(k:Nat):Option Norm:=if k=9 then some ⟨[2,3,25,26],[⟨.box 2,2,0,false⟩,⟨.box 3,3,0,false⟩],false,1100⟩ else none
@[simp] def abl(k:Nat):Option Norm:=if k=19 then some ⟨[4,9,30],[⟨.box 4,4,0,false⟩,⟨.box 9,9,0,false⟩,⟨.cell 9 4,1000,8,false⟩],false,1101⟩ else none
@[simp] def abm(k:Nat):Option Norm:=if k=5 then some ⟨[0,5,6,7],[],false,1100⟩ else none
@[simp] def abn(k:Nat):Option Norm:=if k=9 then some ⟨[3,4,5,6,37,38,39],[⟨.box 3,3,0,false⟩,⟨.box 4,4,0,false⟩,⟨.box 5,5,0,false⟩,⟨.box 6,6,0,false⟩],false,1100⟩ else if k=15 then some ⟨[3,4,5,6,37,38,39,43,44,45],[⟨.box 3,3,0,false⟩,⟨.box 4,4,0,false⟩,⟨.box 5,5,0,false⟩,⟨.box 6,6,0,false⟩],false,1100⟩ else if k=31 then some ⟨[3,4,5,6,12,68,69,70],[⟨.box 3,3,0,false⟩,⟨.box 4,4,0,false⟩,⟨.box 5,5,0,false⟩,⟨.box 6,6,0,false⟩,⟨.box 12,12,0,false⟩,⟨.cell 12 2,1000,2,false⟩,⟨.cell 12 4,1001,8,false⟩],false,1102⟩ else if k=37 then some ⟨[3,4,5,6,12,13,68,69,70,75,76,77],[⟨.box 3,3,0,false⟩,⟨.box 4,4,0,false⟩,⟨.box 5,5,0,false⟩,⟨.box 6,6,0,false⟩,⟨.box 12,12,0,false⟩,⟨.cell 12 2,1000,2,false⟩,⟨.cell 12 4,1001,8,false⟩],false,1102⟩ else if k=49 then some ⟨[3,4,6,12,104,105,106],[⟨.box 3,3,0,false⟩,⟨.box 4,4,0,false⟩,⟨.box 6,6,0,false⟩,⟨.box 12,12,0,false⟩,⟨.cell 12 2,1000,2,false⟩,⟨.cell 12 4,1001,8,false⟩],false,1102⟩ else if k=57 then some ⟨[3,4,6,12,19,104,105,106,126,127,128],[⟨.box 3,3,0,false⟩,⟨.box 4,4,0,false⟩,⟨.box 6,6,0,false⟩,⟨.box 12,12,0,false⟩,⟨.box 19,19,0,false⟩,⟨.cell 12 2,1000,2,false⟩,⟨.cell 12 4,1001,8,false⟩,⟨.cell 19 1,1002,2,false⟩],false,1103⟩ else none
@[simp] def QY(k:Nat):Option Norm:=if k=7 then some ⟨[1,4,10,11,12],[⟨.box 4,4,0,false⟩],false,1100⟩ else none
@[simp] def QZ(k:Nat):Option Norm:=if k=7 then some ⟨[3,6,7,8],[],false,1100⟩ else none
@[simp] def Q0(k:Nat):Option Norm:=if k=5 then some ⟨[1,4,8,9,10],[⟨.box 4,4,0,false⟩],false,1100⟩ else none
@[simp] def Q1(k:Nat):Option Norm:=if k=7 then some ⟨[3,6,7,8],[],false,1100⟩ else none
@[simp] def Q2(k:Nat):Option Norm:=if k=9 then some ⟨[5,6,7,16,17,18],[],false,1100⟩ else none
@[simp] def Q3(k:Nat):Option Norm:=if k=33 then some ⟨[4,8,9,11,14,15,80,81],[⟨.box 4,4,0,false⟩,⟨.box 8,8,0,false⟩,⟨.box 9,9,0,false⟩,⟨.box 11,11,0,false⟩,⟨.box 14,14,0,false⟩,⟨.box 15,15,0,false⟩,⟨.cell 11 4,1000,8,false⟩,⟨.cell 15 6,1001,4,false⟩,⟨.cell 15 7,1002,4,false⟩],false,1103⟩ else if k=45 then some ⟨[4,8,9,11,14,15,109,110],[⟨.box 4,4,0,false⟩,⟨.box 8,8,0,false⟩,⟨.box 9,9,0,false⟩,⟨.box 11,11,0,false⟩,⟨.box 14,14,0,false⟩,⟨.box 15,15,0,false⟩,⟨.cell 11 4,1000,8,false⟩,⟨.cell 15 6,1001,4,false⟩,⟨.cell 15 7,1002,4,false⟩],false,1103⟩ else none
@[simp] def Q4(k:Nat):Option Norm:=if k=11 then some ⟨[1,3,23,24,25],[⟨.box 1,1,0,false⟩,⟨.box 3,3,0,false⟩],false,1100⟩ else none
@[simp] def Q5(k:Nat):Option Norm:=if k=7 then some ⟨[0,3,4],[⟨.box 0,0,0,false⟩,⟨.slot 3,3,1,false⟩],true,1100⟩ else none
@[simp] def Q6(k:Nat):Option Norm:=if k=7 then some ⟨[0,5,6],[⟨.box 0,0,0,false⟩,⟨.slot 5,5,1,false⟩],true,1100⟩ else none
@[simp] def Q7(k:Nat):Option Norm:=if k=5 then some ⟨[1,8,9,10],[⟨.box 1,1,0,false⟩],false,1100⟩ else if k=17 then some ⟨[1,19,20,21],[⟨.box 1,1,0,false⟩],false,1100⟩ else none
@[simp] def Q8(k:Nat):Option Norm:=if k=5 then some ⟨[0,10,11,12],[],false,1100⟩ else if k=11 then some ⟨[0,10,11,12,16,17,18],[],false,1100⟩ else none
@[simp] def Q9(k:Nat):Option Norm:=if k=7 then some ⟨[0,1,8,9],[⟨.box 0,0,0,false⟩,⟨.box 1,1,0,false⟩,⟨.cell 1 0,1000,1,false⟩],false,1101⟩ else none
@[simp] def Ra(k:Nat):Option Norm:=if k=7 then some ⟨[1,5,6],[⟨.slot 1,1,3,false⟩],false,1100⟩ else none
@[simp] def Rb(k:Nat):Option Norm:=if k=9 then some ⟨[1,2,20,21,22],[⟨.box 2,2,0,false⟩],false,1100⟩ else if k=19 then some ⟨[1,2,5,6,20,21,22,42,43],[⟨.box 2,2,0,false⟩],false,1100⟩ else none
@[simp] def Rc(k:Nat):Option Norm:=if k=9 then some ⟨[16,17,18],[],false,1100⟩ else none
@[simp] def Rd(k:Nat):Option Norm:=if k=15 then some ⟨[3,4,7,8,9,33,34],[⟨.box 3,3,0,false⟩,⟨.box 4,4,0,false⟩,⟨.box 7,7,0,false⟩,⟨.slot 9,9,1,false⟩],false,1100⟩ else none
@[simp] def Re(k:Nat):Option Norm:=if k=5 then some ⟨[5,6,7],[],false,1100⟩ else none
@[simp] def Rf(k:Nat):Option Norm:=if k=9 then some ⟨[0,1,12,13],[],false,1100⟩ else none
@[simp] def Rg(k:Nat):Option Norm:=if k=11 then some ⟨[2,3,4,6,28,29,30],[⟨.box 2,2,0,false⟩,⟨.box 3,3,0,false⟩,⟨.box 4,4,0,false⟩,⟨.box 6,6,0,false⟩,⟨.cell 6 0,1000,2,false⟩],false,1101⟩ else none
@[simp] def Rh(k:Nat):Option Norm:=if k=5 then some ⟨[1,2,6,11,12,13],[⟨.box 6,6,0,false⟩],false,1100⟩ else none
@[simp] def Ri(k:Nat):Option Norm:=if k=9 then some ⟨[2,26,27,28],[⟨.box 2,2,0,false⟩],false,1100⟩ else none
@[simp] def Rj(k:Nat):Option Norm:=if k=7 then some ⟨[3,10,11,12],[⟨.slot 3,3,1,false⟩],false,1100⟩ else none
@[simp] def Rk(k:Nat):Option Norm:=if k=5 then some ⟨[0,1,7,8,9],[],false,1100⟩ else none
@[simp] def Rl(k:Nat):Option Norm:=if k=5 then some ⟨[0,1,7,8],[],false,1100⟩ else none
@[simp] def Rm(k:Nat):Option Norm:=if k=9 then some ⟨[0,1,12,13],[],false,1100⟩ else none
@[simp] def Rn(k:Nat):Option Norm:=if k=11 then some ⟨[3,4,7,8,9,29,30],[⟨.box 3,3,0,false⟩,⟨.box 4,4,0,false⟩,⟨.box 7,7,0,false⟩],false,1100⟩ else none
@[simp] def Rp(k:Nat):Option Norm:=if k=9 then some ⟨[1,18,19,20],[⟨.box 1,1,0,false⟩],false,1100⟩ else if k=21 then some ⟨[1,29,30,31],[⟨.box 1,1,0,false⟩],false,1100⟩ else none
@[simp] def Rq(k:Nat):Option Norm:=if k=5 then some ⟨[5,6,7],[],false,1100⟩ else none
@[simp] def Rr(k:Nat):Option Norm:=if k=7 then some ⟨[3,6,7,8],[⟨.slot 3,3,1,false⟩],false,1100⟩ else none
@[simp] def Rt(k:Nat):Option Norm:=if k=7 then some ⟨[3,6,7,8],[⟨.slot 3,3,3,false⟩],false,1100⟩ else none
@[simp] def Ru(k:Nat):Option Norm:=if k=7 then some ⟨[0,2,4,15,16],[⟨.box 2,2,0,false⟩,⟨.box 4,4,0,false⟩,⟨.cell 4 0,1000,1,false⟩,⟨.cell 4 1,1001,3,false⟩],false,1102⟩ else if k=17 then some ⟨[2,4,25,26,27],[⟨.box 2,2,0,false⟩,⟨.box 4,4,0,false⟩,⟨.cell 4 0,1000,1,false⟩,⟨.cell 4 1,1001,3,false⟩],false,1102⟩ else if k=25 then some ⟨[2,4,8,25,26,27,31,32,33],[⟨.box 2,2,0,false⟩,⟨.box 4,4,0,false⟩,⟨.slot 8,8,4,false⟩,⟨.cell 4 0,1000,1,false⟩,⟨.cell 4 1,1001,3,false⟩],false,1102⟩ else none
@[simp] def Rv(k:Nat):Option Norm:=if k=37 then some ⟨[0,4,87,88,89],[⟨.box 0,0,0,false⟩,⟨.box 4,4,0,false⟩,⟨.cell 0 7,1000,8,false⟩,⟨.cell 0 16,1001,18,false⟩,⟨.cell 0 17,1002,1,false⟩],true,1103⟩ else none
@[simp] def Rw(k:Nat):Option Norm:=if k=7 then some ⟨[1,4,6,20,21,22],[⟨.box 4,4,0,false⟩,⟨.box 6,6,0,false⟩,⟨.cell 6 1,1000,1,false⟩],false,1101⟩ else if k=15 then some ⟨[1,4,6,7,9,20,21,22,27,28,29],[⟨.box 4,4,0,false⟩,⟨.box 6,6,0,false⟩,⟨.slot 9,9,1,false⟩,⟨.cell 6 1,1000,1,false⟩],false,1101⟩ else if k=33 then some ⟨[1,4,6,12,49,50],[⟨.box 4,4,0,false⟩,⟨.box 6,6,0,false⟩,⟨.slot 12,12,1,false⟩],false,1100⟩ else none
@[simp] def Rx(k:Nat):Option Norm:=if k=9 then some ⟨[1,22,23,24],[⟨.box 1,1,0,false⟩],false,1100⟩ else if k=27 then some ⟨[1,5,49,50,51],[⟨.box 1,1,0,false⟩],false,1100⟩ else none
@[simp] def Ry(k:Nat):Option Norm:=if k=5 then some ⟨[0,5,6,7],[],false,1100⟩ else none
@[simp] def Rz(k:Nat):Option Norm:=if k=5 then some ⟨[0,1,7,8],[],false,1100⟩ else none
@[simp] def RA(k:Nat):Option Norm:=if k=11 then some ⟨[5,7,25,26,27],[],false,1100⟩ else none
@[simp] def RB(k:Nat):Option Norm:=if k=7 then some ⟨[1,5,6],[⟨.slot 1,1,3,false⟩],false,1100⟩ else none
@[simp] def RC(k:Nat):Option Norm:=if k=7 then some ⟨[3,6,7,8],[⟨.slot 3,3,2,false⟩],false,1100⟩ else none
@[simp] def RD(k:Nat):Option Norm:=if k=5 then some ⟨[0,6,7,8],[],false,1100⟩ else none
@[simp] def RE(k:Nat):Option Norm:=if k=13 then some ⟨[2,3,4,5,7,8,74,75,76],[⟨.box 2,2,0,false⟩,⟨.box 3,3,0,false⟩,⟨.box 4,4,0,false⟩,⟨.box 5,5,0,false⟩,⟨.box 7,7,0,false⟩,⟨.slot 8,8,1,false⟩],false,1100⟩ else none
@[simp] def RF(k:Nat):Option Norm:=if k=5 then some ⟨[0,1,7,8],[],false,1100⟩ else none
@[simp] def RG(k:Nat):Option Norm:=if k=5 then some ⟨[1,2,6,11,12,13],[⟨.box 6,6,0,false⟩],false,1100⟩ else none
@[simp] def RH(k:Nat):Option Norm:=if k=11 then some ⟨[3,16,17,18],[],false,1100⟩ else none
@[simp] def RI(k:Nat):Option Norm:=if k=7 then some ⟨[1,2,3,6,8,9],[⟨.box 3,3,0,false⟩,⟨.box 6,6,0,false⟩,⟨.box 8,8,0,false⟩,⟨.cell 8 0,1000,1,false⟩,⟨.cell 8 1,1001,3,false⟩],false,1102⟩ else if k=21 then some ⟨[1,2,6,8,9,62,63],[⟨.box 6,6,0,false⟩,⟨.box 8,8,0,false⟩,⟨.cell 8 0,1000,1,false⟩,⟨.cell 8 1,1001,3,false⟩],false,1102⟩ else none
@[simp] def RK(k:Nat):Option Norm:=if k=15 then some ⟨[1,9,10,11,41,42,43],[⟨.slot 9,9,1,false⟩,⟨.slot 11,11,4,false⟩],false,1100⟩ else none
@[simp] def RL(k:Nat):Option Norm:=if k=5 then some ⟨[0,1,7,8],[],false,1100⟩ else none
def nmL:FuncId->Nat->Option Norm
 |10=>aa4
 |20=>aa5
 |23=>aa6
 |25=>aa7
 |29=>aa8
 |40=>aa9
 |50=>aba
 |51=>abb
 |54=>abc
 |57=>abd
 |63=>abe
 |69=>abf
 |70=>abg
 |79=>abh
 |80=>abi
 |81=>abj
 |82=>abk
 |85=>abl
 |87=>abm
 |93=>abn
 |100=>QY
 |101=>QZ
 |105=>Q0
 |106=>Q1
 |113=>Q2
 |118=>Q3
 |122=>Q4
 |125=>Q5
 |126=>Q6
 |130=>Q7
 |131=>Q8
 |133=>Q9
 |140=>Ra
 |145=>Rb
 |146=>Rc
 |154=>Rd
 |164=>Re
 |166=>Rf
 |167=>Rg
 |171=>Rh
 |173=>Ri
 |174=>Rj
 |177=>Rk
 |183=>Rl
 |184=>Rm
 |194=>Rn
 |202=>Rp
 |203=>Rq
 |204=>Rr
 |206=>Rt
 |207=>Ru
 |209=>Rv
 |211=>Rw
 |215=>Rx
 |216=>Ry
 |219=>Rz
 |230=>RA
 |239=>RB
 |240=>RC
 |241=>RD
 |256=>RE
 |262=>RF
 |267=>RG
 |279=>RH
 |282=>RI
 |286=>RK
 |287=>RL
 |_=>fun _=>none
@[simp] def a9e(r:Nat):List (Nat×Nat):=if r=9 then [(1,9)] else []
@[simp] def a9f(r:Nat):List (Nat×Nat):=if r=13 then [(2,7)] else []
@[simp] def a9g(r:Nat):List (Nat×Nat):=if r=6 then [(0,3),(0,5),(0,7),(8,0),(8,3),(8,5),(12,0),(12,3),(12,5),(14,0),(14,3),(14,5),(16,0),(16,3),(16,5)] else []
@[simp] def a0a(r:Nat):List (Nat×Nat):=if r=9 then [(1,8)] else []
@[simp] def apa(r:Nat):List (Nat×Nat):=if r=2 then [(0,5),(0,7)] else if r=6 then [(0,3)] else []
@[simp] def apb(r:Nat):List (Nat×Nat):=if r=7 then [(4,0),(6,0)] else []
@[simp] def apc(r:Nat):List (Nat×Nat):=if r=10 then [(1,3)] else []
@[simp] def apd(r:Nat):List (Nat×Nat):=if r=9 then [(1,9)] else []
@[simp] def ape(r:Nat):List (Nat×Nat):=if r=9 then [(1,10),(2,10),(3,10)] else if r=18 then [(1,12),(3,12),(5,12)] else if r=21 then [(1,5)] else if r=26 then [(2,4)] else []
@[simp] def a0b(r:Nat):List (Nat×Nat):=if r=4 then [(6,0),(9,0)] else if r=5 then [(6,0)] else []
@[simp] def a0c(r:Nat):List (Nat×Nat):=if r=1 then [(5,9),(5,11),(6,9),(6,11)] else if r=12 then [(1,5),(1,6)] else if r=14 then [(1,4),(1,7)] else if r=16 then [(1,4),(1,7)] else if r=18 then [(1,4),(1,6),(1,8)] else []
@[simp] def a0d(r:Nat):List (Nat×Nat):=if r=6 then [(1,3)] else []
@[simp] def apf(r:Nat):List (Nat×Nat):=if r=5 then [(1,5),(1,6)] else if r=15 then [(1,8),(1,10)] else if r=18 then [(1,4),(1,7)] else []
@[simp] def apg(r:Nat):List (Nat×Nat):=if r=1 then [(5,9),(6,9)] else []
@[simp] def aph(r:Nat):List (Nat×Nat):=if r=15 then [(1,3)] else []
@[simp] def a0e(r:Nat):List (Nat×Nat):=if r=7 then [(1,10)] else []
@[simp] def api(r:Nat):List (Nat×Nat):=if r=6 then [(6,13),(8,13),(9,13)] else []
@[simp] def apj(r:Nat):List (Nat×Nat):=if r=10 then [(1,4)] else []
@[simp] def a0f(r:Nat):List (Nat×Nat):=if r=1 then [(3,7),(4,7)] else []
@[simp] def a0g(r:Nat):List (Nat×Nat):=if r=1 then [(4,0)] else []
@[simp] def apk(r:Nat):List (Nat×Nat):=if r=13 then [(4,0)] else []
@[simp] def a0h(r:Nat):List (Nat×Nat):=if r=6 then [(10,0),(10,8)] else if r=7 then [(6,0),(6,4)] else []
@[simp] def abu(r:Nat):List (Nat×Nat):=if r=1 then [(6,0),(6,11),(9,0)] else []
@[simp] def abv(r:Nat):List (Nat×Nat):=if r=18 then [(1,13)] else if r=24 then [(1,19)] else if r=26 then [(1,3)] else []
@[simp] def abw(r:Nat):List (Nat×Nat):=if r=7 then [(1,16),(3,16)] else []
@[simp] def abx(r:Nat):List (Nat×Nat):=if r=7 then [(7,12)] else []
@[simp] def aby(r:Nat):List (Nat×Nat):=if r=8 then [(3,7),(3,10),(3,13),(4,7),(4,10),(4,13)] else if r=13 then [(8,0),(9,0)] else if r=16 then [(8,0),(9,0)] else []
@[simp] def abz(r:Nat):List (Nat×Nat):=if r=1 then [(4,0),(7,0),(7,3),(10,0),(10,3),(13,0),(13,3)] else []
@[simp] def ab0(r:Nat):List (Nat×Nat):=if r=4 then [(6,0),(6,2)] else []
@[simp] def ab1(r:Nat):List (Nat×Nat):=if r=6 then [(4,11)] else []
@[simp] def ab2(r:Nat):List (Nat×Nat):=if r=1 then [(4,0)] else if r=5 then [(1,6)] else []
@[simp] def ab3(r:Nat):List (Nat×Nat):=if r=18 then [(12,0)] else []
@[simp] def as1(r:Nat):List (Nat×Nat):=if r=13 then [(3,11),(5,11)] else []
@[simp] def ab4(r:Nat):List (Nat×Nat):=if r=6 then [(5,0)] else []
@[simp] def ab5(r:Nat):List (Nat×Nat):=if r=27 then [(3,14),(5,14)] else []
@[simp] def ab6(r:Nat):List (Nat×Nat):=if r=5 then [(1,4)] else []
@[simp] def ab7(r:Nat):List (Nat×Nat):=if r=8 then [(2,7),(4,7),(5,7)] else []
@[simp] def ab8(r:Nat):List (Nat×Nat):=if r=2 then [(4,9)] else []
@[simp] def as2(r:Nat):List (Nat×Nat):=if r=2 then [(3,6),(3,8)] else []
@[simp] def ab9(r:Nat):List (Nat×Nat):=if r=6 then [(11,19),(13,19),(14,19),(15,19)] else if r=28 then [(3,13),(5,13)] else []
@[simp] def aca(r:Nat):List (Nat×Nat):=if r=2 then [(3,6),(3,8)] else []
@[simp] def acb(r:Nat):List (Nat×Nat):=if r=5 then [(1,4)] else []
@[simp] def acd(r:Nat):List (Nat×Nat):=if r=17 then [(1,10),(1,11),(4,10),(6,10),(7,10)] else []
@[simp] def ace(r:Nat):List (Nat×Nat):=if r=32 then [(7,10),(8,10)] else if r=35 then [(7,10),(8,10)] else if r=43 then [(1,3)] else []
@[simp] def acf(r:Nat):List (Nat×Nat):=if r=15 then [(5,8)] else []
@[simp] def acg(r:Nat):List (Nat×Nat):=if r=1 then [(18,22)] else if r=24 then [(2,13)] else []
@[simp] def ach(r:Nat):List (Nat×Nat):=if r=7 then [(3,17)] else []
@[simp] def aci(r:Nat):List (Nat×Nat):=if r=2 then [(10,0),(10,8)] else if r=3 then [(6,0),(6,4)] else []
@[simp] def acj(r:Nat):List (Nat×Nat):=if r=3 then [(1,14),(8,14),(8,15),(10,14),(10,15)] else []
def exL:FuncId->Nat->List (Nat×Nat)
 |4=>a9e
 |5=>a9f
 |9=>a9g
 |15=>a0a
 |19=>apa
 |20=>apb
 |21=>apc
 |36=>apd
 |40=>ape
 |41=>a0b
 |42=>a0c
 |56=>a0d
 |63=>apf
 |68=>apg
 |74=>aph
 |77=>a0e
 |82=>api
 |85=>apj
 |88=>a0f
 |91=>a0g
 |93=>apk
 |96=>a0h
 |103=>abu
 |118=>abv
 |119=>abw
 |121=>abx
 |127=>aby
 |132=>abz
 |134=>ab0
 |138=>ab1
 |151=>ab2
 |154=>ab3
 |161=>as1
 |185=>ab4
 |198=>ab5
 |205=>ab6
 |208=>ab7
 |210=>ab8
 |238=>as2
 |246=>ab9
 |252=>aca
 |253=>acb
 |255=>acd
 |256=>ace
 |264=>acf
 |265=>acg
 |268=>ach
 |270=>aci
 |297=>acj
 |_=>fun _=> []
noncomputable def X:Env:={P:=Tryz.prog,ti:=ti,oR:=thL,ie:=byL,gq:=ioL,clone:=cl,fZ:=kpL,sZ:=exL,norm:=nmL,low:=a9a,mask:=mkL,fl:=omL,flat:=flL,oS:=fun _=>none}
@[simp]def bjz:X.ti=ti:=(rfl)
abbrev Xa(f:FuncId):Prop:=X.clone f=none/\X.ie f=false/\X.gq f=false/\X.low f=false/\X.fl f=[]
abbrev Xl(f:FuncId):Prop:=X.clone f=none/\X.ie f=false/\X.gq f=false/\X.low f=true/\X.fl f=[]
abbrev Xt(f:FuncId):Prop:=X.oR f=fun _=>false
abbrev Xf(f:FuncId):Prop:=X.flat f=fun _=>false
abbrev Xk(f:FuncId):Prop:=X.fZ f=fun _=>false
abbrev Xm(f:FuncId):Prop:=X.mask f=fun _=> []
abbrev Xn(f:FuncId):Prop:=X.norm f=fun _=>none
abbrev Xe(f:FuncId):Prop:=X.sZ f=fun _=> []
abbrev Xy0(f:FuncId):Prop:=X.clone f=none/\X.ie f=true/\X.gq f=false/\X.low f=false/\X.fl f=[]
abbrev Xy1(f:FuncId):Prop:=X.clone f=none/\X.ie f=false/\X.gq f=true/\X.low f=false/\X.fl f=[]
abbrev Xy2(f:FuncId):Prop:=X.clone f=none/\X.ie f=false/\X.gq f=true/\X.low f=true/\X.fl f=[]
abbrev Xd(f:FuncId):Prop:=Xa f/\Xt f/\Xf f/\Xk f/\Xm f/\Xn f/\Xe f
abbrev Xw(f:FuncId):Prop:=Xt f/\Xk f/\Xm f
abbrev Xv(f:FuncId):Prop:=Xt f/\Xk f
@[simp]def X10:Xl 10/\Xt 10/\Xf 10/\Xk 10/\Xm 10/\X.norm 10=aa4/\Xe 10/\Xy0 18/\Xt 18/\Xf 18/\Xk 18/\Xm 18/\Xn 18/\Xe 18/\Xy1 19/\Xt 19/\Xf 19/\Xk 19/\X.mask 19=aon/\Xn 19/\X.sZ 19=apa/\Xl 20/\Xt 20/\Xf 20/\Xk 20/\Xm 20/\X.norm 20=aa5/\X.sZ 20=apb/\Xa 21/\Xt 21/\Xf 21/\Xk 21/\Xm 21/\Xn 21/\X.sZ 21=apc/\Xl 23/\Xt 23/\Xf 23/\Xk 23/\Xm 23/\X.norm 23=aa6/\Xe 23/\Xl 25/\Xt 25/\Xf 25/\Xk 25/\Xm 25/\X.norm 25=aa7/\Xe 25/\Xd 27/\Xl 29/\Xt 29/\Xf 29/\Xk 29/\Xm 29/\X.norm 29=aa8/\Xe 29/\Xa 36/\(∀d:Nat,X.oR 36 d=(d==17))/\Xf 36/\(∀t:TypeId,X.fZ 36 t=(t==57||t==160))/\Xm 36/\Xn 36/\X.sZ 36=apd/\Xd 39/\Xy2 40/\(∀d:Nat,X.oR 40 d=(d==22))/\Xf 40/\(∀t:TypeId,X.fZ 40 t=(t==57||t==160))/\X.mask 40=aoo/\X.norm 40=aa9/\X.sZ 40=ape/\Xy1 43/\Xt 43/\Xf 43/\Xk 43/\Xm 43/\Xn 43/\Xe 43/\Xd 44/\Xa 46/\(∀d:Nat,X.oR 46 d=(d==17))/\Xf 46/\(∀t:TypeId,X.fZ 46 t=(t==110||t==112))/\Xm 46/\Xn 46/\Xe 46/\Xd 48/\Xl 50/\Xt 50/\Xf 50/\Xk 50/\Xm 50/\X.norm 50=aba/\Xe 50/\Xl 51/\Xt 51/\Xf 51/\Xk 51/\Xm 51/\X.norm 51=abb/\Xe 51/\Xl 54/\Xt 54/\Xf 54/\Xk 54/\Xm 54/\X.norm 54=abc/\Xe 54/\Xl 57/\Xt 57/\Xf 57/\Xk 57/\Xm 57/\X.norm 57=abd/\Xe 57/\Xy1 58/\Xt 58/\Xf 58/\Xk 58/\Xm 58/\Xn 58/\Xe 58/\Xy2 63/\Xt 63/\Xf 63/\Xk 63/\Xm 63/\X.norm 63=abe/\X.sZ 63=apf/\Xa 64/\Xt 64/\Xf 64/\Xk 64/\X.mask 64=aop/\Xn 64/\Xe 64/\Xy1 65/\Xt 65/\Xf 65/\Xk 65/\Xm 65/\Xn 65/\Xe 65:=by and_intros<;>first|rfl|exact fun _=>rfl
@[simp]def X66:Xy1 66/\Xt 66/\Xf 66/\Xk 66/\Xm 66/\Xn 66/\Xe 66/\Xy0 67/\(∀d:Nat,X.oR 67 d=(d==16))/\Xf 67/\Xk 67/\X.mask 67=aoq/\Xn 67/\Xe 67/\Xy1 68/\Xt 68/\Xf 68/\Xk 68/\Xm 68/\Xn 68/\X.sZ 68=apg/\Xl 69/\Xt 69/\Xf 69/\Xk 69/\Xm 69/\X.norm 69=abf/\Xe 69/\Xl 70/\Xt 70/\Xf 70/\Xk 70/\Xm 70/\X.norm 70=abg/\Xe 70/\Xd 71/\Xd 72/\Xa 73/\(∀d:Nat,X.oR 73 d=(d==11))/\Xf 73/\(∀t:TypeId,X.fZ 73 t=(t==110||t==112))/\Xm 73/\Xn 73/\Xe 73/\Xa 74/\(∀d:Nat,X.oR 74 d=(d==76))/\Xf 74/\Xk 74/\X.mask 74=aor/\Xn 74/\X.sZ 74=aph/\Xl 79/\Xt 79/\Xf 79/\Xk 79/\Xm 79/\X.norm 79=abh/\Xe 79/\Xl 80/\Xt 80/\Xf 80/\Xk 80/\Xm 80/\X.norm 80=abi/\Xe 80/\Xl 81/\Xt 81/\Xf 81/\Xk 81/\Xm 81/\X.norm 81=abj/\Xe 81/\Xl 82/\Xt 82/\Xf 82/\Xk 82/\Xm 82/\X.norm 82=abk/\X.sZ 82=api/\Xd 83/\Xd 84/\Xl 85/\Xt 85/\Xf 85/\Xk 85/\Xm 85/\X.norm 85=abl/\X.sZ 85=apj/\Xl 87/\Xt 87/\Xf 87/\Xk 87/\Xm 87/\X.norm 87=abm/\Xe 87/\Xa 89/\Xt 89/\Xf 89/\(∀t:TypeId,X.fZ 89 t=(t==57))/\Xm 89/\Xn 89/\Xe 89/\Xd 90/\Xy1 92/\Xt 92/\Xf 92/\Xk 92/\Xm 92/\Xn 92/\Xe 92/\Xl 93/\Xt 93/\Xf 93/\Xk 93/\Xm 93/\X.norm 93=abn/\X.sZ 93=apk/\Xd 94/\Xd 98/\Xd 99:=by and_intros<;>first|rfl|exact fun _=>rfl
@[simp]def bj0:Xl 100/\Xt 100/\Xf 100/\Xk 100/\Xm 100/\X.norm 100=QY/\Xe 100/\Xl 101/\Xt 101/\Xf 101/\Xk 101/\Xm 101/\X.norm 101=QZ/\Xe 101/\Xd 102/\Xa 103/\(∀d:Nat,X.oR 103 d=(d==16))/\Xf 103/\(∀t:TypeId,X.fZ 103 t=(t==110||t==112))/\Xm 103/\Xn 103/\X.sZ 103=abu/\Xl 105/\Xt 105/\Xf 105/\Xk 105/\Xm 105/\X.norm 105=Q0/\Xe 105/\Xl 106/\Xt 106/\Xf 106/\Xk 106/\Xm 106/\X.norm 106=Q1/\Xe 106/\Xd 107/\X.clone 108=some 94/\X.ie 108=false/\X.gq 108=false/\X.low 108=false/\X.fl 108=[]/\Xt 108/\Xf 108/\Xk 108/\Xm 108/\Xn 108/\Xe 108/\Xd 110/\Xd 111/\Xd 112/\Xl 113/\Xt 113/\Xf 113/\Xk 113/\Xm 113/\X.norm 113=Q2/\Xe 113/\Xl 118/\Xt 118/\Xf 118/\Xk 118/\X.mask 118=aat/\X.norm 118=Q3/\X.sZ 118=abv/\Xy0 119/\(∀d:Nat,X.oR 119 d=(d==51||d==77))/\Xf 119/\(∀t:TypeId,X.fZ 119 t=(t==110||t==112))/\Xm 119/\Xn 119/\X.sZ 119=abw/\Xa 120/\Xt 120/\Xf 120/\Xk 120/\X.mask 120=aau/\Xn 120/\Xe 120/\Xy0 121/\(∀d:Nat,X.oR 121 d=(d==54))/\Xf 121/\(∀t:TypeId,X.fZ 121 t=(t==110||t==112))/\Xm 121/\Xn 121/\X.sZ 121=abx/\Xl 122/\Xt 122/\Xf 122/\Xk 122/\Xm 122/\X.norm 122=Q4/\Xe 122/\Xd 123/\Xy2 125/\(∀d:Nat,X.oR 125 d=(d==8))/\Xf 125/\Xk 125/\Xm 125/\X.norm 125=Q5/\Xe 125/\Xy2 126/\Xt 126/\Xf 126/\Xk 126/\Xm 126/\X.norm 126=Q6/\Xe 126/\Xy1 127/\(∀d:Nat,X.oR 127 d=(d==102||d==113||d==134))/\Xf 127/\Xk 127/\Xm 127/\Xn 127/\X.sZ 127=aby/\Xd 128/\Xd 129/\Xl 130/\Xt 130/\Xf 130/\Xk 130/\Xm 130/\X.norm 130=Q7/\Xe 130:=by and_intros<;>first|rfl|exact fun _=>rfl
@[simp]def bko:Xl 131/\Xt 131/\Xf 131/\Xk 131/\Xm 131/\X.norm 131=Q8/\Xe 131/\Xa 132/\Xt 132/\Xf 132/\Xk 132/\Xm 132/\Xn 132/\X.sZ 132=abz/\Xl 133/\Xt 133/\Xf 133/\Xk 133/\Xm 133/\X.norm 133=Q9/\Xe 133/\Xa 134/\Xt 134/\Xf 134/\Xk 134/\Xm 134/\Xn 134/\X.sZ 134=ab0/\Xd 135/\Xd 136/\Xd 137/\X.clone 138=none/\X.ie 138=false/\X.gq 138=true/\X.low 138=false/\X.fl 138=[(0,16,65),(0,17,3),(0,7,112)]/\Xt 138/\Xf 138/\(∀t:TypeId,X.fZ 138 t=(t==112))/\Xm 138/\Xn 138/\X.sZ 138=ab1/\X.clone 139=none/\X.ie 139=false/\X.gq 139=true/\X.low 139=false/\X.fl 139=[(0,16,65),(0,17,3),(0,7,112)]/\Xt 139/\Xf 139/\(∀t:TypeId,X.fZ 139 t=(t==112))/\Xm 139/\Xn 139/\Xe 139/\Xl 140/\Xt 140/\Xf 140/\Xk 140/\Xm 140/\X.norm 140=Ra/\Xe 140/\Xd 141/\Xd 142/\Xd 143/\Xd 144/\Xl 145/\Xt 145/\Xf 145/\Xk 145/\Xm 145/\X.norm 145=Rb/\Xe 145/\Xl 146/\Xt 146/\Xf 146/\Xk 146/\Xm 146/\X.norm 146=Rc/\Xe 146/\Xd 147/\Xd 148/\Xd 149/\Xd 150/\Xa 151/\Xt 151/\Xf 151/\(∀t:TypeId,X.fZ 151 t=(t==110||t==112))/\Xm 151/\Xn 151/\X.sZ 151=ab2/\X.clone 152=some 30/\X.ie 152=false/\X.gq 152=false/\X.low 152=false/\X.fl 152=[]/\Xt 152/\Xf 152/\Xk 152/\Xm 152/\Xn 152/\Xe 152/\Xd 153/\Xl 154/\Xt 154/\Xf 154/\Xk 154/\Xm 154/\X.norm 154=Rd/\X.sZ 154=ab3:=by and_intros<;>first|rfl|exact fun _=>rfl
@[simp]def blc:Xa 155/\(∀d:Nat,X.oR 155 d=(d==9))/\Xf 155/\Xk 155/\Xm 155/\Xn 155/\Xe 155/\Xd 156/\Xd 157/\Xl 164/\Xt 164/\Xf 164/\Xk 164/\Xm 164/\X.norm 164=Re/\Xe 164/\Xd 165/\Xl 166/\Xt 166/\Xf 166/\Xk 166/\Xm 166/\X.norm 166=Rf/\Xe 166/\Xl 167/\Xt 167/\Xf 167/\Xk 167/\Xm 167/\X.norm 167=Rg/\Xe 167/\Xd 168/\Xd 170/\Xl 171/\Xt 171/\Xf 171/\Xk 171/\Xm 171/\X.norm 171=Rh/\Xe 171/\Xy1 172/\Xt 172/\Xf 172/\Xk 172/\Xm 172/\Xn 172/\Xe 172/\Xl 173/\Xt 173/\Xf 173/\Xk 173/\Xm 173/\X.norm 173=Ri/\Xe 173/\Xl 174/\Xt 174/\Xf 174/\Xk 174/\Xm 174/\X.norm 174=Rj/\Xe 174/\Xd 175/\Xd 176/\Xl 177/\Xt 177/\Xf 177/\Xk 177/\Xm 177/\X.norm 177=Rk/\Xe 177/\Xd 178/\Xa 179/\Xt 179/\Xf 179/\(∀t:TypeId,X.fZ 179 t=(t==110||t==112))/\Xm 179/\Xn 179/\Xe 179/\Xd 180/\Xl 183/\Xt 183/\Xf 183/\Xk 183/\Xm 183/\X.norm 183=Rl/\Xe 183/\Xl 184/\Xt 184/\Xf 184/\Xk 184/\Xm 184/\X.norm 184=Rm/\Xe 184/\Xa 185/\(∀d:Nat,X.oR 185 d=(d==17))/\Xf 185/\Xk 185/\Xm 185/\Xn 185/\X.sZ 185=ab4/\Xd 186/\Xd 191:=by and_intros<;>first|rfl|exact fun _=>rfl
@[simp]def bl3:Xa 193/\(∀d:Nat,X.oR 193 d=(d==36))/\Xf 193/\(∀t:TypeId,X.fZ 193 t=(t==110||t==112))/\Xm 193/\Xn 193/\Xe 193/\Xl 194/\Xt 194/\Xf 194/\Xk 194/\Xm 194/\X.norm 194=Rn/\Xe 194/\Xa 195/\(∀d:Nat,X.oR 195 d=(d==9))/\Xf 195/\Xk 195/\Xm 195/\Xn 195/\Xe 195/\Xd 196/\Xd 197/\Xy0 198/\(∀d:Nat,X.oR 198 d=(d==221))/\Xf 198/\(∀t:TypeId,X.fZ 198 t=(t==110||t==112))/\Xm 198/\Xn 198/\X.sZ 198=ab5/\Xd 199/\Xd 200/\Xy1 201/\Xt 201/\Xf 201/\Xk 201/\Xm 201/\Xn 201/\Xe 201/\Xl 202/\Xt 202/\Xf 202/\Xk 202/\Xm 202/\X.norm 202=Rp/\Xe 202/\Xl 203/\Xt 203/\Xf 203/\Xk 203/\Xm 203/\X.norm 203=Rq/\Xe 203/\Xl 204/\Xt 204/\Xf 204/\Xk 204/\Xm 204/\X.norm 204=Rr/\Xe 204/\Xa 205/\Xt 205/\Xf 205/\(∀t:TypeId,X.fZ 205 t=(t==57))/\Xm 205/\Xn 205/\X.sZ 205=ab6/\Xl 206/\Xt 206/\Xf 206/\Xk 206/\Xm 206/\X.norm 206=Rt/\Xe 206/\Xl 207/\Xt 207/\Xf 207/\Xk 207/\Xm 207/\X.norm 207=Ru/\Xe 207/\Xa 208/\Xt 208/\Xf 208/\Xk 208/\X.mask 208=aav/\Xn 208/\X.sZ 208=ab7/\X.clone 209=none/\X.ie 209=false/\X.gq 209=true/\X.low 209=true/\X.fl 209=[(0,16,65),(0,17,3),(0,7,112)]/\Xt 209/\Xf 209/\Xk 209/\Xm 209/\X.norm 209=Rv/\Xe 209/\Xy0 210/\Xt 210/\Xf 210/\Xk 210/\Xm 210/\Xn 210/\X.sZ 210=ab8/\Xl 211/\Xt 211/\Xf 211/\Xk 211/\X.mask 211=aaw/\X.norm 211=Rw/\Xe 211/\Xd 212/\Xd 213/\Xd 214/\Xl 215/\Xt 215/\Xf 215/\Xk 215/\Xm 215/\X.norm 215=Rx/\Xe 215/\Xl 216/\Xt 216/\Xf 216/\Xk 216/\Xm 216/\X.norm 216=Ry/\Xe 216:=by and_intros<;>first|rfl|exact fun _=>rfl
@[simp]def bmr:Xd 217/\Xd 218/\Xl 219/\Xt 219/\Xf 219/\Xk 219/\Xm 219/\X.norm 219=Rz/\Xe 219/\Xd 220/\Xd 221/\Xd 222/\Xd 223/\X.clone 224=some 22/\X.ie 224=false/\X.gq 224=false/\X.low 224=false/\X.fl 224=[]/\Xt 224/\Xf 224/\Xk 224/\Xm 224/\Xn 224/\Xe 224/\X.clone 225=some 31/\X.ie 225=false/\X.gq 225=false/\X.low 225=false/\X.fl 225=[]/\Xt 225/\Xf 225/\Xk 225/\Xm 225/\Xn 225/\Xe 225/\Xy0 226/\(∀d:Nat,X.oR 226 d=(d==22))/\Xf 226/\(∀t:TypeId,X.fZ 226 t=(t==110||t==112))/\Xm 226/\Xn 226/\Xe 226/\Xy0 227/\Xt 227/\Xf 227/\(∀t:TypeId,X.fZ 227 t=(t==110||t==112))/\Xm 227/\Xn 227/\Xe 227/\Xd 228/\Xd 229/\Xl 230/\Xt 230/\Xf 230/\Xk 230/\Xm 230/\X.norm 230=RA/\Xe 230/\Xd 231/\Xd 232/\Xd 233/\Xd 234/\Xd 235/\Xy0 237/\Xt 237/\Xf 237/\(∀t:TypeId,X.fZ 237 t=(t==110||t==112))/\Xm 237/\Xn 237/\Xe 237/\Xl 239/\Xt 239/\Xf 239/\Xk 239/\Xm 239/\X.norm 239=RB/\Xe 239/\Xl 240/\Xt 240/\Xf 240/\Xk 240/\Xm 240/\X.norm 240=RC/\Xe 240/\Xl 241/\Xt 241/\Xf 241/\Xk 241/\Xm 241/\X.norm 241=RD/\Xe 241/\Xd 242:=by and_intros<;>first|rfl|exact fun _=>rfl
@[simp]def bnh:Xy0 243/\Xt 243/\Xf 243/\Xk 243/\Xm 243/\Xn 243/\Xe 243/\Xy0 244/\Xt 244/\Xf 244/\Xk 244/\Xm 244/\Xn 244/\Xe 244/\Xy0 246/\Xt 246/\Xf 246/\(∀t:TypeId,X.fZ 246 t=(t==110||t==112))/\Xm 246/\Xn 246/\X.sZ 246=ab9/\Xd 247/\Xd 248/\Xd 249/\Xd 250/\Xy0 251/\Xt 251/\Xf 251/\(∀t:TypeId,X.fZ 251 t=(t==110||t==112))/\Xm 251/\Xn 251/\Xe 251/\Xa 252/\Xt 252/\Xf 252/\Xk 252/\X.mask 252=aax/\Xn 252/\X.sZ 252=aca/\Xa 253/\Xt 253/\Xf 253/\(∀t:TypeId,X.fZ 253 t=(t==22))/\Xm 253/\Xn 253/\X.sZ 253=acb/\Xd 254/\Xa 255/\(∀d:Nat,X.oR 255 d=(d==14))/\Xf 255/\(∀t:TypeId,X.fZ 255 t=(t==22))/\Xm 255/\Xn 255/\X.sZ 255=acd/\Xl 256/\(∀d:Nat,X.oR 256 d=(d==72))/\Xf 256/\Xk 256/\Xm 256/\X.norm 256=RE/\X.sZ 256=ace/\Xd 257/\Xd 258/\Xd 259/\Xd 260/\Xd 261/\Xl 262/\Xt 262/\Xf 262/\Xk 262/\Xm 262/\X.norm 262=RF/\Xe 262/\Xd 263/\Xy0 264/\Xt 264/\Xf 264/\(∀t:TypeId,X.fZ 264 t=(t==110||t==112))/\Xm 264/\Xn 264/\X.sZ 264=acf/\Xy0 265/\Xt 265/\Xf 265/\(∀t:TypeId,X.fZ 265 t=(t==110||t==112))/\Xm 265/\Xn 265/\X.sZ 265=acg/\Xd 266/\Xl 267/\Xt 267/\Xf 267/\Xk 267/\Xm 267/\X.norm 267=RG/\Xe 267:=by and_intros<;>first|rfl|exact fun _=>rfl
@[simp]def bn5:Xy0 268/\Xt 268/\Xf 268/\(∀t:TypeId,X.fZ 268 t=(t==110||t==112))/\Xm 268/\Xn 268/\X.sZ 268=ach/\Xy0 270/\Xt 270/\Xf 270/\Xk 270/\Xm 270/\Xn 270/\X.sZ 270=aci/\Xy0 271/\Xt 271/\Xf 271/\(∀t:TypeId,X.fZ 271 t=(t==110||t==112))/\Xm 271/\Xn 271/\Xe 271/\Xd 272/\Xy0 273/\Xt 273/\Xf 273/\(∀t:TypeId,X.fZ 273 t=(t==110||t==112))/\Xm 273/\Xn 273/\Xe 273/\Xd 274/\Xd 275/\Xy0 276/\Xt 276/\Xf 276/\(∀t:TypeId,X.fZ 276 t=(t==110||t==112))/\Xm 276/\Xn 276/\Xe 276/\Xd 277/\Xd 278/\Xl 279/\Xt 279/\Xf 279/\Xk 279/\Xm 279/\X.norm 279=RH/\Xe 279/\Xa 280/\(∀d:Nat,X.oR 280 d=(d==15))/\Xf 280/\(∀t:TypeId,X.fZ 280 t=(t==57))/\Xm 280/\Xn 280/\Xe 280/\Xa 281/\Xt 281/\Xf 281/\Xk 281/\X.mask 281=aay/\Xn 281/\Xe 281/\Xl 282/\Xt 282/\Xf 282/\Xk 282/\X.mask 282=aaz/\X.norm 282=RI/\Xe 282/\Xa 283/\Xt 283/\Xf 283/\Xk 283/\X.mask 283=aa0/\Xn 283/\Xe 283/\Xa 284/\Xt 284/\Xf 284/\Xk 284/\X.mask 284=aa1/\Xn 284/\Xe 284/\Xa 285/\Xt 285/\Xf 285/\Xk 285/\X.mask 285=aa2/\Xn 285/\Xe 285/\Xl 286/\Xt 286/\Xf 286/\Xk 286/\X.mask 286=aa3/\X.norm 286=RK/\Xe 286/\Xl 287/\Xt 287/\Xf 287/\Xk 287/\Xm 287/\X.norm 287=RL/\Xe 287/\Xd 288/\Xd 289/\Xd 290/\Xd 291/\Xy0 292/\Xt 292/\Xf 292/\(∀t:TypeId,X.fZ 292 t=(t==110||t==112))/\Xm 292/\Xn 292/\Xe 292:=by and_intros<;>first|rfl|exact fun _=>rfl
@[simp]def bov:Xd 293/\Xy0 294/\Xt 294/\Xf 294/\(∀t:TypeId,X.fZ 294 t=(t==110||t==112))/\Xm 294/\Xn 294/\Xe 294/\Xd 295/\Xd 296/\Xa 297/\Xt 297/\Xf 297/\Xk 297/\Xm 297/\Xn 297/\X.sZ 297=acj/\Xd 298/\Xd 299/\Xd 300/\Xd 301/\Xd 302:=by and_intros<;>first|rfl|exact fun _=>rfl
end Go.Proofs.YtdngefmliibcgaaGreat
namespace Go.Abs.kI
open Go Go.Abs
variable  {α β:Type}{Q:Ex->St->Prop}{b:Code}{S:St}
def k9{f:α->V}(h: ∀x,(f x).lP=f x)(l:List α):eV (l.map f)=l.map f:=by
 rw[Nm,adB];exact aeG fun x _=>h x
@[simp]def Wh(k:IntKind)(l:List Int):eV (l.map (V.int k))=l.map (V.int k):=k9 (fun _=>rfl) l
structure Cell where
 tag:Int
 val:Int
 deriving DecidableEq,Inhabited
def Cell.e(x:Cell):V:= .agg [.int .u8 x.tag,.int .u16 x.val]
def Cell.bS(x:Cell):x.e= .agg [.int .u8 x.tag,.int .u16 x.val]:=(rfl)
def Cell.eq_iff(x y:Cell):x=y↔x.tag=y.tag/\x.val=y.val:=by cases x;cases y;simp
@[simp]def Cell.je(x:Cell):x.e.cells=[.int .u8 x.tag,.int .u16 x.val]:=(rfl)
@[simp]def awv(l:List Cell):eV (l.map Cell.e)=l.map Cell.e:=k9 (fun x=>by simp[Cell.bS]) l
structure BI where
 region:Int
 offset:Int
 deriving DecidableEq,Inhabited
def BI.e(x:BI):V:= .agg [.int .i64 x.region,.int .i64 x.offset]
def BI.bS(x:BI):x.e= .agg [.int .i64 x.region,.int .i64 x.offset]:=(rfl)
def BI.eq_iff(x y:BI):x=y↔x.region=y.region/\x.offset=y.offset:=by cases x;cases y;simp
@[simp]def BI.je(x:BI):x.e.cells=[.int .i64 x.region,.int .i64 x.offset]:=(rfl)
structure Layout where
 aD:List Int
 key:Int
 deriving DecidableEq,Inhabited
def Layout.e(x:Layout):V:= .agg [.sl false (x.aD.map (V.int .i64)),.int .u16 x.key]
def Layout.bS(x:Layout):x.e= .agg [.sl false (x.aD.map (V.int .i64)),.int .u16 x.key]:=(rfl)
def Layout.eq_iff(x y:Layout):x=y↔x.aD=y.aD/\x.key=y.key:=by cases x;cases y;simp
@[simp]def Layout.je(x:Layout):x.e.cells=[.sl false (x.aD.map (V.int .i64)),.int .u16 x.key]:=(rfl)
structure cw where
 tag:Int
 iW:Bool
 cells:List Cell
 deriving DecidableEq,Inhabited
def cw.e(x:cw):V:= .agg [.int .i64 x.tag,.bool x.iW,.sl false (x.cells.map Cell.e)]
def cw.bS(x:cw):x.e= .agg [.int .i64 x.tag,.bool x.iW,.sl false (x.cells.map Cell.e)]:=(rfl)
def cw.eq_iff(x y:cw):x=y↔x.tag=y.tag/\x.iW=y.iW/\x.cells=y.cells:=by cases x;cases y;simp
@[simp]def cw.je(x:cw):x.e.cells=[.int .i64 x.tag,.bool x.iW,.sl false (x.cells.map Cell.e)]:=(rfl)
@[simp]def aww(l:List cw):eV (l.map cw.e)=l.map cw.e:=k9 (fun x=>by simp[cw.bS]) l
structure aF where
 cells:List Cell
 lines:List cw
 deriving DecidableEq,Inhabited
def aF.e(x:aF):V:= .agg [.sl false (x.cells.map Cell.e),.sl false (x.lines.map cw.e)]
def aF.bS(x:aF):x.e= .agg [.sl false (x.cells.map Cell.e),.sl false (x.lines.map cw.e)]:=(rfl)
def aF.eq_iff(x y:aF):x=y↔x.cells=y.cells/\x.lines=y.lines:=by cases x;cases y;simp
@[simp]def aF.je(x:aF):x.e.cells=[.sl false (x.cells.map Cell.e),.sl false (x.lines.map cw.e)]:=(rfl)
structure Instr where
 op:Int
 a:Int
 b:Int
 c:Int
 eu:Int
 deriving DecidableEq,Inhabited
def Instr.e(x:Instr):V:= .agg [.int .i64 x.op,.int .i64 x.a,.int .i64 x.b,.int .i64 x.c,.int .i64 x.eu]
def Instr.bS(x:Instr):x.e= .agg [.int .i64 x.op,.int .i64 x.a,.int .i64 x.b,.int .i64 x.c,.int .i64 x.eu]:=(rfl)
def Instr.eq_iff(x y:Instr):x=y↔x.op=y.op/\x.a=y.a/\x.b=y.b/\x.c=y.c/\x.eu=y.eu:=by cases x;cases y;simp
@[simp]def Instr.je(x:Instr):x.e.cells=[.int .i64 x.op,.int .i64 x.a,.int .i64 x.b,.int .i64 x.c,.int .i64 x.eu]:=(rfl)
@[simp]def as8(l:List Instr):eV (l.map Instr.e)=l.map Instr.e:=k9 (fun x=>by simp[Instr.bS]) l
def aV(x:List Int):V:= .sl false (x.map (V.int .u16))
def AQ(x:List Int):aV x= .sl false (x.map (V.int .u16)):=(rfl)
@[simp]def Wi(x:List Int):(aV x).cells=[.sl false (x.map (V.int .u16))]:=(rfl)
@[simp]def JD(l:List (List Int)):eV (l.map aV)=l.map aV:=k9 (fun x=>by simp[AQ]) l
structure Prog where
 code:List Instr
 an:List Int
 data:List (List Int)
 deriving DecidableEq,Inhabited
def Prog.e(x:Prog):V:= .agg [.sl false (x.code.map Instr.e),.sl false (x.an.map (V.int .i64)),.sl false (x.data.map aV)]
def Prog.bS(x:Prog):x.e= .agg [.sl false (x.code.map Instr.e),.sl false (x.an.map (V.int .i64)),.sl false (x.data.map aV)]:=(rfl)
def Prog.eq_iff(x y:Prog):x=y↔x.code=y.code/\x.an=y.an/\x.data=y.data:=by cases x;cases y;simp
@[simp]def Prog.je(x:Prog):x.e.cells=[.sl false (x.code.map Instr.e),.sl false (x.an.map (V.int .i64)),.sl false (x.data.map aV)]:=(rfl)
structure Thread where
 state:Int
 bp:List Cell
 pc:Int
 count:Int
 cp:Int
 saved:Int
 dr:Int
 code:Int
 deriving DecidableEq,Inhabited
def Thread.e(x:Thread):V:= .agg [.int .i64 x.state,.sl false (x.bp.map Cell.e),.int .i64 x.pc,.int .i64 x.count,.int .i64 x.cp,.int .i64 x.saved,.int .i64 x.dr,.int .u16 x.code]
def Thread.bS(x:Thread):x.e= .agg [.int .i64 x.state,.sl false (x.bp.map Cell.e),.int .i64 x.pc,.int .i64 x.count,.int .i64 x.cp,.int .i64 x.saved,.int .i64 x.dr,.int .u16 x.code]:=(rfl)
def Thread.eq_iff(x y:Thread):x=y↔x.state=y.state/\x.bp=y.bp/\x.pc=y.pc/\x.count=y.count/\x.cp=y.cp/\x.saved=y.saved/\x.dr=y.dr/\x.code=y.code:=by cases x;cases y;simp
@[simp]def Thread.je(x:Thread):x.e.cells=[.int .i64 x.state,.sl false (x.bp.map Cell.e),.int .i64 x.pc,.int .i64 x.count,.int .i64 x.cp,.int .i64 x.saved,.int .i64 x.dr,.int .u16 x.code]:=(rfl)
@[simp]def apo(l:List Thread):eV (l.map Thread.e)=l.map Thread.e:=k9 (fun x=>by simp[Thread.bS]) l
structure aO where
 layout:Layout
 memory:aF
 threads:List Thread
 deriving DecidableEq,Inhabited
def aO.e(x:aO):V:= .agg [.sl false (x.layout.aD.map (V.int .i64)),.int .u16 x.layout.key,.sl false (x.memory.cells.map Cell.e),.sl false (x.memory.lines.map cw.e),.sl false (x.threads.map Thread.e)]
def aO.bS(x:aO):x.e= .agg [.sl false (x.layout.aD.map (V.int .i64)),.int .u16 x.layout.key,.sl false (x.memory.cells.map Cell.e),.sl false (x.memory.lines.map cw.e),.sl false (x.threads.map Thread.e)]:=(rfl)
def aO.eq_iff(x y:aO):x=y↔x.layout=y.layout/\x.memory=y.memory/\x.threads=y.threads:=by cases x;cases y;simp
@[simp]def aO.je(x:aO):x.e.cells=[.sl false (x.layout.aD.map (V.int .i64)),.int .u16 x.layout.key,.sl false (x.memory.cells.map Cell.e),.sl false (x.memory.lines.map cw.e),.sl false (x.threads.map Thread.e)]:=(rfl)
structure Canon where
 tag:Int
 val:Int
 region:Int
 offset:Int
 deriving DecidableEq,Inhabited
def Canon.e(x:Canon):V:= .agg [.int .u8 x.tag,.int .u16 x.val,.int .i64 x.region,.int .i64 x.offset]
def Canon.bS(x:Canon):x.e= .agg [.int .u8 x.tag,.int .u16 x.val,.int .i64 x.region,.int .i64 x.offset]:=(rfl)
def Canon.eq_iff(x y:Canon):x=y↔x.tag=y.tag/\x.val=y.val/\x.region=y.region/\x.offset=y.offset:=by cases x;cases y;simp
@[simp]def Canon.je(x:Canon):x.e.cells=[.int .u8 x.tag,.int .u16 x.val,.int .i64 x.region,.int .i64 x.offset]:=(rfl)
@[simp]def as9(l:List Canon):eV (l.map Canon.e)=l.map Canon.e:=k9 (fun x=>by simp[Canon.bS]) l
structure Request where
 dd:Int
 stop:Int
 dr:Int
 count:Int
 pc:Int
 call:Int
 args:List Canon
 data:List Canon
 deriving DecidableEq,Inhabited
def Request.e(x:Request):V:= .agg [.int .i64 x.dd,.int .i64 x.stop,.int .i64 x.dr,.int .i64 x.count,.int .i64 x.pc,.int .i64 x.call,.sl false (x.args.map Canon.e),.sl false (x.data.map Canon.e)]
def Request.bS(x:Request):x.e= .agg [.int .i64 x.dd,.int .i64 x.stop,.int .i64 x.dr,.int .i64 x.count,.int .i64 x.pc,.int .i64 x.call,.sl false (x.args.map Canon.e),.sl false (x.data.map Canon.e)]:=(rfl)
def Request.eq_iff(x y:Request):x=y↔x.dd=y.dd/\x.stop=y.stop/\x.dr=y.dr/\x.count=y.count/\x.pc=y.pc/\x.call=y.call/\x.args=y.args/\x.data=y.data:=by cases x;cases y;simp
@[simp]def Request.je(x:Request):x.e.cells=[.int .i64 x.dd,.int .i64 x.stop,.int .i64 x.dr,.int .i64 x.count,.int .i64 x.pc,.int .i64 x.call,.sl false (x.args.map Canon.e),.sl false (x.data.map Canon.e)]:=(rfl)
structure lO where
 value:Canon
 data:List Canon
 spawn:Int
 wait:Bool
 deriving DecidableEq,Inhabited
def lO.e(x:lO):V:= .agg [.int .u8 x.value.tag,.int .u16 x.value.val,.int .i64 x.value.region,.int .i64 x.value.offset,.sl false (x.data.map Canon.e),.int .i64 x.spawn,.bool x.wait]
def lO.bS(x:lO):x.e= .agg [.int .u8 x.value.tag,.int .u16 x.value.val,.int .i64 x.value.region,.int .i64 x.value.offset,.sl false (x.data.map Canon.e),.int .i64 x.spawn,.bool x.wait]:=(rfl)
def lO.eq_iff(x y:lO):x=y↔x.value=y.value/\x.data=y.data/\x.spawn=y.spawn/\x.wait=y.wait:=by cases x;cases y;simp
@[simp]def lO.je(x:lO):x.e.cells=[.int .u8 x.value.tag,.int .u16 x.value.val,.int .i64 x.value.region,.int .i64 x.value.offset,.sl false (x.data.map Canon.e),.int .i64 x.spawn,.bool x.wait]:=(rfl)
structure View where
 state:Int
 pc:Int
 count:Int
 cp:Int
 saved:Int
 dr:Int
 code:Int
 bp:List Canon
 deriving DecidableEq,Inhabited
def View.e(x:View):V:= .agg [.int .i64 x.state,.int .i64 x.pc,.int .i64 x.count,.int .i64 x.cp,.int .i64 x.saved,.int .i64 x.dr,.int .u16 x.code,.sl false (x.bp.map Canon.e)]
def View.bS(x:View):x.e= .agg [.int .i64 x.state,.int .i64 x.pc,.int .i64 x.count,.int .i64 x.cp,.int .i64 x.saved,.int .i64 x.dr,.int .u16 x.code,.sl false (x.bp.map Canon.e)]:=(rfl)
def View.eq_iff(x y:View):x=y↔x.state=y.state/\x.pc=y.pc/\x.count=y.count/\x.cp=y.cp/\x.saved=y.saved/\x.dr=y.dr/\x.code=y.code/\x.bp=y.bp:=by cases x;cases y;simp
@[simp]def View.je(x:View):x.e.cells=[.int .i64 x.state,.int .i64 x.pc,.int .i64 x.count,.int .i64 x.cp,.int .i64 x.saved,.int .i64 x.dr,.int .u16 x.code,.sl false (x.bp.map Canon.e)]:=(rfl)
@[simp]def awx(l:List View):eV (l.map View.e)=l.map View.e:=k9 (fun x=>by simp[View.bS]) l
def bz(x:List Canon):V:= .sl false (x.map Canon.e)
def tD(x:List Canon):bz x= .sl false (x.map Canon.e):=(rfl)
@[simp]def RM(x:List Canon):(bz x).cells=[.sl false (x.map Canon.e)]:=(rfl)
@[simp]def NH(l:List (List Canon)):eV (l.map bz)=l.map bz:=k9 (fun x=>by simp[tD]) l
structure State where
 regions:List (List Canon)
 threads:List View
 deriving DecidableEq,Inhabited
def State.e(x:State):V:= .agg [.sl false (x.regions.map bz),.sl false (x.threads.map View.e)]
def State.bS(x:State):x.e= .agg [.sl false (x.regions.map bz),.sl false (x.threads.map View.e)]:=(rfl)
def State.eq_iff(x y:State):x=y↔x.regions=y.regions/\x.threads=y.threads:=by cases x;cases y;simp
@[simp]def State.je(x:State):x.e.cells=[.sl false (x.regions.map bz),.sl false (x.threads.map View.e)]:=(rfl)
def de(x:List Int):V:= .sl false (x.map (V.int .i64))
def kA(x:List Int):de x= .sl false (x.map (V.int .i64)):=(rfl)
@[simp]def Wj(x:List Int):(de x).cells=[.sl false (x.map (V.int .i64))]:=(rfl)
@[simp]def JE(l:List (List Int)):eV (l.map de)=l.map de:=k9 (fun x=>by simp[kA]) l
structure bY where
 owner:List Int
 queue:List (List Int)
 deriving DecidableEq,Inhabited
def bY.e(x:bY):V:= .agg [.sl false (x.owner.map (V.int .i64)),.sl false (x.queue.map de)]
def bY.bS(x:bY):x.e= .agg [.sl false (x.owner.map (V.int .i64)),.sl false (x.queue.map de)]:=(rfl)
def bY.eq_iff(x y:bY):x=y↔x.owner=y.owner/\x.queue=y.queue:=by cases x;cases y;simp
@[simp]def bY.je(x:bY):x.e.cells=[.sl false (x.owner.map (V.int .i64)),.sl false (x.queue.map de)]:=(rfl)
structure fQ where
 file:Int
 offset:Int
 write:Bool
 deriving DecidableEq,Inhabited
def fQ.e(x:fQ):V:= .agg [.int .i64 x.file,.int .i64 x.offset,.bool x.write]
def fQ.bS(x:fQ):x.e= .agg [.int .i64 x.file,.int .i64 x.offset,.bool x.write]:=(rfl)
def fQ.eq_iff(x y:fQ):x=y↔x.file=y.file/\x.offset=y.offset/\x.write=y.write:=by cases x;cases y;simp
@[simp]def fQ.je(x:fQ):x.e.cells=[.int .i64 x.file,.int .i64 x.offset,.bool x.write]:=(rfl)
@[simp]def a0k(l:List fQ):eV (l.map fQ.e)=l.map fQ.e:=k9 (fun x=>by simp[fQ.bS]) l
structure bJ where
 data:List (List Canon)
 opens:List fQ
 deriving DecidableEq,Inhabited
def bJ.e(x:bJ):V:= .agg [.sl false (x.data.map bz),.sl false (x.opens.map fQ.e)]
def bJ.bS(x:bJ):x.e= .agg [.sl false (x.data.map bz),.sl false (x.opens.map fQ.e)]:=(rfl)
def bJ.eq_iff(x y:bJ):x=y↔x.data=y.data/\x.opens=y.opens:=by cases x;cases y;simp
@[simp]def bJ.je(x:bJ):x.e.cells=[.sl false (x.data.map bz),.sl false (x.opens.map fQ.e)]:=(rfl)
structure Output where
 seq:Int
 socket:Int
 data:List Canon
 deriving DecidableEq,Inhabited
def Output.e(x:Output):V:= .agg [.int .i64 x.seq,.int .i64 x.socket,.sl false (x.data.map Canon.e)]
def Output.bS(x:Output):x.e= .agg [.int .i64 x.seq,.int .i64 x.socket,.sl false (x.data.map Canon.e)]:=(rfl)
def Output.eq_iff(x y:Output):x=y↔x.seq=y.seq/\x.socket=y.socket/\x.data=y.data:=by cases x;cases y;simp
@[simp]def Output.je(x:Output):x.e.cells=[.int .i64 x.seq,.int .i64 x.socket,.sl false (x.data.map Canon.e)]:=(rfl)
@[simp]def apq(l:List Output):eV (l.map Output.e)=l.map Output.e:=k9 (fun x=>by simp[Output.bS]) l
structure cU where
 clock:List Int
 random:List Int
 dw:List (List Int)
 files:bJ
 dH:List Output
 deriving DecidableEq,Inhabited
def cU.e(x:cU):V:= .agg [.sl false (x.clock.map (V.int .u16)),.sl false (x.random.map (V.int .u16)),.sl false (x.dw.map aV),.sl false (x.files.data.map bz),.sl false (x.files.opens.map fQ.e),.sl false (x.dH.map Output.e)]
def cU.bS(x:cU):x.e= .agg [.sl false (x.clock.map (V.int .u16)),.sl false (x.random.map (V.int .u16)),.sl false (x.dw.map aV),.sl false (x.files.data.map bz),.sl false (x.files.opens.map fQ.e),.sl false (x.dH.map Output.e)]:=(rfl)
def cU.eq_iff(x y:cU):x=y↔x.clock=y.clock/\x.random=y.random/\x.dw=y.dw/\x.files=y.files/\x.dH=y.dH:=by cases x;cases y;simp
@[simp]def cU.je(x:cU):x.e.cells=[.sl false (x.clock.map (V.int .u16)),.sl false (x.random.map (V.int .u16)),.sl false (x.dw.map aV),.sl false (x.files.data.map bz),.sl false (x.files.opens.map fQ.e),.sl false (x.dH.map Output.e)]:=(rfl)
structure Entry where
 kind:Int
 dd:Int
 n:Int
 request:Request
 result:lO
 deriving DecidableEq,Inhabited
def Entry.e(x:Entry):V:= .agg [.int .i64 x.kind,.int .i64 x.dd,.int .i64 x.n,.int .i64 x.request.dd,.int .i64 x.request.stop,.int .i64 x.request.dr,.int .i64 x.request.count,.int .i64 x.request.pc,.int .i64 x.request.call,.sl false (x.request.args.map Canon.e),.sl false (x.request.data.map Canon.e),.int .u8 x.result.value.tag,.int .u16 x.result.value.val,.int .i64 x.result.value.region,.int .i64 x.result.value.offset,.sl false (x.result.data.map Canon.e),.int .i64 x.result.spawn,.bool x.result.wait]
def Entry.bS(x:Entry):x.e= .agg [.int .i64 x.kind,.int .i64 x.dd,.int .i64 x.n,.int .i64 x.request.dd,.int .i64 x.request.stop,.int .i64 x.request.dr,.int .i64 x.request.count,.int .i64 x.request.pc,.int .i64 x.request.call,.sl false (x.request.args.map Canon.e),.sl false (x.request.data.map Canon.e),.int .u8 x.result.value.tag,.int .u16 x.result.value.val,.int .i64 x.result.value.region,.int .i64 x.result.value.offset,.sl false (x.result.data.map Canon.e),.int .i64 x.result.spawn,.bool x.result.wait]:=(rfl)
def Entry.eq_iff(x y:Entry):x=y↔x.kind=y.kind/\x.dd=y.dd/\x.n=y.n/\x.request=y.request/\x.result=y.result:=by cases x;cases y;simp
@[simp]def Entry.je(x:Entry):x.e.cells=[.int .i64 x.kind,.int .i64 x.dd,.int .i64 x.n,.int .i64 x.request.dd,.int .i64 x.request.stop,.int .i64 x.request.dr,.int .i64 x.request.count,.int .i64 x.request.pc,.int .i64 x.request.call,.sl false (x.request.args.map Canon.e),.sl false (x.request.data.map Canon.e),.int .u8 x.result.value.tag,.int .u16 x.result.value.val,.int .i64 x.result.value.region,.int .i64 x.result.value.offset,.sl false (x.result.data.map Canon.e),.int .i64 x.result.spawn,.bool x.result.wait]:=(rfl)
@[simp]def ata(l:List Entry):eV (l.map Entry.e)=l.map Entry.e:=k9 (fun x=>by simp[Entry.bS]) l
structure Choice where
 dd:Int
 fU:Int
 CN:Bool
 deriving DecidableEq,Inhabited
def Choice.e(x:Choice):V:= .agg [.int .i64 x.dd,.int .i64 x.fU,.bool x.CN]
def Choice.bS(x:Choice):x.e= .agg [.int .i64 x.dd,.int .i64 x.fU,.bool x.CN]:=(rfl)
def Choice.eq_iff(x y:Choice):x=y↔x.dd=y.dd/\x.fU=y.fU/\x.CN=y.CN:=by cases x;cases y;simp
@[simp]def Choice.je(x:Choice):x.e.cells=[.int .i64 x.dd,.int .i64 x.fU,.bool x.CN]:=(rfl)
structure uN where
 program:Prog
 machine:aO
 outside:cU
 wh:bY
 record:List Entry
 xM:List Int
 deriving DecidableEq,Inhabited
def uN.e(x:uN):V:= .agg [.sl false (x.program.code.map Instr.e),.sl false (x.program.an.map (V.int .i64)),.sl false (x.program.data.map aV),.sl false (x.machine.layout.aD.map (V.int .i64)),.int .u16 x.machine.layout.key,.sl false (x.machine.memory.cells.map Cell.e),.sl false (x.machine.memory.lines.map cw.e),.sl false (x.machine.threads.map Thread.e),.sl false (x.outside.clock.map (V.int .u16)),.sl false (x.outside.random.map (V.int .u16)),.sl false (x.outside.dw.map aV),.sl false (x.outside.files.data.map bz),.sl false (x.outside.files.opens.map fQ.e),.sl false (x.outside.dH.map Output.e),.sl false (x.wh.owner.map (V.int .i64)),.sl false (x.wh.queue.map de),.sl false (x.record.map Entry.e),.sl false (x.xM.map (V.int .i64))]
def uN.bS(x:uN):x.e= .agg [.sl false (x.program.code.map Instr.e),.sl false (x.program.an.map (V.int .i64)),.sl false (x.program.data.map aV),.sl false (x.machine.layout.aD.map (V.int .i64)),.int .u16 x.machine.layout.key,.sl false (x.machine.memory.cells.map Cell.e),.sl false (x.machine.memory.lines.map cw.e),.sl false (x.machine.threads.map Thread.e),.sl false (x.outside.clock.map (V.int .u16)),.sl false (x.outside.random.map (V.int .u16)),.sl false (x.outside.dw.map aV),.sl false (x.outside.files.data.map bz),.sl false (x.outside.files.opens.map fQ.e),.sl false (x.outside.dH.map Output.e),.sl false (x.wh.owner.map (V.int .i64)),.sl false (x.wh.queue.map de),.sl false (x.record.map Entry.e),.sl false (x.xM.map (V.int .i64))]:=(rfl)
def uN.eq_iff(x y:uN):x=y↔x.program=y.program/\x.machine=y.machine/\x.outside=y.outside/\x.wh=y.wh/\x.record=y.record/\x.xM=y.xM:=by cases x;cases y;simp
@[simp]def uN.je(x:uN):x.e.cells=[.sl false (x.program.code.map Instr.e),.sl false (x.program.an.map (V.int .i64)),.sl false (x.program.data.map aV),.sl false (x.machine.layout.aD.map (V.int .i64)),.int .u16 x.machine.layout.key,.sl false (x.machine.memory.cells.map Cell.e),.sl false (x.machine.memory.lines.map cw.e),.sl false (x.machine.threads.map Thread.e),.sl false (x.outside.clock.map (V.int .u16)),.sl false (x.outside.random.map (V.int .u16)),.sl false (x.outside.dw.map aV),.sl false (x.outside.files.data.map bz),.sl false (x.outside.files.opens.map fQ.e),.sl false (x.outside.dH.map Output.e),.sl false (x.wh.owner.map (V.int .i64)),.sl false (x.wh.queue.map de),.sl false (x.record.map Entry.e),.sl false (x.xM.map (V.int .i64))]:=(rfl)
structure cS where
 time:Int
 dL:Int
 kind:Int
 dd:Int
 nV:Int
 bit:Int
 deriving DecidableEq,Inhabited
def cS.e(x:cS):V:= .agg [.int .i64 x.time,.int .i64 x.dL,.int .i64 x.kind,.int .i64 x.dd,.int .i64 x.nV,.int .i64 x.bit]
def cS.bS(x:cS):x.e= .agg [.int .i64 x.time,.int .i64 x.dL,.int .i64 x.kind,.int .i64 x.dd,.int .i64 x.nV,.int .i64 x.bit]:=(rfl)
def cS.eq_iff(x y:cS):x=y↔x.time=y.time/\x.dL=y.dL/\x.kind=y.kind/\x.dd=y.dd/\x.nV=y.nV/\x.bit=y.bit:=by cases x;cases y;simp
@[simp]def cS.je(x:cS):x.e.cells=[.int .i64 x.time,.int .i64 x.dL,.int .i64 x.kind,.int .i64 x.dd,.int .i64 x.nV,.int .i64 x.bit]:=(rfl)
@[simp]def atb(l:List cS):eV (l.map cS.e)=l.map cS.e:=k9 (fun x=>by simp[cS.bS]) l
structure Reader where
 b:List Int
 short:Bool
 deriving DecidableEq,Inhabited
def Reader.e(x:Reader):V:= .agg [.sl false (x.b.map (V.int .u8)),.bool x.short]
instance:Coe Int V:=⟨V.int .i64⟩
instance:Coe Bool V:=⟨V.bool⟩
instance:Coe (List Int) V:=⟨fun x=> .sl false (x.map (V.int .i64))⟩
instance:Coe (List Instr) V:=⟨fun x=> .sl false (x.map Instr.e)⟩
instance:Coe (List Cell) V:=⟨fun x=> .sl false (x.map Cell.e)⟩
instance:Coe (List Thread) V:=⟨fun x=> .sl false (x.map Thread.e)⟩
instance:Coe (List Canon) V:=⟨fun x=> .sl false (x.map Canon.e)⟩
instance:Coe (List Output) V:=⟨fun x=> .sl false (x.map Output.e)⟩
instance:Coe (List View) V:=⟨fun x=> .sl false (x.map View.e)⟩
instance:Coe (List Entry) V:=⟨fun x=> .sl false (x.map Entry.e)⟩
instance:Coe (List cw) V:=⟨fun x=> .sl false (x.map cw.e)⟩
instance:Coe (List fQ) V:=⟨fun x=> .sl false (x.map fQ.e)⟩
instance:Coe (List (List Int)) V:=⟨fun x=> .sl false (x.map aV)⟩
instance:Coe (List (List Canon)) V:=⟨fun x=> .sl false (x.map bz)⟩
inductive Qf where|KKK(x:aO)|KKQ(a0:List Instr)(a1:List Int)(a2:List (List Int))|KKJ(a0:List Instr)(a1:List Int)(a2:List (List Int))(a3:List Int)(a4:Int)(a5:List Cell)(a6:List cw)(a7:List Thread)(a8:List Int)(a9:List Int)(a10:List (List Int))(a11:List (List Canon))(a12:List fQ)(a13:List Output)(a14:List Int)(a15:List (List Int))(a16:List Entry)(a17:List Int)|KKX(x:uN)|KKY(a0:List Int)(a1:Int)(a2:List Cell)(a3:List cw)(a4:List Thread)|KKZ(a0:Int)(a1:Int)(a2:Int)(a3:Int)(a4:Int)(a5:Int)(a6:List Canon)(a7:List Canon)|KKW(x:Request)|KKU(a0:Int)(a1:Int)(a2:Int)(a3:Int)(a4:Int)|KKa(a0:List Int)(a1:Int)|KKb(a0:Int)(a1:Int)(a2:Int)(a3:Int)(a4:List Canon)(a5:Int)(a6:Bool)|KKc(a0:List Int)(a1:Int)|KKd(a0:Int)(a1:V)(a2:Int)(a3:Int)(a4:Int)(a5:Int)(a6:Int)(a7:Int)|KKe(x:Thread)|KKf(x:Cell)|KKg(a0:Int)(a1:List Cell)(a2:Int)(a3:Int)(a4:Int)(a5:Int)(a6:Int)(a7:Int)|KKh(x:cU)|KKi(x:Prog)|KKj(x:Entry)|KKk(a0:List (List Canon))(a1:List fQ)|KKl(x:lO)|KKm(a0:Int)(a1:Int)(a2:Int)(a3:Int)(a4:Int)(a5:Int)(a6:Int)(a7:Int)(a8:Int)(a9:List Canon)(a10:List Canon)(a11:Int)(a12:Int)(a13:Int)(a14:Int)(a15:List Canon)(a16:Int)(a17:Bool)|KKn(a0:List Int)(a1:List Int)(a2:List (List Int))(a3:List (List Canon))(a4:List fQ)(a5:List Output)|KKo(a0:Int)(a1:Int)|KKp(a0:List Cell)(a1:List cw)|KKq(x:bY)|KKr(x:bJ)|KKs(x:Canon)|KKt(a0:Int)(a1:Bool)(a2:V)|KKu(x:cS)|KKv(x:Instr)|KKw(a0:List Int)(a1:List (List Int))|KKx(a0:List (List Canon))(a1:List View)|KKy(a0:Int)(a1:Int)(a2:Int)(a3:Int)|KKz(x:BI)|KKA(x:aF)|KKB(x:Layout)|KKC(a0:Int)(a1:Int)|KKD(a0:List Int)(a1:Int)(a2:V)(a3:List cw)(a4:V)|KKE(a0:V)(a1:Int)(a2:V)(a3:V)(a4:V)
open Qf
variable  {α β:Type}{Q:Ex->St->Prop}{b:Code}{S:St}
instance(x:aO):CoeDep Qf (KKK x) V:=⟨.agg [.sl false (x.layout.aD.map (V.int .i64)),.int .u16 x.layout.key,.sl false (x.memory.cells.map Cell.e),.sl false (x.memory.lines.map cw.e),.sl false (x.threads.map Thread.e)]⟩
instance(a0:List Instr)(a1:List Int)(a2:List (List Int)):CoeDep Qf (KKQ a0 a1 a2) V:=⟨.agg [.sl false (a0.map Instr.e),.sl false (a1.map (V.int .i64)),.sl false (a2.map aV)]⟩
instance(a0:List Instr)(a1:List Int)(a2:List (List Int))(a3:List Int)(a4:Int)(a5:List Cell)(a6:List cw)(a7:List Thread)(a8:List Int)(a9:List Int)(a10:List (List Int))(a11:List (List Canon))(a12:List fQ)(a13:List Output)(a14:List Int)(a15:List (List Int))(a16:List Entry)(a17:List Int):CoeDep Qf (KKJ a0 a1 a2 a3 a4 a5 a6 a7 a8 a9 a10 a11 a12 a13 a14 a15 a16 a17) V:=⟨.agg [.sl false (a0.map Instr.e),.sl false (a1.map (V.int .i64)),.sl false (a2.map aV),.sl false (a3.map (V.int .i64)),.int .u16 a4,.sl false (a5.map Cell.e),.sl false (a6.map cw.e),.sl false (a7.map Thread.e),.sl false (a8.map (V.int .u16)),.sl false (a9.map (V.int .u16)),.sl false (a10.map aV),.sl false (a11.map bz),.sl false (a12.map fQ.e),.sl false (a13.map Output.e),.sl false (a14.map (V.int .i64)),.sl false (a15.map de),.sl false (a16.map Entry.e),.sl false (a17.map (V.int .i64))]⟩
instance(x:uN):CoeDep Qf (KKX x) V:=⟨.agg [.sl false (x.program.code.map Instr.e),.sl false (x.program.an.map (V.int .i64)),.sl false (x.program.data.map aV),.sl false (x.machine.layout.aD.map (V.int .i64)),.int .u16 x.machine.layout.key,.sl false (x.machine.memory.cells.map Cell.e),.sl false (x.machine.memory.lines.map cw.e),.sl false (x.machine.threads.map Thread.e),.sl false (x.outside.clock.map (V.int .u16)),.sl false (x.outside.random.map (V.int .u16)),.sl false (x.outside.dw.map aV),.sl false (x.outside.files.data.map bz),.sl false (x.outside.files.opens.map fQ.e),.sl false (x.outside.dH.map Output.e),.sl false (x.wh.owner.map (V.int .i64)),.sl false (x.wh.queue.map de),.sl false (x.record.map Entry.e),.sl false (x.xM.map (V.int .i64))]⟩
instance(a0:List Int)(a1:Int)(a2:List Cell)(a3:List cw)(a4:List Thread):CoeDep Qf (KKY a0 a1 a2 a3 a4) V:=⟨.agg [.sl false (a0.map (V.int .i64)),.int .u16 a1,.sl false (a2.map Cell.e),.sl false (a3.map cw.e),.sl false (a4.map Thread.e)]⟩
instance(a0:Int)(a1:Int)(a2:Int)(a3:Int)(a4:Int)(a5:Int)(a6:List Canon)(a7:List Canon):CoeDep Qf (KKZ a0 a1 a2 a3 a4 a5 a6 a7) V:=⟨.agg [.int .i64 a0,.int .i64 a1,.int .i64 a2,.int .i64 a3,.int .i64 a4,.int .i64 a5,.sl false (a6.map Canon.e),.sl false (a7.map Canon.e)]⟩
instance(x:Request):CoeDep Qf (KKW x) V:=⟨.agg [.int .i64 x.dd,.int .i64 x.stop,.int .i64 x.dr,.int .i64 x.count,.int .i64 x.pc,.int .i64 x.call,.sl false (x.args.map Canon.e),.sl false (x.data.map Canon.e)]⟩
instance(a0:Int)(a1:Int)(a2:Int)(a3:Int)(a4:Int):CoeDep Qf (KKU a0 a1 a2 a3 a4) V:=⟨.agg [.int .i64 a0,.int .i64 a1,.int .i64 a2,.int .i64 a3,.int .i64 a4]⟩
instance(a0:List Int)(a1:Int):CoeDep Qf (KKa a0 a1) V:=⟨.agg [.sl false (a0.map (V.int .i64)),.int .i64 a1]⟩
instance(a0:Int)(a1:Int)(a2:Int)(a3:Int)(a4:List Canon)(a5:Int)(a6:Bool):CoeDep Qf (KKb a0 a1 a2 a3 a4 a5 a6) V:=⟨.agg [.int .u8 a0,.int .u16 a1,.int .i64 a2,.int .i64 a3,.sl false (a4.map Canon.e),.int .i64 a5,.bool a6]⟩
instance(a0:List Int)(a1:Int):CoeDep Qf (KKc a0 a1) V:=⟨.agg [.sl false (a0.map (V.int .i64)),.int .u16 a1]⟩
instance(a0:Int)(a1:V)(a2:Int)(a3:Int)(a4:Int)(a5:Int)(a6:Int)(a7:Int):CoeDep Qf (KKd a0 a1 a2 a3 a4 a5 a6 a7) V:=⟨.agg [.int .i64 a0,a1,.int .i64 a2,.int .i64 a3,.int .i64 a4,.int .i64 a5,.int .i64 a6,.int .u16 a7]⟩
instance(x:Thread):CoeDep Qf (KKe x) V:=⟨.agg [.int .i64 x.state,.sl false (x.bp.map Cell.e),.int .i64 x.pc,.int .i64 x.count,.int .i64 x.cp,.int .i64 x.saved,.int .i64 x.dr,.int .u16 x.code]⟩
instance(x:Cell):CoeDep Qf (KKf x) V:=⟨.agg [.int .u8 x.tag,.int .u16 x.val]⟩
instance(a0:Int)(a1:List Cell)(a2:Int)(a3:Int)(a4:Int)(a5:Int)(a6:Int)(a7:Int):CoeDep Qf (KKg a0 a1 a2 a3 a4 a5 a6 a7) V:=⟨.agg [.int .i64 a0,.sl false (a1.map Cell.e),.int .i64 a2,.int .i64 a3,.int .i64 a4,.int .i64 a5,.int .i64 a6,.int .u16 a7]⟩
instance(x:cU):CoeDep Qf (KKh x) V:=⟨.agg [.sl false (x.clock.map (V.int .u16)),.sl false (x.random.map (V.int .u16)),.sl false (x.dw.map aV),.sl false (x.files.data.map bz),.sl false (x.files.opens.map fQ.e),.sl false (x.dH.map Output.e)]⟩
instance(x:Prog):CoeDep Qf (KKi x) V:=⟨.agg [.sl false (x.code.map Instr.e),.sl false (x.an.map (V.int .i64)),.sl false (x.data.map aV)]⟩
instance(x:Entry):CoeDep Qf (KKj x) V:=⟨.agg [.int .i64 x.kind,.int .i64 x.dd,.int .i64 x.n,.int .i64 x.request.dd,.int .i64 x.request.stop,.int .i64 x.request.dr,.int .i64 x.request.count,.int .i64 x.request.pc,.int .i64 x.request.call,.sl false (x.request.args.map Canon.e),.sl false (x.request.data.map Canon.e),.int .u8 x.result.value.tag,.int .u16 x.result.value.val,.int .i64 x.result.value.region,.int .i64 x.result.value.offset,.sl false (x.result.data.map Canon.e),.int .i64 x.result.spawn,.bool x.result.wait]⟩
instance(a0:List (List Canon))(a1:List fQ):CoeDep Qf (KKk a0 a1) V:=⟨.agg [.sl false (a0.map bz),.sl false (a1.map fQ.e)]⟩
instance(x:lO):CoeDep Qf (KKl x) V:=⟨.agg [.int .u8 x.value.tag,.int .u16 x.value.val,.int .i64 x.value.region,.int .i64 x.value.offset,.sl false (x.data.map Canon.e),.int .i64 x.spawn,.bool x.wait]⟩
instance(a0:Int)(a1:Int)(a2:Int)(a3:Int)(a4:Int)(a5:Int)(a6:Int)(a7:Int)(a8:Int)(a9:List Canon)(a10:List Canon)(a11:Int)(a12:Int)(a13:Int)(a14:Int)(a15:List Canon)(a16:Int)(a17:Bool):CoeDep Qf (KKm a0 a1 a2 a3 a4 a5 a6 a7 a8 a9 a10 a11 a12 a13 a14 a15 a16 a17) V:=⟨.agg [.int .i64 a0,.int .i64 a1,.int .i64 a2,.int .i64 a3,.int .i64 a4,.int .i64 a5,.int .i64 a6,.int .i64 a7,.int .i64 a8,.sl false (a9.map Canon.e),.sl false (a10.map Canon.e),.int .u8 a11,.int .u16 a12,.int .i64 a13,.int .i64 a14,.sl false (a15.map Canon.e),.int .i64 a16,.bool a17]⟩
instance(a0:List Int)(a1:List Int)(a2:List (List Int))(a3:List (List Canon))(a4:List fQ)(a5:List Output):CoeDep Qf (KKn a0 a1 a2 a3 a4 a5) V:=⟨.agg [.sl false (a0.map (V.int .u16)),.sl false (a1.map (V.int .u16)),.sl false (a2.map aV),.sl false (a3.map bz),.sl false (a4.map fQ.e),.sl false (a5.map Output.e)]⟩
instance(a0:Int)(a1:Int):CoeDep Qf (KKo a0 a1) V:=⟨.agg [.int .u8 a0,.int .u16 a1]⟩
instance(a0:List Cell)(a1:List cw):CoeDep Qf (KKp a0 a1) V:=⟨.agg [.sl false (a0.map Cell.e),.sl false (a1.map cw.e)]⟩
instance(x:bY):CoeDep Qf (KKq x) V:=⟨.agg [.sl false (x.owner.map (V.int .i64)),.sl false (x.queue.map de)]⟩
instance(x:bJ):CoeDep Qf (KKr x) V:=⟨.agg [.sl false (x.data.map bz),.sl false (x.opens.map fQ.e)]⟩
instance(x:Canon):CoeDep Qf (KKs x) V:=⟨.agg [.int .u8 x.tag,.int .u16 x.val,.int .i64 x.region,.int .i64 x.offset]⟩
instance(a0:Int)(a1:Bool)(a2:V):CoeDep Qf (KKt a0 a1 a2) V:=⟨.agg [.int .i64 a0,.bool a1,a2]⟩
instance(x:cS):CoeDep Qf (KKu x) V:=⟨.agg [.int .i64 x.time,.int .i64 x.dL,.int .i64 x.kind,.int .i64 x.dd,.int .i64 x.nV,.int .i64 x.bit]⟩
instance(x:Instr):CoeDep Qf (KKv x) V:=⟨.agg [.int .i64 x.op,.int .i64 x.a,.int .i64 x.b,.int .i64 x.c,.int .i64 x.eu]⟩
instance(a0:List Int)(a1:List (List Int)):CoeDep Qf (KKw a0 a1) V:=⟨.agg [.sl false (a0.map (V.int .i64)),.sl false (a1.map de)]⟩
instance(a0:List (List Canon))(a1:List View):CoeDep Qf (KKx a0 a1) V:=⟨.agg [.sl false (a0.map bz),.sl false (a1.map View.e)]⟩
instance(a0:Int)(a1:Int)(a2:Int)(a3:Int):CoeDep Qf (KKy a0 a1 a2 a3) V:=⟨.agg [.int .u8 a0,.int .u16 a1,.int .i64 a2,.int .i64 a3]⟩
instance(x:BI):CoeDep Qf (KKz x) V:=⟨.agg [.int .i64 x.region,.int .i64 x.offset]⟩
instance(x:aF):CoeDep Qf (KKA x) V:=⟨.agg [.sl false (x.cells.map Cell.e),.sl false (x.lines.map cw.e)]⟩
instance(x:Layout):CoeDep Qf (KKB x) V:=⟨.agg [.sl false (x.aD.map (V.int .i64)),.int .u16 x.key]⟩
instance(a0:Int)(a1:Int):CoeDep Qf (KKC a0 a1) V:=⟨.agg [.int .i64 a0,.int .i64 a1]⟩
instance(a0:List Int)(a1:Int)(a2:V)(a3:List cw)(a4:V):CoeDep Qf (KKD a0 a1 a2 a3 a4) V:=⟨.agg [.sl false (a0.map (V.int .i64)),.int .u16 a1,a2,.sl false (a3.map cw.e),a4]⟩
instance(a0:V)(a1:Int)(a2:V)(a3:V)(a4:V):CoeDep Qf (KKE a0 a1 a2 a3 a4) V:=⟨.agg [a0,.int .u16 a1,a2,a3,a4]⟩
def Reader.bS(x:Reader):x.e= .agg [.sl false (x.b.map (V.int .u8)),.bool x.short]:=(rfl)
def Reader.eq_iff(x y:Reader):x=y↔x.b=y.b/\x.short=y.short:=by cases x;cases y;simp
@[simp]def Reader.je(x:Reader):x.e.cells=[.sl false (x.b.map (V.int .u8)),.bool x.short]:=(rfl)
end Go.Abs.kI
namespace Go.Proofs.YtdngefmliibcgaaGreat
open Go Go.Abs Go.Abs.kI Qf
variable  {α β:Type}{Q:Ex->St->Prop}{b:Code}{S:St}
def wrap_i64{n:Int}(h: -9223372036854775808<=n/\n<=9223372036854775807):IntKind.i64.wrap n=n:=by
 simp only[IntKind.wrap,IntKind.signed,IntKind.bits,aer];split<;>rename_i hc<;>simp at hc<;>omega
def mZ(i:Nat)(h:(i:Int)+1<=9223372036854775807):IntKind.i64.wrap ((i:Int)+1)=(i:Int)+1:=wrap_i64 (by omega)
def cY {X:Env} {f:FuncId}    (Inv:Nat->St->Prop) (N:Nat) (hN:N<=4611686018427387904) (step: ∀i S,(i<=N/\IntKind.i64.wrap ((i:Int)+1)=(i:Int)+1/\i<N)->Inv i S->Wp X f b S (JA X f (2*jc b+1) Inv i N Q))
  (last: ∀S,Inv N S->Wp X f b S (JA X f (2*jc b+1) Inv N N Q)) (h0:mn (Go.Abs.mark (oN X f (2*jc b+1) S)) (Inv 0)):Wp X f (.loop b) S Q:=
 lW Inv N (fun i S hi h=>by
  rcases aaR i N with g|g
  ·exact step i S ⟨hi,mZ i (by omega),g⟩ h
  ·cases Nat.le_antisymm hi g;exact last S h) 0 (afD _) h0
def BJ{a b:List α}{i:Nat}(h1:i<a.length)(h2:i<b.length)(h:a.take i=b.take i)(he:a[i]=b[i]):a.take (i+1)=b.take (i+1):=by
 rw[acZ,acZ,h];simp[h1,h2,he]
def yE{a b:List α}{i:Nat}(h1: ¬i<a.length)(h2:a.length=b.length)(h:a.take i=b.take i):a=b:=by
 rwa[aZ (by omega),aZ (by omega)]at h
def fD{a:List α}{i:Nat}(h:i<a.length):a.take (i+1)=a.take i++ [a[i]]:=by
 rw[acZ];simp[h]
@[simp]def aj5(f:α->β)(l:List α):(l.map f).take l.length=l.map f:=by rw[<-List.length_map (f:=f),abC]
def vr{p:α->Bool}{l:List α}{i:Nat}(h:i<l.length)(hp:p l[i]=false):l.all p=false:=by
 rw[<-Bool.not_eq_true,aaP];intro jV;have:=jV _ (aaL h);rw[hp]at this;cases this
def vt{p:α->Bool}{l:List α}{i:Nat}(h:i<l.length):(l.take (i+1)).all p=((l.take i).all p&&p l[i]):=by
 rw[fD h,aeW];simp
noncomputable def apr(X:Env)(fx:FuncId)(v:V)(d:Option Nat)(args:List V)(S:St):Option St:=match v with
 | .fn g first E6=>gV X (cL X) fx d g (first++args++E6) S
 |_=>none
@[simp]def a0l(X:Env)(fx g:FuncId)(a b:List V)(d:Option Nat)(args:List V)(S:St):apr X fx (.fn g a b) d args S=gV X (cL X) fx d g (a++args++b) S:=(rfl)
section
variable {X:Env} {fx:FuncId} {dc:List (Option Nat)} {n0 kk n:Nat} {r:List Oper} {ff:Nat->V} {hp:bh} {K:St->Prop} {d:Nat} {ty:TypeId} {ps:String} {af:Array Edge}
@[simp ↓] theorem awy(d:Option Nat)(t:Nat)(args:Array Operand)(mH:Array TypeId):iP X fx dc n0 kk (⟨d,.call ⟨.value (.tmp t),args,mH⟩,ty,ps,af,none⟩::r) ⟨ff,hp,n⟩ K=
  mn (Go.Abs.mark (apr X fx (ff t) d (args.toList.map (nu ff)) ⟨ff,hp,n⟩)) fun S1=>iP X fx dc n0 (kk+1) r ⟨S1.f,S1.h,S1.n⟩ K:=by
 rw[wg,show nu ff=(⟨ff,hp,n⟩:St).ev from KV ⟨ff,hp,n⟩];show mn (match(⟨ff,hp,n⟩:St).ev (.tmp t) with
  | .fn g first E6=>gV X (cL X) fx d g (first++args.toList.map (⟨ff,hp,n⟩:St).ev++E6) ⟨ff,hp,n⟩
  |_=>none) _=_
 rfl
end
@[simp ↓] theorem aj6(X:Env)(bZ:FuncId)(d:Nat)(t:TypeId)(a ix:Operand)(ty:TypeId)(ps:String)(af:Array Edge)(g:Option (Nat×Bool))(S1 T:St)(m:Nat):rdP X bZ (some ⟨some d,.indexAddr t a ix,ty,ps,af,g⟩) S1 T m=
  ∃v,(match nu S1.f ix with
  | .int _ n=>match nu S1.f a with
   | .sl _ es=>if(0<=n/\n<es.length)/\(X.ti t).arr=none then(match es[n.toNat]? with|some e=>if e.cells.length=(X.ti (X.ti t).elem).size then some ((.ref e.cells),T.h,m) else none|none=>none) else none
   | .cx id s l=>if(0<=n/\n<l)/\(X.ti t).arr=none then(match T.h id with|some ob=>if ob.k=(X.ti (X.ti t).elem).size then some ((.ptr id (s+n.toNat) 0),T.h,m) else none|none=>none) else none
   | .ptr id j f=>match(X.ti t).arr with
    |some k=>if 0<=n/\n<k then some ((.ptr id j (f+n.toNat*(X.ti (X.ti t).elem).size)),T.h,m) else none
    |none=>none
   |_=>none
  |_=>none)=some (v,T.h,m)/\S1.f d=v:=by
 unfold rdP;rw[KV];apply propext;constructor
 ·rintro⟨o,v,h,h1,h2⟩;simp only[aA]at h;subst h;exact⟨v,h1,h2 d rfl⟩
 ·rintro⟨v,h1,h2⟩;refine⟨_,v,rfl,h1,fun d' h=> ?_⟩;simp only[aA]at h;subst h;exact h2
@[simp ↓] theorem a0m(X:Env)(bZ:FuncId)(d:Nat)(t':TypeId)(x':Operand)(QJ oy ZW:Option Operand)(ty:TypeId)(ps:String)(af:Array Edge)(g:Option (Nat×Bool))(S1 T:St)(m:Nat):rdP X bZ (some ⟨some d,.slice t' x' QJ oy ZW,ty,ps,af,g⟩) S1 T m=
  ∃v,(if((nu S1.f) x').isStr=(X.ti t').isStr/\((nu S1.f) x').Br=(X.ti t').arr.isSome then
   match(nu S1.f) x' with
   | .sl _ es=>
    if es.all (fun e=>e.cells.length==(X.ti (X.ti t').elem).size) then
     match ZW with
     |none=>match bounds (QJ.map (nu S1.f)) (oy.map (nu S1.f)) es.length with|some (l,h)=>some ((.sl false ((es.take h).drop l)),T.h,m)|none=>none
     |some mm=>match(nu S1.f) mm,oy.map (nu S1.f) with
      | .int _ p,some (.int _ q)=>if p=q then(match bounds (QJ.map (nu S1.f)) (oy.map (nu S1.f)) es.length with|some (l,h)=>some ((.sl true ((es.take h).drop l)),T.h,m)|none=>none) else none
      |_,_=>none
    else none
   | .cx id s n=>
    match ZW,T.h id with
    |none,some ob=>if ob.k=(X.ti (X.ti t').elem).size then(match bounds (QJ.map (nu S1.f)) (oy.map (nu S1.f)) n with|some (l,h)=>some ((.cx id (s+l) (h-l)),T.h,m)|none=>none) else none
    |some mm,some ob=>if ob.k=(X.ti (X.ti t').elem).size then(match(nu S1.f) mm,oy.map (nu S1.f) with
      | .int _ p,some (.int _ q)=>if p=q then(match bounds (QJ.map (nu S1.f)) (oy.map (nu S1.f)) n with|some (l,h)=>some ((.cx id (s+l) (h-l)),T.h,m)|none=>none) else none
      |_,_=>none) else none
    |_,none=>none
   | .str s=>match ZW with
    |none=>match bounds (QJ.map (nu S1.f)) (oy.map (nu S1.f)) s.length with|some (l,h)=>some ((.str ((s.take h).drop l)),T.h,m)|none=>none
    |some _=>none
   | .ptr id 0 0=>match ZW,QJ,oy,(X.ti t').arr,T.h id with
    |none,none,none,some mm,some ob=>match ob.es with
     | [e]=>if e.cells.all V.oU=true/\e.cells.length=mm/\(X.ti (X.ti t').elem).size=1/\0<mm then some (.sl true e.cells,aR T.h id none,m) else none
     |_=>none
    |_,_,_,_,_=>none
   |_=>none
  else none)=some (v,T.h,m)/\S1.f d=v:=by
 unfold rdP;rw[KV];apply propext;constructor
 ·rintro⟨o,v,h,h1,h2⟩;simp only[aA]at h;subst h;exact⟨v,h1,h2 d rfl⟩
 ·rintro⟨v,h1,h2⟩;refine⟨_,v,rfl,h1,fun d' h=> ?_⟩;simp only[aA]at h;subst h;exact h2
def TG(X:Env)(f:FuncId)(b:Code)(Q:Ex->St->Prop):Ex->St->Prop
 | .normal,S=>Wp X f (.loop b) S Q
 |e,S=>Q e S
@[simp ↓] theorem aj7(X:Env)(f:FuncId)(b:Code)(Q:Ex->St->Prop)(S:St):TG X f b Q .normal S=Wp X f (.loop b) S Q:=(rfl)
@[simp ↓] theorem atc(X:Env)(f:FuncId)(b:Code)(Q:Ex->St->Prop)(S:St)(i:Nat):TG X f b Q (.exit i) S=Q (.exit i) S:=(rfl)
@[simp ↓] theorem awz(X:Env)(f:FuncId)(b:Code)(Q:Ex->St->Prop)(S:St):TG X f b Q .ret S=Q .ret S:=(rfl)
def dI{X:Env}{f:FuncId}:Wp X f (.loop b) S Q=mn (Go.Abs.mark (oN X f (2*jc b+1) S)) fun S1=>Wp X f b S1 (TG X f b Q):=by
 unfold Wp Go.Abs.mark;rw[KT];cases hn:oN X f (2*jc b+1) S with
 |none=>simp[mn]
 |some S1=>
  simp only[mn];apply propext;constructor
  ·rintro⟨e,S2,h,hq⟩;cases hb:ev X f b S1 with
   |none=>rw[hb]at h;cases h
   |some x=>
    obtain⟨e3,S3⟩:=x;rw[hb]at h;refine⟨e3,S3,rfl,?_⟩;cases e3 with
    |normal=>exact⟨e,S2,h,hq⟩
    |exit i=>
     simp only[aA,bM]at h;obtain⟨rfl,rfl⟩:=h;exact hq
    |ret=>
     simp only[aA,bM]at h;obtain⟨rfl,rfl⟩:=h;exact hq
  ·rintro⟨e,S2,h,hq⟩;rw[h];cases e with
   |normal=>
    obtain⟨e3,S3,h3,hq3⟩:=hq;exact⟨e3,S3,h3,hq3⟩
   |exit i=>exact⟨_,_,rfl,hq⟩
   |ret=>exact⟨_,_,rfl,hq⟩
def wi{v n:Int}(h:0<n):v % n=if v.tmod n<0 then v.tmod n+n else v.tmod n:=by
 have h1:=acD v (show n≠0 by omega);have h2:=abW v h;rcases Int.lt_or_le v 0 with hv|hv
 ·have e:=Int.tmod_eq_emod (a:=v) (b:=n);by_cases hd:n∣v
  ·have:v % n=0:=Int.emod_eq_zero_of_dvd hd;rw[if_pos (.inr hd),this]at e;rw[e,this];simp
  ·rw[if_neg (by
    rintro(h|h)
    ·omega
    ·exact hd h)]at e
   have kz:v % n≠0:=fun h=>hd (Int.dvd_of_emod_eq_zero h);rw[e,Int.natAbs_of_nonneg (by omega),if_pos (by omega)];omega
 ·rw[aaK hv,if_neg (by omega)]
def total(l:List Int):Int:=l.foldl (· + ·) 0
def tZ(l:List Int)(x:Int):total (l++ [x])=total l+x:=by simp[total]
def BK(n:Int):Bool:=decide (1<=n/\n<=32)
def kJ(l:List Int):Bool:=l.all BK&& (decide (1<=l.length)&&decide (l.length<=4))
def inside(an:List Int)(r o:Int):Bool:=decide (0<=r/\r<an.length/\0<=o/\o<an.getD r.toNat 0)
structure oI (l:List Int):Prop where
 elem: ∀i (h:i<l.length),1<=l[i]/\l[i]<=32
 pos:1<=l.length
 le:l.length<=4
def nF{l:List Int}:kJ l=true↔oI l:=by
 unfold kJ;simp only[aaF,decide_eq_true_eq,aaP];constructor
 ·rintro⟨h1,h2,h3⟩;exact⟨fun i h=>by simpa[BK] using h1 _ (aaL h),h2,h3⟩
 ·rintro⟨h1,h2,h3⟩;refine⟨fun x hx=> ?_,h2,h3⟩;obtain⟨i,h,rfl⟩:=abE hx;simpa[BK] using h1 i h
def nth(l:List Int)(i:Nat):Int:=l.getD i 0
def dE{l:List Int}{i:Nat}(h:i<l.length):nth l i=l[i]:=by simp[nth,List.getD,h]
def ub(aD an:List Int)(i:Nat):Bool:=decide (0<=nth aD i/\nth aD i<=512-nth an i)&& (List.range i).all fun j=> !(decide (nth aD j<=nth aD i+nth an i)&&decide (nth aD i<=nth aD j+nth an j))
def iX(aD an:List Int):Bool:=kJ an&& (decide (aD.length=an.length)&& (List.range aD.length).all (ub aD an))
structure nW (aD an:List Int):Prop where
 sz:oI an
 len:aD.length=an.length
 base: ∀i (h:i<aD.length) (h':i<an.length),0<=aD[i]/\aD[i]<=512-an[i]
 apart: ∀i j (h:i<aD.length) (h':i<an.length) (g:j<aD.length) (g':j<an.length),i≠j->aD[i]+an[i]<aD[j]\/aD[j]+an[j]<aD[i]
def mO{aD an:List Int}:iX aD an=true↔nW aD an:=by
 unfold iX;simp only[aaF,decide_eq_true_eq,aaP,nF,afi,ub,aaZ,acY,decide_eq_false_iff_not];constructor
 ·rintro⟨h1,h2,h3⟩;have ap: ∀i j (h:i<aD.length) (h':i<an.length) (g:j<aD.length) (g':j<an.length),j<i->aD[i]+an[i]<aD[j]\/aD[j]+an[j]<aD[i]:=by
   intro i j h h' g g' mj;have:=(h3 i h).2 j mj;rw[dE h,dE h',dE g,dE g']at this;omega
  refine⟨h1,h2,fun i h h'=> ?_,fun i j h h' g g' kz=> ?_⟩
  ·have:=(h3 i h).1;rwa[dE h,dE h']at this
  ·rcases Nat.lt_or_gt_of_ne kz with hh|hh
   ·have:=ap j i g g' h h' hh;omega
   ·exact ap i j h h' g g' hh
 ·rintro⟨h1,h2,h3,h4⟩;refine⟨h1,h2,fun i h=>⟨?_,fun j hj=> ?_⟩⟩
  ·rw[dE h,dE (h2▸h)];exact h3 i h (h2▸h)
  ·have hj1:j<aD.length:=by omega
   rw[dE h,dE (show i<an.length by omega),dE hj1,dE (show j<an.length by omega)];have:=h4 i j h (by omega) hj1 (by omega) (by omega);omega
def oJ:List Int->Int->Nat->BI×Int
 | [],_,_=>(⟨0,0⟩,6)
 |n::l,i,r=>if 0<=i/\i<n then(⟨r,i⟩,0) else oJ l (i-n) (r+1)
def rQ:List Int->List Int->Int->Nat->BI×Bool
 |b::bs,z::zs,a,r=>if b<=a/\a<b+z then(⟨r,a-b⟩,true) else rQ bs zs a (r+1)
 |_,_,_,_=>(⟨0,0⟩,false)
def resolve(aD an:List Int)(a:Int):BI×Bool:=rQ aD an a 0
def canon(aD:List Int)(key:Int)(an:List Int)(c:Cell):Canon:=
 if c.tag=0 then⟨0,c.val,0,0⟩ else if c.tag=2 then⟨2,IntKind.u16.wrap (c.val-key),0,0⟩ else
 if(resolve aD an c.val).2=true then⟨1,0,(resolve aD an c.val).1.region,(resolve aD an c.val).1.offset⟩ else⟨1,0, -1,c.val⟩
def proper(an:List Int)(x:Canon):Bool:=
 if x.tag=0\/x.tag=2 then decide (x.region=0)&&decide (x.offset=0) else if x.tag=1 then decide (x.val=0)&&inside an x.region x.offset else false
def raw(aD:List Int)(key:Int)(an:List Int)(x:Canon):Cell×Int:=
 if proper an x=false then(⟨0,0⟩,1) else if x.tag=0 then(⟨0,x.val⟩,0) else if x.tag=2 then(⟨2,IntKind.u16.wrap (x.val+key)⟩,0) else(⟨1,IntKind.u16.wrap (nth aD x.region.toNat+x.offset)⟩,0)
def drop_cons{l:List α}{i:Nat}(h:i<l.length):l.drop i=l[i]::l.drop (i+1):=acH h
def lj{an:List Int}{r o:Int}:inside an r o=true↔ ∃k,∃h:k<an.length,r=(k:Int)/\0<=o/\o<an[k]:=by
 unfold inside;simp only[decide_eq_true_eq];constructor
 ·rintro⟨h1,h2,h3,h4⟩;refine⟨r.toNat,by omega,by omega,h3,?_⟩;have:r.toNat<an.length:=by omega
  simpa[List.getD,this] using h4
 ·rintro⟨k,h,rfl,h3,h4⟩;refine⟨by omega,by omega,h3,?_⟩;simpa[List.getD,h] using h4
def Gc(an:List Int)(cQ:Int)(st:List Int×Int)(k:Nat):List Int×Int:=
 (st.1.set ((k+cQ) % an.length).toNat st.2,st.2+nth an ((k+cQ) % an.length).toNat+1+cQ/ (50*an.length) % 40)
def nv(an:List Int)(cQ:Int)(k:Nat):List Int×Int:=
 (List.range k).foldl (Gc an cQ) (List.replicate an.length 0,1+cQ/an.length % 50)
def fG(an:List Int)(cQ:Int):List Int:=(nv an cQ an.length).1
def iH(an:List Int)(cQ:Int)(k:Nat):nv an cQ (k+1)=Gc an cQ (nv an cQ k) k:=by
 unfold nv;rw[acK,adl];rfl
@[simp]def bfb:IntKind.i64.wrap 0=0:=by decide
@[simp]def bfc:IntKind.i64.wrap 1=1:=by decide
@[simp]def bfd:IntKind.i64.wrap 2=2:=by decide
@[simp]def bfe:IntKind.i64.wrap 3=3:=by decide
@[simp]def bff:IntKind.i64.wrap 4=4:=by decide
@[simp]def bfg:IntKind.i64.wrap 5=5:=by decide
@[simp]def bfh:IntKind.i64.wrap 6=6:=by decide
@[simp]def bfi:IntKind.i64.wrap 7=7:=by decide
@[simp]def bfj:IntKind.i64.wrap 8=8:=by decide
def atj{l:List α}(h:l.length=0):l=[]:=List.length_eq_zero_iff.1 h
def RO{l:List α}(h:l.length=1): ∃a,l=[a]:=List.length_eq_one_iff.1 h
def atk{l:List α}{n:Nat}(h:l.length=n+1): ∃a r,l=a::r/\r.length=n:=by
 cases l with
 |nil=>cases h
 |cons a r=>exact⟨a,r,rfl,by simpa using h⟩
def RP{l:List α}(h:l.length=2): ∃a b,l=[a,b]:=by
 obtain⟨a,r1,e1,h1⟩:=atk h;obtain⟨b,e2⟩:=RO h1;exact⟨a,b,by rw[e1,e2]⟩
def RQ{l:List α}(h:l.length=3): ∃a b c,l=[a,b,c]:=by
 obtain⟨a,r1,e1,h1⟩:=atk h;obtain⟨b,c,e2⟩:=RP h1;exact⟨a,b,c,by rw[e1,e2]⟩
def ID{l:List α}(h:l.length=4): ∃a b c d,l=[a,b,c,d]:=by
 obtain⟨a,r1,e1,h1⟩:=atk h;obtain⟨b,c,d,e2⟩:=RQ h1;exact⟨a,b,c,d,by rw[e1,e2]⟩
def pX{α:Type}{f:α->V}{hx:bh}(h: ∀x,cy hx 12 (f x)=some (f x)): ∀l:List α,cF (l.map (cy hx 12∘f))=some (l.map f)
 | []=>rfl
 |a::l=>by simp[cF,h a,pX h l]
def qI{α:Type}{f:α->V}(h: ∀x,(f x).lP=f x): ∀l:List α,eV (l.map f)=l.map f
 | []=>rfl
 |a::l=>by simp[eV,h a,qI h l]
@[simp]def a0p(hx:bh)(l:List fQ):cF (l.map (cy hx 12∘fQ.e))=some (l.map fQ.e):=pX (fun _=>rfl) l
@[simp]def wj(l:List fQ):eV (l.map fQ.e)=l.map fQ.e:=qI (fun _=>rfl) l
def RR(l:List Canon):eV (l.map Canon.e)=l.map Canon.e:=qI (fun _=>rfl) l
def pY{f:α->V}{l:List α}{i:Nat}(h:i<l.length):List.take i (List.take i (l.map f))++ [f l[i]]=List.take (i+1) (l.map f):=by
 rw[List.take_take,Nat.min_self,acZ];simp[h]
end Go.Proofs.YtdngefmliibcgaaGreat
