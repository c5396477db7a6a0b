import Derived.Test.YtdngefmliibcgaaGreatB01
import Derived.Test.YtdngefmliibcgaaGreatProg
set_option linter.all false
set_option maxRecDepth 20000
set_option maxHeartbeats 0
namespace Go.Proofs.YtdngefmliibcgaaGreat
open Go Go.Abs
variable  {α β:Type}{Q:Ex->St->Prop}{b:Code}{S:St}
def ti:TypeId->TI
 |3=>⟨1,8,false,.int .i64 0,0,[],none,some .i64,[0]⟩
 |4=>⟨1,1,false,.bool false,0,[],none,none,[1]⟩
 |5=>⟨1,1,false,.int .u8 0,0,[],none,some .u8,[0]⟩
 |9=>⟨1,16,false,.str [],0,[],none,none,[2]⟩
 |22=>⟨1,24,false,.sl true [],3,[],none,none,[]⟩
 |23=>⟨1,24,false,.sl true [],156,[],none,none,[]⟩
 |24=>⟨1,24,false,.sl true [],37,[],none,none,[]⟩
 |26=>⟨3,72,true,.agg [.sl true [],.sl true [],.sl true []],0,[(0,1),(1,1),(2,1)],none,none,[]⟩
 |27=>⟨1,2,false,.int .u16 0,0,[],none,some .u16,[0]⟩
 |29=>⟨2,32,true,.agg [.sl true [],.int .u16 0],0,[(0,1),(1,1)],none,none,[]⟩
 |30=>⟨1,24,false,.sl true [],120,[],none,none,[]⟩
 |31=>⟨1,24,false,.sl true [],110,[],none,none,[]⟩
 |33=>⟨2,48,true,.agg [.sl true [],.sl true []],0,[(0,1),(1,1)],none,none,[]⟩
 |34=>⟨1,24,false,.sl true [],112,[],none,none,[]⟩
 |36=>⟨5,104,true,.agg [.sl true [],.int .u16 0,.sl true [],.sl true [],.sl true []],0,[(0,2),(2,2),(4,1)],none,none,[]⟩
 |37=>⟨1,24,false,.sl true [],27,[],none,none,[]⟩
 |38=>⟨1,24,false,.sl true [],57,[],none,none,[]⟩
 |39=>⟨1,24,false,.sl true [],301,[],none,none,[]⟩
 |41=>⟨2,48,true,.agg [.sl true [],.sl true []],0,[(0,1),(1,1)],none,none,[]⟩
 |42=>⟨1,24,false,.sl true [],254,[],none,none,[]⟩
 |44=>⟨6,144,true,.agg [.sl true [],.sl true [],.sl true [],.sl true [],.sl true [],.sl true []],0,[(0,1),(1,1),(2,1),(3,2),(5,1)],none,none,[]⟩
 |45=>⟨1,24,false,.sl true [],22,[],none,none,[]⟩
 |47=>⟨2,48,true,.agg [.sl true [],.sl true []],0,[(0,1),(1,1)],none,none,[]⟩
 |48=>⟨1,24,false,.sl true [],65,[],none,none,[]⟩
 |50=>⟨18,416,true,.agg [.sl true [],.sl true [],.sl true [],.sl true [],.int .u16 0,.sl true [],.sl true [],.sl true [],.sl true [],.sl true [],.sl true [],.sl true [],.sl true [],.sl true [],.sl true [],.sl true [],.sl true [],.sl true []],0,[(0,3),(3,5),(8,6),(14,2),(16,1),(17,1)],none,none,[]⟩
 |54=>⟨1,8,false,.int .i64 0,0,[],none,some .i64,[0]⟩
 |57=>⟨1,24,false,.sl true [],61,[],none,none,[]⟩
 |59=>⟨8,96,true,.agg [.int .i64 0,.int .i64 0,.int .i64 0,.int .i64 0,.int .i64 0,.int .i64 0,.sl true [],.sl true []],0,[(0,1),(1,1),(2,1),(3,1),(4,1),(5,1),(6,1),(7,1)],none,none,[]⟩
 |61=>⟨4,24,true,.agg [.int .u8 0,.int .u16 0,.int .i64 0,.int .i64 0],0,[(0,1),(1,1),(2,1),(3,1)],none,none,[0,0,0,0]⟩
 |63=>⟨7,64,true,.agg [.int .u8 0,.int .u16 0,.int .i64 0,.int .i64 0,.sl true [],.int .i64 0,.bool false],0,[(0,4),(4,1),(5,1),(6,1)],none,none,[]⟩
 |65=>⟨18,184,true,.agg [.int .i64 0,.int .i64 0,.int .i64 0,.int .i64 0,.int .i64 0,.int .i64 0,.int .i64 0,.int .i64 0,.int .i64 0,.sl true [],.sl true [],.int .u8 0,.int .u16 0,.int .i64 0,.int .i64 0,.sl true [],.int .i64 0,.bool false],0,[(0,1),(1,1),(2,1),(3,8),(11,7)],none,none,[]⟩
 |81=>⟨1,24,false,.sl true [],48,[],none,none,[]⟩
 |85=>⟨1,24,false,.sl true [],160,[],none,none,[]⟩
 |87=>⟨2,48,true,.agg [.sl true [],.sl true []],0,[(0,1),(1,1)],none,none,[]⟩
 |93=>⟨6,48,true,.agg [.int .i64 0,.int .i64 0,.int .i64 0,.int .i64 0,.int .i64 0,.int .i64 0],0,[(0,1),(1,1),(2,1),(3,1),(4,1),(5,1)],none,none,[0,0,0,0,0,0]⟩
 |94=>⟨1,24,false,.sl true [],5,[],none,none,[]⟩
 |102=>⟨1,24,false,.sl true [],93,[],none,none,[]⟩
 |105=>⟨1,24,false,.sl true [],94,[],none,none,[]⟩
 |110=>⟨3,40,true,.agg [.int .i64 0,.bool false,.sl true []],0,[(0,1),(1,1),(2,1)],none,none,[]⟩
 |112=>⟨8,80,true,.agg [.int .i64 0,.sl true [],.int .i64 0,.int .i64 0,.int .i64 0,.int .i64 0,.int .i64 0,.int .u16 0],0,[(0,1),(1,1),(2,1),(3,1),(4,1),(5,1),(6,1),(7,1)],none,none,[]⟩
 |120=>⟨2,4,true,.agg [.int .u8 0,.int .u16 0],0,[(0,1),(1,1)],none,none,[0,0]⟩
 |128=>⟨2,32,true,.agg [.sl true [],.int .i64 0],0,[(0,1),(1,1)],none,none,[]⟩
 |136=>⟨3,24,true,.agg [.int .i64 0,.int .i64 0,.bool false],0,[(0,1),(1,1),(2,1)],none,none,[0,0,1]⟩
 |156=>⟨5,40,true,.agg [.int .i64 0,.int .i64 0,.int .i64 0,.int .i64 0,.int .i64 0],0,[(0,1),(1,1),(2,1),(3,1),(4,1)],none,none,[0,0,0,0,0]⟩
 |160=>⟨8,80,true,.agg [.int .i64 0,.int .i64 0,.int .i64 0,.int .i64 0,.int .i64 0,.int .i64 0,.int .u16 0,.sl true []],0,[(0,1),(1,1),(2,1),(3,1),(4,1),(5,1),(6,1),(7,1)],none,none,[]⟩
 |169=>⟨1,24,false,.sl true [],9,[],none,none,[]⟩
 |171=>⟨1,8,false,.wC,112,[],none,none,[3]⟩
 |175=>⟨2,16,true,.agg [.int .i64 0,.int .i64 0],0,[(0,1),(1,1)],none,none,[0,0]⟩
 |181=>⟨1,8,false,.int .u64 0,0,[],none,some .u64,[0]⟩
 |184=>⟨2,32,true,.agg [.sl true [],.bool false],0,[(0,1),(1,1)],none,none,[]⟩
 |226=>⟨1,8,false,.wC,36,[],none,none,[3]⟩
 |250=>⟨4,4,true,.agg [.bool false,.bool false,.bool false,.bool false],4,[],some 4,none,[9]⟩
 |252=>⟨1,24,false,.sl true [],23,[],none,none,[]⟩
 |254=>⟨3,40,true,.agg [.int .i64 0,.int .i64 0,.sl true []],0,[(0,1),(1,1),(2,1)],none,none,[]⟩
 |280=>⟨5,88,true,.agg [.sl true [],.sl true [],.sl true [],.wC,.wC],0,[(0,3),(3,1),(4,1)],none,none,[]⟩
 |301=>⟨3,24,true,.agg [.int .i64 0,.int .i64 0,.bool false],0,[(0,1),(1,1),(2,1)],none,none,[0,0,1]⟩
 |338=>⟨4,4,true,.agg [.bool false,.bool false,.bool false,.bool false],0,[(0,1),(1,1),(2,1),(3,1)],none,none,[1,1,1,1]⟩
 |350=>⟨2,2,true,.agg [.int .u8 0,.int .u8 0],0,[(0,1),(1,1)],none,none,[0,0]⟩
 |_=>default
attribute [simp] ti.eq_1 ti.eq_2 ti.eq_3 ti.eq_4 ti.eq_5 ti.eq_6 ti.eq_7 ti.eq_8 ti.eq_9 ti.eq_10 ti.eq_11 ti.eq_12 ti.eq_13 ti.eq_14 ti.eq_15 ti.eq_16 ti.eq_17 ti.eq_18 ti.eq_19 ti.eq_20 ti.eq_21 ti.eq_22 ti.eq_23 ti.eq_24 ti.eq_25 ti.eq_26 ti.eq_27 ti.eq_28 ti.eq_29 ti.eq_30
attribute [simp] ti.eq_31 ti.eq_32 ti.eq_33 ti.eq_34 ti.eq_35 ti.eq_36 ti.eq_37 ti.eq_38 ti.eq_39 ti.eq_40 ti.eq_41 ti.eq_42 ti.eq_43 ti.eq_44 ti.eq_45 ti.eq_46 ti.eq_47 ti.eq_48 ti.eq_49 ti.eq_50 ti.eq_51 ti.eq_52 ti.eq_53 ti.eq_54 ti.eq_55 ti.eq_56 ti.eq_57 ti.eq_58
def cl:FuncId->Option TypeId
 |108=>some 94
 |152=>some 30
 |224=>some 22
 |225=>some 31
 |_=>none
def NX(n:FuncId):Bool:=[18,30,67,119,121,160,161,198,210,226,227,237,243,244,246,251,264,265,268,270,271,273,276,292,294].contains n
def NB(n:FuncId):Bool:=[19,40,42,43,53,58,63,65,66,68,88,92,97,109,125,126,127,138,139,169,172,181,182,201,209].contains n
def a9t(n:FuncId):Bool:=[3,4,5,7,8,9,10,12,13,15,16,17,20,23,25,28,29,31,35,37,38,40,42,50,51,53,54,57,59,60,63,69,70,78,79,80,81,82,85,87,93,95,96,97,100,101,105,106,113,115,118,122,125,126,130,131,133,140,145,146,154,164,166,167,171,173,174,177,181,182,183,184,188,194,202,203,204,206,207,209,211,215,216,219,230,239,240,241,245,256,262,267,279,282,286,287].contains n
def M3:FuncId->Nat->Bool
 |36,d=>d==17
 |40,d=>d==22
 |41,d=>d==17
 |46,d=>d==17
 |47,d=>d==27
 |67,d=>d==16
 |73,d=>d==11
 |74,d=>d==76
 |75,d=>d==21||d==23||d==42||d==79
 |77,d=>d==40||d==54||d==56||d==66
 |96,d=>d==9
 |103,d=>d==16
 |119,d=>d==51||d==77
 |121,d=>d==54
 |125,d=>d==8
 |127,d=>d==102||d==113||d==134
 |155,d=>d==9
 |161,d=>d==91
 |163,d=>d==10
 |185,d=>d==17
 |193,d=>d==36
 |195,d=>d==9
 |198,d=>d==221
 |226,d=>d==22
 |255,d=>d==14
 |256,d=>d==72
 |280,d=>d==15
 |_,_=>false
def ND:FuncId->Nat->Bool
 |41,d=>d==29
 |_,_=>false
def Nm:FuncId->TypeId->Bool
 |4,t=>t==37
 |36,t=>t==57||t==160
 |40,t=>t==57||t==160
 |46,t=>t==110||t==112
 |47,t=>t==110||t==112
 |73,t=>t==110||t==112
 |75,t=>t==110||t==112
 |77,t=>t==110||t==112
 |89,t=>t==57
 |103,t=>t==110||t==112
 |119,t=>t==110||t==112
 |121,t=>t==110||t==112
 |138,t=>t==112
 |139,t=>t==112
 |151,t=>t==110||t==112
 |160,t=>t==110||t==112
 |161,t=>t==110||t==112
 |179,t=>t==110||t==112
 |193,t=>t==110||t==112
 |198,t=>t==110||t==112
 |205,t=>t==57
 |226,t=>t==110||t==112
 |227,t=>t==110||t==112
 |237,t=>t==110||t==112
 |246,t=>t==110||t==112
 |251,t=>t==110||t==112
 |253,t=>t==22
 |255,t=>t==22
 |264,t=>t==110||t==112
 |265,t=>t==110||t==112
 |268,t=>t==110||t==112
 |271,t=>t==110||t==112
 |273,t=>t==110||t==112
 |276,t=>t==110||t==112
 |280,t=>t==57
 |292,t=>t==110||t==112
 |294,t=>t==110||t==112
 |_,_=>false
@[simp] def a9u(d:Nat):Mask:=if d=70 then [(0,0,3)] else []
@[simp] def MK(d:Nat):Mask:=if d=34 then [(0,0,65)] else []
@[simp] def HJ(d:Nat):Mask:=if d=19 then [(0,7,112)] else []
@[simp] def a1h(d:Nat):Mask:=if d=8 then [(0,0,65)] else []
@[simp] def a1i(d:Nat):Mask:=if d=13 then [(0,7,112)] else if d=96 then [(0,4,112)] else []
@[simp] def HI(d:Nat):Mask:=if d=14 then [(0,4,112)] else []
@[simp] def HF(d:Nat):Mask:=if d=39 then [(0,16,65),(0,17,3)] else if d=52 then [(0,4,112)] else if d=70 then [(0,4,112)] else []
@[simp] def HE(d:Nat):Mask:=if d=22 then [(0,4,112)] else []
@[simp] def HD(d:Nat):Mask:=if d=9 then [(0,4,112)] else []
@[simp] def Lj(d:Nat):Mask:=if d=24 then [(0,4,112)] else []
@[simp] def Lb(d:Nat):Mask:=if d=9 then [(0,4,112)] else []
@[simp] def K'(d:Nat):Mask:=if d=11 then [(0,0,3),(0,1,22)] else []
@[simp] def K_(d:Nat):Mask:=if d=18 then [(0,1,22)] else []
@[simp] def K8(d:Nat):Mask:=if d=6 then [(0,1,120)] else []
@[simp] def K7(d:Nat):Mask:=if d=6 then [(0,1,120)] else []
@[simp] def K5(d:Nat):Mask:=if d=1 then [(0,1,120)] else []
@[simp] def K4(d:Nat):Mask:=if d=15 then [(0,1,301)] else []
@[simp] def K3(d:Nat):Mask:=if d=12 then [(0,0,57),(0,1,301)] else []
@[simp] def K2(d:Nat):Mask:=if d=8 then [(0,1,301)] else []
@[simp] def K1(d:Nat):Mask:=if d=10 then [(0,1,301)] else []
@[simp] def KS(d:Nat):Mask:=if d=11 then [(0,0,254)] else []
@[simp] def KJ(d:Nat):Mask:=if d=15 then [(0,0,37)] else []
def Nl:FuncId->Nat->Mask
 |5=>a9u
 |7=>MK
 |19=>HJ
 |30=>a1h
 |40=>a1i
 |64=>HI
 |67=>HF
 |74=>HE
 |76=>HD
 |118=>Lj
 |120=>Lb
 |208=>K'
 |211=>K_
 |238=>K8
 |252=>K7
 |269=>K5
 |281=>K4
 |282=>K3
 |283=>K2
 |284=>K1
 |285=>KS
 |286=>KJ
 |_=>fun _=> []
def M_:FuncId->Mask
 |138=> [(0,16,65),(0,17,3),(0,7,112)]
 |139=> [(0,16,65),(0,17,3),(0,7,112)]
 |209=> [(0,16,65),(0,17,3),(0,7,112)]
 |_=> []
@[simp] def Bl(k:Nat):Option Norm:=if k=9 then some ⟨[3,4,26,27,28],[⟨.box 3,3,0,false⟩,⟨.box 4,4,0,false⟩],false,1100⟩ else none
@[simp] def Bi(k:Nat):Option Norm:=if k=13 then some ⟨[1,7,8,10,11,35,36,37],[⟨.box 7,7,0,false⟩,⟨.box 8,8,0,false⟩,⟨.slot 10,10,18,false⟩,⟨.slot 11,11,1,false⟩],false,1100⟩ else if k=30 then some ⟨[7,8,10,14],[⟨.box 7,7,0,false⟩,⟨.box 8,8,0,false⟩],false,1100⟩ else none
@[simp] def Bh(k:Nat):Option Norm:=if k=15 then some ⟨[5,7,42,43,44],[⟨.box 5,5,0,false⟩,⟨.box 7,7,0,false⟩],false,1100⟩ else none
@[simp] def HC(k:Nat):Option Norm:=if k=17 then some ⟨[1,2,7,8,10,11,34,35],[⟨.box 7,7,0,false⟩],false,1100⟩ else none
@[simp] def EW(k:Nat):Option Norm:=if k=19 then some ⟨[4,9,38],[⟨.box 4,4,0,false⟩,⟨.box 9,9,0,false⟩,⟨.cell 9 4,1000,8,false⟩],false,1101⟩ else none
@[simp] def EV(k:Nat):Option Norm:=if k=9 then some ⟨[31,32,33],[],false,1100⟩ else none
@[simp] def EQ(k:Nat):Option Norm:=if k=9 then some ⟨[2,3,31,32],[⟨.box 2,2,0,false⟩,⟨.box 3,3,0,false⟩],false,1100⟩ else none
@[simp] def EP(k:Nat):Option Norm:=if k=11 then some ⟨[2,3,6,9,25,26,27],[⟨.box 3,3,0,false⟩,⟨.box 6,6,0,false⟩,⟨.box 9,9,0,false⟩],false,1100⟩ else none
@[simp] def EJ(k:Nat):Option Norm:=if k=15 then some ⟨[0,1,4,6,7,8,36,37],[⟨.box 4,4,0,false⟩,⟨.box 7,7,0,false⟩,⟨.cell 7 0,1000,1,false⟩],false,1101⟩ else none
@[simp] def EI(k:Nat):Option Norm:=if k=11 then some ⟨[2,3,6,9,26,27,28],[⟨.box 3,3,0,false⟩,⟨.box 6,6,0,false⟩,⟨.box 9,9,0,false⟩],false,1100⟩ else none
@[simp] def EB(k:Nat):Option Norm:=if k=9 then some ⟨[2,3,27,28],[⟨.box 2,2,0,false⟩,⟨.box 3,3,0,false⟩],false,1100⟩ else if k=21 then some ⟨[3,45,46,47],[⟨.box 3,3,0,false⟩],false,1100⟩ else none
@[simp] def EA(k:Nat):Option Norm:=if k=7 then some ⟨[3,6,7,8],[⟨.slot 3,3,18,false⟩],false,1100⟩ else none
@[simp] def Er(k:Nat):Option Norm:=if k=9 then some ⟨[1,23,24,25],[⟨.box 1,1,0,false⟩],false,1100⟩ else if k=25 then some ⟨[1,50,51,52],[⟨.box 1,1,0,false⟩],false,1100⟩ else if k=37 then some ⟨[1,61,62,63],[⟨.box 1,1,0,false⟩],false,1100⟩ else none
@[simp] def HU(k:Nat):Option Norm:=if k=11 then some ⟨[9,11,43,44],[⟨.box 9,9,0,false⟩,⟨.box 11,11,0,false⟩],false,1100⟩ else none
@[simp] def Fo(k:Nat):Option Norm:=if k=9 then some ⟨[1,2,21,22,23],[⟨.box 2,2,0,false⟩],false,1100⟩ else if k=19 then some ⟨[1,2,5,6,21,22,23,42,43,44],[⟨.box 2,2,0,false⟩],false,1100⟩ else none
@[simp] def Fm(k:Nat):Option Norm:=if k=11 then some ⟨[2,3,4,6,30,31,32],[⟨.box 2,2,0,false⟩,⟨.box 3,3,0,false⟩,⟨.box 4,4,0,false⟩,⟨.box 6,6,0,false⟩,⟨.cell 6 0,1000,2,false⟩],false,1101⟩ else if k=21 then some ⟨[2,3,4,6,7,30,31,32,46,47,48],[⟨.box 2,2,0,false⟩,⟨.box 3,3,0,false⟩,⟨.box 4,4,0,false⟩,⟨.box 6,6,0,false⟩,⟨.cell 6 0,1000,2,false⟩],false,1101⟩ else none
@[simp] def Fl(k:Nat):Option Norm:=if k=9 then some ⟨[0,1,12,13],[],false,1100⟩ else none
@[simp] def Fa(k:Nat):Option Norm:=if k=9 then some ⟨[22,23,24],[],false,1100⟩ else none
@[simp] def E'(k:Nat):Option Norm:=if k=5 then some ⟨[1,6,7,8],[⟨.box 1,1,0,false⟩],false,1100⟩ else none
@[simp] def E_(k:Nat):Option Norm:=if k=9 then some ⟨[2,3,22,23],[⟨.box 2,2,0,false⟩,⟨.box 3,3,0,false⟩],false,1100⟩ else none
@[simp] def E9(k:Nat):Option Norm:=if k=9 then some ⟨[2,3,25,26],[⟨.box 2,2,0,false⟩,⟨.box 3,3,0,false⟩],false,1100⟩ else none
@[simp] def E2(k:Nat):Option Norm:=if k=19 then some ⟨[4,9,30],[⟨.box 4,4,0,false⟩,⟨.box 9,9,0,false⟩,⟨.cell 9 4,1000,8,false⟩],false,1101⟩ else none
@[simp] def E1(k:Nat):Option Norm:=if k=5 then some ⟨[0,5,6,7],[],false,1100⟩ else none
@[simp] def Hz(k:Nat):Option Norm:=if k=7 then some ⟨[3,10,11,12],[⟨.slot 3,3,1,false⟩],false,1100⟩ else none
@[simp] def R8(k:Nat):Option Norm:=if k=33 then some ⟨[4,8,9,11,14,15,80,81],[⟨.box 4,4,0,false⟩,⟨.box 8,8,0,false⟩,⟨.box 9,9,0,false⟩,⟨.box 11,11,0,false⟩,⟨.box 14,14,0,false⟩,⟨.box 15,15,0,false⟩,⟨.cell 11 4,1000,8,false⟩,⟨.cell 15 6,1001,4,false⟩,⟨.cell 15 7,1002,4,false⟩],false,1103⟩ else if k=45 then some ⟨[4,8,9,11,14,15,109,110],[⟨.box 4,4,0,false⟩,⟨.box 8,8,0,false⟩,⟨.box 9,9,0,false⟩,⟨.box 11,11,0,false⟩,⟨.box 14,14,0,false⟩,⟨.box 15,15,0,false⟩,⟨.cell 11 4,1000,8,false⟩,⟨.cell 15 6,1001,4,false⟩,⟨.cell 15 7,1002,4,false⟩],false,1103⟩ else none
@[simp] def Sa(k:Nat):Option Norm:=if k=11 then some ⟨[1,3,23,24,25],[⟨.box 1,1,0,false⟩,⟨.box 3,3,0,false⟩],false,1100⟩ else none
@[simp] def Sb(k:Nat):Option Norm:=if k=7 then some ⟨[0,3,4],[⟨.box 0,0,0,false⟩,⟨.slot 3,3,1,false⟩],true,1100⟩ else none
@[simp] def Sc(k:Nat):Option Norm:=if k=7 then some ⟨[0,5,6],[⟨.box 0,0,0,false⟩,⟨.slot 5,5,1,false⟩],true,1100⟩ else none
@[simp] def Sd(k:Nat):Option Norm:=if k=5 then some ⟨[1,8,9,10],[⟨.box 1,1,0,false⟩],false,1100⟩ else if k=17 then some ⟨[1,19,20,21],[⟨.box 1,1,0,false⟩],false,1100⟩ else none
@[simp] def Se(k:Nat):Option Norm:=if k=5 then some ⟨[0,10,11,12],[],false,1100⟩ else if k=11 then some ⟨[0,10,11,12,16,17,18],[],false,1100⟩ else none
@[simp] def Sf(k:Nat):Option Norm:=if k=7 then some ⟨[0,1,8,9],[⟨.box 0,0,0,false⟩,⟨.box 1,1,0,false⟩,⟨.cell 1 0,1000,1,false⟩],false,1101⟩ else none
@[simp] def Sg(k:Nat):Option Norm:=if k=7 then some ⟨[1,5,6],[⟨.slot 1,1,3,false⟩],false,1100⟩ else none
@[simp] def Sh(k:Nat):Option Norm:=if k=9 then some ⟨[1,2,20,21,22],[⟨.box 2,2,0,false⟩],false,1100⟩ else if k=19 then some ⟨[1,2,5,6,20,21,22,42,43],[⟨.box 2,2,0,false⟩],false,1100⟩ else none
@[simp] def Si(k:Nat):Option Norm:=if k=9 then some ⟨[16,17,18],[],false,1100⟩ else none
@[simp] def Sj(k:Nat):Option Norm:=if k=15 then some ⟨[3,4,7,8,9,33,34],[⟨.box 3,3,0,false⟩,⟨.box 4,4,0,false⟩,⟨.box 7,7,0,false⟩,⟨.slot 9,9,1,false⟩],false,1100⟩ else none
@[simp] def Sk(k:Nat):Option Norm:=if k=5 then some ⟨[5,6,7],[],false,1100⟩ else none
@[simp] def Sl(k:Nat):Option Norm:=if k=9 then some ⟨[0,1,12,13],[],false,1100⟩ else none
@[simp] def Sm(k:Nat):Option Norm:=if k=11 then some ⟨[2,3,4,6,28,29,30],[⟨.box 2,2,0,false⟩,⟨.box 3,3,0,false⟩,⟨.box 4,4,0,false⟩,⟨.box 6,6,0,false⟩,⟨.cell 6 0,1000,2,false⟩],false,1101⟩ else none
@[simp] def Sn(k:Nat):Option Norm:=if k=5 then some ⟨[1,2,6,11,12,13],[⟨.box 6,6,0,false⟩],false,1100⟩ else none
@[simp] def So(k:Nat):Option Norm:=if k=5 then some ⟨[0,1,7,8,9],[],false,1100⟩ else none
@[simp] def Sp(k:Nat):Option Norm:=if k=9 then some ⟨[0,1,12,13],[],false,1100⟩ else none
@[simp] def Sq(k:Nat):Option Norm:=if k=11 then some ⟨[3,4,7,8,9,29,30],[⟨.box 3,3,0,false⟩,⟨.box 4,4,0,false⟩,⟨.box 7,7,0,false⟩],false,1100⟩ else none
@[simp] def Sr(k:Nat):Option Norm:=if k=9 then some ⟨[1,18,19,20],[⟨.box 1,1,0,false⟩],false,1100⟩ else if k=21 then some ⟨[1,29,30,31],[⟨.box 1,1,0,false⟩],false,1100⟩ else none
@[simp] def Ss(k:Nat):Option Norm:=if k=5 then some ⟨[5,6,7],[],false,1100⟩ else none
@[simp] def Su(k:Nat):Option Norm:=if k=7 then some ⟨[3,6,7,8],[⟨.slot 3,3,1,false⟩],false,1100⟩ else none
@[simp] def Sv(k:Nat):Option Norm:=if k=7 then some ⟨[3,6,7,8],[⟨.slot 3,3,3,false⟩],false,1100⟩ else none
@[simp] def Sw(k:Nat):Option Norm:=if k=7 then some ⟨[0,2,4,15,16],[⟨.box 2,2,0,false⟩,⟨.box 4,4,0,false⟩,⟨.cell 4 0,1000,1,false⟩,⟨.cell 4 1,1001,3,false⟩],false,1102⟩ else if k=17 then some ⟨[2,4,25,26,27],[⟨.box 2,2,0,false⟩,⟨.box 4,4,0,false⟩,⟨.cell 4 0,1000,1,false⟩,⟨.cell 4 1,1001,3,false⟩],false,1102⟩ else if k=25 then some ⟨[2,4,8,25,26,27,31,32,33],[⟨.box 2,2,0,false⟩,⟨.box 4,4,0,false⟩,⟨.slot 8,8,4,false⟩,⟨.cell 4 0,1000,1,false⟩,⟨.cell 4 1,1001,3,false⟩],false,1102⟩ else none
@[simp] def Sx(k:Nat):Option Norm:=if k=37 then some ⟨[0,4,87,88,89],[⟨.box 0,0,0,false⟩,⟨.box 4,4,0,false⟩,⟨.cell 0 7,1000,8,false⟩,⟨.cell 0 16,1001,18,false⟩,⟨.cell 0 17,1002,1,false⟩],true,1103⟩ else none
@[simp] def Sy(k:Nat):Option Norm:=if k=7 then some ⟨[1,4,6,20,21,22],[⟨.box 4,4,0,false⟩,⟨.box 6,6,0,false⟩,⟨.cell 6 1,1000,1,false⟩],false,1101⟩ else if k=15 then some ⟨[1,4,6,7,9,20,21,22,27,28,29],[⟨.box 4,4,0,false⟩,⟨.box 6,6,0,false⟩,⟨.slot 9,9,1,false⟩,⟨.cell 6 1,1000,1,false⟩],false,1101⟩ else if k=33 then some ⟨[1,4,6,12,49,50],[⟨.box 4,4,0,false⟩,⟨.box 6,6,0,false⟩,⟨.slot 12,12,1,false⟩],false,1100⟩ else none
@[simp] def Sz(k:Nat):Option Norm:=if k=9 then some ⟨[1,22,23,24],[⟨.box 1,1,0,false⟩],false,1100⟩ else if k=27 then some ⟨[1,5,49,50,51],[⟨.box 1,1,0,false⟩],false,1100⟩ else none
@[simp] def SA(k:Nat):Option Norm:=if k=5 then some ⟨[0,5,6,7],[],false,1100⟩ else none
@[simp] def SB(k:Nat):Option Norm:=if k=5 then some ⟨[0,1,7,8],[],false,1100⟩ else none
@[simp] def SC(k:Nat):Option Norm:=if k=11 then some ⟨[5,7,25,26,27],[],false,1100⟩ else none
@[simp] def SD(k:Nat):Option Norm:=if k=7 then some ⟨[1,5,6],[⟨.slot 1,1,3,false⟩],false,1100⟩ else none
@[simp] def SF(k:Nat):Option Norm:=if k=7 then some ⟨[3,6,7,8],[⟨.slot 3,3,2,false⟩],false,1100⟩ else none
@[simp] def SH(k:Nat):Option Norm:=if k=13 then some ⟨[2,3,4,5,7,8,74,75,76],[⟨.box 2,2,0,false⟩,⟨.box 3,3,0,false⟩,⟨.box 4,4,0,false⟩,⟨.box 5,5,0,false⟩,⟨.box 7,7,0,false⟩,⟨.slot 8,8,1,false⟩],false,1100⟩ else none
@[simp] def SI(k:Nat):Option Norm:=if k=5 then some ⟨[0,1,7,8],[],false,1100⟩ else none
@[simp] def SJ(k:Nat):Option Norm:=if k=5 then some ⟨[1,2,6,11,12,13],[⟨.box 6,6,0,false⟩],false,1100⟩ else none
@[simp] def SK(k:Nat):Option Norm:=if k=11 then some ⟨[3,16,17,18],[],false,1100⟩ else none
@[simp] def SL(k:Nat):Option Norm:=if k=7 then some ⟨[1,2,3,6,8,9],[⟨.box 3,3,0,false⟩,⟨.box 6,6,0,false⟩,⟨.box 8,8,0,false⟩,⟨.cell 8 0,1000,1,false⟩,⟨.cell 8 1,1001,3,false⟩],false,1102⟩ else if k=21 then some ⟨[1,2,6,8,9,62,63],[⟨.box 6,6,0,false⟩,⟨.box 8,8,0,false⟩,⟨.cell 8 0,1000,1,false⟩,⟨.cell 8 1,1001,3,false⟩],false,1102⟩ else none
@[simp] def SM(k:Nat):Option Norm:=if k=15 then some ⟨[1,9,10,11,41,42,43],[⟨.slot 9,9,1,false⟩,⟨.slot 11,11,4,false⟩],false,1100⟩ else none
@[simp] def SN(k:Nat):Option Norm:=if k=5 then some ⟨[0,1,7,8],[],false,1100⟩ else none
@[simp]def nQ63(k:Nat):Option Norm:=if k=7 then some ⟨[0,2,3,13,14,15],[⟨.box 0,0,0,false⟩,⟨.box 2,2,0,false⟩,⟨.box 3,3,0,false⟩,⟨.cell 3 0,1000,5,false⟩,⟨.cell 3 2,1001,1,false⟩],true,1102⟩ else if k=17 then some ⟨[0,2,3,6],[⟨.box 0,0,0,false⟩,⟨.box 2,2,0,false⟩,⟨.box 3,3,0,false⟩,⟨.cell 3 0,1000,5,false⟩,⟨.cell 3 2,1001,1,false⟩],true,1102⟩ else if k=45 then some ⟨[0,2,3,101,102],[⟨.box 0,0,0,false⟩,⟨.box 2,2,0,false⟩,⟨.box 3,3,0,false⟩,⟨.cell 3 0,1000,5,false⟩,⟨.cell 3 2,1001,1,false⟩],true,1102⟩ else none
def AO:FuncId->Nat->Option Norm
 |3=>Bl
 |7=>Bi
 |8=>Bh
 |12=>HC
 |20=>EW
 |23=>EV
 |25=>EQ
 |28=>EP
 |29=>EJ
 |31=>EI
 |35=>EB
 |37=>EA
 |57=>Er
 |60=>HU
 |63=>nQ63
 |69=>Fo
 |70=>Fm
 |78=>Fl
 |79=>Fa
 |80=>E'
 |81=>E_
 |82=>E9
 |85=>E2
 |87=>E1
 |96=>Hz
 |118=>R8
 |122=>Sa
 |125=>Sb
 |126=>Sc
 |130=>Sd
 |131=>Se
 |133=>Sf
 |140=>Sg
 |145=>Sh
 |146=>Si
 |154=>Sj
 |164=>Sk
 |166=>Sl
 |167=>Sm
 |171=>Sn
 |177=>So
 |184=>Sp
 |194=>Sq
 |202=>Sr
 |203=>Ss
 |204=>Su
 |206=>Sv
 |207=>Sw
 |209=>Sx
 |211=>Sy
 |215=>Sz
 |216=>SA
 |219=>SB
 |230=>SC
 |239=>SD
 |240=>SF
 |256=>SH
 |262=>SI
 |267=>SJ
 |279=>SK
 |282=>SL
 |286=>SM
 |287=>SN
 |_=>fun _=>none
@[simp] def a9w(r:Nat):List (Nat×Nat):=if r=9 then [(1,9)] else []
@[simp] def a9x(r:Nat):List (Nat×Nat):=if r=13 then [(2,7)] else []
@[simp] def a9y(r:Nat):List (Nat×Nat):=if r=6 then [(0,3),(0,5),(0,7),(8,0),(8,3),(8,5),(12,0),(12,3),(12,5),(14,0),(14,3),(14,5),(16,0),(16,3),(16,5)] else []
@[simp] def a1m(r:Nat):List (Nat×Nat):=if r=9 then [(1,8)] else []
@[simp] def Hc(r:Nat):List (Nat×Nat):=if r=2 then [(0,5),(0,7)] else if r=6 then [(0,3)] else []
@[simp] def G'(r:Nat):List (Nat×Nat):=if r=7 then [(4,0),(6,0)] else []
@[simp] def G_(r:Nat):List (Nat×Nat):=if r=10 then [(1,3)] else []
@[simp] def G8(r:Nat):List (Nat×Nat):=if r=9 then [(1,9)] else []
@[simp] def a1n(r:Nat):List (Nat×Nat):=if r=9 then [(1,10),(2,10),(3,10)] else if r=18 then [(1,12),(3,12),(5,12)] else if r=21 then [(1,5)] else if r=26 then [(2,4)] else []
@[simp] def a1p(r:Nat):List (Nat×Nat):=if r=4 then [(6,0),(9,0)] else if r=5 then [(6,0)] else []
@[simp] def a1q(r:Nat):List (Nat×Nat):=if r=1 then [(5,9),(5,11),(6,9),(6,11)] else if r=12 then [(1,5),(1,6)] else if r=14 then [(1,4),(1,7)] else if r=16 then [(1,4),(1,7)] else if r=18 then [(1,4),(1,6),(1,8)] else []
@[simp] def G6(r:Nat):List (Nat×Nat):=if r=6 then [(1,3)] else []
@[simp] def G4(r:Nat):List (Nat×Nat):=if r=5 then [(1,5),(1,6)] else if r=15 then [(1,8),(1,10)] else if r=18 then [(1,4),(1,7)] else []
@[simp] def G3(r:Nat):List (Nat×Nat):=if r=1 then [(5,9),(6,9)] else []
@[simp] def G2(r:Nat):List (Nat×Nat):=if r=15 then [(1,3)] else []
@[simp] def G1(r:Nat):List (Nat×Nat):=if r=7 then [(1,10)] else []
@[simp] def G0(r:Nat):List (Nat×Nat):=if r=6 then [(6,13),(8,13),(9,13)] else []
@[simp] def GN(r:Nat):List (Nat×Nat):=if r=10 then [(1,4)] else []
@[simp] def a1s(r:Nat):List (Nat×Nat):=if r=1 then [(3,7),(4,7)] else []
@[simp] def GK(r:Nat):List (Nat×Nat):=if r=1 then [(4,0)] else []
@[simp] def a1u(r:Nat):List (Nat×Nat):=if r=13 then [(4,0)] else []
@[simp] def a1w(r:Nat):List (Nat×Nat):=if r=6 then [(10,0),(10,8)] else if r=7 then [(6,0),(6,4)] else []
@[simp] def JO(r:Nat):List (Nat×Nat):=if r=1 then [(6,0),(6,11),(9,0)] else []
@[simp] def JD(r:Nat):List (Nat×Nat):=if r=18 then [(1,13)] else if r=24 then [(1,19)] else if r=26 then [(1,3)] else []
@[simp] def JA(r:Nat):List (Nat×Nat):=if r=7 then [(1,16),(3,16)] else []
@[simp] def Jr(r:Nat):List (Nat×Nat):=if r=7 then [(7,12)] else []
@[simp] def Jq(r:Nat):List (Nat×Nat):=if r=8 then [(3,7),(3,10),(3,13),(4,7),(4,10),(4,13)] else if r=13 then [(8,0),(9,0)] else if r=16 then [(8,0),(9,0)] else []
@[simp] def Jp(r:Nat):List (Nat×Nat):=if r=1 then [(4,0),(7,0),(7,3),(10,0),(10,3),(13,0),(13,3)] else []
@[simp] def Jo(r:Nat):List (Nat×Nat):=if r=4 then [(6,0),(6,2)] else []
@[simp] def Jn(r:Nat):List (Nat×Nat):=if r=6 then [(4,11)] else []
@[simp] def Jm(r:Nat):List (Nat×Nat):=if r=1 then [(4,0)] else if r=5 then [(1,6)] else []
@[simp] def Jl(r:Nat):List (Nat×Nat):=if r=18 then [(12,0)] else []
@[simp] def KI(r:Nat):List (Nat×Nat):=if r=13 then [(3,11),(5,11)] else []
@[simp] def S7(r:Nat):List (Nat×Nat):=if r=6 then [(5,0)] else []
@[simp] def KD(r:Nat):List (Nat×Nat):=if r=27 then [(3,14),(5,14)] else []
@[simp] def Kr(r:Nat):List (Nat×Nat):=if r=5 then [(1,4)] else []
@[simp] def Kn(r:Nat):List (Nat×Nat):=if r=8 then [(2,7),(4,7),(5,7)] else []
@[simp] def Kf(r:Nat):List (Nat×Nat):=if r=2 then [(4,9)] else []
@[simp] def J'(r:Nat):List (Nat×Nat):=if r=2 then [(3,6),(3,8)] else []
@[simp] def J_(r:Nat):List (Nat×Nat):=if r=6 then [(11,19),(13,19),(14,19),(15,19)] else if r=28 then [(3,13),(5,13)] else []
@[simp] def J7(r:Nat):List (Nat×Nat):=if r=2 then [(3,6),(3,8)] else []
@[simp] def J6(r:Nat):List (Nat×Nat):=if r=5 then [(1,4)] else []
@[simp] def J3(r:Nat):List (Nat×Nat):=if r=17 then [(1,10),(1,11),(4,10),(6,10),(7,10)] else []
@[simp] def I_(r:Nat):List (Nat×Nat):=if r=32 then [(7,10),(8,10)] else if r=35 then [(7,10),(8,10)] else if r=43 then [(1,3)] else []
@[simp] def I7(r:Nat):List (Nat×Nat):=if r=15 then [(5,8)] else []
@[simp] def I0(r:Nat):List (Nat×Nat):=if r=1 then [(18,22)] else if r=24 then [(2,13)] else []
@[simp] def IR(r:Nat):List (Nat×Nat):=if r=7 then [(3,17)] else []
@[simp] def R0(r:Nat):List (Nat×Nat):=if r=2 then [(10,0),(10,8)] else if r=3 then [(6,0),(6,4)] else []
@[simp] def IB(r:Nat):List (Nat×Nat):=if r=3 then [(1,14),(8,14),(8,15),(10,14),(10,15)] else []
def NE:FuncId->Nat->List (Nat×Nat)
 |4=>a9w
 |5=>a9x
 |9=>a9y
 |15=>a1m
 |19=>Hc
 |20=>G'
 |21=>G_
 |36=>G8
 |40=>a1n
 |41=>a1p
 |42=>a1q
 |56=>G6
 |63=>G4
 |68=>G3
 |74=>G2
 |77=>G1
 |82=>G0
 |85=>GN
 |88=>a1s
 |91=>GK
 |93=>a1u
 |96=>a1w
 |103=>JO
 |118=>JD
 |119=>JA
 |121=>Jr
 |127=>Jq
 |132=>Jp
 |134=>Jo
 |138=>Jn
 |151=>Jm
 |154=>Jl
 |161=>KI
 |185=>S7
 |198=>KD
 |205=>Kr
 |208=>Kn
 |210=>Kf
 |238=>J'
 |246=>J_
 |252=>J7
 |253=>J6
 |255=>J3
 |256=>I_
 |264=>I7
 |265=>I0
 |268=>IR
 |270=>R0
 |297=>IB
 |_=>fun _=> []
noncomputable def X:Env:={P:=Tryz.prog,ti:=ti,pz:=M3,ja:=NX,iu:=NB,clone:=cl,fV:=Nm,uz:=NE,norm:=AO,low:=a9t,mask:=Nl,gy:=M_,flat:=ND,pO:=fun _=>none}
@[simp]def bji:X.ti=ti:=(rfl)
abbrev Xa(f:FuncId):Prop:=X.clone f=none/\X.ja f=false/\X.iu f=false/\X.low f=false/\X.gy f=[]
abbrev Xl(f:FuncId):Prop:=X.clone f=none/\X.ja f=false/\X.iu f=false/\X.low f=true/\X.gy f=[]
abbrev Xt(f:FuncId):Prop:=X.pz f=fun _=>false
abbrev Xf(f:FuncId):Prop:=X.flat f=fun _=>false
abbrev Xk(f:FuncId):Prop:=X.fV f=fun _=>false
abbrev Xm(f:FuncId):Prop:=X.mask f=fun _=> []
abbrev Xn(f:FuncId):Prop:=X.norm f=fun _=>none
abbrev Xe(f:FuncId):Prop:=X.uz f=fun _=> []
abbrev sx(f:FuncId):Prop:=X.clone f=none/\X.ja f=true/\X.iu f=false/\X.low f=false/\X.gy f=[]
abbrev v6(f:FuncId):Prop:=X.clone f=none/\X.ja f=false/\X.iu f=true/\X.low f=false/\X.gy f=[]
abbrev Fq(f:FuncId):Prop:=X.clone f=none/\X.ja f=false/\X.iu f=true/\X.low f=true/\X.gy f=[]
abbrev Xd(f:FuncId):Prop:=Xa f/\Xt f/\Xf f/\Xk f/\Xm f/\Xn f/\Xe f
abbrev Xw(f:FuncId):Prop:=Xt f/\Xk f/\Xm f
@[simp]def X3:Xl 3/\Xt 3/\Xf 3/\Xk 3/\Xm 3/\X.norm 3=Bl/\Xe 3/\Xd 6/\Xl 7/\Xt 7/\Xf 7/\Xk 7/\X.mask 7=MK/\X.norm 7=Bi/\Xe 7/\Xl 8/\Xt 8/\Xf 8/\Xk 8/\Xm 8/\X.norm 8=Bh/\Xe 8/\sx 18/\Xt 18/\Xf 18/\Xk 18/\Xm 18/\Xn 18/\Xe 18/\v6 19/\Xt 19/\Xf 19/\Xk 19/\X.mask 19=HJ/\Xn 19/\X.uz 19=Hc/\Xl 20/\Xt 20/\Xf 20/\Xk 20/\Xm 20/\X.norm 20=EW/\X.uz 20=G'/\Xa 21/\Xt 21/\Xf 21/\Xk 21/\Xm 21/\Xn 21/\X.uz 21=G_/\Xd 22/\Xl 23/\Xt 23/\Xf 23/\Xk 23/\Xm 23/\X.norm 23=EV/\Xe 23/\Xd 24/\Xl 25/\Xt 25/\Xf 25/\Xk 25/\Xm 25/\X.norm 25=EQ/\Xe 25/\Xd 26/\Xd 27/\Xl 28/\Xt 28/\Xf 28/\Xk 28/\Xm 28/\X.norm 28=EP/\Xe 28/\Xl 29/\Xt 29/\Xf 29/\Xk 29/\Xm 29/\X.norm 29=EJ/\Xe 29/\Xl 31/\Xt 31/\Xf 31/\Xk 31/\Xm 31/\X.norm 31=EI/\Xe 31/\Xd 32/\Xd 34/\Xl 35/\Xt 35/\Xf 35/\Xk 35/\Xm 35/\X.norm 35=EB/\Xe 35/\Xa 36/\(∀d:Nat,X.pz 36 d=(d==17))/\Xf 36/\(∀t:TypeId,X.fV 36 t=(t==57||t==160))/\Xm 36/\Xn 36/\X.uz 36=G8/\Xl 37/\Xt 37/\Xf 37/\Xk 37/\Xm 37/\X.norm 37=EA/\Xe 37/\Xa 56/\Xt 56/\Xf 56/\Xk 56/\Xm 56/\Xn 56/\X.uz 56=G6/\Xl 57/\Xt 57/\Xf 57/\Xk 57/\Xm 57/\X.norm 57=Er/\Xe 57:=aL
@[simp]def X58:v6 58/\Xt 58/\Xf 58/\Xk 58/\Xm 58/\Xn 58/\Xe 58/\Fq 63/\Xt 63/\Xf 63/\Xk 63/\Xm 63/\X.norm 63=nQ63/\X.uz 63=G4/\Xa 64/\Xt 64/\Xf 64/\Xk 64/\X.mask 64=HI/\Xn 64/\Xe 64/\v6 65/\Xt 65/\Xf 65/\Xk 65/\Xm 65/\Xn 65/\Xe 65/\v6 66/\Xt 66/\Xf 66/\Xk 66/\Xm 66/\Xn 66/\Xe 66/\sx 67/\(∀d:Nat,X.pz 67 d=(d==16))/\Xf 67/\Xk 67/\X.mask 67=HF/\Xn 67/\Xe 67/\v6 68/\Xt 68/\Xf 68/\Xk 68/\Xm 68/\Xn 68/\X.uz 68=G3/\Xl 69/\Xt 69/\Xf 69/\Xk 69/\Xm 69/\X.norm 69=Fo/\Xe 69/\Xl 70/\Xt 70/\Xf 70/\Xk 70/\Xm 70/\X.norm 70=Fm/\Xe 70/\Xd 71/\Xd 72/\Xa 73/\(∀d:Nat,X.pz 73 d=(d==11))/\Xf 73/\(∀t:TypeId,X.fV 73 t=(t==110||t==112))/\Xm 73/\Xn 73/\Xe 73/\Xa 74/\(∀d:Nat,X.pz 74 d=(d==76))/\Xf 74/\Xk 74/\X.mask 74=HE/\Xn 74/\X.uz 74=G2/\Xa 75/\(∀d:Nat,X.pz 75 d=(d==21||d==23||d==42||d==79))/\Xf 75/\(∀t:TypeId,X.fV 75 t=(t==110||t==112))/\Xm 75/\Xn 75/\Xe 75/\Xa 76/\Xt 76/\Xf 76/\Xk 76/\X.mask 76=HD/\Xn 76/\Xe 76/\Xa 77/\(∀d:Nat,X.pz 77 d=(d==40||d==54||d==56||d==66))/\Xf 77/\(∀t:TypeId,X.fV 77 t=(t==110||t==112))/\Xm 77/\Xn 77/\X.uz 77=G1/\Xl 78/\Xt 78/\Xf 78/\Xk 78/\Xm 78/\X.norm 78=Fl/\Xe 78/\Xl 79/\Xt 79/\Xf 79/\Xk 79/\Xm 79/\X.norm 79=Fa/\Xe 79/\Xl 80/\Xt 80/\Xf 80/\Xk 80/\Xm 80/\X.norm 80=E'/\Xe 80/\Xl 81/\Xt 81/\Xf 81/\Xk 81/\Xm 81/\X.norm 81=E_/\Xe 81/\Xl 82/\Xt 82/\Xf 82/\Xk 82/\Xm 82/\X.norm 82=E9/\X.uz 82=G0/\Xd 83/\Xd 84/\Xl 85/\Xt 85/\Xf 85/\Xk 85/\Xm 85/\X.norm 85=E2/\X.uz 85=GN:=aL
@[simp]def X86:Xd 86/\Xl 87/\Xt 87/\Xf 87/\Xk 87/\Xm 87/\X.norm 87=E1/\Xe 87/\Xa 89/\Xt 89/\Xf 89/\(∀t:TypeId,X.fV 89 t=(t==57))/\Xm 89/\Xn 89/\Xe 89/\Xd 90/\Xa 91/\Xt 91/\Xf 91/\Xk 91/\Xm 91/\Xn 91/\X.uz 91=GK/\Xd 94/\Xd 98/\Xd 102/\Xa 103/\(∀d:Nat,X.pz 103 d=(d==16))/\Xf 103/\(∀t:TypeId,X.fV 103 t=(t==110||t==112))/\Xm 103/\Xn 103/\X.uz 103=JO/\Xd 107/\Xd 112/\Xd 117/\Xl 118/\Xt 118/\Xf 118/\Xk 118/\X.mask 118=Lj/\X.norm 118=R8/\X.uz 118=JD/\sx 119/\(∀d:Nat,X.pz 119 d=(d==51||d==77))/\Xf 119/\(∀t:TypeId,X.fV 119 t=(t==110||t==112))/\Xm 119/\Xn 119/\X.uz 119=JA/\Xa 120/\Xt 120/\Xf 120/\Xk 120/\X.mask 120=Lb/\Xn 120/\Xe 120/\sx 121/\(∀d:Nat,X.pz 121 d=(d==54))/\Xf 121/\(∀t:TypeId,X.fV 121 t=(t==110||t==112))/\Xm 121/\Xn 121/\X.uz 121=Jr/\Xl 122/\Xt 122/\Xf 122/\Xk 122/\Xm 122/\X.norm 122=Sa/\Xe 122/\Xd 123/\Fq 125/\(∀d:Nat,X.pz 125 d=(d==8))/\Xf 125/\Xk 125/\Xm 125/\X.norm 125=Sb/\Xe 125/\Fq 126/\Xt 126/\Xf 126/\Xk 126/\Xm 126/\X.norm 126=Sc/\Xe 126/\v6 127/\(∀d:Nat,X.pz 127 d=(d==102||d==113||d==134))/\Xf 127/\Xk 127/\Xm 127/\Xn 127/\X.uz 127=Jq/\Xd 128/\Xd 129/\Xl 130/\Xt 130/\Xf 130/\Xk 130/\Xm 130/\X.norm 130=Sd/\Xe 130:=aL
@[simp]def bj0:Xl 131/\Xt 131/\Xf 131/\Xk 131/\Xm 131/\X.norm 131=Se/\Xe 131/\Xa 132/\Xt 132/\Xf 132/\Xk 132/\Xm 132/\Xn 132/\X.uz 132=Jp/\Xl 133/\Xt 133/\Xf 133/\Xk 133/\Xm 133/\X.norm 133=Sf/\Xe 133/\Xa 134/\Xt 134/\Xf 134/\Xk 134/\Xm 134/\Xn 134/\X.uz 134=Jo/\Xd 135/\Xd 136/\Xd 137/\X.clone 138=none/\X.ja 138=false/\X.iu 138=true/\X.low 138=false/\X.gy 138=[(0,16,65),(0,17,3),(0,7,112)]/\Xt 138/\Xf 138/\(∀t:TypeId,X.fV 138 t=(t==112))/\Xm 138/\Xn 138/\X.uz 138=Jn/\X.clone 139=none/\X.ja 139=false/\X.iu 139=true/\X.low 139=false/\X.gy 139=[(0,16,65),(0,17,3),(0,7,112)]/\Xt 139/\Xf 139/\(∀t:TypeId,X.fV 139 t=(t==112))/\Xm 139/\Xn 139/\Xe 139/\Xl 140/\Xt 140/\Xf 140/\Xk 140/\Xm 140/\X.norm 140=Sg/\Xe 140/\Xd 141/\Xd 142/\Xd 143/\Xd 144/\Xl 145/\Xt 145/\Xf 145/\Xk 145/\Xm 145/\X.norm 145=Sh/\Xe 145/\Xl 146/\Xt 146/\Xf 146/\Xk 146/\Xm 146/\X.norm 146=Si/\Xe 146/\Xd 147/\Xd 148/\Xd 149/\Xd 150/\Xa 151/\Xt 151/\Xf 151/\(∀t:TypeId,X.fV 151 t=(t==110||t==112))/\Xm 151/\Xn 151/\X.uz 151=Jm/\X.clone 152=some 30/\X.ja 152=false/\X.iu 152=false/\X.low 152=false/\X.gy 152=[]/\Xd 153/\Xl 154/\Xt 154/\Xf 154/\Xk 154/\Xm 154/\X.norm 154=Sj/\X.uz 154=Jl:=aL
@[simp]def bko:Xa 155/\(∀d:Nat,X.pz 155 d=(d==9))/\Xf 155/\Xk 155/\Xm 155/\Xn 155/\Xe 155/\Xd 156/\Xd 157/\Xd 158/\Xd 159/\sx 160/\Xt 160/\Xf 160/\(∀t:TypeId,X.fV 160 t=(t==110||t==112))/\Xm 160/\Xn 160/\Xe 160/\sx 161/\(∀d:Nat,X.pz 161 d=(d==91))/\Xf 161/\(∀t:TypeId,X.fV 161 t=(t==110||t==112))/\Xm 161/\Xn 161/\X.uz 161=KI/\Xd 162/\Xa 163/\(∀d:Nat,X.pz 163 d=(d==10))/\Xf 163/\Xk 163/\Xm 163/\Xn 163/\Xe 163/\Xl 164/\Xt 164/\Xf 164/\Xk 164/\Xm 164/\X.norm 164=Sk/\Xe 164/\Xd 165/\Xl 166/\Xt 166/\Xf 166/\Xk 166/\Xm 166/\X.norm 166=Sl/\Xe 166/\Xl 167/\Xt 167/\Xf 167/\Xk 167/\Xm 167/\X.norm 167=Sm/\Xe 167/\Xd 168/\Xd 170/\Xl 171/\Xt 171/\Xf 171/\Xk 171/\Xm 171/\X.norm 171=Sn/\Xe 171/\v6 172/\Xt 172/\Xf 172/\Xk 172/\Xm 172/\Xn 172/\Xe 172/\Xd 175/\Xd 176/\Xl 177/\Xt 177/\Xf 177/\Xk 177/\Xm 177/\X.norm 177=So/\Xe 177/\Xd 178/\Xa 179/\Xt 179/\Xf 179/\(∀t:TypeId,X.fV 179 t=(t==110||t==112))/\Xm 179/\Xn 179/\Xe 179/\Xd 180/\Xl 184/\Xt 184/\Xf 184/\Xk 184/\Xm 184/\X.norm 184=Sp/\Xe 184:=aL
@[simp]def blc:Xd 190/\Xd 191/\Xd 192/\Xa 193/\(∀d:Nat,X.pz 193 d=(d==36))/\Xf 193/\(∀t:TypeId,X.fV 193 t=(t==110||t==112))/\Xm 193/\Xn 193/\Xe 193/\Xl 194/\Xt 194/\Xf 194/\Xk 194/\Xm 194/\X.norm 194=Sq/\Xe 194/\Xa 195/\(∀d:Nat,X.pz 195 d=(d==9))/\Xf 195/\Xk 195/\Xm 195/\Xn 195/\Xe 195/\Xd 196/\Xd 197/\sx 198/\(∀d:Nat,X.pz 198 d=(d==221))/\Xf 198/\(∀t:TypeId,X.fV 198 t=(t==110||t==112))/\Xm 198/\Xn 198/\X.uz 198=KD/\Xd 199/\Xd 200/\v6 201/\Xt 201/\Xf 201/\Xk 201/\Xm 201/\Xn 201/\Xe 201/\Xl 202/\Xt 202/\Xf 202/\Xk 202/\Xm 202/\X.norm 202=Sr/\Xe 202/\Xl 203/\Xt 203/\Xf 203/\Xk 203/\Xm 203/\X.norm 203=Ss/\Xe 203/\Xl 204/\Xt 204/\Xf 204/\Xk 204/\Xm 204/\X.norm 204=Su/\Xe 204/\Xa 205/\Xt 205/\Xf 205/\(∀t:TypeId,X.fV 205 t=(t==57))/\Xm 205/\Xn 205/\X.uz 205=Kr/\Xl 206/\Xt 206/\Xf 206/\Xk 206/\Xm 206/\X.norm 206=Sv/\Xe 206/\Xl 207/\Xt 207/\Xf 207/\Xk 207/\Xm 207/\X.norm 207=Sw/\Xe 207/\Xa 208/\Xt 208/\Xf 208/\Xk 208/\X.mask 208=K'/\Xn 208/\X.uz 208=Kn/\X.clone 209=none/\X.ja 209=false/\X.iu 209=true/\X.low 209=true/\X.gy 209=[(0,16,65),(0,17,3),(0,7,112)]/\Xt 209/\Xf 209/\Xk 209/\Xm 209/\X.norm 209=Sx/\Xe 209/\sx 210/\Xt 210/\Xf 210/\Xk 210/\Xm 210/\Xn 210/\X.uz 210=Kf/\Xl 211/\Xt 211/\Xf 211/\Xk 211/\X.mask 211=K_/\X.norm 211=Sy/\Xe 211/\Xd 212/\Xd 213:=aL
@[simp]def bl3:Xd 214/\Xl 215/\Xt 215/\Xf 215/\Xk 215/\Xm 215/\X.norm 215=Sz/\Xe 215/\Xl 216/\Xt 216/\Xf 216/\Xk 216/\Xm 216/\X.norm 216=SA/\Xe 216/\Xd 217/\Xd 218/\Xl 219/\Xt 219/\Xf 219/\Xk 219/\Xm 219/\X.norm 219=SB/\Xe 219/\Xd 220/\Xd 221/\Xd 222/\Xd 223/\X.clone 224=some 22/\X.ja 224=false/\X.iu 224=false/\X.low 224=false/\X.gy 224=[]/\X.clone 225=some 31/\X.ja 225=false/\X.iu 225=false/\X.low 225=false/\X.gy 225=[]/\sx 226/\(∀d:Nat,X.pz 226 d=(d==22))/\Xf 226/\(∀t:TypeId,X.fV 226 t=(t==110||t==112))/\Xm 226/\Xn 226/\Xe 226/\sx 227/\Xt 227/\Xf 227/\(∀t:TypeId,X.fV 227 t=(t==110||t==112))/\Xm 227/\Xn 227/\Xe 227/\Xd 228/\Xd 229/\Xl 230/\Xt 230/\Xf 230/\Xk 230/\Xm 230/\X.norm 230=SC/\Xe 230/\Xd 231/\Xd 232/\Xd 233/\Xd 234/\Xd 235/\Xd 236/\sx 237/\Xt 237/\Xf 237/\(∀t:TypeId,X.fV 237 t=(t==110||t==112))/\Xm 237/\Xn 237/\Xe 237:=aL
@[simp]def bmr:Xa 238/\Xt 238/\Xf 238/\Xk 238/\X.mask 238=K8/\Xn 238/\X.uz 238=J'/\Xl 239/\Xt 239/\Xf 239/\Xk 239/\Xm 239/\X.norm 239=SD/\Xe 239/\Xl 240/\Xt 240/\Xf 240/\Xk 240/\Xm 240/\X.norm 240=SF/\Xe 240/\Xd 242/\sx 246/\Xt 246/\Xf 246/\(∀t:TypeId,X.fV 246 t=(t==110||t==112))/\Xm 246/\Xn 246/\X.uz 246=J_/\Xd 247/\Xd 248/\Xd 249/\Xd 250/\sx 251/\Xt 251/\Xf 251/\(∀t:TypeId,X.fV 251 t=(t==110||t==112))/\Xm 251/\Xn 251/\Xe 251/\Xa 252/\Xt 252/\Xf 252/\Xk 252/\X.mask 252=K7/\Xn 252/\X.uz 252=J7/\Xa 253/\Xt 253/\Xf 253/\(∀t:TypeId,X.fV 253 t=(t==22))/\Xm 253/\Xn 253/\X.uz 253=J6/\Xd 254/\Xa 255/\(∀d:Nat,X.pz 255 d=(d==14))/\Xf 255/\(∀t:TypeId,X.fV 255 t=(t==22))/\Xm 255/\Xn 255/\X.uz 255=J3/\Xl 256/\(∀d:Nat,X.pz 256 d=(d==72))/\Xf 256/\Xk 256/\Xm 256/\X.norm 256=SH/\X.uz 256=I_/\Xd 257/\Xd 258/\Xd 259/\Xd 260/\Xd 261/\Xl 262/\Xt 262/\Xf 262/\Xk 262/\Xm 262/\X.norm 262=SI/\Xe 262/\Xd 263/\sx 264/\Xt 264/\Xf 264/\(∀t:TypeId,X.fV 264 t=(t==110||t==112))/\Xm 264/\Xn 264/\X.uz 264=I7/\sx 265/\Xt 265/\Xf 265/\(∀t:TypeId,X.fV 265 t=(t==110||t==112))/\Xm 265/\Xn 265/\X.uz 265=I0:=aL
@[simp]def bnh:Xd 266/\Xl 267/\Xt 267/\Xf 267/\Xk 267/\Xm 267/\X.norm 267=SJ/\Xe 267/\sx 268/\Xt 268/\Xf 268/\(∀t:TypeId,X.fV 268 t=(t==110||t==112))/\Xm 268/\Xn 268/\X.uz 268=IR/\Xa 269/\Xt 269/\Xf 269/\Xk 269/\X.mask 269=K5/\Xn 269/\Xe 269/\sx 271/\Xt 271/\Xf 271/\(∀t:TypeId,X.fV 271 t=(t==110||t==112))/\Xm 271/\Xn 271/\Xe 271/\Xd 272/\sx 273/\Xt 273/\Xf 273/\(∀t:TypeId,X.fV 273 t=(t==110||t==112))/\Xm 273/\Xn 273/\Xe 273/\Xd 274/\Xd 275/\sx 276/\Xt 276/\Xf 276/\(∀t:TypeId,X.fV 276 t=(t==110||t==112))/\Xm 276/\Xn 276/\Xe 276/\Xd 277/\Xd 278/\Xl 279/\Xt 279/\Xf 279/\Xk 279/\Xm 279/\X.norm 279=SK/\Xe 279/\Xa 280/\(∀d:Nat,X.pz 280 d=(d==15))/\Xf 280/\(∀t:TypeId,X.fV 280 t=(t==57))/\Xm 280/\Xn 280/\Xe 280/\Xa 281/\Xt 281/\Xf 281/\Xk 281/\X.mask 281=K4/\Xn 281/\Xe 281/\Xl 282/\Xt 282/\Xf 282/\Xk 282/\X.mask 282=K3/\X.norm 282=SL/\Xe 282/\Xa 283/\Xt 283/\Xf 283/\Xk 283/\X.mask 283=K2/\Xn 283/\Xe 283/\Xa 284/\Xt 284/\Xf 284/\Xk 284/\X.mask 284=K1/\Xn 284/\Xe 284/\Xa 285/\Xt 285/\Xf 285/\Xk 285/\X.mask 285=KS/\Xn 285/\Xe 285/\Xl 286/\Xt 286/\Xf 286/\Xk 286/\X.mask 286=KJ/\X.norm 286=SM/\Xe 286/\Xl 287/\Xt 287/\Xf 287/\Xk 287/\Xm 287/\X.norm 287=SN/\Xe 287/\Xd 288/\Xd 289/\Xd 290:=aL
@[simp]def bn5:Xd 291/\sx 292/\Xt 292/\Xf 292/\(∀t:TypeId,X.fV 292 t=(t==110||t==112))/\Xm 292/\Xn 292/\Xe 292/\Xd 293/\sx 294/\Xt 294/\Xf 294/\(∀t:TypeId,X.fV 294 t=(t==110||t==112))/\Xm 294/\Xn 294/\Xe 294/\Xd 295/\Xd 296/\Xa 297/\Xt 297/\Xf 297/\Xk 297/\Xm 297/\Xn 297/\X.uz 297=IB/\Xd 298/\Xd 299/\Xd 300/\Xd 301/\Xd 302:=aL
end Go.Proofs.YtdngefmliibcgaaGreat
namespace Go.Abs.jJ
open Go Go.Abs
variable  {α β:Type}{Q:Ex->St->Prop}{b:Code}{S:St}
def lY{f:α->V}(h: ∀x,(f x).l6=f x)(l:List α):ft (l.map f)=l.map f:=by
 rw[Ou,w3];exact w5 fun x _=>h x
@[simp]def ax5(k:IntKind)(l:List Int):ft (l.map (V.int k))=l.map (V.int k):=lY (fun _=>rfl) l
structure ac where
 gs:Int
 val:Int
 deriving DecidableEq,Inhabited
def ac.e(x:ac):V:= .agg [.int .u8 x.gs,.int .u16 x.val]
def ac.cN(x:ac):x.e= .agg [.int .u8 x.gs,.int .u16 x.val]:=(rfl)
def ac.eq_iff(x y:ac):x=y↔x.gs=y.gs/\x.val=y.val:=aI
@[simp]def ac.jm(x:ac):x.e.cells=[.int .u8 x.gs,.int .u16 x.val]:=(rfl)
@[simp]def ax6(l:List ac):ft (l.map ac.e)=l.map ac.e:=lY (fun x=>by simp[ac.cN]) l
structure FE where
 lm:Int
 iC:Int
 deriving DecidableEq,Inhabited
def FE.e(x:FE):V:= .agg [.int .i64 x.lm,.int .i64 x.iC]
def FE.cN(x:FE):x.e= .agg [.int .i64 x.lm,.int .i64 x.iC]:=(rfl)
def FE.eq_iff(x y:FE):x=y↔x.lm=y.lm/\x.iC=y.iC:=aI
@[simp]def FE.jm(x:FE):x.e.cells=[.int .i64 x.lm,.int .i64 x.iC]:=(rfl)
structure iy where
 aK:List Int
 key:Int
 deriving DecidableEq,Inhabited
def iy.e(x:iy):V:= .agg [.sl false (x.aK.map (V.int .i64)),.int .u16 x.key]
def iy.cN(x:iy):x.e= .agg [.sl false (x.aK.map (V.int .i64)),.int .u16 x.key]:=(rfl)
def iy.eq_iff(x y:iy):x=y↔x.aK=y.aK/\x.key=y.key:=aI
@[simp]def iy.jm(x:iy):x.e.cells=[.sl false (x.aK.map (V.int .i64)),.int .u16 x.key]:=(rfl)
structure cP where
 gs:Int
 jK:Bool
 cells:List ac
 deriving DecidableEq,Inhabited
def cP.e(x:cP):V:= .agg [.int .i64 x.gs,.bool x.jK,.sl false (x.cells.map ac.e)]
def cP.cN(x:cP):x.e= .agg [.int .i64 x.gs,.bool x.jK,.sl false (x.cells.map ac.e)]:=(rfl)
def cP.eq_iff(x y:cP):x=y↔x.gs=y.gs/\x.jK=y.jK/\x.cells=y.cells:=aI
@[simp]def cP.jm(x:cP):x.e.cells=[.int .i64 x.gs,.bool x.jK,.sl false (x.cells.map ac.e)]:=(rfl)
@[simp]def ax7(l:List cP):ft (l.map cP.e)=l.map cP.e:=lY (fun x=>by simp[cP.cN]) l
structure aD where
 cells:List ac
 ge:List cP
 deriving DecidableEq,Inhabited
def aD.e(x:aD):V:= .agg [.sl false (x.cells.map ac.e),.sl false (x.ge.map cP.e)]
def aD.cN(x:aD):x.e= .agg [.sl false (x.cells.map ac.e),.sl false (x.ge.map cP.e)]:=(rfl)
def aD.eq_iff(x y:aD):x=y↔x.cells=y.cells/\x.ge=y.ge:=aI
@[simp]def aD.jm(x:aD):x.e.cells=[.sl false (x.cells.map ac.e),.sl false (x.ge.map cP.e)]:=(rfl)
structure hu where
 op:Int
 a:Int
 b:Int
 c:Int
 eA:Int
 deriving DecidableEq,Inhabited
def hu.e(x:hu):V:= .agg [.int .i64 x.op,.int .i64 x.a,.int .i64 x.b,.int .i64 x.c,.int .i64 x.eA]
def hu.cN(x:hu):x.e= .agg [.int .i64 x.op,.int .i64 x.a,.int .i64 x.b,.int .i64 x.c,.int .i64 x.eA]:=(rfl)
def hu.eq_iff(x y:hu):x=y↔x.op=y.op/\x.a=y.a/\x.b=y.b/\x.c=y.c/\x.eA=y.eA:=aI
@[simp]def hu.jm(x:hu):x.e.cells=[.int .i64 x.op,.int .i64 x.a,.int .i64 x.b,.int .i64 x.c,.int .i64 x.eA]:=(rfl)
@[simp]def aud(l:List hu):ft (l.map hu.e)=l.map hu.e:=lY (fun x=>by simp[hu.cN]) l
def bw(x:List Int):V:= .sl false (x.map (V.int .u16))
def Cc(x:List Int):bw x= .sl false (x.map (V.int .u16)):=(rfl)
@[simp]def Xc(x:List Int):(bw x).cells=[.sl false (x.map (V.int .u16))]:=(rfl)
@[simp]def KF(l:List (List Int)):ft (l.map bw)=l.map bw:=lY (fun x=>by simp[Cc]) l
structure g9 where
 hw:List hu
 ax:List Int
 ap:List (List Int)
 deriving DecidableEq,Inhabited
def g9.e(x:g9):V:= .agg [.sl false (x.hw.map hu.e),.sl false (x.ax.map (V.int .i64)),.sl false (x.ap.map bw)]
def g9.cN(x:g9):x.e= .agg [.sl false (x.hw.map hu.e),.sl false (x.ax.map (V.int .i64)),.sl false (x.ap.map bw)]:=(rfl)
def g9.eq_iff(x y:g9):x=y↔x.hw=y.hw/\x.ax=y.ax/\x.ap=y.ap:=aI
@[simp]def g9.jm(x:g9):x.e.cells=[.sl false (x.hw.map hu.e),.sl false (x.ax.map (V.int .i64)),.sl false (x.ap.map bw)]:=(rfl)
structure gc where
 im:Int
 bK:List ac
 pc:Int
 ia:Int
 db:Int
 iw:Int
 dD:Int
 hw:Int
 deriving DecidableEq,Inhabited
def gc.e(x:gc):V:= .agg [.int .i64 x.im,.sl false (x.bK.map ac.e),.int .i64 x.pc,.int .i64 x.ia,.int .i64 x.db,.int .i64 x.iw,.int .i64 x.dD,.int .u16 x.hw]
def gc.cN(x:gc):x.e= .agg [.int .i64 x.im,.sl false (x.bK.map ac.e),.int .i64 x.pc,.int .i64 x.ia,.int .i64 x.db,.int .i64 x.iw,.int .i64 x.dD,.int .u16 x.hw]:=(rfl)
def gc.eq_iff(x y:gc):x=y↔x.im=y.im/\x.bK=y.bK/\x.pc=y.pc/\x.ia=y.ia/\x.db=y.db/\x.iw=y.iw/\x.dD=y.dD/\x.hw=y.hw:=aI
@[simp]def gc.jm(x:gc):x.e.cells=[.int .i64 x.im,.sl false (x.bK.map ac.e),.int .i64 x.pc,.int .i64 x.ia,.int .i64 x.db,.int .i64 x.iw,.int .i64 x.dD,.int .u16 x.hw]:=(rfl)
@[simp]def aqq(l:List gc):ft (l.map gc.e)=l.map gc.e:=lY (fun x=>by simp[gc.cN]) l
structure aN where
 am:iy
 gt:aD
 ce:List gc
 deriving DecidableEq,Inhabited
def aN.e(x:aN):V:= .agg [.sl false (x.am.aK.map (V.int .i64)),.int .u16 x.am.key,.sl false (x.gt.cells.map ac.e),.sl false (x.gt.ge.map cP.e),.sl false (x.ce.map gc.e)]
def aN.cN(x:aN):x.e= .agg [.sl false (x.am.aK.map (V.int .i64)),.int .u16 x.am.key,.sl false (x.gt.cells.map ac.e),.sl false (x.gt.ge.map cP.e),.sl false (x.ce.map gc.e)]:=(rfl)
def aN.eq_iff(x y:aN):x=y↔x.am=y.am/\x.gt=y.gt/\x.ce=y.ce:=aI
@[simp]def aN.jm(x:aN):x.e.cells=[.sl false (x.am.aK.map (V.int .i64)),.int .u16 x.am.key,.sl false (x.gt.cells.map ac.e),.sl false (x.gt.ge.map cP.e),.sl false (x.ce.map gc.e)]:=(rfl)
structure fd where
 gs:Int
 val:Int
 lm:Int
 iC:Int
 deriving DecidableEq,Inhabited
def fd.e(x:fd):V:= .agg [.int .u8 x.gs,.int .u16 x.val,.int .i64 x.lm,.int .i64 x.iC]
def fd.cN(x:fd):x.e= .agg [.int .u8 x.gs,.int .u16 x.val,.int .i64 x.lm,.int .i64 x.iC]:=(rfl)
def fd.eq_iff(x y:fd):x=y↔x.gs=y.gs/\x.val=y.val/\x.lm=y.lm/\x.iC=y.iC:=aI
@[simp]def fd.jm(x:fd):x.e.cells=[.int .u8 x.gs,.int .u16 x.val,.int .i64 x.lm,.int .i64 x.iC]:=(rfl)
@[simp]def aue(l:List fd):ft (l.map fd.e)=l.map fd.e:=lY (fun x=>by simp[fd.cN]) l
structure io where
 cw:Int
 j':Int
 dD:Int
 ia:Int
 pc:Int
 call:Int
 args:List fd
 ap:List fd
 deriving DecidableEq,Inhabited
def io.e(x:io):V:= .agg [.int .i64 x.cw,.int .i64 x.j',.int .i64 x.dD,.int .i64 x.ia,.int .i64 x.pc,.int .i64 x.call,.sl false (x.args.map fd.e),.sl false (x.ap.map fd.e)]
def io.cN(x:io):x.e= .agg [.int .i64 x.cw,.int .i64 x.j',.int .i64 x.dD,.int .i64 x.ia,.int .i64 x.pc,.int .i64 x.call,.sl false (x.args.map fd.e),.sl false (x.ap.map fd.e)]:=(rfl)
def io.eq_iff(x y:io):x=y↔x.cw=y.cw/\x.j'=y.j'/\x.dD=y.dD/\x.ia=y.ia/\x.pc=y.pc/\x.call=y.call/\x.args=y.args/\x.ap=y.ap:=aI
@[simp]def io.jm(x:io):x.e.cells=[.int .i64 x.cw,.int .i64 x.j',.int .i64 x.dD,.int .i64 x.ia,.int .i64 x.pc,.int .i64 x.call,.sl false (x.args.map fd.e),.sl false (x.ap.map fd.e)]:=(rfl)
structure eI where
 iW:fd
 ap:List fd
 lw:Int
 wait:Bool
 deriving DecidableEq,Inhabited
def eI.e(x:eI):V:= .agg [.int .u8 x.iW.gs,.int .u16 x.iW.val,.int .i64 x.iW.lm,.int .i64 x.iW.iC,.sl false (x.ap.map fd.e),.int .i64 x.lw,.bool x.wait]
def eI.cN(x:eI):x.e= .agg [.int .u8 x.iW.gs,.int .u16 x.iW.val,.int .i64 x.iW.lm,.int .i64 x.iW.iC,.sl false (x.ap.map fd.e),.int .i64 x.lw,.bool x.wait]:=(rfl)
def eI.eq_iff(x y:eI):x=y↔x.iW=y.iW/\x.ap=y.ap/\x.lw=y.lw/\x.wait=y.wait:=aI
@[simp]def eI.jm(x:eI):x.e.cells=[.int .u8 x.iW.gs,.int .u16 x.iW.val,.int .i64 x.iW.lm,.int .i64 x.iW.iC,.sl false (x.ap.map fd.e),.int .i64 x.lw,.bool x.wait]:=(rfl)
structure rd where
 im:Int
 pc:Int
 ia:Int
 db:Int
 iw:Int
 dD:Int
 hw:Int
 bK:List fd
 deriving DecidableEq,Inhabited
def rd.e(x:rd):V:= .agg [.int .i64 x.im,.int .i64 x.pc,.int .i64 x.ia,.int .i64 x.db,.int .i64 x.iw,.int .i64 x.dD,.int .u16 x.hw,.sl false (x.bK.map fd.e)]
def rd.cN(x:rd):x.e= .agg [.int .i64 x.im,.int .i64 x.pc,.int .i64 x.ia,.int .i64 x.db,.int .i64 x.iw,.int .i64 x.dD,.int .u16 x.hw,.sl false (x.bK.map fd.e)]:=(rfl)
def rd.eq_iff(x y:rd):x=y↔x.im=y.im/\x.pc=y.pc/\x.ia=y.ia/\x.db=y.db/\x.iw=y.iw/\x.dD=y.dD/\x.hw=y.hw/\x.bK=y.bK:=aI
@[simp]def rd.jm(x:rd):x.e.cells=[.int .i64 x.im,.int .i64 x.pc,.int .i64 x.ia,.int .i64 x.db,.int .i64 x.iw,.int .i64 x.dD,.int .u16 x.hw,.sl false (x.bK.map fd.e)]:=(rfl)
@[simp]def ax8(l:List rd):ft (l.map rd.e)=l.map rd.e:=lY (fun x=>by simp[rd.cN]) l
def bZ(x:List fd):V:= .sl false (x.map fd.e)
def sk(x:List fd):bZ x= .sl false (x.map fd.e):=(rfl)
@[simp]def SO(x:List fd):(bZ x).cells=[.sl false (x.map fd.e)]:=(rfl)
@[simp]def OP(l:List (List fd)):ft (l.map bZ)=l.map bZ:=lY (fun x=>by simp[sk]) l
structure rK where
 i6:List (List fd)
 ce:List rd
 deriving DecidableEq,Inhabited
def rK.e(x:rK):V:= .agg [.sl false (x.i6.map bZ),.sl false (x.ce.map rd.e)]
def rK.cN(x:rK):x.e= .agg [.sl false (x.i6.map bZ),.sl false (x.ce.map rd.e)]:=(rfl)
def rK.eq_iff(x y:rK):x=y↔x.i6=y.i6/\x.ce=y.ce:=aI
@[simp]def rK.jm(x:rK):x.e.cells=[.sl false (x.i6.map bZ),.sl false (x.ce.map rd.e)]:=(rfl)
def dC(x:List Int):V:= .sl false (x.map (V.int .i64))
def kS(x:List Int):dC x= .sl false (x.map (V.int .i64)):=(rfl)
@[simp]def Xg(x:List Int):(dC x).cells=[.sl false (x.map (V.int .i64))]:=(rfl)
@[simp]def KG(l:List (List Int)):ft (l.map dC)=l.map dC:=lY (fun x=>by simp[kS]) l
structure cO where
 pl:List Int
 i4:List (List Int)
 deriving DecidableEq,Inhabited
def cO.e(x:cO):V:= .agg [.sl false (x.pl.map (V.int .i64)),.sl false (x.i4.map dC)]
def cO.cN(x:cO):x.e= .agg [.sl false (x.pl.map (V.int .i64)),.sl false (x.i4.map dC)]:=(rfl)
def cO.eq_iff(x y:cO):x=y↔x.pl=y.pl/\x.i4=y.i4:=aI
@[simp]def cO.jm(x:cO):x.e.cells=[.sl false (x.pl.map (V.int .i64)),.sl false (x.i4.map dC)]:=(rfl)
structure fR where
 iE:Int
 iC:Int
 write:Bool
 deriving DecidableEq,Inhabited
def fR.e(x:fR):V:= .agg [.int .i64 x.iE,.int .i64 x.iC,.bool x.write]
def fR.cN(x:fR):x.e= .agg [.int .i64 x.iE,.int .i64 x.iC,.bool x.write]:=(rfl)
def fR.eq_iff(x y:fR):x=y↔x.iE=y.iE/\x.iC=y.iC/\x.write=y.write:=aI
@[simp]def fR.jm(x:fR):x.e.cells=[.int .i64 x.iE,.int .i64 x.iC,.bool x.write]:=(rfl)
@[simp]def a1z(l:List fR):ft (l.map fR.e)=l.map fR.e:=lY (fun x=>by simp[fR.cN]) l
structure cn where
 ap:List (List fd)
 iV:List fR
 deriving DecidableEq,Inhabited
def cn.e(x:cn):V:= .agg [.sl false (x.ap.map bZ),.sl false (x.iV.map fR.e)]
def cn.cN(x:cn):x.e= .agg [.sl false (x.ap.map bZ),.sl false (x.iV.map fR.e)]:=(rfl)
def cn.eq_iff(x y:cn):x=y↔x.ap=y.ap/\x.iV=y.iV:=aI
@[simp]def cn.jm(x:cn):x.e.cells=[.sl false (x.ap.map bZ),.sl false (x.iV.map fR.e)]:=(rfl)
structure i5 where
 seq:Int
 kw:Int
 ap:List fd
 deriving DecidableEq,Inhabited
def i5.e(x:i5):V:= .agg [.int .i64 x.seq,.int .i64 x.kw,.sl false (x.ap.map fd.e)]
def i5.cN(x:i5):x.e= .agg [.int .i64 x.seq,.int .i64 x.kw,.sl false (x.ap.map fd.e)]:=(rfl)
def i5.eq_iff(x y:i5):x=y↔x.seq=y.seq/\x.kw=y.kw/\x.ap=y.ap:=aI
@[simp]def i5.jm(x:i5):x.e.cells=[.int .i64 x.seq,.int .i64 x.kw,.sl false (x.ap.map fd.e)]:=(rfl)
@[simp]def aqr(l:List i5):ft (l.map i5.e)=l.map i5.e:=lY (fun x=>by simp[i5.cN]) l
structure dw where
 md:List Int
 nl:List Int
 dK:List (List Int)
 iG:cn
 dT:List i5
 deriving DecidableEq,Inhabited
def dw.e(x:dw):V:= .agg [.sl false (x.md.map (V.int .u16)),.sl false (x.nl.map (V.int .u16)),.sl false (x.dK.map bw),.sl false (x.iG.ap.map bZ),.sl false (x.iG.iV.map fR.e),.sl false (x.dT.map i5.e)]
def dw.cN(x:dw):x.e= .agg [.sl false (x.md.map (V.int .u16)),.sl false (x.nl.map (V.int .u16)),.sl false (x.dK.map bw),.sl false (x.iG.ap.map bZ),.sl false (x.iG.iV.map fR.e),.sl false (x.dT.map i5.e)]:=(rfl)
def dw.eq_iff(x y:dw):x=y↔x.md=y.md/\x.nl=y.nl/\x.dK=y.dK/\x.iG=y.iG/\x.dT=y.dT:=aI
@[simp]def dw.jm(x:dw):x.e.cells=[.sl false (x.md.map (V.int .u16)),.sl false (x.nl.map (V.int .u16)),.sl false (x.dK.map bw),.sl false (x.iG.ap.map bZ),.sl false (x.iG.iV.map fR.e),.sl false (x.dT.map i5.e)]:=(rfl)
structure h_ where
 kind:Int
 cw:Int
 n:Int
 il:io
 iL:eI
 deriving DecidableEq,Inhabited
def h_.e(x:h_):V:= .agg [.int .i64 x.kind,.int .i64 x.cw,.int .i64 x.n,.int .i64 x.il.cw,.int .i64 x.il.j',.int .i64 x.il.dD,.int .i64 x.il.ia,.int .i64 x.il.pc,.int .i64 x.il.call,.sl false (x.il.args.map fd.e),.sl false (x.il.ap.map fd.e),.int .u8 x.iL.iW.gs,.int .u16 x.iL.iW.val,.int .i64 x.iL.iW.lm,.int .i64 x.iL.iW.iC,.sl false (x.iL.ap.map fd.e),.int .i64 x.iL.lw,.bool x.iL.wait]
def h_.cN(x:h_):x.e= .agg [.int .i64 x.kind,.int .i64 x.cw,.int .i64 x.n,.int .i64 x.il.cw,.int .i64 x.il.j',.int .i64 x.il.dD,.int .i64 x.il.ia,.int .i64 x.il.pc,.int .i64 x.il.call,.sl false (x.il.args.map fd.e),.sl false (x.il.ap.map fd.e),.int .u8 x.iL.iW.gs,.int .u16 x.iL.iW.val,.int .i64 x.iL.iW.lm,.int .i64 x.iL.iW.iC,.sl false (x.iL.ap.map fd.e),.int .i64 x.iL.lw,.bool x.iL.wait]:=(rfl)
def h_.eq_iff(x y:h_):x=y↔x.kind=y.kind/\x.cw=y.cw/\x.n=y.n/\x.il=y.il/\x.iL=y.iL:=aI
@[simp]def h_.jm(x:h_):x.e.cells=[.int .i64 x.kind,.int .i64 x.cw,.int .i64 x.n,.int .i64 x.il.cw,.int .i64 x.il.j',.int .i64 x.il.dD,.int .i64 x.il.ia,.int .i64 x.il.pc,.int .i64 x.il.call,.sl false (x.il.args.map fd.e),.sl false (x.il.ap.map fd.e),.int .u8 x.iL.iW.gs,.int .u16 x.iL.iW.val,.int .i64 x.iL.iW.lm,.int .i64 x.iL.iW.iC,.sl false (x.iL.ap.map fd.e),.int .i64 x.iL.lw,.bool x.iL.wait]:=(rfl)
@[simp]def auf(l:List h_):ft (l.map h_.e)=l.map h_.e:=lY (fun x=>by simp[h_.cN]) l
structure Choice where
 cw:Int
 fX:Int
 D3:Bool
 deriving DecidableEq,Inhabited
def Choice.e(x:Choice):V:= .agg [.int .i64 x.cw,.int .i64 x.fX,.bool x.D3]
def Choice.cN(x:Choice):x.e= .agg [.int .i64 x.cw,.int .i64 x.fX,.bool x.D3]:=(rfl)
def Choice.eq_iff(x y:Choice):x=y↔x.cw=y.cw/\x.fX=y.fX/\x.D3=y.D3:=aI
@[simp]def Choice.jm(x:Choice):x.e.cells=[.int .i64 x.cw,.int .i64 x.fX,.bool x.D3]:=(rfl)
structure lV where
 program:g9
 sm:aN
 r5:dw
 nc:cO
 iQ:List h_
 sW:List Int
 deriving DecidableEq,Inhabited
def lV.e(x:lV):V:= .agg [.sl false (x.program.hw.map hu.e),.sl false (x.program.ax.map (V.int .i64)),.sl false (x.program.ap.map bw),.sl false (x.sm.am.aK.map (V.int .i64)),.int .u16 x.sm.am.key,.sl false (x.sm.gt.cells.map ac.e),.sl false (x.sm.gt.ge.map cP.e),.sl false (x.sm.ce.map gc.e),.sl false (x.r5.md.map (V.int .u16)),.sl false (x.r5.nl.map (V.int .u16)),.sl false (x.r5.dK.map bw),.sl false (x.r5.iG.ap.map bZ),.sl false (x.r5.iG.iV.map fR.e),.sl false (x.r5.dT.map i5.e),.sl false (x.nc.pl.map (V.int .i64)),.sl false (x.nc.i4.map dC),.sl false (x.iQ.map h_.e),.sl false (x.sW.map (V.int .i64))]
def lV.cN(x:lV):x.e= .agg [.sl false (x.program.hw.map hu.e),.sl false (x.program.ax.map (V.int .i64)),.sl false (x.program.ap.map bw),.sl false (x.sm.am.aK.map (V.int .i64)),.int .u16 x.sm.am.key,.sl false (x.sm.gt.cells.map ac.e),.sl false (x.sm.gt.ge.map cP.e),.sl false (x.sm.ce.map gc.e),.sl false (x.r5.md.map (V.int .u16)),.sl false (x.r5.nl.map (V.int .u16)),.sl false (x.r5.dK.map bw),.sl false (x.r5.iG.ap.map bZ),.sl false (x.r5.iG.iV.map fR.e),.sl false (x.r5.dT.map i5.e),.sl false (x.nc.pl.map (V.int .i64)),.sl false (x.nc.i4.map dC),.sl false (x.iQ.map h_.e),.sl false (x.sW.map (V.int .i64))]:=(rfl)
def lV.eq_iff(x y:lV):x=y↔x.program=y.program/\x.sm=y.sm/\x.r5=y.r5/\x.nc=y.nc/\x.iQ=y.iQ/\x.sW=y.sW:=aI
@[simp]def lV.jm(x:lV):x.e.cells=[.sl false (x.program.hw.map hu.e),.sl false (x.program.ax.map (V.int .i64)),.sl false (x.program.ap.map bw),.sl false (x.sm.am.aK.map (V.int .i64)),.int .u16 x.sm.am.key,.sl false (x.sm.gt.cells.map ac.e),.sl false (x.sm.gt.ge.map cP.e),.sl false (x.sm.ce.map gc.e),.sl false (x.r5.md.map (V.int .u16)),.sl false (x.r5.nl.map (V.int .u16)),.sl false (x.r5.dK.map bw),.sl false (x.r5.iG.ap.map bZ),.sl false (x.r5.iG.iV.map fR.e),.sl false (x.r5.dT.map i5.e),.sl false (x.nc.pl.map (V.int .i64)),.sl false (x.nc.i4.map dC),.sl false (x.iQ.map h_.e),.sl false (x.sW.map (V.int .i64))]:=(rfl)
structure EM where
 time:Int
 C0:Int
 kind:Int
 cw:Int
 Hw:Int
 bit:Int
 deriving DecidableEq,Inhabited
def EM.e(x:EM):V:= .agg [.int .i64 x.time,.int .i64 x.C0,.int .i64 x.kind,.int .i64 x.cw,.int .i64 x.Hw,.int .i64 x.bit]
def EM.cN(x:EM):x.e= .agg [.int .i64 x.time,.int .i64 x.C0,.int .i64 x.kind,.int .i64 x.cw,.int .i64 x.Hw,.int .i64 x.bit]:=(rfl)
def EM.eq_iff(x y:EM):x=y↔x.time=y.time/\x.C0=y.C0/\x.kind=y.kind/\x.cw=y.cw/\x.Hw=y.Hw/\x.bit=y.bit:=aI
@[simp]def EM.jm(x:EM):x.e.cells=[.int .i64 x.time,.int .i64 x.C0,.int .i64 x.kind,.int .i64 x.cw,.int .i64 x.Hw,.int .i64 x.bit]:=(rfl)
structure sA where
 b:List Int
 short:Bool
 deriving DecidableEq,Inhabited
def sA.e(x:sA):V:= .agg [.sl false (x.b.map (V.int .u8)),.bool x.short]
instance:Coe Int V:=⟨V.int .i64⟩
instance:Coe Bool V:=⟨V.bool⟩
instance:Coe (List Int) V:=⟨fun x=> .sl false (x.map (V.int .i64))⟩
instance:Coe (List hu) V:=⟨fun x=> .sl false (x.map hu.e)⟩
instance:Coe (List ac) V:=⟨fun x=> .sl false (x.map ac.e)⟩
instance:Coe (List gc) V:=⟨fun x=> .sl false (x.map gc.e)⟩
instance:Coe (List fd) V:=⟨fun x=> .sl false (x.map fd.e)⟩
instance:Coe (List i5) V:=⟨fun x=> .sl false (x.map i5.e)⟩
instance:Coe (List rd) V:=⟨fun x=> .sl false (x.map rd.e)⟩
instance:Coe (List h_) V:=⟨fun x=> .sl false (x.map h_.e)⟩
instance:Coe (List cP) V:=⟨fun x=> .sl false (x.map cP.e)⟩
instance:Coe (List fR) V:=⟨fun x=> .sl false (x.map fR.e)⟩
instance:Coe (List (List Int)) V:=⟨fun x=> .sl false (x.map bw)⟩
instance:Coe (List (List fd)) V:=⟨fun x=> .sl false (x.map bZ)⟩
inductive Qf where|w_(a0:List Int)(a1:Int)(a2:List ac)(a3:List cP)(a4:List gc)|wd(a0:Int)(a1:Int)(a2:Int)(a3:Int)(a4:Int)(a5:Int)(a6:Int)(a7:Int)(a8:Int)(a9:List fd)(a10:List fd)(s5:Int)(s2:Int)(sS:Int)(sJ:Int)(te:List fd)(td:Int)(tc:Bool)|wl(a0:Int)(a1:Int)(a2:Int)(a3:Int)(a4:List fd)(a5:Int)(a6:Bool)|wn(a0:List hu)(a1:List Int)(a2:List (List Int))|v_(a0:Int)(a1:Int)(a2:Int)(a3:Int)(a4:Int)(a5:Int)(a6:List fd)(a7:List fd)|rJ(x:aN)|xZ(x:lV)|iB(a0:List hu)(a1:List Int)(a2:List (List Int))|i7(a0:Int)(a1:Int)(a2:Int)(a3:Int)(a4:Int)(a5:Int)(a6:List fd)(a7:List fd)|wk(x:io)|ol(a0:List Int)(a1:Int)(a2:List ac)(a3:List cP)(a4:List gc)|t7(a0:List hu)(a1:List Int)(a2:List (List Int))(a3:List Int)(a4:Int)(a5:List ac)(a6:List cP)(a7:List gc)(a8:List Int)(a9:List Int)(a10:List (List Int))(s5:List (List fd))(s2:List fR)(sS:List i5)(sJ:List Int)(te:List (List Int))(td:List h_)(tc:List Int)|lc(a0:Int)(a1:Int)(a2:Int)(a3:Int)(a4:List fd)(a5:Int)(a6:Bool)|uO(x:gc)|ro(a0:Int)(a1:V)(a2:Int)(a3:Int)(a4:Int)(a5:Int)(a6:Int)(a7:Int)|r7(a0:Int)(a1:List ac)(a2:Int)(a3:Int)(a4:Int)(a5:Int)(a6:Int)(a7:Int)|qr(a0:Int)(a1:Int)(a2:Int)(a3:Int)(a4:Int)|pp(a0:List Int)(a1:Int)|q'(x:ac)|pm(a0:List Int)(a1:Int)|xc(x:dw)|xb(a0:Int)(a1:Int)(a2:Int)(a3:Int)(a4:Int)(a5:Int)(a6:Int)(a7:Int)(a8:Int)(a9:List fd)(a10:List fd)(s5:Int)(s2:Int)(sS:Int)(sJ:Int)(te:List fd)(td:Int)(tc:Bool)|pi(a0:Int)(a1:Int)|sd(a0:List (List fd))(a1:List fR)|AE(x:eI)|xa(a0:List Int)(a1:List Int)(a2:List (List Int))(a3:List (List fd))(a4:List fR)(a5:List i5)|s_(a0:List ac)(a1:List cP)|uN(x:cO)|wa(x:g9)|vm(x:cn)|rt(a0:Int)(a1:Bool)(a2:V)|y8(x:hu)|up(a0:List Int)(a1:List (List Int))|xY(a0:List Int)(a1:Int)(a2:List ac)(a3:List cP)(a4:V)|AD(x:fd)|y7(x:iy)|y6(x:aD)|rB(a0:V)(a1:Int)(a2:V)(a3:V)(a4:V)|v7(a0:Int)(a1:Int)(a2:Int)(a3:Int)|y9(x:FE)|x0(a0:List (List fd))(a1:List rd)|uS(a0:Int)(a1:Int)|Fr(x:rK)
open Qf
instance(a0:List Int)(a1:Int)(a2:List ac)(a3:List cP)(a4:List gc):CoeDep Qf (w_ a0 a1 a2 a3 a4) aN:=⟨aN.mk (iy.mk a0 a1) (aD.mk a2 a3) a4⟩
instance(a0:Int)(a1:Int)(a2:Int)(a3:Int)(a4:Int)(a5:Int)(a6:Int)(a7:Int)(a8:Int)(a9:List fd)(a10:List fd)(s5:Int)(s2:Int)(sS:Int)(sJ:Int)(te:List fd)(td:Int)(tc:Bool):CoeDep Qf (wd a0 a1 a2 a3 a4 a5 a6 a7 a8 a9 a10 s5 s2 sS sJ te td tc) h_:=⟨h_.mk a0 a1 a2 (io.mk a3 a4 a5 a6 a7 a8 a9 a10) (eI.mk (fd.mk s5 s2 sS sJ) te td tc)⟩
instance(a0:Int)(a1:Int)(a2:Int)(a3:Int)(a4:List fd)(a5:Int)(a6:Bool):CoeDep Qf (wl a0 a1 a2 a3 a4 a5 a6) eI:=⟨eI.mk (fd.mk a0 a1 a2 a3) a4 a5 a6⟩
instance(a0:List hu)(a1:List Int)(a2:List (List Int)):CoeDep Qf (wn a0 a1 a2) g9:=⟨g9.mk a0 a1 a2⟩
instance(a0:Int)(a1:Int)(a2:Int)(a3:Int)(a4:Int)(a5:Int)(a6:List fd)(a7:List fd):CoeDep Qf (v_ a0 a1 a2 a3 a4 a5 a6 a7) io:=⟨io.mk a0 a1 a2 a3 a4 a5 a6 a7⟩
variable  {α β:Type}{Q:Ex->St->Prop}{b:Code}{S:St}
instance(x:aN):CoeDep Qf (rJ x) V:=⟨.agg [.sl false (x.am.aK.map (V.int .i64)),.int .u16 x.am.key,.sl false (x.gt.cells.map ac.e),.sl false (x.gt.ge.map cP.e),.sl false (x.ce.map gc.e)]⟩
instance(x:lV):CoeDep Qf (xZ x) V:=⟨.agg [.sl false (x.program.hw.map hu.e),.sl false (x.program.ax.map (V.int .i64)),.sl false (x.program.ap.map bw),.sl false (x.sm.am.aK.map (V.int .i64)),.int .u16 x.sm.am.key,.sl false (x.sm.gt.cells.map ac.e),.sl false (x.sm.gt.ge.map cP.e),.sl false (x.sm.ce.map gc.e),.sl false (x.r5.md.map (V.int .u16)),.sl false (x.r5.nl.map (V.int .u16)),.sl false (x.r5.dK.map bw),.sl false (x.r5.iG.ap.map bZ),.sl false (x.r5.iG.iV.map fR.e),.sl false (x.r5.dT.map i5.e),.sl false (x.nc.pl.map (V.int .i64)),.sl false (x.nc.i4.map dC),.sl false (x.iQ.map h_.e),.sl false (x.sW.map (V.int .i64))]⟩
instance(a0:List hu)(a1:List Int)(a2:List (List Int)):CoeDep Qf (iB a0 a1 a2) V:=⟨.agg [.sl false (a0.map hu.e),.sl false (a1.map (V.int .i64)),.sl false (a2.map bw)]⟩
instance(a0:Int)(a1:Int)(a2:Int)(a3:Int)(a4:Int)(a5:Int)(a6:List fd)(a7:List fd):CoeDep Qf (i7 a0 a1 a2 a3 a4 a5 a6 a7) V:=⟨.agg [.int .i64 a0,.int .i64 a1,.int .i64 a2,.int .i64 a3,.int .i64 a4,.int .i64 a5,.sl false (a6.map fd.e),.sl false (a7.map fd.e)]⟩
instance(x:io):CoeDep Qf (wk x) V:=⟨.agg [.int .i64 x.cw,.int .i64 x.j',.int .i64 x.dD,.int .i64 x.ia,.int .i64 x.pc,.int .i64 x.call,.sl false (x.args.map fd.e),.sl false (x.ap.map fd.e)]⟩
instance(a0:List Int)(a1:Int)(a2:List ac)(a3:List cP)(a4:List gc):CoeDep Qf (ol a0 a1 a2 a3 a4) V:=⟨.agg [.sl false (a0.map (V.int .i64)),.int .u16 a1,.sl false (a2.map ac.e),.sl false (a3.map cP.e),.sl false (a4.map gc.e)]⟩
instance(a0:List hu)(a1:List Int)(a2:List (List Int))(a3:List Int)(a4:Int)(a5:List ac)(a6:List cP)(a7:List gc)(a8:List Int)(a9:List Int)(a10:List (List Int))(s5:List (List fd))(s2:List fR)(sS:List i5)(sJ:List Int)(te:List (List Int))(td:List h_)(tc:List Int):CoeDep Qf (t7 a0 a1 a2 a3 a4 a5 a6 a7 a8 a9 a10 s5 s2 sS sJ te td tc) V:=⟨.agg [.sl false (a0.map hu.e),.sl false (a1.map (V.int .i64)),.sl false (a2.map bw),.sl false (a3.map (V.int .i64)),.int .u16 a4,.sl false (a5.map ac.e),.sl false (a6.map cP.e),.sl false (a7.map gc.e),.sl false (a8.map (V.int .u16)),.sl false (a9.map (V.int .u16)),.sl false (a10.map bw),.sl false (s5.map bZ),.sl false (s2.map fR.e),.sl false (sS.map i5.e),.sl false (sJ.map (V.int .i64)),.sl false (te.map dC),.sl false (td.map h_.e),.sl false (tc.map (V.int .i64))]⟩
instance(a0:Int)(a1:Int)(a2:Int)(a3:Int)(a4:List fd)(a5:Int)(a6:Bool):CoeDep Qf (lc a0 a1 a2 a3 a4 a5 a6) V:=⟨.agg [.int .u8 a0,.int .u16 a1,.int .i64 a2,.int .i64 a3,.sl false (a4.map fd.e),.int .i64 a5,.bool a6]⟩
instance(x:gc):CoeDep Qf (uO x) V:=⟨.agg [.int .i64 x.im,.sl false (x.bK.map ac.e),.int .i64 x.pc,.int .i64 x.ia,.int .i64 x.db,.int .i64 x.iw,.int .i64 x.dD,.int .u16 x.hw]⟩
instance(a0:Int)(a1:V)(a2:Int)(a3:Int)(a4:Int)(a5:Int)(a6:Int)(a7:Int):CoeDep Qf (ro a0 a1 a2 a3 a4 a5 a6 a7) V:=⟨.agg [.int .i64 a0,a1,.int .i64 a2,.int .i64 a3,.int .i64 a4,.int .i64 a5,.int .i64 a6,.int .u16 a7]⟩
instance(a0:Int)(a1:List ac)(a2:Int)(a3:Int)(a4:Int)(a5:Int)(a6:Int)(a7:Int):CoeDep Qf (r7 a0 a1 a2 a3 a4 a5 a6 a7) V:=⟨.agg [.int .i64 a0,.sl false (a1.map ac.e),.int .i64 a2,.int .i64 a3,.int .i64 a4,.int .i64 a5,.int .i64 a6,.int .u16 a7]⟩
instance(a0:Int)(a1:Int)(a2:Int)(a3:Int)(a4:Int):CoeDep Qf (qr a0 a1 a2 a3 a4) V:=⟨.agg [.int .i64 a0,.int .i64 a1,.int .i64 a2,.int .i64 a3,.int .i64 a4]⟩
instance(a0:List Int)(a1:Int):CoeDep Qf (pp a0 a1) V:=⟨.agg [.sl false (a0.map (V.int .i64)),.int .u16 a1]⟩
instance(x:ac):CoeDep Qf (q' x) V:=⟨.agg [.int .u8 x.gs,.int .u16 x.val]⟩
instance(a0:List Int)(a1:Int):CoeDep Qf (pm a0 a1) V:=⟨.agg [.sl false (a0.map (V.int .i64)),.int .i64 a1]⟩
instance(x:dw):CoeDep Qf (xc x) V:=⟨.agg [.sl false (x.md.map (V.int .u16)),.sl false (x.nl.map (V.int .u16)),.sl false (x.dK.map bw),.sl false (x.iG.ap.map bZ),.sl false (x.iG.iV.map fR.e),.sl false (x.dT.map i5.e)]⟩
instance(a0:Int)(a1:Int)(a2:Int)(a3:Int)(a4:Int)(a5:Int)(a6:Int)(a7:Int)(a8:Int)(a9:List fd)(a10:List fd)(s5:Int)(s2:Int)(sS:Int)(sJ:Int)(te:List fd)(td:Int)(tc:Bool):CoeDep Qf (xb a0 a1 a2 a3 a4 a5 a6 a7 a8 a9 a10 s5 s2 sS sJ te td tc) V:=⟨.agg [.int .i64 a0,.int .i64 a1,.int .i64 a2,.int .i64 a3,.int .i64 a4,.int .i64 a5,.int .i64 a6,.int .i64 a7,.int .i64 a8,.sl false (a9.map fd.e),.sl false (a10.map fd.e),.int .u8 s5,.int .u16 s2,.int .i64 sS,.int .i64 sJ,.sl false (te.map fd.e),.int .i64 td,.bool tc]⟩
instance(a0:Int)(a1:Int):CoeDep Qf (pi a0 a1) V:=⟨.agg [.int .u8 a0,.int .u16 a1]⟩
instance(a0:List (List fd))(a1:List fR):CoeDep Qf (sd a0 a1) V:=⟨.agg [.sl false (a0.map bZ),.sl false (a1.map fR.e)]⟩
instance(x:eI):CoeDep Qf (AE x) V:=⟨.agg [.int .u8 x.iW.gs,.int .u16 x.iW.val,.int .i64 x.iW.lm,.int .i64 x.iW.iC,.sl false (x.ap.map fd.e),.int .i64 x.lw,.bool x.wait]⟩
instance(a0:List Int)(a1:List Int)(a2:List (List Int))(a3:List (List fd))(a4:List fR)(a5:List i5):CoeDep Qf (xa a0 a1 a2 a3 a4 a5) V:=⟨.agg [.sl false (a0.map (V.int .u16)),.sl false (a1.map (V.int .u16)),.sl false (a2.map bw),.sl false (a3.map bZ),.sl false (a4.map fR.e),.sl false (a5.map i5.e)]⟩
instance(a0:List ac)(a1:List cP):CoeDep Qf (s_ a0 a1) V:=⟨.agg [.sl false (a0.map ac.e),.sl false (a1.map cP.e)]⟩
instance(x:cO):CoeDep Qf (uN x) V:=⟨.agg [.sl false (x.pl.map (V.int .i64)),.sl false (x.i4.map dC)]⟩
instance(x:g9):CoeDep Qf (wa x) V:=⟨.agg [.sl false (x.hw.map hu.e),.sl false (x.ax.map (V.int .i64)),.sl false (x.ap.map bw)]⟩
instance(x:cn):CoeDep Qf (vm x) V:=⟨.agg [.sl false (x.ap.map bZ),.sl false (x.iV.map fR.e)]⟩
instance(a0:Int)(a1:Bool)(a2:V):CoeDep Qf (rt a0 a1 a2) V:=⟨.agg [.int .i64 a0,.bool a1,a2]⟩
instance(x:hu):CoeDep Qf (y8 x) V:=⟨.agg [.int .i64 x.op,.int .i64 x.a,.int .i64 x.b,.int .i64 x.c,.int .i64 x.eA]⟩
instance(a0:List Int)(a1:List (List Int)):CoeDep Qf (up a0 a1) V:=⟨.agg [.sl false (a0.map (V.int .i64)),.sl false (a1.map dC)]⟩
instance(a0:List Int)(a1:Int)(a2:List ac)(a3:List cP)(a4:V):CoeDep Qf (xY a0 a1 a2 a3 a4) V:=⟨.agg [.sl false (a0.map (V.int .i64)),.int .u16 a1,.sl false (a2.map ac.e),.sl false (a3.map cP.e),a4]⟩
instance(x:fd):CoeDep Qf (AD x) V:=⟨.agg [.int .u8 x.gs,.int .u16 x.val,.int .i64 x.lm,.int .i64 x.iC]⟩
instance(x:iy):CoeDep Qf (y7 x) V:=⟨.agg [.sl false (x.aK.map (V.int .i64)),.int .u16 x.key]⟩
instance(x:aD):CoeDep Qf (y6 x) V:=⟨.agg [.sl false (x.cells.map ac.e),.sl false (x.ge.map cP.e)]⟩
instance(a0:V)(a1:Int)(a2:V)(a3:V)(a4:V):CoeDep Qf (rB a0 a1 a2 a3 a4) V:=⟨.agg [a0,.int .u16 a1,a2,a3,a4]⟩
instance(a0:Int)(a1:Int)(a2:Int)(a3:Int):CoeDep Qf (v7 a0 a1 a2 a3) V:=⟨.agg [.int .u8 a0,.int .u16 a1,.int .i64 a2,.int .i64 a3]⟩
instance(x:FE):CoeDep Qf (y9 x) V:=⟨.agg [.int .i64 x.lm,.int .i64 x.iC]⟩
instance(a0:List (List fd))(a1:List rd):CoeDep Qf (x0 a0 a1) V:=⟨.agg [.sl false (a0.map bZ),.sl false (a1.map rd.e)]⟩
instance(a0:Int)(a1:Int):CoeDep Qf (uS a0 a1) V:=⟨.agg [.int .i64 a0,.int .i64 a1]⟩
instance(x:rK):CoeDep Qf (Fr x) V:=⟨.agg [.sl false (x.i6.map bZ),.sl false (x.ce.map rd.e)]⟩
def sA.cN(x:sA):x.e= .agg [.sl false (x.b.map (V.int .u8)),.bool x.short]:=(rfl)
def sA.eq_iff(x y:sA):x=y↔x.b=y.b/\x.short=y.short:=aI
@[simp]def sA.jm(x:sA):x.e.cells=[.sl false (x.b.map (V.int .u8)),.bool x.short]:=(rfl)
end Go.Abs.jJ
namespace Go.Proofs.YtdngefmliibcgaaGreat
open Go Go.Abs Go.Abs.jJ Qf
variable  {α β:Type}{Q:Ex->St->Prop}{b:Code}{S:St}
def wrap_i64{n:Int}(h: -9223372036854775808<=n/\n<=9223372036854775807):IntKind.i64.wrap n=n:=by simp only[IntKind.wrap,IntKind.signed,IntKind.bits,Co]<;>grind
def z_(n:Int)(h: -9223372036854775808<=n/\n<=9223372036854775807:=by omega):=wrap_i64 h
def o7(i:Nat)(h:(i:Int)+1<=9223372036854775807):IntKind.i64.wrap ((i:Int)+1)=(i:Int)+1:=wrap_i64 ab
def dO {X:Env} {f:FuncId}    (Inv:Nat->St->Prop) (N:Nat) (a:N<=4611686018427387904) (step: ∀i S,(i<=N/\IntKind.i64.wrap ((i:Int)+1)=(i:Int)+1/\i<N)->Inv i S->Wp X f b S (KB X f (2*je b+1) Inv i N Q))
  (last: ∀S,Inv N S->Wp X f b S (KB X f (2*je b+1) Inv N N Q)) (h0:na (Go.Abs.mark (pD X f (2*je b+1) S)) (Inv 0)):Wp X f (.loop b) S Q:=
 nG Inv N (fun i S j h=>by
  rcases ru i N with g|g
  .exact step i S ⟨j,o7 i ab,g⟩ h
  grind) 0 (B8 _) h0
def we{a b:List α}{i:Nat}(h1:i<a.length)(K:i<b.length)(h:a.take i=b.take i)(e:a[i]=b[i]):a.take (i+1)=b.take (i+1):=by
 rw[zZ,zZ,h]
 grind
def ub{a b:List α}{i:Nat}(h1: ¬i<a.length)(K:a.length=b.length)(h:a.take i=b.take i):a=b:=by
 rwa[bQ ab,bQ ab]at h
def kJ{a:List α}{i:Nat}(h:i<a.length):a.take (i+1)=a.take i++ [a[i]]:=bu
@[simp]def alj(f:α->β)(l:List α):(l.map f).take l.length=l.map f:=by rw[<-List.length_map (f:=f),un]
def wO{p:α->Bool}{l:List α}{i:Nat}(h:i<l.length)(hp:p l[i]=false):l.all p=false:=aj
def yw{p:α->Bool}{l:List α}{i:Nat}(h:i<l.length):(l.take (i+1)).all p=((l.take i).all p&&p l[i]):=by
 rw[kJ h,CF];simp
noncomputable def GI(X:Env)(f:FuncId)(v:V)(d:Option Nat)(args:List V)(S:St):Option St:=match v with
 | .fn g first Lp=>iv X (df X) f d g (first++args++Lp) S
 |_=>none
@[simp]def a2a(X:Env)(f g:FuncId)(a b:List V)(d:Option Nat)(args:List V)(S:St):GI X f (.fn g a b) d args S=iv X (df X) f d g (a++args++b) S:=(rfl)
section
variable {X:Env} {fx:FuncId} {dF:List (Option Nat)} {n0 kk n:Nat} {r:List Oper} {ff:Nat->V} {hp:bI} {K:St->Prop} {d:Nat} {ty:TypeId} {ps:String} {af:Array Edge}
@[simp ↓] theorem ax9(d:Option Nat)(t:Nat)(args:Array Operand)(m:Array TypeId):iU X fx dF n0 kk (⟨d,.call ⟨.value (.tmp t),args,m⟩,ty,ps,af,none⟩::r) ⟨ff,hp,n⟩ K=
  na (Go.Abs.mark (GI X fx (ff t) d (args.toList.map (oz ff)) ⟨ff,hp,n⟩)) fun S1=>iU X fx dF n0 (kk+1) r ⟨S1.f,S1.h,S1.n⟩ K:=by
 rw[xp,show oz ff=(⟨ff,hp,n⟩:St).ev from Mi ⟨ff,hp,n⟩];rfl
end
@[simp ↓] theorem alk(X:Env)(cR:FuncId)(d:Nat)(t:TypeId)(a i:Operand)(ty:TypeId)(ps:String)(N:Array Edge)(g:Option (Nat×Bool))(S1 T:St)(m:Nat):wH X cR (some ⟨some d,.indexAddr t a i,ty,ps,N,g⟩) S1 T m=
  ∃v,(match oz S1.f i with
  | .int _ n=>match oz S1.f a with
   | .sl _ es=>if(0<=n/\n<es.length)/\(X.ti t).arr=none then(match es[n.toNat]? with|some e=>if e.cells.length=(X.ti (X.ti t).elem).size then some ((.ref e.cells),T.h,m) else none|none=>none) else none
   | .cX id s l=>if(0<=n/\n<l)/\(X.ti t).arr=none then(match T.h id with|some ob=>if ob.k=(X.ti (X.ti t).elem).size then some ((.ptr id (s+n.toNat) 0),T.h,m) else none|none=>none) else none
   | .ptr id j f=>match(X.ti t).arr with
    |some k=>if 0<=n/\n<k then some ((.ptr id j (f+n.toNat*(X.ti (X.ti t).elem).size)),T.h,m) else none
    |none=>none
   |_=>none
  |_=>none)=some (v,T.h,m)/\S1.f d=v:=by
 apply propext;constructor
 .exact kO
 .exact pN
@[simp ↓] theorem a2b(X:Env)(cR:FuncId)(d:Nat)(t:TypeId)(x':Operand)(R M x:Option Operand)(ty:TypeId)(ps:String)(a:Array Edge)(g:Option (Nat×Bool))(S1 T:St)(m:Nat):wH X cR (some ⟨some d,.slice t x' R M x,ty,ps,a,g⟩) S1 T m=
  ∃v,(if((oz S1.f) x').isStr=(X.ti t).isStr/\((oz S1.f) x').CH=(X.ti t).arr.isSome then
   match(oz S1.f) x' with
   | .sl _ es=>
    if es.all (fun e=>e.cells.length==(X.ti (X.ti t).elem).size) then
     match x with
     |none=>match bounds (R.map (oz S1.f)) (M.map (oz S1.f)) es.length with|some (l,h)=>some ((.sl false ((es.take h).drop l)),T.h,m)|none=>none
     |some mm=>match(oz S1.f) mm,M.map (oz S1.f) with
      | .int _ p,some (.int _ q)=>if p=q then(match bounds (R.map (oz S1.f)) (M.map (oz S1.f)) es.length with|some (l,h)=>some ((.sl true ((es.take h).drop l)),T.h,m)|none=>none) else none
      |_,_=>none
    else none
   | .cX id s n=>
    match x,T.h id with
    |none,some ob=>if ob.k=(X.ti (X.ti t).elem).size then(match bounds (R.map (oz S1.f)) (M.map (oz S1.f)) n with|some (l,h)=>some ((.cX id (s+l) (h-l)),T.h,m)|none=>none) else none
    |some mm,some ob=>if ob.k=(X.ti (X.ti t).elem).size then(match(oz S1.f) mm,M.map (oz S1.f) with
      | .int _ p,some (.int _ q)=>if p=q then(match bounds (R.map (oz S1.f)) (M.map (oz S1.f)) n with|some (l,h)=>some ((.cX id (s+l) (h-l)),T.h,m)|none=>none) else none
      |_,_=>none) else none
    |_,none=>none
   | .str s=>match x with
    |none=>match bounds (R.map (oz S1.f)) (M.map (oz S1.f)) s.length with|some (l,h)=>some ((.str ((s.take h).drop l)),T.h,m)|none=>none
    |some _=>none
   | .ptr id 0 0=>match x,R,M,(X.ti t).arr,T.h id with
    |none,none,none,some mm,some ob=>match ob.es with
     | [e]=>if e.cells.all V.pP=true/\e.cells.length=mm/\(X.ti (X.ti t).elem).size=1/\0<mm then some (.sl true e.cells,bB T.h id none,m) else none
     |_=>none
    |_,_,_,_,_=>none
   |_=>none
  else none)=some (v,T.h,m)/\S1.f d=v:=by
 apply propext;constructor
 .exact kO
 .exact pN
def Uw(X:Env)(f:FuncId)(b:Code)(Q:Ex->St->Prop):Ex->St->Prop
 | .normal,S=>Wp X f (.loop b) S Q
 |e,S=>Q e S
@[simp ↓] theorem alm(X:Env)(f:FuncId)(b:Code)(Q:Ex->St->Prop)(S:St):Uw X f b Q .normal S=Wp X f (.loop b) S Q:=(rfl)
@[simp ↓] theorem aug(X:Env)(f:FuncId)(b:Code)(Q:Ex->St->Prop)(S:St)(i:Nat):Uw X f b Q (.exit i) S=Q (.exit i) S:=(rfl)
@[simp ↓] theorem aya(X:Env)(f:FuncId)(b:Code)(Q:Ex->St->Prop)(S:St):Uw X f b Q .ret S=Q .ret S:=(rfl)
def eJ{X:Env}{f:FuncId}:Wp X f (.loop b) S Q=na (Go.Abs.mark (pD X f (2*je b+1) S)) fun S1=>Wp X f b S1 (Uw X f b Q):=by
 unfold Wp Go.Abs.mark;rw[LM];cases n:pD X f (2*je b+1) S with
 |none=>simp_all
 |some S1=>
  simp only[na];apply propext;constructor
  .rintro⟨e,T,h,q⟩;cases g:ev X f b S1 with
   |none=>grind
   |some x=>
    obtain⟨y,c⟩:=x;rw[g]at h;refine⟨y,c,rfl,?_⟩;cases y with
    |normal=>exact⟨e,T,h,q⟩
    |exit i=>
     simp_all
    |ret=>
     simp_all
  .rintro⟨e,T,h,q⟩;rw[h];cases e with
   |normal=>
    obtain⟨y,c,U,l⟩:=q<;>grind
   |exit i=>exact⟨_,_,rfl,q⟩
   |ret=>exact⟨_,_,rfl,q⟩
def AN{v n:Int}(h:0<n):v % n=if v.tmod n<0 then v.tmod n+n else v.tmod n:=by
 have h1:=t9 v (show n≠0 from ab);have K:=t4 v h
 grind
def C1(n:Int):Bool:=decide (1<=n/\n<=32)
def kZ(l:List Int):Bool:=l.all C1&& (decide (1<=l.length)&&decide (l.length<=4))
def inside(ax:List Int)(r o:Int):Bool:=decide (0<=r/\r<ax.length/\0<=o/\o<ax.getD r.toNat 0)
structure tA (l:List Int):Prop where
 elem: ∀i (h:i<l.length),1<=l[i]/\l[i]<=32
 pos:1<=l.length
 le:l.length<=4
def oF{l:List Int}:kZ l=true↔tA l:=by
 unfold kZ;simp only[X8,decide_eq_true_eq,rZ];constructor
 .rintro⟨h1,K,S⟩;exact⟨fun i h=>by simpa[C1] using h1 _ (rx h),K,S⟩
 .rintro⟨h1,K,S⟩;refine⟨fun x hx=> ?_,K,S⟩;obtain⟨i,h,rfl⟩:=vP hx;simpa[C1] using h1 i h
def nth(l:List Int)(i:Nat):Int:=l.getD i 0
def dA{l:List Int}{i:Nat}(h:i<l.length):nth l i=l[i]:=by simp[nth,List.getD,h]
def vo(aK ax:List Int)(i:Nat):Bool:=decide (0<=nth aK i/\nth aK i<=512-nth ax i)&& (List.range i).all fun j=> !(decide (nth aK j<=nth aK i+nth ax i)&&decide (nth aK i<=nth aK j+nth ax j))
def jb(aK ax:List Int):Bool:=kZ ax&& (decide (aK.length=ax.length)&& (List.range aK.length).all (vo aK ax))
structure fM (aK ax:List Int):Prop where
 sz:tA ax
 len:aK.length=ax.length
 base: ∀i (h:i<aK.length) (h':i<ax.length),0<=aK[i]/\aK[i]<=512-ax[i]
 apart: ∀i j (h:i<aK.length) (h':i<ax.length) (g:j<aK.length) (g':j<ax.length),i≠j->aK[i]+ax[i]<aK[j]\/aK[j]+ax[j]<aK[i]
def nd{aK ax:List Int}:jb aK ax=true↔fM aK ax:=by
 unfold jb;simp only[X8,decide_eq_true_eq,rZ,oF,BW,vo,sG,DX,decide_eq_false_iff_not];constructor
 .rintro⟨h1,K,S⟩;have p: ∀i j (h:i<aK.length) (h':i<ax.length) (g:j<aK.length) (g':j<ax.length),j<i->aK[i]+ax[i]<aK[j]\/aK[j]+ax[j]<aK[i]:=by
   intro i j h h' g g' l;have:=(S i h).2 j l;rw[dA h,dA h',dA g,dA g']at this;omega
  refine⟨h1,K,fun i h h'=> ?_,fun i j h h' g g' k=> ?_⟩
  .have:=(S i h).1;rwa[dA h,dA h']at this
  grind
 .rintro⟨h1,K,S,a⟩;refine⟨h1,K,fun i h=>⟨?_,fun j q=> ?_⟩⟩
  .rw[dA h,dA (K▸h)];grind
  .have P:j<aK.length:=ab
   rw[dA h,dA (show i<ax.length from ab),dA P,dA (show j<ax.length from ab)]
   grind
def sX:List Int->List Int->Int->Nat->FE×Bool
 |b::U,z::s,a,r=>if b<=a/\a<b+z then(⟨r,a-b⟩,true) else sX U s a (r+1)
 |_,_,_,_=>(⟨0,0⟩,false)
def resolve(aK ax:List Int)(a:Int):FE×Bool:=sX aK ax a 0
def canon(aK:List Int)(key:Int)(ax:List Int)(c:ac):fd:=
 if c.gs=0 then⟨0,c.val,0,0⟩ else if c.gs=2 then⟨2,IntKind.u16.wrap (c.val-key),0,0⟩ else
 if(resolve aK ax c.val).2=true then⟨1,0,(resolve aK ax c.val).1.lm,(resolve aK ax c.val).1.iC⟩ else⟨1,0, -1,c.val⟩
def proper(ax:List Int)(x:fd):Bool:=
 if x.gs=0\/x.gs=2 then decide (x.lm=0)&&decide (x.iC=0) else if x.gs=1 then decide (x.val=0)&&inside ax x.lm x.iC else false
def raw(aK:List Int)(key:Int)(ax:List Int)(x:fd):ac×Int:=
 if proper ax x=false then(⟨0,0⟩,1) else if x.gs=0 then(⟨0,x.val⟩,0) else if x.gs=2 then(⟨2,IntKind.u16.wrap (x.val+key)⟩,0) else(⟨1,IntKind.u16.wrap (nth aK x.lm.toNat+x.iC)⟩,0)
def drop_cons{l:List α}{i:Nat}(h:i<l.length):l.drop i=l[i]::l.drop (i+1):=w6 h
def iK{ax:List Int}{r o:Int}:inside ax r o=true↔ ∃k,∃h:k<ax.length,r=(k:Int)/\0<=o/\o<ax[k]:=by unfold inside<;>grind
def Hx(ax:List Int)(dz:Int)(st:List Int×Int)(k:Nat):List Int×Int:=
 (st.1.set ((k+dz) % ax.length).toNat st.2,st.2+nth ax ((k+dz) % ax.length).toNat+1+dz/ (50*ax.length) % 40)
def oB(ax:List Int)(dz:Int)(k:Nat):List Int×Int:=
 (List.range k).foldl (Hx ax dz) (List.replicate ax.length 0,1+dz/ax.length % 50)
def fy(ax:List Int)(dz:Int):List Int:=(oB ax dz ax.length).1
def iM(ax:List Int)(dz:Int)(k:Nat):oB ax dz (k+1)=Hx ax dz (oB ax dz k) k:=by
 unfold oB;rw[u5,Dk];rfl
end Go.Proofs.YtdngefmliibcgaaGreat
