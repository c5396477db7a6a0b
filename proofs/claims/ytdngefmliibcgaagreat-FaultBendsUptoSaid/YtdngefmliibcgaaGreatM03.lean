/- Part of a proof: T1. -/
import Derived.Test.YtdngefmliibcgaaGreatM01
import Derived.Test.YtdngefmliibcgaaGreatM02
import Derived.Test.YtdngefmliibcgaaGreatProg
set_option linter.all false
set_option maxRecDepth 20000
set_option maxHeartbeats 20000000
namespace Go.Proofs.YtdngefmliibcgaaGreat
open Go Go.Abs
def ti:TypeId→TI
 |3=>⟨1,8,false,.int .i64 0,0,[],none,some .i64,[0]⟩
 |4=>⟨1,1,false,.bool false,0,[],none,none,[1]⟩
 |5=>⟨1,1,false,.int .u8 0,0,[],none,some .u8,[0]⟩
 |9=>⟨1,16,false,.str [],0,[],none,none,[2]⟩
 |22=>⟨1,24,false,.sl true [],3,[],none,none,[]⟩
 |23=>⟨1,24,false,.sl true [],156,[],none,none,[]⟩
 |24=>⟨1,24,false,.sl true [],37,[],none,none,[]⟩
 |26=>⟨3,72,true,.agg [.sl true [],.sl true [],.sl true []],0,[(0,1),(1,1),(2,1)],none,none,[]⟩
 |27=>⟨1,2,false,.int .u16 0,0,[],none,some .u16,[0]⟩
 |29=>⟨2,32,true,.agg [.sl true [],.int .u16 0],0,[(0,1),(1,1)],none,none,[]⟩
 |30=>⟨1,24,false,.sl true [],120,[],none,none,[]⟩
 |31=>⟨1,24,false,.sl true [],110,[],none,none,[]⟩
 |33=>⟨2,48,true,.agg [.sl true [],.sl true []],0,[(0,1),(1,1)],none,none,[]⟩
 |34=>⟨1,24,false,.sl true [],112,[],none,none,[]⟩
 |36=>⟨5,104,true,.agg [.sl true [],.int .u16 0,.sl true [],.sl true [],.sl true []],0,[(0,2),(2,2),(4,1)],none,none,[]⟩
 |37=>⟨1,24,false,.sl true [],27,[],none,none,[]⟩
 |38=>⟨1,24,false,.sl true [],57,[],none,none,[]⟩
 |39=>⟨1,24,false,.sl true [],301,[],none,none,[]⟩
 |41=>⟨2,48,true,.agg [.sl true [],.sl true []],0,[(0,1),(1,1)],none,none,[]⟩
 |42=>⟨1,24,false,.sl true [],254,[],none,none,[]⟩
 |44=>⟨6,144,true,.agg [.sl true [],.sl true [],.sl true [],.sl true [],.sl true [],.sl true []],0,[(0,1),(1,1),(2,1),(3,2),(5,1)],none,none,[]⟩
 |45=>⟨1,24,false,.sl true [],22,[],none,none,[]⟩
 |47=>⟨2,48,true,.agg [.sl true [],.sl true []],0,[(0,1),(1,1)],none,none,[]⟩
 |48=>⟨1,24,false,.sl true [],65,[],none,none,[]⟩
 |50=>⟨18,416,true,.agg [.sl true [],.sl true [],.sl true [],.sl true [],.int .u16 0,.sl true [],.sl true [],.sl true [],.sl true [],.sl true [],.sl true [],.sl true [],.sl true [],.sl true [],.sl true [],.sl true [],.sl true [],.sl true []],0,[(0,3),(3,5),(8,6),(14,2),(16,1),(17,1)],none,none,[]⟩
 |54=>⟨1,8,false,.int .i64 0,0,[],none,some .i64,[0]⟩
 |57=>⟨1,24,false,.sl true [],61,[],none,none,[]⟩
 |59=>⟨8,96,true,.agg [.int .i64 0,.int .i64 0,.int .i64 0,.int .i64 0,.int .i64 0,.int .i64 0,.sl true [],.sl true []],0,[(0,1),(1,1),(2,1),(3,1),(4,1),(5,1),(6,1),(7,1)],none,none,[]⟩
 |61=>⟨4,24,true,.agg [.int .u8 0,.int .u16 0,.int .i64 0,.int .i64 0],0,[(0,1),(1,1),(2,1),(3,1)],none,none,[0,0,0,0]⟩
 |63=>⟨7,64,true,.agg [.int .u8 0,.int .u16 0,.int .i64 0,.int .i64 0,.sl true [],.int .i64 0,.bool false],0,[(0,4),(4,1),(5,1),(6,1)],none,none,[]⟩
 |65=>⟨18,184,true,.agg [.int .i64 0,.int .i64 0,.int .i64 0,.int .i64 0,.int .i64 0,.int .i64 0,.int .i64 0,.int .i64 0,.int .i64 0,.sl true [],.sl true [],.int .u8 0,.int .u16 0,.int .i64 0,.int .i64 0,.sl true [],.int .i64 0,.bool false],0,[(0,1),(1,1),(2,1),(3,8),(11,7)],none,none,[]⟩
 |81=>⟨1,24,false,.sl true [],48,[],none,none,[]⟩
 |85=>⟨1,24,false,.sl true [],160,[],none,none,[]⟩
 |87=>⟨2,48,true,.agg [.sl true [],.sl true []],0,[(0,1),(1,1)],none,none,[]⟩
 |93=>⟨6,48,true,.agg [.int .i64 0,.int .i64 0,.int .i64 0,.int .i64 0,.int .i64 0,.int .i64 0],0,[(0,1),(1,1),(2,1),(3,1),(4,1),(5,1)],none,none,[0,0,0,0,0,0]⟩
 |94=>⟨1,24,false,.sl true [],5,[],none,none,[]⟩
 |102=>⟨1,24,false,.sl true [],93,[],none,none,[]⟩
 |105=>⟨1,24,false,.sl true [],94,[],none,none,[]⟩
 |110=>⟨3,40,true,.agg [.int .i64 0,.bool false,.sl true []],0,[(0,1),(1,1),(2,1)],none,none,[]⟩
 |112=>⟨8,80,true,.agg [.int .i64 0,.sl true [],.int .i64 0,.int .i64 0,.int .i64 0,.int .i64 0,.int .i64 0,.int .u16 0],0,[(0,1),(1,1),(2,1),(3,1),(4,1),(5,1),(6,1),(7,1)],none,none,[]⟩
 |120=>⟨2,4,true,.agg [.int .u8 0,.int .u16 0],0,[(0,1),(1,1)],none,none,[0,0]⟩
 |128=>⟨2,32,true,.agg [.sl true [],.int .i64 0],0,[(0,1),(1,1)],none,none,[]⟩
 |136=>⟨3,24,true,.agg [.int .i64 0,.int .i64 0,.bool false],0,[(0,1),(1,1),(2,1)],none,none,[0,0,1]⟩
 |156=>⟨5,40,true,.agg [.int .i64 0,.int .i64 0,.int .i64 0,.int .i64 0,.int .i64 0],0,[(0,1),(1,1),(2,1),(3,1),(4,1)],none,none,[0,0,0,0,0]⟩
 |160=>⟨8,80,true,.agg [.int .i64 0,.int .i64 0,.int .i64 0,.int .i64 0,.int .i64 0,.int .i64 0,.int .u16 0,.sl true []],0,[(0,1),(1,1),(2,1),(3,1),(4,1),(5,1),(6,1),(7,1)],none,none,[]⟩
 |169=>⟨1,24,false,.sl true [],9,[],none,none,[]⟩
 |171=>⟨1,8,false,.oM,112,[],none,none,[3]⟩
 |175=>⟨2,16,true,.agg [.int .i64 0,.int .i64 0],0,[(0,1),(1,1)],none,none,[0,0]⟩
 |181=>⟨1,8,false,.int .u64 0,0,[],none,some .u64,[0]⟩
 |184=>⟨2,32,true,.agg [.sl true [],.bool false],0,[(0,1),(1,1)],none,none,[]⟩
 |226=>⟨1,8,false,.oM,36,[],none,none,[3]⟩
 |250=>⟨4,4,true,.agg [.bool false,.bool false,.bool false,.bool false],4,[],some 4,none,[9]⟩
 |252=>⟨1,24,false,.sl true [],23,[],none,none,[]⟩
 |254=>⟨3,40,true,.agg [.int .i64 0,.int .i64 0,.sl true []],0,[(0,1),(1,1),(2,1)],none,none,[]⟩
 |280=>⟨5,88,true,.agg [.sl true [],.sl true [],.sl true [],.oM,.oM],0,[(0,3),(3,1),(4,1)],none,none,[]⟩
 |301=>⟨3,24,true,.agg [.int .i64 0,.int .i64 0,.bool false],0,[(0,1),(1,1),(2,1)],none,none,[0,0,1]⟩
 |338=>⟨4,4,true,.agg [.bool false,.bool false,.bool false,.bool false],0,[(0,1),(1,1),(2,1),(3,1)],none,none,[1,1,1,1]⟩
 |350=>⟨2,2,true,.agg [.int .u8 0,.int .u8 0],0,[(0,1),(1,1)],none,none,[0,0]⟩
 |_=>default
attribute [simp] ti.eq_1 ti.eq_2 ti.eq_3 ti.eq_4 ti.eq_5 ti.eq_6 ti.eq_7 ti.eq_8 ti.eq_9 ti.eq_10 ti.eq_11 ti.eq_12 ti.eq_13 ti.eq_14 ti.eq_15 ti.eq_16 ti.eq_17 ti.eq_18 ti.eq_19 ti.eq_20 ti.eq_21 ti.eq_22 ti.eq_23 ti.eq_24 ti.eq_25 ti.eq_26 ti.eq_27 ti.eq_28 ti.eq_29 ti.eq_30
attribute [simp] ti.eq_31 ti.eq_32 ti.eq_33 ti.eq_34 ti.eq_35 ti.eq_36 ti.eq_37 ti.eq_38 ti.eq_39 ti.eq_40 ti.eq_41 ti.eq_42 ti.eq_43 ti.eq_44 ti.eq_45 ti.eq_46 ti.eq_47 ti.eq_48 ti.eq_49 ti.eq_50 ti.eq_51 ti.eq_52 ti.eq_53 ti.eq_54 ti.eq_55 ti.eq_56 ti.eq_57 ti.eq_58
def cl:FuncId→Option TypeId
 |108=>some 94
 |152=>some 30
 |224=>some 22
 |225=>some 31
 |_=>none
def byL:FuncId→Bool
 |18=>true
 |30=>true
 |67=>true
 |119=>true
 |121=>true
 |160=>true
 |161=>true
 |198=>true
 |210=>true
 |226=>true
 |227=>true
 |237=>true
 |243=>true
 |244=>true
 |246=>true
 |251=>true
 |264=>true
 |265=>true
 |268=>true
 |270=>true
 |271=>true
 |273=>true
 |276=>true
 |292=>true
 |294=>true
 |_=>false
def ioL:FuncId→Bool
 |19=>true
 |40=>true
 |42=>true
 |43=>true
 |53=>true
 |58=>true
 |63=>true
 |65=>true
 |66=>true
 |68=>true
 |88=>true
 |92=>true
 |97=>true
 |109=>true
 |125=>true
 |126=>true
 |127=>true
 |138=>true
 |139=>true
 |169=>true
 |172=>true
 |181=>true
 |182=>true
 |201=>true
 |209=>true
 |_=>false
def aer:FuncId→Bool
 |3=>true
 |4=>true
 |5=>true
 |7=>true
 |8=>true
 |9=>true
 |10=>true
 |12=>true
 |13=>true
 |15=>true
 |16=>true
 |17=>true
 |20=>true
 |23=>true
 |25=>true
 |28=>true
 |29=>true
 |31=>true
 |35=>true
 |37=>true
 |38=>true
 |40=>true
 |42=>true
 |50=>true
 |51=>true
 |53=>true
 |54=>true
 |57=>true
 |59=>true
 |60=>true
 |63=>true
 |69=>true
 |70=>true
 |78=>true
 |79=>true
 |80=>true
 |81=>true
 |82=>true
 |85=>true
 |87=>true
 |93=>true
 |95=>true
 |96=>true
 |97=>true
 |100=>true
 |101=>true
 |105=>true
 |106=>true
 |113=>true
 |115=>true
 |118=>true
 |122=>true
 |125=>true
 |126=>true
 |130=>true
 |131=>true
 |133=>true
 |140=>true
 |145=>true
 |146=>true
 |154=>true
 |164=>true
 |166=>true
 |167=>true
 |171=>true
 |173=>true
 |174=>true
 |177=>true
 |181=>true
 |182=>true
 |183=>true
 |184=>true
 |188=>true
 |194=>true
 |202=>true
 |203=>true
 |204=>true
 |206=>true
 |207=>true
 |209=>true
 |211=>true
 |215=>true
 |216=>true
 |219=>true
 |230=>true
 |239=>true
 |240=>true
 |241=>true
 |245=>true
 |256=>true
 |262=>true
 |267=>true
 |279=>true
 |282=>true
 |286=>true
 |287=>true
 |_=>false
def thL:FuncId→Nat→Bool
 |36,d=>d==17
 |40,d=>d==22
 |41,d=>d==17
 |46,d=>d==17
 |47,d=>d==27
 |67,d=>d==16
 |73,d=>d==11
 |74,d=>d==76
 |75,d=>d==21||d==23||d==42||d==79
 |77,d=>d==40||d==54||d==56||d==66
 |96,d=>d==9
 |103,d=>d==16
 |119,d=>d==51||d==77
 |121,d=>d==54
 |125,d=>d==8
 |127,d=>d==102||d==113||d==134
 |155,d=>d==9
 |161,d=>d==91
 |163,d=>d==10
 |185,d=>d==17
 |193,d=>d==36
 |195,d=>d==9
 |198,d=>d==221
 |226,d=>d==22
 |255,d=>d==14
 |256,d=>d==72
 |280,d=>d==15
 |_,_=>false
def flL:FuncId→Nat→Bool
 |41,d=>d==29
 |_,_=>false
def kpL:FuncId→TypeId→Bool
 |4,t=>t==37
 |36,t=>t==57||t==160
 |40,t=>t==57||t==160
 |46,t=>t==110||t==112
 |47,t=>t==110||t==112
 |73,t=>t==110||t==112
 |75,t=>t==110||t==112
 |77,t=>t==110||t==112
 |89,t=>t==57
 |103,t=>t==110||t==112
 |119,t=>t==110||t==112
 |121,t=>t==110||t==112
 |138,t=>t==112
 |139,t=>t==112
 |151,t=>t==110||t==112
 |160,t=>t==110||t==112
 |161,t=>t==110||t==112
 |179,t=>t==110||t==112
 |193,t=>t==110||t==112
 |198,t=>t==110||t==112
 |205,t=>t==57
 |226,t=>t==110||t==112
 |227,t=>t==110||t==112
 |237,t=>t==110||t==112
 |246,t=>t==110||t==112
 |251,t=>t==110||t==112
 |253,t=>t==22
 |255,t=>t==22
 |264,t=>t==110||t==112
 |265,t=>t==110||t==112
 |268,t=>t==110||t==112
 |271,t=>t==110||t==112
 |273,t=>t==110||t==112
 |276,t=>t==110||t==112
 |280,t=>t==57
 |292,t=>t==110||t==112
 |294,t=>t==110||t==112
 |_,_=>false
@[simp] def aes(d:Nat):Mask:=if d=70 then [(0,0,3)] else []
@[simp] def aet(d:Nat):Mask:=if d=34 then [(0,0,65)] else []
@[simp] def YO(d:Nat):Mask:=if d=19 then [(0,7,112)] else []
@[simp] def YP(d:Nat):Mask:=if d=8 then [(0,0,65)] else []
@[simp] def YQ(d:Nat):Mask:=if d=13 then [(0,7,112)] else if d=96 then [(0,4,112)] else []
@[simp] def YR(d:Nat):Mask:=if d=14 then [(0,4,112)] else []
@[simp] def YS(d:Nat):Mask:=if d=39 then [(0,16,65),(0,17,3)] else if d=52 then [(0,4,112)] else if d=70 then [(0,4,112)] else []
@[simp] def SD(d:Nat):Mask:=if d=22 then [(0,4,112)] else []
@[simp] def YT(d:Nat):Mask:=if d=9 then [(0,4,112)] else []
@[simp] def UO(d:Nat):Mask:=if d=24 then [(0,4,112)] else []
@[simp] def UP(d:Nat):Mask:=if d=9 then [(0,4,112)] else []
@[simp] def UQ(d:Nat):Mask:=if d=11 then [(0,0,3),(0,1,22)] else []
@[simp] def UR(d:Nat):Mask:=if d=18 then [(0,1,22)] else []
@[simp] def US(d:Nat):Mask:=if d=6 then [(0,1,120)] else []
@[simp] def UT(d:Nat):Mask:=if d=6 then [(0,1,120)] else []
@[simp] def UU(d:Nat):Mask:=if d=15 then [(0,1,301)] else []
@[simp] def UW(d:Nat):Mask:=if d=12 then [(0,0,57),(0,1,301)] else []
@[simp] def UX(d:Nat):Mask:=if d=8 then [(0,1,301)] else []
@[simp] def UY(d:Nat):Mask:=if d=10 then [(0,1,301)] else []
@[simp] def UZ(d:Nat):Mask:=if d=11 then [(0,0,254)] else []
@[simp] def U0(d:Nat):Mask:=if d=15 then [(0,0,37)] else []
def mkL:FuncId→Nat→Mask
 |5=>aes
 |7=>aet
 |19=>YO
 |30=>YP
 |40=>YQ
 |64=>YR
 |67=>YS
 |74=>SD
 |76=>YT
 |118=>UO
 |120=>UP
 |208=>UQ
 |211=>UR
 |238=>US
 |252=>UT
 |281=>UU
 |282=>UW
 |283=>UX
 |284=>UY
 |285=>UZ
 |286=>U0
 |_=>fun _=> []
def omL:FuncId→Mask
 |138=> [(0,16,65),(0,17,3),(0,7,112)]
 |139=> [(0,16,65),(0,17,3),(0,7,112)]
 |209=> [(0,16,65),(0,17,3),(0,7,112)]
 |_=> []
@[simp] def YU(k:Nat):Option Norm:=if k=9 then some ⟨[3,4,26,27,28],[⟨.box 3,3,0,false⟩,⟨.box 4,4,0,false⟩],false,1100⟩ else none
@[simp] def YV(k:Nat):Option Norm:=if k=11 then some ⟨[1,2,7,8,31,32],[⟨.box 7,7,0,false⟩,⟨.box 8,8,0,false⟩,⟨.cell 8 2,1000,1,true⟩],false,1101⟩ else if k=24 then some ⟨[2,7,8],[⟨.box 7,7,0,false⟩,⟨.box 8,8,0,false⟩],false,1100⟩ else if k=34 then some ⟨[2,7,8,11,12],[⟨.box 7,7,0,false⟩,⟨.box 8,8,0,false⟩,⟨.box 11,11,0,false⟩],false,1100⟩ else none
@[simp] def YW(k:Nat):Option Norm:=if k=9 then some ⟨[0,1,2,3,33,34,35],[],false,1100⟩ else if k=29 then some ⟨[3,12,13,89,90,91],[⟨.box 12,12,0,false⟩,⟨.box 13,13,0,false⟩],false,1100⟩ else if k=43 then some ⟨[3,12,13,16,89,90,91,147,148,149],[⟨.box 12,12,0,false⟩,⟨.box 13,13,0,false⟩],false,1100⟩ else none
@[simp] def YX(k:Nat):Option Norm:=if k=13 then some ⟨[1,7,8,10,11,35,36,37],[⟨.box 7,7,0,false⟩,⟨.box 8,8,0,false⟩,⟨.slot 10,10,18,false⟩,⟨.slot 11,11,1,false⟩],false,1100⟩ else if k=30 then some ⟨[7,8,10,14],[⟨.box 7,7,0,false⟩,⟨.box 8,8,0,false⟩],false,1100⟩ else none
@[simp] def YY(k:Nat):Option Norm:=if k=15 then some ⟨[5,7,42,43,44],[⟨.box 5,5,0,false⟩,⟨.box 7,7,0,false⟩],false,1100⟩ else none
@[simp] def YZ(k:Nat):Option Norm:=if k=15 then some ⟨[2,4,10,11,12,58,59,60],[⟨.box 4,4,0,false⟩,⟨.box 10,10,0,false⟩,⟨.box 11,11,0,false⟩],false,1100⟩ else if k=25 then some ⟨[2,4,10,11,12,15,58,59,60,95,96,97],[⟨.box 4,4,0,false⟩,⟨.box 10,10,0,false⟩,⟨.box 11,11,0,false⟩,⟨.box 15,15,0,false⟩],false,1100⟩ else none
@[simp] def SF(k:Nat):Option Norm:=if k=19 then some ⟨[4,5,6,7,8,39,40],[⟨.box 4,4,0,false⟩,⟨.box 5,5,0,false⟩,⟨.box 6,6,0,false⟩,⟨.box 7,7,0,false⟩],false,1100⟩ else if k=29 then some ⟨[4,5,6,7,8,63,64],[⟨.box 4,4,0,false⟩,⟨.box 5,5,0,false⟩,⟨.box 6,6,0,false⟩,⟨.box 7,7,0,false⟩],false,1100⟩ else none
@[simp] def MX(k:Nat):Option Norm:=if k=17 then some ⟨[1,2,7,8,10,11,34,35],[⟨.box 7,7,0,false⟩],false,1100⟩ else none
@[simp] def SH(k:Nat):Option Norm:=if k=8 then some ⟨[4,5],[⟨.box 4,4,0,false⟩],false,1100⟩ else if k=15 then some ⟨[4,5,6,7,8,9,10],[⟨.box 4,4,0,false⟩,⟨.box 6,6,0,false⟩,⟨.slot 8,8,6,false⟩,⟨.slot 9,9,6,false⟩],false,1100⟩ else if k=21 then some ⟨[4,5,6,7,8,9,10,49,50,51],[⟨.box 4,4,0,false⟩,⟨.box 6,6,0,false⟩,⟨.slot 8,8,6,false⟩,⟨.slot 9,9,6,false⟩],false,1100⟩ else if k=33 then some ⟨[4,6,7,8,9,64,65,66],[⟨.box 4,4,0,false⟩,⟨.box 6,6,0,false⟩,⟨.slot 8,8,6,false⟩,⟨.slot 9,9,6,false⟩],false,1100⟩ else if k=42 then some ⟨[4,6,7,8,9],[⟨.box 4,4,0,false⟩,⟨.box 6,6,0,false⟩],false,1100⟩ else if k=44 then some ⟨[4,6,7,9,15,16],[⟨.box 4,4,0,false⟩,⟨.box 6,6,0,false⟩,⟨.box 15,15,0,false⟩],false,1100⟩ else none
@[simp] def SI(k:Nat):Option Norm:=if k=11 then some ⟨[3,4,5,14],[⟨.box 3,3,0,false⟩,⟨.box 4,4,0,false⟩,⟨.slot 5,5,6,false⟩],false,1100⟩ else if k=24 then some ⟨[4,5],[⟨.box 4,4,0,false⟩],false,1100⟩ else none
@[simp] def SJ(k:Nat):Option Norm:=if k=19 then some ⟨[4,6,7,8,45,46,47],[⟨.box 4,4,0,false⟩,⟨.box 6,6,0,false⟩],false,1100⟩ else none
@[simp] def SK(k:Nat):Option Norm:=if k=12 then some ⟨[1,5,6,7,8,9],[⟨.box 5,5,0,false⟩,⟨.box 6,6,0,false⟩],false,1100⟩ else if k=23 then some ⟨[5,6,7,8,9,12,78,79,80],[⟨.box 5,5,0,false⟩,⟨.box 6,6,0,false⟩,⟨.box 12,12,0,false⟩],false,1100⟩ else if k=40 then some ⟨[6,8,9,17,18,19,20,21],[⟨.box 6,6,0,false⟩],false,1100⟩ else none
@[simp] def SL(k:Nat):Option Norm:=if k=19 then some ⟨[4,9,38],[⟨.box 4,4,0,false⟩,⟨.box 9,9,0,false⟩,⟨.cell 9 4,1000,8,false⟩],false,1101⟩ else none
@[simp] def SM(k:Nat):Option Norm:=if k=9 then some ⟨[31,32,33],[],false,1100⟩ else none
@[simp] def SN(k:Nat):Option Norm:=if k=9 then some ⟨[2,3,31,32],[⟨.box 2,2,0,false⟩,⟨.box 3,3,0,false⟩],false,1100⟩ else none
@[simp] def SO(k:Nat):Option Norm:=if k=11 then some ⟨[2,3,6,9,25,26,27],[⟨.box 3,3,0,false⟩,⟨.box 6,6,0,false⟩,⟨.box 9,9,0,false⟩],false,1100⟩ else none
@[simp] def SP(k:Nat):Option Norm:=if k=15 then some ⟨[0,1,4,6,7,8,36,37],[⟨.box 4,4,0,false⟩,⟨.box 7,7,0,false⟩,⟨.cell 7 0,1000,1,false⟩],false,1101⟩ else none
@[simp] def SQ(k:Nat):Option Norm:=if k=11 then some ⟨[2,3,6,9,26,27,28],[⟨.box 3,3,0,false⟩,⟨.box 6,6,0,false⟩,⟨.box 9,9,0,false⟩],false,1100⟩ else none
@[simp] def SR(k:Nat):Option Norm:=if k=9 then some ⟨[2,3,27,28],[⟨.box 2,2,0,false⟩,⟨.box 3,3,0,false⟩],false,1100⟩ else if k=21 then some ⟨[3,45,46,47],[⟨.box 3,3,0,false⟩],false,1100⟩ else none
@[simp] def SS(k:Nat):Option Norm:=if k=7 then some ⟨[3,6,7,8],[⟨.slot 3,3,18,false⟩],false,1100⟩ else none
@[simp] def SU(k:Nat):Option Norm:=if k=5 then some ⟨[1,8,9,10],[⟨.box 1,1,0,false⟩],false,1100⟩ else if k=17 then some ⟨[1,21,22,23],[⟨.box 1,1,0,false⟩],false,1100⟩ else none
@[simp] def SV(k:Nat):Option Norm:=if k=46 then some ⟨[0,2,3,4,5,6],[⟨.box 0,0,0,false⟩,⟨.box 2,2,0,false⟩,⟨.box 3,3,0,false⟩,⟨.box 4,4,0,false⟩,⟨.box 5,5,0,false⟩,⟨.box 6,6,0,false⟩,⟨.cell 5 4,1000,8,false⟩],true,1101⟩ else none
@[simp] def MY(k:Nat):Option Norm:=if k=19 then some ⟨[0,2,3,39,40,41],[⟨.box 0,0,0,false⟩,⟨.box 2,2,0,false⟩,⟨.box 3,3,0,false⟩,⟨.cell 3 6,1000,4,false⟩],true,1101⟩ else none
@[simp] def SW(k:Nat):Option Norm:=if k=7 then some ⟨[0,1,5,6],[],false,1100⟩ else none
@[simp] def MZ(k:Nat):Option Norm:=if k=5 then some ⟨[0,3],[],false,1100⟩ else none
@[simp] def SX(k:Nat):Option Norm:=if k=7 then some ⟨[0,2,3,9,10],[⟨.box 0,0,0,false⟩,⟨.slot 9,9,6,false⟩],true,1100⟩ else none
@[simp] def M0(k:Nat):Option Norm:=if k=11 then some ⟨[2,3,4,5,10,12,35,36,37],[⟨.box 5,5,0,false⟩,⟨.box 10,10,0,false⟩,⟨.box 12,12,0,false⟩],false,1100⟩ else if k=19 then some ⟨[2,3,4,5,10,12,14,15,16,35,36,37,42,43,44],[⟨.box 5,5,0,false⟩,⟨.box 10,10,0,false⟩,⟨.box 12,12,0,false⟩,⟨.box 15,15,0,false⟩,⟨.slot 16,16,6,false⟩],false,1100⟩ else none
@[simp] def SY(k:Nat):Option Norm:=if k=9 then some ⟨[1,23,24,25],[⟨.box 1,1,0,false⟩],false,1100⟩ else if k=25 then some ⟨[1,50,51,52],[⟨.box 1,1,0,false⟩],false,1100⟩ else if k=37 then some ⟨[1,61,62,63],[⟨.box 1,1,0,false⟩],false,1100⟩ else none
@[simp] def SZ(k:Nat):Option Norm:=if k=11 then some ⟨[2,3,4,5,10,12,39,40,41],[⟨.box 5,5,0,false⟩,⟨.box 10,10,0,false⟩,⟨.box 12,12,0,false⟩],false,1100⟩ else if k=23 then some ⟨[2,3,4,5,10,12,50,51,52],[⟨.box 5,5,0,false⟩,⟨.box 10,10,0,false⟩,⟨.box 12,12,0,false⟩],false,1100⟩ else if k=31 then some ⟨[2,3,4,5,10,12,16,17,18,50,51,52,57,58,59],[⟨.box 5,5,0,false⟩,⟨.box 10,10,0,false⟩,⟨.box 12,12,0,false⟩,⟨.box 17,17,0,false⟩,⟨.slot 18,18,6,false⟩],false,1100⟩ else if k=57 then some ⟨[2,3,4,5,10,12,16,21,22,24,26,27,50,51,52,112,113,114],[⟨.box 5,5,0,false⟩,⟨.box 10,10,0,false⟩,⟨.box 12,12,0,false⟩,⟨.box 21,21,0,false⟩,⟨.box 22,22,0,false⟩],false,1100⟩ else none
@[simp] def S4(k:Nat):Option Norm:=if k=11 then some ⟨[9,11,43,44],[⟨.box 9,9,0,false⟩,⟨.box 11,11,0,false⟩],false,1100⟩ else none
@[simp] def S5(k:Nat):Option Norm:=if k=7 then some ⟨[0,2,3,13,14,15],[⟨.box 0,0,0,false⟩,⟨.box 2,2,0,false⟩,⟨.box 3,3,0,false⟩,⟨.cell 3 0,1000,5,false⟩,⟨.cell 3 2,1001,1,false⟩],true,1102⟩ else if k=17 then some ⟨[0,2,3,6],[⟨.box 0,0,0,false⟩,⟨.box 2,2,0,false⟩,⟨.box 3,3,0,false⟩,⟨.cell 3 0,1000,5,false⟩,⟨.cell 3 2,1001,1,false⟩],true,1102⟩ else if k=45 then some ⟨[0,2,3,101,102],[⟨.box 0,0,0,false⟩,⟨.box 2,2,0,false⟩,⟨.box 3,3,0,false⟩,⟨.cell 3 0,1000,5,false⟩,⟨.cell 3 2,1001,1,false⟩],true,1102⟩ else none
@[simp] def S6(k:Nat):Option Norm:=if k=9 then some ⟨[1,2,21,22,23],[⟨.box 2,2,0,false⟩],false,1100⟩ else if k=19 then some ⟨[1,2,5,6,21,22,23,42,43,44],[⟨.box 2,2,0,false⟩],false,1100⟩ else none
@[simp] def S7(k:Nat):Option Norm:=if k=11 then some ⟨[2,3,4,6,30,31,32],[⟨.box 2,2,0,false⟩,⟨.box 3,3,0,false⟩,⟨.box 4,4,0,false⟩,⟨.box 6,6,0,false⟩,⟨.cell 6 0,1000,2,false⟩],false,1101⟩ else if k=21 then some ⟨[2,3,4,6,7,30,31,32,46,47,48],[⟨.box 2,2,0,false⟩,⟨.box 3,3,0,false⟩,⟨.box 4,4,0,false⟩,⟨.box 6,6,0,false⟩,⟨.cell 6 0,1000,2,false⟩],false,1101⟩ else none
@[simp] def M3(k:Nat):Option Norm:=if k=9 then some ⟨[0,1,12,13],[],false,1100⟩ else none
@[simp] def S8(k:Nat):Option Norm:=if k=9 then some ⟨[22,23,24],[],false,1100⟩ else none
@[simp] def S9(k:Nat):Option Norm:=if k=5 then some ⟨[1,6,7,8],[⟨.box 1,1,0,false⟩],false,1100⟩ else none
@[simp] def Ta(k:Nat):Option Norm:=if k=9 then some ⟨[2,3,22,23],[⟨.box 2,2,0,false⟩,⟨.box 3,3,0,false⟩],false,1100⟩ else none
@[simp] def Tb(k:Nat):Option Norm:=if k=9 then some ⟨[2,3,25,26],[⟨.box 2,2,0,false⟩,⟨.box 3,3,0,false⟩],false,1100⟩ else none
@[simp] def M4(k:Nat):Option Norm:=if k=19 then some ⟨[4,9,30],[⟨.box 4,4,0,false⟩,⟨.box 9,9,0,false⟩,⟨.cell 9 4,1000,8,false⟩],false,1101⟩ else none
@[simp] def Tc(k:Nat):Option Norm:=if k=5 then some ⟨[0,5,6,7],[],false,1100⟩ else none
@[simp] def Td(k:Nat):Option Norm:=if k=9 then some ⟨[3,4,5,6,37,38,39],[⟨.box 3,3,0,false⟩,⟨.box 4,4,0,false⟩,⟨.box 5,5,0,false⟩,⟨.box 6,6,0,false⟩],false,1100⟩ else if k=15 then some ⟨[3,4,5,6,37,38,39,43,44,45],[⟨.box 3,3,0,false⟩,⟨.box 4,4,0,false⟩,⟨.box 5,5,0,false⟩,⟨.box 6,6,0,false⟩],false,1100⟩ else if k=31 then some ⟨[3,4,5,6,12,68,69,70],[⟨.box 3,3,0,false⟩,⟨.box 4,4,0,false⟩,⟨.box 5,5,0,false⟩,⟨.box 6,6,0,false⟩,⟨.box 12,12,0,false⟩,⟨.cell 12 2,1000,2,false⟩,⟨.cell 12 4,1001,8,false⟩],false,1102⟩ else if k=37 then some ⟨[3,4,5,6,12,13,68,69,70,75,76,77],[⟨.box 3,3,0,false⟩,⟨.box 4,4,0,false⟩,⟨.box 5,5,0,false⟩,⟨.box 6,6,0,false⟩,⟨.box 12,12,0,false⟩,⟨.cell 12 2,1000,2,false⟩,⟨.cell 12 4,1001,8,false⟩],false,1102⟩ else if k=49 then some ⟨[3,4,6,12,104,105,106],[⟨.box 3,3,0,false⟩,⟨.box 4,4,0,false⟩,⟨.box 6,6,0,false⟩,⟨.box 12,12,0,false⟩,⟨.cell 12 2,1000,2,false⟩,⟨.cell 12 4,1001,8,false⟩],false,1102⟩ else if k=57 then some ⟨[3,4,6,12,19,104,105,106,126,127,128],[⟨.box 3,3,0,false⟩,⟨.box 4,4,0,false⟩,⟨.box 6,6,0,false⟩,⟨.box 12,12,0,false⟩,⟨.box 19,19,0,false⟩,⟨.cell 12 2,1000,2,false⟩,⟨.cell 12 4,1001,8,false⟩,⟨.cell 19 1,1002,2,false⟩],false,1103⟩ else none
@[simp] def M5(k:Nat):Option Norm:=if k=5 then some ⟨[0,1,5],[⟨.slot 5,5,1,false⟩],false,1100⟩ else none
@[simp] def M6(k:Nat):Option Norm:=if k=7 then some ⟨[3,10,11,12],[⟨.slot 3,3,1,false⟩],false,1100⟩ else none
@[simp] def M7(k:Nat):Option Norm:=if k=7 then some ⟨[0,5,6],[⟨.box 0,0,0,false⟩,⟨.slot 5,5,4,false⟩],true,1100⟩ else none
@[simp] def Fw(k:Nat):Option Norm:=if k=7 then some ⟨[1,4,10,11,12],[⟨.box 4,4,0,false⟩],false,1100⟩ else none
@[simp] def Fx(k:Nat):Option Norm:=if k=7 then some ⟨[3,6,7,8],[],false,1100⟩ else none
@[simp] def Fy(k:Nat):Option Norm:=if k=5 then some ⟨[1,4,8,9,10],[⟨.box 4,4,0,false⟩],false,1100⟩ else none
@[simp] def Fz(k:Nat):Option Norm:=if k=7 then some ⟨[3,6,7,8],[],false,1100⟩ else none
@[simp] def FA(k:Nat):Option Norm:=if k=9 then some ⟨[5,6,7,16,17,18],[],false,1100⟩ else none
@[simp] def M8(k:Nat):Option Norm:=if k=9 then some ⟨[1,2,15,16,17],[],false,1100⟩ else none
@[simp] def M9(k:Nat):Option Norm:=if k=33 then some ⟨[4,8,9,11,14,15,80,81],[⟨.box 4,4,0,false⟩,⟨.box 8,8,0,false⟩,⟨.box 9,9,0,false⟩,⟨.box 11,11,0,false⟩,⟨.box 14,14,0,false⟩,⟨.box 15,15,0,false⟩,⟨.cell 11 4,1000,8,false⟩,⟨.cell 15 6,1001,4,false⟩,⟨.cell 15 7,1002,4,false⟩],false,1103⟩ else if k=45 then some ⟨[4,8,9,11,14,15,109,110],[⟨.box 4,4,0,false⟩,⟨.box 8,8,0,false⟩,⟨.box 9,9,0,false⟩,⟨.box 11,11,0,false⟩,⟨.box 14,14,0,false⟩,⟨.box 15,15,0,false⟩,⟨.cell 11 4,1000,8,false⟩,⟨.cell 15 6,1001,4,false⟩,⟨.cell 15 7,1002,4,false⟩],false,1103⟩ else none
@[simp] def Na(k:Nat):Option Norm:=if k=11 then some ⟨[1,3,23,24,25],[⟨.box 1,1,0,false⟩,⟨.box 3,3,0,false⟩],false,1100⟩ else none
@[simp] def Nb(k:Nat):Option Norm:=if k=7 then some ⟨[0,3,4],[⟨.box 0,0,0,false⟩,⟨.slot 3,3,1,false⟩],true,1100⟩ else none
@[simp] def Nc(k:Nat):Option Norm:=if k=7 then some ⟨[0,5,6],[⟨.box 0,0,0,false⟩,⟨.slot 5,5,1,false⟩],true,1100⟩ else none
@[simp] def Nd(k:Nat):Option Norm:=if k=5 then some ⟨[1,8,9,10],[⟨.box 1,1,0,false⟩],false,1100⟩ else if k=17 then some ⟨[1,19,20,21],[⟨.box 1,1,0,false⟩],false,1100⟩ else none
@[simp] def Nf(k:Nat):Option Norm:=if k=5 then some ⟨[0,10,11,12],[],false,1100⟩ else if k=11 then some ⟨[0,10,11,12,16,17,18],[],false,1100⟩ else none
@[simp] def Ng(k:Nat):Option Norm:=if k=7 then some ⟨[0,1,8,9],[⟨.box 0,0,0,false⟩,⟨.box 1,1,0,false⟩,⟨.cell 1 0,1000,1,false⟩],false,1101⟩ else none
@[simp] def Nh(k:Nat):Option Norm:=if k=7 then some ⟨[1,5,6],[⟨.slot 1,1,3,false⟩],false,1100⟩ else none
@[simp] def FB(k:Nat):Option Norm:=if k=9 then some ⟨[1,2,20,21,22],[⟨.box 2,2,0,false⟩],false,1100⟩ else if k=19 then some ⟨[1,2,5,6,20,21,22,42,43],[⟨.box 2,2,0,false⟩],false,1100⟩ else none
@[simp] def FC(k:Nat):Option Norm:=if k=9 then some ⟨[16,17,18],[],false,1100⟩ else none
@[simp] def FD(k:Nat):Option Norm:=if k=15 then some ⟨[3,4,7,8,9,33,34],[⟨.box 3,3,0,false⟩,⟨.box 4,4,0,false⟩,⟨.box 7,7,0,false⟩,⟨.slot 9,9,1,false⟩],false,1100⟩ else none
@[simp] def Ni(k:Nat):Option Norm:=if k=5 then some ⟨[5,6,7],[],false,1100⟩ else none
@[simp] def Nj(k:Nat):Option Norm:=if k=9 then some ⟨[0,1,12,13],[],false,1100⟩ else none
@[simp] def FE(k:Nat):Option Norm:=if k=11 then some ⟨[2,3,4,6,28,29,30],[⟨.box 2,2,0,false⟩,⟨.box 3,3,0,false⟩,⟨.box 4,4,0,false⟩,⟨.box 6,6,0,false⟩,⟨.cell 6 0,1000,2,false⟩],false,1101⟩ else none
@[simp] def Nk(k:Nat):Option Norm:=if k=5 then some ⟨[1,2,6,11,12,13],[⟨.box 6,6,0,false⟩],false,1100⟩ else none
@[simp] def Nl(k:Nat):Option Norm:=if k=9 then some ⟨[2,26,27,28],[⟨.box 2,2,0,false⟩],false,1100⟩ else none
@[simp] def Nm(k:Nat):Option Norm:=if k=7 then some ⟨[3,10,11,12],[⟨.slot 3,3,1,false⟩],false,1100⟩ else none
@[simp] def FF(k:Nat):Option Norm:=if k=5 then some ⟨[0,1,7,8,9],[],false,1100⟩ else none
@[simp] def FG(k:Nat):Option Norm:=if k=13 then some ⟨[0,1,5,26,27,28],[⟨.box 0,0,0,false⟩],true,1100⟩ else none
@[simp] def FH(k:Nat):Option Norm:=if k=9 then some ⟨[0,4,5,6],[⟨.box 0,0,0,false⟩,⟨.slot 4,4,4,false⟩],true,1100⟩ else none
@[simp] def FI(k:Nat):Option Norm:=if k=5 then some ⟨[0,1,7,8],[],false,1100⟩ else none
@[simp] def FJ(k:Nat):Option Norm:=if k=9 then some ⟨[0,1,12,13],[],false,1100⟩ else none
@[simp] def Nn(k:Nat):Option Norm:=if k=9 then some ⟨[1,2,15,16,17],[],false,1100⟩ else none
@[simp] def No(k:Nat):Option Norm:=if k=11 then some ⟨[3,4,7,8,9,29,30],[⟨.box 3,3,0,false⟩,⟨.box 4,4,0,false⟩,⟨.box 7,7,0,false⟩],false,1100⟩ else none
@[simp] def Np(k:Nat):Option Norm:=if k=9 then some ⟨[1,18,19,20],[⟨.box 1,1,0,false⟩],false,1100⟩ else if k=21 then some ⟨[1,29,30,31],[⟨.box 1,1,0,false⟩],false,1100⟩ else none
@[simp] def Nq(k:Nat):Option Norm:=if k=5 then some ⟨[5,6,7],[],false,1100⟩ else none
@[simp] def Nr(k:Nat):Option Norm:=if k=7 then some ⟨[3,6,7,8],[⟨.slot 3,3,1,false⟩],false,1100⟩ else none
@[simp] def Ns(k:Nat):Option Norm:=if k=7 then some ⟨[3,6,7,8],[⟨.slot 3,3,3,false⟩],false,1100⟩ else none
@[simp] def Nt(k:Nat):Option Norm:=if k=7 then some ⟨[0,2,4,15,16],[⟨.box 2,2,0,false⟩,⟨.box 4,4,0,false⟩,⟨.cell 4 0,1000,1,false⟩,⟨.cell 4 1,1001,3,false⟩],false,1102⟩ else if k=17 then some ⟨[2,4,25,26,27],[⟨.box 2,2,0,false⟩,⟨.box 4,4,0,false⟩,⟨.cell 4 0,1000,1,false⟩,⟨.cell 4 1,1001,3,false⟩],false,1102⟩ else if k=25 then some ⟨[2,4,8,25,26,27,31,32,33],[⟨.box 2,2,0,false⟩,⟨.box 4,4,0,false⟩,⟨.slot 8,8,4,false⟩,⟨.cell 4 0,1000,1,false⟩,⟨.cell 4 1,1001,3,false⟩],false,1102⟩ else none
@[simp] def Nu(k:Nat):Option Norm:=if k=37 then some ⟨[0,4,87,88,89],[⟨.box 0,0,0,false⟩,⟨.box 4,4,0,false⟩,⟨.cell 0 7,1000,8,false⟩,⟨.cell 0 16,1001,18,false⟩,⟨.cell 0 17,1002,1,false⟩],true,1103⟩ else none
@[simp] def Nv(k:Nat):Option Norm:=if k=7 then some ⟨[1,4,6,20,21,22],[⟨.box 4,4,0,false⟩,⟨.box 6,6,0,false⟩,⟨.cell 6 1,1000,1,false⟩],false,1101⟩ else if k=15 then some ⟨[1,4,6,7,9,20,21,22,27,28,29],[⟨.box 4,4,0,false⟩,⟨.box 6,6,0,false⟩,⟨.slot 9,9,1,false⟩,⟨.cell 6 1,1000,1,false⟩],false,1101⟩ else if k=33 then some ⟨[1,4,6,12,49,50],[⟨.box 4,4,0,false⟩,⟨.box 6,6,0,false⟩,⟨.slot 12,12,1,false⟩],false,1100⟩ else none
@[simp] def FK(k:Nat):Option Norm:=if k=9 then some ⟨[1,22,23,24],[⟨.box 1,1,0,false⟩],false,1100⟩ else if k=27 then some ⟨[1,5,49,50,51],[⟨.box 1,1,0,false⟩],false,1100⟩ else none
@[simp] def FL(k:Nat):Option Norm:=if k=5 then some ⟨[0,5,6,7],[],false,1100⟩ else none
@[simp] def FM(k:Nat):Option Norm:=if k=5 then some ⟨[0,1,7,8],[],false,1100⟩ else none
@[simp] def FN(k:Nat):Option Norm:=if k=11 then some ⟨[5,7,25,26,27],[],false,1100⟩ else none
@[simp] def FO(k:Nat):Option Norm:=if k=7 then some ⟨[1,5,6],[⟨.slot 1,1,3,false⟩],false,1100⟩ else none
@[simp] def FP(k:Nat):Option Norm:=if k=7 then some ⟨[3,6,7,8],[⟨.slot 3,3,2,false⟩],false,1100⟩ else none
@[simp] def Nw(k:Nat):Option Norm:=if k=5 then some ⟨[0,6,7,8],[],false,1100⟩ else none
@[simp] def Nx(k:Nat):Option Norm:=if k=9 then some ⟨[0,1,12,13],[],false,1100⟩ else none
@[simp] def Ny(k:Nat):Option Norm:=if k=13 then some ⟨[2,3,4,5,7,8,74,75,76],[⟨.box 2,2,0,false⟩,⟨.box 3,3,0,false⟩,⟨.box 4,4,0,false⟩,⟨.box 5,5,0,false⟩,⟨.box 7,7,0,false⟩,⟨.slot 8,8,1,false⟩],false,1100⟩ else none
@[simp] def FQ(k:Nat):Option Norm:=if k=5 then some ⟨[0,1,7,8],[],false,1100⟩ else none
@[simp] def FR(k:Nat):Option Norm:=if k=5 then some ⟨[1,2,6,11,12,13],[⟨.box 6,6,0,false⟩],false,1100⟩ else none
@[simp] def Nz(k:Nat):Option Norm:=if k=11 then some ⟨[3,16,17,18],[],false,1100⟩ else none
@[simp] def NA(k:Nat):Option Norm:=if k=7 then some ⟨[1,2,3,6,8,9],[⟨.box 3,3,0,false⟩,⟨.box 6,6,0,false⟩,⟨.box 8,8,0,false⟩,⟨.cell 8 0,1000,1,false⟩,⟨.cell 8 1,1001,3,false⟩],false,1102⟩ else if k=21 then some ⟨[1,2,6,8,9,62,63],[⟨.box 6,6,0,false⟩,⟨.box 8,8,0,false⟩,⟨.cell 8 0,1000,1,false⟩,⟨.cell 8 1,1001,3,false⟩],false,1102⟩ else none
@[simp] def NB(k:Nat):Option Norm:=if k=15 then some ⟨[1,9,10,11,41,42,43],[⟨.slot 9,9,1,false⟩,⟨.slot 11,11,4,false⟩],false,1100⟩ else none
@[simp] def FT(k:Nat):Option Norm:=if k=5 then some ⟨[0,1,7,8],[],false,1100⟩ else none
def nmL:FuncId→Nat→Option Norm
 |3=>YU
 |4=>YV
 |5=>YW
 |7=>YX
 |8=>YY
 |9=>YZ
 |10=>SF
 |12=>MX
 |13=>SH
 |15=>SI
 |16=>SJ
 |17=>SK
 |20=>SL
 |23=>SM
 |25=>SN
 |28=>SO
 |29=>SP
 |31=>SQ
 |35=>SR
 |37=>SS
 |38=>SU
 |40=>SV
 |42=>MY
 |50=>SW
 |51=>MZ
 |53=>SX
 |54=>M0
 |57=>SY
 |59=>SZ
 |60=>S4
 |63=>S5
 |69=>S6
 |70=>S7
 |78=>M3
 |79=>S8
 |80=>S9
 |81=>Ta
 |82=>Tb
 |85=>M4
 |87=>Tc
 |93=>Td
 |95=>M5
 |96=>M6
 |97=>M7
 |100=>Fw
 |101=>Fx
 |105=>Fy
 |106=>Fz
 |113=>FA
 |115=>M8
 |118=>M9
 |122=>Na
 |125=>Nb
 |126=>Nc
 |130=>Nd
 |131=>Nf
 |133=>Ng
 |140=>Nh
 |145=>FB
 |146=>FC
 |154=>FD
 |164=>Ni
 |166=>Nj
 |167=>FE
 |171=>Nk
 |173=>Nl
 |174=>Nm
 |177=>FF
 |181=>FG
 |182=>FH
 |183=>FI
 |184=>FJ
 |188=>Nn
 |194=>No
 |202=>Np
 |203=>Nq
 |204=>Nr
 |206=>Ns
 |207=>Nt
 |209=>Nu
 |211=>Nv
 |215=>FK
 |216=>FL
 |219=>FM
 |230=>FN
 |239=>FO
 |240=>FP
 |241=>Nw
 |245=>Nx
 |256=>Ny
 |262=>FQ
 |267=>FR
 |279=>Nz
 |282=>NA
 |286=>NB
 |287=>FT
 |_=>fun _=>none
@[simp] def aev(r:Nat):List (Nat×Nat):=if r=9 then [(1,9)] else []
@[simp] def aew(r:Nat):List (Nat×Nat):=if r=13 then [(2,7)] else []
@[simp] def aex(r:Nat):List (Nat×Nat):=if r=6 then [(0,3),(0,5),(0,7),(8,0),(8,3),(8,5),(12,0),(12,3),(12,5),(14,0),(14,3),(14,5),(16,0),(16,3),(16,5)] else []
@[simp] def Y0(r:Nat):List (Nat×Nat):=if r=9 then [(1,8)] else []
@[simp] def Y1(r:Nat):List (Nat×Nat):=if r=2 then [(0,5),(0,7)] else if r=6 then [(0,3)] else []
@[simp] def Y2(r:Nat):List (Nat×Nat):=if r=7 then [(4,0),(6,0)] else []
@[simp] def Tf(r:Nat):List (Nat×Nat):=if r=10 then [(1,3)] else []
@[simp] def Y3(r:Nat):List (Nat×Nat):=if r=9 then [(1,9)] else []
@[simp] def Y4(r:Nat):List (Nat×Nat):=if r=9 then [(1,10),(2,10),(3,10)] else if r=18 then [(1,12),(3,12),(5,12)] else if r=21 then [(1,5)] else if r=26 then [(2,4)] else []
@[simp] def Tg(r:Nat):List (Nat×Nat):=if r=4 then [(6,0),(9,0)] else if r=5 then [(6,0)] else []
@[simp] def Th(r:Nat):List (Nat×Nat):=if r=1 then [(5,9),(5,11),(6,9),(6,11)] else if r=12 then [(1,5),(1,6)] else if r=14 then [(1,4),(1,7)] else if r=16 then [(1,4),(1,7)] else if r=18 then [(1,4),(1,6),(1,8)] else []
@[simp] def Y5(r:Nat):List (Nat×Nat):=if r=6 then [(1,3)] else []
@[simp] def Y6(r:Nat):List (Nat×Nat):=if r=5 then [(1,5),(1,6)] else if r=15 then [(1,8),(1,10)] else if r=18 then [(1,4),(1,7)] else []
@[simp] def Y7(r:Nat):List (Nat×Nat):=if r=1 then [(5,9),(6,9)] else []
@[simp] def Ti(r:Nat):List (Nat×Nat):=if r=15 then [(1,3)] else []
@[simp] def Y8(r:Nat):List (Nat×Nat):=if r=7 then [(1,10)] else []
@[simp] def Y9(r:Nat):List (Nat×Nat):=if r=6 then [(6,13),(8,13),(9,13)] else []
@[simp] def Tj(r:Nat):List (Nat×Nat):=if r=10 then [(1,4)] else []
@[simp] def Za(r:Nat):List (Nat×Nat):=if r=1 then [(3,7),(4,7)] else []
@[simp] def Zb(r:Nat):List (Nat×Nat):=if r=1 then [(4,0)] else []
@[simp] def Zc(r:Nat):List (Nat×Nat):=if r=13 then [(4,0)] else []
@[simp] def Tk(r:Nat):List (Nat×Nat):=if r=6 then [(10,0),(10,8)] else if r=7 then [(6,0),(6,4)] else []
@[simp] def U1(r:Nat):List (Nat×Nat):=if r=1 then [(6,0),(6,11),(9,0)] else []
@[simp] def U2(r:Nat):List (Nat×Nat):=if r=18 then [(1,13)] else if r=24 then [(1,19)] else if r=26 then [(1,3)] else []
@[simp] def U3(r:Nat):List (Nat×Nat):=if r=7 then [(1,16),(3,16)] else []
@[simp] def U4(r:Nat):List (Nat×Nat):=if r=7 then [(7,12)] else []
@[simp] def U5(r:Nat):List (Nat×Nat):=if r=8 then [(3,7),(3,10),(3,13),(4,7),(4,10),(4,13)] else if r=13 then [(8,0),(9,0)] else if r=16 then [(8,0),(9,0)] else []
@[simp] def U6(r:Nat):List (Nat×Nat):=if r=1 then [(4,0),(7,0),(7,3),(10,0),(10,3),(13,0),(13,3)] else []
@[simp] def U7(r:Nat):List (Nat×Nat):=if r=4 then [(6,0),(6,2)] else []
@[simp] def U8(r:Nat):List (Nat×Nat):=if r=6 then [(4,11)] else []
@[simp] def NC(r:Nat):List (Nat×Nat):=if r=1 then [(4,0)] else if r=5 then [(1,6)] else []
@[simp] def ND(r:Nat):List (Nat×Nat):=if r=18 then [(12,0)] else []
@[simp] def U9(r:Nat):List (Nat×Nat):=if r=13 then [(3,11),(5,11)] else []
@[simp] def NF(r:Nat):List (Nat×Nat):=if r=6 then [(5,0)] else []
@[simp] def Va(r:Nat):List (Nat×Nat):=if r=27 then [(3,14),(5,14)] else []
@[simp] def Vb(r:Nat):List (Nat×Nat):=if r=5 then [(1,4)] else []
@[simp] def Vc(r:Nat):List (Nat×Nat):=if r=8 then [(2,7),(4,7),(5,7)] else []
@[simp] def Vd(r:Nat):List (Nat×Nat):=if r=2 then [(4,9)] else []
@[simp] def Ve(r:Nat):List (Nat×Nat):=if r=2 then [(3,6),(3,8)] else []
@[simp] def Vf(r:Nat):List (Nat×Nat):=if r=6 then [(11,19),(13,19),(14,19),(15,19)] else if r=28 then [(3,13),(5,13)] else []
@[simp] def Vg(r:Nat):List (Nat×Nat):=if r=2 then [(3,6),(3,8)] else []
@[simp] def Vh(r:Nat):List (Nat×Nat):=if r=5 then [(1,4)] else []
@[simp] def Vi(r:Nat):List (Nat×Nat):=if r=17 then [(1,10),(1,11),(4,10),(6,10),(7,10)] else []
@[simp] def Vj(r:Nat):List (Nat×Nat):=if r=32 then [(7,10),(8,10)] else if r=35 then [(7,10),(8,10)] else if r=43 then [(1,3)] else []
@[simp] def NG(r:Nat):List (Nat×Nat):=if r=15 then [(5,8)] else []
@[simp] def NH(r:Nat):List (Nat×Nat):=if r=1 then [(18,22)] else if r=24 then [(2,13)] else []
@[simp] def NI(r:Nat):List (Nat×Nat):=if r=7 then [(3,17)] else []
@[simp] def NJ(r:Nat):List (Nat×Nat):=if r=2 then [(10,0),(10,8)] else if r=3 then [(6,0),(6,4)] else []
@[simp] def Vk(r:Nat):List (Nat×Nat):=if r=3 then [(1,14),(8,14),(8,15),(10,14),(10,15)] else []
def exL:FuncId→Nat→List (Nat×Nat)
 |4=>aev
 |5=>aew
 |9=>aex
 |15=>Y0
 |19=>Y1
 |20=>Y2
 |21=>Tf
 |36=>Y3
 |40=>Y4
 |41=>Tg
 |42=>Th
 |56=>Y5
 |63=>Y6
 |68=>Y7
 |74=>Ti
 |77=>Y8
 |82=>Y9
 |85=>Tj
 |88=>Za
 |91=>Zb
 |93=>Zc
 |96=>Tk
 |103=>U1
 |118=>U2
 |119=>U3
 |121=>U4
 |127=>U5
 |132=>U6
 |134=>U7
 |138=>U8
 |151=>NC
 |154=>ND
 |161=>U9
 |185=>NF
 |198=>Va
 |205=>Vb
 |208=>Vc
 |210=>Vd
 |238=>Ve
 |246=>Vf
 |252=>Vg
 |253=>Vh
 |255=>Vi
 |256=>Vj
 |264=>NG
 |265=>NH
 |268=>NI
 |270=>NJ
 |297=>Vk
 |_=>fun _=> []
noncomputable def X:Env:={P:=Tryz.prog,ti:=ti,nf:=thL,fg:=byL,dP:=ioL,clone:=cl,dX:=kpL,uG:=exL,norm:=nmL,low:=aer,mask:=mkL,dI:=omL,flat:=flL,ki:=fun _=>none}
@[simp] theorem aly:X.ti=ti:=rfl
abbrev Xa(f:FuncId):Prop:=X.clone f=none∧X.fg f=false∧X.dP f=false∧X.low f=false∧X.dI f=[]
abbrev Xl(f:FuncId):Prop:=X.clone f=none∧X.fg f=false∧X.dP f=false∧X.low f=true∧X.dI f=[]
abbrev Xt(f:FuncId):Prop:=X.nf f=fun _=>false
abbrev Xf(f:FuncId):Prop:=X.flat f=fun _=>false
abbrev Xk(f:FuncId):Prop:=X.dX f=fun _=>false
abbrev Xm(f:FuncId):Prop:=X.mask f=fun _=> []
abbrev Xn(f:FuncId):Prop:=X.norm f=fun _=>none
abbrev Xe(f:FuncId):Prop:=X.uG f=fun _=> []
abbrev Xd(f:FuncId):Prop:=Xa f∧Xt f∧Xf f∧Xk f∧Xm f∧Xn f∧Xe f
@[simp] theorem X12:Xl 12∧Xt 12∧Xf 12∧Xk 12∧Xm 12∧X.norm 12=MX∧Xe 12:=by and_intros<;>first|rfl|exact fun _=>rfl
@[simp] theorem X18:X.clone 18=none∧X.fg 18=true∧X.dP 18=false∧X.low 18=false∧X.dI 18=[]∧Xt 18∧Xf 18∧Xk 18∧Xm 18∧Xn 18∧Xe 18:=by and_intros<;>first|rfl|exact fun _=>rfl
@[simp] theorem X21:Xa 21∧Xt 21∧Xf 21∧Xk 21∧Xm 21∧Xn 21∧X.uG 21=Tf:=by and_intros<;>first|rfl|exact fun _=>rfl
@[simp] theorem X22:Xd 22:=by and_intros<;>rfl
@[simp] theorem X27:Xd 27:=by and_intros<;>rfl
@[simp] theorem X39:Xd 39:=by and_intros<;>rfl
@[simp] theorem X41:Xa 41∧(∀d:Nat,X.nf 41 d=(d==17))∧(∀d:Nat,X.flat 41 d=(d==29))∧Xk 41∧Xm 41∧Xn 41∧X.uG 41=Tg:=by and_intros<;>first|rfl|exact fun _=>rfl
@[simp] theorem X42:X.clone 42=none∧X.fg 42=false∧X.dP 42=true∧X.low 42=true∧X.dI 42=[]∧Xt 42∧Xf 42∧Xk 42∧Xm 42∧X.norm 42=MY∧X.uG 42=Th:=by and_intros<;>first|rfl|exact fun _=>rfl
@[simp] theorem X44:Xd 44:=by and_intros<;>rfl
@[simp] theorem X46:Xa 46∧(∀d:Nat,X.nf 46 d=(d==17))∧Xf 46∧(∀t:TypeId,X.dX 46 t=(t==110||t==112))∧Xm 46∧Xn 46∧Xe 46:=by and_intros<;>first|rfl|exact fun _=>rfl
@[simp] theorem X48:Xd 48:=by and_intros<;>rfl
@[simp] theorem X51:Xl 51∧Xt 51∧Xf 51∧Xk 51∧Xm 51∧X.norm 51=MZ∧Xe 51:=by and_intros<;>first|rfl|exact fun _=>rfl
@[simp] theorem X52:Xd 52:=by and_intros<;>rfl
@[simp] theorem X54:Xl 54∧Xt 54∧Xf 54∧Xk 54∧Xm 54∧X.norm 54=M0∧Xe 54:=by and_intros<;>first|rfl|exact fun _=>rfl
@[simp] theorem X58:X.clone 58=none∧X.fg 58=false∧X.dP 58=true∧X.low 58=false∧X.dI 58=[]∧Xt 58∧Xf 58∧Xk 58∧Xm 58∧Xn 58∧Xe 58:=by and_intros<;>first|rfl|exact fun _=>rfl
@[simp] theorem X71:Xd 71:=by and_intros<;>rfl
@[simp] theorem X72:Xd 72:=by and_intros<;>rfl
@[simp] theorem X73:Xa 73∧(∀d:Nat,X.nf 73 d=(d==11))∧Xf 73∧(∀t:TypeId,X.dX 73 t=(t==110||t==112))∧Xm 73∧Xn 73∧Xe 73:=by and_intros<;>first|rfl|exact fun _=>rfl
@[simp] theorem X74:Xa 74∧(∀d:Nat,X.nf 74 d=(d==76))∧Xf 74∧Xk 74∧X.mask 74=SD∧Xn 74∧X.uG 74=Ti:=by and_intros<;>first|rfl|exact fun _=>rfl
@[simp] theorem X78:Xl 78∧Xt 78∧Xf 78∧Xk 78∧Xm 78∧X.norm 78=M3∧Xe 78:=by and_intros<;>first|rfl|exact fun _=>rfl
@[simp] theorem X84:Xd 84:=by and_intros<;>rfl
@[simp] theorem X85:Xl 85∧Xt 85∧Xf 85∧Xk 85∧Xm 85∧X.norm 85=M4∧X.uG 85=Tj:=by and_intros<;>first|rfl|exact fun _=>rfl
@[simp] theorem X92:X.clone 92=none∧X.fg 92=false∧X.dP 92=true∧X.low 92=false∧X.dI 92=[]∧Xt 92∧Xf 92∧Xk 92∧Xm 92∧Xn 92∧Xe 92:=by and_intros<;>first|rfl|exact fun _=>rfl
@[simp] theorem X94:Xd 94:=by and_intros<;>rfl
@[simp] theorem X95:Xl 95∧Xt 95∧Xf 95∧Xk 95∧Xm 95∧X.norm 95=M5∧Xe 95:=by and_intros<;>first|rfl|exact fun _=>rfl
@[simp] theorem X96:Xl 96∧(∀d:Nat,X.nf 96 d=(d==9))∧Xf 96∧Xk 96∧Xm 96∧X.norm 96=M6∧X.uG 96=Tk:=by and_intros<;>first|rfl|exact fun _=>rfl
@[simp] theorem X97:X.clone 97=none∧X.fg 97=false∧X.dP 97=true∧X.low 97=true∧X.dI 97=[]∧Xt 97∧Xf 97∧Xk 97∧Xm 97∧X.norm 97=M7∧Xe 97:=by and_intros<;>first|rfl|exact fun _=>rfl
@[simp] theorem X98:Xd 98:=by and_intros<;>rfl
@[simp] theorem X99:Xd 99:=by and_intros<;>rfl
@[simp] theorem alz:Xl 100∧Xt 100∧Xf 100∧Xk 100∧Xm 100∧X.norm 100=Fw∧Xe 100:=by and_intros<;>first|rfl|exact fun _=>rfl
@[simp] theorem al0:Xl 101∧Xt 101∧Xf 101∧Xk 101∧Xm 101∧X.norm 101=Fx∧Xe 101:=by and_intros<;>first|rfl|exact fun _=>rfl
@[simp] theorem al1:Xd 102:=by and_intros<;>rfl
@[simp] theorem al2:Xl 105∧Xt 105∧Xf 105∧Xk 105∧Xm 105∧X.norm 105=Fy∧Xe 105:=by and_intros<;>first|rfl|exact fun _=>rfl
@[simp] theorem al3:Xl 106∧Xt 106∧Xf 106∧Xk 106∧Xm 106∧X.norm 106=Fz∧Xe 106:=by and_intros<;>first|rfl|exact fun _=>rfl
@[simp] theorem al4:X.clone 108=some 94∧X.fg 108=false∧X.dP 108=false∧X.low 108=false∧X.dI 108=[]∧Xt 108∧Xf 108∧Xk 108∧Xm 108∧Xn 108∧Xe 108:=by and_intros<;>first|rfl|exact fun _=>rfl
@[simp] theorem al5:X.clone 109=none∧X.fg 109=false∧X.dP 109=true∧X.low 109=false∧X.dI 109=[]∧Xt 109∧Xf 109∧Xk 109∧Xm 109∧Xn 109∧Xe 109:=by and_intros<;>first|rfl|exact fun _=>rfl
@[simp] theorem al6:Xd 110:=by and_intros<;>rfl
@[simp] theorem al7:Xd 111:=by and_intros<;>rfl
@[simp] theorem al8:Xd 112:=by and_intros<;>rfl
@[simp] theorem al9:Xl 113∧Xt 113∧Xf 113∧Xk 113∧Xm 113∧X.norm 113=FA∧Xe 113:=by and_intros<;>first|rfl|exact fun _=>rfl
@[simp] theorem ama:Xd 141:=by and_intros<;>rfl
@[simp] theorem amb:Xd 142:=by and_intros<;>rfl
@[simp] theorem amc:Xd 143:=by and_intros<;>rfl
@[simp] theorem amd:Xd 144:=by and_intros<;>rfl
@[simp] theorem ame:Xl 145∧Xt 145∧Xf 145∧Xk 145∧Xm 145∧X.norm 145=FB∧Xe 145:=by and_intros<;>first|rfl|exact fun _=>rfl
@[simp] theorem amf:Xl 146∧Xt 146∧Xf 146∧Xk 146∧Xm 146∧X.norm 146=FC∧Xe 146:=by and_intros<;>first|rfl|exact fun _=>rfl
@[simp] theorem amg:Xd 147:=by and_intros<;>rfl
@[simp] theorem amh:Xd 148:=by and_intros<;>rfl
@[simp] theorem ami:Xd 149:=by and_intros<;>rfl
@[simp] theorem amj:Xd 150:=by and_intros<;>rfl
@[simp] theorem amk:Xa 151∧Xt 151∧Xf 151∧(∀t:TypeId,X.dX 151 t=(t==110||t==112))∧Xm 151∧Xn 151∧X.uG 151=NC:=by and_intros<;>first|rfl|exact fun _=>rfl
@[simp] theorem aml:X.clone 152=some 30∧X.fg 152=false∧X.dP 152=false∧X.low 152=false∧X.dI 152=[]∧Xt 152∧Xf 152∧Xk 152∧Xm 152∧Xn 152∧Xe 152:=by and_intros<;>first|rfl|exact fun _=>rfl
@[simp] theorem amm:Xd 153:=by and_intros<;>rfl
@[simp] theorem amn:Xl 154∧Xt 154∧Xf 154∧Xk 154∧Xm 154∧X.norm 154=FD∧X.uG 154=ND:=by and_intros<;>first|rfl|exact fun _=>rfl
@[simp] theorem amo:Xa 155∧(∀d:Nat,X.nf 155 d=(d==9))∧Xf 155∧Xk 155∧Xm 155∧Xn 155∧Xe 155:=by and_intros<;>first|rfl|exact fun _=>rfl
@[simp] theorem amp:Xd 156:=by and_intros<;>rfl
@[simp] theorem amq:Xd 157:=by and_intros<;>rfl
@[simp] theorem amr:Xl 167∧Xt 167∧Xf 167∧Xk 167∧Xm 167∧X.norm 167=FE∧Xe 167:=by and_intros<;>first|rfl|exact fun _=>rfl
@[simp] theorem ams:Xd 168:=by and_intros<;>rfl
@[simp] theorem amt:X.clone 172=none∧X.fg 172=false∧X.dP 172=true∧X.low 172=false∧X.dI 172=[]∧Xt 172∧Xf 172∧Xk 172∧Xm 172∧Xn 172∧Xe 172:=by and_intros<;>first|rfl|exact fun _=>rfl
@[simp] theorem amu:Xl 177∧Xt 177∧Xf 177∧Xk 177∧Xm 177∧X.norm 177=FF∧Xe 177:=by and_intros<;>first|rfl|exact fun _=>rfl
@[simp] theorem amv:Xd 178:=by and_intros<;>rfl
@[simp] theorem amw:X.clone 181=none∧X.fg 181=false∧X.dP 181=true∧X.low 181=true∧X.dI 181=[]∧Xt 181∧Xf 181∧Xk 181∧Xm 181∧X.norm 181=FG∧Xe 181:=by and_intros<;>first|rfl|exact fun _=>rfl
@[simp] theorem amx:X.clone 182=none∧X.fg 182=false∧X.dP 182=true∧X.low 182=true∧X.dI 182=[]∧Xt 182∧Xf 182∧Xk 182∧Xm 182∧X.norm 182=FH∧Xe 182:=by and_intros<;>first|rfl|exact fun _=>rfl
@[simp] theorem amy:Xl 183∧Xt 183∧Xf 183∧Xk 183∧Xm 183∧X.norm 183=FI∧Xe 183:=by and_intros<;>first|rfl|exact fun _=>rfl
@[simp] theorem amz:Xl 184∧Xt 184∧Xf 184∧Xk 184∧Xm 184∧X.norm 184=FJ∧Xe 184:=by and_intros<;>first|rfl|exact fun _=>rfl
@[simp] theorem am0:Xa 185∧(∀d:Nat,X.nf 185 d=(d==17))∧Xf 185∧Xk 185∧Xm 185∧Xn 185∧X.uG 185=NF:=by and_intros<;>first|rfl|exact fun _=>rfl
@[simp] theorem am1:Xd 186:=by and_intros<;>rfl
@[simp] theorem am2:Xd 212:=by and_intros<;>rfl
@[simp] theorem am3:Xd 213:=by and_intros<;>rfl
@[simp] theorem am4:Xd 214:=by and_intros<;>rfl
@[simp] theorem am5:Xl 215∧Xt 215∧Xf 215∧Xk 215∧Xm 215∧X.norm 215=FK∧Xe 215:=by and_intros<;>first|rfl|exact fun _=>rfl
@[simp] theorem am6:Xl 216∧Xt 216∧Xf 216∧Xk 216∧Xm 216∧X.norm 216=FL∧Xe 216:=by and_intros<;>first|rfl|exact fun _=>rfl
@[simp] theorem am7:Xd 217:=by and_intros<;>rfl
@[simp] theorem am8:Xd 218:=by and_intros<;>rfl
@[simp] theorem am9:Xl 219∧Xt 219∧Xf 219∧Xk 219∧Xm 219∧X.norm 219=FM∧Xe 219:=by and_intros<;>first|rfl|exact fun _=>rfl
@[simp] theorem ana:Xd 220:=by and_intros<;>rfl
@[simp] theorem anb:Xd 221:=by and_intros<;>rfl
@[simp] theorem anc:Xd 222:=by and_intros<;>rfl
@[simp] theorem ane:Xd 223:=by and_intros<;>rfl
@[simp] theorem anf:X.clone 224=some 22∧X.fg 224=false∧X.dP 224=false∧X.low 224=false∧X.dI 224=[]∧Xt 224∧Xf 224∧Xk 224∧Xm 224∧Xn 224∧Xe 224:=by and_intros<;>first|rfl|exact fun _=>rfl
@[simp] theorem ang:X.clone 225=some 31∧X.fg 225=false∧X.dP 225=false∧X.low 225=false∧X.dI 225=[]∧Xt 225∧Xf 225∧Xk 225∧Xm 225∧Xn 225∧Xe 225:=by and_intros<;>first|rfl|exact fun _=>rfl
@[simp] theorem anh:X.clone 226=none∧X.fg 226=true∧X.dP 226=false∧X.low 226=false∧X.dI 226=[]∧(∀d:Nat,X.nf 226 d=(d==22))∧Xf 226∧(∀t:TypeId,X.dX 226 t=(t==110||t==112))∧Xm 226∧Xn 226∧Xe 226:=by and_intros<;>first|rfl|exact fun _=>rfl
@[simp] theorem ani:X.clone 227=none∧X.fg 227=true∧X.dP 227=false∧X.low 227=false∧X.dI 227=[]∧Xt 227∧Xf 227∧(∀t:TypeId,X.dX 227 t=(t==110||t==112))∧Xm 227∧Xn 227∧Xe 227:=by and_intros<;>first|rfl|exact fun _=>rfl
@[simp] theorem anj:Xd 228:=by and_intros<;>rfl
@[simp] theorem ank:Xd 229:=by and_intros<;>rfl
@[simp] theorem anl:Xl 230∧Xt 230∧Xf 230∧Xk 230∧Xm 230∧X.norm 230=FN∧Xe 230:=by and_intros<;>first|rfl|exact fun _=>rfl
@[simp] theorem anm:Xd 231:=by and_intros<;>rfl
@[simp] theorem ann:Xd 232:=by and_intros<;>rfl
@[simp] theorem ano:Xd 233:=by and_intros<;>rfl
@[simp] theorem anp:Xd 234:=by and_intros<;>rfl
@[simp] theorem anq:Xd 235:=by and_intros<;>rfl
@[simp] theorem anr:X.clone 237=none∧X.fg 237=true∧X.dP 237=false∧X.low 237=false∧X.dI 237=[]∧Xt 237∧Xf 237∧(∀t:TypeId,X.dX 237 t=(t==110||t==112))∧Xm 237∧Xn 237∧Xe 237:=by and_intros<;>first|rfl|exact fun _=>rfl
@[simp] theorem ans:Xl 239∧Xt 239∧Xf 239∧Xk 239∧Xm 239∧X.norm 239=FO∧Xe 239:=by and_intros<;>first|rfl|exact fun _=>rfl
@[simp] theorem ant:Xl 240∧Xt 240∧Xf 240∧Xk 240∧Xm 240∧X.norm 240=FP∧Xe 240:=by and_intros<;>first|rfl|exact fun _=>rfl
@[simp] theorem anu:Xd 242:=by and_intros<;>rfl
@[simp] theorem anv:X.clone 243=none∧X.fg 243=true∧X.dP 243=false∧X.low 243=false∧X.dI 243=[]∧Xt 243∧Xf 243∧Xk 243∧Xm 243∧Xn 243∧Xe 243:=by and_intros<;>first|rfl|exact fun _=>rfl
@[simp] theorem anw:X.clone 244=none∧X.fg 244=true∧X.dP 244=false∧X.low 244=false∧X.dI 244=[]∧Xt 244∧Xf 244∧Xk 244∧Xm 244∧Xn 244∧Xe 244:=by and_intros<;>first|rfl|exact fun _=>rfl
@[simp] theorem anx:Xd 257:=by and_intros<;>rfl
@[simp] theorem anz:Xd 258:=by and_intros<;>rfl
@[simp] theorem an0:Xd 259:=by and_intros<;>rfl
@[simp] theorem an1:Xd 260:=by and_intros<;>rfl
@[simp] theorem an2:Xd 261:=by and_intros<;>rfl
@[simp] theorem an3:Xl 262∧Xt 262∧Xf 262∧Xk 262∧Xm 262∧X.norm 262=FQ∧Xe 262:=by and_intros<;>first|rfl|exact fun _=>rfl
@[simp] theorem an4:Xd 263:=by and_intros<;>rfl
@[simp] theorem an5:X.clone 264=none∧X.fg 264=true∧X.dP 264=false∧X.low 264=false∧X.dI 264=[]∧Xt 264∧Xf 264∧(∀t:TypeId,X.dX 264 t=(t==110||t==112))∧Xm 264∧Xn 264∧X.uG 264=NG:=by and_intros<;>first|rfl|exact fun _=>rfl
@[simp] theorem an6:X.clone 265=none∧X.fg 265=true∧X.dP 265=false∧X.low 265=false∧X.dI 265=[]∧Xt 265∧Xf 265∧(∀t:TypeId,X.dX 265 t=(t==110||t==112))∧Xm 265∧Xn 265∧X.uG 265=NH:=by and_intros<;>first|rfl|exact fun _=>rfl
@[simp] theorem an7:Xd 266:=by and_intros<;>rfl
@[simp] theorem an8:Xl 267∧Xt 267∧Xf 267∧Xk 267∧Xm 267∧X.norm 267=FR∧Xe 267:=by and_intros<;>first|rfl|exact fun _=>rfl
@[simp] theorem an9:X.clone 268=none∧X.fg 268=true∧X.dP 268=false∧X.low 268=false∧X.dI 268=[]∧Xt 268∧Xf 268∧(∀t:TypeId,X.dX 268 t=(t==110||t==112))∧Xm 268∧Xn 268∧X.uG 268=NI:=by and_intros<;>first|rfl|exact fun _=>rfl
@[simp] theorem aoa:X.clone 270=none∧X.fg 270=true∧X.dP 270=false∧X.low 270=false∧X.dI 270=[]∧Xt 270∧Xf 270∧Xk 270∧Xm 270∧Xn 270∧X.uG 270=NJ:=by and_intros<;>first|rfl|exact fun _=>rfl
@[simp] theorem aob:Xl 287∧Xt 287∧Xf 287∧Xk 287∧Xm 287∧X.norm 287=FT∧Xe 287:=by and_intros<;>first|rfl|exact fun _=>rfl
@[simp] theorem aoc:Xd 288:=by and_intros<;>rfl
@[simp] theorem aod:Xd 289:=by and_intros<;>rfl
@[simp] theorem aoe:Xd 290:=by and_intros<;>rfl
@[simp] theorem aof:Xd 291:=by and_intros<;>rfl
@[simp] theorem aog:X.clone 292=none∧X.fg 292=true∧X.dP 292=false∧X.low 292=false∧X.dI 292=[]∧Xt 292∧Xf 292∧(∀t:TypeId,X.dX 292 t=(t==110||t==112))∧Xm 292∧Xn 292∧Xe 292:=by and_intros<;>first|rfl|exact fun _=>rfl
@[simp] theorem aoh:Xd 293:=by and_intros<;>rfl
@[simp] theorem aoi:X.clone 294=none∧X.fg 294=true∧X.dP 294=false∧X.low 294=false∧X.dI 294=[]∧Xt 294∧Xf 294∧(∀t:TypeId,X.dX 294 t=(t==110||t==112))∧Xm 294∧Xn 294∧Xe 294:=by and_intros<;>first|rfl|exact fun _=>rfl
@[simp] theorem aoj:Xd 299:=by and_intros<;>rfl
@[simp] theorem aok:Xd 300:=by and_intros<;>rfl
@[simp] theorem aol:Xd 301:=by and_intros<;>rfl
@[simp] theorem aom:Xd 302:=by and_intros<;>rfl
end Go.Proofs.YtdngefmliibcgaaGreat
namespace Go.Proofs.YtdngefmliibcgaaGreat
open Go Go.Abs Go.Abs.fJ
theorem wrap_i64{n:Int}(h: -9223372036854775808≤n∧n≤9223372036854775807):IntKind.i64.wrap n=n:=by
 simp only[IntKind.wrap,IntKind.signed,IntKind.bits,Bool.true_and];split<;>rename_i hc<;>simp at hc<;>omega
theorem dY(i:Nat)(h:(i:Int)+1≤9223372036854775807):IntKind.i64.wrap ((i:Int)+1)=(i:Int)+1:=wrap_i64 (by omega)
theorem GZ{α:Type}{a b:List α}{i:Nat}(h1:i<a.length)(h2:i<b.length)(h:a.take i=b.take i)(he:a[i]=b[i]):a.take (i+1)=b.take (i+1):=by
 rw[List.take_add_one,List.take_add_one,h];simp[h1,h2,he]
theorem Dn{α:Type}{a b:List α}{i:Nat}(h1: ¬i<a.length)(h2:a.length=b.length)(h:a.take i=b.take i):a=b:=by
 rwa[aQ (by omega),aQ (by omega)]at h
theorem gG{α:Type}{a:List α}{i:Nat}(h:i<a.length):a.take (i+1)=a.take i++ [a[i]]:=by
 rw[List.take_add_one];simp[h]
@[simp] theorem QL{α β:Type}(f:α→β)(l:List α):(l.map f).take l.length=l.map f:=by rw[←List.length_map (f:=f),List.take_length]
theorem Bw{α:Type}{p:α→Bool}{l:List α}{i:Nat}(h:i<l.length)(hp:p l[i]=false):l.all p=false:=by
 rw[←Bool.not_eq_true,List.all_eq_true];intro iG;have:=iG _ (List.getElem_mem h);rw[hp]at this;cases this
theorem sY{α:Type}{p:α→Bool}{l:List α}{i:Nat}(h:i<l.length):(l.take (i+1)).all p=((l.take i).all p&&p l[i]):=by
 rw[gG h,List.all_append];simp
noncomputable def Tp(X:Env)(fx:FuncId)(v:V)(d:Option Nat)(args:List V)(S:St):Option St:=match v with
 | .fn g first wk=>cX X (bt X) fx d g (first++args++wk) S
 |_=>none
@[simp] theorem Zi(X:Env)(fx g:FuncId)(a b:List V)(d:Option Nat)(args:List V)(S:St):Tp X fx (.fn g a b) d args S=cX X (bt X) fx d g (a++args++b) S:=rfl
section
variable {X:Env} {fx:FuncId} {bm:List (Option Nat)} {n0 kk n:Nat} {r:List Oper} {ff:Nat→V} {hp:aG} {K:St→Prop} {d:Nat} {ty:TypeId} {ps:String} {af:Array Edge}
@[simp ↓] theorem W8(d:Option Nat)(t:Nat)(args:Array Operand)(gq:Array TypeId):dq X fx bm n0 kk (⟨d,.call ⟨.value (.tmp t),args,gq⟩,ty,ps,af,none⟩::r) ⟨ff,hp,n⟩ K=
  iT (Go.Abs.mark (Tp X fx (ff t) d (args.toList.map (iP ff)) ⟨ff,hp,n⟩)) fun S1=>dq X fx bm n0 (kk+1) r ⟨S1.f,S1.h,S1.n⟩ K:=by
 rw[pB,show iP ff=(⟨ff,hp,n⟩:St).ev from sW ⟨ff,hp,n⟩];show iT (match(⟨ff,hp,n⟩:St).ev (.tmp t) with
  | .fn g first wk=>cX X (bt X) fx d g (first++args.toList.map (⟨ff,hp,n⟩:St).ev++wk) ⟨ff,hp,n⟩
  |_=>none) _=_
 rfl
end
@[simp ↓] theorem QM(X:Env)(aP:FuncId)(d:Nat)(t:TypeId)(a ix:Operand)(ty:TypeId)(ps:String)(af:Array Edge)(g:Option (Nat×Bool))(S1 T:St)(m:Nat):Pw X aP (some ⟨some d,.indexAddr t a ix,ty,ps,af,g⟩) S1 T m=
  ∃v,(match iP S1.f ix with
  | .int _ n=>match iP S1.f a with
   | .sl _ es=>if(0≤n∧n<es.length)∧(X.ti t).arr=none then(match es[n.toNat]? with|some e=>if e.cells.length=(X.ti (X.ti t).elem).size then some ((.ref e.cells),T.h,m) else none|none=>none) else none
   | .bJ id s l=>if(0≤n∧n<l)∧(X.ti t).arr=none then(match T.h id with|some ob=>if ob.k=(X.ti (X.ti t).elem).size then some ((.ptr id (s+n.toNat) 0),T.h,m) else none|none=>none) else none
   | .ptr id j f=>match(X.ti t).arr with
    |some k=>if 0≤n∧n<k then some ((.ptr id j (f+n.toNat*(X.ti (X.ti t).elem).size)),T.h,m) else none
    |none=>none
   |_=>none
  |_=>none)=some (v,T.h,m)∧S1.f d=v:=by
 unfold Pw;rw[sW];apply propext;constructor
 ·rintro⟨o,v,h,h1,h2⟩;simp only[aa]at h;subst h;exact⟨v,h1,h2 d rfl⟩
 ·rintro⟨v,h1,h2⟩;refine⟨_,v,rfl,h1,fun d' h=> ?_⟩;simp only[aa]at h;subst h;exact h2
@[simp ↓] theorem Zj(X:Env)(aP:FuncId)(d:Nat)(t':TypeId)(x':Operand)(Ff nh Mq:Option Operand)(ty:TypeId)(ps:String)(af:Array Edge)(g:Option (Nat×Bool))(S1 T:St)(m:Nat):Pw X aP (some ⟨some d,.slice t' x' Ff nh Mq,ty,ps,af,g⟩) S1 T m=
  ∃v,(if((iP S1.f) x').isStr=(X.ti t').isStr∧((iP S1.f) x').tQ=(X.ti t').arr.isSome then
   match(iP S1.f) x' with
   | .sl _ es=>
    if es.all (fun e=>e.cells.length==(X.ti (X.ti t').elem).size) then
     match Mq with
     |none=>match bounds (Ff.map (iP S1.f)) (nh.map (iP S1.f)) es.length with|some (l,h)=>some ((.sl false ((es.take h).drop l)),T.h,m)|none=>none
     |some mm=>match(iP S1.f) mm,nh.map (iP S1.f) with
      | .int _ p,some (.int _ q)=>if p=q then(match bounds (Ff.map (iP S1.f)) (nh.map (iP S1.f)) es.length with|some (l,h)=>some ((.sl true ((es.take h).drop l)),T.h,m)|none=>none) else none
      |_,_=>none
    else none
   | .bJ id s n=>
    match Mq,T.h id with
    |none,some ob=>if ob.k=(X.ti (X.ti t').elem).size then(match bounds (Ff.map (iP S1.f)) (nh.map (iP S1.f)) n with|some (l,h)=>some ((.bJ id (s+l) (h-l)),T.h,m)|none=>none) else none
    |some mm,some ob=>if ob.k=(X.ti (X.ti t').elem).size then(match(iP S1.f) mm,nh.map (iP S1.f) with
      | .int _ p,some (.int _ q)=>if p=q then(match bounds (Ff.map (iP S1.f)) (nh.map (iP S1.f)) n with|some (l,h)=>some ((.bJ id (s+l) (h-l)),T.h,m)|none=>none) else none
      |_,_=>none) else none
    |_,none=>none
   | .str s=>match Mq with
    |none=>match bounds (Ff.map (iP S1.f)) (nh.map (iP S1.f)) s.length with|some (l,h)=>some ((.str ((s.take h).drop l)),T.h,m)|none=>none
    |some _=>none
   | .ptr id 0 0=>match Mq,Ff,nh,(X.ti t').arr,T.h id with
    |none,none,none,some mm,some ob=>match ob.es with
     | [e]=>if e.cells.all V.jW=true∧e.cells.length=mm∧(X.ti (X.ti t').elem).size=1∧0<mm then some (.sl true e.cells,aS T.h id none,m) else none
     |_=>none
    |_,_,_,_,_=>none
   |_=>none
  else none)=some (v,T.h,m)∧S1.f d=v:=by
 unfold Pw;rw[sW];apply propext;constructor
 ·rintro⟨o,v,h,h1,h2⟩;simp only[aa]at h;subst h;exact⟨v,h1,h2 d rfl⟩
 ·rintro⟨v,h1,h2⟩;refine⟨_,v,rfl,h1,fun d' h=> ?_⟩;simp only[aa]at h;subst h;exact h2
def NT(X:Env)(f:FuncId)(b:Code)(Q:Ex→St→Prop):Ex→St→Prop
 | .normal,S=>Wp X f (.loop b) S Q
 |e,S=>Q e S
@[simp ↓] theorem QN(X:Env)(f:FuncId)(b:Code)(Q:Ex→St→Prop)(S:St):NT X f b Q .normal S=Wp X f (.loop b) S Q:=rfl
@[simp ↓] theorem Vu(X:Env)(f:FuncId)(b:Code)(Q:Ex→St→Prop)(S:St)(i:Nat):NT X f b Q (.exit i) S=Q (.exit i) S:=rfl
theorem jv{X:Env}{f:FuncId}{b:Code}{S:St}{Q:Ex→St→Prop}:Wp X f (.loop b) S Q=iT (Go.Abs.mark (jH X f (2*eY b+1) S)) fun S1=>Wp X f b S1 (NT X f b Q):=by
 unfold Wp Go.Abs.mark;rw[Bi];cases hn:jH X f (2*eY b+1) S with
 |none=>simp[iT]
 |some S1=>
  simp only[iT];apply propext;constructor
  ·rintro⟨e,S2,h,hq⟩;cases hb:ev X f b S1 with
   |none=>rw[hb]at h;cases h
   |some x=>
    obtain⟨e3,S3⟩:=x;rw[hb]at h;refine⟨e3,S3,rfl,?_⟩;cases e3 with
    |normal=>exact⟨e,S2,h,hq⟩
    |exit i=>
     simp only[aa,ax]at h;obtain⟨rfl,rfl⟩:=h;exact hq
    |ret=>
     simp only[aa,ax]at h;obtain⟨rfl,rfl⟩:=h;exact hq
  ·rintro⟨e,S2,h,hq⟩;rw[h];cases e with
   |normal=>
    obtain⟨e3,S3,h3,hq3⟩:=hq;exact⟨e3,S3,h3,hq3⟩
   |exit i=>exact⟨_,_,rfl,hq⟩
   |ret=>exact⟨_,_,rfl,hq⟩
theorem pD{v n:Int}(h:0<n):v % n=if v.tmod n<0 then v.tmod n+n else v.tmod n:=by
 have h1:=Int.emod_nonneg v (show n≠0 by omega);have h2:=Int.emod_lt_of_pos v h;rcases Int.lt_or_le v 0 with hv|hv
 ·have e:=Int.tmod_eq_emod (a:=v) (b:=n);by_cases hd:n∣v
  ·have:v % n=0:=Int.emod_eq_zero_of_dvd hd;rw[if_pos (.inr hd),this]at e;rw[e,this];simp
  ·rw[if_neg (by
    rintro(h|h)
    ·omega
    ·exact hd h)]at e
   have eZ:v % n≠0:=fun h=>hd (Int.dvd_of_emod_eq_zero h);rw[e,Int.natAbs_of_nonneg (by omega),if_pos (by omega)];omega
 ·rw[Int.tmod_eq_emod_of_nonneg hv,if_neg (by omega)]
def total(l:List Int):Int:=l.foldl (· + ·) 0
theorem nP(l:List Int)(x:Int):total (l++ [x])=total l+x:=by simp[total]
def At(n:Int):Bool:=decide (1≤n∧n≤32)
def je(l:List Int):Bool:=l.all At&& (decide (1≤l.length)&&decide (l.length≤4))
def inside(aq:List Int)(r o:Int):Bool:=decide (0≤r∧r<aq.length∧0≤o∧o<aq.getD r.toNat 0)
structure rf (l:List Int):Prop where
 elem: ∀i (h:i<l.length),1≤l[i]∧l[i]≤32
 pos:1≤l.length
 le:l.length≤4
theorem kR{l:List Int}:je l=true↔rf l:=by
 unfold je;simp only[Bool.and_eq_true,decide_eq_true_eq,List.all_eq_true];constructor
 ·rintro⟨h1,h2,h3⟩;exact⟨fun i h=>by simpa[At] using h1 _ (List.getElem_mem h),h2,h3⟩
 ·rintro⟨h1,h2,h3⟩;refine⟨fun x hx=> ?_,h2,h3⟩;obtain⟨i,h,rfl⟩:=List.getElem_of_mem hx;simpa[At] using h1 i h
def nth(l:List Int)(i:Nat):Int:=l.getD i 0
theorem db{l:List Int}{i:Nat}(h:i<l.length):nth l i=l[i]:=by simp[nth,List.getD,h]
def qg(aE aq:List Int)(i:Nat):Bool:=decide (0≤nth aE i∧nth aE i≤512-nth aq i)&& (List.range i).all fun j=> !(decide (nth aE j≤nth aE i+nth aq i)&&decide (nth aE i≤nth aE j+nth aq j))
def gQ(aE aq:List Int):Bool:=je aq&& (decide (aE.length=aq.length)&& (List.range aE.length).all (qg aE aq))
structure pE (aE aq:List Int):Prop where
 sz:rf aq
 len:aE.length=aq.length
 base: ∀i (h:i<aE.length) (h':i<aq.length),0≤aE[i]∧aE[i]≤512-aq[i]
 apart: ∀i j (h:i<aE.length) (h':i<aq.length) (g:j<aE.length) (g':j<aq.length),i≠j→aE[i]+aq[i]<aE[j]∨aE[j]+aq[j]<aE[i]
theorem ln{aE aq:List Int}:gQ aE aq=true↔pE aE aq:=by
 unfold gQ;simp only[Bool.and_eq_true,decide_eq_true_eq,List.all_eq_true,kR,List.mem_range,qg,Bool.not_eq_true',Bool.and_eq_false_iff,decide_eq_false_iff_not];constructor
 ·rintro⟨h1,h2,h3⟩;have ap: ∀i j (h:i<aE.length) (h':i<aq.length) (g:j<aE.length) (g':j<aq.length),j<i→aE[i]+aq[i]<aE[j]∨aE[j]+aq[j]<aE[i]:=by
   intro i j h h' g g' mN;have:=(h3 i h).2 j mN;rw[db h,db h',db g,db g']at this;omega
  refine⟨h1,h2,fun i h h'=> ?_,fun i j h h' g g' eZ=> ?_⟩
  ·have:=(h3 i h).1;rwa[db h,db h']at this
  ·rcases Nat.lt_or_gt_of_ne eZ with hh|hh
   ·have:=ap j i g g' h h' hh;omega
   ·exact ap i j h h' g g' hh
 ·rintro⟨h1,h2,h3,h4⟩;refine⟨h1,h2,fun i h=>⟨?_,fun j hj=> ?_⟩⟩
  ·rw[db h,db (h2▸h)];exact h3 i h (h2▸h)
  ·have hj1:j<aE.length:=by omega
   rw[db h,db (show i<aq.length by omega),db hj1,db (show j<aq.length by omega)];have:=h4 i j h (by omega) hj1 (by omega) (by omega);omega
def j7:List Int→Int→Nat→um×Int
 | [],_,_=>(⟨0,0⟩,6)
 |n::l,i,r=>if 0≤i∧i<n then(⟨r,i⟩,0) else j7 l (i-n) (r+1)
def oF:List Int→List Int→Int→Nat→um×Bool
 |b::bs,z::zs,a,r=>if b≤a∧a<b+z then(⟨r,a-b⟩,true) else oF bs zs a (r+1)
 |_,_,_,_=>(⟨0,0⟩,false)
def resolve(aE aq:List Int)(a:Int):um×Bool:=oF aE aq a 0
def canon(aE:List Int)(key:Int)(aq:List Int)(c:Cell):Canon:=
 if c.tag=0 then⟨0,c.val,0,0⟩ else if c.tag=2 then⟨2,IntKind.u16.wrap (c.val-key),0,0⟩ else
 if(resolve aE aq c.val).2=true then⟨1,0,(resolve aE aq c.val).1.region,(resolve aE aq c.val).1.offset⟩ else⟨1,0, -1,c.val⟩
theorem drop_cons{α:Type}{l:List α}{i:Nat}(h:i<l.length):l.drop i=l[i]::l.drop (i+1):=List.drop_eq_getElem_cons h
theorem lY{aq:List Int}{r o:Int}:inside aq r o=true↔ ∃k,∃h:k<aq.length,r=(k:Int)∧0≤o∧o<aq[k]:=by
 unfold inside;simp only[decide_eq_true_eq];constructor
 ·rintro⟨h1,h2,h3,h4⟩;refine⟨r.toNat,by omega,by omega,h3,?_⟩;have:r.toNat<aq.length:=by omega
  simpa[List.getD,this] using h4
 ·rintro⟨k,h,rfl,h3,h4⟩;refine⟨by omega,by omega,h3,?_⟩;simpa[List.getD,h] using h4
@[simp] theorem aik:IntKind.i64.wrap 0=0:=by decide
@[simp] theorem ail:IntKind.i64.wrap 1=1:=by decide
@[simp] theorem aim:IntKind.i64.wrap 2=2:=by decide
@[simp] theorem ain:IntKind.i64.wrap 3=3:=by decide
@[simp] theorem aio:IntKind.i64.wrap 4=4:=by decide
@[simp] theorem aip:IntKind.i64.wrap 5=5:=by decide
@[simp] theorem aiq:IntKind.i64.wrap 8=8:=by decide
theorem Zl{α:Type}{l:List α}(h:l.length=1): ∃a,l=[a]:=List.length_eq_one_iff.1 h
theorem Vz{α:Type}{l:List α}{n:Nat}(h:l.length=n+1): ∃a r,l=a::r∧r.length=n:=by
 cases l with
 |nil=>cases h
 |cons a r=>exact⟨a,r,rfl,by simpa using h⟩
theorem Zm{α:Type}{l:List α}(h:l.length=2): ∃a b,l=[a,b]:=by
 obtain⟨a,r1,e1,h1⟩:=Vz h;obtain⟨b,e2⟩:=Zl h1;exact⟨a,b,by rw[e1,e2]⟩
theorem Zn{α:Type}{l:List α}(h:l.length=3): ∃a b c,l=[a,b,c]:=by
 obtain⟨a,r1,e1,h1⟩:=Vz h;obtain⟨b,c,e2⟩:=Zm h1;exact⟨a,b,c,by rw[e1,e2]⟩
theorem Zo{α:Type}{l:List α}(h:l.length=4): ∃a b c d,l=[a,b,c,d]:=by
 obtain⟨a,r1,e1,h1⟩:=Vz h;obtain⟨b,c,d,e2⟩:=Zn h1;exact⟨a,b,c,d,by rw[e1,e2]⟩
theorem yn{α:Type}{f:α→V}{hx:aG}(h: ∀x,aX hx 12 (f x)=some (f x)): ∀l:List α,aY (l.map (aX hx 12∘f))=some (l.map f)
 | []=>rfl
 |a::l=>by simp[aY,h a,yn h l]
theorem nu{α:Type}{f:α→V}(h: ∀x,(f x).fo=f x): ∀l:List α,cG (l.map f)=l.map f
 | []=>rfl
 |a::l=>by simp[cG,h a,nu h l]
theorem zL{α:Type}{f:α→V}{l:List α}{i:Nat}(h:i<l.length):List.take i (List.take i (l.map f))++ [f l[i]]=List.take (i+1) (l.map f):=by
 rw[List.take_take,Nat.min_self,List.take_add_one];simp[h]
end Go.Proofs.YtdngefmliibcgaaGreat
