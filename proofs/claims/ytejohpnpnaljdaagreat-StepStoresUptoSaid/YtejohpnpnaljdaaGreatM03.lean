/- Part of a proof: T1. -/
import Derived.Test.YtejohpnpnaljdaaGreatM01
import Derived.Test.YtejohpnpnaljdaaGreatM02
import Derived.Test.YtejohpnpnaljdaaGreatProg
set_option linter.all false
set_option maxRecDepth 20000
set_option maxHeartbeats 20000000
namespace Go.Proofs.YtejohpnpnaljdaaGreat
open Go Go.Abs
def ti:TypeId->TI
 |3=>⟨1,8,false,.int .i64 0,0,[],none,some .i64,[0]⟩
 |4=>⟨1,1,false,.bool false,0,[],none,none,[1]⟩
 |5=>⟨1,1,false,.int .u8 0,0,[],none,some .u8,[0]⟩
 |9=>⟨1,16,false,.str [],0,[],none,none,[2]⟩
 |22=>⟨1,24,false,.sl true [],3,[],none,none,[]⟩
 |23=>⟨1,2,false,.int .u16 0,0,[],none,some .u16,[0]⟩
 |25=>⟨2,32,true,.agg [.sl true [],.int .u16 0],0,[(0,1),(1,1)],none,none,[]⟩
 |26=>⟨1,24,false,.sl true [],56,[],none,none,[]⟩
 |27=>⟨1,24,false,.sl true [],102,[],none,none,[]⟩
 |29=>⟨2,48,true,.agg [.sl true [],.sl true []],0,[(0,1),(1,1)],none,none,[]⟩
 |30=>⟨1,24,false,.sl true [],52,[],none,none,[]⟩
 |32=>⟨5,104,true,.agg [.sl true [],.int .u16 0,.sl true [],.sl true [],.sl true []],0,[(0,2),(2,2),(4,1)],none,none,[]⟩
 |37=>⟨1,24,false,.sl true [],77,[],none,none,[]⟩
 |38=>⟨1,24,false,.sl true [],135,[],none,none,[]⟩
 |40=>⟨3,72,true,.agg [.sl true [],.sl true [],.sl true []],0,[(0,1),(1,1),(2,1)],none,none,[]⟩
 |45=>⟨1,24,false,.sl true [],22,[],none,none,[]⟩
 |46=>⟨1,8,false,.int .i64 0,0,[],none,some .i64,[0]⟩
 |52=>⟨8,80,true,.agg [.int .i64 0,.sl true [],.int .i64 0,.int .i64 0,.int .i64 0,.int .i64 0,.int .i64 0,.int .u16 0],0,[(0,1),(1,1),(2,1),(3,1),(4,1),(5,1),(6,1),(7,1)],none,none,[]⟩
 |56=>⟨2,4,true,.agg [.int .u8 0,.int .u16 0],0,[(0,1),(1,1)],none,none,[0,0]⟩
 |58=>⟨2,16,true,.agg [.int .i64 0,.int .i64 0],0,[(0,1),(1,1)],none,none,[0,0]⟩
 |63=>⟨1,24,false,.sl true [],84,[],none,none,[]⟩
 |64=>⟨1,24,false,.sl true [],124,[],none,none,[]⟩
 |66=>⟨2,48,true,.agg [.sl true [],.sl true []],0,[(0,1),(1,1)],none,none,[]⟩
 |77=>⟨5,40,true,.agg [.int .i64 0,.int .i64 0,.int .i64 0,.int .i64 0,.int .i64 0],0,[(0,1),(1,1),(2,1),(3,1),(4,1)],none,none,[0,0,0,0,0]⟩
 |79=>⟨4,4,true,.agg [.bool false,.bool false,.bool false,.bool false],4,[],some 4,none,[9]⟩
 |84=>⟨1,24,false,.sl true [],86,[],none,none,[]⟩
 |86=>⟨4,24,true,.agg [.int .u8 0,.int .u16 0,.int .i64 0,.int .i64 0],0,[(0,1),(1,1),(2,1),(3,1)],none,none,[0,0,0,0]⟩
 |90=>⟨8,96,true,.agg [.int .i64 0,.int .i64 0,.int .i64 0,.int .i64 0,.int .i64 0,.int .i64 0,.sl true [],.sl true []],0,[(0,1),(1,1),(2,1),(3,1),(4,1),(5,1),(6,1),(7,1)],none,none,[]⟩
 |99=>⟨1,24,false,.sl true [],90,[],none,none,[]⟩
 |102=>⟨3,40,true,.agg [.int .i64 0,.bool false,.sl true []],0,[(0,1),(1,1),(2,1)],none,none,[]⟩
 |106=>⟨2,32,true,.agg [.sl true [],.int .i64 0],0,[(0,1),(1,1)],none,none,[]⟩
 |110=>⟨1,8,false,.qs,32,[],none,none,[3]⟩
 |111=>⟨1,8,false,.qs,52,[],none,none,[3]⟩
 |113=>⟨5,88,true,.agg [.sl true [],.sl true [],.sl true [],.qs,.qs],0,[(0,3),(3,1),(4,1)],none,none,[]⟩
 |124=>⟨8,80,true,.agg [.int .i64 0,.int .i64 0,.int .i64 0,.int .i64 0,.int .i64 0,.int .i64 0,.int .u16 0,.sl true []],0,[(0,1),(1,1),(2,1),(3,1),(4,1),(5,1),(6,1),(7,1)],none,none,[]⟩
 |135=>⟨1,24,false,.sl true [],23,[],none,none,[]⟩
 |136=>⟨1,24,false,.sl true [],271,[],none,none,[]⟩
 |138=>⟨2,48,true,.agg [.sl true [],.sl true []],0,[(0,1),(1,1)],none,none,[]⟩
 |139=>⟨1,24,false,.sl true [],254,[],none,none,[]⟩
 |141=>⟨6,144,true,.agg [.sl true [],.sl true [],.sl true [],.sl true [],.sl true [],.sl true []],0,[(0,1),(1,1),(2,1),(3,2),(5,1)],none,none,[]⟩
 |143=>⟨2,48,true,.agg [.sl true [],.sl true []],0,[(0,1),(1,1)],none,none,[]⟩
 |144=>⟨1,24,false,.sl true [],233,[],none,none,[]⟩
 |146=>⟨18,416,true,.agg [.sl true [],.sl true [],.sl true [],.sl true [],.int .u16 0,.sl true [],.sl true [],.sl true [],.sl true [],.sl true [],.sl true [],.sl true [],.sl true [],.sl true [],.sl true [],.sl true [],.sl true [],.sl true []],0,[(0,3),(3,5),(8,6),(14,2),(16,1),(17,1)],none,none,[]⟩
 |159=>⟨1,24,false,.sl true [],5,[],none,none,[]⟩
 |165=>⟨1,24,false,.sl true [],9,[],none,none,[]⟩
 |194=>⟨3,24,true,.agg [.int .i64 0,.int .i64 0,.bool false],0,[(0,1),(1,1),(2,1)],none,none,[0,0,1]⟩
 |231=>⟨7,64,true,.agg [.int .u8 0,.int .u16 0,.int .i64 0,.int .i64 0,.sl true [],.int .i64 0,.bool false],0,[(0,4),(4,1),(5,1),(6,1)],none,none,[]⟩
 |233=>⟨18,184,true,.agg [.int .i64 0,.int .i64 0,.int .i64 0,.int .i64 0,.int .i64 0,.int .i64 0,.int .i64 0,.int .i64 0,.int .i64 0,.sl true [],.sl true [],.int .u8 0,.int .u16 0,.int .i64 0,.int .i64 0,.sl true [],.int .i64 0,.bool false],0,[(0,1),(1,1),(2,1),(3,8),(11,7)],none,none,[]⟩
 |245=>⟨2,2,true,.agg [.int .u8 0,.int .u8 0],0,[(0,1),(1,1)],none,none,[0,0]⟩
 |249=>⟨4,4,true,.agg [.bool false,.bool false,.bool false,.bool false],0,[(0,1),(1,1),(2,1),(3,1)],none,none,[1,1,1,1]⟩
 |252=>⟨1,24,false,.sl true [],37,[],none,none,[]⟩
 |254=>⟨3,40,true,.agg [.int .i64 0,.int .i64 0,.sl true []],0,[(0,1),(1,1),(2,1)],none,none,[]⟩
 |271=>⟨3,24,true,.agg [.int .i64 0,.int .i64 0,.bool false],0,[(0,1),(1,1),(2,1)],none,none,[0,0,1]⟩
 |_=>default
attribute [simp] ti.eq_1 ti.eq_2 ti.eq_3 ti.eq_4 ti.eq_5 ti.eq_6 ti.eq_7 ti.eq_8 ti.eq_9 ti.eq_10 ti.eq_11 ti.eq_12 ti.eq_13 ti.eq_14 ti.eq_15 ti.eq_16 ti.eq_17 ti.eq_18 ti.eq_19 ti.eq_20 ti.eq_21 ti.eq_22 ti.eq_23 ti.eq_24 ti.eq_25 ti.eq_26 ti.eq_27 ti.eq_28 ti.eq_29 ti.eq_30
attribute [simp] ti.eq_31 ti.eq_32 ti.eq_33 ti.eq_34 ti.eq_35 ti.eq_36 ti.eq_37 ti.eq_38 ti.eq_39 ti.eq_40 ti.eq_41 ti.eq_42 ti.eq_43 ti.eq_44 ti.eq_45 ti.eq_46 ti.eq_47 ti.eq_48 ti.eq_49 ti.eq_50 ti.eq_51 ti.eq_52 ti.eq_53
def cl:FuncId->Option TypeId
 |152=>some 26
 |182=>some 22
 |183=>some 27
 |_=>none
def byL(n:FuncId):Bool:=[19,63,64,65,111,112,113,115,116,136,155,156,158,185,202,203,206,212,213].contains n
def ioL(n:FuncId):Bool:=[20,21,37,44,45,57,86,88,89,90,104,132,134,135,137,165,166,167,179,180,201].contains n
def as7(n:FuncId):Bool:=[3,5,6,7,8,9,10,11,12,13,15,16,17,25,26,27,28,30,31,32,33,44,45,47,52,55,56,57,61,66,68,69,70,71,73,74,75,77,79,81,82,93,96,100,104,107,108,118,119,121,123,124,127,132,138,139,146,164,165,166,170,171,173,181,194,195,196,198,199,201,204,210,215,218,222].contains n
def thL:FuncId->Nat->Bool
 |24,d=>d==36
 |29,d=>d==17
 |36,d=>d==33
 |40,d=>d==16
 |44,d=>d==22
 |63,d=>d==22
 |94,d=>d==9
 |109,d=>d==11
 |136,d=>d==16
 |165,d=>d==8
 |167,d=>d==102||d==113||d==134
 |202,d=>d==51||d==77
 |209,d=>d==14
 |210,d=>d==72
 |212,d=>d==221
 |213,d=>d==54
 |216,d=>d==15
 |_,_=>false
def kpL:FuncId->TypeId->Bool
 |24,t=>t==52||t==102
 |29,t=>t==84||t==124
 |36,t=>t==52||t==102
 |40,t=>t==52||t==102
 |44,t=>t==84||t==124
 |63,t=>t==52||t==102
 |64,t=>t==52||t==102
 |65,t=>t==52||t==102
 |72,t=>t==84
 |87,t=>t==52||t==102
 |109,t=>t==52||t==102
 |111,t=>t==52||t==102
 |112,t=>t==52||t==102
 |113,t=>t==52||t==102
 |115,t=>t==52||t==102
 |116,t=>t==52||t==102
 |151,t=>t==52||t==102
 |155,t=>t==52||t==102
 |156,t=>t==52||t==102
 |158,t=>t==52||t==102
 |179,t=>t==52
 |180,t=>t==52
 |185,t=>t==52||t==102
 |197,t=>t==84
 |202,t=>t==52||t==102
 |206,t=>t==52||t==102
 |207,t=>t==22
 |209,t=>t==22
 |212,t=>t==52||t==102
 |213,t=>t==52||t==102
 |216,t=>t==84
 |_,_=>false
@[simp] def mkR6(d:Nat):Mask:=if d=48 then [(0,4,52)] else if d=55 then [(0,4,52)] else []
@[simp] def as8(d:Nat):Mask:=if d=101 then [(0,4,52)] else []
@[simp] def alc(d:Nat):Mask:=if d=46 then [(0,4,52)] else []
@[simp] def ald(d:Nat):Mask:=if d=23 then [(1,4,52)] else []
@[simp] def mkR14(d:Nat):Mask:=if d=47 then [(0,4,52)] else if d=54 then [(0,4,52)] else []
@[simp] def ale(d:Nat):Mask:=if d=93 then [(0,6,86),(0,7,86)] else []
@[simp] def aa0(d:Nat):Mask:=if d=8 then [(1,4,52)] else []
@[simp] def aa1(d:Nat):Mask:=if d=13 then [(0,7,52)] else if d=96 then [(0,4,52)] else []
@[simp] def alf(d:Nat):Mask:=if d=12 then [(1,4,52)] else []
@[simp] def alg(d:Nat):Mask:=if d=22 then [(0,4,52)] else []
@[simp] def aa2(d:Nat):Mask:=if d=24 then [(0,4,52)] else []
@[simp] def aa3(d:Nat):Mask:=if d=19 then [(0,7,52)] else []
@[simp] def Tg(d:Nat):Mask:=if d=14 then [(0,4,52)] else []
@[simp] def Th(d:Nat):Mask:=if d=39 then [(0,16,233),(0,17,3)] else if d=52 then [(0,4,52)] else if d=70 then [(0,4,52)] else []
@[simp] def Ti(d:Nat):Mask:=if d=9 then [(0,4,52)] else []
@[simp] def Tj(d:Nat):Mask:=if d=11 then [(0,0,3),(0,1,22)] else []
@[simp] def Tk(d:Nat):Mask:=if d=18 then [(0,1,22)] else []
@[simp] def Tl(d:Nat):Mask:=if d=15 then [(0,1,271)] else []
@[simp] def Tm(d:Nat):Mask:=if d=12 then [(0,0,84),(0,1,271)] else []
@[simp] def Tn(d:Nat):Mask:=if d=8 then [(0,1,271)] else []
@[simp] def To(d:Nat):Mask:=if d=10 then [(0,1,271)] else []
@[simp] def Tp(d:Nat):Mask:=if d=11 then [(0,0,254)] else []
@[simp] def Tq(d:Nat):Mask:=if d=15 then [(0,0,135)] else []
@[simp] def Ts(d:Nat):Mask:=if d=6 then [(0,1,56)] else []
def mkL:FuncId->Nat->Mask
 |6=>mkR6
 |8=>as8
 |10=>alc
 |11=>ald
 |14=>mkR14
 |16=>ale
 |20=>aa0
 |44=>aa1
 |45=>alf
 |46=>alg
 |47=>aa2
 |88=>aa3
 |133=>Tg
 |136=>Th
 |178=>Ti
 |200=>Tj
 |204=>Tk
 |217=>Tl
 |218=>Tm
 |219=>Tn
 |220=>To
 |221=>Tp
 |222=>Tq
 |224=>Ts
 |_=>fun _=> []
def omL:FuncId->Mask
 |179=> [(0,16,233),(0,17,3),(0,7,52)]
 |180=> [(0,16,233),(0,17,3),(0,7,52)]
 |201=> [(0,16,233),(0,17,3),(0,7,52)]
 |_=> []
@[simp] def alh(k:Nat):Option Norm:=if k=13 then some ⟨[4,10,11,57,58,59],[⟨.box 4,4,0,false⟩,⟨.box 10,10,0,false⟩,⟨.box 11,11,0,false⟩],false,1100⟩ else none
@[simp] def ali(k:Nat):Option Norm:=if k=23 then some ⟨[5,6,7,76,77,78],[⟨.box 5,5,0,false⟩,⟨.box 6,6,0,false⟩,⟨.box 7,7,0,false⟩],false,1100⟩ else none
@[simp] def alj(k:Nat):Option Norm:=if k=23 then some ⟨[2,7,12,14,64],[⟨.box 7,7,0,false⟩,⟨.box 12,12,0,false⟩,⟨.box 14,14,0,false⟩],false,1100⟩ else none
@[simp] def alk(k:Nat):Option Norm:=if k=17 then some ⟨[2,3,7,8,9,47],[⟨.box 3,3,0,false⟩,⟨.box 8,8,0,false⟩,⟨.box 9,9,0,false⟩,⟨.box 7,7,0,false⟩],false,1100⟩ else none
@[simp] def alm(k:Nat):Option Norm:=if k=9 then some ⟨[1,5,6,7,27],[⟨.box 6,6,0,false⟩,⟨.box 7,7,0,false⟩,⟨.box 5,5,0,false⟩],false,1100⟩ else if k=58 then some ⟨[1,5,6,7,11,12,27],[⟨.box 6,6,0,false⟩,⟨.box 7,7,0,false⟩,⟨.box 11,11,0,false⟩,⟨.box 12,12,0,false⟩,⟨.box 5,5,0,false⟩],false,1100⟩ else none
@[simp] def aln(k:Nat):Option Norm:=if k=19 then some ⟨[1,5,6,7,8,10,11],[⟨.box 5,5,0,false⟩,⟨.box 6,6,0,false⟩,⟨.box 7,7,0,false⟩,⟨.box 10,10,0,false⟩],false,1100⟩ else none
@[simp] def aa4(k:Nat):Option Norm:=if k=7 then some ⟨[3,4,18],[⟨.box 3,3,0,false⟩,⟨.box 4,4,0,false⟩],false,1100⟩ else if k=24 then some ⟨[3,4,5,9,10],[⟨.box 3,3,0,false⟩,⟨.box 4,4,0,false⟩,⟨.box 5,5,0,false⟩,⟨.box 9,9,0,false⟩,⟨.box 10,10,0,false⟩],false,1100⟩ else none
@[simp] def aa5(k:Nat):Option Norm:=if k=21 then some ⟨[6,7,8,9,10,11,58],[⟨.box 6,6,0,false⟩,⟨.box 7,7,0,false⟩,⟨.box 10,10,0,false⟩,⟨.box 11,11,0,false⟩],false,1100⟩ else if k=41 then some ⟨[6,7,8,9,10,15,16,98,99],[⟨.box 6,6,0,false⟩,⟨.box 7,7,0,false⟩,⟨.box 10,10,0,false⟩,⟨.box 15,15,0,false⟩,⟨.box 16,16,0,false⟩],false,1100⟩ else if k=47 then some ⟨[6,7,8,9,10,15,16,17,98,99,107,108],[⟨.box 6,6,0,false⟩,⟨.box 7,7,0,false⟩,⟨.box 10,10,0,false⟩,⟨.box 15,15,0,false⟩,⟨.box 16,16,0,false⟩],false,1100⟩ else none
@[simp] def aa6(k:Nat):Option Norm:=if k=15 then some ⟨[2,3,4,9,10,11,12,13,50],[⟨.box 4,4,0,false⟩,⟨.box 10,10,0,false⟩,⟨.box 11,11,0,false⟩,⟨.box 12,12,0,false⟩,⟨.box 13,13,0,false⟩],false,1100⟩ else none
@[simp] def aa7(k:Nat):Option Norm:=if k=7 then some ⟨[3,16],[],false,1100⟩ else if k=39 then some ⟨[3,7,10,16,139,140,141],[⟨.box 7,7,0,false⟩,⟨.box 10,10,0,false⟩],false,1100⟩ else none
@[simp] def aa8(k:Nat):Option Norm:=if k=7 then some ⟨[3,14],[],false,1100⟩ else if k=31 then some ⟨[3,4,5,6,14,101,102,103],[⟨.box 4,4,0,false⟩,⟨.box 5,5,0,false⟩,⟨.box 6,6,0,false⟩],false,1100⟩ else none
@[simp] def aa9(k:Nat):Option Norm:=if k=11 then some ⟨[3,4,5,11,41,42,43],[⟨.box 5,5,0,false⟩],false,1100⟩ else if k=23 then some ⟨[3,4,5,11,60],[⟨.box 5,5,0,false⟩],false,1100⟩ else if k=81 then some ⟨[19,159,160,161],[⟨.box 19,19,0,false⟩],false,1100⟩ else none
@[simp] def aba(k:Nat):Option Norm:=if k=5 then some ⟨[1,8,9,10],[⟨.box 1,1,0,false⟩],false,1100⟩ else if k=17 then some ⟨[1,21,22,23],[⟨.box 1,1,0,false⟩],false,1100⟩ else none
@[simp] def Tt(k:Nat):Option Norm:=if k=9 then some ⟨[2,3,31,32],[⟨.box 2,2,0,false⟩,⟨.box 3,3,0,false⟩],false,1100⟩ else none
@[simp] def Tu(k:Nat):Option Norm:=if k=9 then some ⟨[2,3,22,23],[⟨.box 2,2,0,false⟩,⟨.box 3,3,0,false⟩],false,1100⟩ else none
@[simp] def Tv(k:Nat):Option Norm:=if k=5 then some ⟨[1,2,6,11,12,13],[⟨.box 6,6,0,false⟩],false,1100⟩ else none
@[simp] def Tw(k:Nat):Option Norm:=if k=9 then some ⟨[31,32,33],[],false,1100⟩ else none
@[simp] def abb(k:Nat):Option Norm:=if k=5 then some ⟨[8,9,10],[],false,1100⟩ else if k=11 then some ⟨[8,9,10,14,15,16],[],false,1100⟩ else none
@[simp] def Tx(k:Nat):Option Norm:=if k=15 then some ⟨[0,1,4,6,7,8,36,37],[⟨.box 4,4,0,false⟩,⟨.box 7,7,0,false⟩,⟨.cell 7 0,1000,1,false⟩],false,1101⟩ else none
@[simp] def Ty(k:Nat):Option Norm:=if k=9 then some ⟨[3,4,5,6,37,38,39],[⟨.box 3,3,0,false⟩,⟨.box 4,4,0,false⟩,⟨.box 5,5,0,false⟩,⟨.box 6,6,0,false⟩],false,1100⟩ else if k=15 then some ⟨[3,4,5,6,37,38,39,43,44,45],[⟨.box 3,3,0,false⟩,⟨.box 4,4,0,false⟩,⟨.box 5,5,0,false⟩,⟨.box 6,6,0,false⟩],false,1100⟩ else if k=31 then some ⟨[3,4,5,6,12,68,69,70],[⟨.box 3,3,0,false⟩,⟨.box 4,4,0,false⟩,⟨.box 5,5,0,false⟩,⟨.box 6,6,0,false⟩,⟨.box 12,12,0,false⟩,⟨.cell 12 2,1000,2,false⟩,⟨.cell 12 4,1001,8,false⟩],false,1102⟩ else if k=37 then some ⟨[3,4,5,6,12,13,68,69,70,75,76,77],[⟨.box 3,3,0,false⟩,⟨.box 4,4,0,false⟩,⟨.box 5,5,0,false⟩,⟨.box 6,6,0,false⟩,⟨.box 12,12,0,false⟩,⟨.cell 12 2,1000,2,false⟩,⟨.cell 12 4,1001,8,false⟩],false,1102⟩ else if k=49 then some ⟨[3,4,6,12,104,105,106],[⟨.box 3,3,0,false⟩,⟨.box 4,4,0,false⟩,⟨.box 6,6,0,false⟩,⟨.box 12,12,0,false⟩,⟨.cell 12 2,1000,2,false⟩,⟨.cell 12 4,1001,8,false⟩],false,1102⟩ else if k=57 then some ⟨[3,4,6,12,19,104,105,106,126,127,128],[⟨.box 3,3,0,false⟩,⟨.box 4,4,0,false⟩,⟨.box 6,6,0,false⟩,⟨.box 12,12,0,false⟩,⟨.box 19,19,0,false⟩,⟨.cell 12 2,1000,2,false⟩,⟨.cell 12 4,1001,8,false⟩,⟨.cell 19 1,1002,2,false⟩],false,1103⟩ else none
@[simp] def abc(k:Nat):Option Norm:=if k=9 then some ⟨[2,3,27,28],[⟨.box 2,2,0,false⟩,⟨.box 3,3,0,false⟩],false,1100⟩ else if k=21 then some ⟨[3,45,46,47],[⟨.box 3,3,0,false⟩],false,1100⟩ else none
@[simp] def Tz(k:Nat):Option Norm:=if k=46 then some ⟨[0,2,3,4,5,6],[⟨.box 0,0,0,false⟩,⟨.box 2,2,0,false⟩,⟨.box 3,3,0,false⟩,⟨.box 4,4,0,false⟩,⟨.box 5,5,0,false⟩,⟨.box 6,6,0,false⟩,⟨.cell 5 4,1000,8,false⟩],true,1101⟩ else none
@[simp] def abd(k:Nat):Option Norm:=if k=17 then some ⟨[0,2,3,4,5,6,7,44],[⟨.box 0,0,0,false⟩,⟨.box 2,2,0,false⟩,⟨.box 3,3,0,false⟩,⟨.box 4,4,0,false⟩,⟨.box 5,5,0,false⟩,⟨.cell 4 0,1000,5,false⟩],true,1101⟩ else none
@[simp] def TA(k:Nat):Option Norm:=if k=33 then some ⟨[4,8,9,11,14,15,80,81],[⟨.box 4,4,0,false⟩,⟨.box 8,8,0,false⟩,⟨.box 9,9,0,false⟩,⟨.box 11,11,0,false⟩,⟨.box 14,14,0,false⟩,⟨.box 15,15,0,false⟩,⟨.cell 11 4,1000,8,false⟩,⟨.cell 15 6,1001,4,false⟩,⟨.cell 15 7,1002,4,false⟩],false,1103⟩ else if k=45 then some ⟨[4,8,9,11,14,15,109,110],[⟨.box 4,4,0,false⟩,⟨.box 8,8,0,false⟩,⟨.box 9,9,0,false⟩,⟨.box 11,11,0,false⟩,⟨.box 14,14,0,false⟩,⟨.box 15,15,0,false⟩,⟨.cell 11 4,1000,8,false⟩,⟨.cell 15 6,1001,4,false⟩,⟨.cell 15 7,1002,4,false⟩],false,1103⟩ else none
@[simp] def TB(k:Nat):Option Norm:=if k=11 then some ⟨[1,3,23,24,25],[⟨.box 1,1,0,false⟩,⟨.box 3,3,0,false⟩],false,1100⟩ else none
@[simp] def abe(k:Nat):Option Norm:=if k=15 then some ⟨[3,4,7,8,9,33,34],[⟨.box 3,3,0,false⟩,⟨.box 4,4,0,false⟩,⟨.box 7,7,0,false⟩,⟨.slot 9,9,1,false⟩],false,1100⟩ else none
@[simp] def TC(k:Nat):Option Norm:=if k=11 then some ⟨[3,4,7,8,9,29,30],[⟨.box 3,3,0,false⟩,⟨.box 4,4,0,false⟩,⟨.box 7,7,0,false⟩],false,1100⟩ else none
@[simp] def abf(k:Nat):Option Norm:=if k=19 then some ⟨[0,2,3,39,40,41],[⟨.box 0,0,0,false⟩,⟨.box 2,2,0,false⟩,⟨.box 3,3,0,false⟩,⟨.cell 3 6,1000,4,false⟩],true,1101⟩ else none
@[simp] def TD(k:Nat):Option Norm:=if k=19 then some ⟨[4,9,38],[⟨.box 4,4,0,false⟩,⟨.box 9,9,0,false⟩,⟨.cell 9 4,1000,8,false⟩],false,1101⟩ else none
@[simp] def TE(k:Nat):Option Norm:=if k=9 then some ⟨[2,3,25,26],[⟨.box 2,2,0,false⟩,⟨.box 3,3,0,false⟩],false,1100⟩ else none
@[simp] def TF(k:Nat):Option Norm:=if k=9 then some ⟨[1,23,24,25],[⟨.box 1,1,0,false⟩],false,1100⟩ else if k=25 then some ⟨[1,50,51,52],[⟨.box 1,1,0,false⟩],false,1100⟩ else if k=37 then some ⟨[1,61,62,63],[⟨.box 1,1,0,false⟩],false,1100⟩ else none
@[simp] def TG(k:Nat):Option Norm:=if k=9 then some ⟨[1,2,21,22,23],[⟨.box 2,2,0,false⟩],false,1100⟩ else if k=19 then some ⟨[1,2,5,6,21,22,23,42,43,44],[⟨.box 2,2,0,false⟩],false,1100⟩ else none
@[simp] def TH(k:Nat):Option Norm:=if k=9 then some ⟨[22,23,24],[],false,1100⟩ else none
@[simp] def TK(k:Nat):Option Norm:=if k=5 then some ⟨[1,6,7,8],[⟨.box 1,1,0,false⟩],false,1100⟩ else none
@[simp] def TL(k:Nat):Option Norm:=if k=7 then some ⟨[3,10,11,12],[⟨.slot 3,3,1,false⟩],false,1100⟩ else none
@[simp] def TM(k:Nat):Option Norm:=if k=5 then some ⟨[0,5,6,7],[],false,1100⟩ else none
@[simp] def TN(k:Nat):Option Norm:=if k=9 then some ⟨[2,26,27,28],[⟨.box 2,2,0,false⟩],false,1100⟩ else none
@[simp] def TO(k:Nat):Option Norm:=if k=7 then some ⟨[1,5,6],[⟨.slot 1,1,3,false⟩],false,1100⟩ else none
@[simp] def abg(k:Nat):Option Norm:=if k=9 then some ⟨[0,1,12,13],[],false,1100⟩ else none
@[simp] def TP(k:Nat):Option Norm:=if k=9 then some ⟨[1,2,20,21,22],[⟨.box 2,2,0,false⟩],false,1100⟩ else if k=19 then some ⟨[1,2,5,6,20,21,22,42,43],[⟨.box 2,2,0,false⟩],false,1100⟩ else none
@[simp] def TQ(k:Nat):Option Norm:=if k=9 then some ⟨[16,17,18],[],false,1100⟩ else none
@[simp] def abh(k:Nat):Option Norm:=if k=7 then some ⟨[3,4,5,6,10,11,18,19],[⟨.box 4,4,0,false⟩,⟨.box 5,5,0,false⟩,⟨.box 6,6,0,false⟩,⟨.slot 10,10,4,false⟩,⟨.slot 11,11,4,false⟩],false,1100⟩ else if k=21 then some ⟨[4,5,10,11,13,44,45],[⟨.box 4,4,0,false⟩,⟨.box 5,5,0,false⟩,⟨.slot 10,10,4,false⟩,⟨.slot 11,11,4,false⟩],false,1100⟩ else none
@[simp] def TS(k:Nat):Option Norm:=if k=5 then some ⟨[0,1,7,8,9],[],false,1100⟩ else none
@[simp] def TT(k:Nat):Option Norm:=if k=11 then some ⟨[5,7,25,26,27],[],false,1100⟩ else none
@[simp] def TU(k:Nat):Option Norm:=if k=7 then some ⟨[0,5,6],[⟨.box 0,0,0,false⟩,⟨.slot 5,5,4,false⟩],true,1100⟩ else none
@[simp] def TV(k:Nat):Option Norm:=if k=9 then some ⟨[0,1,12,13],[],false,1100⟩ else none
@[simp] def K0(k:Nat):Option Norm:=if k=11 then some ⟨[2,3,4,6,30,31,32],[⟨.box 2,2,0,false⟩,⟨.box 3,3,0,false⟩,⟨.box 4,4,0,false⟩,⟨.box 6,6,0,false⟩,⟨.cell 6 0,1000,2,false⟩],false,1101⟩ else if k=21 then some ⟨[2,3,4,6,7,30,31,32,46,47,48],[⟨.box 2,2,0,false⟩,⟨.box 3,3,0,false⟩,⟨.box 4,4,0,false⟩,⟨.box 6,6,0,false⟩,⟨.cell 6 0,1000,2,false⟩],false,1101⟩ else none
@[simp] def K1(k:Nat):Option Norm:=if k=9 then some ⟨[0,1,12,13],[],false,1100⟩ else none
@[simp] def K2(k:Nat):Option Norm:=if k=5 then some ⟨[5,6,7],[],false,1100⟩ else none
@[simp] def K3(k:Nat):Option Norm:=if k=5 then some ⟨[0,6,7,8],[],false,1100⟩ else none
@[simp] def K4(k:Nat):Option Norm:=if k=9 then some ⟨[1,22,23,24],[⟨.box 1,1,0,false⟩],false,1100⟩ else if k=27 then some ⟨[1,5,49,50,51],[⟨.box 1,1,0,false⟩],false,1100⟩ else none
@[simp] def K5(k:Nat):Option Norm:=if k=5 then some ⟨[0,5,6,7],[],false,1100⟩ else none
@[simp] def K6(k:Nat):Option Norm:=if k=5 then some ⟨[0,1,7,8],[],false,1100⟩ else none
@[simp] def K7(k:Nat):Option Norm:=if k=7 then some ⟨[0,2,3,13,14,15],[⟨.box 0,0,0,false⟩,⟨.box 2,2,0,false⟩,⟨.box 3,3,0,false⟩,⟨.cell 3 0,1000,5,false⟩,⟨.cell 3 2,1001,1,false⟩],true,1102⟩ else if k=17 then some ⟨[0,2,3,6],[⟨.box 0,0,0,false⟩,⟨.box 2,2,0,false⟩,⟨.box 3,3,0,false⟩,⟨.cell 3 0,1000,5,false⟩,⟨.cell 3 2,1001,1,false⟩],true,1102⟩ else if k=45 then some ⟨[0,2,3,101,102],[⟨.box 0,0,0,false⟩,⟨.box 2,2,0,false⟩,⟨.box 3,3,0,false⟩,⟨.cell 3 0,1000,5,false⟩,⟨.cell 3 2,1001,1,false⟩],true,1102⟩ else none
@[simp] def K8(k:Nat):Option Norm:=if k=5 then some ⟨[1,4,8,9,10],[⟨.box 4,4,0,false⟩],false,1100⟩ else none
@[simp] def K9(k:Nat):Option Norm:=if k=7 then some ⟨[3,6,7,8],[],false,1100⟩ else none
@[simp] def La(k:Nat):Option Norm:=if k=5 then some ⟨[1,2,6,11,12,13],[⟨.box 6,6,0,false⟩],false,1100⟩ else none
@[simp] def Lb(k:Nat):Option Norm:=if k=5 then some ⟨[0,1,7,8],[],false,1100⟩ else none
@[simp] def Lc(k:Nat):Option Norm:=if k=7 then some ⟨[0,3,4],[⟨.box 0,0,0,false⟩,⟨.slot 3,3,1,false⟩],true,1100⟩ else none
@[simp] def Ld(k:Nat):Option Norm:=if k=7 then some ⟨[0,5,6],[⟨.box 0,0,0,false⟩,⟨.slot 5,5,1,false⟩],true,1100⟩ else none
@[simp] def Le(k:Nat):Option Norm:=if k=5 then some ⟨[1,8,9,10],[⟨.box 1,1,0,false⟩],false,1100⟩ else if k=17 then some ⟨[1,19,20,21],[⟨.box 1,1,0,false⟩],false,1100⟩ else none
@[simp] def Lf(k:Nat):Option Norm:=if k=5 then some ⟨[0,10,11,12],[],false,1100⟩ else if k=11 then some ⟨[0,10,11,12,16,17,18],[],false,1100⟩ else none
@[simp] def Lg(k:Nat):Option Norm:=if k=7 then some ⟨[0,1,8,9],[⟨.box 0,0,0,false⟩,⟨.box 1,1,0,false⟩,⟨.cell 1 0,1000,1,false⟩],false,1101⟩ else none
@[simp] def TW(k:Nat):Option Norm:=if k=5 then some ⟨[0,1,7,8],[],false,1100⟩ else none
@[simp] def Lh(k:Nat):Option Norm:=if k=9 then some ⟨[1,18,19,20],[⟨.box 1,1,0,false⟩],false,1100⟩ else if k=21 then some ⟨[1,29,30,31],[⟨.box 1,1,0,false⟩],false,1100⟩ else none
@[simp] def Li(k:Nat):Option Norm:=if k=5 then some ⟨[5,6,7],[],false,1100⟩ else none
@[simp] def Lj(k:Nat):Option Norm:=if k=7 then some ⟨[3,6,7,8],[⟨.slot 3,3,1,false⟩],false,1100⟩ else none
@[simp] def Lk(k:Nat):Option Norm:=if k=7 then some ⟨[3,6,7,8],[⟨.slot 3,3,3,false⟩],false,1100⟩ else none
@[simp] def Ll(k:Nat):Option Norm:=if k=7 then some ⟨[0,2,4,15,16],[⟨.box 2,2,0,false⟩,⟨.box 4,4,0,false⟩,⟨.cell 4 0,1000,1,false⟩,⟨.cell 4 1,1001,3,false⟩],false,1102⟩ else if k=17 then some ⟨[2,4,25,26,27],[⟨.box 2,2,0,false⟩,⟨.box 4,4,0,false⟩,⟨.cell 4 0,1000,1,false⟩,⟨.cell 4 1,1001,3,false⟩],false,1102⟩ else if k=25 then some ⟨[2,4,8,25,26,27,31,32,33],[⟨.box 2,2,0,false⟩,⟨.box 4,4,0,false⟩,⟨.slot 8,8,4,false⟩,⟨.cell 4 0,1000,1,false⟩,⟨.cell 4 1,1001,3,false⟩],false,1102⟩ else none
@[simp] def Lm(k:Nat):Option Norm:=if k=37 then some ⟨[0,4,87,88,89],[⟨.box 0,0,0,false⟩,⟨.box 4,4,0,false⟩,⟨.cell 0 7,1000,8,false⟩,⟨.cell 0 16,1001,18,false⟩,⟨.cell 0 17,1002,1,false⟩],true,1103⟩ else none
@[simp] def Ln(k:Nat):Option Norm:=if k=7 then some ⟨[1,4,6,20,21,22],[⟨.box 4,4,0,false⟩,⟨.box 6,6,0,false⟩,⟨.cell 6 1,1000,1,false⟩],false,1101⟩ else if k=15 then some ⟨[1,4,6,7,9,20,21,22,27,28,29],[⟨.box 4,4,0,false⟩,⟨.box 6,6,0,false⟩,⟨.slot 9,9,1,false⟩,⟨.cell 6 1,1000,1,false⟩],false,1101⟩ else if k=33 then some ⟨[1,4,6,12,49,50],[⟨.box 4,4,0,false⟩,⟨.box 6,6,0,false⟩,⟨.slot 12,12,1,false⟩],false,1100⟩ else none
@[simp] def Lo(k:Nat):Option Norm:=if k=13 then some ⟨[2,3,4,5,7,8,74,75,76],[⟨.box 2,2,0,false⟩,⟨.box 3,3,0,false⟩,⟨.box 4,4,0,false⟩,⟨.box 5,5,0,false⟩,⟨.box 7,7,0,false⟩,⟨.slot 8,8,1,false⟩],false,1100⟩ else none
@[simp] def Lp(k:Nat):Option Norm:=if k=11 then some ⟨[3,16,17,18],[],false,1100⟩ else none
@[simp] def Lq(k:Nat):Option Norm:=if k=7 then some ⟨[1,2,3,6,8,9],[⟨.box 3,3,0,false⟩,⟨.box 6,6,0,false⟩,⟨.box 8,8,0,false⟩,⟨.cell 8 0,1000,1,false⟩,⟨.cell 8 1,1001,3,false⟩],false,1102⟩ else if k=21 then some ⟨[1,2,6,8,9,62,63],[⟨.box 6,6,0,false⟩,⟨.box 8,8,0,false⟩,⟨.cell 8 0,1000,1,false⟩,⟨.cell 8 1,1001,3,false⟩],false,1102⟩ else none
@[simp] def Lr(k:Nat):Option Norm:=if k=15 then some ⟨[1,9,10,11,41,42,43],[⟨.slot 9,9,1,false⟩,⟨.slot 11,11,4,false⟩],false,1100⟩ else none
def nmL:FuncId->Nat->Option Norm
 |3=>alh
 |5=>ali
 |6=>alj
 |7=>alk
 |8=>alm
 |9=>aln
 |10=>aa4
 |11=>aa5
 |12=>aa6
 |13=>aa7
 |15=>aa8
 |16=>aa9
 |17=>aba
 |25=>Tt
 |26=>Tu
 |27=>Tv
 |28=>Tw
 |30=>abb
 |31=>Tx
 |32=>Ty
 |33=>abc
 |44=>Tz
 |45=>abd
 |47=>TA
 |52=>TB
 |55=>abe
 |56=>TC
 |57=>abf
 |61=>TD
 |66=>TE
 |68=>TF
 |69=>TG
 |70=>TH
 |71=>TK
 |73=>TL
 |74=>TM
 |75=>TN
 |77=>TO
 |79=>abg
 |81=>TP
 |82=>TQ
 |93=>abh
 |96=>TS
 |100=>TT
 |104=>TU
 |107=>TV
 |108=>K0
 |118=>K1
 |119=>K2
 |121=>K3
 |123=>K4
 |124=>K5
 |127=>K6
 |132=>K7
 |138=>K8
 |139=>K9
 |146=>La
 |164=>Lb
 |165=>Lc
 |166=>Ld
 |170=>Le
 |171=>Lf
 |173=>Lg
 |181=>TW
 |194=>Lh
 |195=>Li
 |196=>Lj
 |198=>Lk
 |199=>Ll
 |201=>Lm
 |204=>Ln
 |210=>Lo
 |215=>Lp
 |218=>Lq
 |222=>Lr
 |_=>fun _=>none
@[simp] def ata(r:Nat):List (Nat×Nat):=if r=5 then [(1,5)] else if r=6 then [(6,0),(7,0)] else []
@[simp] def atb(r:Nat):List (Nat×Nat):=if r=17 then [(1,3)] else []
@[simp] def atc(r:Nat):List (Nat×Nat):=if r=28 then [(3,10),(6,10)] else []
@[simp] def alo(r:Nat):List (Nat×Nat):=if r=11 then [(3,15),(5,15),(5,18),(9,15),(11,15),(11,18)] else []
@[simp] def alp(r:Nat):List (Nat×Nat):=if r=36 then [(1,10)] else []
@[simp] def abi(r:Nat):List (Nat×Nat):=if r=3 then [(1,10),(3,10),(3,13)] else if r=4 then [(1,3)] else []
@[simp] def abj(r:Nat):List (Nat×Nat):=if r=9 then [(1,9)] else []
@[simp] def abk(r:Nat):List (Nat×Nat):=if r=13 then [(4,0)] else []
@[simp] def abl(r:Nat):List (Nat×Nat):=if r=1 then [(6,0),(6,11),(9,0)] else []
@[simp] def abm(r:Nat):List (Nat×Nat):=if r=9 then [(1,10),(2,10),(3,10)] else if r=18 then [(1,12),(3,12),(5,12)] else if r=21 then [(1,5)] else if r=26 then [(2,4)] else []
@[simp] def alq(r:Nat):List (Nat×Nat):=if r=10 then [(3,11)] else if r=13 then [(3,6)] else if r=15 then [(3,6),(9,0)] else if r=18 then [(3,17),(6,17),(8,17),(9,17)] else if r=19 then [(3,6)] else if r=21 then [(3,6)] else if r=22 then [(1,3)] else []
@[simp] def alr(r:Nat):List (Nat×Nat):=if r=15 then [(1,3)] else []
@[simp] def abn(r:Nat):List (Nat×Nat):=if r=18 then [(1,13)] else if r=24 then [(1,19)] else if r=26 then [(1,3)] else []
@[simp] def als(r:Nat):List (Nat×Nat):=if r=18 then [(12,0)] else []
@[simp] def alu(r:Nat):List (Nat×Nat):=if r=1 then [(5,9),(5,11),(6,9),(6,11)] else if r=12 then [(1,5),(1,6)] else if r=14 then [(1,4),(1,7)] else if r=16 then [(1,4),(1,7)] else if r=18 then [(1,4),(1,6),(1,8)] else []
@[simp] def alv(r:Nat):List (Nat×Nat):=if r=1 then [(4,0)] else []
@[simp] def abo(r:Nat):List (Nat×Nat):=if r=7 then [(4,0),(6,0)] else []
@[simp] def abp(r:Nat):List (Nat×Nat):=if r=6 then [(11,19),(13,19),(14,19),(15,19)] else if r=28 then [(3,13),(5,13)] else []
@[simp] def abq(r:Nat):List (Nat×Nat):=if r=6 then [(6,13),(8,13),(9,13)] else []
@[simp] def abr(r:Nat):List (Nat×Nat):=if r=2 then [(0,5),(0,7)] else if r=6 then [(0,3)] else []
@[simp] def alw(r:Nat):List (Nat×Nat):=if r=1 then [(0,5)] else []
@[simp] def TX(r:Nat):List (Nat×Nat):=if r=15 then [(5,8)] else []
@[simp] def TY(r:Nat):List (Nat×Nat):=if r=1 then [(18,22)] else if r=24 then [(2,13)] else []
@[simp] def TZ(r:Nat):List (Nat×Nat):=if r=5 then [(1,5),(1,6)] else if r=15 then [(1,8),(1,10)] else if r=18 then [(1,4),(1,7)] else []
@[simp] def T5(r:Nat):List (Nat×Nat):=if r=1 then [(5,9),(6,9)] else []
@[simp] def T6(r:Nat):List (Nat×Nat):=if r=1 then [(4,0)] else if r=5 then [(1,6)] else []
@[simp] def T7(r:Nat):List (Nat×Nat):=if r=3 then [(1,14),(8,14),(8,15),(10,14),(10,15)] else []
@[simp] def T8(r:Nat):List (Nat×Nat):=if r=8 then [(3,7),(3,10),(3,13),(4,7),(4,10),(4,13)] else if r=13 then [(8,0),(9,0)] else if r=16 then [(8,0),(9,0)] else []
@[simp] def Ua(r:Nat):List (Nat×Nat):=if r=1 then [(4,0),(7,0),(7,3),(10,0),(10,3),(13,0),(13,3)] else []
@[simp] def Ub(r:Nat):List (Nat×Nat):=if r=4 then [(6,0),(6,2)] else []
@[simp] def Uc(r:Nat):List (Nat×Nat):=if r=6 then [(4,11)] else []
@[simp] def Ud(r:Nat):List (Nat×Nat):=if r=7 then [(3,17)] else []
@[simp] def Ue(r:Nat):List (Nat×Nat):=if r=5 then [(1,4)] else []
@[simp] def Uf(r:Nat):List (Nat×Nat):=if r=8 then [(2,7),(4,7),(5,7)] else []
@[simp] def Ug(r:Nat):List (Nat×Nat):=if r=7 then [(1,16),(3,16)] else []
@[simp] def Uh(r:Nat):List (Nat×Nat):=if r=2 then [(4,9)] else []
@[simp] def Ui(r:Nat):List (Nat×Nat):=if r=5 then [(1,4)] else []
@[simp] def Uj(r:Nat):List (Nat×Nat):=if r=17 then [(1,10),(1,11),(4,10),(6,10),(7,10)] else []
@[simp] def Uk(r:Nat):List (Nat×Nat):=if r=32 then [(7,10),(8,10)] else if r=35 then [(7,10),(8,10)] else if r=43 then [(1,3)] else []
@[simp] def Ul(r:Nat):List (Nat×Nat):=if r=27 then [(3,14),(5,14)] else []
@[simp] def Um(r:Nat):List (Nat×Nat):=if r=7 then [(7,12)] else []
@[simp] def Un(r:Nat):List (Nat×Nat):=if r=2 then [(3,6),(3,8)] else []
def exL:FuncId->Nat->List (Nat×Nat)
 |5=>ata
 |6=>atb
 |8=>atc
 |10=>alo
 |16=>alp
 |20=>abi
 |29=>abj
 |32=>abk
 |40=>abl
 |44=>abm
 |45=>alq
 |46=>alr
 |47=>abn
 |55=>als
 |57=>alu
 |58=>alv
 |61=>abo
 |65=>abp
 |66=>abq
 |88=>abr
 |90=>alw
 |111=>TX
 |112=>TY
 |132=>TZ
 |137=>T5
 |151=>T6
 |161=>T7
 |167=>T8
 |172=>Ua
 |174=>Ub
 |179=>Uc
 |185=>Ud
 |197=>Ue
 |200=>Uf
 |202=>Ug
 |203=>Uh
 |207=>Ui
 |209=>Uj
 |210=>Uk
 |212=>Ul
 |213=>Um
 |224=>Un
 |_=>fun _=> []
noncomputable def X:Env:={P:=Tryz.prog,ti:=ti,mX:=thL,fw:=byL,eJ:=ioL,clone:=cl,eh:=kpL,rq:=exL,norm:=nmL,low:=as7,mask:=mkL,dM:=omL}
@[simp] theorem X_P:X.P=Tryz.prog:=rfl
@[simp] theorem a29:X.ti=ti:=rfl
abbrev Xa(f:FuncId):Prop:=X.clone f=none/\X.fw f=false/\X.eJ f=false/\X.low f=false/\X.dM f=[]
abbrev Xl(f:FuncId):Prop:=X.clone f=none/\X.fw f=false/\X.eJ f=false/\X.low f=true/\X.dM f=[]
abbrev Xt(f:FuncId):Prop:=X.mX f=fun _=>false
abbrev Xk(f:FuncId):Prop:=X.eh f=fun _=>false
abbrev Xm(f:FuncId):Prop:=X.mask f=fun _=> []
abbrev Xn(f:FuncId):Prop:=X.norm f=fun _=>none
abbrev Xe(f:FuncId):Prop:=X.rq f=fun _=> []
abbrev Xy0(f:FuncId):Prop:=X.clone f=none/\X.fw f=true/\X.eJ f=false/\X.low f=false/\X.dM f=[]
abbrev Xy1(f:FuncId):Prop:=X.clone f=none/\X.fw f=false/\X.eJ f=true/\X.low f=false/\X.dM f=[]
abbrev Xy2(f:FuncId):Prop:=X.clone f=none/\X.fw f=false/\X.eJ f=true/\X.low f=true/\X.dM f=[]
abbrev Xd(f:FuncId):Prop:=Xa f/\Xt f/\Xk f/\Xm f/\Xn f/\Xe f
abbrev Xw(f:FuncId):Prop:=Xt f/\Xk f/\Xm f
abbrev Xv(f:FuncId):Prop:=Xt f/\Xk f
@[simp] theorem X2:Xd 2:=by and_intros<;>rfl
@[simp] theorem X3:Xl 3/\Xw 3/\X.norm 3=alh/\Xe 3:=by and_intros<;>first|rfl|exact fun _=>rfl
@[simp] theorem X4:Xd 4:=by and_intros<;>first|rfl|exact fun _=>rfl
@[simp] theorem X5:Xl 5/\Xw 5/\X.norm 5=ali/\X.rq 5=ata:=by and_intros<;>first|rfl|exact fun _=>rfl
@[simp] theorem X6:Xl 6/\Xv 6/\X.mask 6=mkR6/\X.norm 6=alj/\X.rq 6=atb:=by and_intros<;>first|rfl|exact fun _=>rfl
@[simp] theorem X7:Xl 7/\Xw 7/\X.norm 7=alk/\Xe 7:=by and_intros<;>first|rfl|exact fun _=>rfl
@[simp] theorem X8:Xl 8/\Xv 8/\X.mask 8=as8/\X.norm 8=alm/\X.rq 8=atc:=by and_intros<;>first|rfl|exact fun _=>rfl
@[simp] theorem X9:Xl 9/\Xw 9/\X.norm 9=aln/\Xe 9:=by and_intros<;>first|rfl|exact fun _=>rfl
@[simp] theorem X10:Xl 10/\Xv 10/\X.mask 10=alc/\X.norm 10=aa4/\X.rq 10=alo/\Xl 11/\Xv 11/\X.mask 11=ald/\X.norm 11=aa5/\Xe 11/\Xl 12/\Xw 12/\X.norm 12=aa6/\Xe 12/\Xl 13/\Xw 13/\X.norm 13=aa7/\Xe 13/\Xa 14/\Xv 14/\X.mask 14=mkR14/\Xn 14/\Xe 14/\Xl 15/\Xw 15/\X.norm 15=aa8/\Xe 15/\Xl 16/\Xv 16/\X.mask 16=ale/\X.norm 16=aa9/\X.rq 16=alp/\Xl 17/\Xw 17/\X.norm 17=aba/\Xe 17/\Xd 18/\Xy0 19/\Xw 19/\Xn 19/\Xe 19/\Xy1 20/\Xv 20/\X.mask 20=aa0/\Xn 20/\X.rq 20=abi/\Xy1 21/\Xw 21/\Xn 21/\Xe 21/\Xd 22/\Xd 23/\Xa 24/\(∀d:Nat,X.mX 24 d=(d==36))/\(∀t:TypeId,X.eh 24 t=(t==52||t==102))/\Xm 24/\Xn 24/\Xe 24/\Xl 25/\Xw 25/\X.norm 25=Tt/\Xe 25/\Xl 26/\Xw 26/\X.norm 26=Tu/\Xe 26/\Xl 27/\Xw 27/\X.norm 27=Tv/\Xe 27/\Xl 28/\Xw 28/\X.norm 28=Tw/\Xe 28/\Xa 29/\(∀d:Nat,X.mX 29 d=(d==17))/\(∀t:TypeId,X.eh 29 t=(t==84||t==124))/\Xm 29/\Xn 29/\X.rq 29=abj/\Xl 30/\Xw 30/\X.norm 30=abb/\Xe 30/\Xl 31/\Xw 31/\X.norm 31=Tx/\Xe 31/\Xl 32/\Xw 32/\X.norm 32=Ty/\X.rq 32=abk/\Xl 33/\Xw 33/\X.norm 33=abc/\Xe 33:=by and_intros<;>first|rfl|exact fun _=>rfl
@[simp] theorem X34:Xd 34/\Xd 35/\Xa 36/\(∀d:Nat,X.mX 36 d=(d==33))/\(∀t:TypeId,X.eh 36 t=(t==52||t==102))/\Xm 36/\Xn 36/\Xe 36/\Xy1 37/\Xw 37/\Xn 37/\Xe 37/\Xd 38/\Xd 39/\Xa 40/\(∀d:Nat,X.mX 40 d=(d==16))/\(∀t:TypeId,X.eh 40 t=(t==52||t==102))/\Xm 40/\Xn 40/\X.rq 40=abl/\Xd 41/\Xd 42/\Xd 43/\Xy2 44/\(∀d:Nat,X.mX 44 d=(d==22))/\(∀t:TypeId,X.eh 44 t=(t==84||t==124))/\X.mask 44=aa1/\X.norm 44=Tz/\X.rq 44=abm/\Xy2 45/\Xv 45/\X.mask 45=alf/\X.norm 45=abd/\X.rq 45=alq/\Xa 46/\Xv 46/\X.mask 46=alg/\Xn 46/\X.rq 46=alr/\Xl 47/\Xv 47/\X.mask 47=aa2/\X.norm 47=TA/\X.rq 47=abn/\Xd 48/\Xd 49/\Xd 50/\Xd 51/\Xl 52/\Xw 52/\X.norm 52=TB/\Xe 52/\Xd 53/\Xd 54/\Xl 55/\Xw 55/\X.norm 55=abe/\X.rq 55=als/\Xl 56/\Xw 56/\X.norm 56=TC/\Xe 56/\Xy2 57/\Xw 57/\X.norm 57=abf/\X.rq 57=alu:=by and_intros<;>first|rfl|exact fun _=>rfl
@[simp] theorem X58:Xa 58/\Xw 58/\Xn 58/\X.rq 58=alv/\Xd 59/\Xd 60/\Xl 61/\Xw 61/\X.norm 61=TD/\X.rq 61=abo/\Xd 62/\Xy0 63/\(∀d:Nat,X.mX 63 d=(d==22))/\(∀t:TypeId,X.eh 63 t=(t==52||t==102))/\Xm 63/\Xn 63/\Xe 63/\Xy0 64/\Xt 64/\(∀t:TypeId,X.eh 64 t=(t==52||t==102))/\Xm 64/\Xn 64/\Xe 64/\Xy0 65/\Xt 65/\(∀t:TypeId,X.eh 65 t=(t==52||t==102))/\Xm 65/\Xn 65/\X.rq 65=abp/\Xl 66/\Xw 66/\X.norm 66=TE/\X.rq 66=abq/\Xd 67/\Xl 68/\Xw 68/\X.norm 68=TF/\Xe 68/\Xl 69/\Xw 69/\X.norm 69=TG/\Xe 69/\Xl 70/\Xw 70/\X.norm 70=TH/\Xe 70/\Xl 71/\Xw 71/\X.norm 71=TK/\Xe 71/\Xa 72/\Xt 72/\(∀t:TypeId,X.eh 72 t=(t==84))/\Xm 72/\Xn 72/\Xe 72/\Xl 73/\Xw 73/\X.norm 73=TL/\Xe 73/\Xl 74/\Xw 74/\X.norm 74=TM/\Xe 74/\Xl 75/\Xw 75/\X.norm 75=TN/\Xe 75/\Xd 76/\Xl 77/\Xw 77/\X.norm 77=TO/\Xe 77/\Xd 78/\Xl 79/\Xw 79/\X.norm 79=abg/\Xe 79/\Xd 80/\Xl 81/\Xw 81/\X.norm 81=TP/\Xe 81:=by and_intros<;>first|rfl|exact fun _=>rfl
@[simp] theorem X82:Xl 82/\Xw 82/\X.norm 82=TQ/\Xe 82/\Xd 83/\Xd 84/\Xd 85/\Xy1 86/\Xw 86/\Xn 86/\Xe 86/\Xa 87/\Xt 87/\(∀t:TypeId,X.eh 87 t=(t==52||t==102))/\Xm 87/\Xn 87/\Xe 87/\Xy1 88/\Xv 88/\X.mask 88=aa3/\Xn 88/\X.rq 88=abr/\Xy1 89/\Xw 89/\Xn 89/\Xe 89/\Xy1 90/\Xw 90/\Xn 90/\X.rq 90=alw/\Xd 91/\Xd 92/\Xl 93/\Xw 93/\X.norm 93=abh/\Xe 93/\Xa 94/\(∀d:Nat,X.mX 94 d=(d==9))/\Xk 94/\Xm 94/\Xn 94/\Xe 94/\Xd 95/\Xl 96/\Xw 96/\X.norm 96=TS/\Xe 96/\Xd 97/\Xd 98/\Xd 99/\Xl 100/\Xw 100/\X.norm 100=TT/\Xe 100/\Xd 101/\Xd 102/\Xd 103/\Xy2 104/\Xw 104/\X.norm 104=TU/\Xe 104/\Xd 105:=by and_intros<;>first|rfl|exact fun _=>rfl
@[simp] theorem X106:Xd 106/\Xl 107/\Xw 107/\X.norm 107=TV/\Xe 107/\Xl 108/\Xw 108/\X.norm 108=K0/\Xe 108/\Xa 109/\(∀d:Nat,X.mX 109 d=(d==11))/\(∀t:TypeId,X.eh 109 t=(t==52||t==102))/\Xm 109/\Xn 109/\Xe 109/\Xd 110/\Xy0 111/\Xt 111/\(∀t:TypeId,X.eh 111 t=(t==52||t==102))/\Xm 111/\Xn 111/\X.rq 111=TX/\Xy0 112/\Xt 112/\(∀t:TypeId,X.eh 112 t=(t==52||t==102))/\Xm 112/\Xn 112/\X.rq 112=TY/\Xy0 113/\Xt 113/\(∀t:TypeId,X.eh 113 t=(t==52||t==102))/\Xm 113/\Xn 113/\Xe 113/\Xd 114/\Xy0 115/\Xt 115/\(∀t:TypeId,X.eh 115 t=(t==52||t==102))/\Xm 115/\Xn 115/\Xe 115/\Xy0 116/\Xt 116/\(∀t:TypeId,X.eh 116 t=(t==52||t==102))/\Xm 116/\Xn 116/\Xe 116/\Xd 117/\Xl 118/\Xw 118/\X.norm 118=K1/\Xe 118/\Xl 119/\Xw 119/\X.norm 119=K2/\Xe 119/\Xd 120/\Xl 121/\Xw 121/\X.norm 121=K3/\Xe 121/\Xd 122/\Xl 123/\Xw 123/\X.norm 123=K4/\Xe 123/\Xl 124/\Xw 124/\X.norm 124=K5/\Xe 124/\Xd 125/\Xd 126/\Xl 127/\Xw 127/\X.norm 127=K6/\Xe 127/\Xd 128/\Xd 129:=by and_intros<;>first|rfl|exact fun _=>rfl
@[simp] theorem a3y:Xd 130/\Xd 131/\Xy2 132/\Xw 132/\X.norm 132=K7/\X.rq 132=TZ/\Xa 133/\Xv 133/\X.mask 133=Tg/\Xn 133/\Xe 133/\Xy1 134/\Xw 134/\Xn 134/\Xe 134/\Xy1 135/\Xw 135/\Xn 135/\Xe 135/\Xy0 136/\(∀d:Nat,X.mX 136 d=(d==16))/\Xk 136/\X.mask 136=Th/\Xn 136/\Xe 136/\Xy1 137/\Xw 137/\Xn 137/\X.rq 137=T5/\Xl 138/\Xw 138/\X.norm 138=K8/\Xe 138/\Xl 139/\Xw 139/\X.norm 139=K9/\Xe 139/\Xd 140/\Xd 141/\Xd 142/\Xd 143/\Xd 144/\Xd 145/\Xl 146/\Xw 146/\X.norm 146=La/\Xe 146/\Xd 147/\Xd 148/\Xd 149/\Xd 150/\Xa 151/\Xt 151/\(∀t:TypeId,X.eh 151 t=(t==52||t==102))/\Xm 151/\Xn 151/\X.rq 151=T6/\X.clone 152=some 26/\X.fw 152=false/\X.eJ 152=false/\X.low 152=false/\X.dM 152=[]/\Xw 152/\Xn 152/\Xe 152/\Xd 153:=by and_intros<;>first|rfl|exact fun _=>rfl
@[simp] theorem a4f:Xd 154/\Xy0 155/\Xt 155/\(∀t:TypeId,X.eh 155 t=(t==52||t==102))/\Xm 155/\Xn 155/\Xe 155/\Xy0 156/\Xt 156/\(∀t:TypeId,X.eh 156 t=(t==52||t==102))/\Xm 156/\Xn 156/\Xe 156/\Xd 157/\Xy0 158/\Xt 158/\(∀t:TypeId,X.eh 158 t=(t==52||t==102))/\Xm 158/\Xn 158/\Xe 158/\Xd 159/\Xd 160/\Xa 161/\Xw 161/\Xn 161/\X.rq 161=T7/\Xd 162/\Xd 163/\Xl 164/\Xw 164/\X.norm 164=Lb/\Xe 164/\Xy2 165/\(∀d:Nat,X.mX 165 d=(d==8))/\Xk 165/\Xm 165/\X.norm 165=Lc/\Xe 165/\Xy2 166/\Xw 166/\X.norm 166=Ld/\Xe 166/\Xy1 167/\(∀d:Nat,X.mX 167 d=(d==102||d==113||d==134))/\Xk 167/\Xm 167/\Xn 167/\X.rq 167=T8/\Xd 168/\Xd 169/\Xl 170/\Xw 170/\X.norm 170=Le/\Xe 170/\Xl 171/\Xw 171/\X.norm 171=Lf/\Xe 171/\Xa 172/\Xw 172/\Xn 172/\X.rq 172=Ua/\Xl 173/\Xw 173/\X.norm 173=Lg/\Xe 173/\Xa 174/\Xw 174/\Xn 174/\X.rq 174=Ub/\Xd 175/\Xd 176/\Xd 177:=by and_intros<;>first|rfl|exact fun _=>rfl
@[simp] theorem a43:Xa 178/\Xv 178/\X.mask 178=Ti/\Xn 178/\Xe 178/\X.clone 179=none/\X.fw 179=false/\X.eJ 179=true/\X.low 179=false/\X.dM 179=[(0,16,233),(0,17,3),(0,7,52)]/\Xt 179/\(∀t:TypeId,X.eh 179 t=(t==52))/\Xm 179/\Xn 179/\X.rq 179=Uc/\X.clone 180=none/\X.fw 180=false/\X.eJ 180=true/\X.low 180=false/\X.dM 180=[(0,16,233),(0,17,3),(0,7,52)]/\Xt 180/\(∀t:TypeId,X.eh 180 t=(t==52))/\Xm 180/\Xn 180/\Xe 180/\Xl 181/\Xw 181/\X.norm 181=TW/\Xe 181/\X.clone 182=some 22/\X.fw 182=false/\X.eJ 182=false/\X.low 182=false/\X.dM 182=[]/\Xw 182/\Xn 182/\Xe 182/\X.clone 183=some 27/\X.fw 183=false/\X.eJ 183=false/\X.low 183=false/\X.dM 183=[]/\Xw 183/\Xn 183/\Xe 183/\Xd 184/\Xy0 185/\Xt 185/\(∀t:TypeId,X.eh 185 t=(t==52||t==102))/\Xm 185/\Xn 185/\X.rq 185=Ud/\Xd 186/\Xd 187/\Xd 188/\Xd 189/\Xd 190/\Xd 191/\Xd 192/\Xd 193/\Xl 194/\Xw 194/\X.norm 194=Lh/\Xe 194/\Xl 195/\Xw 195/\X.norm 195=Li/\Xe 195/\Xl 196/\Xw 196/\X.norm 196=Lj/\Xe 196/\Xa 197/\Xt 197/\(∀t:TypeId,X.eh 197 t=(t==84))/\Xm 197/\Xn 197/\X.rq 197=Ue/\Xl 198/\Xw 198/\X.norm 198=Lk/\Xe 198/\Xl 199/\Xw 199/\X.norm 199=Ll/\Xe 199/\Xa 200/\Xv 200/\X.mask 200=Tj/\Xn 200/\X.rq 200=Uf/\X.clone 201=none/\X.fw 201=false/\X.eJ 201=true/\X.low 201=true/\X.dM 201=[(0,16,233),(0,17,3),(0,7,52)]/\Xw 201/\X.norm 201=Lm/\Xe 201:=by and_intros<;>first|rfl|exact fun _=>rfl
@[simp] theorem a5q:Xy0 202/\(∀d:Nat,X.mX 202 d=(d==51||d==77))/\(∀t:TypeId,X.eh 202 t=(t==52||t==102))/\Xm 202/\Xn 202/\X.rq 202=Ug/\Xy0 203/\Xw 203/\Xn 203/\X.rq 203=Uh/\Xl 204/\Xv 204/\X.mask 204=Tk/\X.norm 204=Ln/\Xe 204/\Xd 205/\Xy0 206/\Xt 206/\(∀t:TypeId,X.eh 206 t=(t==52||t==102))/\Xm 206/\Xn 206/\Xe 206/\Xa 207/\Xt 207/\(∀t:TypeId,X.eh 207 t=(t==22))/\Xm 207/\Xn 207/\X.rq 207=Ui/\Xd 208/\Xa 209/\(∀d:Nat,X.mX 209 d=(d==14))/\(∀t:TypeId,X.eh 209 t=(t==22))/\Xm 209/\Xn 209/\X.rq 209=Uj/\Xl 210/\(∀d:Nat,X.mX 210 d=(d==72))/\Xk 210/\Xm 210/\X.norm 210=Lo/\X.rq 210=Uk/\Xd 211/\Xy0 212/\(∀d:Nat,X.mX 212 d=(d==221))/\(∀t:TypeId,X.eh 212 t=(t==52||t==102))/\Xm 212/\Xn 212/\X.rq 212=Ul/\Xy0 213/\(∀d:Nat,X.mX 213 d=(d==54))/\(∀t:TypeId,X.eh 213 t=(t==52||t==102))/\Xm 213/\Xn 213/\X.rq 213=Um/\Xd 214/\Xl 215/\Xw 215/\X.norm 215=Lp/\Xe 215/\Xa 216/\(∀d:Nat,X.mX 216 d=(d==15))/\(∀t:TypeId,X.eh 216 t=(t==84))/\Xm 216/\Xn 216/\Xe 216/\Xa 217/\Xv 217/\X.mask 217=Tl/\Xn 217/\Xe 217/\Xl 218/\Xv 218/\X.mask 218=Tm/\X.norm 218=Lq/\Xe 218/\Xa 219/\Xv 219/\X.mask 219=Tn/\Xn 219/\Xe 219/\Xa 220/\Xv 220/\X.mask 220=To/\Xn 220/\Xe 220/\Xa 221/\Xv 221/\X.mask 221=Tp/\Xn 221/\Xe 221/\Xl 222/\Xv 222/\X.mask 222=Tq/\X.norm 222=Lr/\Xe 222/\Xd 223/\Xa 224/\Xv 224/\X.mask 224=Ts/\Xn 224/\X.rq 224=Un/\Xd 225:=by and_intros<;>first|rfl|exact fun _=>rfl
@[simp] theorem a6e:Xd 226:=by and_intros<;>first|rfl|exact fun _=>rfl
end Go.Proofs.YtejohpnpnaljdaaGreat
namespace Go.Proofs.YtejohpnpnaljdaaGreat
open Go Go.Abs Go.Abs.lu
theorem wrap_i64{n:Int}(h: -9223372036854775808<=n/\n<=9223372036854775807):IntKind.i64.wrap n=n:=by
 simp only[IntKind.wrap,IntKind.signed,IntKind.bits,Bool.true_and];split<;>rename_i hc<;>simp at hc<;>omega
theorem cS(i:Nat)(h:(i:Int)+1<=9223372036854775807):IntKind.i64.wrap ((i:Int)+1)=(i:Int)+1:=wrap_i64 (by omega)
theorem Bd{α:Type}{a b:List α}{i:Nat}(h1:i<a.length)(h2:i<b.length)(h:a.take i=b.take i)(he:a[i]=b[i]):a.take (i+1)=b.take (i+1):=by
 rw[List.take_add_one,List.take_add_one,h];simp[h1,h2,he]
theorem yb{α:Type}{a b:List α}{i:Nat}(h1: ¬i<a.length)(h2:a.length=b.length)(h:a.take i=b.take i):a=b:=by
 rwa[bn (by omega),bn (by omega)]at h
theorem fY{α:Type}{a:List α}{i:Nat}(h:i<a.length):a.take (i+1)=a.take i++ [a[i]]:=by
 rw[List.take_add_one];simp[h]
@[simp] theorem Yb{α β:Type}(f:α->β)(l:List α):(l.map f).take l.length=l.map f:=by rw[<-List.length_map (f:=f),List.take_length]
theorem r8{α:Type}{p:α->Bool}{l:List α}{i:Nat}(h:i<l.length)(hp:p l[i]=false):l.all p=false:=by
 rw[<-Bool.not_eq_true,List.all_eq_true];intro kn;have:=kn _ (List.getElem_mem h);rw[hp]at this;cases this
theorem tz{α:Type}{p:α->Bool}{l:List α}{i:Nat}(h:i<l.length):(l.take (i+1)).all p=((l.take i).all p&&p l[i]):=by
 rw[fY h,List.all_append];simp
noncomputable def abz(X:Env)(fx:FuncId)(v:V)(d:Option Nat)(args:List V)(S:St):Option St:=match v with
 | .fn g first AI=>eK X (cy X) fx d g (first++args++AI) S
 |_=>none
@[simp] theorem al2(X:Env)(fx g:FuncId)(a b:List V)(d:Option Nat)(args:List V)(S:St):abz X fx (.fn g a b) d args S=eK X (cy X) fx d g (a++args++b) S:=rfl
section
variable {X:Env} {fx:FuncId} {cG:List (Option Nat)} {n0 kk n:Nat} {r:List Oper} {ff:Nat->V} {hp:aY} {K:St->Prop} {d:Nat} {ty:TypeId} {ps:String} {af:Array Edge}
@[simp ↓] theorem ah6(d:Option Nat)(t:Nat)(args:Array Operand)(jP:Array TypeId):fW X fx cG n0 kk (⟨d,.call ⟨.value (.tmp t),args,jP⟩,ty,ps,af,none⟩::r) ⟨ff,hp,n⟩ K=
  kI (Go.Abs.mark (abz X fx (ff t) d (args.toList.map (lV ff)) ⟨ff,hp,n⟩)) fun S1=>fW X fx cG n0 (kk+1) r ⟨S1.f,S1.h,S1.n⟩ K:=by
 rw[sA,show lV ff=(⟨ff,hp,n⟩:St).ev from wZ ⟨ff,hp,n⟩];show kI (match(⟨ff,hp,n⟩:St).ev (.tmp t) with
  | .fn g first AI=>eK X (cy X) fx d g (first++args.toList.map (⟨ff,hp,n⟩:St).ev++AI) ⟨ff,hp,n⟩
  |_=>none) _=_
 rfl
end
@[simp ↓] theorem Yc(X:Env)(bO:FuncId)(d:Nat)(t:TypeId)(a ix:Operand)(ty:TypeId)(ps:String)(af:Array Edge)(g:Option (Nat×Bool))(S1 T:St)(m:Nat):Wr X bO (some ⟨some d,.indexAddr t a ix,ty,ps,af,g⟩) S1 T m=
  ∃v,(match lV S1.f ix with
  | .int _ n=>match lV S1.f a with
   | .sl _ es=>if(0<=n/\n<es.length)/\(X.ti t).arr=none then(match es[n.toNat]? with|some e=>if e.cells.length=(X.ti (X.ti t).elem).size then some ((.ref e.cells),T.h,m) else none|none=>none) else none
   | .bU id s l=>if(0<=n/\n<l)/\(X.ti t).arr=none then(match T.h id with|some ob=>if ob.k=(X.ti (X.ti t).elem).size then some ((.ptr id (s+n.toNat) 0),T.h,m) else none|none=>none) else none
   | .ptr id j f=>match(X.ti t).arr with
    |some k=>if 0<=n/\n<k then some ((.ptr id j (f+n.toNat*(X.ti (X.ti t).elem).size)),T.h,m) else none
    |none=>none
   |_=>none
  |_=>none)=some (v,T.h,m)/\S1.f d=v:=by
 unfold Wr;rw[wZ];apply propext;constructor
 ·rintro⟨o,v,h,h1,h2⟩;simp only[au]at h;subst h;exact⟨v,h1,h2 d rfl⟩
 ·rintro⟨v,h1,h2⟩;refine⟨_,v,rfl,h1,fun d' h=> ?_⟩;simp only[au]at h;subst h;exact h2
@[simp ↓] theorem al3(X:Env)(bO:FuncId)(d:Nat)(t:TypeId)(x:Operand)(lo hi mx:Option Operand)(ty:TypeId)(ps:String)(af:Array Edge)(g:Option (Nat×Bool))(S1 T:St)(m:Nat):Wr X bO (some ⟨some d,.slice t x lo hi mx,ty,ps,af,g⟩) S1 T m=
  ∃v,(if(lV S1.f x).isStr=(X.ti t).isStr then
   match lV S1.f x with
   | .sl _ es=>
    if es.all (fun e=>e.cells.length==(X.ti (X.ti t).elem).size) then
     match mx with
     |none=>match bounds (lo.map (lV S1.f)) (hi.map (lV S1.f)) es.length with|some (l,h)=>some ((.sl false ((es.take h).drop l)),T.h,m)|none=>none
     |some mm=>match lV S1.f mm,hi.map (lV S1.f) with
      | .int _ p,some (.int _ q)=>if p=q then(match bounds (lo.map (lV S1.f)) (hi.map (lV S1.f)) es.length with|some (l,h)=>some ((.sl true ((es.take h).drop l)),T.h,m)|none=>none) else none
      |_,_=>none
    else none
   | .bU id s n=>
    match mx,T.h id with
    |none,some ob=>if ob.k=(X.ti (X.ti t).elem).size then(match bounds (lo.map (lV S1.f)) (hi.map (lV S1.f)) n with|some (l,h)=>some ((.bU id (s+l) (h-l)),T.h,m)|none=>none) else none
    |some mm,some ob=>if ob.k=(X.ti (X.ti t).elem).size then(match lV S1.f mm,hi.map (lV S1.f) with
      | .int _ p,some (.int _ q)=>if p=q then(match bounds (lo.map (lV S1.f)) (hi.map (lV S1.f)) n with|some (l,h)=>some ((.bU id (s+l) (h-l)),T.h,m)|none=>none) else none
      |_,_=>none) else none
    |_,none=>none
   | .str s=>match mx with
    |none=>match bounds (lo.map (lV S1.f)) (hi.map (lV S1.f)) s.length with|some (l,h)=>some ((.str ((s.take h).drop l)),T.h,m)|none=>none
    |some _=>none
   |_=>none
  else none)=some (v,T.h,m)/\S1.f d=v:=by
 unfold Wr;rw[wZ];apply propext;constructor
 ·rintro⟨o,v,h,h1,h2⟩;simp only[au]at h;subst h;exact⟨v,h1,h2 d rfl⟩
 ·rintro⟨v,h1,h2⟩;refine⟨_,v,rfl,h1,fun d' h=> ?_⟩;simp only[au]at h;subst h;exact h2
def MV(X:Env)(f:FuncId)(b:Code)(Q:Ex->St->Prop):Ex->St->Prop
 | .normal,S=>Wp X f (.loop b) S Q
 |e,S=>Q e S
@[simp ↓] theorem Yd(X:Env)(f:FuncId)(b:Code)(Q:Ex->St->Prop)(S:St):MV X f b Q .normal S=Wp X f (.loop b) S Q:=rfl
@[simp ↓] theorem ae5(X:Env)(f:FuncId)(b:Code)(Q:Ex->St->Prop)(S:St)(i:Nat):MV X f b Q (.exit i) S=Q (.exit i) S:=rfl
@[simp ↓] theorem ah7(X:Env)(f:FuncId)(b:Code)(Q:Ex->St->Prop)(S:St):MV X f b Q .ret S=Q .ret S:=rfl
theorem di{X:Env}{f:FuncId}{b:Code}{S:St}{Q:Ex->St->Prop}:Wp X f (.loop b) S Q=kI (Go.Abs.mark (mj X f (2*gZ b+1) S)) fun S1=>Wp X f b S1 (MV X f b Q):=by
 unfold Wp Go.Abs.mark;rw[Ft];cases hn:mj X f (2*gZ b+1) S with
 |none=>simp[kI]
 |some S1=>
  simp only[kI];apply propext;constructor
  ·rintro⟨e,S2,h,hq⟩;cases hb:ev X f b S1 with
   |none=>rw[hb]at h;cases h
   |some x=>
    obtain⟨e3,S3⟩:=x;rw[hb]at h;refine⟨e3,S3,rfl,?_⟩;cases e3 with
    |normal=>exact⟨e,S2,h,hq⟩
    |exit i=>
     simp only[au,aF]at h;obtain⟨rfl,rfl⟩:=h;exact hq
    |ret=>
     simp only[au,aF]at h;obtain⟨rfl,rfl⟩:=h;exact hq
  ·rintro⟨e,S2,h,hq⟩;rw[h];cases e with
   |normal=>
    obtain⟨e3,S3,h3,hq3⟩:=hq;exact⟨e3,S3,h3,hq3⟩
   |exit i=>exact⟨_,_,rfl,hq⟩
   |ret=>exact⟨_,_,rfl,hq⟩
theorem Em{v n:Int}(h:0<n):v % n=if v.tmod n<0 then v.tmod n+n else v.tmod n:=by
 have h1:=Int.emod_nonneg v (show n≠0 by omega);have h2:=Int.emod_lt_of_pos v h;rcases Int.lt_or_le v 0 with hv|hv
 ·have e:=Int.tmod_eq_emod (a:=v) (b:=n);by_cases hd:n∣v
  ·have:v % n=0:=Int.emod_eq_zero_of_dvd hd;rw[if_pos (.inr hd),this]at e;rw[e,this];simp
  ·rw[if_neg (by
    rintro(h|h)
    ·omega
    ·exact hd h)]at e
   have iK:v % n≠0:=fun h=>hd (Int.dvd_of_emod_eq_zero h);rw[e,Int.natAbs_of_nonneg (by omega),if_pos (by omega)];omega
 ·rw[Int.tmod_eq_emod_of_nonneg hv,if_neg (by omega)]
def total(l:List Int):Int:=l.foldl (· + ·) 0
theorem w8(l:List Int)(x:Int):total (l++ [x])=total l+x:=by simp[total]
def yc(n:Int):Bool:=decide (1<=n/\n<=32)
def je(l:List Int):Bool:=l.all yc&& (decide (1<=l.length)&&decide (l.length<=4))
def inside(ae:List Int)(r o:Int):Bool:=decide (0<=r/\r<ae.length/\0<=o/\o<ae.getD r.toNat 0)
structure mw (l:List Int):Prop where
 elem: ∀i (h:i<l.length),1<=l[i]/\l[i]<=32
 pos:1<=l.length
 le:l.length<=4
theorem lD{l:List Int}:je l=true↔mw l:=by
 unfold je;simp only[Bool.and_eq_true,decide_eq_true_eq,List.all_eq_true];constructor
 ·rintro⟨h1,h2,h3⟩;exact⟨fun i h=>by simpa[yc] using h1 _ (List.getElem_mem h),h2,h3⟩
 ·rintro⟨h1,h2,h3⟩;refine⟨fun x hx=> ?_,h2,h3⟩;obtain⟨i,h,rfl⟩:=List.getElem_of_mem hx;simpa[yc] using h1 i h
def nth(l:List Int)(i:Nat):Int:=l.getD i 0
theorem cZ{l:List Int}{i:Nat}(h:i<l.length):nth l i=l[i]:=by simp[nth,List.getD,h]
def qQ(aD ae:List Int)(i:Nat):Bool:=decide (0<=nth aD i/\nth aD i<=512-nth ae i)&& (List.range i).all fun j=> !(decide (nth aD j<=nth aD i+nth ae i)&&decide (nth aD i<=nth aD j+nth ae j))
def fP(aD ae:List Int):Bool:=je ae&& (decide (aD.length=ae.length)&& (List.range aD.length).all (qQ aD ae))
structure nr (aD ae:List Int):Prop where
 sz:mw ae
 len:aD.length=ae.length
 base: ∀i (h:i<aD.length) (h':i<ae.length),0<=aD[i]/\aD[i]<=512-ae[i]
 apart: ∀i j (h:i<aD.length) (h':i<ae.length) (g:j<aD.length) (g':j<ae.length),i≠j->aD[i]+ae[i]<aD[j]\/aD[j]+ae[j]<aD[i]
theorem lL{aD ae:List Int}:fP aD ae=true↔nr aD ae:=by
 unfold fP;simp only[Bool.and_eq_true,decide_eq_true_eq,List.all_eq_true,lD,List.mem_range,qQ,Bool.not_eq_true',Bool.and_eq_false_iff,decide_eq_false_iff_not];constructor
 ·rintro⟨h1,h2,h3⟩;have ap: ∀i j (h:i<aD.length) (h':i<ae.length) (g:j<aD.length) (g':j<ae.length),j<i->aD[i]+ae[i]<aD[j]\/aD[j]+ae[j]<aD[i]:=by
   intro i j h h' g g' jk;have:=(h3 i h).2 j jk;rw[cZ h,cZ h',cZ g,cZ g']at this;omega
  refine⟨h1,h2,fun i h h'=> ?_,fun i j h h' g g' iK=> ?_⟩
  ·have:=(h3 i h).1;rwa[cZ h,cZ h']at this
  ·rcases Nat.lt_or_gt_of_ne iK with hh|hh
   ·have:=ap j i g g' h h' hh;omega
   ·exact ap i j h h' g g' hh
 ·rintro⟨h1,h2,h3,h4⟩;refine⟨h1,h2,fun i h=>⟨?_,fun j hj=> ?_⟩⟩
  ·rw[cZ h,cZ (h2▸h)];exact h3 i h (h2▸h)
  ·have hj1:j<aD.length:=by omega
   rw[cZ h,cZ (show i<ae.length by omega),cZ hj1,cZ (show j<ae.length by omega)];have:=h4 i j h (by omega) hj1 (by omega) (by omega);omega
def uf:List Int->Int->Nat->AT×Int
 | [],_,_=>(⟨0,0⟩,6)
 |n::l,i,r=>if 0<=i/\i<n then(⟨r,i⟩,0) else uf l (i-n) (r+1)
def qR:List Int->List Int->Int->Nat->AT×Bool
 |b::bs,z::zs,a,r=>if b<=a/\a<b+z then(⟨r,a-b⟩,true) else qR bs zs a (r+1)
 |_,_,_,_=>(⟨0,0⟩,false)
def resolve(aD ae:List Int)(a:Int):AT×Bool:=qR aD ae a 0
def canon(aD:List Int)(key:Int)(ae:List Int)(c:Cell):Canon:=
 if c.tag=0 then⟨0,c.val,0,0⟩ else if c.tag=2 then⟨2,IntKind.u16.wrap (c.val-key),0,0⟩ else
 if(resolve aD ae c.val).2=true then⟨1,0,(resolve aD ae c.val).1.region,(resolve aD ae c.val).1.offset⟩ else⟨1,0, -1,c.val⟩
def proper(ae:List Int)(x:Canon):Bool:=
 if x.tag=0\/x.tag=2 then decide (x.region=0)&&decide (x.offset=0) else if x.tag=1 then decide (x.val=0)&&inside ae x.region x.offset else false
def raw(aD:List Int)(key:Int)(ae:List Int)(x:Canon):Cell×Int:=
 if proper ae x=false then(⟨0,0⟩,1) else if x.tag=0 then(⟨0,x.val⟩,0) else if x.tag=2 then(⟨2,IntKind.u16.wrap (x.val+key)⟩,0) else(⟨1,IntKind.u16.wrap (nth aD x.region.toNat+x.offset)⟩,0)
theorem drop_cons{α:Type}{l:List α}{i:Nat}(h:i<l.length):l.drop i=l[i]::l.drop (i+1):=List.drop_eq_getElem_cons h
theorem kQ{ae:List Int}{r o:Int}:inside ae r o=true↔ ∃k,∃h:k<ae.length,r=(k:Int)/\0<=o/\o<ae[k]:=by
 unfold inside;simp only[decide_eq_true_eq];constructor
 ·rintro⟨h1,h2,h3,h4⟩;refine⟨r.toNat,by omega,by omega,h3,?_⟩;have:r.toNat<ae.length:=by omega
  simpa[List.getD,this] using h4
 ·rintro⟨k,h,rfl,h3,h4⟩;refine⟨by omega,by omega,h3,?_⟩;simpa[List.getD,h] using h4
def B7(ae:List Int)(cD:Int)(st:List Int×Int)(k:Nat):List Int×Int:=
 (st.1.set ((k+cD) % ae.length).toNat st.2,st.2+nth ae ((k+cD) % ae.length).toNat+1+cD/ (50*ae.length) % 40)
def lx(ae:List Int)(cD:Int)(k:Nat):List Int×Int:=
 (List.range k).foldl (B7 ae cD) (List.replicate ae.length 0,1+cD/ae.length % 50)
def dP(ae:List Int)(cD:Int):List Int:=(lx ae cD ae.length).1
theorem fm(ae:List Int)(cD:Int)(k:Nat):lx ae cD (k+1)=B7 ae cD (lx ae cD k) k:=by
 unfold lx;rw[List.range_succ,List.foldl_append];rfl
@[simp] theorem ax4:IntKind.i64.wrap 1=1:=by decide
@[simp] theorem ax5:IntKind.i64.wrap 2=2:=by decide
@[simp] theorem ax6:IntKind.i64.wrap 3=3:=by decide
@[simp] theorem ax7:IntKind.i64.wrap 4=4:=by decide
@[simp] theorem ax8:IntKind.i64.wrap 5=5:=by decide
@[simp] theorem ax9:IntKind.i64.wrap 6=6:=by decide
@[simp] theorem aya:IntKind.i64.wrap 7=7:=by decide
@[simp] theorem ayb:IntKind.i64.wrap 8=8:=by decide
theorem ae8{α:Type}{l:List α}(h:l.length=0):l=[]:=List.length_eq_zero_iff.1 h
theorem Pj{α:Type}{l:List α}(h:l.length=1): ∃a,l=[a]:=List.length_eq_one_iff.1 h
theorem ae9{α:Type}{l:List α}{n:Nat}(h:l.length=n+1): ∃a r,l=a::r/\r.length=n:=by
 cases l with
 |nil=>cases h
 |cons a r=>exact⟨a,r,rfl,by simpa using h⟩
theorem Pk{α:Type}{l:List α}(h:l.length=2): ∃a b,l=[a,b]:=by
 obtain⟨a,r1,e1,h1⟩:=ae9 h;obtain⟨b,e2⟩:=Pj h1;exact⟨a,b,by rw[e1,e2]⟩
theorem Pl{α:Type}{l:List α}(h:l.length=3): ∃a b c,l=[a,b,c]:=by
 obtain⟨a,r1,e1,h1⟩:=ae9 h;obtain⟨b,c,e2⟩:=Pk h1;exact⟨a,b,c,by rw[e1,e2]⟩
theorem DB{α:Type}{l:List α}(h:l.length=4): ∃a b c d,l=[a,b,c,d]:=by
 obtain⟨a,r1,e1,h1⟩:=ae9 h;obtain⟨b,c,d,e2⟩:=Pl h1;exact⟨a,b,c,d,by rw[e1,e2]⟩
theorem m9{α:Type}{f:α->V}{hx:aY}(h: ∀x,bT hx 12 (f x)=some (f x)): ∀l:List α,cn (l.map (bT hx 12∘f))=some (l.map f)
 | []=>rfl
 |a::l=>by simp[cn,h a,m9 h l]
theorem nK{α:Type}{f:α->V}(h: ∀x,(f x).jm=f x): ∀l:List α,df (l.map f)=l.map f
 | []=>rfl
 |a::l=>by simp[df,h a,nK h l]
@[simp] theorem al6(hx:aY)(l:List dT):cn (l.map (bT hx 12∘dT.e))=some (l.map dT.e):=m9 (fun _=>rfl) l
@[simp] theorem sC(l:List dT):df (l.map dT.e)=l.map dT.e:=nK (fun _=>rfl) l
theorem Lu(l:List Canon):df (l.map Canon.e)=l.map Canon.e:=nK (fun _=>rfl) l
theorem pE{α:Type}{f:α->V}{l:List α}{i:Nat}(h:i<l.length):List.take i (List.take i (l.map f))++ [f l[i]]=List.take (i+1) (l.map f):=by
 rw[List.take_take,Nat.min_self,List.take_add_one];simp[h]
end Go.Proofs.YtejohpnpnaljdaaGreat
