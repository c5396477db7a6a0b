import Derived.Test.YtdngefmliibcgaaGreatB02
import Derived.Test.YtdngefmliibcgaaGreatB34
set_option linter.all false
set_option maxRecDepth 20000
set_option maxHeartbeats 0
namespace Go.Proofs.YtdngefmliibcgaaGreat
open Go Go.Abs
def Nk:okB X 0 12=true:=aF
def Ni:okB X 12 12=true:=aF
def Nh:okB X 24 12=true:=aF
def Fy:okB X 36 12=true:=aF
def Ng:okB X 48 12=true:=aF
def Nf:okB X 60 12=true:=aF
def Nc:okB X 72 12=true:=aF
def Nb:okB X 84 12=true:=aF
def Na:okB X 96 12=true:=aF
def M':okB X 108 12=true:=aF
def a9z:okB X 120 12=true:=aF
def a90:okB X 132 12=true:=aF
def a91:okB X 144 12=true:=aF
def a92:okB X 156 12=true:=aF
def a93:okB X 168 12=true:=aF
def a94:okB X 180 12=true:=aF
def a95:okB X 192 12=true:=aF
def a96:okB X 204 12=true:=aF
def a97:okB X 216 12=true:=aF
def a98:okB X 228 12=true:=aF
def a99:okB X 240 12=true:=aF
def PP:okB X 252 12=true:=aF
def PL:okB X 264 12=true:=aF
def Pu:okB X 276 12=true:=aF
def Pt:okB X 288 12=true:=aF
def Pr:okB X 300 12=true:=aF
def Pq:okB X 312 8=true:=aF
def a1x:Kw X (lD X):=by
 intro g fn h p;have V:g<320:=(Array.getElem?_eq_some_iff.1 h).1;rcases ru g 12 with h0|h0
 .exact jx Nk ab ab h p
 rcases ru g 24 with h1|h1
 .exact jx Ni ab ab h p
 rcases ru g 36 with M|M
 .exact jx Nh ab ab h p
 rcases ru g 48 with S|S
 .exact jx Fy ab ab h p
 rcases ru g 60 with b|b
 .exact jx Ng ab ab h p
 rcases ru g 72 with i|i
 .exact jx Nf ab ab h p
 rcases ru g 84 with q|q
 .exact jx Nc ab ab h p
 rcases ru g 96 with y|y
 .exact jx Nb ab ab h p
 rcases ru g 108 with G|G
 .exact jx Na ab ab h p
 rcases ru g 120 with O|O
 .exact jx M' ab ab h p
 rcases ru g 132 with B|B
 .exact jx a9z ab ab h p
 rcases ru g 144 with U|U
 .exact jx a90 ab ab h p
 rcases ru g 156 with J|J
 .exact jx a91 ab ab h p
 rcases ru g 168 with t|t
 .exact jx a92 ab ab h p
 rcases ru g 180 with C|C
 .exact jx a93 ab ab h p
 rcases ru g 192 with L|L
 .exact jx a94 ab ab h p
 rcases ru g 204 with D|D
 .exact jx a95 ab ab h p
 rcases ru g 216 with W|W
 .exact jx a96 ab ab h p
 rcases ru g 228 with m|m
 .exact jx a97 ab ab h p
 rcases ru g 240 with v|v
 .exact jx a98 ab ab h p
 rcases ru g 252 with a|a
 .exact jx a99 ab ab h p
 rcases ru g 264 with j|j
 .exact jx PP ab ab h p
 rcases ru g 276 with s|s
 .exact jx PL ab ab h p
 rcases ru g 288 with k|k
 .exact jx Pu ab ab h p
 rcases ru g 300 with K|K
 .exact jx Pt ab ab h p
 rcases ru g 312 with T|T
 .exact jx Pr ab ab h p
 exact jx Pq ab ab h p
def Rs:wL X:=by
 intro f key N h;change AO f key=some N at h;unfold AO at h;split at h;all_goals simp only[Bl,Bi,Bh,HC,EW,EV,EQ,EP,EJ,EI,EB,EA,Er,HU,nQ63,Fo,Fm,Fl,Fa,E',E_,E9,E2,E1,Hz,R8,Sa,Sb,Sc,Sd,Se,Sf,Sg,Sh,Si,Sj,Sk,Sl,Sm,Sn,So,Sp,Sq,Sr,Ss,Su,Sv,Sw,Sx,Sy,Sz,SA,SB,SC,SD,SF,SH,SI,SJ,SK,SL,SM,SN,reduceCtorEq]at h
 all_goals (repeat' split at h)
 all_goals simp only[aS,reduceCtorEq]at h
 all_goals (subst h;exact⟨aF,rfl,aF⟩)
def V': ∀g t,X.clone g=some t->F5 X g t:=by
 intro g t h;change cl g=some t at h;unfold cl at h;split at h<;>simp only[aS,reduceCtorEq]at h<;>subst h<;>
  exact⟨rfl,aF,_,_,_,_,_,_,_,_,_,_,_,_,_,_,_,rfl,rfl,rfl,rfl,aF,⟨rfl,rfl,rfl⟩,⟨rfl,rfl,rfl⟩,⟨rfl,rfl,rfl⟩,⟨rfl,rfl,rfl⟩,⟨rfl,rfl,rfl⟩,⟨rfl,rfl,rfl⟩,⟨rfl,rfl,rfl⟩,rfl,⟨rfl,rfl,rfl⟩⟩
def Ro:G5 X:=by intro g p h;cases h
def aef: ∀g,(X.pO g).isSome=true->xm X g:=by intro g h;cases h
def B2:sb X (df X):=Wc a1x Rs V' Ro aef
end Go.Proofs.YtdngefmliibcgaaGreat
