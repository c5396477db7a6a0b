/- Part of a proof: T2. -/
import Derived.Test.YtdngefmliibcgaaGreatM05
import Derived.Test.YtdngefmliibcgaaGreatM10
set_option linter.all false
set_option maxRecDepth 20000
set_option maxHeartbeats 20000000
namespace Go.Proofs.YtdngefmliibcgaaGreat
open Go Go.Abs
def ok0:okB X 0 12=true:=by decide+kernel
def ok1:okB X 12 12=true:=by decide+kernel
def ok2:okB X 24 12=true:=by decide+kernel
def ok3:okB X 36 12=true:=by decide+kernel
def ok4:okB X 48 12=true:=by decide+kernel
def ok5:okB X 60 12=true:=by decide+kernel
def ok6:okB X 72 12=true:=by decide+kernel
def ok7:okB X 84 12=true:=by decide+kernel
def ok8:okB X 96 12=true:=by decide+kernel
def ok9:okB X 108 12=true:=by decide+kernel
def a7v:okB X 120 12=true:=by decide+kernel
def a7w:okB X 132 12=true:=by decide+kernel
def a7x:okB X 144 12=true:=by decide+kernel
def a7y:okB X 156 12=true:=by decide+kernel
def a7z:okB X 168 12=true:=by decide+kernel
def a70:okB X 180 12=true:=by decide+kernel
def a71:okB X 192 12=true:=by decide+kernel
def a72:okB X 204 12=true:=by decide+kernel
def a73:okB X 216 12=true:=by decide+kernel
def a74:okB X 228 12=true:=by decide+kernel
def a75:okB X 240 12=true:=by decide+kernel
def a76:okB X 252 12=true:=by decide+kernel
def a77:okB X 264 12=true:=by decide+kernel
def a78:okB X 276 12=true:=by decide+kernel
def a79:okB X 288 12=true:=by decide+kernel
def a8a:okB X 300 12=true:=by decide+kernel
def a8b:okB X 312 8=true:=by decide+kernel
def ay3:Jb X (lk X):=by
 intro g fn hf hp;have hg:g<320:=(Array.getElem?_eq_some_iff.1 hf).1;rcases aaR g 12 with h0|h0
 ·exact jn ok0 (by omega) (by omega) hf hp
 rcases aaR g 24 with h1|h1
 ·exact jn ok1 (by omega) (by omega) hf hp
 rcases aaR g 36 with h2|h2
 ·exact jn ok2 (by omega) (by omega) hf hp
 rcases aaR g 48 with h3|h3
 ·exact jn ok3 (by omega) (by omega) hf hp
 rcases aaR g 60 with h4|h4
 ·exact jn ok4 (by omega) (by omega) hf hp
 rcases aaR g 72 with h5|h5
 ·exact jn ok5 (by omega) (by omega) hf hp
 rcases aaR g 84 with h6|h6
 ·exact jn ok6 (by omega) (by omega) hf hp
 rcases aaR g 96 with h7|h7
 ·exact jn ok7 (by omega) (by omega) hf hp
 rcases aaR g 108 with h8|h8
 ·exact jn ok8 (by omega) (by omega) hf hp
 rcases aaR g 120 with h9|h9
 ·exact jn ok9 (by omega) (by omega) hf hp
 rcases aaR g 132 with zx|zx
 ·exact jn a7v (by omega) (by omega) hf hp
 rcases aaR g 144 with FP|FP
 ·exact jn a7w (by omega) (by omega) hf hp
 rcases aaR g 156 with LC|LC
 ·exact jn a7x (by omega) (by omega) hf hp
 rcases aaR g 168 with h13|h13
 ·exact jn a7y (by omega) (by omega) hf hp
 rcases aaR g 180 with h14|h14
 ·exact jn a7z (by omega) (by omega) hf hp
 rcases aaR g 192 with h15|h15
 ·exact jn a70 (by omega) (by omega) hf hp
 rcases aaR g 204 with h16|h16
 ·exact jn a71 (by omega) (by omega) hf hp
 rcases aaR g 216 with h17|h17
 ·exact jn a72 (by omega) (by omega) hf hp
 rcases aaR g 228 with h18|h18
 ·exact jn a73 (by omega) (by omega) hf hp
 rcases aaR g 240 with h19|h19
 ·exact jn a74 (by omega) (by omega) hf hp
 rcases aaR g 252 with h20|h20
 ·exact jn a75 (by omega) (by omega) hf hp
 rcases aaR g 264 with h21|h21
 ·exact jn a76 (by omega) (by omega) hf hp
 rcases aaR g 276 with h22|h22
 ·exact jn a77 (by omega) (by omega) hf hp
 rcases aaR g 288 with S7|S7
 ·exact jn a78 (by omega) (by omega) hf hp
 rcases aaR g 300 with h24|h24
 ·exact jn a79 (by omega) (by omega) hf hp
 rcases aaR g 312 with h25|h25
 ·exact jn a8a (by omega) (by omega) hf hp
 exact jn a8b (by omega) (by omega) hf hp
def ar0:vg X:=by
 intro f key N h;change nmL f key=some N at h;unfold nmL at h;split at h;all_goals simp only[ayp,ayq,ayr,ays,ayt,ayu,ann,ano,anp,anq,anr,ans,Z6,Z7,Z8,ant,Z9,anu,anv,anw,anx,aaa,anz,an0,an1,an2,aab,aac,an3,an4,aad,aae,aaf,an5,aag,aah,aai,aaj,aak,aal,aam,an6,an7,an8,Qt,Qu,Qv,Qw,Qx,aan,Qy,Qz,QA,QB,QC,QD,QE,QF,QH,QI,QJ,QK,QL,QM,QN,QO,QP,QQ,aao,aap,QR,QS,aaq,QT,QU,QV,QW,QX,QY,QZ,Q0,Q1,Q2,Q3,Q4,Q5,Q6,Q7,aar,Q8,Q9,Ra,Rb,Rc,Rd,Re,reduceCtorEq]at h
 all_goals (repeat' split at h)
 all_goals simp only[aA,reduceCtorEq]at h
 all_goals (subst h;exact⟨by decide+kernel,rfl,by decide+kernel⟩)
def ai4: ∀g t,X.clone g=some t->Ew X g t:=by
 intro g t h;change cl g=some t at h;unfold cl at h;split at h<;>simp only[aA,reduceCtorEq]at h<;>subst h<;>
  exact⟨rfl,by decide+kernel,_,_,_,_,_,_,_,_,_,_,_,_,_,_,_,rfl,rfl,rfl,rfl,by decide+kernel,⟨rfl,rfl,rfl⟩,⟨rfl,rfl,rfl⟩,⟨rfl,rfl,rfl⟩,⟨rfl,rfl,rfl⟩,⟨rfl,rfl,rfl⟩,⟨rfl,rfl,rfl⟩,⟨rfl,rfl,rfl⟩,rfl,⟨rfl,rfl,rfl⟩⟩
def ar1:Fk X:=by intro g pr h;cases h
def abj: ∀g,(X.oW g).isSome=true->vZ X g:=by intro g h;cases h
def Kw:qY X (cL X):=UW ay3 ar0 ai4 ar1 abj
end Go.Proofs.YtdngefmliibcgaaGreat
