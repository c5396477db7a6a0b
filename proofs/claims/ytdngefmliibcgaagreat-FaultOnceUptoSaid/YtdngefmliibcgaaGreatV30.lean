/- part -/
import Derived.Test.YtdngefmliibcgaaGreatV02
import Derived.Test.YtdngefmliibcgaaGreatV29
set_option linter.all false
set_option maxRecDepth 20000
set_option maxHeartbeats 20000000
namespace Go.Proofs.YtdngefmliibcgaaGreat
open Go Go.Abs
def ok0:okB X 0 12=true:=by decide+kernel
def ok1:okB X 12 12=true:=by decide+kernel
def ok2:okB X 24 12=true:=by decide+kernel
def ok3:okB X 36 12=true:=by decide+kernel
def ok4:okB X 48 12=true:=by decide+kernel
def ok5:okB X 60 12=true:=by decide+kernel
def ok6:okB X 72 12=true:=by decide+kernel
def ok7:okB X 84 12=true:=by decide+kernel
def ok8:okB X 96 12=true:=by decide+kernel
def ok9:okB X 108 12=true:=by decide+kernel
def a9h:okB X 120 12=true:=by decide+kernel
def a9i:okB X 132 12=true:=by decide+kernel
def a9j:okB X 144 12=true:=by decide+kernel
def a9k:okB X 156 12=true:=by decide+kernel
def a9l:okB X 168 12=true:=by decide+kernel
def a9m:okB X 180 12=true:=by decide+kernel
def a9n:okB X 192 12=true:=by decide+kernel
def a9o:okB X 204 12=true:=by decide+kernel
def a9p:okB X 216 12=true:=by decide+kernel
def a9q:okB X 228 12=true:=by decide+kernel
def a9r:okB X 240 12=true:=by decide+kernel
def a9s:okB X 252 12=true:=by decide+kernel
def a9t:okB X 264 12=true:=by decide+kernel
def a9u:okB X 276 12=true:=by decide+kernel
def a9v:okB X 288 12=true:=by decide+kernel
def a9w:okB X 300 12=true:=by decide+kernel
def a9x:okB X 312 8=true:=by decide+kernel
def a0i:Jv X (lp X):=by
 intro g fn hf hp;have hg:g<320:=(Array.getElem?_eq_some_iff.1 hf).1;rcases aaR g 12 with h0|h0
 ·exact jn ok0 (by omega) (by omega) hf hp
 rcases aaR g 24 with h1|h1
 ·exact jn ok1 (by omega) (by omega) hf hp
 rcases aaR g 36 with h2|h2
 ·exact jn ok2 (by omega) (by omega) hf hp
 rcases aaR g 48 with h3|h3
 ·exact jn ok3 (by omega) (by omega) hf hp
 rcases aaR g 60 with h4|h4
 ·exact jn ok4 (by omega) (by omega) hf hp
 rcases aaR g 72 with h5|h5
 ·exact jn ok5 (by omega) (by omega) hf hp
 rcases aaR g 84 with h6|h6
 ·exact jn ok6 (by omega) (by omega) hf hp
 rcases aaR g 96 with h7|h7
 ·exact jn ok7 (by omega) (by omega) hf hp
 rcases aaR g 108 with h8|h8
 ·exact jn ok8 (by omega) (by omega) hf hp
 rcases aaR g 120 with h9|h9
 ·exact jn ok9 (by omega) (by omega) hf hp
 rcases aaR g 132 with zG|zG
 ·exact jn a9h (by omega) (by omega) hf hp
 rcases aaR g 144 with F9|F9
 ·exact jn a9i (by omega) (by omega) hf hp
 rcases aaR g 156 with L7|L7
 ·exact jn a9j (by omega) (by omega) hf hp
 rcases aaR g 168 with h13|h13
 ·exact jn a9k (by omega) (by omega) hf hp
 rcases aaR g 180 with h14|h14
 ·exact jn a9l (by omega) (by omega) hf hp
 rcases aaR g 192 with h15|h15
 ·exact jn a9m (by omega) (by omega) hf hp
 rcases aaR g 204 with h16|h16
 ·exact jn a9n (by omega) (by omega) hf hp
 rcases aaR g 216 with h17|h17
 ·exact jn a9o (by omega) (by omega) hf hp
 rcases aaR g 228 with h18|h18
 ·exact jn a9p (by omega) (by omega) hf hp
 rcases aaR g 240 with h19|h19
 ·exact jn a9q (by omega) (by omega) hf hp
 rcases aaR g 252 with h20|h20
 ·exact jn a9r (by omega) (by omega) hf hp
 rcases aaR g 264 with h21|h21
 ·exact jn a9s (by omega) (by omega) hf hp
 rcases aaR g 276 with h22|h22
 ·exact jn a9t (by omega) (by omega) hf hp
 rcases aaR g 288 with TC|TC
 ·exact jn a9u (by omega) (by omega) hf hp
 rcases aaR g 300 with h24|h24
 ·exact jn a9v (by omega) (by omega) hf hp
 rcases aaR g 312 with h25|h25
 ·exact jn a9w (by omega) (by omega) hf hp
 exact jn a9x (by omega) (by omega) hf hp
def as3:vo X:=by
 intro f key N h;change nmL f key=some N at h;unfold nmL at h;split at h;all_goals simp only[aa4,aa5,aa6,aa7,aa8,aa9,aba,abb,abc,abd,abe,abf,abg,abh,abi,abj,abk,abl,abm,abn,QY,QZ,Q0,Q1,Q2,Q3,Q4,Q5,Q6,Q7,Q8,Q9,Ra,Rb,Rc,Rd,Re,Rf,Rg,Rh,Ri,Rj,Rk,Rl,Rm,Rn,Rp,Rq,Rr,Rt,Ru,Rv,Rw,Rx,Ry,Rz,RA,RB,RC,RD,RE,RF,RG,RH,RI,RK,RL,reduceCtorEq]at h
 all_goals (repeat' split at h)
 all_goals simp only[aA,reduceCtorEq]at h
 all_goals (subst h;exact⟨by decide+kernel,rfl,by decide+kernel⟩)
def aj1: ∀g t,X.clone g=some t->EP X g t:=by
 intro g t h;change cl g=some t at h;unfold cl at h;split at h<;>simp only[aA,reduceCtorEq]at h<;>subst h<;>
  exact⟨rfl,by decide+kernel,_,_,_,_,_,_,_,_,_,_,_,_,_,_,_,rfl,rfl,rfl,rfl,by decide+kernel,⟨rfl,rfl,rfl⟩,⟨rfl,rfl,rfl⟩,⟨rfl,rfl,rfl⟩,⟨rfl,rfl,rfl⟩,⟨rfl,rfl,rfl⟩,⟨rfl,rfl,rfl⟩,⟨rfl,rfl,rfl⟩,rfl,⟨rfl,rfl,rfl⟩⟩
def as4:FE X:=by intro g pr h;cases h
def acn: ∀g,(X.oS g).isSome=true->wc X g:=by intro g h;cases h
def KR:qY X (cL X):=Vn a0i as3 aj1 as4 acn
end Go.Proofs.YtdngefmliibcgaaGreat
