/- Part of a proof: T2. -/
import Derived.Test.YtdngefmliibcgaaGreatM03
import Derived.Test.YtdngefmliibcgaaGreatM31
set_option linter.all false
set_option maxRecDepth 20000
set_option maxHeartbeats 20000000
namespace Go.Proofs.YtdngefmliibcgaaGreat
open Go Go.Abs
theorem ok0:okB X 0 12=true:=by decide+kernel
theorem ok1:okB X 12 12=true:=by decide+kernel
theorem ok2:okB X 24 12=true:=by decide+kernel
theorem ok3:okB X 36 12=true:=by decide+kernel
theorem ok4:okB X 48 12=true:=by decide+kernel
theorem ok5:okB X 60 12=true:=by decide+kernel
theorem ok6:okB X 72 12=true:=by decide+kernel
theorem ok7:okB X 84 12=true:=by decide+kernel
theorem ok8:okB X 96 12=true:=by decide+kernel
theorem ok9:okB X 108 12=true:=by decide+kernel
theorem aey:okB X 120 12=true:=by decide+kernel
theorem aez:okB X 132 12=true:=by decide+kernel
theorem ae0:okB X 144 12=true:=by decide+kernel
theorem ae1:okB X 156 12=true:=by decide+kernel
theorem ae2:okB X 168 12=true:=by decide+kernel
theorem ae3:okB X 180 12=true:=by decide+kernel
theorem ae4:okB X 192 12=true:=by decide+kernel
theorem ae5:okB X 204 12=true:=by decide+kernel
theorem ae6:okB X 216 12=true:=by decide+kernel
theorem ae7:okB X 228 12=true:=by decide+kernel
theorem ae8:okB X 240 12=true:=by decide+kernel
theorem ae9:okB X 252 12=true:=by decide+kernel
theorem afa:okB X 264 12=true:=by decide+kernel
theorem afb:okB X 276 12=true:=by decide+kernel
theorem afc:okB X 288 12=true:=by decide+kernel
theorem afd:okB X 300 12=true:=by decide+kernel
theorem afe:okB X 312 8=true:=by decide+kernel
theorem Zd:Aj X (fZ X):=by
 intro g fn hf hp;have hg:g<320:=(Array.getElem?_eq_some_iff.1 hf).1;rcases Nat.lt_or_ge g 12 with h0|h0
 ·exact dJ ok0 (by omega) (by omega) hf hp
 rcases Nat.lt_or_ge g 24 with h1|h1
 ·exact dJ ok1 (by omega) (by omega) hf hp
 rcases Nat.lt_or_ge g 36 with h2|h2
 ·exact dJ ok2 (by omega) (by omega) hf hp
 rcases Nat.lt_or_ge g 48 with h3|h3
 ·exact dJ ok3 (by omega) (by omega) hf hp
 rcases Nat.lt_or_ge g 60 with h4|h4
 ·exact dJ ok4 (by omega) (by omega) hf hp
 rcases Nat.lt_or_ge g 72 with h5|h5
 ·exact dJ ok5 (by omega) (by omega) hf hp
 rcases Nat.lt_or_ge g 84 with h6|h6
 ·exact dJ ok6 (by omega) (by omega) hf hp
 rcases Nat.lt_or_ge g 96 with h7|h7
 ·exact dJ ok7 (by omega) (by omega) hf hp
 rcases Nat.lt_or_ge g 108 with h8|h8
 ·exact dJ ok8 (by omega) (by omega) hf hp
 rcases Nat.lt_or_ge g 120 with h9|h9
 ·exact dJ ok9 (by omega) (by omega) hf hp
 rcases Nat.lt_or_ge g 132 with qF|qF
 ·exact dJ aey (by omega) (by omega) hf hp
 rcases Nat.lt_or_ge g 144 with zI|zI
 ·exact dJ aez (by omega) (by omega) hf hp
 rcases Nat.lt_or_ge g 156 with zi|zi
 ·exact dJ ae0 (by omega) (by omega) hf hp
 rcases Nat.lt_or_ge g 168 with NK|NK
 ·exact dJ ae1 (by omega) (by omega) hf hp
 rcases Nat.lt_or_ge g 180 with h14|h14
 ·exact dJ ae2 (by omega) (by omega) hf hp
 rcases Nat.lt_or_ge g 192 with h15|h15
 ·exact dJ ae3 (by omega) (by omega) hf hp
 rcases Nat.lt_or_ge g 204 with h16|h16
 ·exact dJ ae4 (by omega) (by omega) hf hp
 rcases Nat.lt_or_ge g 216 with h17|h17
 ·exact dJ ae5 (by omega) (by omega) hf hp
 rcases Nat.lt_or_ge g 228 with h18|h18
 ·exact dJ ae6 (by omega) (by omega) hf hp
 rcases Nat.lt_or_ge g 240 with h19|h19
 ·exact dJ ae7 (by omega) (by omega) hf hp
 rcases Nat.lt_or_ge g 252 with h20|h20
 ·exact dJ ae8 (by omega) (by omega) hf hp
 rcases Nat.lt_or_ge g 264 with h21|h21
 ·exact dJ ae9 (by omega) (by omega) hf hp
 rcases Nat.lt_or_ge g 276 with h22|h22
 ·exact dJ afa (by omega) (by omega) hf hp
 rcases Nat.lt_or_ge g 288 with GW|GW
 ·exact dJ afb (by omega) (by omega) hf hp
 rcases Nat.lt_or_ge g 300 with h24|h24
 ·exact dJ afc (by omega) (by omega) hf hp
 rcases Nat.lt_or_ge g 312 with h25|h25
 ·exact dJ afd (by omega) (by omega) hf hp
 exact dJ afe (by omega) (by omega) hf hp
theorem Vl:oS X:=by
 intro f key N h;change nmL f key=some N at h;unfold nmL at h;split at h;all_goals simp only[YU,YV,YW,YX,YY,YZ,SF,MX,SH,SI,SJ,SK,SL,SM,SN,SO,SP,SQ,SR,SS,SU,SV,MY,SW,MZ,SX,M0,SY,SZ,S4,S5,S6,S7,M3,S8,S9,Ta,Tb,M4,Tc,Td,M5,M6,M7,Fw,Fx,Fy,Fz,FA,M8,M9,Na,Nb,Nc,Nd,Nf,Ng,Nh,FB,FC,FD,Ni,Nj,FE,Nk,Nl,Nm,FF,FG,FH,FI,FJ,Nn,No,Np,Nq,Nr,Ns,Nt,Nu,Nv,FK,FL,FM,FN,FO,FP,Nw,Nx,Ny,FQ,FR,Nz,NA,NB,FT,reduceCtorEq]at h
 all_goals (repeat' split at h)
 all_goals simp only[aa,reduceCtorEq]at h
 all_goals (subst h;exact⟨by decide+kernel,rfl,by decide+kernel⟩)
theorem QG: ∀g t,X.clone g=some t→wR X g t:=by
 intro g t h;change cl g=some t at h;unfold cl at h;split at h<;>simp only[aa,reduceCtorEq]at h<;>subst h<;>
  exact⟨rfl,by decide+kernel,_,_,_,_,_,_,_,_,_,_,_,_,_,_,_,rfl,rfl,rfl,rfl,by decide+kernel,⟨rfl,rfl,rfl⟩,⟨rfl,rfl,rfl⟩,⟨rfl,rfl,rfl⟩,⟨rfl,rfl,rfl⟩,⟨rfl,rfl,rfl⟩,⟨rfl,rfl,rfl⟩,⟨rfl,rfl,rfl⟩,rfl,⟨rfl,rfl,rfl⟩⟩
theorem Vm:xF X:=by intro g pr h;cases h
theorem NL: ∀g,(X.ki g).isSome=true→pA X g:=by intro g h;cases h
theorem Bg:k8 X (bt X):=IG Zd Vl QG Vm NL
end Go.Proofs.YtdngefmliibcgaaGreat
