/- Part of a proof: T2. -/
import Derived.Test.YtejohpnpnaljdaaGreatM03
import Derived.Test.YtejohpnpnaljdaaGreatM09
set_option linter.all false
set_option maxRecDepth 20000
set_option maxHeartbeats 20000000
namespace Go.Proofs.YtejohpnpnaljdaaGreat
open Go Go.Abs
theorem ok0:okB X 0 12=true:=by decide+kernel
theorem ok1:okB X 12 12=true:=by decide+kernel
theorem ok2:okB X 24 12=true:=by decide+kernel
theorem ok3:okB X 36 12=true:=by decide+kernel
theorem ok4:okB X 48 12=true:=by decide+kernel
theorem ok5:okB X 60 12=true:=by decide+kernel
theorem ok6:okB X 72 12=true:=by decide+kernel
theorem ok7:okB X 84 12=true:=by decide+kernel
theorem ok8:okB X 96 12=true:=by decide+kernel
theorem ok9:okB X 108 12=true:=by decide+kernel
theorem atd:okB X 120 12=true:=by decide+kernel
theorem ate:okB X 132 12=true:=by decide+kernel
theorem atf:okB X 144 12=true:=by decide+kernel
theorem atg:okB X 156 12=true:=by decide+kernel
theorem ath:okB X 168 12=true:=by decide+kernel
theorem ati:okB X 180 12=true:=by decide+kernel
theorem atj:okB X 192 12=true:=by decide+kernel
theorem atk:okB X 204 12=true:=by decide+kernel
theorem atl:okB X 216 12=true:=by decide+kernel
theorem atm:okB X 228 12=true:=by decide+kernel
theorem atn:okB X 240 4=true:=by decide+kernel
theorem alx:Ec X (jD X):=by
 intro g fn hf;have hg:g<244:=(Array.getElem?_eq_some_iff.1 hf).1;rcases Nat.lt_or_ge g 12 with h0|h0
 ·exact jd ok0 (by omega) (by omega) hf
 rcases Nat.lt_or_ge g 24 with h1|h1
 ·exact jd ok1 (by omega) (by omega) hf
 rcases Nat.lt_or_ge g 36 with h2|h2
 ·exact jd ok2 (by omega) (by omega) hf
 rcases Nat.lt_or_ge g 48 with h3|h3
 ·exact jd ok3 (by omega) (by omega) hf
 rcases Nat.lt_or_ge g 60 with h4|h4
 ·exact jd ok4 (by omega) (by omega) hf
 rcases Nat.lt_or_ge g 72 with h5|h5
 ·exact jd ok5 (by omega) (by omega) hf
 rcases Nat.lt_or_ge g 84 with h6|h6
 ·exact jd ok6 (by omega) (by omega) hf
 rcases Nat.lt_or_ge g 96 with h7|h7
 ·exact jd ok7 (by omega) (by omega) hf
 rcases Nat.lt_or_ge g 108 with h8|h8
 ·exact jd ok8 (by omega) (by omega) hf
 rcases Nat.lt_or_ge g 120 with h9|h9
 ·exact jd ok9 (by omega) (by omega) hf
 rcases Nat.lt_or_ge g 132 with vE|vE
 ·exact jd atd (by omega) (by omega) hf
 rcases Nat.lt_or_ge g 144 with B5|B5
 ·exact jd ate (by omega) (by omega) hf
 rcases Nat.lt_or_ge g 156 with Ei|Ei
 ·exact jd atf (by omega) (by omega) hf
 rcases Nat.lt_or_ge g 168 with Uo|Uo
 ·exact jd atg (by omega) (by omega) hf
 rcases Nat.lt_or_ge g 180 with h14|h14
 ·exact jd ath (by omega) (by omega) hf
 rcases Nat.lt_or_ge g 192 with h15|h15
 ·exact jd ati (by omega) (by omega) hf
 rcases Nat.lt_or_ge g 204 with h16|h16
 ·exact jd atj (by omega) (by omega) hf
 rcases Nat.lt_or_ge g 216 with h17|h17
 ·exact jd atk (by omega) (by omega) hf
 rcases Nat.lt_or_ge g 228 with h18|h18
 ·exact jd atl (by omega) (by omega) hf
 rcases Nat.lt_or_ge g 240 with h19|h19
 ·exact jd atm (by omega) (by omega) hf
 exact jd atn (by omega) (by omega) hf
theorem aey:rW X:=by
 intro f key N h;change nmL f key=some N at h;unfold nmL at h;split at h;all_goals simp only[alh,ali,alj,alk,alm,aln,aa4,aa5,aa6,aa7,aa8,aa9,aba,Tt,Tu,Tv,Tw,abb,Tx,Ty,abc,Tz,abd,TA,TB,abe,TC,abf,TD,TE,TF,TG,TH,TK,TL,TM,TN,TO,abg,TP,TQ,abh,TS,TT,TU,TV,K0,K1,K2,K3,K4,K5,K6,K7,K8,K9,La,Lb,Lc,Ld,Le,Lf,Lg,TW,Lh,Li,Lj,Lk,Ll,Lm,Ln,Lo,Lp,Lq,Lr,reduceCtorEq]at h
 all_goals (repeat' split at h)
 all_goals simp only[au,reduceCtorEq]at h
 all_goals (subst h;exact⟨by decide+kernel,rfl,by decide+kernel⟩)
theorem cX6: ∀g t,X.clone g=some t->Bc X g t:=by
 intro g t h;change cl g=some t at h;unfold cl at h;split at h<;>simp only[au,reduceCtorEq]at h<;>subst h<;>
  exact⟨rfl,by decide+kernel,_,_,_,_,_,_,_,_,_,_,_,_,_,_,_,rfl,rfl,rfl,rfl,by decide+kernel,⟨rfl,rfl,rfl⟩,⟨rfl,rfl,rfl⟩,⟨rfl,rfl,rfl⟩,⟨rfl,rfl,rfl⟩,⟨rfl,rfl,rfl⟩,⟨rfl,rfl,rfl⟩,⟨rfl,rfl,rfl⟩,rfl,⟨rfl,rfl,rfl⟩⟩
theorem Fo:qj X (cy X):=Og alx aey cX6
end Go.Proofs.YtejohpnpnaljdaaGreat
