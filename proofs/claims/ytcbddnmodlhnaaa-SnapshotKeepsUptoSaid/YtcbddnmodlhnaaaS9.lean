/-
  SnapshotKeeps (second form): where what it reads is of bulk at most 1048576, the law answers true and its input reads as before.
-/
import Derived.Test.YtcbddnmodlhnaaaS7
import Derived.Test.YtcbddnmodlhnaaaS8
set_option linter.unusedVariables false
set_option linter.unusedSimpArgs false
namespace Go.Proofs.Ytcbddnmodlhnaaa
open Go Go.Abs

theorem sz_B (l : List Int) : vszL (l.map encB) = l.length := by
  induction l with
  | nil => rfl
  | cons c l ih => simp only [List.map_cons, vszL, ih, encB, vsz, List.length_cons]; omega

theorem bytes_dec : ∀ {es : List V}, (∀ e ∈ es, ∃ b : Int, e = encB b ∧ 0 ≤ b ∧ b ≤ 255) → ∃ l : List Int, es = l.map encB ∧ ∀ b ∈ l, 0 ≤ b ∧ b ≤ 255
  | [], _ => ⟨[], rfl, fun _ h => by cases h⟩
  | e :: es, h => by
    obtain ⟨b, hb, hr⟩ := h e (by simp)
    obtain ⟨l, hl, hl2⟩ := bytes_dec (es := es) fun x hx => h x (by simp [hx])
    refine ⟨b :: l, by rw [hb, hl]; rfl, fun x hx => ?_⟩
    rcases List.mem_cons.1 hx with rfl | hx
    · exact hr
    · exact hl2 x hx

theorem u8_range {n : Int} (h : IntKind.u8.min ≤ n ∧ n ≤ IntKind.u8.max) : 0 ≤ n ∧ n ≤ 255 := by
  simpa [IntKind.min, IntKind.max, IntKind.signed, IntKind.bits] using h

namespace keeps

theorem lawOk : LawOk X.P Try.f4 [(false, [.sl false [.int .u8]]), (false, [.int .u8])] 4 :=
  ⟨by kernel_rfl, by kernel_rfl, by kernel_rfl, rfl, rfl⟩

theorem lawAt (vs : List V) (h : okArgs [(false, [.sl false [.int .u8]]), (false, [.int .u8])] vs) (hb : vszL vs ≤ 1048576) : ∃ h k, callL X 4 vs noheap 0 = some (.bool true, h, k) := by
  simp only [okArgs, okL, okC] at h
  obtain ⟨_, _, rfl, ⟨_, _, rfl, ⟨es, rfl, _, hes⟩, rfl⟩, _, _, rfl, ⟨_, _, rfl, ⟨n, rfl, hn⟩, rfl⟩, rfl⟩ := h
  obtain ⟨l, rfl, hl⟩ := bytes_dec (es := es) fun e he => by
    obtain ⟨xs, hx, _, _, rfl, ⟨b, rfl, hb⟩, rfl⟩ := hes e he
    exact ⟨b, hx, u8_range hb⟩
  have e1 : ofCells false [V.sl false (l.map encB)] = .sl false (l.map encB) := rfl
  have e2 : ofCells false [V.int .u8 n] = .int .u8 n := rfl
  rw [e1, e2] at hb ⊢
  simp only [vszL] at hb
  have e3 : vsz (.sl false (l.map encB)) = vszL (l.map encB) + 1 := rfl
  rw [e3, sz_B] at hb
  obtain ⟨v, h, k, h1, rfl⟩ := law4 l n hl (u8_range hn) (by omega)
  exact ⟨h, k, h1⟩

set_option maxRecDepth 100000 in
theorem lifted (os : Os) (started : os.Started) (H : Type) (enc : TypeId × Value → H) (F : Stop.Interp) :
    ReturnsInHanded {} Try.checked os 4 .any ((Rows.OpenSpec.upto Rows.snapshotKeepsSpec).pre6 enc Try.prog Try.f4 Rows.snapshotKeepsUptoRow.domain false) (((Rows.OpenSpec.upto Rows.snapshotKeepsSpec).at F).post enc Try.prog Try.f4 false true false false) := by
  refine returnsInHanded_of_cond (C := Try.checked) (s := Rows.OpenSpec.upto Rows.snapshotKeepsSpec) (k := Rows.uptoSmall) rfl stores.own started (by kernel_rfl) Try.func4
    (OpenSpec.witness (enc := enc) (C := Try.checked) (s := Rows.OpenSpec.upto Rows.snapshotKeepsSpec) (k := Rows.uptoSmall) rfl false ⟨#[], #[.slice none 0 0, .int .u8 0], []⟩ 8 (by kernel_rfl) (by kernel_rfl) (by kernel_rfl)
      (x := ([.nil, .lit (.int .u8 0)], [], [])) (by kernel_rfl) rfl (by kernel_rfl)) ?_
  intro W base args ds gs before hval hW _ hk _
  have hgs : gs = [] := by
    obtain ⟨p, q, _, hV, _⟩ := hW
    cases gs with
    | nil => rfl
    | cons _ _ => simp [DataW.TrodVars, Rows.snapshotKeepsSpec, Rows.OpenSpec.upto, OpenSpec.ofChange] at hV
  subst hgs
  rw [List.append_nil] at hk
  exact contract callOk lawOk (s := Rows.snapshotKeepsSpec) rfl (fun H ds hl => by
    match ds, hl with
    | [a, b], _ => rfl) lawAt H Rows.uptoBulk (bulk_ok H) enc W base args ds [] before hval hW (bulk_le hk)

theorem over : Rows.snapshotKeepsUptoRow.holds Try.pinned (Rows.OpenSpec.upto Rows.snapshotKeepsSpec) :=
  OpenClaim.holds_of_cond 4 Try.f4 rfl rfl rfl rfl rfl rfl rfl ⟨rfl, rfl, rfl, rfl, rfl⟩ rfl rfl rfl rfl rfl (by kernel_rfl) Try.func4 (by kernel_rfl)
    (of_decide_eq_true (by kernel_rfl)) (by unfold Func.isWrapper; first | (rw [if_pos (by decide +kernel)]; kernel_rfl) | (rw [if_neg (by decide +kernel)]; exact ⟨rfl, rfl⟩))
    (fun os started H enc _ F => lifted os started H enc F)
end keeps

theorem snapshotKeeps : Rows.SnapshotKeepsUptoSaid :=
  keeps.over

end Go.Proofs.Ytcbddnmodlhnaaa
