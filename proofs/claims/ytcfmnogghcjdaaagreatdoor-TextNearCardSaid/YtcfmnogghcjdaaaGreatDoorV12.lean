/- Part of a proof: E4, E5, E6, E7. -/
import Derived.Test.YtcfmnogghcjdaaaGreatDoorV11
set_option linter.all false
set_option maxRecDepth 100000
set_option maxHeartbeats 20000000
namespace Go.Proofs.YtcfmnogghcjdaaaGreatDoor
open Go Go.Abs Go.Abs.Api
def fitsB (kind tag : Int) : Bool := if kind = 78 then decide (tag = 0) else if kind = 72 then decide (tag = 2) else if kind = 80 then decide (tag = 1) else true
def canB (x : Canon) : Bool :=
  if x.tag = 0 ∨ x.tag = 2 then decide (x.region = 0) && decide (x.offset = 0)
  else if x.tag = 1 then (if x.region = -1 then decide (x.val = 0) && (decide (0 ≤ x.offset) && decide (x.offset ≤ 65535))
    else decide (x.val = 0) && (decide (0 ≤ x.region) && (decide (x.region < 4) && (decide (0 ≤ x.offset) && decide (x.offset < 32))))) else false
def cansB (l : List Canon) : Bool := l.all canB
theorem cansB_nil : cansB [] = true := rfl
theorem cansB_up {l : List Canon} {i : Nat} (h : i < l.length) : cansB (l.take (i + 1)) = (cansB (l.take i) && canB l[i]) := all_up h
theorem cansB_at {l : List Canon} {i : Nat} (h : i < l.length) (hp : canB l[i] = false) : cansB l = false := all_at h hp
theorem cansB_all {l : List Canon} : cansB (l.take l.length) = cansB l := by rw [List.take_length]
@[simp] theorem f_ref12_Cell (x_tag : Int) (x_val : Int) (x_region : Int) (x_offset : Int)  : pcall X 92 [.agg [.int .u8 x_tag, .int .u16 x_val, .int .i64 x_region, .int .i64 x_offset]] = some (.bool (canB (Canon.mk x_tag x_val x_region x_offset))) := by
  refine pcall_of Tryz.func92 rfl rfl ?_
  by_cases t0 : x_tag = 0
  · by_cases r : x_region = 0 <;> simp (maxSteps := 10000000) (maxDischargeDepth := 30) (implicitDefEqProofs := false) [t0, r, canB]
  by_cases t2 : x_tag = 2
  · by_cases r : x_region = 0 <;> simp (maxSteps := 10000000) (maxDischargeDepth := 30) (implicitDefEqProofs := false) [t0, t2, r, canB]
  by_cases t1 : x_tag = 1
  case neg => simp (maxSteps := 10000000) (maxDischargeDepth := 30) (implicitDefEqProofs := false) [t0, t1, t2, canB]
  by_cases r : x_region = -1
  · by_cases v : x_val = 0
    · by_cases o : 0 ≤ x_offset <;> simp (maxSteps := 10000000) (maxDischargeDepth := 30) (implicitDefEqProofs := false) [t1, r, v, o, canB]
    · simp (maxSteps := 10000000) (maxDischargeDepth := 30) (implicitDefEqProofs := false) [t1, r, v, canB]
  · by_cases v : x_val = 0
    · by_cases o : 0 ≤ x_region
      · by_cases o1 : x_region < 4
        · by_cases o2 : 0 ≤ x_offset <;> simp (maxSteps := 10000000) (maxDischargeDepth := 30) (implicitDefEqProofs := false) [t1, r, v, o, o1, o2, canB]
        · simp (maxSteps := 10000000) (maxDischargeDepth := 30) (implicitDefEqProofs := false) [t1, r, v, o, o1, canB]
      · simp (maxSteps := 10000000) (maxDischargeDepth := 30) (implicitDefEqProofs := false) [t1, r, v, o, canB]
    · simp (maxSteps := 10000000) (maxDischargeDepth := 30) (implicitDefEqProofs := false) [t1, r, v, canB]
@[simp] theorem f_ref12_Cells (l : List Canon) (n : Int) (hm : l.length ≤ 1000000000) : pcall X 80 [.sl false (l.map Canon.enc), .int .i64 n] = some (.bool (cansB l && decide ((l.length : Int) ≤ n))) := by
  refine pcall_of Tryz.func80 rfl rfl ?_
  simp (maxSteps := 10000000) (maxDischargeDepth := 30) (implicitDefEqProofs := false) []
  refine Wp_up (fun i S => (S.f 0 = .sl false (l.map Canon.enc) ∧ S.f 1 = .int .i64 n ∧ S.f 7 = .sl false (l.map Canon.enc) ∧ S.f 8 = .int .i64 ((l).length : Int) ∧ S.f 9 = .int .i64 (i : Int) ∧ S.n = 1100) ∧ (cansB (l.take i) = true)) (l.length) ?_ 0 (by simp) ?_
  · rintro i S hii ⟨hI0, hP0⟩
    have hwi : IntKind.i64.wrap ((i : Int) + 1) = (i : Int) + 1 := wrap_i64 (by omega)
    by_cases hlti : i < l.length
    · cases h : canB l[i]
      · have := cansB_at hlti h
        simp (maxSteps := 10000000) (maxDischargeDepth := 30) (implicitDefEqProofs := false) [hI0, hii, hwi, hlti, h, this]
      · have := cansB_up hlti
        simp (maxSteps := 10000000) (maxDischargeDepth := 30) (implicitDefEqProofs := false) [hI0, hii, hwi, hlti, h, this, hP0]
    · have hei : l.length = i := by omega
      subst hei
      simp (maxSteps := 10000000) (maxDischargeDepth := 30) (implicitDefEqProofs := false) [hI0, hii, hwi, hlti] <;> (
        rw [cansB_all] at hP0
        simp [hP0])
  · simp (maxSteps := 10000000) (maxDischargeDepth := 30) (implicitDefEqProofs := false) [] <;> (
      rfl)
@[simp] theorem f_ref18_CopyInputs (in_ : List (List Int)) (hm : in_.length ≤ 1000000000) (hx : ∀ i (h : i < in_.length), (in_[i]).length ≤ 1000000000) : pcall X 66 [.sl false (in_.map encLU16)] = some (.sl false (in_.map encLU16)) := by
  refine pcall_of Tryz.func66 rfl rfl ?_
  simp (maxSteps := 10000000) (maxDischargeDepth := 30) (implicitDefEqProofs := false) []
  refine Wp_up (fun i S => (S.f 3 = .hdr 3 0 (((in_.take i).map encLU16)).length ∧ S.h 3 = some ⟨1, ((in_.take i).map encLU16), false⟩ ∧ S.f 6 = .sl false (in_.map encLU16) ∧ S.f 7 = .int .i64 ((in_).length : Int) ∧ S.f 8 = .int .i64 (i : Int) ∧ S.n = 1100) ∧ True) (in_.length) ?_ 0 (by simp) ?_
  · rintro i S hii ⟨hI0, hP0⟩
    have hwi : IntKind.i64.wrap ((i : Int) + 1) = (i : Int) + 1 := wrap_i64 (by omega)
    by_cases hlti : i < in_.length
    · have g := hx i hlti
      have hmin : min i in_.length = i := by omega
      simp (maxSteps := 10000000) (maxDischargeDepth := 30) (implicitDefEqProofs := false) [hI0, hii, hwi, hlti, g, hmin]
      all_goals ((repeat' (first | apply And.intro | intro _)) <;> first | omega | exact take_snoc_map hlti | rfl)
    · have hei : in_.length = i := by omega
      subst hei
      simp (maxSteps := 10000000) (maxDischargeDepth := 30) (implicitDefEqProofs := false) [hI0, hii, hwi, hlti] <;> (
        simp)
  · simp (maxSteps := 10000000) (maxDischargeDepth := 30) (implicitDefEqProofs := false) [] <;> (
      simp)
structure FilesP (f : Files) : Prop where
  data : f.data.length ≤ 4
  each : ∀ i (h : i < f.data.length), cansB f.data[i] = true ∧ (f.data[i]).length ≤ 64
  opens : f.opens.length = 8
  opn : ∀ i (h : i < f.opens.length), ((f.opens[i]).file = -1 ∧ (f.opens[i]).offset = 0 ∧ (f.opens[i]).write = false) ∨
    (∃ k, ∃ g : k < f.data.length, (f.opens[i]).file = (k : Int) ∧ 0 ≤ (f.opens[i]).offset ∧ (f.opens[i]).offset ≤ (f.data[k]).length)
@[simp] theorem f_ref17_Valid (f_data : List (List Canon)) (f_opens : List Opn) (hf : FilesP (Files.mk f_data f_opens)) : pcall X 79 [.agg [.sl false (f_data.map encLCanon), .sl false (f_opens.map Opn.enc)]] = some (.bool true) := by
  refine pcall_of Tryz.func79 rfl rfl ?_
  have h1 : f_data.length ≤ 4 := hf.data
  have h2 : f_opens.length = 8 := hf.opens
  have h3 := hf.each
  have h4 := hf.opn
  simp only at h3 h4
  have h1i : ¬ 4 < (f_data.length : Int) := by omega
  simp (maxSteps := 10000000) (maxDischargeDepth := 30) (implicitDefEqProofs := false) [h1, h1i, h2]
  refine Wp_up (fun i S => (S.f 1 = .ptr 1 0 0 ∧ S.h 1 = some ⟨2, [.agg [.sl false (f_data.map encLCanon), .sl false (f_opens.map Opn.enc)]], true⟩ ∧ S.f 18 = .sl false (f_data.map encLCanon) ∧ S.f 19 = .int .i64 ((f_data).length : Int) ∧ S.f 20 = .int .i64 (i : Int) ∧ S.n = 1100) ∧ True) (f_data.length) ?_ 0 (by simp) ?_
  · rintro i S hii ⟨hI0, hP0⟩
    have hwi : IntKind.i64.wrap ((i : Int) + 1) = (i : Int) + 1 := wrap_i64 (by omega)
    by_cases hlti : i < f_data.length
    · obtain ⟨g1, g2⟩ := h3 i hlti
      have g3 : (f_data[i]).length ≤ 1000000000 := by omega
      have g4 : ((f_data[i]).length : Int) ≤ 64 := by omega
      simp (maxSteps := 10000000) (maxDischargeDepth := 30) (implicitDefEqProofs := false) [hI0, hii, hwi, hlti, g1, g2, g3, g4]
    · have hei : f_data.length = i := by omega
      subst hei
      simp (maxSteps := 10000000) (maxDischargeDepth := 30) (implicitDefEqProofs := false) [hI0, hii, hwi, hlti, h2]
      refine Wp_up (fun j S => (S.f 1 = .ptr 1 0 0 ∧ S.h 1 = some ⟨2, [.agg [.sl false (f_data.map encLCanon), .sl false (f_opens.map Opn.enc)]], true⟩ ∧ S.f 29 = .sl false (f_opens.map Opn.enc) ∧ S.f 30 = .int .i64 ((f_opens).length : Int) ∧ S.f 31 = .int .i64 (j : Int) ∧ S.n = 1100) ∧ True) (f_opens.length) ?_ 0 (by simp) ?_
      · rintro j S hij ⟨hI1, hP1⟩
        have hwj : IntKind.i64.wrap ((j : Int) + 1) = (j : Int) + 1 := wrap_i64 (by omega)
        by_cases hltj : j < f_opens.length
        · have hj := hltj
          rcases h4 j hj with ⟨e1, e2, e3⟩ | ⟨k, hk, e1, e2, e3⟩
          · have n0 : (-1 : Int) < f_data.length := by omega
            simp (maxSteps := 10000000) (maxDischargeDepth := 30) (implicitDefEqProofs := false) [hii, hwi, hlti, hI1, hij, hwj, hltj, hj, e1, e2, e3, n0]
          · have n1 : ¬ (k : Int) = -1 := by omega
            have n2 : ¬ (k : Int) < -1 := by omega
            have n3 : ¬ (f_data.length : Int) ≤ k := by omega
            have n4 : ¬ (f_opens[j]).offset < 0 := by omega
            have n5 : ¬ ((f_data[k]).length : Int) < (f_opens[j]).offset := by omega
            simp (maxSteps := 10000000) (maxDischargeDepth := 30) (implicitDefEqProofs := false) [hii, hwi, hlti, hI1, hij, hwj, hltj, hj, hk, e1, e2, e3, n1, n2, n3, n4, n5]
        · have hej : f_opens.length = j := by omega
          subst hej
          simp (maxSteps := 10000000) (maxDischargeDepth := 30) (implicitDefEqProofs := false) [hii, hwi, hlti, hI1, hij, hwj, hltj]
      · simp (maxSteps := 10000000) (maxDischargeDepth := 30) (implicitDefEqProofs := false) [hI0, hii, hwi, hlti] <;> (
          omega)
  · simp (maxSteps := 10000000) (maxDischargeDepth := 30) (implicitDefEqProofs := false) [] <;> (
      trivial)
def numC (v : Int) : Canon := ⟨0, v, 0, 0⟩
theorem cansB_num (l : List Int) : cansB (l.map numC) = true := by
  simp [cansB, numC, canB]
def closed : Opn := ⟨-1, 0, false⟩
def files0 (data : List (List Int)) : Files := ⟨data.map (·.map numC), List.replicate 8 closed⟩
theorem files0_ok {data : List (List Int)} (h : data.length ≤ 4) (hx : ∀ i (h : i < data.length), (data[i]).length ≤ 64) : FilesP (files0 data) := by
  refine ⟨by simpa [files0] using h, fun i hi => ?_, by simp [files0], fun i hi => .inl ?_⟩
  · simp [files0] at hi
    simp only [files0, List.getElem_map]
    exact ⟨cansB_num _, by simpa using hx i hi⟩
  · simp only [files0, List.getElem_replicate]; exact ⟨rfl, rfl, rfl⟩
theorem len_map_numC (l : List (List Int)) : True := trivial
def dataN (l : List (List Int)) : List (List Canon) := l.map fun d => d.map numC
theorem dataN_up {l : List (List Int)} {i : Nat} (h : i < l.length) : dataN (l.take (i + 1)) = dataN (l.take i) ++ [(l[i]).map numC] := by
  unfold dataN; rw [take_snoc h, List.map_append]; rfl
theorem dataN_len (l : List (List Int)) : (dataN l).length = l.length := by simp [dataN]
def numsC (l : List Int) : List Canon := l.map numC
theorem numsC_up {l : List Int} {i : Nat} (h : i < l.length) : numsC (l.take (i + 1)) = numsC (l.take i) ++ [numC l[i]] := by
  unfold numsC; rw [take_snoc h, List.map_append]; rfl
theorem numsC_len (l : List Int) : (numsC l).length = l.length := by simp [numsC]
def opens0 : List Opn := [closed, closed, closed, closed, closed, closed, closed, closed]
def opensO (i : Nat) : List Opn := List.replicate i closed ++ List.replicate (8 - i) ⟨0, 0, false⟩
@[simp] theorem f_ref17_New (data : List (List Int)) (hm : data.length ≤ 4) (hx : ∀ i (h : i < data.length), (data[i]).length ≤ 64) : pcall X 65 [.sl false (data.map encLU16)] = some (.tup [.agg [.sl false ((files0 data).data.map encLCanon), .sl false ((files0 data).opens.map Opn.enc)], .int .i64 0]) := by
  refine pcall_of Tryz.func65 rfl rfl ?_
  have hok := files0_ok hm hx
  have eq : files0 data = ⟨dataN data, opens0⟩ := rfl
  rw [eq] at hok
  rw [eq]
  simp (maxSteps := 10000000) (maxDischargeDepth := 30) (implicitDefEqProofs := false) []
  refine Wp_up (fun i S => (S.f 0 = .sl false (data.map encLU16) ∧ S.f 2 = .ptr 2 0 0 ∧ S.h 2 = some ⟨2, [.agg [.sl false (([] : List (List Canon)).map encLCanon), .sl false (([] : List Opn).map Opn.enc)]], true⟩ ∧ S.f 4 = .ptr 4 0 0 ∧ S.h 1000 = some ⟨1, (⟨[], opensO i⟩ : Files).data.map encLCanon, false⟩ ∧ S.h 1001 = some ⟨3, (⟨[], opensO i⟩ : Files).opens.map Opn.enc, false⟩ ∧ S.h 4 = some ⟨2, [.agg [.hdr 1000 0 ((⟨[], opensO i⟩ : Files).data.map encLCanon).length, .hdr 1001 0 ((⟨[], opensO i⟩ : Files).opens.map Opn.enc).length]], true⟩ ∧ S.f 15 = .int .i64 (8) ∧ S.f 16 = .int .i64 (i : Int) ∧ S.n = 1102) ∧ True) (8) ?_ 0 (by simp) ?_
  · rintro i S hii ⟨hI0, hP0⟩
    have hwi : IntKind.i64.wrap ((i : Int) + 1) = (i : Int) + 1 := wrap_i64 (by omega)
    by_cases hlti : i < 8
    · have : i = 0 ∨ i = 1 ∨ i = 2 ∨ i = 3 ∨ i = 4 ∨ i = 5 ∨ i = 6 ∨ i = 7 := by omega
      rcases this with rfl | rfl | rfl | rfl | rfl | rfl | rfl | rfl <;> simp (maxSteps := 10000000) (maxDischargeDepth := 30) (implicitDefEqProofs := false) [hI0, hii, hwi, hlti, opensO, closed, Opn.enc_eq] <;> rfl
    · have hei : 8 = i := by omega
      subst hei
      have e8 : opensO 8 = opens0 := rfl
      rw [e8] at hI0
      simp (maxSteps := 10000000) (maxDischargeDepth := 30) (implicitDefEqProofs := false) [hI0, hii, hwi, hlti]
      refine Wp_up (fun j S => (S.f 2 = .ptr 2 0 0 ∧ S.h 2 = some ⟨2, [.agg [.sl false (([] : List (List Canon)).map encLCanon), .sl false (([] : List Opn).map Opn.enc)]], true⟩ ∧ S.f 4 = .ptr 4 0 0 ∧ S.h 1000 = some ⟨1, (⟨dataN (data.take j), opens0⟩ : Files).data.map encLCanon, false⟩ ∧ S.h 1001 = some ⟨3, (⟨dataN (data.take j), opens0⟩ : Files).opens.map Opn.enc, false⟩ ∧ S.h 4 = some ⟨2, [.agg [.hdr 1000 0 ((⟨dataN (data.take j), opens0⟩ : Files).data.map encLCanon).length, .hdr 1001 0 ((⟨dataN (data.take j), opens0⟩ : Files).opens.map Opn.enc).length]], true⟩ ∧ S.f 25 = .sl false (data.map encLU16) ∧ S.f 26 = .int .i64 ((data).length : Int) ∧ S.f 27 = .int .i64 (j : Int) ∧ S.n = 1102) ∧ True) (data.length) ?_ 0 (by simp) ?_
      · rintro j S hij ⟨hI1, hP1⟩
        have hwj : IntKind.i64.wrap ((j : Int) + 1) = (j : Int) + 1 := wrap_i64 (by omega)
        by_cases hltj : j < data.length
        · have gx := hx j hltj
          have gu := dataN_up hltj
          have gl : (dataN (data.take j)).length = j := by rw [dataN_len, List.length_take]; omega
          simp (maxSteps := 10000000) (maxDischargeDepth := 30) (implicitDefEqProofs := false) [hii, hwi, hlti, hI1, hij, hwj, hltj, gu]
          refine Wp_up (fun k S => (S.f 2 = .ptr 2 0 0 ∧ S.h 2 = some ⟨2, [.agg [.sl false (([] : List (List Canon)).map encLCanon), .sl false (([] : List Opn).map Opn.enc)]], true⟩ ∧ S.f 4 = .ptr 4 0 0 ∧ S.h 1000 = some ⟨1, (⟨dataN (data.take j), opens0⟩ : Files).data.map encLCanon, false⟩ ∧ S.h 1001 = some ⟨3, (⟨dataN (data.take j), opens0⟩ : Files).opens.map Opn.enc, false⟩ ∧ S.h 4 = some ⟨2, [.agg [.hdr 1000 0 ((⟨dataN (data.take j), opens0⟩ : Files).data.map encLCanon).length, .hdr 1001 0 ((⟨dataN (data.take j), opens0⟩ : Files).opens.map Opn.enc).length]], true⟩ ∧ S.f 8 = .hdr 8 0 (((numsC ((data[j]).take k)).map Canon.enc)).length ∧ S.h 8 = some ⟨4, ((numsC ((data[j]).take k)).map Canon.enc), false⟩ ∧ S.f 25 = .sl false (data.map encLU16) ∧ S.f 26 = .int .i64 ((data).length : Int) ∧ S.f 27 = .int .i64 (j : Int) ∧ S.f 31 = .sl false ((data[j]).map (V.int .u16)) ∧ S.f 32 = .int .i64 (((data[j]).length : Int)) ∧ S.f 33 = .int .i64 (k : Int) ∧ S.n = 1102) ∧ True) ((data[j]).length) ?_ 0 (by simp) ?_
          · rintro k S hik ⟨hI2, hP2⟩
            have hwk : IntKind.i64.wrap ((k : Int) + 1) = (k : Int) + 1 := wrap_i64 (by omega)
            by_cases hltk : k < (data[j]).length
            · have gv := numsC_up hltk
              have gw : (numsC ((data[j]).take k)).length = k := by rw [numsC_len, List.length_take]; omega
              simp (maxSteps := 10000000) (maxDischargeDepth := 30) (implicitDefEqProofs := false) [hii, hwi, hlti, hij, hwj, hltj, hI2, hik, hwk, hltk, gv, numC]
              all_goals ((repeat' (first | apply And.intro | intro _)) <;> first | omega | rfl)
            · have hek : (data[j]).length = k := by omega
              subst hek
              simp (maxSteps := 10000000) (maxDischargeDepth := 30) (implicitDefEqProofs := false) [hii, hwi, hlti, hij, hwj, hltj, hI2, hik, hwk, hltk, gu]
              all_goals ((repeat' (first | apply And.intro | intro _)) <;> first | omega | rfl)
          · simp (maxSteps := 10000000) (maxDischargeDepth := 30) (implicitDefEqProofs := false) [hii, hwi, hlti, hI1, hij, hwj, hltj] <;> (
              first | exact ⟨rfl, rfl⟩ | rfl)
        · have hej : data.length = j := by omega
          subst hej
          simp (maxSteps := 10000000) (maxDischargeDepth := 30) (implicitDefEqProofs := false) [hii, hwi, hlti, hI1, hij, hwj, hltj, hok]
      · simp (maxSteps := 10000000) (maxDischargeDepth := 30) (implicitDefEqProofs := false) [hI0, hii, hwi, hlti] <;> (
          first | exact ⟨rfl, rfl⟩ | rfl)
  · simp (maxSteps := 10000000) (maxDischargeDepth := 30) (implicitDefEqProofs := false) [] <;> (
      first | exact ⟨rfl, rfl⟩ | rfl)
@[simp] theorem f_ref18_Ordered (l : List Output) (hm : l.length ≤ 1000000000) (ho : ∀ i (h : i < l.length), (l[i]).seq = i ∧ 0 ≤ (l[i]).socket ∧ (l[i]).socket < 2 ∧ (l[i]).data.length ≤ 16) : pcall X 81 [.sl false (l.map Output.enc)] = some (.bool true) := by
  refine pcall_of Tryz.func81 rfl rfl ?_
  simp (maxSteps := 10000000) (maxDischargeDepth := 30) (implicitDefEqProofs := false) []
  refine Wp_up (fun i S => (S.f 5 = .sl false (l.map Output.enc) ∧ S.f 6 = .int .i64 ((l).length : Int) ∧ S.f 7 = .int .i64 (i : Int) ∧ S.n = 1100) ∧ True) (l.length) ?_ 0 (by simp) ?_
  · rintro i S hii ⟨hI0, hP0⟩
    have hwi : IntKind.i64.wrap ((i : Int) + 1) = (i : Int) + 1 := wrap_i64 (by omega)
    by_cases hlti : i < l.length
    · obtain ⟨o1, o2, o3, o4⟩ := ho i hlti
      have n2 : ¬ (l[i]).socket < 0 := by omega
      have n3 : ¬ 2 ≤ (l[i]).socket := by omega
      have n4 : ¬ 16 < ((l[i]).data.length : Int) := by omega
      simp (maxSteps := 10000000) (maxDischargeDepth := 30) (implicitDefEqProofs := false) [hI0, hii, hwi, hlti, o1, n2, n3, n4]
    · have hei : l.length = i := by omega
      subst hei
      simp (maxSteps := 10000000) (maxDischargeDepth := 30) (implicitDefEqProofs := false) [hI0, hii, hwi, hlti]
  · simp (maxSteps := 10000000) (maxDischargeDepth := 30) (implicitDefEqProofs := false) [] <;> (
      trivial)
structure OutsideP (o : Outs) : Prop where
  clock : o.clock.length ≤ 64
  random : o.random.length ≤ 64
  inputs : o.inputs.length ≤ 2
  input : ∀ i (h : i < o.inputs.length), (o.inputs[i]).length ≤ 64
  files : FilesP o.files
  outputs : o.outputs.length ≤ 200
  output : ∀ i (h : i < o.outputs.length), (o.outputs[i]).seq = i ∧ 0 ≤ (o.outputs[i]).socket ∧ (o.outputs[i]).socket < 2 ∧ (o.outputs[i]).data.length ≤ 16 ∧ cansB (o.outputs[i]).data = true
@[simp] theorem f_ref19_Valid (o_clock : List Int) (o_random : List Int) (o_inputs : List (List Int)) (o_files_data : List (List Canon)) (o_files_opens : List Opn) (o_outputs : List Output) (ho : OutsideP (Outs.mk o_clock o_random o_inputs (Files.mk o_files_data o_files_opens) o_outputs)) : pcall X 67 [.agg [.sl false (o_clock.map (V.int .u16)), .sl false (o_random.map (V.int .u16)), .sl false (o_inputs.map encLU16), .sl false (o_files_data.map encLCanon), .sl false (o_files_opens.map Opn.enc), .sl false (o_outputs.map Output.enc)]] = some (.bool true) := by
  refine pcall_of Tryz.func67 rfl rfl ?_
  have h1 : o_clock.length ≤ 64 := ho.clock
  have h2 : o_random.length ≤ 64 := ho.random
  have h3 : o_inputs.length ≤ 2 := ho.inputs
  have h4 := ho.input
  have h5 := ho.files
  have h6 : o_outputs.length ≤ 200 := ho.outputs
  have h7 := ho.output
  simp only at h4 h5 h7
  have h1i : (o_clock.length : Int) ≤ 64 := by omega
  have h2i : (o_random.length : Int) ≤ 64 := by omega
  have h3i : (o_inputs.length : Int) ≤ 2 := by omega
  have h6i : (o_outputs.length : Int) ≤ 200 := by omega
  have h6m : o_outputs.length ≤ 1000000000 := by omega
  have h8 : ∀ i (h : i < o_outputs.length), (o_outputs[i]).seq = i ∧ 0 ≤ (o_outputs[i]).socket ∧ (o_outputs[i]).socket < 2 ∧ (o_outputs[i]).data.length ≤ 16 := fun i h => ⟨(h7 i h).1, (h7 i h).2.1, (h7 i h).2.2.1, (h7 i h).2.2.2.1⟩
  simp (maxSteps := 10000000) (maxDischargeDepth := 30) (implicitDefEqProofs := false) []
  refine Wp_up (fun i S => (S.f 1 = .ptr 1 0 0 ∧ S.h 1 = some ⟨6, [.agg [.sl false (o_clock.map (V.int .u16)), .sl false (o_random.map (V.int .u16)), .sl false (o_inputs.map encLU16), .sl false (o_files_data.map encLCanon), .sl false (o_files_opens.map Opn.enc), .sl false (o_outputs.map Output.enc)]], true⟩ ∧ S.f 8 = .sl false (o_inputs.map encLU16) ∧ S.f 9 = .int .i64 ((o_inputs).length : Int) ∧ S.f 10 = .int .i64 (i : Int) ∧ S.n = 1100) ∧ True) (o_inputs.length) ?_ 0 (by simp) ?_
  · rintro i S hii ⟨hI0, hP0⟩
    have hwi : IntKind.i64.wrap ((i : Int) + 1) = (i : Int) + 1 := wrap_i64 (by omega)
    by_cases hlti : i < o_inputs.length
    · have g := h4 i hlti
      have g2 : ¬ 64 < ((o_inputs[i]).length : Int) := by omega
      simp (maxSteps := 10000000) (maxDischargeDepth := 30) (implicitDefEqProofs := false) [hI0, hii, hwi, hlti, g2]
    · have hei : o_inputs.length = i := by omega
      subst hei
      simp (maxSteps := 10000000) (maxDischargeDepth := 30) (implicitDefEqProofs := false) [hI0, hii, hwi, hlti]
      refine Wp_up (fun j S => (S.f 1 = .ptr 1 0 0 ∧ S.h 1 = some ⟨6, [.agg [.sl false (o_clock.map (V.int .u16)), .sl false (o_random.map (V.int .u16)), .sl false (o_inputs.map encLU16), .sl false (o_files_data.map encLCanon), .sl false (o_files_opens.map Opn.enc), .sl false (o_outputs.map Output.enc)]], true⟩ ∧ S.f 19 = .sl false (o_outputs.map Output.enc) ∧ S.f 20 = .int .i64 ((o_outputs).length : Int) ∧ S.f 21 = .int .i64 (j : Int) ∧ S.n = 1100) ∧ True) (o_outputs.length) ?_ 0 (by simp) ?_
      · rintro j S hij ⟨hI1, hP1⟩
        have hwj : IntKind.i64.wrap ((j : Int) + 1) = (j : Int) + 1 := wrap_i64 (by omega)
        by_cases hltj : j < o_outputs.length
        · obtain ⟨q1, q2, q3, q4, q5⟩ := h7 j hltj
          have q6 : (o_outputs[j]).data.length ≤ 1000000000 := by omega
          have q7 : ((o_outputs[j]).data.length : Int) ≤ 16 := by omega
          simp (maxSteps := 10000000) (maxDischargeDepth := 30) (implicitDefEqProofs := false) [hii, hwi, hlti, hI1, hij, hwj, hltj, q5, q6, q7]
        · have hej : o_outputs.length = j := by omega
          subst hej
          simp (maxSteps := 10000000) (maxDischargeDepth := 30) (implicitDefEqProofs := false) [hii, hwi, hlti, hI1, hij, hwj, hltj, h1i, h2i, h3i, h5, h6i, h6m, h8]
      · simp (maxSteps := 10000000) (maxDischargeDepth := 30) (implicitDefEqProofs := false) [hI0, hii, hwi, hlti] <;> (
          trivial)
  · simp (maxSteps := 10000000) (maxDischargeDepth := 30) (implicitDefEqProofs := false) [] <;> (
      trivial)
def files00 (a b : List Int) : List (List Int) := [a, b]
def begM (files inputs : List (List Int)) (clock random : List Int) : Outs := ⟨clock, random, inputs, files0 files, []⟩
theorem begM_ok {files inputs : List (List Int)} {clock random : List Int} (h1 : files.length ≤ 4) (h2 : ∀ i (h : i < files.length), (files[i]).length ≤ 64) (h3 : inputs.length ≤ 2) (h4 : ∀ i (h : i < inputs.length), (inputs[i]).length ≤ 64)
    (h5 : clock.length ≤ 64) (h6 : random.length ≤ 64) : OutsideP (begM files inputs clock random) :=
  ⟨h5, h6, h3, h4, files0_ok h1 h2, by simp [begM], fun i h => by simp [begM] at h⟩
@[simp] theorem f_ref19_Begin (files : List (List Int)) (inputs : List (List Int)) (clock : List Int) (random : List Int) (h1 : files.length ≤ 4) (h2 : ∀ i (h : i < files.length), (files[i]).length ≤ 64) (h3 : inputs.length ≤ 2) (h4 : ∀ i (h : i < inputs.length), (inputs[i]).length ≤ 64) (h5 : clock.length ≤ 64) (h6 : random.length ≤ 64) : pcall X 45 [.sl false (files.map encLU16), .sl false (inputs.map encLU16), .sl false (clock.map (V.int .u16)), .sl false (random.map (V.int .u16))] = some (.tup [.agg [.sl false ((begM files inputs clock random).clock.map (V.int .u16)), .sl false ((begM files inputs clock random).random.map (V.int .u16)), .sl false ((begM files inputs clock random).inputs.map encLU16), .sl false ((begM files inputs clock random).files.data.map encLCanon), .sl false ((begM files inputs clock random).files.opens.map Opn.enc), .sl false ((begM files inputs clock random).outputs.map Output.enc)], .int .i64 0]) := by
  refine pcall_of Tryz.func45 rfl rfl ?_
  have hok := begM_ok h1 h2 h3 h4 h5 h6
  have a1 : inputs.length ≤ 1000000000 := by omega
  have a2 : ∀ i (h : i < inputs.length), (inputs[i]).length ≤ 1000000000 := fun i h => by have := h4 i h; omega
  have eq : begM files inputs clock random = ⟨clock, random, inputs, ⟨(files0 files).data, (files0 files).opens⟩, []⟩ := rfl
  rw [eq] at hok
  rw [eq]
  have key := f_ref19_Valid clock random inputs (files0 files).data (files0 files).opens [] hok
  simp only [List.map_nil] at key
  simp (maxSteps := 10000000) (maxDischargeDepth := 30) (implicitDefEqProofs := false) [h1, h2, a1, a2, key]
  try omega
end Go.Proofs.YtcfmnogghcjdaaaGreatDoor
namespace Go.Proofs.YtcfmnogghcjdaaaGreatDoor
open Go Go.Abs Go.Abs.Api
theorem wordsV_len (l : List Int) (k : Int) {n : Int} (h : 0 ≤ n) : ((wordsV l k n).length : Int) ≤ n := by
  unfold wordsV; rw [wordsUp_len]
  have := dnV_in l k (n := n + 1) (by omega)
  omega
def outK1 (l : List Int) (k : Int) : Int := wordsK l k 5
def outK2 (l : List Int) (k : Int) : Int := wordsK l (outK1 l k) 3
def outK3 (l : List Int) (k : Int) : Int := wordsK l (outK2 l k) 8
def outK4 (l : List Int) (k : Int) : Int := wordsK l (outK3 l k) 4
def outK5 (l : List Int) (k : Int) : Int := wordsK l (outK4 l k) 5
def outsK (l : List Int) (k : Int) : Int := wordsK l (outK5 l k) 5
def outsV (l : List Int) (k : Int) : Outs := begM [wordsV l k 5, wordsV l (outK1 l k) 3] [wordsV l (outK2 l k) 8, wordsV l (outK3 l k) 4] (wordsV l (outK4 l k) 5) (wordsV l (outK5 l k) 5)
@[simp] theorem outsK_ok {l : List Int} {k : Int} (h : DeckP l k) : DeckP l (outsK l k) := wordsK_ok (wordsK_ok (wordsK_ok (wordsK_ok (wordsK_ok (wordsK_ok h)))))
theorem outsV_ok (l : List Int) (k : Int) : OutsideP (outsV l k) := by
  have a1 := wordsV_len l k (n := 5) (by omega)
  have a2 := wordsV_len l (outK1 l k) (n := 3) (by omega)
  have a3 := wordsV_len l (outK2 l k) (n := 8) (by omega)
  have a4 := wordsV_len l (outK3 l k) (n := 4) (by omega)
  have a5 := wordsV_len l (outK4 l k) (n := 5) (by omega)
  have a6 := wordsV_len l (outK5 l k) (n := 5) (by omega)
  refine begM_ok (by simp) (fun i h => ?_) (by simp) (fun i h => ?_) (by omega) (by omega)
  · have : i = 0 ∨ i = 1 := by simp at h; omega
    rcases this with rfl | rfl
    · simp; omega
    · simp; omega
  · have : i = 0 ∨ i = 1 := by simp at h; omega
    rcases this with rfl | rfl
    · simp; omega
    · simp; omega
@[simp] theorem f_make_Deck_Outside (d_l : List Int) (d_time : Int) (hd : DeckP d_l d_time) : mcall X ([]) 22 2 (.agg [.sl false (d_l.map (V.int .i64)), .int .i64 d_time]) [] = some (2, .agg [.sl false ((⟨d_l, outsK d_l d_time⟩ : Deck).l.map (V.int .i64)), .int .i64 (⟨d_l, outsK d_l d_time⟩ : Deck).time], [.agg [.sl false ((outsV d_l d_time).clock.map (V.int .u16)), .sl false ((outsV d_l d_time).random.map (V.int .u16)), .sl false ((outsV d_l d_time).inputs.map encLU16), .sl false ((outsV d_l d_time).files.data.map encLCanon), .sl false ((outsV d_l d_time).files.opens.map Opn.enc), .sl false ((outsV d_l d_time).outputs.map Output.enc)]], .bad) := by
  refine mcall_of Tryz.func22 rfl rfl ?_
  have a1 := wordsV_len d_l d_time (n := 5) (by omega)
  have a2 := wordsV_len d_l (outK1 d_l d_time) (n := 3) (by omega)
  have a3 := wordsV_len d_l (outK2 d_l d_time) (n := 8) (by omega)
  have a4 := wordsV_len d_l (outK3 d_l d_time) (n := 4) (by omega)
  have a5 := wordsV_len d_l (outK4 d_l d_time) (n := 5) (by omega)
  have a6 := wordsV_len d_l (outK5 d_l d_time) (n := 5) (by omega)
  have e1 : wordsK d_l d_time 5 = outK1 d_l d_time := rfl
  have e2 : wordsK d_l (outK1 d_l d_time) 3 = outK2 d_l d_time := rfl
  have e3 : wordsK d_l (outK2 d_l d_time) 8 = outK3 d_l d_time := rfl
  have e4 : wordsK d_l (outK3 d_l d_time) 4 = outK4 d_l d_time := rfl
  have e5 : wordsK d_l (outK4 d_l d_time) 5 = outK5 d_l d_time := rfl
  have e6 : wordsK d_l (outK5 d_l d_time) 5 = outsK d_l d_time := rfl
  have d1 : DeckP d_l (outK1 d_l d_time) := wordsK_ok hd
  have d2 : DeckP d_l (outK2 d_l d_time) := wordsK_ok d1
  have d3 : DeckP d_l (outK3 d_l d_time) := wordsK_ok d2
  have d4 : DeckP d_l (outK4 d_l d_time) := wordsK_ok d3
  have d5 : DeckP d_l (outK5 d_l d_time) := wordsK_ok d4
  have hf : ∀ i (h : i < [wordsV d_l d_time 5, wordsV d_l (outK1 d_l d_time) 3].length), ([wordsV d_l d_time 5, wordsV d_l (outK1 d_l d_time) 3][i]).length ≤ 64 := fun i h => by
    have : i = 0 ∨ i = 1 := by simp at h; omega
    rcases this with rfl | rfl
    · simp; omega
    · simp; omega
  have hi : ∀ i (h : i < [wordsV d_l (outK2 d_l d_time) 8, wordsV d_l (outK3 d_l d_time) 4].length), ([wordsV d_l (outK2 d_l d_time) 8, wordsV d_l (outK3 d_l d_time) 4][i]).length ≤ 64 := fun i h => by
    have : i = 0 ∨ i = 1 := by simp at h; omega
    rcases this with rfl | rfl
    · simp; omega
    · simp; omega
  have key := f_ref19_Begin [wordsV d_l d_time 5, wordsV d_l (outK1 d_l d_time) 3] [wordsV d_l (outK2 d_l d_time) 8, wordsV d_l (outK3 d_l d_time) 4] (wordsV d_l (outK4 d_l d_time) 5) (wordsV d_l (outK5 d_l d_time) 5) (by simp) hf (by simp) hi (by omega) (by omega)
  simp only [List.map_cons, List.map_nil, encLU16] at key
  simp (maxSteps := 10000000) (maxDischargeDepth := 30) (implicitDefEqProofs := false) [hd, d1, d2, d3, d4, d5, e1, e2, e3, e4, e5, e6, key, outsV]
end Go.Proofs.YtcfmnogghcjdaaaGreatDoor
namespace Go.Proofs.YtcfmnogghcjdaaaGreatDoor
open Go Go.Abs Go.Abs.Api
def dk (l : List Int) (k : Int) : Nat → Int
  | 0 => k
  | i + 1 => dnK l (dk l k i)
@[simp] theorem dk_ok {l : List Int} {k : Int} (h : DeckP l k) (i : Nat) : DeckP l (dk l k i) := by
  induction i with
  | zero => exact h
  | succ i ih => exact dnK_ok ih
def faultV (l : List Int) (k n most : Int) : Fault := ⟨dnV l k most, dnV l (dnK l k) n, 1 + dnV l (dnK l (dnK l k)) 6, dnV l (dnK l (dnK l (dnK l k))) 2 * dnV l (dnK l (dnK l (dnK l (dnK l k)))) 4, dnV l (dnK l (dnK l (dnK l (dnK l (dnK l k))))) 40, dnV l (dnK l (dnK l (dnK l (dnK l (dnK l (dnK l k)))))) 16⟩
def faultK (l : List Int) (k : Int) : Int := dnK l (dnK l (dnK l (dnK l (dnK l (dnK l (dnK l k))))))
@[simp] theorem faultK_ok {l : List Int} {k : Int} (h : DeckP l k) : DeckP l (faultK l k) := dnK_ok (dnK_ok (dnK_ok (dnK_ok (dnK_ok (dnK_ok (dnK_ok h))))))
@[simp] theorem f_make_Deck_Fault (d_l : List Int) (d_time : Int) (n : Int) (most : Int) (hd : DeckP d_l d_time) (hn : 1 ≤ n ∧ n ≤ 1000) (hm : 1 ≤ most ∧ most ≤ 1000) : mcall X ([]) 23 2 (.agg [.sl false (d_l.map (V.int .i64)), .int .i64 d_time]) [.int .i64 n, .int .i64 most] = some (2, .agg [.sl false ((⟨d_l, faultK d_l d_time⟩ : Deck).l.map (V.int .i64)), .int .i64 (⟨d_l, faultK d_l d_time⟩ : Deck).time], [.agg [.int .i64 (faultV d_l d_time n most).time, .int .i64 (faultV d_l d_time n most).replica, .int .i64 (faultV d_l d_time n most).kind, .int .i64 (faultV d_l d_time n most).thread, .int .i64 (faultV d_l d_time n most).where_, .int .i64 (faultV d_l d_time n most).bit]], .bad) := by
  refine mcall_of Tryz.func23 rfl rfl ?_
  have h1 := dnK_ok hd
  have h2 := dnK_ok h1
  have h3 := dnK_ok h2
  have h4 := dnK_ok h3
  have h5 := dnK_ok h4
  have h6 := dnK_ok h5
  have hn' : 1 ≤ n ∧ n ≤ 4611686018427387904 := by omega
  have hm' : 1 ≤ most ∧ most ≤ 4611686018427387904 := by omega
  have b1 := dnV_in d_l (dnK d_l (dnK d_l d_time)) (n := 6) (by omega)
  have b2 := dnV_in d_l (dnK d_l (dnK d_l (dnK d_l d_time))) (n := 2) (by omega)
  have b3 := dnV_in d_l (dnK d_l (dnK d_l (dnK d_l (dnK d_l d_time)))) (n := 4) (by omega)
  have w1 : IntKind.i64.wrap (1 + dnV d_l (dnK d_l (dnK d_l d_time)) 6) = 1 + dnV d_l (dnK d_l (dnK d_l d_time)) 6 := wrap_i64 (by omega)
  have w2 : IntKind.i64.wrap (dnV d_l (dnK d_l (dnK d_l (dnK d_l d_time))) 2 * dnV d_l (dnK d_l (dnK d_l (dnK d_l (dnK d_l d_time)))) 4) = dnV d_l (dnK d_l (dnK d_l (dnK d_l d_time))) 2 * dnV d_l (dnK d_l (dnK d_l (dnK d_l (dnK d_l d_time)))) 4 := by
    have : dnV d_l (dnK d_l (dnK d_l (dnK d_l d_time))) 2 = 0 ∨ dnV d_l (dnK d_l (dnK d_l (dnK d_l d_time))) 2 = 1 := by omega
    rcases this with e | e <;> rw [e] <;> exact wrap_i64 (by omega)
  unfold faultV faultK
  simp (maxSteps := 10000000) (maxDischargeDepth := 30) (implicitDefEqProofs := false) [hd, h1, h2, h3, h4, h5, h6, hn', hm', w1, w2]
theorem progK_ok {l : List Int} {k : Int} (h : DeckP l k) : DeckP l (progK l k) := dnK_ok (tlK_ok (codeUp_ok (dnK_ok (dataUpD_ok (sizesK_ok h) _)) _))
def seedsUp (l : List Int) (k : Int) : Nat → List Int × Int
  | 0 => ([], k)
  | i + 1 => ((seedsUp l k i).1 ++ [dnV l (seedsUp l k i).2 100000], dnK l (seedsUp l k i).2)
theorem seedsUp_up (l : List Int) (k : Int) (i : Nat) : seedsUp l k (i + 1) = ((seedsUp l k i).1 ++ [dnV l (seedsUp l k i).2 100000], dnK l (seedsUp l k i).2) := rfl
theorem seedsUp_ok {l : List Int} {k : Int} (h : DeckP l k) (i : Nat) : DeckP l (seedsUp l k i).2 := by
  induction i with
  | zero => exact h
  | succ i ih => exact dnK_ok ih
theorem seedsUp_len (l : List Int) (k : Int) (i : Nat) : (seedsUp l k i).1.length = i := by
  induction i with
  | zero => rfl
  | succ i ih => rw [seedsUp_up]; simp [ih]
def setK0 (l : List Int) (k : Int) : Int := outsK l (progK l k)
def setU (l : List Int) (k : Int) (sd : List Int) : Setup := ⟨progV l k, sd, outsV l (progK l k), 1 + dnV l (setK0 l k) 12, dnV l (dnK l (setK0 l k)) 3, 1 + dnV l (dnK l (dnK l (setK0 l k))) 6, 1 + dnV l (dnK l (dnK l (dnK l (setK0 l k)))) 6, 1 + dnV l (dnK l (dnK l (dnK l (dnK l (setK0 l k))))) 2, 1 + dnV l (dnK l (dnK l (dnK l (dnK l (dnK l (setK0 l k)))))) 3⟩
def setK1 (l : List Int) (k : Int) : Int := dnK l (dnK l (dnK l (dnK l (dnK l (dnK l (setK0 l k))))))
def setupV (l : List Int) (k : Int) (n : Nat) : Setup := setU l k (seedsUp l (setK1 l k) n).1
def setupK (l : List Int) (k : Int) (n : Nat) : Int := (seedsUp l (setK1 l k) n).2
theorem setK0_ok {l : List Int} {k : Int} (h : DeckP l k) : DeckP l (setK0 l k) := outsK_ok (progK_ok h)
theorem setK1_ok {l : List Int} {k : Int} (h : DeckP l k) : DeckP l (setK1 l k) := dnK_ok (dnK_ok (dnK_ok (dnK_ok (dnK_ok (dnK_ok (setK0_ok h))))))
theorem setupK_ok {l : List Int} {k : Int} (h : DeckP l k) (n : Nat) : DeckP l (setupK l k n) := seedsUp_ok (setK1_ok h) n
@[simp] theorem f_team_Setup (d_l : List Int) (d_time : Int) (replicas : Int) (N : Nat) (hN : replicas = (N : Int)) (hd : DeckP d_l d_time) (hb : N ≤ 1000) : mcall X ([]) 9 2 (.agg [.sl false (d_l.map (V.int .i64)), .int .i64 d_time]) [.int .i64 replicas] = some (2, .agg [.sl false ((⟨d_l, setupK d_l d_time N⟩ : Deck).l.map (V.int .i64)), .int .i64 (⟨d_l, setupK d_l d_time N⟩ : Deck).time], [.agg [.sl false ((setupV d_l d_time N).program.code.map Instr.enc), .sl false ((setupV d_l d_time N).program.sizes.map (V.int .i64)), .sl false ((setupV d_l d_time N).program.data.map encLU16), .sl false ((setupV d_l d_time N).seeds.map (V.int .i64)), .sl false ((setupV d_l d_time N).outside.clock.map (V.int .u16)), .sl false ((setupV d_l d_time N).outside.random.map (V.int .u16)), .sl false ((setupV d_l d_time N).outside.inputs.map encLU16), .sl false ((setupV d_l d_time N).outside.files.data.map encLCanon), .sl false ((setupV d_l d_time N).outside.files.opens.map Opn.enc), .sl false ((setupV d_l d_time N).outside.outputs.map Output.enc), .int .i64 (setupV d_l d_time N).period, .int .i64 (setupV d_l d_time N).misses, .int .i64 (setupV d_l d_time N).repairs, .int .i64 (setupV d_l d_time N).pages, .int .i64 (setupV d_l d_time N).least, .int .i64 (setupV d_l d_time N).wait]], .bad) := by
  refine mcall_of Tryz.func9 rfl rfl ?_
  have hdp := progK_ok hd
  have h0 : DeckP d_l (outsK d_l (progK d_l d_time)) := setK0_ok hd
  obtain ⟨k0, hk0⟩ : ∃ k0, outsK d_l (progK d_l d_time) = k0 := ⟨_, rfl⟩
  have hs0 : setK0 d_l d_time = k0 := hk0
  rw [hk0] at h0
  have h1 := dnK_ok h0
  have h2 := dnK_ok h1
  have h3 := dnK_ok h2
  have h4 := dnK_ok h3
  have h5 := dnK_ok h4
  have h6 := dnK_ok h5
  have hs1 : setK1 d_l d_time = dnK d_l (dnK d_l (dnK d_l (dnK d_l (dnK d_l (dnK d_l k0))))) := by unfold setK1; rw [hs0]
  have w : ∀ k (n : Int), 1 ≤ n → n ≤ 12 → IntKind.i64.wrap (1 + dnV d_l k n) = 1 + dnV d_l k n := fun k n ha hb => by have := dnV_in d_l k ha; exact wrap_i64 (by omega)
  have w12 := w k0 12 (by omega) (by omega)
  have w6 := w (dnK d_l (dnK d_l k0)) 6 (by omega) (by omega)
  have w6' := w (dnK d_l (dnK d_l (dnK d_l k0))) 6 (by omega) (by omega)
  have w2 := w (dnK d_l (dnK d_l (dnK d_l (dnK d_l k0)))) 2 (by omega) (by omega)
  have w3 := w (dnK d_l (dnK d_l (dnK d_l (dnK d_l (dnK d_l k0))))) 3 (by omega) (by omega)
  have eU : ∀ sd, setU d_l d_time sd = ⟨progV d_l d_time, sd, outsV d_l (progK d_l d_time), 1 + dnV d_l k0 12, dnV d_l (dnK d_l k0) 3, 1 + dnV d_l (dnK d_l (dnK d_l k0)) 6, 1 + dnV d_l (dnK d_l (dnK d_l (dnK d_l k0))) 6, 1 + dnV d_l (dnK d_l (dnK d_l (dnK d_l (dnK d_l k0)))) 2, 1 + dnV d_l (dnK d_l (dnK d_l (dnK d_l (dnK d_l (dnK d_l k0))))) 3⟩ := fun sd => by unfold setU; rw [hs0]
  have eV : setupV d_l d_time N = setU d_l d_time (seedsUp d_l (dnK d_l (dnK d_l (dnK d_l (dnK d_l (dnK d_l (dnK d_l k0)))))) N).1 := by unfold setupV; rw [hs1]
  have eK : setupK d_l d_time N = (seedsUp d_l (dnK d_l (dnK d_l (dnK d_l (dnK d_l (dnK d_l (dnK d_l k0)))))) N).2 := by unfold setupK; rw [hs1]
  rw [eV, eK]
  generalize hk6 : dnK d_l (dnK d_l (dnK d_l (dnK d_l (dnK d_l (dnK d_l k0))))) = k6 at *
  simp (maxSteps := 10000000) (maxDischargeDepth := 30) (implicitDefEqProofs := false) [hN, hd, hdp, hk0, h0, h1, h2, h3, h4, h5, h6, hk6, w12, w6, w6', w2, w3]
  refine Wp_up (fun i S => (S.f 0 = .ptr 0 0 0 ∧ S.h 0 = some ⟨2, [.agg [.sl false ((⟨d_l, (seedsUp d_l k6 i).2⟩ : Deck).l.map (V.int .i64)), .int .i64 (⟨d_l, (seedsUp d_l k6 i).2⟩ : Deck).time]], true⟩ ∧ S.f 1 = .int .i64 replicas ∧ S.f 4 = .ptr 4 0 0 ∧ S.h 4 = some ⟨16, [.agg [.sl false (([] : List Instr).map Instr.enc), .sl false (([] : List Int).map (V.int .i64)), .sl false (([] : List (List Int)).map encLU16), .sl false (([] : List Int).map (V.int .i64)), .sl false (([] : List Int).map (V.int .u16)), .sl false (([] : List Int).map (V.int .u16)), .sl false (([] : List (List Int)).map encLU16), .sl false (([] : List (List Canon)).map encLCanon), .sl false (([] : List Opn).map Opn.enc), .sl false (([] : List Output).map Output.enc), .int .i64 0, .int .i64 0, .int .i64 0, .int .i64 0, .int .i64 0, .int .i64 0]], true⟩ ∧ S.f 5 = .ptr 5 0 0 ∧ S.h 1000 = some ⟨1, ((setU d_l d_time (seedsUp d_l k6 i).1)).seeds.map (V.int .i64), false⟩ ∧ S.h 5 = some ⟨16, [.agg [.sl false (((setU d_l d_time (seedsUp d_l k6 i).1)).program.code.map Instr.enc), .sl false (((setU d_l d_time (seedsUp d_l k6 i).1)).program.sizes.map (V.int .i64)), .sl false (((setU d_l d_time (seedsUp d_l k6 i).1)).program.data.map encLU16), .hdr 1000 0 (((setU d_l d_time (seedsUp d_l k6 i).1)).seeds.map (V.int .i64)).length, .sl false (((setU d_l d_time (seedsUp d_l k6 i).1)).outside.clock.map (V.int .u16)), .sl false (((setU d_l d_time (seedsUp d_l k6 i).1)).outside.random.map (V.int .u16)), .sl false (((setU d_l d_time (seedsUp d_l k6 i).1)).outside.inputs.map encLU16), .sl false (((setU d_l d_time (seedsUp d_l k6 i).1)).outside.files.data.map encLCanon), .sl false (((setU d_l d_time (seedsUp d_l k6 i).1)).outside.files.opens.map Opn.enc), .sl false (((setU d_l d_time (seedsUp d_l k6 i).1)).outside.outputs.map Output.enc), .int .i64 ((setU d_l d_time (seedsUp d_l k6 i).1)).period, .int .i64 ((setU d_l d_time (seedsUp d_l k6 i).1)).misses, .int .i64 ((setU d_l d_time (seedsUp d_l k6 i).1)).repairs, .int .i64 ((setU d_l d_time (seedsUp d_l k6 i).1)).pages, .int .i64 ((setU d_l d_time (seedsUp d_l k6 i).1)).least, .int .i64 ((setU d_l d_time (seedsUp d_l k6 i).1)).wait]], true⟩ ∧ S.f 6 = .int .i64 (i : Int) ∧ S.n = 1101) ∧ True) (N) ?_ 0 (by simp) ?_
  · rintro i S hii ⟨hI0, hP0⟩
    have hwi : IntKind.i64.wrap ((i : Int) + 1) = (i : Int) + 1 := wrap_i64 (by omega)
    by_cases hlti : i < N
    · have hdi := seedsUp_ok h6 i
      have hup := seedsUp_up d_l k6 i
      have hsl := seedsUp_len d_l k6 i
      simp (maxSteps := 10000000) (maxDischargeDepth := 30) (implicitDefEqProofs := false) [hI0, hii, hwi, hlti, hN, hdi, hup, eU]
      omega
    · have hei : N = i := by omega
      subst hei
      simp (maxSteps := 10000000) (maxDischargeDepth := 30) (implicitDefEqProofs := false) [hI0, hii, hwi, hlti, hN]
  · simp (maxSteps := 10000000) (maxDischargeDepth := 30) (implicitDefEqProofs := false) [hN, eU, seedsUp]
end Go.Proofs.YtcfmnogghcjdaaaGreatDoor
namespace Go.Proofs.YtcfmnogghcjdaaaGreatDoor
open Go Go.Abs Go.Abs.Api
def faultsUp (l : List Int) (bad k : Int) : Nat → List Fault × Int
  | 0 => ([], k)
  | i + 1 => ((faultsUp l bad k i).1 ++ [faultV l (faultsUp l bad k i).2 bad 40], faultK l (faultsUp l bad k i).2)
theorem faultsUp_up (l : List Int) (bad k : Int) (i : Nat) : faultsUp l bad k (i + 1) = ((faultsUp l bad k i).1 ++ [faultV l (faultsUp l bad k i).2 bad 40], faultK l (faultsUp l bad k i).2) := rfl
theorem faultsUp_ok {l : List Int} {bad k : Int} (h : DeckP l k) (i : Nat) : DeckP l (faultsUp l bad k i).2 := by
  induction i with
  | zero => exact h
  | succ i ih => exact faultK_ok ih
theorem faultsUp_len (l : List Int) (bad k : Int) (i : Nat) : (faultsUp l bad k i).1.length = i := by
  induction i with
  | zero => rfl
  | succ i ih => rw [faultsUp_up]; simp [ih]
def hangV (l : List Int) (k bad : Int) : Hang := ⟨dnV l k 40, dnV l (dnK l k) bad, 1 + dnV l (dnK l (dnK l k)) 5⟩
def hangK (l : List Int) (k : Int) : Int := dnK l (dnK l (dnK l k))
theorem hangK_ok {l : List Int} {k : Int} (h : DeckP l k) : DeckP l (hangK l k) := dnK_ok (dnK_ok (dnK_ok h))
def hangsUp (l : List Int) (bad k : Int) : Nat → List Hang × Int
  | 0 => ([], k)
  | i + 1 => ((hangsUp l bad k i).1 ++ [hangV l (hangsUp l bad k i).2 bad], hangK l (hangsUp l bad k i).2)
theorem hangsUp_up (l : List Int) (bad k : Int) (i : Nat) : hangsUp l bad k (i + 1) = ((hangsUp l bad k i).1 ++ [hangV l (hangsUp l bad k i).2 bad], hangK l (hangsUp l bad k i).2) := rfl
theorem hangsUp_ok {l : List Int} {bad k : Int} (h : DeckP l k) (i : Nat) : DeckP l (hangsUp l bad k i).2 := by
  induction i with
  | zero => exact h
  | succ i ih => exact hangK_ok ih
theorem hangsUp_len (l : List Int) (bad k : Int) (i : Nat) : (hangsUp l bad k i).1.length = i := by
  induction i with
  | zero => rfl
  | succ i ih => rw [hangsUp_up]; simp [ih]
def crashV (l : List Int) (k : Int) : Crash := ⟨dnV l k 40, decide (dnV l (dnK l k) 2 = 1)⟩
def crashesUp (l : List Int) (k : Int) : Nat → List Crash × Int
  | 0 => ([], k)
  | i + 1 => ((crashesUp l k i).1 ++ [crashV l (crashesUp l k i).2], dnK l (dnK l (crashesUp l k i).2))
theorem crashesUp_up (l : List Int) (k : Int) (i : Nat) : crashesUp l k (i + 1) = ((crashesUp l k i).1 ++ [crashV l (crashesUp l k i).2], dnK l (dnK l (crashesUp l k i).2)) := rfl
theorem crashesUp_ok {l : List Int} {k : Int} (h : DeckP l k) (i : Nat) : DeckP l (crashesUp l k i).2 := by
  induction i with
  | zero => exact h
  | succ i ih => exact dnK_ok (dnK_ok ih)
theorem crashesUp_len (l : List Int) (k : Int) (i : Nat) : (crashesUp l k i).1.length = i := by
  induction i with
  | zero => rfl
  | succ i ih => rw [crashesUp_up]; simp [ih]
def trN0 (l : List Int) (k : Int) : Nat := (dnV l k 5).toNat
def trK1 (l : List Int) (bad k : Int) : Int := (faultsUp l bad (dnK l k) (trN0 l k)).2
def trN1 (l : List Int) (bad k : Int) : Nat := (dnV l (trK1 l bad k) 4 - 1).toNat
def trK2 (l : List Int) (bad k : Int) : Int := (hangsUp l bad (dnK l (trK1 l bad k)) (trN1 l bad k)).2
def trN2 (l : List Int) (bad k : Int) : Nat := (dnV l (trK2 l bad k) 4 - 1).toNat
def trK (l : List Int) (bad k : Int) : Int := (crashesUp l (dnK l (trK2 l bad k)) (trN2 l bad k)).2
def trF (l : List Int) (bad k : Int) : List Fault := (faultsUp l bad (dnK l k) (trN0 l k)).1
def trH (l : List Int) (bad k : Int) : List Hang := (hangsUp l bad (dnK l (trK1 l bad k)) (trN1 l bad k)).1
def trC (l : List Int) (bad k : Int) : List Crash := (crashesUp l (dnK l (trK2 l bad k)) (trN2 l bad k)).1
theorem trK1_ok {l : List Int} {bad k : Int} (h : DeckP l k) : DeckP l (trK1 l bad k) := faultsUp_ok (dnK_ok h) _
theorem trK2_ok {l : List Int} {bad k : Int} (h : DeckP l k) : DeckP l (trK2 l bad k) := hangsUp_ok (dnK_ok (trK1_ok h)) _
theorem trK_ok {l : List Int} {bad k : Int} (h : DeckP l k) : DeckP l (trK l bad k) := crashesUp_ok (dnK_ok (trK2_ok h)) _
@[simp] theorem f_team_Troubles (d_l : List Int) (d_time : Int) (bad : Int) (hd : DeckP d_l d_time) (hb : 1 ≤ bad ∧ bad ≤ 1000) : mcall X ([]) 11 2 (.agg [.sl false (d_l.map (V.int .i64)), .int .i64 d_time]) [.int .i64 bad] = some (2, .agg [.sl false ((⟨d_l, trK d_l bad d_time⟩ : Deck).l.map (V.int .i64)), .int .i64 (⟨d_l, trK d_l bad d_time⟩ : Deck).time], [.agg [.sl false (((⟨trF d_l bad d_time, trH d_l bad d_time, trC d_l bad d_time⟩ : Troubles)).faults.map Fault.enc), .sl false (((⟨trF d_l bad d_time, trH d_l bad d_time, trC d_l bad d_time⟩ : Troubles)).hangs.map Hang.enc), .sl false (((⟨trF d_l bad d_time, trH d_l bad d_time, trC d_l bad d_time⟩ : Troubles)).crashes.map Crash.enc)]], .bad) := by
  refine mcall_of Tryz.func11 rfl rfl ?_
  have hb0 : 0 < bad := by omega
  have hb' : 1 ≤ bad ∧ bad ≤ 4611686018427387904 := by omega
  have v0 := dnV_in d_l d_time (n := 5) (by omega)
  obtain ⟨N0, hN0⟩ : ∃ N0 : Nat, dnV d_l d_time 5 = N0 := ⟨(dnV d_l d_time 5).toNat, by omega⟩
  have q0 : trN0 d_l d_time = N0 := by unfold trN0; rw [hN0]; rfl
  have hd0 := dnK_ok hd
  obtain ⟨k1, hk1⟩ : ∃ k1, trK1 d_l bad d_time = k1 := ⟨_, rfl⟩
  have hd1 : DeckP d_l k1 := by rw [← hk1]; exact trK1_ok hd
  have e1 : (faultsUp d_l bad (dnK d_l d_time) N0).2 = k1 := by rw [← hk1]; unfold trK1; rw [q0]
  have eF : trF d_l bad d_time = (faultsUp d_l bad (dnK d_l d_time) N0).1 := by unfold trF; rw [q0]
  have v1 := dnV_in d_l k1 (n := 4) (by omega)
  have hd1' := dnK_ok hd1
  obtain ⟨w1, hw1⟩ : ∃ w1, dnV d_l k1 4 - 1 = w1 := ⟨_, rfl⟩
  have ww1 : IntKind.i64.wrap w1 = w1 := wrap_i64 (by omega)
  obtain ⟨N1, hN1⟩ : ∃ N1 : Nat, w1.toNat = N1 := ⟨_, rfl⟩
  have q1 : trN1 d_l bad d_time = N1 := by unfold trN1; rw [hk1, hw1, hN1]
  obtain ⟨k2, hk2⟩ : ∃ k2, trK2 d_l bad d_time = k2 := ⟨_, rfl⟩
  have hd2 : DeckP d_l k2 := by rw [← hk2]; exact trK2_ok hd
  have e2 : (hangsUp d_l bad (dnK d_l k1) N1).2 = k2 := by rw [← hk2]; unfold trK2; rw [q1, hk1]
  have eH : trH d_l bad d_time = (hangsUp d_l bad (dnK d_l k1) N1).1 := by unfold trH; rw [q1, hk1]
  have v2 := dnV_in d_l k2 (n := 4) (by omega)
  have hd2' := dnK_ok hd2
  obtain ⟨w2, hw2⟩ : ∃ w2, dnV d_l k2 4 - 1 = w2 := ⟨_, rfl⟩
  have ww2 : IntKind.i64.wrap w2 = w2 := wrap_i64 (by omega)
  obtain ⟨N2, hN2⟩ : ∃ N2 : Nat, w2.toNat = N2 := ⟨_, rfl⟩
  have q2 : trN2 d_l bad d_time = N2 := by unfold trN2; rw [hk2, hw2, hN2]
  have eK : trK d_l bad d_time = (crashesUp d_l (dnK d_l k2) N2).2 := by unfold trK; rw [q2, hk2]
  have eC : trC d_l bad d_time = (crashesUp d_l (dnK d_l k2) N2).1 := by unfold trC; rw [q2, hk2]
  rw [eF, eH, eC, eK]
  clear hk1 hk2 q0 q1 q2 eF eH eC eK
  simp (maxSteps := 10000000) (maxDischargeDepth := 30) (implicitDefEqProofs := false) [hd, hb0, hN0]
  refine Wp_up (fun i S => (S.f 0 = .ptr 0 0 0 ∧ S.h 0 = some ⟨2, [.agg [.sl false ((⟨d_l, (faultsUp d_l bad (dnK d_l d_time) i).2⟩ : Deck).l.map (V.int .i64)), .int .i64 (⟨d_l, (faultsUp d_l bad (dnK d_l d_time) i).2⟩ : Deck).time]], true⟩ ∧ S.f 1 = .int .i64 bad ∧ S.f 4 = .ptr 4 0 0 ∧ S.h 4 = some ⟨3, [.agg [.sl false (([] : List Fault).map Fault.enc), .sl false (([] : List Hang).map Hang.enc), .sl false (([] : List Crash).map Crash.enc)]], true⟩ ∧ S.f 5 = .ptr 5 0 0 ∧ S.h 1000 = some ⟨6, (⟨(faultsUp d_l bad (dnK d_l d_time) i).1, [], []⟩ : Troubles).faults.map Fault.enc, false⟩ ∧ S.h 1001 = some ⟨3, (⟨(faultsUp d_l bad (dnK d_l d_time) i).1, [], []⟩ : Troubles).hangs.map Hang.enc, false⟩ ∧ S.h 1002 = some ⟨2, (⟨(faultsUp d_l bad (dnK d_l d_time) i).1, [], []⟩ : Troubles).crashes.map Crash.enc, false⟩ ∧ S.h 5 = some ⟨3, [.agg [.hdr 1000 0 ((⟨(faultsUp d_l bad (dnK d_l d_time) i).1, [], []⟩ : Troubles).faults.map Fault.enc).length, .hdr 1001 0 ((⟨(faultsUp d_l bad (dnK d_l d_time) i).1, [], []⟩ : Troubles).hangs.map Hang.enc).length, .hdr 1002 0 ((⟨(faultsUp d_l bad (dnK d_l d_time) i).1, [], []⟩ : Troubles).crashes.map Crash.enc).length]], true⟩ ∧ S.f 6 = .int .i64 ((N0 : Int) - i) ∧ S.n = 1103) ∧ True) (N0) ?_ 0 (by simp) ?_
  · rintro i S hii ⟨hI0, hP0⟩
    have hwi : IntKind.i64.wrap ((i : Int) + 1) = (i : Int) + 1 := wrap_i64 (by omega)
    by_cases hlti : i < N0
    · have hdi := faultsUp_ok (bad := bad) hd0 i
      have hup := faultsUp_up d_l bad (dnK d_l d_time) i
      have hsl := faultsUp_len d_l bad (dnK d_l d_time) i
      have c1 : (0 : Int) < (N0 : Int) - i := by omega
      have c2 : IntKind.i64.wrap ((N0 : Int) - i - 1) = (N0 : Int) - (i + 1 : Nat) := by rw [wrap_i64 (by omega)]; omega
      simp (maxSteps := 10000000) (maxDischargeDepth := 30) (implicitDefEqProofs := false) [hI0, hii, hwi, hlti, hdi, hup, hb, hb0, c1, c2]
      exact ⟨⟨by omega, by omega⟩, fun _ _ => rfl⟩
    · have hei : N0 = i := by omega
      subst hei
      rw [e1] at hI0
      simp (maxSteps := 10000000) (maxDischargeDepth := 30) (implicitDefEqProofs := false) [hI0, hii, hwi, hlti, hb0, hd1, hw1, ww1]
      refine Wp_up (fun i S => (S.f 0 = .ptr 0 0 0 ∧ S.h 0 = some ⟨2, [.agg [.sl false ((⟨d_l, (hangsUp d_l bad (dnK d_l k1) i).2⟩ : Deck).l.map (V.int .i64)), .int .i64 (⟨d_l, (hangsUp d_l bad (dnK d_l k1) i).2⟩ : Deck).time]], true⟩ ∧ S.f 1 = .int .i64 bad ∧ S.f 4 = .ptr 4 0 0 ∧ S.h 4 = some ⟨3, [.agg [.sl false (([] : List Fault).map Fault.enc), .sl false (([] : List Hang).map Hang.enc), .sl false (([] : List Crash).map Crash.enc)]], true⟩ ∧ S.f 5 = .ptr 5 0 0 ∧ S.h 1000 = some ⟨6, (⟨(faultsUp d_l bad (dnK d_l d_time) N0).1, (hangsUp d_l bad (dnK d_l k1) i).1, []⟩ : Troubles).faults.map Fault.enc, false⟩ ∧ S.h 1001 = some ⟨3, (⟨(faultsUp d_l bad (dnK d_l d_time) N0).1, (hangsUp d_l bad (dnK d_l k1) i).1, []⟩ : Troubles).hangs.map Hang.enc, false⟩ ∧ S.h 1002 = some ⟨2, (⟨(faultsUp d_l bad (dnK d_l d_time) N0).1, (hangsUp d_l bad (dnK d_l k1) i).1, []⟩ : Troubles).crashes.map Crash.enc, false⟩ ∧ S.h 5 = some ⟨3, [.agg [.hdr 1000 0 ((⟨(faultsUp d_l bad (dnK d_l d_time) N0).1, (hangsUp d_l bad (dnK d_l k1) i).1, []⟩ : Troubles).faults.map Fault.enc).length, .hdr 1001 0 ((⟨(faultsUp d_l bad (dnK d_l d_time) N0).1, (hangsUp d_l bad (dnK d_l k1) i).1, []⟩ : Troubles).hangs.map Hang.enc).length, .hdr 1002 0 ((⟨(faultsUp d_l bad (dnK d_l d_time) N0).1, (hangsUp d_l bad (dnK d_l k1) i).1, []⟩ : Troubles).crashes.map Crash.enc).length]], true⟩ ∧ S.f 8 = .int .i64 (w1 - i) ∧ S.n = 1103) ∧ True) (N1) ?_ 0 (by simp) ?_
      · rintro i S hii ⟨hI1, hP1⟩
        have hwi : IntKind.i64.wrap ((i : Int) + 1) = (i : Int) + 1 := wrap_i64 (by omega)
        by_cases hlti : i < N1
        · have hdi := hangsUp_ok (bad := bad) hd1' i
          have hup := hangsUp_up d_l bad (dnK d_l k1) i
          have hsl := hangsUp_len d_l bad (dnK d_l k1) i
          have c1 : (0 : Int) < w1 - i := by omega
          have c2 : IntKind.i64.wrap (w1 - i - 1) = w1 - (i + 1 : Nat) := by rw [wrap_i64 (by omega)]; omega
          obtain ⟨kk, hkk⟩ : ∃ kk, (hangsUp d_l bad (dnK d_l k1) i).2 = kk := ⟨_, rfl⟩
          rw [hkk] at hdi hup hI1
          have g1 := dnK_ok hdi
          have g2 := dnK_ok g1
          have c3 : IntKind.i64.wrap (1 + dnV d_l (dnK d_l (dnK d_l kk)) 5) = 1 + dnV d_l (dnK d_l (dnK d_l kk)) 5 := by have := dnV_in d_l (dnK d_l (dnK d_l kk)) (n := 5) (by omega); exact wrap_i64 (by omega)
          simp (maxSteps := 10000000) (maxDischargeDepth := 30) (implicitDefEqProofs := false) [hii, hwi, hlti, hI1, hii, hwi, hlti, hdi, g1, g2, hup, hb0, hb', c1, c2, c3, hangV, hangK, Hang.enc_eq]
          omega
        · have hei : N1 = i := by omega
          subst hei
          have c0 : ¬ (0 : Int) < w1 - N1 := by omega
          have c0' : ¬ (N1 : Int) < w1 := by omega
          have c0'' : w1 ≤ (N1 : Int) := by omega
          rw [e2] at hI1
          simp (maxSteps := 10000000) (maxDischargeDepth := 30) (implicitDefEqProofs := false) [hii, hwi, hlti, hI1, hii, hwi, hlti, hb0, hd2, hw2, ww2, c0, c0', c0'']
          refine Wp_up (fun i S => (S.f 0 = .ptr 0 0 0 ∧ S.h 0 = some ⟨2, [.agg [.sl false ((⟨d_l, (crashesUp d_l (dnK d_l k2) i).2⟩ : Deck).l.map (V.int .i64)), .int .i64 (⟨d_l, (crashesUp d_l (dnK d_l k2) i).2⟩ : Deck).time]], true⟩ ∧ S.f 4 = .ptr 4 0 0 ∧ S.h 4 = some ⟨3, [.agg [.sl false (([] : List Fault).map Fault.enc), .sl false (([] : List Hang).map Hang.enc), .sl false (([] : List Crash).map Crash.enc)]], true⟩ ∧ S.f 5 = .ptr 5 0 0 ∧ S.h 1000 = some ⟨6, (⟨(faultsUp d_l bad (dnK d_l d_time) N0).1, (hangsUp d_l bad (dnK d_l k1) N1).1, (crashesUp d_l (dnK d_l k2) i).1⟩ : Troubles).faults.map Fault.enc, false⟩ ∧ S.h 1001 = some ⟨3, (⟨(faultsUp d_l bad (dnK d_l d_time) N0).1, (hangsUp d_l bad (dnK d_l k1) N1).1, (crashesUp d_l (dnK d_l k2) i).1⟩ : Troubles).hangs.map Hang.enc, false⟩ ∧ S.h 1002 = some ⟨2, (⟨(faultsUp d_l bad (dnK d_l d_time) N0).1, (hangsUp d_l bad (dnK d_l k1) N1).1, (crashesUp d_l (dnK d_l k2) i).1⟩ : Troubles).crashes.map Crash.enc, false⟩ ∧ S.h 5 = some ⟨3, [.agg [.hdr 1000 0 ((⟨(faultsUp d_l bad (dnK d_l d_time) N0).1, (hangsUp d_l bad (dnK d_l k1) N1).1, (crashesUp d_l (dnK d_l k2) i).1⟩ : Troubles).faults.map Fault.enc).length, .hdr 1001 0 ((⟨(faultsUp d_l bad (dnK d_l d_time) N0).1, (hangsUp d_l bad (dnK d_l k1) N1).1, (crashesUp d_l (dnK d_l k2) i).1⟩ : Troubles).hangs.map Hang.enc).length, .hdr 1002 0 ((⟨(faultsUp d_l bad (dnK d_l d_time) N0).1, (hangsUp d_l bad (dnK d_l k1) N1).1, (crashesUp d_l (dnK d_l k2) i).1⟩ : Troubles).crashes.map Crash.enc).length]], true⟩ ∧ S.f 9 = .int .i64 (w2 - i) ∧ S.n = 1103) ∧ True) (N2) ?_ 0 (by simp) ?_
          · rintro i S hii ⟨hI2, hP2⟩
            have hwi : IntKind.i64.wrap ((i : Int) + 1) = (i : Int) + 1 := wrap_i64 (by omega)
            by_cases hlti : i < N2
            · have hdi := crashesUp_ok hd2' i
              have hup := crashesUp_up d_l (dnK d_l k2) i
              have hsl := crashesUp_len d_l (dnK d_l k2) i
              have c1 : (0 : Int) < w2 - i := by omega
              have c2 : IntKind.i64.wrap (w2 - i - 1) = w2 - (i + 1 : Nat) := by rw [wrap_i64 (by omega)]; omega
              obtain ⟨kk, hkk⟩ : ∃ kk, (crashesUp d_l (dnK d_l k2) i).2 = kk := ⟨_, rfl⟩
              rw [hkk] at hdi hup hI2
              have g1 := dnK_ok hdi
              simp (maxSteps := 10000000) (maxDischargeDepth := 30) (implicitDefEqProofs := false) [hii, hwi, hlti, hii, hwi, hlti, hI2, hii, hwi, hlti, hdi, g1, hup, c1, c2, crashV, Crash.enc_eq]
              omega
            · have hei : N2 = i := by omega
              subst hei
              have c0 : ¬ (0 : Int) < w2 - N2 := by omega
              have c0' : ¬ (N2 : Int) < w2 := by omega
              have c0'' : w2 ≤ (N2 : Int) := by omega
              simp (maxSteps := 10000000) (maxDischargeDepth := 30) (implicitDefEqProofs := false) [hii, hwi, hlti, hii, hwi, hlti, hI2, hii, hwi, hlti, c0, c0', c0'']
          · simp (maxSteps := 10000000) (maxDischargeDepth := 30) (implicitDefEqProofs := false) [hii, hwi, hlti, hI1, hii, hwi, hlti] <;> (
              simp [crashesUp])
      · simp (maxSteps := 10000000) (maxDischargeDepth := 30) (implicitDefEqProofs := false) [hI0, hii, hwi, hlti] <;> (
          simp [hangsUp])
  · simp (maxSteps := 10000000) (maxDischargeDepth := 30) (implicitDefEqProofs := false) [] <;> (
      simp [faultsUp])
def choosV (l : List Int) (k : Int) : Choice := ⟨dnV l k 5, dnV l (dnK l k) 6, decide (dnV l (dnK l (dnK l k)) 6 = 5)⟩
def choosUp (l : List Int) (k : Int) : Nat → List Choice × Int
  | 0 => ([], k)
  | i + 1 => ((choosUp l k i).1 ++ [choosV l (choosUp l k i).2], dnK l (dnK l (dnK l (choosUp l k i).2)))
theorem choosUp_up (l : List Int) (k : Int) (i : Nat) : choosUp l k (i + 1) = ((choosUp l k i).1 ++ [choosV l (choosUp l k i).2], dnK l (dnK l (dnK l (choosUp l k i).2))) := rfl
theorem choosUp_ok {l : List Int} {k : Int} (h : DeckP l k) (i : Nat) : DeckP l (choosUp l k i).2 := by
  induction i with
  | zero => exact h
  | succ i ih => exact dnK_ok (dnK_ok (dnK_ok ih))
theorem choosUp_len (l : List Int) (k : Int) (i : Nat) : (choosUp l k i).1.length = i := by
  induction i with
  | zero => rfl
  | succ i ih => rw [choosUp_up]; simp [ih]
def chN (l : List Int) (most k : Int) : Nat := (1 + dnV l k most).toNat
def chL (l : List Int) (most k : Int) : List Choice := (choosUp l (dnK l k) (chN l most k)).1
def chK (l : List Int) (most k : Int) : Int := (choosUp l (dnK l k) (chN l most k)).2
theorem chK_ok {l : List Int} {most k : Int} (h : DeckP l k) : DeckP l (chK l most k) := choosUp_ok (dnK_ok h) _
@[simp] theorem f_team_Choices (d_l : List Int) (d_time : Int) (most : Int) (hd : DeckP d_l d_time) (hm : 1 ≤ most ∧ most ≤ 1000) : mcall X ([]) 12 2 (.agg [.sl false (d_l.map (V.int .i64)), .int .i64 d_time]) [.int .i64 most] = some (2, .agg [.sl false ((⟨d_l, chK d_l most d_time⟩ : Deck).l.map (V.int .i64)), .int .i64 (⟨d_l, chK d_l most d_time⟩ : Deck).time], [.sl false ((chL d_l most d_time).map Choice.enc)], .bad) := by
  refine mcall_of Tryz.func12 rfl rfl ?_
  have hm' : 1 ≤ most ∧ most ≤ 4611686018427387904 := by omega
  have v0 := dnV_in d_l d_time (n := most) (by omega)
  obtain ⟨w0, hw0⟩ : ∃ w0, 1 + dnV d_l d_time most = w0 := ⟨_, rfl⟩
  have ww0 : IntKind.i64.wrap w0 = w0 := wrap_i64 (by omega)
  obtain ⟨N, hN⟩ : ∃ N : Nat, w0 = N := ⟨w0.toNat, by omega⟩
  have q0 : chN d_l most d_time = N := by unfold chN; rw [hw0, hN]; rfl
  have hd0 := dnK_ok hd
  have eL : chL d_l most d_time = (choosUp d_l (dnK d_l d_time) N).1 := by unfold chL; rw [q0]
  have eK : chK d_l most d_time = (choosUp d_l (dnK d_l d_time) N).2 := by unfold chK; rw [q0]
  rw [eL, eK]
  subst hN
  simp (maxSteps := 10000000) (maxDischargeDepth := 30) (implicitDefEqProofs := false) [hd, hm', hw0, ww0]
  refine Wp_up (fun i S => (S.f 0 = .ptr 0 0 0 ∧ S.h 0 = some ⟨2, [.agg [.sl false ((⟨d_l, (choosUp d_l (dnK d_l d_time) i).2⟩ : Deck).l.map (V.int .i64)), .int .i64 (⟨d_l, (choosUp d_l (dnK d_l d_time) i).2⟩ : Deck).time]], true⟩ ∧ S.f 5 = .hdr 5 0 ((((choosUp d_l (dnK d_l d_time) i).1).map Choice.enc)).length ∧ S.h 5 = some ⟨3, (((choosUp d_l (dnK d_l d_time) i).1).map Choice.enc), false⟩ ∧ S.f 6 = .int .i64 ((N : Int) - i) ∧ S.n = 1100) ∧ True) (N) ?_ 0 (by simp) ?_
  · rintro i S hii ⟨hI0, hP0⟩
    have hwi : IntKind.i64.wrap ((i : Int) + 1) = (i : Int) + 1 := wrap_i64 (by omega)
    by_cases hlti : i < N
    · have hdi := choosUp_ok hd0 i
      have hup := choosUp_up d_l (dnK d_l d_time) i
      have hsl := choosUp_len d_l (dnK d_l d_time) i
      have c1 : (0 : Int) < (N : Int) - i := by omega
      have c2 : IntKind.i64.wrap ((N : Int) - i - 1) = (N : Int) - (i + 1 : Nat) := by rw [wrap_i64 (by omega)]; omega
      obtain ⟨kk, hkk⟩ : ∃ kk, (choosUp d_l (dnK d_l d_time) i).2 = kk := ⟨_, rfl⟩
      rw [hkk] at hdi hup hI0
      have g1 := dnK_ok hdi
      have g2 := dnK_ok g1
      simp (maxSteps := 10000000) (maxDischargeDepth := 30) (implicitDefEqProofs := false) [hI0, hii, hwi, hlti, hdi, g1, g2, hup, c1, c2, choosV, Choice.enc_eq]
      omega
    · have hei : N = i := by omega
      subst hei
      simp (maxSteps := 10000000) (maxDischargeDepth := 30) (implicitDefEqProofs := false) [hI0, hii, hwi, hlti]
  · simp (maxSteps := 10000000) (maxDischargeDepth := 30) (implicitDefEqProofs := false) [] <;> (
      simp [choosUp])
end Go.Proofs.YtcfmnogghcjdaaaGreatDoor
