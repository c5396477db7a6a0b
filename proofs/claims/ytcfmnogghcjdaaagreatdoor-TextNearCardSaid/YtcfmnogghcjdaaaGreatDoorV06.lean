/- Part of a proof: B4, F1, B5, B6, B7, B8, C1. -/
import Derived.Test.YtcfmnogghcjdaaaGreatDoorV05
import Derived.Lib.SliceRun
import Derived.Orders
set_option linter.all false
set_option maxRecDepth 100000
set_option maxHeartbeats 20000000
namespace Go.Abs
open Go
def stepG (X : Env) (C : CallT) (fid : FuncId) (dsts : List (Option Nat)) (n0 k : Nat) (o : Oper) (S : St) : Option St :=
  match o.guard with
  | none => stepOp X C fid n0 k o S
  | some (j, want) =>
    match dsts[j]? with
    | some (some d) => match S.f d with
      | .bool b => if b = want then stepOp X C fid n0 k o S else some (S.set o.dst (.tup []))
      | .tup [] => some (S.set o.dst (.tup []))
      | _ => none
    | _ => none
section
variable {X : Env} {C : CallT} {fid : FuncId} {dsts : List (Option Nat)} {n0 : Nat}
theorem evOps_cons (k : Nat) (o : Oper) (l : List Oper) (S : St) : evOps X C fid dsts n0 k (o :: l) S = (match stepG X C fid dsts n0 k o S with | some S1 => evOps X C fid dsts n0 (k + 1) l S1 | none => none) := by
  simp only [evOps, stepG]
  cases hg : o.guard with
  | none => rfl
  | some g =>
    obtain ⟨j, want⟩ := g
    simp only
    cases hd : dsts[j]? with
    | none => rfl
    | some x =>
      cases x with
      | none => rfl
      | some d =>
        simp only
        cases hf : S.f d with
        | bool b =>
          simp only
          split
          · rfl
          · rfl
        | tup l => cases l <;> rfl
        | _ => rfl
theorem evOps_append : ∀ (l1 l2 : List Oper) (k : Nat) (S : St), evOps X C fid dsts n0 k (l1 ++ l2) S = (match evOps X C fid dsts n0 k l1 S with | some S1 => evOps X C fid dsts n0 (k + l1.length) l2 S1 | none => none)
  | [], l2, k, S => by simp [evOps]
  | o :: l1, l2, k, S => by
    rw [List.cons_append, evOps_cons, evOps_cons]
    cases stepG X C fid dsts n0 k o S with
    | none => rfl
    | some S1 =>
      simp only
      rw [evOps_append l1 l2 (k + 1) S1, List.length_cons, show k + 1 + l1.length = k + (l1.length + 1) by omega]
def Same (dsts : List (Option Nat)) (o : Oper) (S S' : St) : Prop :=
  Alike o S S' ∧ ∀ j want d, o.guard = some (j, want) → dsts[j]? = some (some d) → S'.f d = S.f d
theorem stepG_skip {k : Nat} {o : Oper} {S : St} {j d : Nat} {want : Bool} (hg : o.guard = some (j, want)) (hd : dsts[j]? = some (some d)) (hf : S.f d = .tup [] ∨ S.f d = .bool (!want)) :
    stepG X C fid dsts n0 k o S = some (S.set o.dst (.tup [])) := by
  unfold stepG
  simp only [hg, hd]
  rcases hf with h | h
  · rw [h]
  · rw [h]
    cases want <;> simp
theorem stepG_cases {k : Nat} {o : Oper} {S S1 : St} (he : stepG X C fid dsts n0 k o S = some S1) :
    (stepOp X C fid n0 k o S = some S1 ∧ ∀ S', Same dsts o S S' → stepG X C fid dsts n0 k o S' = stepOp X C fid n0 k o S') ∨
    (S1 = S.set o.dst (.tup []) ∧ ∀ S', Same dsts o S S' → stepG X C fid dsts n0 k o S' = some (S'.set o.dst (.tup []))) := by
  unfold stepG at he
  cases hg : o.guard with
  | none =>
    simp only [hg] at he
    exact .inl ⟨he, fun S' _ => by simp only [stepG, hg]⟩
  | some g =>
    obtain ⟨j, want⟩ := g
    simp only [hg] at he
    cases hd : dsts[j]? with
    | none => simp [hd] at he
    | some x =>
      cases x with
      | none => simp [hd] at he
      | some d =>
        simp only [hd] at he
        cases hf : S.f d with
        | bool b =>
          simp only [hf] at he
          have hf' : ∀ S', Same dsts o S S' → S'.f d = .bool b := fun S' hs => by rw [hs.2 j want d hg hd]; exact hf
          split at he
          · rename_i hb
            exact .inl ⟨he, fun S' hs => by simp only [stepG, hg, hd, hf' S' hs, hb, if_true]⟩
          · rename_i hb
            simp only [Option.some.injEq] at he
            exact .inr ⟨he.symm, fun S' hs => by simp only [stepG, hg, hd, hf' S' hs, hb, if_false]⟩
        | tup l =>
          cases l with
          | nil =>
            simp only [hf, Option.some.injEq] at he
            have hf' : ∀ S', Same dsts o S S' → S'.f d = .tup [] := fun S' hs => by rw [hs.2 j want d hg hd]; exact hf
            exact .inr ⟨he.symm, fun S' hs => by simp only [stepG, hg, hd, hf' S' hs]⟩
          | cons _ _ => simp [hf] at he
        | _ => simp [hf] at he
theorem gstep0 {k : Nat} {o : Oper} {S S1 : St} (hc : cls X fid o = 0) (he : stepG X C fid dsts n0 k o S = some S1) : ∃ v, S1 = S.set o.dst v ∧ ∀ S', Same dsts o S S' → stepG X C fid dsts n0 k o S' = some (S'.set o.dst v) := by
  rcases stepG_cases he with ⟨h1, h2⟩ | ⟨h1, h2⟩
  · obtain ⟨v, h3, h4⟩ := step0 hc h1
    exact ⟨v, h3, fun S' hs => by rw [h2 S' hs]; exact h4 S' hs.1⟩
  · exact ⟨_, h1, h2⟩
theorem gstep1 {k : Nat} {o : Oper} {S S1 : St} (hc : cls X fid o = 1) (he : stepG X C fid dsts n0 k o S = some S1) : ∃ v, S1 = S.set o.dst v ∧ ∀ S', Same dsts o S S' → Sub S.h S'.h → stepG X C fid dsts n0 k o S' = some (S'.set o.dst v) := by
  rcases stepG_cases he with ⟨h1, h2⟩ | ⟨h1, h2⟩
  · obtain ⟨v, h3, h4⟩ := step1 hc h1
    exact ⟨v, h3, fun S' hs hsub => by rw [h2 S' hs]; exact h4 S' hs.1 hsub⟩
  · exact ⟨_, h1, fun S' hs _ => h2 S' hs⟩
def addOb (h : Heap) (id : Nat) : Option Ob → Heap
  | some ob => upd h id (some ob)
  | none => h
theorem gstep2 {k : Nat} {o : Oper} {S S1 : St} (hc : cls X fid o = 2) (he : stepG X C fid dsts n0 k o S = some S1) : ∃ v ob, S1 = ({ S with h := addOb S.h (n0 + k) ob } : St).set o.dst v ∧
    ∀ S', Same dsts o S S' → stepG X C fid dsts n0 k o S' = some (({ S' with h := addOb S'.h (n0 + k) ob } : St).set o.dst v) := by
  rcases stepG_cases he with ⟨h1, h2⟩ | ⟨h1, h2⟩
  · obtain ⟨v, ob, h3, h4⟩ := step2 hc h1
    exact ⟨v, some ob, h3, fun S' hs => by rw [h2 S' hs]; exact h4 S' hs.1⟩
  · exact ⟨_, none, h1, h2⟩
theorem gstep3 {k : Nat} {o : Oper} {S S1 : St} (he : stepG X C fid dsts n0 k o S = some S1) : ∃ v, S1 = ({ S with h := S1.h, n := S1.n } : St).set o.dst v ∧
    ∀ S', Same dsts o S S' → S'.h = S.h → S'.n = S.n → stepG X C fid dsts n0 k o S' = some (({ S' with h := S1.h, n := S1.n } : St).set o.dst v) := by
  rcases stepG_cases he with ⟨h1, h2⟩ | ⟨h1, h2⟩
  · obtain ⟨v, h3, h4⟩ := step3 h1
    exact ⟨v, h3, fun S' hs hh hn => by rw [h2 S' hs]; exact h4 S' hs.1 hh hn⟩
  · refine ⟨.tup [], by rw [h1, set_h, set_n], fun S' hs hh hn => ?_⟩
    rw [h2 S' hs, h1, set_h, set_n, ← hh, ← hn]
theorem gnews (hC : CallNews X C) {k : Nat} {o : Oper} {S S1 : St} (he : stepG X C fid dsts n0 k o S = some S1) : S.n ≤ S1.n ∧ ∀ id, id ≠ n0 + k → id < S.n → S.h id = none → S1.h id = none := by
  rcases stepG_cases he with ⟨h1, _⟩ | ⟨h1, _⟩
  · exact step_news hC h1
  · subst h1
    rw [set_h, set_n]
    exact ⟨Nat.le_refl _, fun _ _ _ h => h⟩
theorem trace {L : List Oper} {S0 F : St} (he : evOps X C fid dsts n0 0 L S0 = some F) : ∃ T : Nat → St, T 0 = S0 ∧ T L.length = F ∧ (∀ p, p ≤ L.length → evOps X C fid dsts n0 0 (L.take p) S0 = some (T p)) ∧
    ∀ k o, L[k]? = some o → stepG X C fid dsts n0 k o (T k) = some (T (k + 1)) := by
  have pre : ∀ p, p ≤ L.length → ∃ S, evOps X C fid dsts n0 0 (L.take p) S0 = some S := by
    intro p hp
    have := evOps_append (X := X) (C := C) (fid := fid) (dsts := dsts) (n0 := n0) (L.take p) (L.drop p) 0 S0
    rw [List.take_append_drop, he] at this
    cases hx : evOps X C fid dsts n0 0 (L.take p) S0 with
    | none => rw [hx] at this; cases this
    | some S => exact ⟨S, rfl⟩
  refine ⟨fun p => (evOps X C fid dsts n0 0 (L.take p) S0).getD S0, ?_, ?_, fun p hp => ?_, fun k o hk => ?_⟩
  · simp [evOps]
  · simp [he]
  · obtain ⟨S, hS⟩ := pre p hp
    simp [hS]
  · have hkl : k < L.length := (List.getElem?_eq_some_iff.1 hk).1
    obtain ⟨A, hA⟩ := pre k (by omega)
    obtain ⟨B, hB⟩ := pre (k + 1) (by omega)
    have htk : L.take (k + 1) = L.take k ++ [o] := by
      rw [List.take_add_one, hk]; rfl
    have h2 := hB
    rw [htk, evOps_append, hA] at h2
    simp only [List.length_take, Nat.zero_add] at h2
    rw [evOps_cons, Nat.min_eq_left (by omega)] at h2
    show stepG X C fid dsts n0 k o ((evOps X C fid dsts n0 0 (L.take k) S0).getD S0) = some ((evOps X C fid dsts n0 0 (L.take (k + 1)) S0).getD S0)
    rw [hA, hB]
    simp only [Option.getD_some]
    cases hs : stepG X C fid dsts n0 k o A with
    | none => rw [hs] at h2; cases h2
    | some S1 =>
      rw [hs] at h2
      simp only [evOps] at h2
      exact h2
end
end Go.Abs
namespace Go.Abs
open Go
section
variable {h h' h1 G : Heap} {n : Nat}
theorem New.off (H : New h G n) {id : Nat} {ob : Ob} (hob : h id = some ob) : G id = none := by
  cases hg : G id with
  | none => rfl
  | some x => rw [(H id (by rw [hg]; simp)).1] at hob; cases hob
theorem New.big (H : New h G n) {id : Nat} (hid : n ≤ id) : G id = none := by
  cases hg : G id with
  | none => rfl
  | some x => have := (H id (by rw [hg]; simp)).2; omega
theorem ovr_off {id : Nat} (hg : G id = none) : ovr h G id = h id := by unfold ovr; rw [hg]
theorem New.get (H : New h G n) {id : Nat} {ob : Ob} (hob : h id = some ob) : ovr h G id = some ob := by rw [ovr_off (H.off hob), hob]
theorem over_upd {id : Nat} {x : Option Ob} (hg : G id = none) : upd (ovr h G) id x = ovr (upd h id x) G := by
  funext i
  unfold ovr upd
  by_cases e : i = id
  · subst e; simp [hg]
  · simp [e]
theorem New.upd (H : New h G n) {id : Nat} {x : Option Ob} (hg : G id = none) : New (upd h id x) G n := by
  intro i hi
  have e : i ≠ id := fun e => by subst e; exact hi hg
  have := H i hi
  simp only [Abs.upd, e, if_false]
  exact this
theorem New.sub (H : New h G n) (hs : ∀ i, h i = none → h' i = none) : New h' G n := fun i hi => ⟨hs i (H i hi).1, (H i hi).2⟩
theorem New.subs (H : New h G n) : Sub h (ovr h G) := fun id ob hob => H.get hob
theorem give0_over (H : New h G n) {v v' : V} (hg : give0 h v = some (v', h1)) : give0 (ovr h G) v = some (v', ovr h1 G) ∧ New h1 G n := by
  unfold give0 at hg ⊢
  split at hg
  · rename_i id s l
    cases hob : h id with
    | none => simp [hob] at hg
    | some ob =>
      simp only [hob] at hg
      simp only [H.get hob]
      split at hg
      · rename_i hc
        rw [if_pos hc]
        simp only [Option.some.injEq, Prod.mk.injEq] at hg
        obtain ⟨rfl, rfl⟩ := hg
        have := H.off hob
        exact ⟨by rw [over_upd this], H.upd this⟩
      · cases hg
  · split at hg
    · rename_i hc
      simp only [Option.some.injEq, Prod.mk.injEq] at hg
      obtain ⟨rfl, rfl⟩ := hg
      exact ⟨by rw [if_pos hc], H⟩
    · cases hg
theorem giveL_over : ∀ {cs cs' : List V} {h h1 : Heap}, New h G n → giveL h cs = some (cs', h1) → giveL (ovr h G) cs = some (cs', ovr h1 G) ∧ New h1 G n
  | [], cs', h, h1, H, hg => by
    simp only [giveL, Option.some.injEq, Prod.mk.injEq] at hg
    obtain ⟨rfl, rfl⟩ := hg
    exact ⟨rfl, H⟩
  | c :: cs, cs', h, h1, H, hg => by
    simp only [giveL] at hg ⊢
    split at hg
    case h_2 => cases hg
    rename_i c' h2 hc
    obtain ⟨e1, H1⟩ := give0_over H hc
    split at hg
    case h_2 => cases hg
    rename_i cs2 h3 hcs
    obtain ⟨e2, H2⟩ := giveL_over H1 hcs
    simp only [Option.some.injEq, Prod.mk.injEq] at hg
    obtain ⟨rfl, rfl⟩ := hg
    exact ⟨by simp only [e1, e2], H2⟩
theorem give_over (H : New h G n) {v v' : V} (hg : give h v = some (v', h1)) : give (ovr h G) v = some (v', ovr h1 G) ∧ New h1 G n := by
  unfold give at hg ⊢
  split at hg
  · split at hg
    case h_2 => cases hg
    rename_i cs' h2 hl
    obtain ⟨e, H1⟩ := giveL_over H hl
    simp only [Option.some.injEq, Prod.mk.injEq] at hg
    obtain ⟨rfl, rfl⟩ := hg
    exact ⟨by simp only [e], H1⟩
  · exact give0_over H hg
theorem giveP_over : ∀ {ps ps' : List (Nat × V)} {h h1 : Heap}, New h G n → giveP h ps = some (ps', h1) → giveP (ovr h G) ps = some (ps', ovr h1 G) ∧ New h1 G n
  | [], ps', h, h1, H, hg => by
    simp only [giveP, Option.some.injEq, Prod.mk.injEq] at hg
    obtain ⟨rfl, rfl⟩ := hg
    exact ⟨rfl, H⟩
  | (i, c) :: cs, ps', h, h1, H, hg => by
    simp only [giveP] at hg ⊢
    split at hg
    case h_2 => cases hg
    rename_i c' h2 hc
    obtain ⟨e1, H1⟩ := give_over H hc
    split at hg
    case h_2 => cases hg
    rename_i cs2 h3 hcs
    obtain ⟨e2, H2⟩ := giveP_over H1 hcs
    simp only [Option.some.injEq, Prod.mk.injEq] at hg
    obtain ⟨rfl, rfl⟩ := hg
    exact ⟨by simp only [e1, e2], H2⟩
theorem giveA_over : ∀ {ps ps' : List V} {h h1 : Heap}, New h G n → giveA h ps = some (ps', h1) → giveA (ovr h G) ps = some (ps', ovr h1 G) ∧ New h1 G n
  | [], ps', h, h1, H, hg => by
    simp only [giveA, Option.some.injEq, Prod.mk.injEq] at hg
    obtain ⟨rfl, rfl⟩ := hg
    exact ⟨rfl, H⟩
  | c :: cs, ps', h, h1, H, hg => by
    simp only [giveA] at hg ⊢
    split at hg
    case h_2 => cases hg
    rename_i c' h2 hc
    obtain ⟨e1, H1⟩ := give_over H hc
    split at hg
    case h_2 => cases hg
    rename_i cs2 h3 hcs
    obtain ⟨e2, H2⟩ := giveA_over H1 hcs
    simp only [Option.some.injEq, Prod.mk.injEq] at hg
    obtain ⟨rfl, rfl⟩ := hg
    exact ⟨by simp only [e1, e2], H2⟩
theorem elems_over (H : New h G n) {v : V} {r : List V × Bool} (he : elems h v = some r) : elems (ovr h G) v = some r := by
  unfold elems at he ⊢
  split at he
  · exact he
  · rename_i id s l
    cases hob : h id with
    | none => simp [hob] at he
    | some ob => simp only [hob] at he; simp only [H.get hob]; exact he
  · exact he
  · cases he
theorem killL_over : ∀ {l : List (Option Nat)} {h : Heap}, New h G n → (∀ i, some i ∈ l → G i = none) → killL (ovr h G) l = ovr (killL h l) G ∧ New (killL h l) G n
  | [], h, H, _ => ⟨rfl, H⟩
  | none :: l, h, H, hl => killL_over (l := l) H fun i hi => hl i (List.mem_cons_of_mem _ hi)
  | some i :: l, h, H, hl => by
    obtain ⟨e, H1⟩ := killL_over (l := l) H fun i hi => hl i (List.mem_cons_of_mem _ hi)
    have hg := hl i (List.mem_cons_self ..)
    simp only [killL]
    exact ⟨by rw [e, over_upd hg], H1.upd hg⟩
theorem hdrH_over {X : Env} {kp : TypeId → Bool} {R : V} : ∀ {m : Mask} {k : Nat} {h : Heap}, (∀ i, k ≤ i → G i = none) → hdrH X kp R k m (ovr h G) = ovr (hdrH X kp R k m h) G
  | [], k, h, _ => rfl
  | q :: m, k, h, hk => by
    simp only [hdrH]
    rw [hdrH_over (fun i hi => hk i (by omega)), over_upd (hk k (Nat.le_refl _))]
theorem rowAt_over {X : Env} {hx : Heap} (H : New h G n) {t : TypeId} {c : V} (hr : (rowAt X h hx t c).isSome = true) : rowAt X (ovr h G) hx t c = rowAt X h hx t c ∧ ∀ i, c.src = some i → G i = none := by
  unfold rowAt at hr ⊢
  split at hr
  · exact ⟨rfl, fun i hi => by simp [V.src] at hi⟩
  · rename_i id s l
    cases hob : h id with
    | none => simp [hob] at hr
    | some ob =>
      simp only [hob, H.get hob]
      exact ⟨trivial, fun i hi => by simp only [V.src, Option.some.injEq] at hi; subst hi; exact H.off hob⟩
  · cases hr
theorem mapC_congr {F F' : Nat → V → V} : ∀ {cs : List V} {k : Nat}, (∀ j c, cs[j]? = some c → F (k + j) c = F' (k + j) c) → mapC F k cs = mapC F' k cs
  | [], k, _ => rfl
  | c :: cs, k, hc => by
    have e1 : F k c = F' k c := by simpa using hc 0 c (by simp)
    have e2 : mapC F (k + 1) cs = mapC F' (k + 1) cs := mapC_congr fun j c' hj => by
      have := hc (j + 1) c' (by simpa using hj)
      rwa [show k + (j + 1) = k + 1 + j by omega] at this
    simp only [mapC, e1, e2]
theorem map1_congr {F F' : Nat → V → V} {v : V} (hv : ∀ j, F j (v.cells.getD j .bad) = F' j (v.cells.getD j .bad)) : map1 F v = map1 F' v := by
  by_cases h : ∃ cs, v = .agg cs
  · obtain ⟨cs, rfl⟩ := h
    rw [map1_agg, map1_agg, mapC_congr fun j c hj => ?_]
    have := hv j
    simpa [V.cells, List.getD_eq_getElem?_getD, hj] using this
  · have h' : ∀ cs, v ≠ .agg cs := fun cs e => h ⟨cs, e⟩
    rw [map1_one F h', map1_one F' h']
    have := hv 0
    rw [cells_one h'] at this
    exact this
theorem mapV_congr {F F' : Nat → Nat → V → V} {v : V} (hv : ∀ i j, F i j (v.cellAt i j) = F' i j (v.cellAt i j)) : mapV F v = mapV F' v := by
  by_cases h : ∃ cs, v = .tup cs
  · obtain ⟨cs, rfl⟩ := h
    rw [mapV_tup, mapV_tup, mapC_congr fun i c hi => ?_]
    refine map1_congr fun j => ?_
    have := hv i j
    simp only [V.cellAt, List.getD_eq_getElem?_getD, hi, Option.getD_some] at this
    simpa [List.getD_eq_getElem?_getD] using this
  · have h' : ∀ cs, v ≠ .tup cs := fun cs e => h ⟨cs, e⟩
    rw [mapV_one F h', mapV_one F' h']
    refine map1_congr fun j => ?_
    have := hv 0 j
    have e : v.cellAt 0 j = v.cells.getD j .bad := by
      cases v with
      | tup cs => exact absurd rfl (h' cs)
      | _ => rfl
    rwa [e] at this
theorem ownX_over {X : Env} {hx : Heap} (H : New h G n) {v R : V} {m : Mask} (hr : ownX X h hx v m = some R) : ownX X (ovr h G) hx v m = some R ∧ ∀ i, some i ∈ maskSrc v m → G i = none := by
  unfold ownX at hr ⊢
  split at hr
  case isFalse => cases hr
  rename_i hc
  simp only [Bool.and_eq_true] at hc
  have hall : ∀ q ∈ m, rowAt X (ovr h G) hx q.2.2 (v.cellAt q.1 q.2.1) = rowAt X h hx q.2.2 (v.cellAt q.1 q.2.1) ∧ ∀ i, (v.cellAt q.1 q.2.1).src = some i → G i = none := fun q hq => rowAt_over H (List.all_eq_true.1 hc.2 q hq)
  have hc2 : m.all (fun q => (rowAt X (ovr h G) hx q.2.2 (v.cellAt q.1 q.2.1)).isSome) = true := by
    rw [List.all_eq_true]
    intro q hq
    rw [(hall q hq).1]
    exact List.all_eq_true.1 hc.2 q hq
  refine ⟨?_, fun i hi => ?_⟩
  · simp only [hc.1, hc2, Bool.and_self, if_true]
    rw [← hr]
    congr 1
    refine mapV_congr fun i j => ?_
    unfold ownCell
    cases hm : maskNo 0 m i j with
    | none => rfl
    | some p =>
      obtain ⟨q, t⟩ := p
      obtain ⟨_, hq⟩ := maskNo_some hm
      have := (hall _ (List.mem_of_getElem? hq)).1
      simp only at this
      simp only [this]
  · unfold maskSrc at hi
    obtain ⟨q, hq, he⟩ := List.mem_map.1 hi
    exact (hall q hq).2 i he
end
section
variable {X : Env} {C : CallT} {fid : FuncId} {dst : Option Nat} {g : FuncId} {args : List V} {S S1 : St} {G : Heap}
theorem set_over (S : St) (d : Option Nat) (v : V) (h : Heap) : ({ S.set d v with h := h } : St) = ({ S with h := h } : St).set d v := by cases d <;> rfl
theorem io_over (H : New S.h G S.n) (he : evIo X C fid dst g args S = some S1) : evIo X C fid dst g args { S with h := ovr S.h G } = some { S1 with h := ovr S1.h G } := by
  unfold evIo at he ⊢
  split at he
  case h_2 => cases he
  rename_i id rest
  split at he
  case h_2 => cases he
  rename_i ob hob
  split at he
  case h_2 => cases he
  rename_i e hes0
  split at he
  case isFalse => cases he
  rename_i hk
  split at he
  case h_2 => cases he
  rename_i R hR
  split at he
  case h_2 => cases he
  rename_i as h1 hg
  split at he
  case h_2 => cases he
  rename_i v h n hc
  split at he
  case h_2 => cases he
  rename_i kk r rs hend
  simp only [Option.some.injEq] at he
  subst he
  have g0 := H.off hob
  have H1 := H.upd (x := none) g0
  obtain ⟨e2, hsrc⟩ := ownX_over H1 hR
  obtain ⟨e3, H3⟩ := killL_over H1 hsrc
  obtain ⟨e4, H4⟩ := giveA_over H3 hg
  simp only [H.get hob, hes0, hk, if_true, over_upd g0, e2, e3, e4, hc, hend]
  rw [set_over, set_h, hdrH_over (fun i hi => H.big hi)]
theorem mask_over (H : New S.h G S.n) (he : evMask X C fid dst g args S = some S1) : evMask X C fid dst g args { S with h := ovr S.h G } = some { S1 with h := ovr S1.h G } := by
  unfold evMask at he ⊢
  split at he
  case h_2 => cases he
  rename_i as h1 hg
  split at he
  case h_2 => cases he
  rename_i v h n hc
  split at he
  case h_2 => cases he
  rename_i r hR
  simp only [Option.some.injEq] at he
  subst he
  obtain ⟨e4, H4⟩ := giveA_over H hg
  simp only [e4, hc, hR]
  rw [set_over, set_h, hdrH_over (fun i hi => H.big hi)]
theorem call_over (hO : CallOver X C) (H : New S.h G S.n) (he : evCall X C fid dst g args S = some S1) : evCall X C fid dst g args { S with h := ovr S.h G } = some { S1 with h := ovr S1.h G } := by
  unfold evCall at he ⊢
  split at he
  · rename_i t hcl
    split at he
    case h_2 => cases he
    split at he
    case h_2 => cases he
    rename_i es kx hel
    split at he
    · cases he
    rename_i hcond
    simp only [Option.some.injEq] at he
    subst he
    simp only [elems_over H hel]
    rw [if_neg hcond, set_over, set_h]
    simp only [St.new, over_upd (H.big (Nat.le_refl _))]
  · by_cases hf : (X.byref g && !X.low g) = true
    · simp only [hf, if_true] at he ⊢
      split at he
      case h_2 => cases he
      rename_i v h n hc
      simp only [Option.some.injEq] at he
      subst he
      have hlow : X.low g = false := by simp only [Bool.and_eq_true, Bool.not_eq_true'] at hf; exact hf.2
      simp only [hO _ _ _ _ _ _ _ G hlow H hc]
      rw [set_over, set_h]
    rw [Bool.not_eq_true] at hf
    simp only [hf, Bool.false_eq_true, if_false] at he ⊢
    split at he
    · rename_i hio
      rw [if_pos hio]
      exact io_over H he
    rename_i hio
    rw [if_neg hio]
    split at he
    · rename_i hmk
      rw [if_pos hmk]
      exact mask_over H he
    rename_i hmk
    rw [if_neg hmk]
    split at he
    case h_2 => cases he
    rename_i as has
    have has' : allSome (args.map (toImm (ovr S.h G) depth)) = some as := allSome_sub H.subs has
    split at he
    · rename_i hth
      split at he
      case h_2 => cases he
      rename_i v h n hc
      split at he
      · cases he
      rename_i hown
      simp only [Option.some.injEq] at he
      subst he
      have hfun : (fun id => if id < S.n then ovr S.h G id else if args.any V.own1 = true then pureOb (h id) else h id) = ovr (fun id => if id < S.n then S.h id else if args.any V.own1 = true then pureOb (h id) else h id) G := by
        funext i
        unfold ovr
        by_cases hi : i < S.n
        · simp only [hi, if_true]
        · simp only [hi, if_false, H.big (Nat.le_of_not_lt hi)]
      simp only [has', hth, if_true, hc]
      rw [if_neg hown, set_over, set_h, hfun]
    · rename_i hth
      split at he
      case h_2 => cases he
      rename_i v h n hc
      split at he
      case h_2 => cases he
      rename_i v' hv'
      split at he
      · cases he
      rename_i hcond
      simp only [Option.some.injEq] at he
      subst he
      simp only [has', hth, if_false, Bool.false_eq_true, hc, hv']
      rw [if_neg hcond, set_over, set_h]
theorem core_over {o : Oper} {ρ : Operand → V} {h h1 : Heap} {n n1 k : Nat} {v : V} (H : New h G k) (hn : G n = none) (hc : cls X fid o = 3) (he : evCore X fid o ρ h n = some (v, h1, n1)) : evCore X fid o ρ (ovr h G) n = some (v, ovr h1 G, n1) := by
  obtain ⟨d, op, ty, pos, after, guard⟩ := o
  cases op with
  | store t a x =>
    simp only [evCore] at he ⊢
    split at he
    case h_2 => cases he
    rename_i id i f ha
    cases hob : h id with
    | none => simp [hob] at he
    | some ob =>
      simp only [hob] at he
      simp only [H.get hob]
      cases hkp : ob.keep with
      | true =>
        simp only [hkp, if_true] at he ⊢
        simp only [hob] at he
        simp only [H.get hob]
        split at he
        case h_2 => cases he
        rename_i e hes
        split at he
        case isFalse => cases he
        rename_i hcc
        rw [if_pos hcc]
        simp only [Option.some.injEq, Prod.mk.injEq] at he
        obtain ⟨rfl, rfl, rfl⟩ := he
        rw [over_upd (H.off hob)]
      | false =>
        simp only [hkp, if_false, Bool.false_eq_true] at he ⊢
        split at he
        case h_2 => cases he
        rename_i v' h2 hg
        obtain ⟨e1, H1⟩ := give_over H hg
        simp only [e1]
        cases hob2 : h2 id with
        | none => simp [hob2] at he
        | some ob2 =>
          simp only [hob2] at he
          simp only [H1.get hob2]
          split at he
          case h_2 => cases he
          rename_i e hes
          split at he
          case isFalse => cases he
          rename_i hcc
          rw [if_pos hcc]
          simp only [Option.some.injEq, Prod.mk.injEq] at he
          obtain ⟨rfl, rfl, rfl⟩ := he
          rw [over_upd (H.off hob)]
  | buildSlice t m ps =>
    simp only [evCore] at he ⊢
    split at he
    · rename_i hk
      simp only [cls, hk, if_true] at hc
      cases hc
    · rename_i hk
      rw [if_neg hk]
      split at he
      · rename_i hfl
        rw [if_pos hfl]
        split at he
        case h_2 => cases he
        rename_i l h2 hg
        split at he
        case h_2 => cases he
        rename_i es hf
        simp only [Option.some.injEq, Prod.mk.injEq] at he
        obtain ⟨rfl, rfl, rfl⟩ := he
        simp only [hg, hf]
      rename_i hfl
      rw [if_neg hfl]
      split at he
      case h_2 => cases he
      rename_i l h2 hg
      obtain ⟨e1, H1⟩ := giveP_over H hg
      simp only [e1]
      split at he
      case h_2 => cases he
      rename_i es hf
      split at he
      · rename_i hth
        rw [if_pos hth]
        simp only [Option.some.injEq, Prod.mk.injEq] at he
        obtain ⟨rfl, rfl, rfl⟩ := he
        rw [over_upd hn]
      · rename_i hth
        rw [if_neg hth]
        simp only [Option.some.injEq, Prod.mk.injEq] at he
        obtain ⟨rfl, rfl, rfl⟩ := he
        rfl
  | call c =>
    obtain ⟨cal, args, tys⟩ := c
    cases cal with
    | value x => simp [evCore] at he
    | builtin b =>
      cases b with
      | append =>
        simp only [evCore] at he ⊢
        split at he
        case h_2 => cases he
        rename_i s x hargs
        split at he
        case h_2 => cases he
        rename_i es kb xs kx h5 h6
        simp only [elems_over H h5, elems_over H h6]
        split at he
        · cases he
        rename_i hc1
        rw [if_neg hc1]
        split at he
        case isFalse => cases he
        rename_i hc2
        rw [if_pos hc2]
        split at he
        · simp only [Option.some.injEq, Prod.mk.injEq] at he
          obtain ⟨rfl, rfl, rfl⟩ := he
          rw [over_upd hn]
        · split at he
          · cases he
          rename_i hc3
          rw [if_neg hc3]
          simp only [Option.some.injEq, Prod.mk.injEq] at he
          obtain ⟨rfl, rfl, rfl⟩ := he
          rfl
        · rename_i id _ _
          cases hob : h id with
          | none => simp [hob] at he
          | some ob =>
            simp only [hob] at he
            simp only [H.get hob]
            split at he
            case isFalse => cases he
            rename_i hc3
            rw [if_pos hc3]
            simp only [Option.some.injEq, Prod.mk.injEq] at he
            obtain ⟨rfl, rfl, rfl⟩ := he
            rw [over_upd (H.off hob), over_upd hn]
        · cases he
      | copy =>
        simp only [evCore] at he ⊢
        split at he
        case h_2 => cases he
        rename_i id s l x hargs
        split at he
        case h_2 => cases he
        rename_i ob xs kx h5 h6
        simp only [H.get h5, elems_over H h6]
        split at he
        · cases he
        rename_i hc1
        rw [if_neg hc1]
        split at he
        case isFalse => cases he
        rename_i hc2
        rw [if_pos hc2]
        simp only [Option.some.injEq, Prod.mk.injEq] at he
        obtain ⟨rfl, rfl, rfl⟩ := he
        rw [over_upd (H.off h5)]
      | len | min | max => exact absurd (show (0 : Nat) = 3 from hc) (by decide)
      | _ => simp [evCore] at he
    | _ => simp [evCore] at he
  | convert u0 u1 x0 => simp only [cls] at hc; split at hc; cases hc; split at hc <;> cases hc
  | slice t x lo hi mx =>
    simp only [cls] at hc
    split at hc
    case isFalse => cases hc
    rename_i har
    simp only [evCore] at he ⊢
    split at he
    case isFalse => cases he
    rename_i hstr
    rw [if_pos hstr]
    have hno : ∀ {z : V}, ρ x = z → z.isPtr = false → False := fun {z} e hz => by
      have := hstr.2
      rw [e, hz] at this
      rw [← this] at har
      cases har
    cases hx : ρ x with
    | ptr id i f =>
      simp only [hx] at he ⊢
      cases i with
      | succ i => cases he
      | zero =>
      cases f with
      | succ f => cases he
      | zero =>
      simp only at he ⊢
      cases hob : h id with
      | none => rw [hob] at he; split at he <;> simp_all
      | some ob =>
        rw [hob] at he
        rw [H.get hob]
        split at he
        case h_2 => cases he
        rename_i m ob' ham e0
        simp only [Option.some.injEq] at e0
        subst e0
        split at he
        case h_2 => cases he
        rename_i e hes
        split at he
        case isFalse => cases he
        rename_i hcc
        simp only [Option.some.injEq, Prod.mk.injEq] at he
        obtain ⟨rfl, rfl, rfl⟩ := he
        rw [if_pos hcc, over_upd (H.off hob)]
    | _ => exact (hno hx rfl).elim
  | move | assign | pick | build | nilCheck | binOp | unOp | makeFunc | fieldAddr | index | field | extract => exact absurd (show (0 : Nat) = 3 from hc) (by decide)
  | load | indexAddr => exact absurd (show (1 : Nat) = 3 from hc) (by decide)
  | alloc | box | makeSlice => exact absurd (show (2 : Nat) = 3 from hc) (by decide)
  | _ => simp [evCore] at he
theorem core_overA {o : Oper} {S : St} {h h1 : Heap} {n n1 k : Nat} {v : V} (H : New h G k) (hn : G n = none) (hne : ∀ x args tys, o.op ≠ .call ⟨.value x, args, tys⟩) (he : evCore X fid o S.ev h n = some (v, h1, n1)) : evCore X fid o S.ev (ovr h G) n = some (v, ovr h1 G, n1) := by
  have hle : cls X fid o = 0 ∨ cls X fid o = 1 ∨ cls X fid o = 2 ∨ cls X fid o = 3 := by
    unfold cls
    repeat' split
    all_goals simp
  rcases hle with hc | hc | hc | hc
  · obtain ⟨e, hh⟩ := core0 (fun _ => rfl) hc he
    rw [e]
    have h2 := hh h n
    rw [he] at h2
    simp only [Option.some.injEq, Prod.mk.injEq, true_and] at h2
    rw [h2.2]
    exact hh _ _
  · obtain ⟨e, hh⟩ := core1 hc hne he
    rw [e]
    have h2 := hh h n (fun _ _ x => x)
    rw [he] at h2
    simp only [Option.some.injEq, Prod.mk.injEq, true_and] at h2
    rw [h2.2]
    exact hh _ _ H.subs
  · obtain ⟨ob, e, hh⟩ := core2 hc he
    have h2 := hh h
    rw [he] at h2
    simp only [Option.some.injEq, Prod.mk.injEq, true_and] at h2
    rw [e, h2.2, hh, over_upd hn]
  · exact core_over H hn hc he
theorem step_over (hO : CallOver X C) {n0 j : Nat} {o : Oper} (H : New S.h G S.n) (hn : G (n0 + j) = none) (he : stepOp X C fid n0 j o S = some S1) : stepOp X C fid n0 j o { S with h := ovr S.h G } = some { S1 with h := ovr S1.h G } := by
  unfold stepOp at he ⊢
  split at he
  · rename_i x args tys ho
    have hev : ({ S with h := ovr S.h G } : St).ev = S.ev := by funext y; cases y <;> rfl
    rw [hev]
    split at he
    case h_2 => cases he
    rename_i g first caps hx
    exact call_over hO H he
  · rename_i hne
    have hev : ({ S with h := ovr S.h G } : St).ev = S.ev := by funext y; cases y <;> rfl
    rw [hev]
    split at he
    case h_2 => cases he
    rename_i v h1 n1 hcore
    simp only [Option.some.injEq] at he
    subst he
    simp only [core_overA H hn hne hcore]
    rw [set_over, set_h]
theorem stepG_over (hO : CallOver X C) {dsts : List (Option Nat)} {n0 j : Nat} {o : Oper} (H : New S.h G S.n) (hn : G (n0 + j) = none) (he : stepG X C fid dsts n0 j o S = some S1) : stepG X C fid dsts n0 j o { S with h := ovr S.h G } = some { S1 with h := ovr S1.h G } := by
  unfold stepG at he ⊢
  split at he
  · exact step_over hO H hn he
  · split at he
    case h_2 => cases he
    rename_i d hd
    split at he
    · rename_i b hb
      simp only [hb]
      split at he
      · rename_i hbw
        rw [if_pos hbw]
        exact step_over hO H hn he
      · rename_i hbw
        rw [if_neg hbw]
        simp only [Option.some.injEq] at he
        subst he
        rw [set_over, set_h]
    · rename_i hb
      simp only [hb]
      simp only [Option.some.injEq] at he
      subst he
      rw [set_over, set_h]
    · cases he
theorem ops_over (hO : CallOver X C) (hN : CallNews X C) {dsts : List (Option Nat)} {n0 : Nat} : ∀ {l : List Oper} {k : Nat} {S S1 : St}, New S.h G n0 → n0 ≤ S.n → evOps X C fid dsts n0 k l S = some S1 → evOps X C fid dsts n0 k l { S with h := ovr S.h G } = some { S1 with h := ovr S1.h G }
  | [], k, S, S1, H, hn, he => by
    simp only [evOps, Option.some.injEq] at he ⊢
    subst he
    rfl
  | o :: l, k, S, S1, H, hn, he => by
    have hG : G (n0 + k) = none := H.big (by omega)
    have H0 : New S.h G S.n := fun i hi => ⟨(H i hi).1, by have := (H i hi).2; omega⟩
    have two : ∀ {S2 : St}, stepOp X C fid n0 k o S = some S2 → evOps X C fid dsts n0 (k + 1) l S2 = some S1 → stepOp X C fid n0 k o { S with h := ovr S.h G } = some { S2 with h := ovr S2.h G } ∧ evOps X C fid dsts n0 (k + 1) l { S2 with h := ovr S2.h G } = some { S1 with h := ovr S1.h G } := fun {S2} h1 h2 => by
      obtain ⟨a1, a2⟩ := step_news hN h1
      exact ⟨step_over hO H0 hG h1, ops_over hO hN (fun i hi => ⟨a2 i (by have := (H i hi).2; omega) (by have := (H i hi).2; omega) (H i hi).1, (H i hi).2⟩) (by omega) h2⟩
    have skip : evOps X C fid dsts n0 (k + 1) l (S.set o.dst (.tup [])) = some S1 → evOps X C fid dsts n0 (k + 1) l (({ S with h := ovr S.h G } : St).set o.dst (.tup [])) = some { S1 with h := ovr S1.h G } := fun h3 => by
      have := ops_over hO hN (S := S.set o.dst (.tup [])) (by rw [set_h]; exact H) (by rw [set_n]; exact hn) h3
      rw [set_over, set_h] at this
      exact this
    simp only [evOps] at he ⊢
    split at he
    · split at he
      case h_2 => cases he
      rename_i S2 h1
      obtain ⟨e1, e2⟩ := two h1 he
      simp only [e1, e2]
    · split at he
      case h_2 => cases he
      rename_i d hd
      split at he
      · rename_i b hb
        split at he
        · rename_i hbw
          rw [if_pos hbw]
          split at he
          case h_2 => cases he
          rename_i S2 h1
          obtain ⟨e1, e2⟩ := two h1 he
          simp only [e1, e2]
        · rename_i hbw
          rw [if_neg hbw]
          exact skip he
      · rename_i hb
        exact skip he
      · cases he
theorem stable_over (hO : CallOver X C) (hN : CallNews X C) {ops : List Oper} {n0 : Nat} {S0 : St} {l : List (Nat × Nat)} (H : New S0.h G n0) (hn : n0 ≤ S0.n) (hs : Stable X C fid ops n0 S0 S1 l) :
    Stable X C fid ops n0 { S0 with h := ovr S0.h G } { S1 with h := ovr S1.h G } l := by
  intro q hq
  rcases hs q hq with ⟨o, h1, h2⟩ | ⟨o, T, v, h1, h2, h3, h4⟩
  · exact .inl ⟨o, h1, h2⟩
  · have hT := ops_news hN h2
    refine .inr ⟨o, { T with h := ovr T.h G }, v, h1, ops_over hO hN H hn h2, ?_, h4⟩
    have HT : New T.h G n0 := fun i hi => ⟨hT.2 i (by have := (H i hi).2; omega) (by have := (H i hi).2; omega) (H i hi).1, (H i hi).2⟩
    refine core_overA (S := S1) HT (HT.big (by omega)) (fun x args tys e => ?_) h3
    obtain ⟨dst, op, ty, pos, after, guard⟩ := o
    simp only at e
    subst e
    simp [evCore] at h3
end
def EvOver (X : Env) (E : Ev) : Prop := ∀ f c S e S1 G, X.low f = false → New S.h G S.n → E f c S = some (e, S1) → E f c { S with h := ovr S.h G } = some (e, { S1 with h := ovr S1.h G })
theorem allSome_up {α β : Type} {f g : α → Option β} : ∀ (l : List α) {r : List β}, allSome (l.map f) = some r → (∀ x y, f x = some y → g x = some y) → allSome (l.map g) = some r
  | [], r, h, _ => h
  | a :: l, r, h, hg => by
    simp only [List.map_cons] at h ⊢
    cases ha : f a with
    | none => rw [ha] at h; simp [allSome] at h
    | some b =>
      rw [ha] at h
      rw [hg a b ha]
      simp only [allSome] at h ⊢
      split at h
      case h_2 => cases h
      rename_i l' hl'
      rw [allSome_up l hl' hg]
      exact h
theorem callWith_over {X : Env} {E : Ev} (hE : EvOver X E) (hN1 : ∀ f c S e S1, X.low f = false → E f c S = some (e, S1) → ∀ id, id < S.n → S.h id = none → S1.h id = none) : CallOver X (callWith X E) := by
  intro g args h k v h' k' G hl H hc
  unfold callWith at hc ⊢
  have hpg : X.prim g = none := by
    cases hpg : X.prim g with
    | none => rfl
    | some pr => simp [hpg] at hc
  simp only [hpg] at hc ⊢
  split at hc
  case h_2 => cases hc
  rename_i fn hf
  split at hc
  case h_2 => cases hc
  rename_i b hb
  cases he : E g b ⟨enterF args, h, k⟩ with
  | none => simp [he, retV] at hc
  | some x =>
    obtain ⟨e, S1⟩ := x
    have h1 := hE _ _ ⟨enterF args, h, k⟩ _ _ G hl H he
    simp only at h1
    have hsub : ∀ id ob, S1.h id = some ob → ovr S1.h G id = some ob := fun id ob hob => by
      cases hg : G id with
      | none => rw [ovr_off hg, hob]
      | some x =>
        have h3 := H id (by rw [hg]; simp)
        have h4 := hN1 _ _ _ _ _ hl he id h3.2 h3.1
        rw [h4] at hob; cases hob
    have hres : ∀ {v : V}, resultsV X fn.results.toList S1 = some v → resultsV X fn.results.toList { S1 with h := ovr S1.h G } = some v := fun {v} hr => by
      unfold resultsV at hr ⊢
      split at hr
      · rename_i v1 h2
        rw [allSome_up _ h2 fun x y hxy => ?_]
        · exact hr
        · cases x with
          | tmp t => exact hxy
          | cell a t =>
            simp only at hxy ⊢
            split at hxy
            case h_2 => cases hxy
            rename_i id i f hptr
            split at hxy
            case h_2 => cases hxy
            rename_i ob hob
            simp only [hsub id ob hob]
            exact hxy
      · rename_i vs hvs h2
        rw [allSome_up _ h2 fun x y hxy => ?_]
        · split
          · rename_i v2 e
            simp only [Option.some.injEq] at e
            exact absurd e (hvs v2)
          · rename_i l2 e
            simp only [Option.some.injEq] at e
            subst e
            exact hr
          · rename_i e
            cases e
        · cases x with
          | tmp t => exact hxy
          | cell a t =>
            simp only at hxy ⊢
            split at hxy
            case h_2 => cases hxy
            rename_i id i f hptr
            split at hxy
            case h_2 => cases hxy
            rename_i ob hob
            simp only [hsub id ob hob]
            exact hxy
      · cases hr
    rw [he] at hc
    rw [h1]
    cases e with
    | exit i => simp [retV] at hc
    | normal | ret =>
      simp only [retV] at hc ⊢
      split at hc
      case h_2 => cases hc
      rename_i v1 hv1
      simp only [Option.some.injEq, Prod.mk.injEq] at hc
      obtain ⟨rfl, rfl, rfl⟩ := hc
      rw [hres hv1]
theorem evC_dead {X : Env} (hN : NormOk X) (n : Nat) : ∀ f c S e S1, X.low f = false → evC X n f c S = some (e, S1) → ∀ id, id < S.n → S.h id = none → S1.h id = none := fun f c S e S1 hl he id h1 h2 =>
  (evC_news hN n f c S e S1 S.n he (Nat.le_refl _) (fun h => by rw [hl] at h; cases h)).2 id h1 h2
theorem evC_over {X : Env} (hN : NormOk X) : ∀ n, EvOver X (evC X n)
  | 0 => fun f c S e S1 G _ _ he => by simp [evC] at he
  | n + 1 => by
    have ih := evC_over hN n
    have hO := callWith_over (X := X) ih (evC_dead hN n)
    have hC := callWith_news (X := X) (evC_news hN n)
    intro f c S e S1 G hl H he
    have hno : ∀ key, X.norm f key = none := fun key => by
      cases hk : X.norm f key with
      | none => rfl
      | some N => have := (hN f key N hk).2.1; rw [hl] at this; cases this
    have hn : ∀ key (S : St), normS X f key S = some S := fun key S => by unfold normS; rw [hno]
    have news : ∀ {c : Code} {S S1 : St} {e : Ex}, evC X n f c S = some (e, S1) → New S.h G S.n → New S1.h G S1.n := fun {c S S1 e} h1 h2 => by
      have h3 := evC_news hN n f c S e S1 S.n h1 (Nat.le_refl _) (fun h => by rw [hl] at h; cases h)
      exact fun i hi => ⟨h3.2 i (h2 i hi).2 (h2 i hi).1, by have := (h2 i hi).2; omega⟩
    rw [evC] at he ⊢
    cases c with
    | skip | exit _ | ret =>
      simp only [stepC, Option.some.injEq, Prod.mk.injEq] at he ⊢
      obtain ⟨h1, rfl⟩ := he
      exact ⟨h1, rfl⟩
    | region id ops d =>
      simp only [stepC, hn] at he ⊢
      split at he
      case h_2 => cases he
      rename_i S2 hev
      split at he
      case isFalse => cases he
      rename_i hst
      simp only [Option.some.injEq, Prod.mk.injEq] at he
      obtain ⟨rfl, rfl⟩ := he
      have hev2 := ops_over hO hC (S := { S with n := S.n + ops.size }) H (by simp) hev
      have hst2 := stable_over hO hC (S0 := { S with n := S.n + ops.size }) H (by simp) hst
      simp only [hev2, hst2, if_true]
    | seq x y =>
      simp only [stepC] at he ⊢
      cases hx : evC X n f x S with
      | none => simp [hx] at he
      | some z =>
        obtain ⟨e2, S2⟩ := z
        rw [hx] at he
        rw [ih _ _ _ _ _ G hl H hx]
        cases e2 with
        | normal => exact ih _ _ _ _ _ G hl (news hx H) he
        | exit i | ret =>
          simp only [Option.some.injEq, Prod.mk.injEq] at he ⊢
          obtain ⟨rfl, rfl⟩ := he
          exact ⟨rfl, rfl⟩
    | cond x a b =>
      simp only [stepC] at he ⊢
      have hev : ({ S with h := ovr S.h G } : St).ev x = S.ev x := by cases x <;> rfl
      rw [hev]
      split at he
      · rename_i t ht
        split at he
        · rename_i hb; rw [if_pos hb]; exact ih _ _ _ _ _ G hl H he
        · rename_i hb; rw [if_neg hb]; exact ih _ _ _ _ _ G hl H he
      · cases he
    | block i b =>
      simp only [stepC] at he ⊢
      cases hx : evC X n f b S with
      | none => simp [hx] at he
      | some z =>
        obtain ⟨e2, S2⟩ := z
        rw [hx] at he
        rw [ih _ _ _ _ _ G hl H hx]
        cases e2 with
        | exit j =>
          simp only at he ⊢
          split at he
          · rename_i hb
            rw [if_pos hb]
            simp only [Option.some.injEq, Prod.mk.injEq] at he ⊢
            obtain ⟨rfl, rfl⟩ := he
            exact ⟨rfl, rfl⟩
          · rename_i hb
            rw [if_neg hb]
            simp only [Option.some.injEq, Prod.mk.injEq] at he ⊢
            obtain ⟨rfl, rfl⟩ := he
            exact ⟨rfl, rfl⟩
        | normal | ret =>
          simp only [Option.some.injEq, Prod.mk.injEq] at he ⊢
          obtain ⟨rfl, rfl⟩ := he
          exact ⟨rfl, rfl⟩
    | loop b =>
      simp only [stepC, hn] at he ⊢
      cases hx : evC X n f b S with
      | none => simp [hx] at he
      | some z =>
        obtain ⟨e2, S2⟩ := z
        rw [hx] at he
        rw [ih _ _ _ _ _ G hl H hx]
        cases e2 with
        | normal => exact ih _ _ _ _ _ G hl (news hx H) he
        | exit i | ret =>
          simp only [Option.some.injEq, Prod.mk.injEq] at he ⊢
          obtain ⟨rfl, rfl⟩ := he
          exact ⟨rfl, rfl⟩
    | _ => simp [stepC] at he
theorem callOver {X : Env} (hN : NormOk X) (n : Nat) : CallOver X (callWith X (evC X n)) := callWith_over (evC_over hN n) (evC_dead hN n)
end Go.Abs
namespace Go.Abs
open Go
def ancs (L : List Oper) : List (List Nat) :=
  L.foldl (fun acc o => acc ++ [((o.after.toList.filter (Region.binds .any)).flatMap fun e => e.on :: acc.getD e.on []).eraseDups]) []
def wr (cl : List Nat) (p : Nat) : Bool := cl.getD p 0 == 3
def feasB (cl : List Nat) (B : List (List Nat)) (j p : Nat) : Bool :=
  (List.range cl.length).all fun w => !wr cl w || ((!(B.getD j []).contains w || decide (w < p)) && (!(B.getD w []).contains j || decide (p ≤ w)))
def natB (cl : List Nat) (B : List (List Nat)) (j p : Nat) : Bool :=
  decide (p ≤ j) && (List.range cl.length).all fun w => (!wr cl w || (decide (w < j) == decide (w < p))) && (!(cl.getD w 0 == 2 && decide (p ≤ w) && decide (w < j)) || (B.getD j []).contains w)
def drawB (X : Env) (fid : FuncId) (id : Nat) (ops : Array Oper) : Bool :=
  let L := ops.toList
  let B := ancs L
  let cl := L.map (cls X fid)
  let ds := L.map (·.dst)
  X.P.follows .mixedOrders &&
  (List.range L.length).all fun j =>
    match L[j]? with
    | none => true
    | some o =>
      let bj := B.getD j []
      (o.after.toList.all fun e => !Region.binds .any e || decide (e.on < j)) &&
      (bj.all fun i => decide (i < j) && o.after.toList.any fun e => Region.binds .any e && (e.on == i || (B.getD e.on []).contains i)) &&
      ((List.range j).all fun i => (ds.getD i none == none || ds.getD i none != o.dst) &&
        (!(wr cl j && decide (2 ≤ cl.getD i 0)) || bj.contains i)) &&
      ((o.looksAt ops).all fun t => (List.range L.length).all fun k => ds.getD k none != some t || bj.contains k || ((B.getD k []).contains j && !(X.exc fid id).any fun q => q.1 == j)) &&
      (!(cl.getD j 0 == 1) || (List.range (L.length + 1)).all fun p => !(p == 0 || wr cl (p - 1)) || !feasB cl B j p || natB cl B j p || (X.exc fid id).contains (j, p))
structure DrawP (X : Env) (fid : FuncId) (id : Nat) (ops : Array Oper) (B : Nat → List Nat) : Prop where
  mixed : X.P.follows .mixedOrders = true
  edge : ∀ j o e, ops.toList[j]? = some o → e ∈ o.after → Region.binds .any e = true → e.on < j
  lt : ∀ j i, j < ops.size → i ∈ B j → i < j
  bef : ∀ j o i, ops.toList[j]? = some o → i ∈ B j → ∃ e ∈ o.after, Region.binds .any e = true ∧ (e.on = i ∨ i ∈ B e.on)
  dst : ∀ (i j : Nat) oi oj t, i < j → ops.toList[i]? = some oi → ops.toList[j]? = some oj → oi.dst = some t → oj.dst ≠ some t
  looks : ∀ (j k : Nat) o ok t, ops.toList[j]? = some o → ops.toList[k]? = some ok → ok.dst = some t → t ∈ o.looksAt ops → k ∈ B j ∨ (j ∈ B k ∧ ∀ p, (j, p) ∉ X.exc fid id)
  ww : ∀ (i j : Nat) oi oj, i < j → ops.toList[i]? = some oi → ops.toList[j]? = some oj → cls X fid oj = 3 → 2 ≤ cls X fid oi → i ∈ B j
  reads : ∀ (j p : Nat) o, ops.toList[j]? = some o → cls X fid o = 1 → p ≤ ops.size → (p = 0 ∨ ∃ ow, ops.toList[p - 1]? = some ow ∧ cls X fid ow = 3) →
    (∀ (w : Nat) ow, ops.toList[w]? = some ow → cls X fid ow = 3 → (w ∈ B j → w < p) ∧ (j ∈ B w → p ≤ w)) →
    (p ≤ j ∧ ∀ (w : Nat) ow, ops.toList[w]? = some ow → (cls X fid ow = 3 → (w < j ↔ w < p)) ∧ (cls X fid ow = 2 → p ≤ w → w < j → w ∈ B j)) ∨ (j, p) ∈ X.exc fid id
theorem cl_get {X : Env} {fid : FuncId} {L : List Oper} {j : Nat} {o : Oper} (h : L[j]? = some o) : (L.map (cls X fid)).getD j 0 = cls X fid o := by
  simp [List.getD_eq_getElem?_getD, h]
theorem ds_get {L : List Oper} {j : Nat} {o : Oper} (h : L[j]? = some o) : (L.map (·.dst)).getD j none = o.dst := by
  simp [List.getD_eq_getElem?_getD, h]
theorem drawB_spec {X : Env} {fid : FuncId} {id : Nat} {ops : Array Oper} (h : drawB X fid id ops = true) : DrawP X fid id ops (fun j => (ancs ops.toList).getD j []) := by
  unfold drawB at h
  simp only [Bool.and_eq_true] at h
  obtain ⟨hm, h⟩ := h
  generalize ancs ops.toList = B at *
  have hj : ∀ (j : Nat) o, ops.toList[j]? = some o → _ := fun j o ho => by
    have hlt : j < ops.toList.length := (List.getElem?_eq_some_iff.1 ho).1
    have := List.all_eq_true.1 h j (List.mem_range.2 hlt)
    simp only [ho, Bool.and_eq_true] at this
    exact this
  have hlen : ops.toList.length = ops.size := Array.length_toList
  refine ⟨hm, fun j o e ho he hb => ?_, fun j i hjs hi => ?_, fun j o i ho hi => ?_, fun i j oi oj t hij hoi hoj hdi hdj => ?_, fun j k o ok t ho hok hd hl => ?_, fun i j oi oj hij hoi hoj h3 h2 => ?_, fun j p o ho hc hp hw hf => ?_⟩
  · have := List.all_eq_true.1 (hj j o ho).1.1.1.1 e (by simpa using he)
    simpa [hb] using this
  · have ho : ops.toList[j]? = some ops.toList[j] := List.getElem?_eq_getElem (by omega)
    have := List.all_eq_true.1 (hj j _ ho).1.1.1.2 i hi
    simp only [Bool.and_eq_true, decide_eq_true_eq] at this
    exact this.1
  · have := List.all_eq_true.1 (hj j o ho).1.1.1.2 i hi
    simp only [Bool.and_eq_true, decide_eq_true_eq, List.any_eq_true, Bool.or_eq_true, beq_iff_eq, List.contains_iff_mem] at this
    obtain ⟨_, e, he, hb, hor⟩ := this
    exact ⟨e, by simpa using he, hb, hor⟩
  · have := List.all_eq_true.1 (hj j oj hoj).1.1.2 i (List.mem_range.2 hij)
    simp only [Bool.and_eq_true, ds_get hoi] at this
    have h1 := this.1
    rw [hdi, hdj] at h1
    simp at h1
  · have hk : k < ops.toList.length := (List.getElem?_eq_some_iff.1 hok).1
    have := List.all_eq_true.1 (List.all_eq_true.1 (hj j o ho).1.2 t hl) k (List.mem_range.2 hk)
    rw [ds_get hok, hd] at this
    simp only [bne_self_eq_false, Bool.false_or, Bool.or_eq_true, Bool.and_eq_true, Bool.not_eq_true', List.contains_iff_mem, List.any_eq_false, beq_iff_eq] at this
    rcases this with h1 | ⟨h1, h2⟩
    · exact .inl h1
    · exact .inr ⟨h1, fun p hp => h2 (j, p) hp rfl⟩
  · have := List.all_eq_true.1 (hj j oj hoj).1.1.2 i (List.mem_range.2 hij)
    simp only [Bool.and_eq_true, wr, cl_get hoi, cl_get hoj, h3] at this
    have h1 := this.2
    simpa [h2] using h1
  · have := (hj j o ho).2
    simp only [cl_get ho, hc, beq_self_eq_true, Bool.not_true, Bool.false_or] at this
    have := List.all_eq_true.1 this p (List.mem_range.2 (by omega))
    simp only [Bool.or_eq_true, Bool.not_eq_true', List.contains_iff_mem] at this
    rcases this with ((h1 | h1) | h1) | h1
    · exfalso
      rw [Bool.or_eq_false_iff] at h1
      rcases hw with rfl | ⟨ow, how, h3⟩
      · simp at h1
      · have := h1.2
        unfold wr at this
        rw [cl_get how, h3] at this
        cases this
    · exfalso
      rw [← Bool.not_eq_true] at h1
      apply h1
      unfold feasB
      rw [List.all_eq_true]
      intro w hwr
      rw [List.mem_range, List.length_map] at hwr
      have how : ops.toList[w]? = some ops.toList[w] := List.getElem?_eq_getElem hwr
      have hfw := hf w _ how
      simp only [wr, cl_get how, Bool.or_eq_true, Bool.not_eq_true', beq_eq_false_iff_ne, Bool.and_eq_true, decide_eq_true_eq]
      by_cases hc3 : cls X fid ops.toList[w] = 3
      · right
        obtain ⟨g1, g2⟩ := hfw hc3
        refine ⟨?_, ?_⟩
        · by_cases hm' : w ∈ B.getD j []
          · exact .inr (g1 hm')
          · left; simpa [List.contains_iff_mem] using hm'
        · by_cases hm' : j ∈ B.getD w []
          · exact .inr (g2 hm')
          · left; simpa [List.contains_iff_mem] using hm'
      · left; exact hc3
    · left
      unfold natB at h1
      simp only [Bool.and_eq_true, decide_eq_true_eq] at h1
      refine ⟨h1.1, fun w ow how => ?_⟩
      have hwl : w < ops.toList.length := (List.getElem?_eq_some_iff.1 how).1
      have := List.all_eq_true.1 h1.2 w (List.mem_range.2 (by simpa using hwl))
      simp only [Bool.and_eq_true, wr, cl_get how, Bool.or_eq_true, Bool.not_eq_true'] at this
      refine ⟨fun h3 => ?_, fun h2 hp1 hp2 => ?_⟩
      · have := this.1
        simp only [h3, beq_self_eq_true, Bool.true_eq_false, false_or, beq_iff_eq, decide_eq_decide] at this
        exact this
      · have := this.2
        simpa [h2, hp1, hp2] using this
    · exact .inr h1
end Go.Abs
namespace Go.Abs
open Go
structure Tr (X : Env) (C : CallT) (fid : FuncId) (id : Nat) (ops : Array Oper) (S F : St) (T : Nat → St) (B : Nat → List Nat) : Prop where
  draw : DrawP X fid id ops B
  news : CallNews X C
  over : CallOver X C
  t0 : T 0 = { S with n := S.n + ops.size }
  tN : T ops.size = F
  step : ∀ (k : Nat) o, ops.toList[k]? = some o → stepG X C fid (ops.toList.map (·.dst)) S.n k o (T k) = some (T (k + 1))
  pre : ∀ p, p ≤ ops.size → evOps X C fid (ops.toList.map (·.dst)) S.n 0 (ops.toList.take p) { S with n := S.n + ops.size } = some (T p)
  stab : Stable X C fid ops.toList S.n { S with n := S.n + ops.size } F (X.exc fid id)
  fresh : ∀ i, S.n ≤ i → S.h i = none
section
variable {X : Env} {C : CallT} {fid : FuncId} {id : Nat} {ops : Array Oper} {S F : St} {T : Nat → St} {B : Nat → List Nat}
theorem op_at {k : Nat} (hk : k < ops.size) : ops.toList[k]? = some ops.toList[k] := List.getElem?_eq_getElem (by simpa using hk)
theorem op_lt {k : Nat} {o : Oper} (h : ops.toList[k]? = some o) : k < ops.size := by
  have := (List.getElem?_eq_some_iff.1 h).1
  simpa using this
theorem Tr.n_le (t : Tr X C fid id ops S F T B) : ∀ k, k ≤ ops.size → S.n + ops.size ≤ (T k).n
  | 0, _ => by rw [t.t0]; exact Nat.le_refl _
  | k + 1, hk => by
    have h1 := t.n_le k (by omega)
    have := (gnews t.news (t.step k _ (op_at (by omega)))).1
    omega
theorem Tr.h_none (t : Tr X C fid id ops S F T B) : ∀ m q, m ≤ q → q < ops.size → (T m).h (S.n + q) = none
  | 0, q, _, hq => by rw [t.t0]; exact t.fresh _ (by omega)
  | m + 1, q, hm, hq => by
    have h1 := t.h_none m q (by omega) hq
    have h2 := t.n_le m (by omega)
    exact (gnews t.news (t.step m _ (op_at (by omega)))).2 _ (by omega) (by omega) h1
theorem set_ne {S : St} {d : Option Nat} {v : V} {t : Nat} (h : d ≠ some t) : (S.set d v).f t = S.f t := by
  cases d with
  | none => rfl
  | some x =>
    have : t ≠ x := fun e => h (by rw [e])
    simp [St.set, upd, this]
theorem set_eq {S : St} {d : Option Nat} {v : V} {t : Nat} (h : d = some t) : (S.set d v).f t = v := by
  subst h; simp [St.set, upd]
theorem Tr.f_step (t : Tr X C fid id ops S F T B) {k : Nat} {o : Oper} (ho : ops.toList[k]? = some o) {x : Nat} (hd : o.dst ≠ some x) : (T (k + 1)).f x = (T k).f x := by
  obtain ⟨v, h1, _⟩ := gstep3 (t.step k o ho)
  rw [h1, set_ne hd]
theorem Tr.f_range (t : Tr X C fid id ops S F T B) {x : Nat} {i : Nat} : ∀ m, i ≤ m → m ≤ ops.size → (∀ k o, i ≤ k → k < m → ops.toList[k]? = some o → o.dst ≠ some x) → (T m).f x = (T i).f x
  | 0, hi, _, _ => by rw [show i = 0 by omega]
  | m + 1, hi, hm, hk => by
    by_cases he : i = m + 1
    · rw [he]
    · rw [t.f_step (op_at (by omega)) (hk m _ (by omega) (by omega) (op_at (by omega)))]
      exact t.f_range m (by omega) (by omega) fun k o h1 h2 h3 => hk k o h1 (by omega) h3
theorem Tr.f_final (t : Tr X C fid id ops S F T B) {k : Nat} {o : Oper} (ho : ops.toList[k]? = some o) {x : Nat} (hd : o.dst = some x) : ∀ m, k < m → m ≤ ops.size → (T m).f x = F.f x := by
  intro m hm hms
  have hk := op_lt ho
  have key : ∀ m, k < m → m ≤ ops.size → (T m).f x = (T (k + 1)).f x := fun m hm hms => t.f_range m (by omega) hms fun i oi h1 h2 h3 => t.draw.dst k i o oi x (by omega) ho h3 hd
  rw [← t.tN, key m hm hms, key ops.size hk (Nat.le_refl _)]
theorem Tr.f_init (t : Tr X C fid id ops S F T B) {x : Nat} (hx : ∀ (k : Nat) o, ops.toList[k]? = some o → o.dst ≠ some x) : ∀ m, m ≤ ops.size → (T m).f x = S.f x := by
  intro m hm
  rw [t.f_range (i := 0) m (by omega) hm fun k o _ _ h => hx k o h, t.t0]
theorem Tr.quiet (t : Tr X C fid id ops S F T B) {p : Nat} : ∀ m, p ≤ m → m ≤ ops.size → (∀ k o, p ≤ k → k < m → ops.toList[k]? = some o → cls X fid o ≠ 3) →
    (T m).n = (T p).n ∧ (∀ i, (∀ (k : Nat) o, p ≤ k → k < m → ops.toList[k]? = some o → cls X fid o = 2 → i ≠ S.n + k) → (T m).h i = (T p).h i) ∧
      (∀ (k : Nat) o, p ≤ k → k < m → ops.toList[k]? = some o → cls X fid o = 2 → (T m).h (S.n + k) = (T (k + 1)).h (S.n + k))
  | 0, hp, _, _ => by
    rw [show p = 0 by omega]
    exact ⟨rfl, fun _ _ => rfl, fun k o h1 h2 => by omega⟩
  | m + 1, hp, hm, hw => by
    by_cases he : p = m + 1
    · rw [← he]
      exact ⟨rfl, fun _ _ => rfl, fun k o h1 h2 => by omega⟩
    · obtain ⟨h1, h2, h3⟩ := t.quiet m (by omega) (by omega) fun k o g1 g2 g3 => hw k o g1 (by omega) g3
      have ho := op_at (ops := ops) (k := m) (by omega)
      have hst := t.step m _ ho
      generalize ops.toList[m] = o at *
      have hc3 := hw m o (by omega) (by omega) ho
      have hcl : cls X fid o = 0 ∨ cls X fid o = 1 ∨ cls X fid o = 2 := by
        have : cls X fid o ≤ 3 := by
          unfold cls
          repeat' split
          all_goals omega
        omega
      have same : (cls X fid o = 0 ∨ cls X fid o = 1) → (T (m + 1)).h = (T m).h ∧ (T (m + 1)).n = (T m).n := by
        rintro (hc | hc)
        · obtain ⟨v, e, _⟩ := gstep0 hc hst
          rw [e, set_h, set_n]; exact ⟨rfl, rfl⟩
        · obtain ⟨v, e, _⟩ := gstep1 hc hst
          rw [e, set_h, set_n]; exact ⟨rfl, rfl⟩
      by_cases hc2 : cls X fid o = 2
      · obtain ⟨v, ob, e, _⟩ := gstep2 hc2 hst
        have hn : (T (m + 1)).n = (T m).n := by rw [e, set_n]
        have hh : ∀ i, i ≠ S.n + m → (T (m + 1)).h i = (T m).h i := by
          intro i hi
          rw [e, set_h]
          cases ob with
          | none => rfl
          | some ob => simp [addOb, upd, hi]
        refine ⟨by rw [hn, h1], fun i hi => ?_, fun k ok g1 g2 g3 g4 => ?_⟩
        · rw [hh i (hi m o (by omega) (by omega) ho hc2)]
          exact h2 i fun k ok g1 g2 g3 g4 => hi k ok g1 (by omega) g3 g4
        · by_cases hkm : k = m
          · rw [hkm]
          · rw [hh _ (by omega)]
            exact h3 k ok g1 (by omega) g3 g4
      · obtain ⟨e1, e2⟩ := same (by omega)
        refine ⟨by rw [e2, h1], fun i hi => ?_, fun k ok g1 g2 g3 g4 => ?_⟩
        · rw [e1]
          exact h2 i fun k ok g1 g2 g3 g4 => hi k ok g1 (by omega) g3 g4
        · by_cases hkm : k = m
          · exfalso
            apply hc2
            rw [hkm] at g3
            have e3 : some o = some ok := ho.symm.trans g3
            simp only [Option.some.injEq] at e3
            rw [e3]; exact g4
          · rw [e1]
            exact h3 k ok g1 (by omega) g3 g4
end
end Go.Abs
namespace Go.Abs
open Go
open Classical in
noncomputable def SE (X : Env) (fid : FuncId) (ops : Array Oper) (S F : St) (T : Nat → St) (E : Nat → Prop) (p : Nat) : St :=
  { f := fun x => if ∃ k o, E k ∧ ops.toList[k]? = some o ∧ o.dst = some x then F.f x else S.f x
    h := fun i => if ∃ k o, i = S.n + k ∧ ops.toList[k]? = some o ∧ cls X fid o = 2 ∧ E k ∧ p ≤ k then (T (i - S.n + 1)).h i else (T p).h i
    n := (T p).n }
structure Stg (X : Env) (fid : FuncId) (ops : Array Oper) (B : Nat → List Nat) (E : Nat → Prop) (p : Nat) : Prop where
  lt : ∀ k, E k → k < ops.size
  closed : ∀ k, E k → ∀ i ∈ B k, E i
  le : p ≤ ops.size
  last : p = 0 ∨ ∃ o, ops.toList[p - 1]? = some o ∧ cls X fid o = 3
  iff : ∀ (w : Nat) o, ops.toList[w]? = some o → cls X fid o = 3 → (E w ↔ w < p)
section
variable {X : Env} {C : CallT} {fid : FuncId} {id : Nat} {ops : Array Oper} {S F : St} {T : Nat → St} {B : Nat → List Nat} {E : Nat → Prop} {p j : Nat} {o : Oper}
theorem looks_f (t : Tr X C fid id ops S F T B) (g : Stg X fid ops B E p) (ho : ops.toList[j]? = some o) (hb : ∀ i ∈ B j, E i) (hnj : ¬ E j) {x : Nat} (hx : x ∈ o.looksAt ops) :
    (SE X fid ops S F T E p).f x = (T j).f x ∧ ((∃ p, (j, p) ∈ X.exc fid id) → F.f x = (T j).f x) := by
  have hj := op_lt ho
  by_cases hk : ∃ (k : Nat) (ok : Oper), ops.toList[k]? = some ok ∧ ok.dst = some x
  · obtain ⟨k, ok, hok, hd⟩ := hk
    rcases t.draw.looks j k o ok x ho hok hd hx with hkb | ⟨hjb, hne⟩
    · have hkj := t.draw.lt j k hj hkb
      have hf := t.f_final hok hd j hkj (by omega)
      refine ⟨?_, fun _ => hf.symm⟩
      simp only [SE]
      rw [if_pos ⟨k, ok, hb k hkb, hok, hd⟩, hf]
    · have hjk := t.draw.lt k j (op_lt hok) hjb
      have only : ∀ (i : Nat) oi, ops.toList[i]? = some oi → oi.dst = some x → i = k := by
        intro i oi hi hdi
        rcases Nat.lt_trichotomy i k with h | h | h
        · exact absurd hd (t.draw.dst i k oi ok x h hi hok hdi)
        · exact h
        · exact absurd hdi (t.draw.dst k i ok oi x h hok hi hd)
      refine ⟨?_, fun ⟨p, hp⟩ => absurd hp (hne p)⟩
      have h1 : (T j).f x = S.f x := by
        rw [t.f_range (i := 0) j (by omega) (by omega) fun i oi _ h2 h3 h4 => by have := only i oi h3 h4; omega, t.t0]
      simp only [SE]
      rw [if_neg, h1]
      rintro ⟨i, oi, hE, hi, hdi⟩
      rw [only i oi hi hdi] at hE
      exact hnj (g.closed k hE j hjb)
  · have hn : ∀ (k : Nat) ok, ops.toList[k]? = some ok → ok.dst ≠ some x := fun k ok h1 h2 => hk ⟨k, ok, h1, h2⟩
    have h1 := t.f_init hn j (by omega)
    have h2 := t.f_init hn ops.size (Nat.le_refl _)
    rw [t.tN] at h2
    refine ⟨?_, fun _ => by rw [h1, h2]⟩
    simp only [SE]
    rw [if_neg (fun ⟨k, ok, _, h2, h3⟩ => hk ⟨k, ok, h2, h3⟩), h1]
theorem looks_opd {y : Operand} {x : Nat} (hy : y ∈ o.op.operands.toList) (e : y = .tmp x) : x ∈ o.looksAt ops := by
  subst e
  exact List.mem_append_left _ (List.mem_filterMap.2 ⟨.tmp x, hy, rfl⟩)
theorem looks_guard {i d : Nat} {want : Bool} (hg : o.guard = some (i, want)) (hd : (ops.toList.map (·.dst))[i]? = some (some d)) : d ∈ o.looksAt ops := by
  refine List.mem_append_right _ ?_
  rw [List.getElem?_map, Array.getElem?_toList] at hd
  cases ho : ops[i]? with
  | none => simp [ho] at hd
  | some x =>
    simp [ho] at hd
    simp [hg, ho, hd]
theorem same_SE (t : Tr X C fid id ops S F T B) (g : Stg X fid ops B E p) (ho : ops.toList[j]? = some o) (hb : ∀ i ∈ B j, E i) (hnj : ¬ E j) : Same (ops.toList.map (·.dst)) o (T j) (SE X fid ops S F T E p) := by
  refine ⟨fun y hy => ?_, fun i want d hg hd => (looks_f t g ho hb hnj (looks_guard hg hd)).1⟩
  cases y with
  | tmp x => exact (looks_f t g ho hb hnj (looks_opd hy rfl)).1
  | _ => rfl
theorem f_upd (t : Tr X C fid id ops S F T B) (ho : ops.toList[j]? = some o) {A Y : St} {v : V} (hA : A.f = (SE X fid ops S F T E p).f) (hv : ∀ d, o.dst = some d → F.f d = v) (q : Nat) :
    (A.set o.dst v).f = (SE X fid ops S F T (fun k => E k ∨ k = j) q).f := by
  funext x
  by_cases hd : o.dst = some x
  · rw [set_eq hd]
    simp only [SE]
    rw [if_pos ⟨j, o, .inr rfl, ho, hd⟩, hv x hd]
  · rw [set_ne hd, hA]
    simp only [SE]
    have this : (∃ (k : Nat) (o : Oper), E k ∧ ops.toList[k]? = some o ∧ o.dst = some x) ↔ (∃ (k : Nat) (o : Oper), (E k ∨ k = j) ∧ ops.toList[k]? = some o ∧ o.dst = some x) := by
      constructor
      · rintro ⟨k, ok, h1, h2, h3⟩; exact ⟨k, ok, .inl h1, h2, h3⟩
      · rintro ⟨k, ok, h1 | h1, h2, h3⟩
        · exact ⟨k, ok, h1, h2, h3⟩
        · exfalso
          subst h1
          have e3 : some o = some ok := ho.symm.trans h2
          simp only [Option.some.injEq] at e3
          exact hd (by rw [e3]; exact h3)
    by_cases hc : ∃ (k : Nat) (o : Oper), E k ∧ ops.toList[k]? = some o ∧ o.dst = some x
    · rw [if_pos hc, if_pos (this.1 hc)]
    · rw [if_neg hc, if_neg (fun h => hc (this.2 h))]
theorem v_final (t : Tr X C fid id ops S F T B) (ho : ops.toList[j]? = some o) {Y : St} {v : V} (he : T (j + 1) = Y.set o.dst v) : ∀ d, o.dst = some d → F.f d = v := by
  intro d hd
  have hj := op_lt ho
  rw [← t.f_final ho hd (j + 1) (by omega) (by omega), he, set_eq hd]
theorem st_ext {A Y : St} (h1 : A.f = Y.f) (h2 : A.h = Y.h) (h3 : A.n = Y.n) : A = Y := by
  cases A; cases Y; simp_all
theorem adv (t : Tr X C fid id ops S F T B) (g : Stg X fid ops B E p) (ho : ops.toList[j]? = some o) (hj : ¬ E j) (hb : ∀ i ∈ B j, E i) :
    ∃ p', Stg X fid ops B (fun k => E k ∨ k = j) p' ∧ stepG X C fid (ops.toList.map (·.dst)) S.n j o (SE X fid ops S F T E p) = some (SE X fid ops S F T (fun k => E k ∨ k = j) p') := by
  have hlt := op_lt ho
  have hsame := same_SE t g ho hb hj
  have hst := t.step j o ho
  have uniq : ∀ {ok : Oper}, ops.toList[j]? = some ok → ok = o := fun h => by
    have e3 := ho.symm.trans h
    simp only [Option.some.injEq] at e3
    exact e3.symm
  have hlt' : ∀ k, (E k ∨ k = j) → k < ops.size := fun k hk => by
    rcases hk with hk | rfl
    · exact g.lt k hk
    · exact hlt
  have hcl' : ∀ k, (E k ∨ k = j) → ∀ i ∈ B k, E i ∨ i = j := fun k hk i hi => by
    rcases hk with hk | rfl
    · exact .inl (g.closed k hk i hi)
    · exact .inl (hb i hi)
  have later : ∀ k, E k → j ∉ B k := fun k hk hjb => hj (g.closed k hk j hjb)
  by_cases hc3 : cls X fid o = 3
  · 
    have hW : ∀ (w : Nat) ow, ops.toList[w]? = some ow → cls X fid ow = 3 → (E w ↔ w < j) := by
      intro w ow how h3
      constructor
      · intro hw
        rcases Nat.lt_trichotomy w j with h | h | h
        · exact h
        · subst h; exact absurd hw hj
        · exact absurd (t.draw.ww j w o ow h ho how h3 (by omega)) (later w hw)
      · intro h
        exact hb w (t.draw.ww w j ow o h how ho hc3 (by omega))
    have hpj : p ≤ j := by
      rcases g.last with h | ⟨ow, how, h3⟩
      · omega
      · by_cases h0 : p = 0
        · omega
        · have := (g.iff (p - 1) ow how h3).2 (by omega)
          have := (hW (p - 1) ow how h3).1 this
          omega
    obtain ⟨q1, q2, q3⟩ := t.quiet j hpj (by omega) fun k ok h1 h2 hok h3 => by
      have := (hW k ok hok h3).2 h2
      have := (g.iff k ok hok h3).1 this
      omega
    have hnj : ∀ k, j ≤ k → k < ops.size → (T j).h (S.n + k) = none := fun k h1 h2 => t.h_none j k h1 h2
    classical
    have hG : ∃ G : Heap, (∀ i, G i = if ∃ k o, i = S.n + k ∧ ops.toList[k]? = some o ∧ cls X fid o = 2 ∧ E k ∧ j + 1 ≤ k then (T (i - S.n + 1)).h i else none) := by
      exact ⟨fun i => if ∃ k o, i = S.n + k ∧ ops.toList[k]? = some o ∧ cls X fid o = 2 ∧ E k ∧ j + 1 ≤ k then (T (i - S.n + 1)).h i else none, fun _ => rfl⟩
    obtain ⟨G, hG⟩ := hG
    have hGn : ∀ i, G i ≠ none → ∃ k, i = S.n + k ∧ j + 1 ≤ k ∧ k < ops.size ∧ ∃ o, ops.toList[k]? = some o ∧ cls X fid o = 2 ∧ E k := by
      intro i hi
      rw [hG] at hi
      split at hi
      · rename_i hx
        obtain ⟨k, ok, h1, h2, h3, h4, h5⟩ := hx
        exact ⟨k, h1, h5, g.lt k h4, ok, h2, h3, h4⟩
      · exact absurd rfl hi
    have hh : (SE X fid ops S F T E p).h = ovr (T j).h G := by
      funext i
      simp only [SE, ovr]
      split
      · rename_i hx
        obtain ⟨k, ok, rfl, hok, h2, hE, hpk⟩ := hx
        have hkj : k ≠ j := fun e => by subst e; exact hj hE
        rcases Nat.lt_or_ge k j with h | h
        · have hg0 : G (S.n + k) = none := by
            cases hz : G (S.n + k) with
            | none => rfl
            | some y =>
              obtain ⟨k2, e1, e2, _⟩ := hGn (S.n + k) (by rw [hz]; simp)
              omega
          rw [hg0, show S.n + k - S.n + 1 = k + 1 by omega, q3 k ok hpk h hok h2]
        · rw [hG, if_pos ⟨k, ok, rfl, hok, h2, hE, by omega⟩]
          cases hz : (T (S.n + k - S.n + 1)).h (S.n + k) with
          | some y => rfl
          | none =>
            simp only
            rw [hnj k (by omega) (g.lt k hE)]
      · rename_i hx
        have hg0 : G i = none := by
          cases hz : G i with
          | none => rfl
          | some y =>
            obtain ⟨k2, e1, e2, e3, o2, e4, e5, e6⟩ := hGn i (by rw [hz]; simp)
            exact absurd ⟨k2, o2, e1, e4, e5, e6, by omega⟩ hx
        rw [hg0]
        simp only
        rw [q2 i fun k ok h1 h2 hok h3 e => hx ⟨k, ok, e, hok, h3, hb k (t.draw.ww k j ok o h2 hok ho hc3 (by omega)), h1⟩]
    obtain ⟨v, e1, e2⟩ := gstep3 hst
    have hStg : Stg X fid ops B (fun k => E k ∨ k = j) (j + 1) := ⟨hlt', hcl', by omega, .inr ⟨o, by simpa using ho, hc3⟩, fun w ow how h3 => by
      have := hW w ow how h3
      constructor
      · rintro (h | h)
        · have := this.1 h; omega
        · omega
      · intro h
        by_cases e : w = j
        · exact .inr e
        · exact .inl (this.2 (by omega))⟩
    have hh' : (SE X fid ops S F T (fun k => E k ∨ k = j) (j + 1)).h = ovr (T (j + 1)).h G := by
      funext i
      simp only [SE, ovr]
      by_cases hx : ∃ k o, i = S.n + k ∧ ops.toList[k]? = some o ∧ cls X fid o = 2 ∧ E k ∧ j + 1 ≤ k
      · obtain ⟨k, ok, rfl, hok, h2, hE, hk⟩ := hx
        rw [if_pos ⟨k, ok, rfl, hok, h2, .inl hE, hk⟩, hG, if_pos ⟨k, ok, rfl, hok, h2, hE, hk⟩]
        cases hz : (T (S.n + k - S.n + 1)).h (S.n + k) with
        | some y => rfl
        | none =>
          simp only
          rw [t.h_none (j + 1) k hk (g.lt k hE)]
      · rw [if_neg (fun ⟨k, ok, h1, hok, h2, hE, hk⟩ => hx ⟨k, ok, h1, hok, h2, by
          rcases hE with hE | hE
          · exact hE
          · omega, hk⟩), hG, if_neg hx]
    have hn' : (SE X fid ops S F T (fun k => E k ∨ k = j) (j + 1)).n = (T (j + 1)).n := rfl
    refine ⟨j + 1, hStg, ?_⟩
    have hf := f_upd (A := { SE X fid ops S F T E p with h := (T (j + 1)).h, n := (T (j + 1)).n }) (p := p) (E := E) (Y := S) t ho rfl (v_final t ho e1) (j + 1)
    by_cases hemp : ∀ i, G i = none
    · have eG : ∀ h : Heap, ovr h G = h := fun h => by funext i; exact ovr_off (hemp i)
      rw [eG] at hh hh'
      rw [e2 _ hsame hh q1.symm]
      exact congrArg some (st_ext hf (by rw [set_h, hh']) (by rw [set_n, hn']))
    · 
      have hN : New (T j).h G (T j).n := fun i hi => by
        obtain ⟨k, h1, h2, h3, _⟩ := hGn i hi
        have := t.n_le j (by omega)
        subst h1
        exact ⟨hnj k (by omega) h3, by omega⟩
      have hGj : G (S.n + j) = none := by
        cases hz : G (S.n + j) with
        | none => rfl
        | some y =>
          obtain ⟨k2, e1, e2, _⟩ := hGn (S.n + j) (by rw [hz]; simp)
          omega
      have hov := stepG_over t.over hN hGj hst
      obtain ⟨v2, e3, e4⟩ := gstep3 hov
      have hsame2 : Same (ops.toList.map (·.dst)) o { T j with h := ovr (T j).h G } (SE X fid ops S F T E p) := hsame
      rw [e4 _ hsame2 hh q1.symm]
      have hv2 : ∀ d, o.dst = some d → v2 = v := by
        intro d hd
        have h1 := congrArg (fun Z : St => Z.f d) e3
        have h2 := congrArg (fun Z : St => Z.f d) e1
        simp only [set_eq hd] at h1 h2
        rw [← h1, ← h2]
      have hfin : ∀ d, o.dst = some d → F.f d = v2 := fun d hd => by rw [hv2 d hd]; exact v_final t ho e1 d hd
      have hf2 := f_upd (A := { SE X fid ops S F T E p with h := ovr (T (j + 1)).h G, n := (T (j + 1)).n }) (p := p) (E := E) (Y := S) t ho rfl hfin (j + 1)
      exact congrArg some (st_ext hf2 (by rw [set_h, hh']) (by rw [set_n, hn']))
  · 
    have hst' : Stg X fid ops B (fun k => E k ∨ k = j) p := ⟨hlt', hcl', g.le, g.last, fun w ow how h3 => by
      constructor
      · rintro (h | h)
        · exact (g.iff w ow how h3).1 h
        · subst h; rw [uniq how] at h3; exact absurd h3 hc3
      · intro h; exact .inl ((g.iff w ow how h3).2 h)⟩
    refine ⟨p, hst', ?_⟩
    have hn' : (SE X fid ops S F T (fun k => E k ∨ k = j) p).n = (SE X fid ops S F T E p).n := rfl
    have hkeep : cls X fid o ≠ 2 → (SE X fid ops S F T E p).h = (SE X fid ops S F T (fun k => E k ∨ k = j) p).h := by
      intro hc2
      funext i
      simp only [SE]
      by_cases hc : ∃ (k : Nat) (ok : Oper), i = S.n + k ∧ ops.toList[k]? = some ok ∧ cls X fid ok = 2 ∧ E k ∧ p ≤ k
      · obtain ⟨k, ok, h1, h2, h3, h4, h5⟩ := hc
        rw [if_pos ⟨k, ok, h1, h2, h3, h4, h5⟩, if_pos ⟨k, ok, h1, h2, h3, .inl h4, h5⟩]
      · rw [if_neg hc, if_neg]
        rintro ⟨k, ok, h1, h2, h3, h4 | h4, h5⟩
        · exact hc ⟨k, ok, h1, h2, h3, h4, h5⟩
        · subst h4; rw [uniq h2] at h3; exact hc2 h3
    have hcl : cls X fid o = 0 ∨ cls X fid o = 1 ∨ cls X fid o = 2 := by
      have : cls X fid o ≤ 3 := by
        unfold cls
        repeat' split
        all_goals omega
      omega
    rcases hcl with hc | hc | hc
    · obtain ⟨v, e1, e2⟩ := gstep0 hc hst
      rw [e2 _ hsame]
      exact congrArg some (st_ext (f_upd (Y := S) t ho rfl (v_final t ho e1) p) (by rw [set_h, hkeep (by omega)]) (by rw [set_n, hn']))
    · have fin : ∀ v, (∀ d, o.dst = some d → F.f d = v) → some ((SE X fid ops S F T E p).set o.dst v) = some (SE X fid ops S F T (fun k => E k ∨ k = j) p) := fun v hv =>
        congrArg some (st_ext (f_upd (Y := S) t ho rfl hv p) (by rw [set_h, hkeep (by omega)]) (by rw [set_n, hn']))
      have hWp : ∀ (w : Nat) ow, ops.toList[w]? = some ow → cls X fid ow = 3 → (w ∈ B j → w < p) ∧ (j ∈ B w → p ≤ w) := fun w ow how h3 =>
        ⟨fun hm => (g.iff w ow how h3).1 (hb w hm), fun hm => by
          rcases Nat.lt_or_ge w p with h | h
          · exact absurd hm (later w ((g.iff w ow how h3).2 h))
          · exact h⟩
      rcases t.draw.reads j p o ho hc g.le g.last hWp with ⟨hpj, hnat⟩ | hexc
      · obtain ⟨q1, q2, q3⟩ := t.quiet j hpj (by omega) fun k ok h1 h2 hok h3 => by
          have := ((hnat k ok hok).1 h3).1 h2
          omega
        obtain ⟨v, e1, e2⟩ := gstep1 hc hst
        rw [e2 _ hsame ?_]
        · exact fin v (v_final t ho e1)
        · intro i ob hi
          simp only [SE]
          split
          · rename_i hx
            obtain ⟨k, ok, rfl, hok, h2, hE, hpk⟩ := hx
            rcases Nat.lt_or_ge k j with h | h
            · rw [show S.n + k - S.n + 1 = k + 1 by omega, ← q3 k ok hpk h hok h2]; exact hi
            · rw [t.h_none j k h (g.lt k hE)] at hi; cases hi
          · rename_i hx
            rw [← q2 i fun k ok h1 h2 hok h3 e => hx ⟨k, ok, e, hok, h3, hb k ((hnat k ok hok).2 h3 h1 h2), h1⟩]
            exact hi
      · rcases t.stab (j, p) hexc with ⟨o', h1, hsk⟩ | ⟨o', T', v', h1, h2, h3, h4⟩
        · have eo := uniq h1
          subst eo
          unfold skips at hsk
          cases hg : o'.guard with
          | none => rw [hg] at hsk; exact absurd hsk (fun h => h)
          | some gw =>
            obtain ⟨jg, want⟩ := gw
            rw [hg] at hsk
            simp only at hsk
            cases hd : (ops.toList.map (·.dst))[jg]? with
            | none => rw [hd] at hsk; exact absurd hsk (fun h => h)
            | some od =>
              cases od with
              | none => rw [hd] at hsk; exact absurd hsk (fun h => h)
              | some d =>
                rw [hd] at hsk
                simp only at hsk
                have hl := looks_f t g ho hb hj (looks_guard hg hd)
                rw [hl.2 ⟨p, hexc⟩] at hsk
                have e1 := stepG_skip (X := X) (C := C) (fid := fid) (n0 := S.n) (k := j) hg hd hsk
                rw [hst] at e1
                simp only [Option.some.injEq] at e1
                rw [← hl.1] at hsk
                rw [stepG_skip hg hd hsk]
                exact fin _ (v_final t ho e1)
        have eo := uniq h1
        subst eo
        have eT : T' = T p := by
          have := t.pre p g.le
          simp only at h2
          rw [h2] at this
          simpa using this
        subst eT
        rcases stepG_cases hst with ⟨g1, g2⟩ | ⟨g1, g2⟩
        · rw [g2 _ hsame]
          have hne : ∀ x args tys, o'.op ≠ .call ⟨.value x, args, tys⟩ := by
            intro x args tys e
            simp [evCore, e] at h3
          obtain ⟨_, k2⟩ := core1 hc hne h3
          have hcg : ∀ y ∈ o'.op.operands.toList, (SE X fid ops S F T E p).ev y = F.ev y := by
            intro y hy
            cases y with
            | tmp x =>
              have := looks_f t g ho hb hj (looks_opd hy rfl)
              show (SE X fid ops S F T E p).f x = F.f x
              rw [this.1, this.2 ⟨p, hexc⟩]
            | _ => rfl
          rw [stepOp_op hne, evCore_congr hcg, k2 (SE X fid ops S F T E p).h (S.n + j) ?_]
          · exact fin v' h4
          · intro i ob hi
            simp only [SE]
            split
            · rename_i hx
              obtain ⟨k, ok, rfl, hok, h2, hE, hpk⟩ := hx
              rw [t.h_none p k hpk (g.lt k hE)] at hi; cases hi
            · exact hi
        · rw [g2 _ hsame]
          exact fin _ (v_final t ho g1)
    · obtain ⟨v, ob, e1, e2⟩ := gstep2 hc hst
      rw [e2 _ hsame]
      have hpj : p ≤ j := by
        rcases g.last with h | ⟨ow, how, h3⟩
        · omega
        · by_cases h0 : p = 0
          · omega
          · have hE := (g.iff (p - 1) ow how h3).2 (by omega)
            rcases Nat.lt_trichotomy (p - 1) j with h | h | h
            · omega
            · rw [h] at hE; exact absurd hE hj
            · exact absurd (t.draw.ww j (p - 1) o ow h ho how h3 (by omega)) (later _ hE)
      refine congrArg some (st_ext (f_upd (A := { SE X fid ops S F T E p with h := addOb (SE X fid ops S F T E p).h (S.n + j) ob }) (E := E) (p := p) (Y := S) t ho rfl (v_final t ho e1) p) ?_ (by rw [set_n, hn']))
      rw [set_h]
      funext i
      by_cases hi : i = S.n + j
      · subst hi
        have hR : (SE X fid ops S F T (fun k => E k ∨ k = j) p).h (S.n + j) = (T (j + 1)).h (S.n + j) := by
          simp only [SE]
          rw [if_pos ⟨j, o, rfl, ho, hc, .inr rfl, hpj⟩, show S.n + j - S.n + 1 = j + 1 by omega]
        have hL : (SE X fid ops S F T E p).h (S.n + j) = none := by
          simp only [SE]
          rw [if_neg, t.h_none p j hpj hlt]
          rintro ⟨k, ok, h1, _, _, h4, _⟩
          have : k = j := by omega
          subst this; exact hj h4
        rw [hR, e1, set_h]
        cases ob with
        | none => simp only [addOb]; rw [hL, t.h_none j j (Nat.le_refl _) hlt]
        | some ob => simp [addOb, upd]
      · have : addOb (SE X fid ops S F T E p).h (S.n + j) ob i = (SE X fid ops S F T E p).h i := by
          cases ob with
          | none => rfl
          | some ob => simp [addOb, upd, hi]
        show addOb (SE X fid ops S F T E p).h (S.n + j) ob i = _
        rw [this]
        simp only [SE]
        by_cases hcc : ∃ (k : Nat) (ok : Oper), i = S.n + k ∧ ops.toList[k]? = some ok ∧ cls X fid ok = 2 ∧ E k ∧ p ≤ k
        · obtain ⟨k, ok, h1, h2, h3, h4, h5⟩ := hcc
          rw [if_pos ⟨k, ok, h1, h2, h3, h4, h5⟩, if_pos ⟨k, ok, h1, h2, h3, .inl h4, h5⟩]
        · rw [if_neg hcc, if_neg]
          rintro ⟨k, ok, h1, h2, h3, h4 | h4, h5⟩
          · exact hcc ⟨k, ok, h1, h2, h3, h4, h5⟩
          · subst h4; exact hi h1
end
end Go.Abs
namespace Go.Abs
open Go
section
variable {X : Env} {C : CallT} {fid : FuncId} {id nt : Nat} {ops : Array Oper} {S F : St} {T : Nat → St} {B : Nat → List Nat}
theorem all_done (t : Tr X C fid id ops S F T B) {E : Nat → Prop} {p : Nat} (g : Stg X fid ops B E p) (hall : ∀ k, k < ops.size → E k) : SE X fid ops S F T E p = F := by
  obtain ⟨q1, q2, q3⟩ := t.quiet ops.size g.le (Nat.le_refl _) fun k ok h1 h2 hok h3 => by
    have := (g.iff k ok hok h3).1 (hall k h2)
    omega
  rw [t.tN] at q1 q2 q3
  refine st_ext ?_ ?_ ?_
  · funext x
    simp only [SE]
    split
    · rfl
    · rename_i hx
      have := t.f_init (x := x) (fun k o h1 h2 => hx ⟨k, o, hall k (op_lt h1), h1, h2⟩) ops.size (Nat.le_refl _)
      rw [t.tN] at this
      exact this.symm
  · funext i
    simp only [SE]
    split
    · rename_i hx
      obtain ⟨k, ok, rfl, hok, h2, hE, hpk⟩ := hx
      rw [show S.n + k - S.n + 1 = k + 1 by omega, ← q3 k ok hpk (op_lt hok) hok h2]
    · rename_i hx
      rw [q2 i fun k ok h1 h2 hok h3 e => hx ⟨k, ok, e, hok, h3, hall k h2, h1⟩]
  · exact q1.symm
theorem any_run (hC : CallOk X C) (hK : CloneOk X) (hG : ∀ fid dst g args S S1, evCall X C fid dst g args S = some S1 → GoodF X g) (hB : ∀ o ∈ ops.toList, opB X nt o = true) (t : Tr X C fid id ops S F T B)
    {Q : Exit → Act → World → Prop} {w : World} {I : Nat → Prop} {σ : Sig} (hQ : ∀ a' w', PostOf nt S.n w I σ S.h F a' w' → Q .normal a' w') :
    ∀ (fuel : Nat) (listed : Array Bool) (E : Nat → Prop) (p : Nat) (U : List Nat) (a' : Act) (w' : World) (I' : Nat → Prop) (σ' : Sig), listed.size = ops.size → (∀ k, E k ↔ listed.getD k false = true) → Stg X fid ops B E p →
      U.Nodup → U.length = fuel → (∀ k, k < ops.size → (¬ E k ↔ k ∈ U)) →
      Step w I σ S.h S.n w' I' σ' (SE X fid ops S F T E p).h (SE X fid ops S F T E p).n → FRel w' I' σ' (SE X fid ops S F T E p).f a' → Fresh σ' (SE X fid ops S F T E p).h (SE X fid ops S F T E p).n → nt ≤ a'.tmps.size → a'.defers = [] →
      (∀ q, q < ops.size → ¬ E q → (SE X fid ops S F T E p).h (S.n + q) = none ∧ σ' (S.n + q) = none) →
      wpAny X.P .any ops Q fuel listed a' w' := by
  have nready : ∀ {listed : Array Bool} {E : Nat → Prop}, listed.size = ops.size → (∀ k, E k ↔ listed.getD k false = true) → Region.ready .any ops listed = [] → ∀ k, k < ops.size → E k := by
    intro listed E hs hE hr k
    induction k using Nat.strongRecOn with
    | _ k ih =>
      intro hk
      by_cases hEk : E k
      · exact hEk
      · exfalso
        have ho := op_at (ops := ops) hk
        have hmem : k ∈ Region.ready .any ops listed := by
          rw [mem_ready]
          have hl : listed.getD k false = false := by
            have := mt (hE k).2 hEk
            simpa using this
          refine ⟨?_, ops.toList[k], by rw [← Array.getElem?_toList]; exact ho, fun e he hb => ?_⟩
          · rw [Array.getD_eq_getD_getElem?] at hl ⊢
            have : listed[k]? = some (listed[k]'(by omega)) := by simp [hs, hk]
            rw [this] at hl ⊢
            exact hl
          · have hlt := t.draw.edge k _ e ho he hb
            exact (hE e.on).1 (ih e.on hlt (by omega))
        rw [hr] at hmem
        cases hmem
  have fin : ∀ {E : Nat → Prop} {p : Nat} {a' : Act} {w' : World} {I' : Nat → Prop} {σ' : Sig}, Stg X fid ops B E p → (∀ k, k < ops.size → E k) → Step w I σ S.h S.n w' I' σ' (SE X fid ops S F T E p).h (SE X fid ops S F T E p).n → FRel w' I' σ' (SE X fid ops S F T E p).f a' →
      Fresh σ' (SE X fid ops S F T E p).h (SE X fid ops S F T E p).n → nt ≤ a'.tmps.size → a'.defers = [] → Q .normal a' w' := by
    intro E p a' w' I' σ' g hall hst hF hfr hs hd
    rw [all_done t g hall] at hst hF hfr
    exact hQ a' w' ⟨I', σ', hst.le, hst, hF, hfr, hs, hd⟩
  intro fuel
  induction fuel with
  | zero =>
    intro listed E p U a' w' I' σ' hls hE g hnd hU hUE hst hF hfr hs hd hq
    have hall : ∀ k, k < ops.size → E k := fun k hk => by
      have : U = [] := List.eq_nil_of_length_eq_zero hU
      by_cases h : E k
      · exact h
      · have := (hUE k hk).1 h
        simp_all
    refine ⟨?_, fin g hall hst hF hfr hs hd⟩
    cases hr : Region.ready .any ops listed with
    | nil => rfl
    | cons k r =>
      exfalso
      have hm : k ∈ Region.ready .any ops listed := by rw [hr]; simp
      rw [mem_ready] at hm
      obtain ⟨h1, o, h2, _⟩ := hm
      have hk : k < ops.size := (Array.getElem?_eq_some_iff.1 h2).1
      have := (hE k).1 (hall k hk)
      rw [Array.getD_eq_getD_getElem?] at h1 this
      have h3 : listed[k]? = some (listed[k]'(by omega)) := by simp [hls, hk]
      rw [h3] at h1 this
      simp at h1 this
      rw [h1] at this; cases this
  | succ fuel ih =>
    intro listed E p U a' w' I' σ' hls hE g hnd hU hUE hst hF hfr hs hd hq
    refine ⟨fun hr => fin g (nready hls hE hr) hst hF hfr hs hd, fun j hj => ?_⟩
    rw [mem_ready] at hj
    obtain ⟨h1, o, hoa, hedges⟩ := hj
    have hjl : j < ops.size := (Array.getElem?_eq_some_iff.1 hoa).1
    have ho : ops.toList[j]? = some o := by rw [Array.getElem?_toList]; exact hoa
    have hlj : listed[j]? = some (listed[j]'(by omega)) := by simp [hls, hjl]
    have hEj : ¬ E j := fun h => by
      have := (hE j).1 h
      rw [Array.getD_eq_getD_getElem?] at h1 this
      rw [hlj] at h1 this
      simp at h1 this
      rw [h1] at this; cases this
    have hb : ∀ i ∈ B j, E i := fun i hi => by
      obtain ⟨e, he, hbn, hor⟩ := t.draw.bef j o i ho hi
      have hEe := (hE e.on).2 (hedges e he hbn)
      rcases hor with rfl | hor
      · exact hEe
      · exact g.closed _ hEe i hor
    obtain ⟨p', g', hstep⟩ := adv t g ho hEj hb
    have hoB : opB X nt o = true := hB o (by
      have := Array.mem_of_getElem? hoa
      simpa using this)
    have hdst : ∀ x, o.dst = some x → x < a'.tmps.size := fun x hx => Nat.lt_of_lt_of_le (opB_dst hoB x hx) hs
    have hE' : ∀ k, (E k ∨ k = j) ↔ (listed.setIfInBounds j true).getD k false = true := by
      intro k
      rw [Array.getD_eq_getD_getElem?]
      by_cases hkj : k = j
      · subst hkj
        simp [hls, hjl]
      · have := hE k
        rw [Array.getD_eq_getD_getElem?] at this
        rw [Array.getElem?_setIfInBounds_ne (Ne.symm hkj), ← this]
        simp [hkj]
    have hjU : j ∈ U := (hUE j hjl).1 hEj
    have hUE' : ∀ k, k < ops.size → (¬ (E k ∨ k = j) ↔ k ∈ U.erase j) := by
      intro k hk
      rw [hnd.mem_erase_iff, ← hUE k hk]
      constructor
      · intro h; exact ⟨fun e => h (.inr e), fun e => h (.inl e)⟩
      · rintro ⟨h1, h2⟩ (h | h)
        · exact h2 h
        · exact h1 h
    have hnn : S.n + ops.size ≤ (SE X fid ops S F T E p).n := t.n_le p g.le
    have next : ∀ (a2 : Act) (w2 : World) (I2 : Nat → Prop) (σ2 : Sig), Step w I σ S.h S.n w2 I2 σ2 (SE X fid ops S F T (fun k => E k ∨ k = j) p').h (SE X fid ops S F T (fun k => E k ∨ k = j) p').n → FRel w2 I2 σ2 (SE X fid ops S F T (fun k => E k ∨ k = j) p').f a2 →
        Fresh σ2 (SE X fid ops S F T (fun k => E k ∨ k = j) p').h (SE X fid ops S F T (fun k => E k ∨ k = j) p').n → nt ≤ a2.tmps.size → a2.defers = [] →
        (∀ q, q < ops.size → ¬ (E q ∨ q = j) → (SE X fid ops S F T (fun k => E k ∨ k = j) p').h (S.n + q) = none ∧ σ2 (S.n + q) = none) → wpAny X.P .any ops Q fuel (listed.setIfInBounds j true) a2 w2 :=
      fun a2 w2 I2 σ2 k1 k2 k3 k4 k5 k6 => ih _ _ p' (U.erase j) a2 w2 I2 σ2 (by simp [hls]) hE' g' (hnd.erase j) (by rw [List.length_erase_of_mem hjU, hU]; rfl) hUE' k1 k2 k3 k4 k5 k6
    generalize SE X fid ops S F T (fun k => E k ∨ k = j) p' = Z at *
    generalize SE X fid ops S F T E p = A at *
    unfold wpOp
    simp only [hoa]
    have run : stepOp X C fid S.n j o A = some Z → o.wp X.P a' w' (wpAny X.P .any ops Q fuel (listed.setIfInBounds j true)) Q := by
      intro hs1
      refine Oper.wp_mono (fun a2 w2 hh => ?_) (sim_step hC hK hG hoB hs1 hst.rel hF hfr (hq j hjl hEj).1 (hq j hjl hEj).2 (by omega) Q)
      obtain ⟨u, v, I2, σ2, rfl, hrep, hf, hst2, hle, hfr2, hfresh⟩ := hh
      exact next _ _ I2 σ2 (hst.join hst2 (Nat.le_refl _) hle) ((hF.ext hst2.ext).putd hrep o.dst hdst hf) hfr2 (by rw [put_size]; exact hs) (by rw [put_defers]; exact hd)
        fun q hq1 hq2 => hfresh q (fun e => hq2 (.inr e)) (by omega) (hq q hq1 fun e => hq2 (.inl e)).1 (hq q hq1 fun e => hq2 (.inl e)).2
    have skip : A.set o.dst (.tup []) = Z → wpAny X.P .any ops Q fuel (listed.setIfInBounds j true) (a'.put o.dst undef) w' := by
      intro hs1
      subst hs1
      refine next _ _ I' σ' (by rw [set_h, set_n]; exact hst) (hF.putd undef_rep o.dst hdst rfl) (by rw [set_h, set_n]; exact hfr) (by rw [put_size]; exact hs) (by rw [put_defers]; exact hd) fun q hq1 hq2 => ?_
      rw [set_h]; exact hq q hq1 fun e => hq2 (.inl e)
    unfold stepG at hstep
    split at hstep
    · rename_i hg
      have hw : Region.wanted o (yielded ops a'.tmps) = true := by simp [Region.wanted, hg]
      simp only [hw, if_true]
      exact .inl (run hstep)
    · rename_i i want hg
      split at hstep
      case h_2 => cases hstep
      rename_i d hd'
      have hwr := wanted_rep hF hg hd'
      split at hstep
      · rename_i b hbb
        have hw := hwr.1 b hbb
        split at hstep
        · rename_i hbw
          subst hbw
          rw [beq_self_eq_true] at hw
          simp only [hw, if_true]
          exact .inl (run hstep)
        · rename_i hbw
          have : (b == want) = false := by simpa using hbw
          rw [this] at hw
          simp only [hw, Bool.false_eq_true, if_false]
          exact skip (by simpa using hstep)
      · rename_i hbb
        have hw := hwr.2 hbb
        simp only [hw, Bool.false_eq_true, if_false]
        exact skip (by simpa using hstep)
      · cases hstep
theorem drawOk (X : Env) : DrawOk X (drawB X) := by
  intro C hC hN hV hK hG fid id nt ops S F hB hdr hev hstab a w I σ R hF hfr hs hd Q hQ
  obtain ⟨T, h0, hn, hpre, hst⟩ := trace hev
  have hlen : ops.toList.length = ops.size := Array.length_toList
  have t : Tr X C fid id ops S F T (fun j => (ancs ops.toList).getD j []) :=
    ⟨drawB_spec hdr, hN, hV, h0, by rw [← hlen]; exact hn, hst, fun p hp => hpre p (by omega), hstab, fun i hi => (hfr i hi).1⟩
  refine wp_region_any t.draw.mixed ?_
  have g : Stg X fid ops (fun j => (ancs ops.toList).getD j []) (fun _ => False) 0 := ⟨fun _ h => h.elim, fun _ h => h.elim, by omega, .inl rfl, fun w o _ _ => ⟨fun h => h.elim, fun h => by omega⟩⟩
  have hSE : SE X fid ops S F T (fun _ => False) 0 = { S with n := S.n + ops.size } := by
    refine st_ext ?_ ?_ ?_
    · funext x
      simp only [SE]
      rw [if_neg (fun ⟨_, _, h, _⟩ => h)]
    · funext i
      simp only [SE]
      rw [if_neg (fun ⟨_, _, _, _, _, h, _⟩ => h), h0]
    · simp only [SE]; rw [h0]
  have hdrew := Step.drew R S.n
  refine any_run hC hK hG hB t (w := w) (I := I) (σ := σ) hQ ops.size _ (fun _ => False) 0 (List.range ops.size) a w.drew I σ (by simp) (fun k => ?_) g List.nodup_range (by simp) (fun k hk => by simp [hk]) ?_ ?_ ?_ hs hd ?_
  · constructor
    · intro h; exact h.elim
    · intro h
      rw [Array.getD_eq_getD_getElem?, Array.getElem?_replicate] at h
      split at h <;> simp at h
  · rw [hSE]; exact hdrew.widen (Nat.le_refl _) (by simp)
  · rw [hSE]; exact hF.ext hdrew.ext
  · rw [hSE]; exact fun i hi => hfr i (by simp only at hi; omega)
  · intro q _ _
    rw [hSE]
    exact hfr _ (by omega)
end
end Go.Abs
namespace Go.Abs
open Go
structure Is (o : Oper) (d : Nat) (op : Op) : Prop where
  dst : o.dst = some d
  op : o.op = op
  guard : o.guard = none
def cloneCode (i0 i1 i2 i3 : Nat) (a b c d e f g h : Oper) : Code :=
  .seq (.region i0 #[a] false) (.seq (.seq (.region i1 #[b, c] false) (.cond (.tmp 4) (.seq (.region i2 #[d] false) .ret) .skip)) (.seq (.region i3 #[e, f, g, h] false) .ret))
structure IsClone (X : Env) (g : FuncId) (t : TypeId) : Prop where
  slice : X.P.underlying t = some (.slice (X.ti t).elem)
  elem : tB X (X.ti t).elem = true
  body : ∃ fn ty ty1 i0 i1 i2 i3 oa ob oc od oe of og oh, X.P.funcs[g]? = some fn ∧ fn.body = some (cloneCode i0 i1 i2 i3 oa ob oc od oe of og oh) ∧ fn.ntmps = 8 ∧ fn.results = #[.tmp 2] ∧ (fn.name == "runtime.NumGoroutine") = false ∧
    Is oa 2 (.assign (.const (.slice none 0 0))) ∧ Is ob 3 (.move (.tmp 0)) ∧ Is oc 4 (.binOp .eql t (.tmp 3) (.const (.slice none 0 0)) ty) ∧ Is od 2 (.assign (.const (.slice none 0 0))) ∧
    Is oe 5 (.buildSlice t 0 #[]) ∧ Is of 6 (.move (.tmp 0)) ∧ Is og 7 (.call ⟨.builtin .append, #[.tmp 5, .tmp 6], #[t, ty1]⟩) ∧ ty1 = t ∧ Is oh 2 (.assign (.tmp 7))
theorem wpOps_value {P : Program} {ops : Array Oper} {Q : Exit → Act → World → Prop} {i d : Nat} {rest : List Nat} {a : Act} {w w' : World} {o : Oper} {op : Op} {v : Value} (ho : Is o d op) (hi : ops[i]? = some o)
    (hr : (execOp a.eval o).run P w = .ok (.value v) w') (hn : wpOps P ops Q rest (a.put (some d) v) w') : wpOps P ops Q (i :: rest) a w := by
  simp only [wpOps, hi, Region.wanted, ho.guard, if_true]
  left
  unfold Oper.wp
  rw [hr]
  simp only [Oper.upon, ho.dst]
  exact hn
theorem Step.alloc {w : World} {I : Nat → Prop} {σ : Sig} {h : Heap} (R : Rel w I σ h) (ob : Obj) (n : Nat) : Step w I σ h n (w.alloc ob) I σ h n :=
  ⟨Ext.alloc R.imm ob, R.alloc ob, rfl, rfl, rfl, by rw [alloc_size]; omega, fun b hb _ => aold w ob b hb, fun _ hb => .inr hb, fun _ hb => .inl hb, Nat.le_refl _, fun _ _ => rfl, fun _ _ hn => hn⟩
theorem clone_ok {X : Env} (hcl : ∀ g t, X.clone g = some t → IsClone X g t) (hP : PrimOk X) : CloneOk X := by
  refine ⟨hP, ?_⟩
  intro g t hg w I σ h n s u es kx kp R hn hs hr he hns hkx hl hb hm
  obtain ⟨hu, hT, fn, ty, ty1, i0, i1, i2, i3, oa, ob, oc, od, oe, of, og, oh, hf, hbody, hnt, hres, _, ha, hb', hc, hd, hee, hff, hgg, rfl, hh⟩ := hcl g t hg
  have T := tB_ok hT
  have hval : ∃ ad l cap, u = .slice ad l cap ∧ l = es.length ∧ (ad = none → es = []) := by
    cases s with
    | sl c es' =>
      simp only [elems, Option.some.injEq, Prod.mk.injEq] at he
      obtain ⟨rfl, _⟩ := he
      simp only [Rep] at hr
      obtain ⟨ad, cap, rfl, _, _, _, h4⟩ := hr
      refine ⟨ad, _, cap, rfl, rfl, fun h => ?_⟩
      rcases h4 with h4 | ⟨b, o, k, ha', _⟩
      · exact h4
      · rw [h] at ha'; cases ha'
    | hdr id st l =>
      simp only [elems] at he
      cases hob : h id with
      | none => simp [hob] at he
      | some ob' =>
        simp only [hob] at he
        split at he
        case isFalse => cases he
        rename_i hsl
        simp only [Option.some.injEq, Prod.mk.injEq] at he
        obtain ⟨rfl, _⟩ := he
        have hlen : ((ob'.es.drop st).take l).length = l := by simp; omega
        obtain ⟨ad, cap, rfl, B⟩ := based R hr hob
        refine ⟨ad, l, cap, rfl, hlen.symm, fun h => ?_⟩
        rcases B.place with hp | ⟨b, o, c, el, _, ha', _⟩
        · apply List.eq_nil_of_length_eq_zero
          rw [hlen]; have := B.le; omega
        · rw [h] at ha'; cases ha'
    | str x => cases hns
    | _ => simp [elems] at he
  obtain ⟨ad, l, cap, rfl, rfl, hnil⟩ := hval
  have hxi := src_own (h := h) (v := s) he R hl
  have huk : (∃ e', X.P.underlying ty1 = some (.slice e')) ∨ X.P.underlying ty1 = some .string := .inl ⟨_, hu⟩
  refine calls_of_wp hf hbody ?_
  rw [hnt]
  have h0 : (#[Value.slice ad es.length cap] ++ Array.replicate (8 - #[Value.slice ad es.length cap].size) undef) = #[.slice ad es.length cap, undef, undef, undef, undef, undef, undef, undef] := rfl
  rw [h0]
  refine wp_seq (wp_region ?_)
  refine wpOps_value (i := 0) ha rfl (v := .slice none 0 0) (w' := w) (by simp [execOp, ha.op, Act.eval]) ?_
  refine wp_seq (wp_seq (wp_region ?_))
  refine wpOps_value (i := 0) hb' rfl (v := .slice ad es.length cap) (w' := w) (by simp [execOp, hb'.op, Act.eval, Act.put, ha.dst]) ?_
  refine wpOps_value (i := 1) hc rfl (v := .bool ad.isNone) (w' := w) ?_ ?_
  · have h1 := Go.Lib.run_eql_slice_nil (P := X.P) w ty1 _ ad es.length cap 0 0 hu
    simp [execOp, hc.op, Act.eval, Act.put, eqGuard, h1]
  show Code.wp _ _ _ _ _
  cases ad with
  | none =>
    have hes := hnil rfl
    subst hes
    refine wp_cond_true (by simp [Act.eval, Act.put]) ?_
    refine wp_seq (wp_region ?_)
    refine wpOps_value (i := 0) hd rfl (v := .slice none 0 0) (w' := w) (by simp [execOp, hd.op, Act.eval]) ?_
    refine wp_ret ?_
    refine ⟨rfl, .slice none 0 0, ?_, .slice none 0 0, σ, rfl, Step.nil R hn hs, ?_⟩
    · simp [results, hres, Act.put]
    · simp only [Rep]
      exact ⟨none, 0, rfl, by simp, by simp [maxLen], .inl rfl⟩
  | some ad =>
    refine wp_cond_false (by simp [Act.eval, Act.put]) ?_
    refine wp_skip ?_
    refine wp_seq (wp_region ?_)
    obtain ⟨us, hbs, _, _, _⟩ := buildSlice_run (X := X) (t := ty1) (n := 0) hu T (by simp) (ps := []) (es := []) (ups := #[]) (w := w) (J := I) (τ := σ) (by simp [RepL]) (by simp) (by simp [fillE])
    refine wpOps_value (i := 0) hee rfl (v := .slice (some ⟨w.heap.size, 0, none⟩) 0 0) (w' := w.alloc (.cells us (X.ti ty1).elem)) (by simp [execOp, hee.op, hbs]) ?_
    refine wpOps_value (i := 1) hff rfl (v := .slice (some ad) es.length cap) (w' := w.alloc (.cells us (X.ti ty1).elem)) (by simp [execOp, hff.op, Act.eval, Act.put]) ?_
    have s1 := Step.alloc R (.cells us (X.ti ty1).elem) n
    obtain ⟨news, hsrc, hnr⟩ := src_sim huk s1.rel (hr.ext s1.ext) he hl hxi
    have hb0 : Rep (w.alloc (.cells us (X.ti ty1).elem)) I σ (.sl true []) (.slice (some ⟨w.heap.size, 0, none⟩) 0 0) := by
      simp only [Rep]
      exact ⟨some ⟨w.heap.size, 0, none⟩, 0, rfl, by simp, by simp [maxLen], fun _ => rfl, .inl trivial⟩
    obtain ⟨v, w', σ', h1, h2, h3⟩ := append_nothing (ty := og.type) (kp := kp) s1.rel hu T hb0 hkx hl hsrc hnr hn hs hb hm
    refine wpOps_value (i := 2) hgg rfl (v := v) (w' := w') (by simp [execOp, hgg.op, Act.eval, Act.put, hee.dst, hff.dst, resolve, invoke, builtin, h1]) ?_
    refine wpOps_value (i := 3) hh rfl (v := v) (w' := w') (by simp [execOp, hh.op, Act.eval, Act.put]) ?_
    refine wp_ret ?_
    refine ⟨rfl, v, ?_, v, σ', rfl, s1.trans h2, h3⟩
    simp [results, hres, Act.put]
theorem clone_good {X : Env} (hcl : ∀ g t, X.clone g = some t → IsClone X g t) : ∀ g t, X.clone g = some t → GoodF X g := by
  intro g t hg
  obtain ⟨_, _, fn, ty, ty1, i0, i1, i2, i3, oa, ob, oc, od, oe, of, og, oh, hf, hbody, _, _, hname, _⟩ := hcl g t hg
  exact ⟨fn, _, hf, hbody, by simpa using hname⟩
def okB (X : Env) (a n : Nat) : Bool := (List.range' a n).all fun g => match X.P.funcs[g]? with | some fn => (X.prim g).isSome || fnB X (drawB X) g fn | none => true
theorem okB_use {X : Env} {a n g : Nat} {fn : Func} (h : okB X a n = true) (h1 : a ≤ g) (h2 : g < a + n) (hf : X.P.funcs[g]? = some fn) (hp : X.prim g = none) : fnB X (drawB X) g fn = true := by
  have := List.all_eq_true.1 h g (List.mem_range'_1.2 ⟨h1, h2⟩)
  simpa [hf, hp] using this
theorem callOk_of {X : Env} (hA : AllOk X (drawB X)) (hN : NormOk X) (hcl : ∀ g t, X.clone g = some t → IsClone X g t) (hP : PrimOk X) (hPG : ∀ g, (X.prim g).isSome = true → GoodF X g) : CallOk X (callL X) :=
  callL_ok hA hN (clone_ok hcl hP) (fun g hg => by
    cases hc : X.clone g with
    | some t => exact clone_good hcl g t hc
    | none => rw [hc] at hg; exact hPG g (by simpa using hg)) (drawOk X) (callOver hN)
end Go.Abs
