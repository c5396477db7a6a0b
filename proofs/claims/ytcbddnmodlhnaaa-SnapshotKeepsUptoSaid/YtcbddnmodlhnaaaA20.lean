/- Calls of Go functions. -/
import Derived.Test.YtcbddnmodlhnaaaA19
set_option linter.unusedVariables false
set_option linter.unusedSimpArgs false
namespace Go.Abs
open Go

def Fresh (σ : Sig) (h : Heap) (n : Nat) : Prop := ∀ id, n ≤ id → h id = none ∧ σ id = none

def noheap : Heap := fun _ => none

/-- the calls that the evaluator tells of run so -/
def CallOk (X : Env) (C : CallT) : Prop := ∀ g args h k v h' k', C g args h k = some (v, h', k') → ∀ w I σ (us : Array Value), Rel w I σ h → Fresh σ h k → RepL w I σ args us.toList →
  Calls X.P g us w fun e w' => ∃ u I' σ', e = .returned u ∧ Step w I σ h k w' I' σ' h' k' ∧ Rep w' I' σ' v u

def CloneOk (X : Env) : Prop := ∀ g t, X.clone g = some t → ∀ w I σ h n s u es kx, Rel w I σ h → h n = none → σ n = none → Rep w I σ s u → elems h s = some (es, kx) → s.isStr = false → (kx = true → X.keepT (X.ti t).elem = true) →
  (∀ v ∈ es, v.cells.length = (X.ti (X.ti t).elem).size) → es.length * (X.ti (X.ti t).elem).bytes ≤ 2 ^ 47 → es.length ≤ 2 ^ 62 →
  Calls X.P g #[u] w fun e w' => ∃ r σ', e = .returned r ∧ Step w I σ h n w' I σ' (upd h n (some ⟨(X.ti (X.ti t).elem).size, es, X.keepT (X.ti t).elem⟩)) (n + 1) ∧ Rep w' I σ' (.hdr n 0 es.length) r

section
variable {w w' : World} {I I' Ic Ic' J : Nat → Prop} {σ σ' σc : Sig} {h hc : Heap} {n k k' : Nat}

theorem Step.fresh {h' : Heap} {n' : Nat} (s : Step w I σ h n w' I' σ' h' n') (F : Fresh σ h n) : Fresh σ' h' n' := fun id hid => by
  have := s.le
  have f := F id (by omega)
  exact ⟨s.news id (.inr hid) f.1, by rw [s.sigs id (.inr hid)]; exact f.2⟩

theorem Rel.noheap (hI : ∀ b, I b → b < w.heap.size) : Rel w I nosig noheap :=
  ⟨hI, (fun _ _ h => by cases h), (fun _ _ _ _ _ _ _ _ _ h => by cases h)⟩

theorem noOwns {b : Nat} : ¬ Owns nosig noheap b := fun ⟨_, _, _, _, h, _⟩ => by cases h

theorem Rel.ownedLt (R : Rel w I σ h) {b : Nat} (hb : Owns σ h b) : b < w.heap.size := by
  obtain ⟨_, c, el, hh⟩ := R.owned hb
  exact (Array.getElem?_eq_some_iff.1 hh).1

/-- a call that sees nothing of the caller's own -/
theorem Step.inner (R : Rel w I σ h) (s : Step w Ic nosig noheap k w' Ic' σc hc k') (h1 : ∀ b, I b → Ic b) (h2 : ∀ b, I b → I' b) (h3 : ∀ b, I' b → I b ∨ (w.heap.size ≤ b ∧ b < w'.heap.size)) (n : Nat) : Step w I σ h n w' I' σ h n := by
  have E : Ext w I σ w' I' σ := ⟨fun b hb => s.ext.blk b (h1 b hb), s.ext.grow, h2, fun _ _ hh => hh⟩
  refine ⟨E, R.keep E (fun b hb => ?_) (fun b hb => ⟨s.frame b (R.ownedLt hb) noOwns, fun hi => ?_⟩) (fun _ _ => rfl), s.os, s.tape, s.output, s.size, fun b hb _ => s.frame b hb noOwns, fun b hb => .inr hb, fun b hb => ?_, Nat.le_refl _, fun _ _ => rfl, fun _ _ hn => hn⟩
  · rcases h3 b hb with hb | hb
    · exact Nat.lt_of_lt_of_le (R.imm b hb) s.size
    · exact hb.2
  · rcases h3 b hi with hi | hi
    · exact (R.owned hb).1 hi
    · have := R.ownedLt hb; omega
  · rcases h3 b hb with hb | hb
    · exact .inl hb
    · exact .inr (.inl hb.1)

theorem leaf_rep {w1 w2 : World} {I1 I2 : Nat → Prop} {σ1 σ2 : Sig} {v : V} {u : Value} (hv : v.leaf = true) (hr : Rep w1 I1 σ1 v u) : Rep w2 I2 σ2 v u := by
  cases v <;> simp_all [V.leaf, Rep]

theorem leaf1_rep {w1 w2 : World} {I1 I2 : Nat → Prop} {σ1 σ2 : Sig} {v : V} {u : Value} (hv : v.leaf1 = true) (hr : Rep w1 I1 σ1 v u) : Rep w2 I2 σ2 v u := by
  cases v with
  | agg cs =>
    simp only [Rep] at hr ⊢
    obtain ⟨us, rfl, hc⟩ := hr
    refine ⟨us, rfl, ?_⟩
    rw [RepC_iff] at hc ⊢
    refine ⟨hc.1, fun j c u' hcj hu => ⟨(hc.2 j c u' hcj hu).1, leaf_rep ?_ (hc.2 j c u' hcj hu).2⟩⟩
    exact List.all_eq_true.1 hv c (List.mem_of_getElem? hcj)
  | _ => exact leaf_rep hv hr

theorem scalar_rep {w1 w2 : World} {I1 I2 : Nat → Prop} {σ1 σ2 : Sig} {v : V} {u : Value} (hv : v.scalar = true) (hr : Rep w1 I1 σ1 v u) : Rep w2 I2 σ2 v u := by
  cases v with
  | tup cs =>
    simp only [Rep] at hr ⊢
    obtain ⟨us, rfl, hc⟩ := hr
    refine ⟨us, rfl, ?_⟩
    rw [RepL_iff] at hc ⊢
    refine ⟨hc.1, fun j c u' hcj hu => leaf1_rep ?_ (hc.2 j c u' hcj hu)⟩
    exact List.all_eq_true.1 hv c (List.mem_of_getElem? hcj)
  | _ => exact leaf1_rep hv hr

/-- what holds nothing of the caller's own -/
theorem noown0 {d : Nat} {v v' : V} {u : Value} (ho : v.own0 = false) (ht : toImm h d v = some v') (hna : ∀ cs, v ≠ .agg cs) (hnt : ∀ cs, v ≠ .tup cs) (hr : Rep w I σ v u) : Rep w I nosig v' u := by
  have hv : v.imm0 = true ∧ v' = v := by
    cases v with
    | agg cs => exact absurd rfl (hna cs)
    | tup cs => exact absurd rfl (hnt cs)
    | hdr _ _ _ => simp [V.own0] at ho
    | fn g a b => cases a <;> cases b <;> cases d <;> simp_all [toImm, V.imm0]
    | _ => cases d <;> simp_all [toImm, V.imm0]
  rw [hv.2]
  exact imm0_rep hv.1 hr

theorem noown1 {d : Nat} {v v' : V} {u : Value} (ho : v.own1 = false) (ht : toImm h d v = some v') (hr : Rep w I σ v u) : Rep w I nosig v' u := by
  cases v with
  | tup cs => simp [V.own1] at ho
  | agg cs =>
    cases d with
    | zero => simp [toImm] at ht
    | succ d =>
      obtain ⟨l, rfl, hl⟩ := toImm_agg ht
      obtain ⟨h1, h2⟩ := allSome_map _ hl
      simp only [Rep] at hr ⊢
      obtain ⟨us, rfl, hc⟩ := hr
      refine ⟨us, rfl, ?_⟩
      rw [RepC_iff] at hc ⊢
      refine ⟨by rw [← h1]; exact hc.1, fun j c' u' hc' hu' => ?_⟩
      have hj : j < cs.length := by rw [h1]; exact (List.getElem?_eq_some_iff.1 hc').1
      have hcj : cs[j]? = some cs[j] := List.getElem?_eq_getElem hj
      have hjj := hc.2 j _ u' hcj hu'
      have hoj : cs[j].own0 = false := by
        simp only [V.own1, List.any_eq_false] at ho
        simpa using ho cs[j] (List.getElem_mem hj)
      refine ⟨hjj.1, noown0 hoj (h2 j _ _ hcj hc') (fun cs' e => ?_) (fun cs' e => ?_) hjj.2⟩
      · have := hjj.2
        rw [e] at this
        simp only [Rep] at this
        obtain ⟨us', rfl, _⟩ := this
        simp [Value.oneCell'] at hjj
      · have := hjj.2
        rw [e] at this
        simp only [Rep] at this
        obtain ⟨us', rfl, _⟩ := this
        simp [Value.oneCell'] at hjj
  | hdr _ _ _ => simp [V.own1, V.own0] at ho
  | _ => exact noown0 (by simpa [V.own1] using ho) ht (by intro cs e; cases e) (by intro cs e; cases e) hr

theorem args_imm {d : Nat} {args as : List V} {us : List Value} (ht : allSome (args.map (toImm h d)) = some as) (hr : RepL w I σ args us)
    (hf : ∀ v v' u, v ∈ args → toImm h d v = some v' → Rep w I σ v u → Rep w J nosig v' u) : RepL w J nosig as us := by
  obtain ⟨h1, h2⟩ := allSome_map _ ht
  rw [RepL_iff] at hr ⊢
  refine ⟨by rw [← h1]; exact hr.1, fun j c' u' hc' hu' => ?_⟩
  have hj : j < args.length := by rw [h1]; exact (List.getElem?_eq_some_iff.1 hc').1
  have hcj : args[j]? = some args[j] := List.getElem?_eq_getElem hj
  exact hf _ _ _ (List.getElem_mem hj) (h2 j _ _ hcj hc') (hr.2 j _ u' hcj hu')

/-- a call whose new slices stay the caller's own -/
theorem Step.thaw (R : Rel w I σ h) (F : Fresh σ h n) (s : Step w I nosig noheap n w' I' σc hc k') :
    Step w I σ h n w' I' (fun id => if id < n then σ id else σc id) (fun id => if id < n then h id else hc id) k' ∧ Ext w' I' σc w' I' (fun id => if id < n then σ id else σc id) := by
  have hlow : ∀ id, id < n → σc id = none ∧ hc id = none := fun id hid => ⟨by rw [s.sigs id (.inl hid)]; rfl, s.news id (.inl hid) rfl⟩
  have E2 : Ext w' I' σc w' I' (fun id => if id < n then σ id else σc id) := by
    refine ⟨fun _ _ => rfl, fun _ c _ fz hh => ⟨c, fz, hh, rfl⟩, fun _ hh => hh, fun id x hx => ?_⟩
    by_cases hid : id < n
    · rw [(hlow id hid).1] at hx; cases hx
    · simp only [hid, if_false]; exact hx
  have E : Ext w I σ w' I' (fun id => if id < n then σ id else σc id) := by
    refine ⟨s.ext.blk, s.ext.grow, s.ext.imp, fun id x hx => ?_⟩
    by_cases hid : id < n
    · simp only [hid, if_true]; exact hx
    · rw [(F id (by omega)).2] at hx; cases hx
  have hcown : ∀ b, Owns σc hc b → w.heap.size ≤ b := fun b hb => by
    rcases s.own b hb with hh | hh
    · exact hh
    · exact absurd hh noOwns
  refine ⟨⟨E, ⟨s.rel.imm, fun id ob ho => ?_, fun id id' ob ob' b o k o' k' ho ho' hs hs' => ?_⟩, s.os, s.tape, s.output, s.size, fun b hb _ => s.frame b hb noOwns, fun b hb => ?_, fun b hb => ?_, s.le, fun id hid => ?_, fun id hid hn => ?_⟩, E2⟩
  · by_cases hid : id < n
    · simp only [hid, if_true] at ho
      rcases R.obj id ob ho with ⟨he, hnn⟩ | ⟨b, o, c, el, hsg, hi, hh, hle, hr⟩
      · exact .inl ⟨he, by simp only [hid, if_true]; exact hnn⟩
      · have hown : Owns σ h b := ⟨id, ob, o, ob.k, ho, hsg⟩
        have hsame := s.frame b (R.ownedLt hown) noOwns
        refine .inr ⟨b, o, c, el, by simp only [hid, if_true]; exact hsg, fun hi' => ?_, by rw [hsame]; exact hh, hle, hr.extRow (E.ofKeep _) hsame⟩
        rcases s.inew b hi' with hx | hx | hx
        · exact hi hx
        · have := R.ownedLt hown; omega
        · exact noOwns hx
    · simp only [hid, if_false] at ho
      rcases s.rel.obj id ob ho with ⟨he, hnn⟩ | ⟨b, o, c, el, hsg, hi, hh, hle, hr⟩
      · exact .inl ⟨he, by simp only [hid, if_false]; exact hnn⟩
      · exact .inr ⟨b, o, c, el, by simp only [hid, if_false]; exact hsg, hi, hh, hle, hr.extRow (E2.ofKeep _) rfl⟩
  · by_cases hid : id < n <;> by_cases hid' : id' < n <;> simp only [hid, hid', if_true, if_false] at ho ho' hs hs'
    · exact R.apart id id' ob ob' b o k o' k' ho ho' hs hs'
    · have h1 := R.ownedLt ⟨id, ob, o, k, ho, hs⟩
      have h2 := hcown b ⟨id', ob', o', k', ho', hs'⟩
      omega
    · have h1 := R.ownedLt ⟨id', ob', o', k', ho', hs'⟩
      have h2 := hcown b ⟨id, ob, o, k, ho, hs⟩
      omega
    · exact s.rel.apart id id' ob ob' b o k o' k' ho ho' hs hs'
  · obtain ⟨id, ob, o, k, ho, hs⟩ := hb
    by_cases hid : id < n <;> simp only [hid, if_true, if_false] at ho hs
    · exact .inr ⟨id, ob, o, k, ho, hs⟩
    · exact .inl (hcown b ⟨id, ob, o, k, ho, hs⟩)
  · rcases s.inew b hb with hx | hx | hx
    · exact .inl hx
    · exact .inr (.inl hx)
    · exact absurd hx noOwns
  · have := s.le
    rcases hid with hid | hid
    · simp only [hid, if_true]
    · have hn : ¬ id < n := by omega
      simp only [hn, if_false]
      rw [s.sigs id (.inr hid), (F id (by omega)).2]; rfl
  · have := s.le
    rcases hid with hid | hid
    · simp only [hid, if_true]; exact hn
    · have hn' : ¬ id < n := by omega
      simp only [hn', if_false]
      exact s.news id (.inr hid) rfl
end

theorem sim_call {X : Env} {C : CallT} (hC : CallOk X C) (hK : CloneOk X) {fid : FuncId} {dst : Option Nat} {g : FuncId} {args : List V} {S S1 : St} (he : evCall X C fid dst g args S = some S1)
    {w : World} {I : Nat → Prop} {σ : Sig} (R : Rel w I σ S.h) (F : Fresh σ S.h S.n) (us : Array Value) (hr : RepL w I σ args us.toList) :
    Calls X.P g us w fun e w' => ∃ u v I' σ', e = .returned u ∧ Step w I σ S.h S.n w' I' σ' S1.h S1.n ∧ S1.f = (S.set dst v).f ∧ Rep w' I' σ' v u := by
  unfold evCall at he
  split at he
  · rename_i t hcl
    split at he
    case h_2 => cases he
    rename_i s
    split at he
    case h_2 => cases he
    rename_i es kx hel
    split at he
    · cases he
    rename_i hcond
    simp only [Bool.or_eq_true, Bool.and_eq_true, Bool.not_eq_true', not_or, not_and, Bool.not_eq_false, decide_eq_true_eq, Bool.not_eq_true] at hcond
    obtain ⟨⟨⟨hns, hk⟩, hl⟩, hb⟩ := hcond
    simp only [Option.some.injEq] at he
    subst he
    simp only [RepL] at hr
    obtain ⟨u, r, hus, hu, rfl⟩ := hr
    have : us = #[u] := by rw [← Array.toList_inj]; exact hus
    subst this
    refine Calls.mono (hK g t hcl w I σ S.h S.n s u es kx R (F S.n (Nat.le_refl _)).1 (F S.n (Nat.le_refl _)).2 hu hel hns hk (all_len hl) hb.1 hb.2) fun e w' hh => ?_
    obtain ⟨r, σ', rfl, hs, hrep⟩ := hh
    exact ⟨r, _, I, σ', rfl, by rw [set_h, set_n]; exact hs, set_f _ _ _ _ rfl, hrep⟩
  · split at he
    · split at he
      case h_2 => cases he
      rename_i v h n hc
      simp only [Option.some.injEq] at he
      subst he
      refine Calls.mono (hC g args S.h S.n v h n hc w I σ us R F hr) fun e w' hh => ?_
      obtain ⟨u, I', σ', rfl, hs, hrep⟩ := hh
      exact ⟨u, v, I', σ', rfl, by rw [set_h, set_n]; exact hs, set_f _ _ _ _ rfl, hrep⟩
    · split at he
      case h_2 => cases he
      rename_i as has
      split at he
      · split at he
        · cases he
        rename_i hown
        split at he
        case h_2 => cases he
        rename_i v h n hc
        simp only [Option.some.injEq] at he
        subst he
        have hra : RepL w I nosig as us.toList := args_imm has hr fun v v' u hv ht hr' => noown1 (by
          simp only [List.any_eq_true, not_exists, not_and, Bool.not_eq_true] at hown
          exact hown v hv) ht hr'
        refine Calls.mono (hC g (dullL as) noheap S.n v h n hc w I nosig us (Rel.noheap R.imm) (fun _ _ => ⟨rfl, rfl⟩) (RepL.dull' _ _ hra)) fun e w' hh => ?_
        obtain ⟨u, I', σ', rfl, hs, hrep⟩ := hh
        obtain ⟨s1, s2⟩ := Step.thaw R F hs
        exact ⟨u, v, I', _, rfl, by rw [set_h, set_n]; exact s1, set_f _ _ _ _ rfl, hrep.ext s2⟩
      · split at he
        case h_2 => cases he
        rename_i v h n hc
        split at he
        case h_2 => cases he
        rename_i v' hv'
        split at he
        · cases he
        rename_i hcond
        simp only [Option.some.injEq] at he
        subst he
        by_cases hown : args.any V.own1 = true
        · have hsc : v'.scalar = true := by
            simpa [hown] using hcond
          have hra : RepL w (fun b => I b ∨ Owns σ S.h b) nosig as us.toList := args_imm has hr fun v v' u _ ht hr' => imm_rep R (fun b hb => .inl hb) (fun b hb => .inr hb) depth v v' u ht hr'
          have R0 : Rel w (fun b => I b ∨ Owns σ S.h b) nosig noheap := Rel.noheap fun b hb => by
            rcases hb with hb | hb
            · exact R.imm b hb
            · exact R.ownedLt hb
          refine Calls.mono (hC g (dullL as) noheap 0 v h n hc w _ nosig us R0 (fun _ _ => ⟨rfl, rfl⟩) (RepL.dull' _ _ hra)) fun e w' hh => ?_
          obtain ⟨u, I', σ', rfl, hs, hrep⟩ := hh
          have hrv := imm_rep (J := fun b => I' b ∨ Owns σ' h b) hs.rel (fun b hb => .inl hb) (fun b hb => .inr hb) depth v v' u hv' hrep
          refine ⟨u, v'.dull, I, σ, rfl, ?_, rfl, (scalar_rep hsc hrv).dull⟩
          rw [set_h, set_n]
          exact Step.inner R hs (fun b hb => .inl hb) (fun b hb => hb) (fun b hb => .inl hb) S.n
        · have hra : RepL w I nosig as us.toList := args_imm has hr fun v v' u hv ht hr' => noown1 (by
            simp only [List.any_eq_true, not_exists, not_and, Bool.not_eq_true] at hown
            exact hown v hv) ht hr'
          refine Calls.mono (hC g (dullL as) noheap 0 v h n hc w I nosig us (Rel.noheap R.imm) (fun _ _ => ⟨rfl, rfl⟩) (RepL.dull' _ _ hra)) fun e w' hh => ?_
          obtain ⟨u, I', σ', rfl, hs, hrep⟩ := hh
          have hrv := imm_rep (J := fun b => I' b ∨ Owns σ' h b) hs.rel (fun b hb => .inl hb) (fun b hb => .inr hb) depth v v' u hv' hrep
          refine ⟨u, v'.dull, _, σ, rfl, ?_, rfl, (hrv.ext Ext.free).dull⟩
          rw [set_h, set_n]
          refine Step.inner R hs (fun b hb => hb) (fun b hb => .inl (hs.ext.imp b hb)) (fun b hb => ?_) S.n
          rcases hb with hb | hb
          · rcases hs.inew b hb with hx | hx | hx
            · exact .inl hx
            · exact .inr ⟨hx, hs.rel.imm b hb⟩
            · exact absurd hx noOwns
          · rcases hs.own b hb with hx | hx
            · exact .inr ⟨hx, hs.rel.ownedLt hb⟩
            · exact absurd hx noOwns

end Go.Abs
