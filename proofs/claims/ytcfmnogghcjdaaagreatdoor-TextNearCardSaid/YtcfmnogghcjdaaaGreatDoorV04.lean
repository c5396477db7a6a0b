/- Part of a proof: A20, A21. -/
import Derived.Test.YtcfmnogghcjdaaaGreatDoorV03
set_option linter.all false
set_option maxRecDepth 100000
set_option maxHeartbeats 20000000
namespace Go.Abs
open Go
def Fresh (σ : Sig) (h : Heap) (n : Nat) : Prop := ∀ id, n ≤ id → h id = none ∧ σ id = none
def noheap : Heap := fun _ => none
structure Stem (m : Nat) (w : World) (I : Nat → Prop) (σ : Sig) (h : Heap) (w' : World) (I' : Nat → Prop) (σ' : Sig) (h' : Heap) : Prop where
  blk : ∀ b, I b → w'.heap[b]? = w.heap[b]?
  grow : ∀ (b : Nat) c el fz, w.heap[b]? = some (Obj.cells c el fz) → ∃ c' fz', w'.heap[b]? = some (Obj.cells c' el fz') ∧ c'.size = c.size
  imp : ∀ b, I b → I' b
  rel : Rel w' I' σ' h'
  os : w'.os = w.os
  tape : w'.tape = w.tape
  output : w'.output = w.output
  size : w.heap.size ≤ w'.heap.size
  frame : ∀ b, b < w.heap.size → ¬ Owns σ h b → w'.heap[b]? = w.heap[b]?
  own : ∀ b, Owns σ' h' b → w.heap.size ≤ b ∨ Owns σ h b
  inew : ∀ b, I' b → I b ∨ w.heap.size ≤ b ∨ Owns σ h b
  sigs : ∀ id, id < m → σ' id = σ id
  news : ∀ id, id < m → h id = none → h' id = none
section
variable {w w1 w2 w' : World} {I I1 I2 I' : Nat → Prop} {σ σ1 σ2 σ' : Sig} {h h1 h2 h' : Heap} {n n' m : Nat}
theorem Step.stem (s : Step w I σ h n w' I' σ' h' n') (hm : m ≤ n) : Stem m w I σ h w' I' σ' h' :=
  ⟨s.ext.blk, s.ext.grow, s.ext.imp, s.rel, s.os, s.tape, s.output, s.size, s.frame, s.own, s.inew, fun id hid => s.sigs id (.inl (by omega)), fun id hid => s.news id (.inl (by omega))⟩
theorem Stem.refl (R : Rel w I σ h) (m : Nat) : Stem m w I σ h w I σ h := (Step.refl R m).stem (Nat.le_refl _)
theorem Stem.trans (s : Stem m w I σ h w1 I1 σ1 h1) (s' : Stem m w1 I1 σ1 h1 w2 I2 σ2 h2) : Stem m w I σ h w2 I2 σ2 h2 where
  blk := fun b hb => (s'.blk b (s.imp b hb)).trans (s.blk b hb)
  grow := fun b c el fz hb => by
    obtain ⟨c1, fz1, h1, e1⟩ := s.grow b c el fz hb
    obtain ⟨c2, fz2, h2, e2⟩ := s'.grow b c1 el fz1 h1
    exact ⟨c2, fz2, h2, e2.trans e1⟩
  imp := fun b hb => s'.imp b (s.imp b hb)
  rel := s'.rel
  os := s'.os.trans s.os
  tape := s'.tape.trans s.tape
  output := s'.output.trans s.output
  size := Nat.le_trans s.size s'.size
  frame := fun b hb ho => (s'.frame b (Nat.lt_of_lt_of_le hb s.size) (fun hx => by
    rcases s.own b hx with hx | hx
    · omega
    · exact ho hx)).trans (s.frame b hb ho)
  own := fun b hb => by
    rcases s'.own b hb with hx | hx
    · exact .inl (Nat.le_trans s.size hx)
    · exact s.own b hx
  inew := fun b hb => by
    rcases s'.inew b hb with hx | hx | hx
    · exact s.inew b hx
    · exact .inr (.inl (Nat.le_trans s.size hx))
    · exact .inr (s.own b hx)
  sigs := fun id hid => (s'.sigs id hid).trans (s.sigs id hid)
  news := fun id hid hz => s'.news id hid (s.news id hid hz)
theorem Stem.step (s : Stem n w I σ h w' I' σ' h') (F : Fresh σ h n) (F' : Fresh σ' h' n') (hn : n ≤ n') : Step w I σ h n w' I' σ' h' n' where
  ext := ⟨s.blk, s.grow, s.imp, fun id x hx => by
    by_cases hid : id < n
    · rw [s.sigs id hid]; exact hx
    · rw [(F id (by omega)).2] at hx; cases hx⟩
  rel := s.rel
  os := s.os
  tape := s.tape
  output := s.output
  size := s.size
  frame := s.frame
  own := s.own
  inew := s.inew
  le := hn
  sigs := fun id hid => by
    rcases hid with hid | hid
    · exact s.sigs id hid
    · rw [(F id (by omega)).2, (F' id hid).2]
  news := fun id hid hz => by
    rcases hid with hid | hid
    · exact s.news id hid hz
    · exact (F' id hid).1
end
theorem Stem.less {w w' : World} {I I' : Nat → Prop} {σ σ' : Sig} {h h' : Heap} {m m' : Nat} (s : Stem m w I σ h w' I' σ' h') (hm : m' ≤ m) : Stem m' w I σ h w' I' σ' h' :=
  { s with sigs := fun id hid => s.sigs id (by omega), news := fun id hid => s.news id (by omega) }
def lim (X : Env) (g : FuncId) (k : Nat) : Nat := if X.low g = true then min (if X.inout g = true then 1 else 0) k else k
theorem lim_zero (X : Env) (g : FuncId) : lim X g 0 = 0 := by unfold lim; split <;> simp
theorem lim_le (X : Env) (g : FuncId) (k : Nat) : lim X g k ≤ k := by unfold lim; split <;> omega
theorem lim_high {X : Env} {g : FuncId} (h : X.low g = false) (k : Nat) : lim X g k = k := by unfold lim; simp [h]
def CallOk (X : Env) (C : CallT) : Prop := ∀ g args h k v h' k', C g args h k = some (v, h', k') → ∀ w I σ (us : Array Value), Rel w I σ h → Fresh σ h k → RepL w I σ args us.toList →
  Calls X.P g us w fun e w' => ∃ u I' σ', e = .returned u ∧ lim X g k ≤ k' ∧ Stem (lim X g k) w I σ h w' I' σ' h' ∧ Fresh σ' h' k' ∧ Rep w' I' σ' v u
def PrimOk (X : Env) : Prop := ∀ g pr, X.prim g = some pr → ∀ C, CallOk X C → ∀ args v, pr.run C args = some v → ∀ w I (us : Array Value), Rel w I nosig noheap → RepL w I nosig args us.toList →
  Calls X.P g us w fun e w' => ∃ u I', e = .returned u ∧ Step w I nosig noheap 0 w' I' nosig noheap 0 ∧ Rep w' I' nosig v u
theorem Calls.prim {X : Env} {C : CallT} (hC : CallOk X C) (hP : PrimOk X) {g : FuncId} {as : List V} {v : V} {h : Heap} {n : Nat} (hc : primC X C g as = some (v, h, n)) {w : World} {I : Nat → Prop} {us : Array Value} (R : Rel w I nosig noheap) (hr : RepL w I nosig as us.toList) :
    Calls X.P g us w fun e w' => ∃ u I' σ', e = .returned u ∧ Step w I nosig noheap 0 w' I' σ' h n ∧ Rep w' I' σ' v u := by
  unfold primC at hc
  split at hc
  · rename_i pr hp
    split at hc
    case h_2 => cases hc
    rename_i v' hv
    simp only [Option.some.injEq, Prod.mk.injEq] at hc
    obtain ⟨rfl, rfl, rfl⟩ := hc
    refine (hP g pr hp C hC as v' hv w I us R hr).mono fun e w' hh => ?_
    obtain ⟨u, I', rfl, st, hrep⟩ := hh
    exact ⟨u, I', nosig, rfl, st, hrep⟩
  · refine (hC g as noheap 0 v h n hc w I nosig us R (fun _ _ => ⟨rfl, rfl⟩) hr).mono fun e w' hh => ?_
    obtain ⟨u, I', σ', rfl, hle, hs0, hfr, hrep⟩ := hh
    rw [lim_zero] at hle hs0
    exact ⟨u, I', σ', rfl, hs0.step (fun _ _ => ⟨rfl, rfl⟩) hfr hle, hrep⟩
def CloneOk (X : Env) : Prop := PrimOk X ∧ ∀ g t, X.clone g = some t → ∀ w I σ h n s u es kx kp, Rel w I σ h → h n = none → σ n = none → Rep w I σ s u → elems h s = some (es, kx) → s.isStr = false → (kx = true → kp = true) →
  (∀ v ∈ es, v.cells.length = (X.ti (X.ti t).elem).size) → es.length * (X.ti (X.ti t).elem).bytes ≤ 2 ^ 47 → es.length ≤ 2 ^ 62 →
  Calls X.P g #[u] w fun e w' => ∃ r σ', e = .returned r ∧ Step w I σ h n w' I σ' (upd h n (some ⟨(X.ti (X.ti t).elem).size, es, kp⟩)) (n + 1) ∧ Rep w' I σ' (.hdr n 0 es.length) r
section
variable {w w' : World} {I I' Ic Ic' J : Nat → Prop} {σ σ' σc : Sig} {h hc : Heap} {n k k' : Nat}
theorem Step.fresh {h' : Heap} {n' : Nat} (s : Step w I σ h n w' I' σ' h' n') (F : Fresh σ h n) : Fresh σ' h' n' := fun id hid => by
  have := s.le
  have f := F id (by omega)
  exact ⟨s.news id (.inr hid) f.1, by rw [s.sigs id (.inr hid)]; exact f.2⟩
theorem Rel.noheap (hI : ∀ b, I b → b < w.heap.size) (G : Glob w I) : Rel w I nosig noheap :=
  ⟨hI, (fun _ _ h => by cases h), (fun _ _ _ _ _ _ _ _ _ h => by cases h), G⟩
theorem noOwns {b : Nat} : ¬ Owns nosig noheap b := fun ⟨_, _, _, _, h, _⟩ => by cases h
theorem Rel.ownedLt (R : Rel w I σ h) {b : Nat} (hb : Owns σ h b) : b < w.heap.size := by
  obtain ⟨_, c, el, hh⟩ := R.owned hb
  exact hh.lt
theorem Step.inner (R : Rel w I σ h) (s : Step w Ic nosig noheap k w' Ic' σc hc k') (h1 : ∀ b, I b → Ic b) (h2 : ∀ b, I b → I' b) (h3 : ∀ b, I' b → I b ∨ (w.heap.size ≤ b ∧ b < w'.heap.size)) (n : Nat) : Step w I σ h n w' I' σ h n := by
  have E : Ext w I σ w' I' σ := ⟨fun b hb => s.ext.blk b (h1 b hb), s.ext.grow, h2, fun _ _ hh => hh⟩
  refine ⟨E, R.keep E (fun b hb => ?_) (fun b hb => ⟨s.frame b (R.ownedLt hb) noOwns, fun hi => ?_⟩) (fun _ _ => rfl), s.os, s.tape, s.output, s.size, fun b hb _ => s.frame b hb noOwns, fun b hb => .inr hb, fun b hb => ?_, Nat.le_refl _, fun _ _ => rfl, fun _ _ hn => hn⟩
  · rcases h3 b hb with hb | hb
    · exact Nat.lt_of_lt_of_le (R.imm b hb) s.size
    · exact hb.2
  · rcases h3 b hi with hi | hi
    · exact (R.owned hb).1 hi
    · have := R.ownedLt hb; omega
  · rcases h3 b hb with hb | hb
    · exact .inl hb
    · exact .inr (.inl hb.1)
theorem leaf_rep {w1 w2 : World} {I1 I2 : Nat → Prop} {σ1 σ2 : Sig} {v : V} {u : Value} (hv : v.leaf = true) (hr : Rep w1 I1 σ1 v u) : Rep w2 I2 σ2 v u := by
  cases v <;> simp_all [V.leaf, Rep]
theorem leaf1_rep {w1 w2 : World} {I1 I2 : Nat → Prop} {σ1 σ2 : Sig} {v : V} {u : Value} (hv : v.leaf1 = true) (hr : Rep w1 I1 σ1 v u) : Rep w2 I2 σ2 v u := by
  cases v with
  | agg cs =>
    simp only [Rep] at hr ⊢
    obtain ⟨us, rfl, hc⟩ := hr
    refine ⟨us, rfl, ?_⟩
    rw [RepC_iff] at hc ⊢
    refine ⟨hc.1, fun j c u' hcj hu => ⟨(hc.2 j c u' hcj hu).1, leaf_rep ?_ (hc.2 j c u' hcj hu).2⟩⟩
    exact List.all_eq_true.1 hv c (List.mem_of_getElem? hcj)
  | _ => exact leaf_rep hv hr
theorem scalar_rep {w1 w2 : World} {I1 I2 : Nat → Prop} {σ1 σ2 : Sig} {v : V} {u : Value} (hv : v.scalar = true) (hr : Rep w1 I1 σ1 v u) : Rep w2 I2 σ2 v u := by
  cases v with
  | tup cs =>
    simp only [Rep] at hr ⊢
    obtain ⟨us, rfl, hc⟩ := hr
    refine ⟨us, rfl, ?_⟩
    rw [RepL_iff] at hc ⊢
    refine ⟨hc.1, fun j c u' hcj hu => leaf1_rep ?_ (hc.2 j c u' hcj hu)⟩
    exact List.all_eq_true.1 hv c (List.mem_of_getElem? hcj)
  | _ => exact leaf1_rep hv hr
theorem noown0 {d : Nat} {v v' : V} {u : Value} (ho : v.own0 = false) (ht : toImm h d v = some v') (hna : ∀ cs, v ≠ .agg cs) (hnt : ∀ cs, v ≠ .tup cs) (hr : Rep w I σ v u) : Rep w I nosig v' u := by
  have hv : v.imm0 = true ∧ v' = v := by
    cases v with
    | agg cs => exact absurd rfl (hna cs)
    | tup cs => exact absurd rfl (hnt cs)
    | hdr _ _ _ => simp [V.own0] at ho
    | fn g a b => cases a <;> cases b <;> cases d <;> simp_all [toImm, V.imm0]
    | _ => cases d <;> simp_all [toImm, V.imm0]
  rw [hv.2]
  exact imm0_rep hv.1 hr
theorem noown1 {d : Nat} {v v' : V} {u : Value} (ho : v.own1 = false) (ht : toImm h d v = some v') (hr : Rep w I σ v u) : Rep w I nosig v' u := by
  cases v with
  | tup cs => simp [V.own1] at ho
  | agg cs =>
    cases d with
    | zero => simp [toImm] at ht
    | succ d =>
      obtain ⟨l, rfl, hl⟩ := toImm_agg ht
      obtain ⟨h1, h2⟩ := allSome_map _ hl
      simp only [Rep] at hr ⊢
      obtain ⟨us, rfl, hc⟩ := hr
      refine ⟨us, rfl, ?_⟩
      rw [RepC_iff] at hc ⊢
      refine ⟨by rw [← h1]; exact hc.1, fun j c' u' hc' hu' => ?_⟩
      have hj : j < cs.length := by rw [h1]; exact (List.getElem?_eq_some_iff.1 hc').1
      have hcj : cs[j]? = some cs[j] := List.getElem?_eq_getElem hj
      have hjj := hc.2 j _ u' hcj hu'
      have hoj : cs[j].own0 = false := by
        simp only [V.own1, List.any_eq_false] at ho
        simpa using ho cs[j] (List.getElem_mem hj)
      refine ⟨hjj.1, noown0 hoj (h2 j _ _ hcj hc') (fun cs' e => ?_) (fun cs' e => ?_) hjj.2⟩
      · have := hjj.2
        rw [e] at this
        simp only [Rep] at this
        obtain ⟨us', rfl, _⟩ := this
        simp [Value.oneCell'] at hjj
      · have := hjj.2
        rw [e] at this
        simp only [Rep] at this
        obtain ⟨us', rfl, _⟩ := this
        simp [Value.oneCell'] at hjj
  | hdr _ _ _ => simp [V.own1, V.own0] at ho
  | _ => exact noown0 (by simpa [V.own1] using ho) ht (by intro cs e; cases e) (by intro cs e; cases e) hr
theorem args_imm {d : Nat} {args as : List V} {us : List Value} (ht : allSome (args.map (toImm h d)) = some as) (hr : RepL w I σ args us)
    (hf : ∀ v v' u, v ∈ args → toImm h d v = some v' → Rep w I σ v u → Rep w J nosig v' u) : RepL w J nosig as us := by
  obtain ⟨h1, h2⟩ := allSome_map _ ht
  rw [RepL_iff] at hr ⊢
  refine ⟨by rw [← h1]; exact hr.1, fun j c' u' hc' hu' => ?_⟩
  have hj : j < args.length := by rw [h1]; exact (List.getElem?_eq_some_iff.1 hc').1
  have hcj : args[j]? = some args[j] := List.getElem?_eq_getElem hj
  exact hf _ _ _ (List.getElem_mem hj) (h2 j _ _ hcj hc') (hr.2 j _ u' hcj hu')
theorem Step.thaw (R : Rel w I σ h) (F : Fresh σ h n) (s : Step w I nosig noheap n w' I' σc hc k') :
    Step w I σ h n w' I' (fun id => if id < n then σ id else σc id) (fun id => if id < n then h id else hc id) k' ∧ Ext w' I' σc w' I' (fun id => if id < n then σ id else σc id) := by
  have hlow : ∀ id, id < n → σc id = none ∧ hc id = none := fun id hid => ⟨by rw [s.sigs id (.inl hid)]; rfl, s.news id (.inl hid) rfl⟩
  have E2 : Ext w' I' σc w' I' (fun id => if id < n then σ id else σc id) := by
    refine ⟨fun _ _ => rfl, fun _ c _ fz hh => ⟨c, fz, hh, rfl⟩, fun _ hh => hh, fun id x hx => ?_⟩
    by_cases hid : id < n
    · rw [(hlow id hid).1] at hx; cases hx
    · simp only [hid, if_false]; exact hx
  have E : Ext w I σ w' I' (fun id => if id < n then σ id else σc id) := by
    refine ⟨s.ext.blk, s.ext.grow, s.ext.imp, fun id x hx => ?_⟩
    by_cases hid : id < n
    · simp only [hid, if_true]; exact hx
    · rw [(F id (by omega)).2] at hx; cases hx
  have hcown : ∀ b, Owns σc hc b → w.heap.size ≤ b := fun b hb => by
    rcases s.own b hb with hh | hh
    · exact hh
    · exact absurd hh noOwns
  refine ⟨⟨E, ⟨s.rel.imm, fun id ob ho => ?_, fun id id' ob ob' b o k o' k' ho ho' hs hs' => ?_, s.rel.glob⟩, s.os, s.tape, s.output, s.size, fun b hb _ => s.frame b hb noOwns, fun b hb => ?_, fun b hb => ?_, s.le, fun id hid => ?_, fun id hid hn => ?_⟩, E2⟩
  · by_cases hid : id < n
    · simp only [hid, if_true] at ho
      rcases R.obj id ob ho with ⟨he, hnn⟩ | ⟨b, o, c, el, hsg, hi, hh, hle, hr⟩
      · exact .inl ⟨he, by simp only [hid, if_true]; exact hnn⟩
      · have hown : Owns σ h b := ⟨id, ob, o, ob.k, ho, hsg⟩
        have hsame := s.frame b (R.ownedLt hown) noOwns
        refine .inr ⟨b, o, c, el, by simp only [hid, if_true]; exact hsg, fun hi' => ?_, hh.same hsame, hle, hr.extRow (E.ofKeep _) hsame⟩
        rcases s.inew b hi' with hx | hx | hx
        · exact hi hx
        · have := R.ownedLt hown; omega
        · exact noOwns hx
    · simp only [hid, if_false] at ho
      rcases s.rel.obj id ob ho with ⟨he, hnn⟩ | ⟨b, o, c, el, hsg, hi, hh, hle, hr⟩
      · exact .inl ⟨he, by simp only [hid, if_false]; exact hnn⟩
      · exact .inr ⟨b, o, c, el, by simp only [hid, if_false]; exact hsg, hi, hh, hle, hr.extRow (E2.ofKeep _) rfl⟩
  · by_cases hid : id < n <;> by_cases hid' : id' < n <;> simp only [hid, hid', if_true, if_false] at ho ho' hs hs'
    · exact R.apart id id' ob ob' b o k o' k' ho ho' hs hs'
    · have h1 := R.ownedLt ⟨id, ob, o, k, ho, hs⟩
      have h2 := hcown b ⟨id', ob', o', k', ho', hs'⟩
      omega
    · have h1 := R.ownedLt ⟨id', ob', o', k', ho', hs'⟩
      have h2 := hcown b ⟨id, ob, o, k, ho, hs⟩
      omega
    · exact s.rel.apart id id' ob ob' b o k o' k' ho ho' hs hs'
  · obtain ⟨id, ob, o, k, ho, hs⟩ := hb
    by_cases hid : id < n <;> simp only [hid, if_true, if_false] at ho hs
    · exact .inr ⟨id, ob, o, k, ho, hs⟩
    · exact .inl (hcown b ⟨id, ob, o, k, ho, hs⟩)
  · rcases s.inew b hb with hx | hx | hx
    · exact .inl hx
    · exact .inr (.inl hx)
    · exact absurd hx noOwns
  · have := s.le
    rcases hid with hid | hid
    · simp only [hid, if_true]
    · have hn : ¬ id < n := by omega
      simp only [hn, if_false]
      rw [s.sigs id (.inr hid), (F id (by omega)).2]; rfl
  · have := s.le
    rcases hid with hid | hid
    · simp only [hid, if_true]; exact hn
    · have hn' : ¬ id < n := by omega
      simp only [hn', if_false]
      exact s.news id (.inr hid) rfl
theorem pu0_rep {w : World} {I1 I2 : Nat → Prop} {σ : Sig} {v : V} {u : Value} (hv : v.pu0 = true) (hr : Rep w I1 σ v u) : Rep w I2 σ v u := by
  cases v with
  | sl c es =>
    simp only [V.pu0, List.isEmpty_iff] at hv
    subst hv
    simp only [Rep] at hr ⊢
    obtain ⟨a, cap, h1, h2, h3, h4, _⟩ := hr
    exact ⟨a, cap, h1, h2, h3, h4, .inl trivial⟩
  | fn g a b =>
    cases a with
    | cons x y => simp [V.pu0] at hv
    | nil =>
      cases b with
      | cons x y => simp [V.pu0] at hv
      | nil => simp_all only [Rep, RepL]
  | agg cs => simp [V.pu0] at hv
  | tup cs => simp [V.pu0] at hv
  | ref cs => simp [V.pu0] at hv
  | bad => simp [Rep]
  | _ => simp only [Rep] at hr ⊢; exact hr
theorem pu1_rep {w : World} {I1 I2 : Nat → Prop} {σ : Sig} {v : V} {u : Value} (hv : v.pu1 = true) (hr : Rep w I1 σ v u) : Rep w I2 σ v u := by
  cases v with
  | agg cs =>
    simp only [Rep] at hr ⊢
    obtain ⟨us, rfl, hc⟩ := hr
    refine ⟨us, rfl, ?_⟩
    rw [RepC_iff] at hc ⊢
    refine ⟨hc.1, fun j c u' hcj hu => ⟨(hc.2 j c u' hcj hu).1, pu0_rep ?_ (hc.2 j c u' hcj hu).2⟩⟩
    exact List.all_eq_true.1 hv c (List.mem_of_getElem? hcj)
  | _ => exact pu0_rep hv hr
theorem pu_rep {w : World} {I1 I2 : Nat → Prop} {σ : Sig} {v : V} {u : Value} (hv : v.pu = true) (hr : Rep w I1 σ v u) : Rep w I2 σ v u := by
  cases v with
  | tup cs =>
    simp only [Rep] at hr ⊢
    obtain ⟨us, rfl, hc⟩ := hr
    refine ⟨us, rfl, ?_⟩
    rw [RepL_iff] at hc ⊢
    refine ⟨hc.1, fun j c u' hcj hu => pu1_rep ?_ (hc.2 j c u' hcj hu)⟩
    exact List.all_eq_true.1 hv c (List.mem_of_getElem? hcj)
  | _ => exact pu1_rep hv hr
theorem pu_row {w : World} {I1 I2 : Nat → Prop} {σ : Sig} {es : List V} {k b o : Nat} (hv : es.all V.pu1 = true) (hr : RepRow w I1 σ es k b o) : RepRow w I2 σ es k b o := by
  rw [RepRow_iff] at hr ⊢
  intro i e hi
  obtain ⟨h1, h2⟩ := hr i e hi
  refine ⟨h1, fun j c hj => ?_⟩
  obtain ⟨u, g1, g2, g3⟩ := h2 j c hj
  refine ⟨u, g1, g2, pu0_rep ?_ g3⟩
  have he : e.pu1 = true := List.all_eq_true.1 hv e (List.mem_of_getElem? hi)
  cases e with
  | agg cs => exact List.all_eq_true.1 he c (List.mem_of_getElem? hj)
  | _ =>
    cases j with
    | zero => simp [V.cells] at hj; subst hj; exact he
    | succ j => simp [V.cells] at hj
theorem pureOb_some {o : Option Ob} {ob : Ob} (hp : pureOb o = some ob) : o = some ob ∧ ob.es.all V.pu1 = true := by
  cases o with
  | none => cases hp
  | some x =>
    unfold pureOb at hp
    simp only at hp
    split at hp
    · rename_i hx
      cases hp
      exact ⟨rfl, hx⟩
    · cases hp
theorem Step.thawOwn (R : Rel w I σ h) (F : Fresh σ h n) (s : Step w (fun b => I b ∨ Owns σ h b) nosig noheap n w' I' σc hc k') :
    Step w I σ h n w' (fun b => I b ∨ (w.heap.size ≤ b ∧ I' b)) (fun id => if id < n then σ id else σc id) (fun id => if id < n then h id else pureOb (hc id)) k' ∧
    Ext w' (fun b => I b ∨ (w.heap.size ≤ b ∧ I' b)) σc w' (fun b => I b ∨ (w.heap.size ≤ b ∧ I' b)) (fun id => if id < n then σ id else σc id) := by
  have hlow : ∀ id, id < n → σc id = none ∧ hc id = none := fun id hid => ⟨by rw [s.sigs id (.inl hid)]; rfl, s.news id (.inl hid) rfl⟩
  have E2 : ∀ K : Nat → Prop, Ext w' K σc w' K (fun id => if id < n then σ id else σc id) := by
    intro K
    refine ⟨fun _ _ => rfl, fun _ c _ fz hh => ⟨c, fz, hh, rfl⟩, fun _ hh => hh, fun id x hx => ?_⟩
    by_cases hid : id < n
    · rw [(hlow id hid).1] at hx; cases hx
    · simp only [hid, if_false]; exact hx
  have E : Ext w I σ w' (fun b => I b ∨ (w.heap.size ≤ b ∧ I' b)) (fun id => if id < n then σ id else σc id) := by
    refine ⟨fun b hb => s.ext.blk b (.inl hb), s.ext.grow, fun b hb => .inl hb, fun id x hx => ?_⟩
    by_cases hid : id < n
    · simp only [hid, if_true]; exact hx
    · rw [(F id (by omega)).2] at hx; cases hx
  have hcown : ∀ b, Owns σc hc b → w.heap.size ≤ b := fun b hb => by
    rcases s.own b hb with hh | hh
    · exact hh
    · exact absurd hh noOwns
  have hpure : ∀ id ob, pureOb (hc id) = some ob → hc id = some ob := fun id ob hp => (pureOb_some hp).1
  refine ⟨⟨E, ⟨fun b hb => ?_, fun id ob ho => ?_, fun id id' ob ob' b o k o' k' ho ho' hs hs' => ?_, R.glob.ext E⟩, s.os, s.tape, s.output, s.size, fun b hb _ => s.frame b hb noOwns, fun b hb => ?_, fun b hb => ?_, s.le, fun id hid => ?_, fun id hid hn => ?_⟩, E2 _⟩
  · rcases hb with hb | hb
    · exact Nat.lt_of_lt_of_le (R.imm b hb) s.size
    · exact s.rel.imm b hb.2
  · by_cases hid : id < n
    · simp only [hid, if_true] at ho
      rcases R.obj id ob ho with ⟨he, hnn⟩ | ⟨b, o, c, el, hsg, hi, hh, hle, hr⟩
      · exact .inl ⟨he, by simp only [hid, if_true]; exact hnn⟩
      · have hown : Owns σ h b := ⟨id, ob, o, ob.k, ho, hsg⟩
        have hsame := s.frame b (R.ownedLt hown) noOwns
        refine .inr ⟨b, o, c, el, by simp only [hid, if_true]; exact hsg, fun hi' => ?_, hh.same hsame, hle, hr.extRow (E.ofKeep _) hsame⟩
        rcases hi' with hx | hx
        · exact hi hx
        · have := R.ownedLt hown; omega
    · simp only [hid, if_false] at ho
      obtain ⟨ho', hpr⟩ := pureOb_some ho
      rcases s.rel.obj id ob ho' with ⟨he, hnn⟩ | ⟨b, o, c, el, hsg, hi, hh, hle, hr⟩
      · exact .inl ⟨he, by simp only [hid, if_false]; exact hnn⟩
      · refine .inr ⟨b, o, c, el, by simp only [hid, if_false]; exact hsg, fun hi' => ?_, hh, hle, (pu_row hpr hr).extRow ((E2 _).ofKeep _) rfl⟩
        rcases hi' with hx | hx
        · exact hi (s.ext.imp b (.inl hx))
        · exact hi hx.2
  · by_cases hid : id < n <;> by_cases hid' : id' < n <;> simp only [hid, hid', if_true, if_false] at ho ho' hs hs'
    · exact R.apart id id' ob ob' b o k o' k' ho ho' hs hs'
    · have h1 := R.ownedLt ⟨id, ob, o, k, ho, hs⟩
      have h2 := hcown b ⟨id', ob', o', k', hpure _ _ ho', hs'⟩
      omega
    · have h1 := R.ownedLt ⟨id', ob', o', k', ho', hs'⟩
      have h2 := hcown b ⟨id, ob, o, k, hpure _ _ ho, hs⟩
      omega
    · exact s.rel.apart id id' ob ob' b o k o' k' (hpure _ _ ho) (hpure _ _ ho') hs hs'
  · obtain ⟨id, ob, o, k, ho, hs⟩ := hb
    by_cases hid : id < n <;> simp only [hid, if_true, if_false] at ho hs
    · exact .inr ⟨id, ob, o, k, ho, hs⟩
    · exact .inl (hcown b ⟨id, ob, o, k, hpure _ _ ho, hs⟩)
  · rcases hb with hb | hb
    · exact .inl hb
    · exact .inr (.inl hb.1)
  · have := s.le
    rcases hid with hid | hid
    · simp only [hid, if_true]
    · have hn : ¬ id < n := by omega
      simp only [hn, if_false]
      rw [s.sigs id (.inr hid), (F id (by omega)).2]; rfl
  · have := s.le
    rcases hid with hid | hid
    · simp only [hid, if_true]; exact hn
    · have hn' : ¬ id < n := by omega
      simp only [hn', if_false]
      rw [s.news id (.inr hid) rfl]
      rfl
end
section
variable {w w' : World} {I I' J : Nat → Prop} {σ : Sig} {h : Heap} {n : Nat}
theorem imm_elem (R : Rel w I σ h) (hIJ : ∀ b, I b → J b) (hJ : ∀ b, Owns σ h b → J b) {d : Nat} {e e' : V} (hte : toImm h d e = some e') {k b o : Nat} (hcl : e.cells.length = k) (hca : CAt w I σ e.cells b o) :
    e'.cells.length = k ∧ CAt w J nosig e'.cells b o := by
  by_cases hag : ∃ cs, e = .agg cs
  · obtain ⟨cs, rfl⟩ := hag
    cases d with
    | zero => simp [toImm] at hte
    | succ d =>
      obtain ⟨cs', rfl, hl'⟩ := toImm_agg hte
      obtain ⟨g1, g2⟩ := allSome_map _ hl'
      refine ⟨by simpa [V.cells, ← g1] using hcl, fun j c' hj' => ?_⟩
      have hjl : j < cs.length := by rw [g1]; exact (List.getElem?_eq_some_iff.1 hj').1
      have hjc : cs[j]? = some cs[j] := by simp
      obtain ⟨u, hu1, hu2, hu3⟩ := hca j _ hjc
      exact ⟨u, hu1, hu2, imm_rep R hIJ hJ d _ _ u (g2 j _ _ hjc hj') hu3⟩
  · have hne : ∀ cs, e ≠ .agg cs := fun cs hh => hag ⟨cs, hh⟩
    have hne' := toImm_one hte hne
    rw [cells_one hne] at hcl hca
    rw [cells_one hne']
    refine ⟨hcl, fun j c' hj' => ?_⟩
    cases j with
    | zero =>
      simp at hj'; subst hj'
      obtain ⟨u, hu1, hu2, hu3⟩ := hca 0 e (by simp)
      exact ⟨u, hu1, hu2, imm_rep R hIJ hJ d _ _ u hte hu3⟩
    | succ j => simp at hj'
theorem imm_row (R : Rel w I σ h) (hIJ : ∀ b, I b → J b) (hJ : ∀ b, Owns σ h b → J b) {d : Nat} {es es' : List V} (ht : allSome (es.map (toImm h d)) = some es') {k b o : Nat} (hr : RepRow w I σ es k b o) :
    es'.length = es.length ∧ RepRow w J nosig es' k b o := by
  obtain ⟨h1, h2⟩ := allSome_map _ ht
  refine ⟨h1.symm, ?_⟩
  rw [RepRow_iff] at hr ⊢
  intro i e' he'
  have hi : i < es.length := by rw [h1]; exact (List.getElem?_eq_some_iff.1 he').1
  have hie : es[i]? = some es[i] := by simp
  exact imm_elem R hIJ hJ (h2 i _ _ hie he') (hr i _ hie).1 (hr i _ hie).2
end
theorem toImm_one' {h : Heap} {d : Nat} {v v' : V} (ht : toImm h d v = some v') (hv : ∀ cs, v ≠ .tup cs) : ∀ cs, v' ≠ .tup cs := by
  intro cs e
  subst e
  cases v with
  | tup cs' => exact hv cs' rfl
  | agg cs' =>
    cases d with
    | zero => simp [toImm] at ht
    | succ d => obtain ⟨l, h1, _⟩ := toImm_agg ht; cases h1
  | hdr id s l =>
    cases d with
    | zero => simp [toImm] at ht
    | succ d =>
      rw [toImm] at ht
      repeat' split at ht
      all_goals cases ht
  | fn g a b => cases a <;> cases b <;> cases d <;> simp [toImm] at ht
  | _ => cases d <;> simp [toImm] at ht
theorem dull_agg {v : V} (hv : ∀ cs, v ≠ .agg cs) : ∀ cs, v.dull ≠ .agg cs := by
  intro cs e; cases v <;> simp [V.dull] at e
  exact hv _ rfl
theorem dull_tup {v : V} (hv : ∀ cs, v ≠ .tup cs) : ∀ cs, v.dull ≠ .tup cs := by
  intro cs e; cases v <;> simp [V.dull] at e
  exact hv _ rfl
theorem map1_agg (F : Nat → V → V) (cs : List V) : map1 F (.agg cs) = .agg (mapC F 0 cs) := rfl
theorem map1_one (F : Nat → V → V) {v : V} (hv : ∀ cs, v ≠ .agg cs) : map1 F v = F 0 v := by
  cases v with
  | agg cs => exact absurd rfl (hv cs)
  | _ => rfl
theorem mapV_tup (F : Nat → Nat → V → V) (vs : List V) : mapV F (.tup vs) = .tup (mapC (fun i v => map1 (F i) v) 0 vs) := rfl
theorem mapV_one (F : Nat → Nat → V → V) {v : V} (hv : ∀ cs, v ≠ .tup cs) : mapV F v = map1 (F 0) v := by
  cases v with
  | tup cs => exact absurd rfl (hv cs)
  | _ => rfl
theorem mapC_get (F : Nat → V → V) : ∀ (cs : List V) (n j : Nat), (mapC F n cs)[j]? = (cs[j]?).map (F (n + j))
  | [], n, j => by simp [mapC]
  | c :: cs, n, j => by
    cases j with
    | zero => simp [mapC]
    | succ j => simp only [mapC, List.getElem?_cons_succ]; rw [mapC_get F cs (n + 1) j, show n + 1 + j = n + (j + 1) by omega]
theorem mapC_len (F : Nat → V → V) (cs : List V) (n : Nat) : (mapC F n cs).length = cs.length := by
  induction cs generalizing n with
  | nil => rfl
  | cons c cs ih => simp [mapC, ih]
theorem mapC_comp (F G : Nat → V → V) : ∀ (cs : List V) (n : Nat), mapC G n (mapC F n cs) = mapC (fun j c => G j (F j c)) n cs
  | [], n => rfl
  | c :: cs, n => by simp only [mapC]; rw [mapC_comp F G cs (n + 1)]
theorem map1_comp {F G : Nat → V → V} (hF : ∀ c, (∀ cs, c ≠ .agg cs) → ∀ cs, F 0 c ≠ .agg cs) (v : V) : map1 G (map1 F v) = map1 (fun j c => G j (F j c)) v := by
  by_cases h : ∃ cs, v = .agg cs
  · obtain ⟨cs, rfl⟩ := h
    simp only [map1_agg, mapC_comp]
  · have h' : ∀ cs, v ≠ .agg cs := fun cs e => h ⟨cs, e⟩
    rw [map1_one F h', map1_one G (hF v h'), map1_one _ h']
theorem mapV_comp {F G : Nat → Nat → V → V} (hF : ∀ i c, (∀ cs, c ≠ .agg cs) → ∀ cs, F i 0 c ≠ .agg cs) (hT : ∀ c, (∀ cs, c ≠ .tup cs) → ∀ cs, F 0 0 c ≠ .tup cs) (v : V) : mapV G (mapV F v) = mapV (fun i j c => G i j (F i j c)) v := by
  by_cases h : ∃ cs, v = .tup cs
  · obtain ⟨cs, rfl⟩ := h
    simp only [mapV_tup, mapC_comp]
    congr 2
    funext i c
    exact map1_comp (hF i) c
  · have h' : ∀ cs, v ≠ .tup cs := fun cs e => h ⟨cs, e⟩
    have hm : ∀ cs, map1 (F 0) v ≠ .tup cs := by
      intro cs e
      by_cases ha : ∃ cs, v = .agg cs
      · obtain ⟨cs', rfl⟩ := ha
        rw [map1_agg] at e; cases e
      · have ha' : ∀ cs, v ≠ .agg cs := fun cs e => ha ⟨cs, e⟩
        rw [map1_one _ ha'] at e
        exact hT v h' cs e
    rw [mapV_one F h', mapV_one G hm, mapV_one _ h', map1_comp (hF 0)]
section
variable {w w' : World} {I I' J : Nat → Prop} {σ σ' σs σc : Sig} {h h' hs hc : Heap} {n n' k0 k' x : Nat}
theorem mapC_rep {F : Nat → V → V} {cs : List V} {us : List Value} (hr : RepC w I σ cs us) (hF : ∀ j c u, cs[j]? = some c → us[j]? = some u → u.oneCell' = true → Rep w I σ c u → Rep w J σ' (F j c) u) : RepC w J σ' (mapC F 0 cs) us := by
  rw [RepC_iff] at hr ⊢
  refine ⟨by rw [mapC_len]; exact hr.1, fun j c u hc hu => ?_⟩
  rw [mapC_get, Nat.zero_add] at hc
  cases hcj : cs[j]? with
  | none => simp [hcj] at hc
  | some c0 =>
    rw [hcj] at hc
    simp only [Option.map_some, Option.some.injEq] at hc
    subst hc
    have := hr.2 j c0 u hcj hu
    exact ⟨this.1, hF j c0 u hcj hu this.1 this.2⟩
theorem map1_rep {F : Nat → V → V} {v : V} {u : Value} (hr : Rep w I σ v u) (hF : ∀ j c x, v.cells.getD j .bad = c → Rep w I σ c x → Rep w J σ' (F j c) x) : Rep w J σ' (map1 F v) u := by
  by_cases h : ∃ cs, v = .agg cs
  · obtain ⟨cs, rfl⟩ := h
    rw [map1_agg]
    simp only [Rep] at hr ⊢
    obtain ⟨us, rfl, hc⟩ := hr
    refine ⟨us, rfl, mapC_rep hc fun j c x hcj _ _ hx => hF j c x ?_ hx⟩
    simp [V.cells, List.getD_eq_getElem?_getD, hcj]
  · have h' : ∀ cs, v ≠ .agg cs := fun cs e => h ⟨cs, e⟩
    rw [map1_one F h']
    refine hF 0 v u ?_ hr
    rw [cells_one h']; rfl
theorem mapV_rep {F : Nat → Nat → V → V} {v : V} {u : Value} (hr : Rep w I σ v u) (hF : ∀ i j c x, v.cellAt i j = c → Rep w I σ c x → Rep w J σ' (F i j c) x) : Rep w J σ' (mapV F v) u := by
  by_cases h : ∃ cs, v = .tup cs
  · obtain ⟨cs, rfl⟩ := h
    rw [mapV_tup]
    simp only [Rep] at hr ⊢
    obtain ⟨us, rfl, hc⟩ := hr
    refine ⟨us, rfl, ?_⟩
    rw [RepL_iff] at hc ⊢
    refine ⟨by rw [mapC_len]; exact hc.1, fun i c u hci hu => ?_⟩
    rw [mapC_get, Nat.zero_add] at hci
    cases hcj : cs[i]? with
    | none => simp [hcj] at hci
    | some c0 =>
      rw [hcj] at hci
      simp only [Option.map_some, Option.some.injEq] at hci
      subst hci
      refine map1_rep (hc.2 i c0 u hcj hu) fun j c x hx hrx => hF i j c x ?_ hrx
      simp only [V.cellAt, List.getD_eq_getElem?_getD, hcj, Option.getD_some]
      simpa [List.getD_eq_getElem?_getD] using hx
  · have h' : ∀ cs, v ≠ .tup cs := fun cs e => h ⟨cs, e⟩
    rw [mapV_one F h']
    refine map1_rep hr fun j c x hx hrx => hF 0 j c x ?_ hrx
    rw [← hx]
    cases v with
    | tup cs => exact absurd rfl (h' cs)
    | _ => rfl
theorem Step.call {hK h1 : Heap} {I1 : Nat → Prop} {m : Nat} (R : Rel w I σ h) (F : Fresh σ h n) (hsub : ∀ id ob, hK id = some ob → h id = some ob) (s1 : Step w I σ hK n w I1 σ h1 n) (hsub1 : ∀ id ob, h1 id = some ob → hK id = some ob)
    (s : Stem m w I1 σs hs w' I' σc hc)
    (hown : ∀ b, Owns σs hs b → Owns σ h b ∧ ¬ Owns σ hK b)
    (hJ1 : ∀ b, I' b → J b) (hJ2 : ∀ b, J b → I' b ∨ Owns σc hc b)
    (hσ : ∀ id, id < n → σ' id = σ id) (hh : ∀ id, id < n → id ≠ x → h' id = h1 id)
    (hx : ∀ ob, x < n → h' x = some ob → h x ≠ none ∧ (∀ b o k, σ x = some (b, o, k) → ¬ Owns σ hK b) ∧ ObRel w' J σ' x ob)
    (hn : n ≤ n') (hfr : ∀ id, n' ≤ id → σ' id = none ∧ h' id = none)
    (hnew : ∀ id ob, n ≤ id → h' id = some ob → ObRel w' J σ' id ob ∧ ∀ b o k, σ' id = some (b, o, k) → (w.heap.size ≤ b ∨ Owns σs hs b) ∧ (x < n → ∀ o' k', σ x ≠ some (b, o', k')))
    (hap : ∀ id id' ob ob' b o k o' k', n ≤ id → n ≤ id' → h' id = some ob → h' id' = some ob' → σ' id = some (b, o, k) → σ' id' = some (b, o', k') → id = id') :
    Step w I σ h n w' J σ' h' n' := by
  have E : Ext w I σ w' J σ' := ⟨fun b hb => s.blk b (s1.ext.imp b hb), s.grow, fun b hb => hJ1 b (s.imp b (s1.ext.imp b hb)), fun id y hy => by
    by_cases hid : id < n
    · rw [hσ id hid]; exact hy
    · rw [(F id (by omega)).2] at hy; cases hy⟩
  have hKown : ∀ b, Owns σ hK b → Owns σ h b := fun b ⟨i, ob, o, k, g1, g2⟩ => ⟨i, ob, o, k, hsub i ob g1, g2⟩
  have hother : ∀ i obi b o k, h1 i = some obi → σ i = some (b, o, k) → w'.heap[b]? = w.heap[b]? ∧ ¬ J b := by
    intro i obi b o k hi hsg
    have hwK : Owns σ hK b := ⟨i, obi, o, k, hsub1 i obi hi, hsg⟩
    have hw1 : Owns σ h1 b := ⟨i, obi, o, k, hi, hsg⟩
    have hlt := R.ownedLt (hKown b hwK)
    have hnc : ¬ Owns σs hs b := fun hb => (hown b hb).2 hwK
    refine ⟨s.frame b hlt hnc, fun hj => ?_⟩
    rcases hJ2 b hj with hb | hb
    · rcases s.inew b hb with hy | hy | hy
      · exact (s1.rel.owned hw1).1 hy
      · omega
      · exact hnc hy
    · rcases s.own b hb with hy | hy
      · omega
      · exact hnc hy
  have hold : ∀ id ob, id < n → h' id = some ob → ∃ ob0, h id = some ob0 := by
    intro id ob hid ho
    by_cases e : id = x
    · subst e
      cases hz : h id with
      | none => exact absurd hz (hx ob hid ho).1
      | some y => exact ⟨y, rfl⟩
    · rw [hh id hid e] at ho; exact ⟨ob, hsub _ _ (hsub1 _ _ ho)⟩
  have hon : ∀ id ob id' ob' b o k o' k', id < n → n ≤ id' → h' id = some ob → h' id' = some ob' → σ id = some (b, o, k) → σ' id' = some (b, o', k') → False := by
    intro id ob id' ob' b o k o' k' hid hid' ho ho' hsg hsg'
    obtain ⟨y, hy⟩ := hold id ob hid ho
    have h2 := (hnew id' ob' hid' ho').2 _ _ _ hsg'
    by_cases e : id = x
    · subst e
      exact h2.2 hid o k hsg
    · rw [hh id hid e] at ho
      have hwK : Owns σ hK b := ⟨id, ob, o, k, hsub1 _ _ ho, hsg⟩
      rcases h2.1 with hz | hz
      · have := R.ownedLt (hKown b hwK); omega
      · exact (hown b hz).2 hwK
  refine ⟨E, ⟨fun b hb => ?_, fun id ob ho => ?_, fun id id' ob ob' b o k o' k1 ho ho' hsg hsg' => ?_, R.glob.ext E⟩, s.os, s.tape, s.output, s.size, fun b hb hno => s.frame b hb fun hy => hno (hown b hy).1, fun b hb => ?_, fun b hb => ?_, hn, fun id hid => ?_, fun id hid hz => ?_⟩
  · rcases hJ2 b hb with hb | hb
    · exact s.rel.imm b hb
    · exact s.rel.ownedLt hb
  · by_cases hid : id < n
    · by_cases e : id = x
      · subst e; exact (hx ob hid ho).2.2
      · rw [hh id hid e] at ho
        rcases s1.rel.obj id ob ho with ⟨he, hnn⟩ | ⟨b, o, c, el, hsg, hii, hb, hle, hr⟩
        · exact .inl ⟨he, by rw [hσ id hid]; exact hnn⟩
        · obtain ⟨g1, g2⟩ := hother id ob b o ob.k ho hsg
          have E1 : Ext w I1 σ w' J σ' := ⟨s.blk, s.grow, fun b hb => hJ1 b (s.imp b hb), E.sig⟩
          exact .inr ⟨b, o, c, el, by rw [hσ id hid]; exact hsg, g2, hb.same g1, hle, hr.extRow (E1.ofKeep _) g1⟩
    · exact (hnew id ob (by omega) ho).1
  · by_cases hid : id < n <;> by_cases hid' : id' < n
    · obtain ⟨y, hy⟩ := hold id ob hid ho
      obtain ⟨y', hy'⟩ := hold id' ob' hid' ho'
      rw [hσ _ hid] at hsg
      rw [hσ _ hid'] at hsg'
      exact R.apart id id' y y' b o k o' k1 hy hy' hsg hsg'
    · rw [hσ _ hid] at hsg
      exact (hon id ob id' ob' b o k o' k1 hid (by omega) ho ho' hsg hsg').elim
    · rw [hσ _ hid'] at hsg'
      exact (hon id' ob' id ob b o' k1 o k hid' (by omega) ho' ho hsg' hsg).elim
    · exact hap id id' ob ob' b o k o' k1 (by omega) (by omega) ho ho' hsg hsg'
  · obtain ⟨id, ob, o, k, ho, hsg⟩ := hb
    by_cases hid : id < n
    · obtain ⟨y, hy⟩ := hold id ob hid ho
      rw [hσ _ hid] at hsg
      exact .inr ⟨id, y, o, k, hy, hsg⟩
    · rcases ((hnew id ob (by omega) ho).2 _ _ _ hsg).1 with hz | hz
      · exact .inl hz
      · exact .inr (hown b hz).1
  · rcases hJ2 b hb with hb | hb
    · rcases s.inew b hb with hy | hy | hy
      · rcases s1.inew b hy with hz | hz | hz
        · exact .inl hz
        · exact .inr (.inl hz)
        · exact .inr (.inr (hKown b hz))
      · exact .inr (.inl hy)
      · exact .inr (.inr (hown b hy).1)
    · rcases s.own b hb with hy | hy
      · exact .inr (.inl hy)
      · exact .inr (.inr (hown b hy).1)
  · rcases hid with hid | hid
    · exact hσ id hid
    · rw [(hfr id hid).1, (F id (by omega)).2]
  · rcases hid with hid | hid
    · by_cases e : id = x
      · subst e
        cases hz' : h' id with
        | none => rfl
        | some y => exact absurd hz (hx y hid hz').1
      · rw [hh id hid e]
        cases hy : h1 id with
        | none => rfl
        | some y => rw [hsub _ _ (hsub1 _ _ hy)] at hz; cases hz
    · exact (hfr id hid).2
def tau (σ : Sig) (v : V) (m : Mask) (q : Nat) : Option (Nat × Nat × Nat) :=
  match m[q]? with
  | some p => match v.cellAt p.1 p.2.1 with
    | .hdr id s _ => match σ id with
      | some (b, o, k) => some (b, o + s * k, k)
      | none => none
    | _ => none
  | none => none
theorem maskNo_some : ∀ {m : Mask} {n i j q : Nat} {t : TypeId}, maskNo n m i j = some (q, t) → n ≤ q ∧ m[q - n]? = some (i, j, t)
  | [], n, i, j, q, t, h => by simp [maskNo] at h
  | (a, b, c) :: m, n, i, j, q, t, h => by
    simp only [maskNo] at h
    split at h
    · rename_i hab
      simp only [Option.some.injEq, Prod.mk.injEq] at h
      obtain ⟨rfl, rfl⟩ := h
      obtain ⟨rfl, rfl⟩ := hab
      simp
    · obtain ⟨h1, h2⟩ := maskNo_some h
      refine ⟨by omega, ?_⟩
      rw [show q - n = q - (n + 1) + 1 by omega]
      simpa using h2
theorem maskNo_shift : ∀ (m : Mask) (n i j : Nat), maskNo n m i j = (maskNo 0 m i j).map fun p => (p.1 + n, p.2)
  | [], n, i, j => rfl
  | (a, b, c) :: m, n, i, j => by
    simp only [maskNo]
    split
    · simp
    · rw [maskNo_shift m (n + 1), maskNo_shift m (0 + 1)]
      cases maskNo 0 m i j with
      | none => rfl
      | some p => simp; omega
theorem hdrH_get (X : Env) (kp : TypeId → Bool) (R : V) : ∀ (m : Mask) (n : Nat) (h : Heap) (id : Nat), hdrH X kp R n m h id = if n ≤ id ∧ id < n + m.length then (m[id - n]?).bind (hdrO X kp R) else h id
  | [], n, h, id => by
    have : ¬ (n ≤ id ∧ id < n + ([] : Mask).length) := by simp
    rw [if_neg this]; rfl
  | q :: m, n, h, id => by
    simp only [hdrH, upd, List.length_cons]
    by_cases e : id = n
    · subst e
      simp
    · rw [hdrH_get X kp R m (n + 1) h id]
      simp only [e, if_false]
      by_cases h1 : n + 1 ≤ id ∧ id < n + 1 + m.length
      · have h2 : n ≤ id ∧ id < n + (m.length + 1) := by omega
        simp only [h1, h2, and_self, if_true]
        rw [show id - n = id - (n + 1) + 1 by omega]
        simp
      · have h2 : ¬ (n ≤ id ∧ id < n + (m.length + 1)) := by omega
        simp only [h1, h2, if_false]
theorem apartL_at : ∀ {l : List (Option Nat)}, apartL l = true → ∀ {i j : Nat} {x : Nat}, l[i]? = some (some x) → l[j]? = some (some x) → i = j
  | [], _, i, j, x, h1, _ => by simp at h1
  | a :: l, h, i, j, x, h1, h2 => by
    simp only [apartL, Bool.and_eq_true] at h
    have ha := List.all_eq_true.1 h.1
    cases i with
    | zero =>
      cases j with
      | zero => rfl
      | succ j =>
        simp at h1 h2
        subst h1
        have := ha _ (List.mem_of_getElem? h2)
        simp [differ] at this
    | succ i =>
      cases j with
      | zero =>
        simp at h1 h2
        subst h2
        have := ha _ (List.mem_of_getElem? h1)
        simp [differ] at this
      | succ j =>
        simp at h1 h2
        rw [apartL_at h.2 h1 h2]
theorem killL_sub : ∀ {l : List (Option Nat)} {h : Heap} {id : Nat} {ob : Ob}, killL h l id = some ob → h id = some ob ∧ some id ∉ l
  | [], h, id, ob, hk => ⟨hk, by simp⟩
  | none :: l, h, id, ob, hk => by
    simp only [killL] at hk
    have := killL_sub hk
    exact ⟨this.1, by simpa using this.2⟩
  | some i :: l, h, id, ob, hk => by
    simp only [killL, upd] at hk
    split at hk
    · cases hk
    · rename_i e
      have := killL_sub hk
      exact ⟨this.1, by simp [this.2, e]⟩
theorem fnil_rep {v : V} (hc : v = .sl true []) {q : Nat} {u : Value} (hr : Rep w I σ v u) : Rep w J σ' (.hdr q 0 0) u := by
  subst hc
  simp only [Rep] at hr ⊢
  obtain ⟨a, cap, rfl, h1, h2, h3, _⟩ := hr
  exact ⟨a, cap, rfl, h1, h2, .inl (by simpa using h3)⟩
theorem ownR_sim {X : Env} (R : Rel w' I' σc hc) {hxx : Heap} {v R' : V} {u : Value} (hr : Rep w' I' σc v u) {m : Mask} (hsubx : ∀ id ob, hxx id = some ob → hc id = some ob ∧ some id ∉ maskSrc v m) (he : ownX X hc hxx v m = some R') {n : Nat} {σ0 : Sig}
    (hJ1 : ∀ b, I' b → J b) (hJ2 : ∀ b, Owns σc hxx b → J b) (hJ3 : ∀ b, J b → I' b ∨ Owns σc hxx b) (hσ : ∀ q, q < m.length → σ0 (n + q) = tau σc v m q) :
    Rep w' J σ0 (hdrV n m R') u ∧
    (∀ (kp : TypeId → Bool) (q : Nat) (p : Nat × Nat × TypeId) (ob : Ob), m[q]? = some p → hdrO X kp R' p = some ob → ObRel w' J σ0 (n + q) ob ∧ ∀ b o k, σ0 (n + q) = some (b, o, k) → ∃ id, some id ∈ maskSrc v m ∧ ∃ ob' o' k', hc id = some ob' ∧ σc id = some (b, o', k')) ∧
    (∀ (q q' b o k o' k' : Nat), q < m.length → q' < m.length → σ0 (n + q) = some (b, o, k) → σ0 (n + q') = some (b, o', k') → (∃ kp ob, (m[q]?).bind (hdrO X kp R') = some ob) → (∃ kp ob, (m[q']?).bind (hdrO X kp R') = some ob) → q = q') := by
  unfold ownX at he
  split at he
  case isFalse => cases he
  rename_i hap0
  simp only [Bool.and_eq_true] at hap0
  have hap := hap0.1
  simp only [Option.some.injEq] at he
  subst he
  have hsubR : Rel w' I' σc hxx := R.sub fun id ob h => (hsubx id ob h).1
  have him : ∀ c c' x, toImm hxx depth c = some c' → Rep w' I' σc c x → Rep w' J nosig c' x := fun c c' x ht hx => imm_rep hsubR hJ1 hJ2 depth c c' x ht hx
  have hF1 : ∀ i c, (∀ cs, c ≠ .agg cs) → ∀ cs, ownCell X hc hxx m i 0 c ≠ .agg cs := by
    intro i c hcn cs e
    unfold ownCell at e
    split at e
    · split at e <;> cases e
    · split at e
      · rename_i c' hc'
        exact dull_agg (toImm_one hc' hcn) cs e
      · cases e
  have hF2 : ∀ c, (∀ cs, c ≠ .tup cs) → ∀ cs, ownCell X hc hxx m 0 0 c ≠ .tup cs := by
    intro c hcn cs e
    unfold ownCell at e
    split at e
    · split at e <;> cases e
    · split at e
      · rename_i c' hc'
        exact dull_tup (toImm_one' hc' hcn) cs e
      · cases e
  have hcell : ∀ i j, (mapV (ownCell X hc hxx m) v).cellAt i j = ownCell X hc hxx m i j (v.cellAt i j) ∨ (∀ es c, (mapV (ownCell X hc hxx m) v).cellAt i j ≠ .sl c es) := by
    intro i j
    have one : ∀ (F : Nat → V → V) (x : V), (∀ c, (∀ cs, c ≠ .agg cs) → ∀ cs, F 0 c ≠ .agg cs) → (map1 F x).cells.getD j .bad = F j (x.cells.getD j .bad) ∨ (map1 F x).cells.getD j .bad = .bad := by
      intro F x hF
      by_cases hx : ∃ cs, x = .agg cs
      · obtain ⟨cs, rfl⟩ := hx
        rw [map1_agg]
        simp only [V.cells, List.getD_eq_getElem?_getD, mapC_get, Nat.zero_add]
        cases cs[j]? with
        | none => right; rfl
        | some c => left; rfl
      · have hx' : ∀ cs, x ≠ .agg cs := fun cs e => hx ⟨cs, e⟩
        rw [map1_one F hx', cells_one (hF x hx'), cells_one hx']
        cases j with
        | zero => left; rfl
        | succ j => right; rfl
    by_cases hv : ∃ cs, v = .tup cs
    · obtain ⟨vs, rfl⟩ := hv
      rw [mapV_tup]
      simp only [V.cellAt, List.getD_eq_getElem?_getD, mapC_get, Nat.zero_add]
      cases vs[i]? with
      | none => right; intro es c e; simp only [Option.map_none, Option.getD_none, V.cells] at e; cases j <;> simp at e
      | some x =>
        simp only [Option.map_some, Option.getD_some]
        rcases one (ownCell X hc hxx m i) x (hF1 i) with h | h
        · left; simpa [List.getD_eq_getElem?_getD] using h
        · right; intro es c e; simp only [List.getD_eq_getElem?_getD] at h; rw [h] at e; cases e
    · have hv' : ∀ cs, v ≠ .tup cs := fun cs e => hv ⟨cs, e⟩
      rw [mapV_one _ hv']
      have hm : ∀ cs, map1 (ownCell X hc hxx m 0) v ≠ .tup cs := by
        intro cs e
        by_cases ha : ∃ cs, v = .agg cs
        · obtain ⟨cs', rfl⟩ := ha
          rw [map1_agg] at e; cases e
        · have ha' : ∀ cs, v ≠ .agg cs := fun cs e => ha ⟨cs, e⟩
          rw [map1_one _ ha'] at e
          exact hF2 v hv' cs e
      have cA : ∀ y : V, (∀ cs, y ≠ .tup cs) → y.cellAt i j = if i = 0 then y.cells.getD j .bad else .bad := by
        intro y hy
        cases y with
        | tup cs => exact absurd rfl (hy cs)
        | _ => rfl
      rw [cA _ hm, cA _ hv']
      by_cases hi : i = 0
      · subst hi
        simp only [if_true]
        rcases one (ownCell X hc hxx m 0) v (hF1 0) with h | h
        · left; exact h
        · right; intro es c e; rw [h] at e; cases e
      · right; intro es c e; simp only [hi, if_false] at e; cases e
  have hrow : ∀ (t : TypeId) (c : V) (es : List V), rowAt X hc hxx t c = some es → (c = .sl true [] ∧ es = []) ∨ ∃ id s l ob es0, c = .hdr id s l ∧ hc id = some ob ∧ ob.k = (X.ti t).size ∧ s + l ≤ ob.es.length ∧ es.length = l ∧ allSome (((ob.es.drop s).take l).map (toImm hxx depth)) = some es0 ∧ es = dullL es0 := by
    intro t c es hrw
    unfold rowAt at hrw
    split at hrw
    · simp only [Option.some.injEq] at hrw; exact .inl ⟨rfl, hrw.symm⟩
    · rename_i id s l
      right
      split at hrw
      case h_2 => cases hrw
      rename_i ob hob
      split at hrw
      case isFalse => cases hrw
      rename_i hkl
      split at hrw
      case h_2 => cases hrw
      rename_i es0 hes
      simp only [Option.some.injEq] at hrw
      subst hrw
      refine ⟨id, s, l, ob, es0, rfl, hob, hkl.1, hkl.2, ?_, hes, rfl⟩
      have := (allSome_map _ hes).1
      have hd : ∀ l : List V, (dullL l).length = l.length := by
        intro l; induction l with
        | nil => rfl
        | cons c l ih => simp [dullL, ih]
      rw [hd, ← this]; simp; omega
    · cases hrw
  have hownC : ∀ (q : Nat) (p : Nat × Nat × TypeId) (c : Bool) (es : List V), m[q]? = some p → (mapV (ownCell X hc hxx m) v).cellAt p.1 p.2.1 = .sl c es → ∀ q' t, maskNo 0 m p.1 p.2.1 = some (q', t) → rowAt X hc hxx t (v.cellAt p.1 p.2.1) = some es := by
    intro q p c es hq hce q' t hm
    rcases hcell p.1 p.2.1 with h | h
    · rw [h] at hce
      unfold ownCell at hce
      rw [hm] at hce
      simp only at hce
      split at hce
      · rename_i es' hes
        simp only [V.sl.injEq] at hce
        rw [← hce.2]; exact hes
      · cases hce
    · exact absurd hce (h es c)
  have hmex : ∀ (q : Nat) (p : Nat × Nat × TypeId), m[q]? = some p → ∃ q' t, maskNo 0 m p.1 p.2.1 = some (q', t) := by
    intro q p hq
    have : ∀ (m : Mask) (n q : Nat), m[q]? = some p → ∃ q' t, maskNo n m p.1 p.2.1 = some (q', t) := by
      intro m
      induction m with
      | nil => intro n q hq; simp at hq
      | cons y m ih =>
        intro n q hq
        obtain ⟨a, b, t⟩ := y
        simp only [maskNo]
        by_cases hab : a = p.1 ∧ b = p.2.1
        · simp only [hab, and_self, if_true]; exact ⟨_, _, rfl⟩
        · simp only [hab, if_false]
          cases q with
          | zero =>
            simp at hq
            subst hq
            simp at hab
          | succ q => exact ih (n + 1) q (by simpa using hq)
    exact this m 0 q hq
  have hlenm : ∀ (q : Nat) (p : Nat × Nat × TypeId), m[q]? = some p → q < m.length := fun q p h => (List.getElem?_eq_some_iff.1 h).1
  have htau : ∀ (q : Nat) (p : Nat × Nat × TypeId), m[q]? = some p → ∀ b o k, σ0 (n + q) = some (b, o, k) → ∃ id s l o', v.cellAt p.1 p.2.1 = .hdr id s l ∧ σc id = some (b, o', k) ∧ o = o' + s * k := by
    intro q p hq b o k hsg
    rw [hσ q (hlenm q p hq)] at hsg
    unfold tau at hsg
    rw [hq] at hsg
    simp only at hsg
    split at hsg
    case h_2 => cases hsg
    rename_i id s l hce
    split at hsg
    case h_2 => cases hsg
    rename_i b' o' k' hs'
    simp only [Option.some.injEq, Prod.mk.injEq] at hsg
    obtain ⟨rfl, rfl, rfl⟩ := hsg
    exact ⟨id, s, l, o', hce, hs', rfl⟩
  have hsrcm : ∀ (q : Nat) (p : Nat × Nat × TypeId) (id s l : Nat), m[q]? = some p → v.cellAt p.1 p.2.1 = .hdr id s l → (maskSrc v m)[q]? = some (some id) := by
    intro q p id s l hq hce
    unfold maskSrc
    rw [List.getElem?_map, hq]
    simp [hce, V.src]
  refine ⟨?_, ?_, ?_⟩
  · unfold hdrV
    rw [mapV_comp hF1 hF2]
    refine mapV_rep hr fun i j c x hce hx => ?_
    rw [maskNo_shift m n]
    cases hm : maskNo 0 m i j with
    | none =>
      simp only [Option.map_none, ownCell, hm]
      split
      · rename_i c' hc'
        exact ((him c c' x hc' hx).ext Ext.free).dull
      · simp [Rep]
    | some y =>
      obtain ⟨q, t⟩ := y
      simp only [Option.map_some, ownCell, hm]
      obtain ⟨hq0, hq⟩ := maskNo_some hm
      simp only [Nat.sub_zero] at hq
      cases hrw : rowAt X hc hxx t c with
      | none => simp [Rep]
      | some es =>
        simp only
        rcases hrow t c es hrw with ⟨rfl, rfl⟩ | ⟨id, s, l, ob, es0, rfl, hob, hk, hsl, hel, hes, hd⟩
        · exact fnil_rep rfl hx
        · simp only [Rep] at hx ⊢
          obtain ⟨a, cap, rfl, h1, h2, h3⟩ := hx
          refine ⟨a, cap, by rw [hel], by rw [hel]; exact h1, h2, ?_⟩
          rcases h3 with h3 | ⟨b, o, k, c', el, fz, hsg, ha, hb, hle⟩
          · exact .inl h3
          · refine .inr ⟨b, o + s * k, k, c', el, fz, ?_, by rw [ha]; simp, hb, by
              have : (s + cap) * k = s * k + cap * k := Nat.add_mul ..
              rw [Nat.zero_add]; omega⟩
            rw [Nat.add_comm q n, hσ q (hlenm q _ hq)]
            unfold tau
            rw [hq]
            simp only [hce, hsg]
  · intro kp q p ob hq hO
    unfold hdrO at hO
    split at hO
    case h_2 => cases hO
    rename_i cc es hce
    simp only [Option.some.injEq] at hO
    subst hO
    obtain ⟨q', t, hm⟩ := hmex q p hq
    have hrw := hownC q p cc es hq hce q' t hm
    have hrw2 : ∃ t', rowAt X hc hxx t' (v.cellAt p.1 p.2.1) = some es := ⟨t, hrw⟩
    refine ⟨?_, fun b o k hsg => ?_⟩
    · rcases hrow t _ es hrw with ⟨hcn, rfl⟩ | ⟨id, s, l, ob, es0, hcn, hob, hk, hsl, hel, hes, hd⟩
      · left
        refine ⟨rfl, ?_⟩
        rw [hσ q (hlenm q p hq)]
        unfold tau
        rw [hq]
        simp only [hcn]
      · rcases R.obj id ob hob with ⟨he, hnn⟩ | ⟨b, o, c, el, hsg, hi, hb, hle, hrr⟩
        · left
          refine ⟨?_, ?_⟩
          · have : l = 0 := by rw [he] at hsl; simp at hsl; omega
            rw [this] at hel
            exact List.eq_nil_of_length_eq_zero hel
          · rw [hσ q (hlenm q p hq)]
            unfold tau
            rw [hq]
            simp only [hcn, hnn]
        · right
          have hmem := hsrcm q p id s l hq hcn
          obtain ⟨_, hq'⟩ := maskNo_some hm
          simp only [Nat.sub_zero] at hq'
          have hqq : q = q' := apartL_at hap hmem (hsrcm q' _ id s l hq' hcn)
          subst hqq
          rw [hq] at hq'
          simp only [Option.some.injEq] at hq'
          have ht : p.2.2 = t := by rw [hq']
          have hkk : (X.ti p.2.2).size = ob.k := by rw [ht]; exact hk.symm
          have hsg2 : σ0 (n + q) = some (b, o + s * ob.k, ob.k) := by
            rw [hσ q (hlenm q p hq)]
            unfold tau
            rw [hq]
            simp only [hcn, hsg]
          refine ⟨b, o + s * ob.k, c, el, by rw [hkk]; exact hsg2, fun hj => ?_, hb, ?_, ?_⟩
          · rcases hJ3 b hj with hx | ⟨i2, ob2, o2, k2, h1, h2⟩
            · exact hi hx
            · have h3 := hsubx _ _ h1
              have : i2 = id := R.apart i2 id ob2 ob b o2 k2 o ob.k h3.1 hob h2 hsg
              subst this
              exact h3.2 (List.mem_of_getElem? hmem)
          · rw [hkk, hel]
            have e1 : (s + l) * ob.k ≤ ob.es.length * ob.k := Nat.mul_le_mul_right _ hsl
            have e2 : (s + l) * ob.k = s * ob.k + l * ob.k := Nat.add_mul ..
            show o + s * ob.k + l * ob.k ≤ c.size
            omega
          · rw [hkk]
            have hr1 := ((hrr.extRow (Ext.freeOf ob.keep) rfl).seg s l)
            have hr2 := (imm_row hsubR hJ1 hJ2 hes hr1).2
            rw [hd]
            exact (RepRow.dull' _ _ _ _ hr2).extRow Ext.free rfl
    · obtain ⟨id, s, l, o', hce', hs', rfl⟩ := htau q p hq b o k hsg
      rcases hrow t _ es hrw with ⟨hcn, _⟩ | ⟨id', s', l', ob, es0, hcn, hob, _⟩
      · rw [hcn] at hce'; cases hce'
      · rw [hcn] at hce'
        simp only [V.hdr.injEq] at hce'
        obtain ⟨rfl, rfl, rfl⟩ := hce'
        exact ⟨id', List.mem_of_getElem? (hsrcm q p id' s' l' hq hcn), ob, o', k, hob, hs'⟩
  · intro q q' b o k o' k' hq hq' hsg hsg' e1 e2
    have hp : m[q]? = some m[q] := List.getElem?_eq_getElem hq
    have hp' : m[q']? = some m[q'] := List.getElem?_eq_getElem hq'
    have get : ∀ (q : Nat) (p : Nat × Nat × TypeId) (b o k : Nat), m[q]? = some p → σ0 (n + q) = some (b, o, k) → (∃ kp ob, (m[q]?).bind (hdrO X kp (mapV (ownCell X hc hxx m) v)) = some ob) → ∃ id ob o', (maskSrc v m)[q]? = some (some id) ∧ hc id = some ob ∧ σc id = some (b, o', k) := by
      intro q p b o k hq hsg hO
      obtain ⟨kp, ob, hO⟩ := hO
      rw [hq] at hO
      simp only [Option.bind_some] at hO
      unfold hdrO at hO
      split at hO
      case h_2 => cases hO
      rename_i cc es hce
      obtain ⟨q', t, hm⟩ := hmex q p hq
      have hrw := hownC q p cc es hq hce q' t hm
      obtain ⟨id, s, l, o', hce', hs', rfl⟩ := htau q p hq b o k hsg
      rcases hrow t _ es hrw with ⟨hcn, _⟩ | ⟨id', s', l', ob, es0, hcn, hob, _⟩
      · rw [hcn] at hce'; cases hce'
      · rw [hcn] at hce'
        simp only [V.hdr.injEq] at hce'
        obtain ⟨rfl, rfl, rfl⟩ := hce'
        exact ⟨id', ob, o', hsrcm q p id' s' l' hq hcn, hob, hs'⟩
    obtain ⟨id, ob, o1, g1, g2, g3⟩ := get q _ b o k hp hsg e1
    obtain ⟨id', ob', o1', g1', g2', g3'⟩ := get q' _ b o' k' hp' hsg' e2
    have : id = id' := R.apart id id' ob ob' b o1 k o1' k' g2 g2' g3 g3'
    subst this
    exact apartL_at hap g1 g1'
end
theorem giveA_sim {w : World} {σ : Sig} : ∀ {vs vs' : List V} {I : Nat → Prop} {h h' : Heap} {us : List Value}, Rel w I σ h → RepL w I σ vs us → giveA h vs = some (vs', h') → ∀ n : Nat,
    ∃ I', Step w I σ h n w I' σ h' n ∧ RepL w I' nosig vs' us ∧ (∀ id ob, h' id = some ob → h id = some ob)
  | [], vs', I, h, h', us, R, hr, hg, n => by
    simp only [giveA, Option.some.injEq, Prod.mk.injEq] at hg
    obtain ⟨rfl, rfl⟩ := hg
    exact ⟨I, Step.refl R n, by simpa [RepL] using hr, fun _ _ hh => hh⟩
  | c :: ps, vs', I, h, h', us, R, hr, hg, n => by
    simp only [RepL] at hr
    obtain ⟨u, r, rfl, h2, h3⟩ := hr
    simp only [giveA] at hg
    cases hc : give h c with
    | none => simp [hc] at hg
    | some x =>
      obtain ⟨c', h1'⟩ := x
      simp only [hc] at hg
      cases hl : giveA h1' ps with
      | none => simp [hl] at hg
      | some y =>
        obtain ⟨cs1, h2'⟩ := y
        simp only [hl, Option.some.injEq, Prod.mk.injEq] at hg
        obtain ⟨rfl, rfl⟩ := hg
        obtain ⟨I1, s1, r1, sub1⟩ := give_sim R h2 hc n
        have hr3 : RepL w I1 σ ps r := RepL.ext' _ r s1.ext h3
        obtain ⟨I2, s2, r2, sub2⟩ := giveA_sim s1.rel hr3 hl n
        refine ⟨I2, s1.trans s2, ?_, fun id ob hh => sub1 _ _ (sub2 _ _ hh)⟩
        simp only [RepL]
        exact ⟨u, r, rfl, r1.ext s2.ext.noid, r2⟩
def sigR (n : Nat) (σ σc : Sig) (v : V) (m : Mask) : Sig := fun id => if id < n then σ id else tau σc v m (id - n)
theorem sigR_new {n : Nat} {σ σc : Sig} {v : V} {m : Mask} (q : Nat) : sigR n σ σc v m (n + q) = tau σc v m q := by
  unfold sigR
  rw [if_neg (by omega), Nat.add_sub_cancel_left]
theorem sim_mask {X : Env} {C : CallT} (hC : CallOk X C) {fid : FuncId} {dst : Option Nat} {g : FuncId} {args : List V} {S S1 : St} (he : evMask X C fid dst g args S = some S1)
    {w : World} {I : Nat → Prop} {σ : Sig} (R : Rel w I σ S.h) (F : Fresh σ S.h S.n) (us : Array Value) (hr : RepL w I σ args us.toList) :
    Calls X.P g us w fun e w' => ∃ u v I' σ', e = .returned u ∧ Step w I σ S.h S.n w' I' σ' S1.h S1.n ∧ S1.f = (S.set dst v).f ∧ Rep w' I' σ' v u := by
  unfold evMask at he
  generalize dst.elim [] (X.mask fid) = m at he
  split at he
  case h_2 => cases he
  rename_i as h1 hg
  split at he
  case h_2 => cases he
  rename_i v hc k' hcall
  split at he
  case h_2 => cases he
  rename_i r hR
  simp only [Option.some.injEq] at he
  subst he
  obtain ⟨I1, s1, r1, sub1⟩ := giveA_sim R hr hg S.n
  have F1 : Fresh σ h1 S.n := s1.fresh F
  refine Calls.mono (hC g as noheap 0 v hc k' hcall w I1 nosig us (Rel.noheap s1.rel.imm s1.rel.glob) (fun _ _ => ⟨rfl, rfl⟩) r1) fun e w' hh => ?_
  obtain ⟨u, I', σc, rfl, _, s, _, hrep⟩ := hh
  have hsub : ∀ b, Owns σc (killL hc (maskSrc v m)) b → Owns σc hc b := fun b ⟨i, ob, o, k, g1, g2⟩ => ⟨i, ob, o, k, (killL_sub g1).1, g2⟩
  obtain ⟨q1, q2, q3⟩ := ownR_sim s.rel hrep (hxx := killL hc (maskSrc v m)) (fun id ob h => killL_sub h) hR (n := S.n) (σ0 := sigR S.n σ σc v m) (J := fun b => I' b ∨ Owns σc (killL hc (maskSrc v m)) b) (fun b hb => .inl hb) (fun b hb => .inr hb) (fun b hb => hb) (fun q _ => sigR_new q)
  have hget : ∀ id ob, S.n ≤ id → hdrH X (X.keepT fid) r S.n m h1 id = some ob → ∃ q p, id = S.n + q ∧ m[q]? = some p ∧ hdrO X (X.keepT fid) r p = some ob := by
    intro id ob hid ho
    rw [hdrH_get] at ho
    split at ho
    · rename_i hi
      cases hq : m[id - S.n]? with
      | none => rw [hq] at ho; cases ho
      | some p =>
        rw [hq] at ho
        exact ⟨id - S.n, p, by omega, hq, ho⟩
    · rw [(F1 id hid).1] at ho; cases ho
  have st : Step w I σ S.h S.n w' (fun b => I' b ∨ Owns σc (killL hc (maskSrc v m)) b) (sigR S.n σ σc v m) (hdrH X (X.keepT fid) r S.n m h1) (S.n + m.length) := by
    refine Step.call (x := S.n) R F (fun _ _ h => h) s1 sub1 s (fun b hb => absurd hb noOwns) (fun b hb => .inl hb) (fun b hb => ?_) (fun id hid => ?_) (fun id hid _ => ?_) (fun ob hlt => by omega) (by omega) (fun id hid => ⟨?_, ?_⟩) (fun id ob hid ho => ?_) (fun id id' ob ob' b o k o' k1 hid hid' ho ho' hsg hsg' => ?_)
    · rcases hb with hb | hb
      · exact .inl hb
      · exact .inr (hsub b hb)
    · simp [sigR, hid]
    · rw [hdrH_get, if_neg (by omega)]
    · unfold sigR
      rw [if_neg (by omega)]
      unfold tau
      rw [List.getElem?_eq_none (by omega)]
    · rw [hdrH_get, if_neg (by omega)]
      exact (F1 id (by omega)).1
    · obtain ⟨q, p, rfl, hq, hO⟩ := hget id ob hid ho
      obtain ⟨g1, g2⟩ := q2 _ q p ob hq hO
      refine ⟨g1, fun b o k hsg => ⟨?_, fun hlt => by omega⟩⟩
      obtain ⟨i, _, ob', o', k', h3, h4⟩ := g2 b o k hsg
      rcases s.own b ⟨i, ob', o', k', h3, h4⟩ with hx | hx
      · exact .inl hx
      · exact absurd hx noOwns
    · obtain ⟨q, p, rfl, hq, hO⟩ := hget id ob hid ho
      obtain ⟨q', p', rfl, hq', hO'⟩ := hget id' ob' hid' ho'
      have := q3 q q' b o k o' k1 (List.getElem?_eq_some_iff.1 hq).1 (List.getElem?_eq_some_iff.1 hq').1 hsg hsg' ⟨_, ob, by rw [hq]; exact hO⟩ ⟨_, ob', by rw [hq']; exact hO'⟩
      omega
  refine ⟨u, _, _, _, rfl, ?_, set_f _ _ _ _ rfl, q1⟩
  rw [set_h, set_n]
  exact st
theorem cells_vals {w : World} {I : Nat → Prop} {σ : Sig} : ∀ (cs : List V) (b o : Nat), CAt w I σ cs b o → ∃ us : List Value, RepC w I σ cs us ∧ ∀ (j : Nat) x, us[j]? = some x → w.cell? ⟨b, o + j, none⟩ = some x := by
  intro cs b
  induction cs with
  | nil => intro o _; exact ⟨[], by simp [RepC], by simp⟩
  | cons c cs ih =>
    intro o hca
    obtain ⟨u, g1, g2, g3⟩ := hca 0 c (by simp)
    obtain ⟨us, g4, g5⟩ := ih (o + 1) fun j c' hj => by
      have := hca (j + 1) c' (by simpa using hj)
      rwa [show o + (j + 1) = o + 1 + j by omega] at this
    refine ⟨u :: us, by simp only [RepC]; exact ⟨u, us, rfl, g2, g3, g4⟩, fun j x hj => ?_⟩
    cases j with
    | zero => simp at hj; subst hj; exact g1
    | succ j =>
      have := g5 j x (by simpa using hj)
      rwa [show o + 1 + j = o + (j + 1) by omega] at this
theorem elem_val {w : World} {I : Nat → Prop} {σ : Sig} {e : V} {b o : Nat} (h : CAt w I σ e.cells b o) : ∃ ue : Value, Rep w I σ e ue ∧
    ∀ {J : Nat → Prop} {σ' : Sig} {e' : V}, Rep w J σ' e' ue → ((∃ cs, e = .agg cs) → ∃ cs, e' = .agg cs) → e'.cells.length = e.cells.length ∧ CAt w J σ' e'.cells b o := by
  obtain ⟨uc, huc, hmem⟩ := cells_vals e.cells b o h
  have hl2 : e.cells.length = uc.length := ((RepC_iff _ _).1 huc).1
  have fin : ∀ {J : Nat → Prop} {σ' : Sig} {e' : V}, RepC w J σ' e'.cells uc → e'.cells.length = e.cells.length ∧ CAt w J σ' e'.cells b o := by
    intro J σ' e' hsh
    have hl1 : e'.cells.length = uc.length := ((RepC_iff _ _).1 hsh).1
    refine ⟨by rw [hl1, hl2], fun j c' hj => ?_⟩
    have hju : j < uc.length := by rw [← hl1]; exact (List.getElem?_eq_some_iff.1 hj).1
    have hg2 := ((RepC_iff _ _).1 hsh).2 j c' uc[j] hj (by simp)
    exact ⟨uc[j], hmem j _ (by simp), hg2.1, hg2.2⟩
  by_cases hx : ∃ cs, e = .agg cs
  · obtain ⟨cs, rfl⟩ := hx
    refine ⟨.agg uc.toArray, ?_, fun {J σ' e'} hr ha => ?_⟩
    · simp only [Rep]
      exact ⟨_, rfl, by rw [List.toList_toArray]; exact huc⟩
    · obtain ⟨cs', rfl⟩ := ha ⟨cs, rfl⟩
      refine fin ?_
      simp only [Rep] at hr
      obtain ⟨us', hz, hy⟩ := hr
      simp only [Value.agg.injEq] at hz
      subst hz
      simpa [V.cells] using hy
  · have hx' : ∀ cs, e ≠ .agg cs := fun cs e => hx ⟨cs, e⟩
    rw [cells_one hx'] at huc
    simp only [RepC] at huc
    obtain ⟨ue, rr, rfl, g1, g2, rfl⟩ := huc
    refine ⟨ue, g2, fun {J σ' e'} hr _ => ?_⟩
    refine fin ?_
    have hna : ∀ cs, e' ≠ .agg cs := by
      intro cs hc0
      subst hc0
      simp only [Rep] at hr
      obtain ⟨us', rfl, _⟩ := hr
      simp [Value.oneCell'] at g1
    rw [cells_one hna]
    simp only [RepC]
    exact ⟨ue, [], rfl, g1, hr, rfl⟩
theorem mapV_isagg (F : Nat → Nat → V → V) {v : V} (h : ∃ cs, v = .agg cs) : ∃ cs, mapV F v = .agg cs := by
  obtain ⟨cs, rfl⟩ := h
  exact ⟨_, rfl⟩
theorem sim_io {X : Env} {C : CallT} (hC : CallOk X C) {fid : FuncId} {dst : Option Nat} {g : FuncId} {args : List V} {S S1 : St} (hio : X.inout g = true) (he : evIo X C fid dst g args S = some S1)
    {w : World} {I : Nat → Prop} {σ : Sig} (R : Rel w I σ S.h) (F : Fresh σ S.h S.n) (us : Array Value) (hr : RepL w I σ args us.toList) :
    Calls X.P g us w fun e w' => ∃ u v I' σ', e = .returned u ∧ Step w I σ S.h S.n w' I' σ' S1.h S1.n ∧ S1.f = (S.set dst v).f ∧ Rep w' I' σ' v u := by
  unfold evIo at he
  generalize hM : ioMask X fid dst g = M at he
  split at he
  case h_2 => cases he
  rename_i id rest
  split at he
  case h_2 => cases he
  rename_i ob hob
  split at he
  case h_2 => cases he
  rename_i e hes0
  split at he
  case isFalse => cases he
  rename_i hkeep
  split at he
  case h_2 => cases he
  rename_i Ro hRo
  split at he
  case h_2 => cases he
  rename_i as h1 hg
  split at he
  case h_2 => cases he
  rename_i v hc k' hcall
  split at he
  case h_2 => cases he
  rename_i kk r rs hend
  simp only [Option.some.injEq] at he
  subst he
  simp only [RepL] at hr
  obtain ⟨u0, r0, hus, hu0, hrest⟩ := hr
  have hidn : id < S.n := by
    rcases Nat.lt_or_ge id S.n with hh | hh
    · exact hh
    · rw [(F id hh).1] at hob; cases hob
  obtain ⟨b, o, c, el, hsg, hbi, hhb, hle, hrow⟩ : ∃ b o c el, σ id = some (b, o, ob.k) ∧ ¬ I b ∧ RowAt w b c el ∧ o + ob.es.length * ob.k ≤ c.size ∧ RepRow w I (osig ob.keep σ) ob.es ob.k b o := by
    rcases R.obj id ob hob with ⟨hx, _⟩ | hx
    · rw [hes0] at hx; cases hx
    · exact hx
  have hrow1 : RepRow w I σ [e] ob.k b o := by
    rw [← hes0]; exact hrow.extRow (Ext.freeOf ob.keep) rfl
  have hcat : e.cells.length = ob.k ∧ CAt w I σ e.cells b o := by
    rw [RepRow_cons] at hrow1
    exact ⟨hrow1.1, hrow1.2.1⟩
  have hlt : b < w.heap.size := R.ownedLt ⟨id, ob, o, ob.k, hob, hsg⟩
  generalize hom : X.omask g = om at *
  have hkn : ∀ {l : List (Option Nat)} {h : Heap} {i : Nat}, some i ∈ l → killL h l i = none := fun {l h i} hm => by
    cases hz : killL h l i with
    | none => rfl
    | some y => exact absurd hm (killL_sub hz).2
  have hupd : ∀ i y, upd S.h id none i = some y → i ≠ id ∧ S.h i = some y := by
    intro i y hy
    by_cases ei : i = id
    · subst ei; simp [upd] at hy
    · exact ⟨ei, by simpa [upd, ei] using hy⟩
  have subK : ∀ i y, killL (upd S.h id none) (maskSrc e om) i = some y → S.h i = some y := fun i y hy => (hupd i y (killL_sub hy).1).2
  have hKid : killL (upd S.h id none) (maskSrc e om) id = none := by
    cases hz : killL (upd S.h id none) (maskSrc e om) id with
    | none => rfl
    | some y => exact absurd rfl (hupd id y (killL_sub hz).1).1
  obtain ⟨I1, s1, r1, sub1⟩ := giveA_sim (R.sub subK) hrest hg S.n
  have hnK : ∀ i y b o k, S.h i = some y → σ i = some (b, o, k) → killL (upd S.h id none) (maskSrc e om) i = none → ¬ Owns σ (killL (upd S.h id none) (maskSrc e om)) b := by
    rintro i y b o k h2 h3 h4 ⟨i2, y2, o2, k2, g1, g2⟩
    have : i2 = i := R.apart i2 i y2 y b o2 k2 o k (subK _ _ g1) h2 g2 h3
    subst this
    rw [h4] at g1; cases g1
  have hI1 : ∀ i y b o k, S.h i = some y → σ i = some (b, o, k) → killL (upd S.h id none) (maskSrc e om) i = none → ¬ I1 b := by
    intro i y b o k h2 h3 h4 hx
    rcases s1.inew b hx with hy | hy | hy
    · exact (R.owned ⟨i, y, o, k, h2, h3⟩).1 hy
    · have := R.ownedLt ⟨i, y, o, k, h2, h3⟩; omega
    · exact hnK i y b o k h2 h3 h4 hy
  have hI1b : ¬ I1 b := hI1 id ob b o ob.k hob hsg hKid
  obtain ⟨ue, hue, hback⟩ := elem_val hcat.2
  obtain ⟨p1, p2, p3⟩ := ownR_sim (R.kill id) hue (hxx := fun _ => none) (fun _ _ h => by cases h) hRo (n := 1) (σ0 := sigR 1 (fun _ => σ id) σ e om) (J := I) (fun b hb => hb) (fun b hb => by
    obtain ⟨_, _, _, _, h, _⟩ := hb; cases h) (fun b hb => .inl hb) (fun q _ => sigR_new q)
  have EI : ∀ τ : Sig, Ext w I τ w I1 τ := fun τ => ⟨fun _ _ => rfl, fun _ c _ fz hh => ⟨c, fz, hh, rfl⟩, s1.ext.imp, fun _ _ hh => hh⟩
  have hmsk : ∀ (q : Nat) (p : Nat × Nat × TypeId) (y : Ob), om[q]? = some p → hdrO X (X.keepT g) Ro p = some y → ∀ b' o' k1, sigR 1 (fun _ => σ id) σ e om (1 + q) = some (b', o', k1) → ∃ i y', i ≠ id ∧ S.h i = some y' ∧ killL (upd S.h id none) (maskSrc e om) i = none ∧ ∃ o2 k2, σ i = some (b', o2, k2) := by
    intro q p y hq hO b' o' k1 hs'
    obtain ⟨i, hmem, y', o2, k2, g1, g2⟩ := (p2 _ q p y hq hO).2 b' o' k1 hs'
    exact ⟨i, y', (hupd i y' g1).1, (hupd i y' g1).2, hkn hmem, o2, k2, g2⟩
  have hsget : ∀ i y, ioStart X g ob.k Ro i = some y → (i = 0 ∧ y = ⟨ob.k, [hdrV 1 om Ro], true⟩) ∨ ∃ q p, i = 1 + q ∧ om[q]? = some p ∧ hdrO X (X.keepT g) Ro p = some y := by
    intro i y hy
    unfold ioStart at hy
    rw [hom] at hy
    rw [hdrH_get] at hy
    split at hy
    · rename_i hi
      right
      cases hq : om[i - 1]? with
      | none => rw [hq] at hy; cases hy
      | some p =>
        rw [hq] at hy
        exact ⟨i - 1, p, by omega, hq, hy⟩
    · left
      simp only [upd] at hy
      split at hy
      · rename_i e0
        simp only [Option.some.injEq] at hy
        exact ⟨e0, hy.symm⟩
      · cases hy
  have hsig0 : sigR 1 (fun _ => σ id) σ e om 0 = some (b, o, ob.k) := by simp [sigR, hsg]
  have hcat0 : (hdrV 1 om Ro).cells.length = ob.k ∧ CAt w I1 (sigR 1 (fun _ => σ id) σ e om) (hdrV 1 om Ro).cells b o := by
    have hagg : (∃ cs, e = .agg cs) → ∃ cs, hdrV 1 om Ro = .agg cs := fun h => by
      unfold ownX at hRo
      split at hRo
      case isFalse => cases hRo
      simp only [Option.some.injEq] at hRo
      rw [← hRo]
      exact mapV_isagg _ (mapV_isagg _ h)
    obtain ⟨g1, g2⟩ := hback (p1.ext (EI _)) hagg
    exact ⟨by rw [g1]; exact hcat.1, g2⟩
  have hle1 : o + [e].length * ob.k ≤ c.size := by rw [hes0] at hle; simpa using hle
  have Rs : Rel w I1 (sigR 1 (fun _ => σ id) σ e om) (ioStart X g ob.k Ro) := by
    refine ⟨s1.rel.imm, fun i y hy => ?_, fun i i' y y' b1 o1 k1 o2 k2 g1 g2 g3 g4 => ?_, s1.rel.glob⟩
    · rcases hsget i y hy with ⟨rfl, rfl⟩ | ⟨q, p, rfl, hq, hO⟩
      · refine .inr ⟨b, o, c, el, hsig0, hI1b, hhb, by simpa using hle1, ?_⟩
        simp only [osig, if_true]
        rw [RepRow_cons]
        exact ⟨hcat0.1, hcat0.2, by simp [RepRow]⟩
      · rcases (p2 _ q p y hq hO).1 with hx | ⟨b', o', c', el', g1, g2, g3, g4, g5⟩
        · exact .inl hx
        · obtain ⟨i, y', _, k1, k2, o2, k3, k4⟩ := hmsk q p y hq hO b' o' y.k g1
          exact .inr ⟨b', o', c', el', g1, hI1 i y' b' o2 k3 k1 k4 k2, g3, g4, g5.extRow ((EI _).ofKeep _) rfl⟩
    · have cross : ∀ q p y b1 o1 k1 o2 k2, om[q]? = some p → hdrO X (X.keepT g) Ro p = some y → sigR 1 (fun _ => σ id) σ e om (1 + q) = some (b1, o1, k1) → sigR 1 (fun _ => σ id) σ e om 0 = some (b1, o2, k2) → False := by
        intro q p y b1 o1 k1 o2 k2 hq hO h3 h4
        obtain ⟨i, y', hne, m1, m2, o3, k3, m4⟩ := hmsk q p y hq hO b1 o1 k1 h3
        rw [hsig0] at h4
        simp only [Option.some.injEq, Prod.mk.injEq] at h4
        obtain ⟨rfl, _, _⟩ := h4
        exact hne (R.apart i id y' ob b o3 k3 o ob.k m1 hob m4 hsg)
      rcases hsget i y g1 with ⟨rfl, rfl⟩ | ⟨q, p, rfl, hq, hO⟩
      · rcases hsget i' y' g2 with ⟨rfl, rfl⟩ | ⟨q', p', rfl, hq', hO'⟩
        · rfl
        · exact (cross q' p' y' b1 o2 k2 o1 k1 hq' hO' g4 g3).elim
      · rcases hsget i' y' g2 with ⟨rfl, rfl⟩ | ⟨q', p', rfl, hq', hO'⟩
        · exact (cross q p y b1 o1 k1 o2 k2 hq hO g3 g4).elim
        · have := p3 q q' b1 o1 k1 o2 k2 (List.getElem?_eq_some_iff.1 hq).1 (List.getElem?_eq_some_iff.1 hq').1 g3 g4 ⟨_, y, by rw [hq]; exact hO⟩ ⟨_, y', by rw [hq']; exact hO'⟩
          omega
  have Fs : Fresh (sigR 1 (fun _ => σ id) σ e om) (ioStart X g ob.k Ro) (1 + om.length) := fun i hi => by
    refine ⟨?_, ?_⟩
    · cases hz : ioStart X g ob.k Ro i with
      | none => rfl
      | some y =>
        rcases hsget i y hz with ⟨rfl, rfl⟩ | ⟨q, p, rfl, hq, hO⟩
        · omega
        · have := (List.getElem?_eq_some_iff.1 hq).1; omega
    · unfold sigR
      rw [if_neg (by omega)]
      unfold tau
      rw [List.getElem?_eq_none (by omega)]
  have hargs : RepL w I1 (sigR 1 (fun _ => σ id) σ e om) (.ptr 0 0 0 :: as) us.toList := by
    rw [hus]
    simp only [RepL]
    refine ⟨u0, r0, rfl, ?_, RepL.ext' _ _ Ext.free r1⟩
    simp only [Rep] at hu0 ⊢
    obtain ⟨b', o', k1, g1, g2⟩ := hu0
    rw [hsg] at g1
    simp only [Option.some.injEq, Prod.mk.injEq] at g1
    obtain ⟨rfl, rfl, rfl⟩ := g1
    exact ⟨b, o, ob.k, hsig0, by rw [g2]⟩
  refine Calls.mono (hC g (.ptr 0 0 0 :: as) (ioStart X g ob.k Ro) (1 + om.length) v hc k' hcall w I1 _ us Rs Fs hargs) fun ex w' hh => ?_
  obtain ⟨u, I', σc, rfl, _, s0, _, hrep⟩ := hh
  have s : Stem 1 w I1 (sigR 1 (fun _ => σ id) σ e om) (ioStart X g ob.k Ro) w' I' σc hc := s0.less (by unfold lim; rw [if_pos hio]; split <;> omega)
  have hσc : σc 0 = some (b, o, ob.k) := by rw [s.sigs 0 (by omega)]; exact hsig0
  unfold ioEnd at hend
  split at hend
  case h_2 => cases hend
  rename_i ob' hob'
  split at hend
  case h_2 => cases hend
  rename_i e' hes'
  split at hend
  case isFalse => cases hend
  rename_i hkp
  split at hend
  case h_2 => cases hend
  rename_i r' rs' hR
  simp only [Option.some.injEq, Prod.mk.injEq] at hend
  obtain ⟨rfl, rfl, rfl⟩ := hend
  obtain ⟨c', el', hbi', hhb', hle', hrow'⟩ : ∃ c' el', ¬ I' b ∧ RowAt w' b c' el' ∧ o + [e'].length * ob'.k ≤ c'.size ∧ RepRow w' I' σc [e'] ob'.k b o := by
    rcases s.rel.obj 0 ob' hob' with ⟨hx, _⟩ | ⟨b2, o2, c2, el2, g1, g2, g3, g4, g5⟩
    · rw [hes'] at hx; cases hx
    · rw [hσc] at g1
      simp only [Option.some.injEq, Prod.mk.injEq] at g1
      obtain ⟨rfl, rfl, _⟩ := g1
      rw [hes'] at g4 g5
      exact ⟨c2, el2, g2, g3, g4, g5.extRow (Ext.freeOf ob'.keep) rfl⟩
  have hk' : ob'.k = ob.k := by
    rcases s.rel.obj 0 ob' hob' with ⟨hx, _⟩ | ⟨b2, o2, c2, el2, g1, _⟩
    · rw [hes'] at hx; cases hx
    · rw [hσc] at g1
      simp only [Option.some.injEq, Prod.mk.injEq] at g1
      exact g1.2.2.symm
  have hcat' : e'.cells.length = ob'.k ∧ CAt w' I' σc e'.cells b o := by
    rw [RepRow_cons] at hrow'
    exact ⟨hrow'.1, hrow'.2.1⟩
  obtain ⟨ue', hue', hback'⟩ := elem_val hcat'.2
  have hcons : ∃ uu, Rep w' I' σc (consV e' v) uu ∧ ∀ (J : Nat → Prop) (σ' : Sig) (x : V) (T : List V), Rep w' J σ' (.tup (x :: T)) uu → Rep w' J σ' x ue' ∧ Rep w' J σ' (tailV v T) u := by
    by_cases hv : ∃ vs, v = .tup vs
    · obtain ⟨vs, rfl⟩ := hv
      simp only [Rep] at hrep
      obtain ⟨us', rfl, hl⟩ := hrep
      refine ⟨.tuple (ue' :: us'.toList).toArray, ?_, fun J σ' x T h => ?_⟩
      · simp only [consV, Rep, RepL]
        exact ⟨_, rfl, ue', us'.toList, by simp, hue', hl⟩
      · simp only [Rep, RepL] at h
        obtain ⟨us2, h1, u2, r2, h2, h3, h4⟩ := h
        simp only [Value.tuple.injEq] at h1
        subst h1
        simp only [List.cons.injEq] at h2
        obtain ⟨rfl, rfl⟩ := h2
        refine ⟨h3, ?_⟩
        simp only [tailV, Rep]
        exact ⟨us', rfl, h4⟩
    · have hv' : ∀ vs, v ≠ .tup vs := fun vs h => hv ⟨vs, h⟩
      have e1 : consV e' v = .tup [e', v] := by cases v <;> first | rfl | exact absurd rfl (hv' _)
      have e2 : ∀ T, tailV v T = T.headD .bad := by intro T; cases v <;> first | rfl | exact absurd rfl (hv' _)
      refine ⟨.tuple #[ue', u], ?_, fun J σ' x T h => ?_⟩
      · rw [e1]
        simp only [Rep, RepL]
        exact ⟨_, rfl, ue', [u], rfl, hue', u, [], rfl, hrep, rfl⟩
      · simp only [Rep, RepL] at h
        obtain ⟨us2, h1, u2, r2, h2, h3, h4⟩ := h
        simp only [Value.tuple.injEq] at h1
        subst h1
        simp only [List.cons.injEq] at h2
        obtain ⟨rfl, rfl⟩ := h2
        refine ⟨h3, ?_⟩
        rw [e2]
        cases T with
        | nil => simp [Rep]
        | cons y T =>
          simp only [RepL] at h4
          obtain ⟨u3, r3, h5, h6, _⟩ := h4
          simp only [List.cons.injEq] at h5
          obtain ⟨rfl, _⟩ := h5
          exact h6
  obtain ⟨uu, huu, hsplit⟩ := hcons
  have hRX : ownX X (upd hc 0 none) (killL (upd hc 0 none) (maskSrc (consV e' v) M)) (consV e' v) M = some (.tup (r' :: rs')) := hR
  obtain ⟨q1, q2, q3⟩ := ownR_sim (s.rel.kill 0) huu (hxx := killL (upd hc 0 none) (maskSrc (consV e' v) M)) (fun _ _ h => killL_sub h) hRX (n := S.n) (σ0 := sigR S.n σ σc (consV e' v) M) (J := fun b => I' b ∨ Owns σc (killL (upd hc 0 none) (maskSrc (consV e' v) M)) b) (fun b hb => .inl hb) (fun b hb => .inr hb) (fun b hb => hb) (fun q _ => sigR_new q)
  have hT : hdrV S.n M (.tup (r' :: rs')) = .tup (headV (hdrV S.n M (.tup (r' :: rs'))) :: restV (hdrV S.n M (.tup (r' :: rs')))) := rfl
  rw [hT] at q1
  obtain ⟨hhead, htail⟩ := hsplit _ _ _ _ q1
  have hagg : (∃ cs, e' = .agg cs) → ∃ cs, headV (hdrV S.n M (.tup (r' :: rs'))) = .agg cs := by
    rintro ⟨cs, rfl⟩
    have h1 : ∃ rest, consV (.agg cs) v = .tup (.agg cs :: rest) := by cases v <;> exact ⟨_, rfl⟩
    obtain ⟨rest, h1⟩ := h1
    unfold ownX at hRX
    split at hRX
    case isFalse => cases hRX
    rw [h1] at hRX
    simp only [mapV_tup, mapC, map1_agg, Option.some.injEq, V.tup.injEq, List.cons.injEq] at hRX
    rw [← hRX.1]
    exact ⟨_, rfl⟩
  obtain ⟨hcl, hca⟩ := hback' hhead hagg
  have hsub2 : ∀ b', Owns σc (killL (upd hc 0 none) (maskSrc (consV e' v) M)) b' → Owns σc (upd hc 0 none) b' := fun b' ⟨i, y, o1, k1, g1, g2⟩ => ⟨i, y, o1, k1, (killL_sub g1).1, g2⟩
  have hJb : ¬ (I' b ∨ Owns σc (killL (upd hc 0 none) (maskSrc (consV e' v) M)) b) := by
    rintro (hx | hx)
    · exact hbi' hx
    · exact s.rel.notOwn hob' hσc (hsub2 b hx)
  have hh1n : ∀ i, S.n ≤ i → h1 i = none := fun i hi => by
    cases hz : h1 i with
    | none => rfl
    | some y =>
      have := subK i y (sub1 i y hz)
      rw [(F i hi).1] at this; cases this
  have hget : ∀ i y, S.n ≤ i → hdrH X (X.keepT fid) (.tup (r' :: rs')) S.n M (upd h1 id (some ⟨ob'.k, [headV (hdrV S.n M (.tup (r' :: rs')))], true⟩)) i = some y → ∃ q p, i = S.n + q ∧ M[q]? = some p ∧ hdrO X (X.keepT fid) (.tup (r' :: rs')) p = some y := by
    intro i y hid ho
    rw [hdrH_get] at ho
    split at ho
    · rename_i hi
      cases hq : M[i - S.n]? with
      | none => rw [hq] at ho; cases ho
      | some p =>
        rw [hq] at ho
        exact ⟨i - S.n, p, by omega, hq, ho⟩
    · have : i ≠ id := by omega
      simp only [upd, this, if_false] at ho
      rw [hh1n i hid] at ho; cases ho
  have st : Step w I σ S.h S.n w' (fun b => I' b ∨ Owns σc (killL (upd hc 0 none) (maskSrc (consV e' v) M)) b) (sigR S.n σ σc (consV e' v) M) (hdrH X (X.keepT fid) (.tup (r' :: rs')) S.n M (upd h1 id (some ⟨ob'.k, [headV (hdrV S.n M (.tup (r' :: rs')))], true⟩))) (S.n + M.length) := by
    refine Step.call (x := id) R F subK s1 sub1 s (fun b' hb' => ?_) (fun b hb => .inl hb) (fun b' hb' => ?_) (fun i hid => ?_) (fun i hid hne => ?_) (fun y hlt' hy => ⟨?_, fun b2 o2 k2 h2 => ?_, ?_⟩) (by omega) (fun i hid => ⟨?_, ?_⟩) (fun i y hid ho => ?_) (fun i i' y y' b1 o1 k1 o2 k2 hid hid' ho ho' hs1 hs2 => ?_)
    · obtain ⟨i, y, o1, k1, g1, g2⟩ := hb'
      rcases hsget i y g1 with ⟨rfl, rfl⟩ | ⟨q, p, rfl, hq, hO⟩
      · rw [hsig0] at g2
        simp only [Option.some.injEq, Prod.mk.injEq] at g2
        obtain ⟨rfl, _, _⟩ := g2
        exact ⟨⟨id, ob, o, ob.k, hob, hsg⟩, hnK id ob b o ob.k hob hsg hKid⟩
      · obtain ⟨i2, y2, _, m1, m2, o3, k3, m4⟩ := hmsk q p y hq hO b' o1 k1 g2
        exact ⟨⟨i2, y2, o3, k3, m1, m4⟩, hnK i2 y2 b' o3 k3 m1 m4 m2⟩
    · rcases hb' with hx | hx
      · exact .inl hx
      · exact .inr (hsub2 b' hx).of_upd
    · simp [sigR, hid]
    · rw [hdrH_get, if_neg (by omega)]
      simp [upd, hne]
    · rw [hob]; simp
    · rw [hsg] at h2
      simp only [Option.some.injEq, Prod.mk.injEq] at h2
      obtain ⟨rfl, _, _⟩ := h2
      exact hnK id ob b o ob.k hob hsg hKid
    · rw [hdrH_get, if_neg (by omega)] at hy
      simp [upd] at hy; subst hy
      refine .inr ⟨b, o, c', el', ?_, hJb, hhb', by simpa using hle', ?_⟩
      · unfold sigR
        rw [if_pos hidn, hsg, hk']
      · simp only [osig, if_true]
        rw [RepRow_cons]
        exact ⟨by rw [hcl]; exact hcat'.1, hca, by simp [RepRow]⟩
    · unfold sigR
      rw [if_neg (by omega)]
      unfold tau
      rw [List.getElem?_eq_none (by omega)]
    · rw [hdrH_get, if_neg (by omega)]
      have hne : i ≠ id := by omega
      simp only [upd, hne, if_false]
      exact hh1n i (by omega)
    · obtain ⟨q, p, rfl, hq, hO⟩ := hget i y hid ho
      refine ⟨(q2 _ q p y hq hO).1, fun b2 o2 k2 hs' => ?_⟩
      obtain ⟨i2, _, y2, o3, k3, h3, h4⟩ := (q2 _ q p y hq hO).2 b2 o2 k2 hs'
      have hi0 : i2 ≠ 0 := fun ei => by subst ei; simp [upd] at h3
      have h3' : hc i2 = some y2 := by simpa [upd, hi0] using h3
      refine ⟨s.own b2 ⟨i2, y2, o3, k3, h3', h4⟩, fun _ o4 k4 h5 => ?_⟩
      rw [hsg] at h5
      simp only [Option.some.injEq, Prod.mk.injEq] at h5
      obtain ⟨rfl, _, _⟩ := h5
      exact hi0 (s.rel.apart i2 0 y2 ob' b o3 k3 o ob.k h3' hob' h4 hσc)
    · obtain ⟨q, p, rfl, hq, hO⟩ := hget i y hid ho
      obtain ⟨q', p', rfl, hq', hO'⟩ := hget i' y' hid' ho'
      have := q3 q q' b1 o1 k1 o2 k2 (List.getElem?_eq_some_iff.1 hq).1 (List.getElem?_eq_some_iff.1 hq').1 hs1 hs2 ⟨_, y, by rw [hq]; exact hO⟩ ⟨_, y', by rw [hq']; exact hO'⟩
      omega
  refine ⟨u, _, _, _, rfl, ?_, set_f _ _ _ _ rfl, htail⟩
  rw [set_h, set_n]
  exact st
theorem sim_call {X : Env} {C : CallT} (hC : CallOk X C) (hK : CloneOk X) {fid : FuncId} {dst : Option Nat} {g : FuncId} {args : List V} {S S1 : St} (he : evCall X C fid dst g args S = some S1)
    {w : World} {I : Nat → Prop} {σ : Sig} (R : Rel w I σ S.h) (F : Fresh σ S.h S.n) (us : Array Value) (hr : RepL w I σ args us.toList) :
    Calls X.P g us w fun e w' => ∃ u v I' σ', e = .returned u ∧ Step w I σ S.h S.n w' I' σ' S1.h S1.n ∧ S1.f = (S.set dst v).f ∧ Rep w' I' σ' v u := by
  unfold evCall at he
  split at he
  · rename_i t hcl
    split at he
    case h_2 => cases he
    rename_i s
    split at he
    case h_2 => cases he
    rename_i es kx hel
    split at he
    · cases he
    rename_i hcond
    simp only [Bool.or_eq_true, Bool.and_eq_true, Bool.not_eq_true', not_or, not_and, Bool.not_eq_false, decide_eq_true_eq, Bool.not_eq_true] at hcond
    obtain ⟨⟨⟨hns, hk⟩, hl⟩, hb⟩ := hcond
    simp only [Option.some.injEq] at he
    subst he
    simp only [RepL] at hr
    obtain ⟨u, r, hus, hu, rfl⟩ := hr
    have : us = #[u] := by rw [← Array.toList_inj]; exact hus
    subst this
    refine Calls.mono (hK.2 g t hcl w I σ S.h S.n s u es kx _ R (F S.n (Nat.le_refl _)).1 (F S.n (Nat.le_refl _)).2 hu hel hns hk (all_len hl) hb.1 hb.2) fun e w' hh => ?_
    obtain ⟨r, σ', rfl, hs, hrep⟩ := hh
    exact ⟨r, _, I, σ', rfl, by rw [set_h, set_n]; exact hs, set_f _ _ _ _ rfl, hrep⟩
  · split at he
    · rename_i hby
      have hlow : X.low g = false := by
        simp only [Bool.and_eq_true, Bool.not_eq_true'] at hby; exact hby.2
      split at he
      case h_2 => cases he
      rename_i v h n hc
      simp only [Option.some.injEq] at he
      subst he
      refine Calls.mono (hC g args S.h S.n v h n hc w I σ us R F hr) fun e w' hh => ?_
      obtain ⟨u, I', σ', rfl, hle, hs0, hfr, hrep⟩ := hh
      rw [lim_high hlow] at hle hs0
      have hs := hs0.step F hfr hle
      exact ⟨u, v, I', σ', rfl, by rw [set_h, set_n]; exact hs, set_f _ _ _ _ rfl, hrep⟩
    split at he
    · rename_i hio; exact sim_io hC hio he R F us hr
    split at he
    · exact sim_mask hC he R F us hr
    · split at he
      case h_2 => cases he
      rename_i as has
      split at he
      · rename_i hth
        have hlow : X.low g = false := by
          simp only [Bool.and_eq_true, Bool.not_eq_true'] at hth; exact hth.2
        split at he
        case h_2 => cases he
        rename_i v h n hc
        split at he
        · cases he
        rename_i hcond
        simp only [Option.some.injEq] at he
        subst he
        by_cases hown : args.any V.own1 = true
        · have hpu : v.pu = true := by
            simpa [hown] using hcond
          have hra : RepL w (fun b => I b ∨ Owns σ S.h b) nosig as us.toList := args_imm has hr fun v v' u _ ht hr' => imm_rep R (fun b hb => .inl hb) (fun b hb => .inr hb) depth v v' u ht hr'
          have R0 : Rel w (fun b => I b ∨ Owns σ S.h b) nosig noheap := Rel.noheap (fun b hb => by
            rcases hb with hb | hb
            · exact R.imm b hb
            · exact R.ownedLt hb) (R.glob.sub fun _ hb => .inl hb)
          refine Calls.mono (hC g (dullL as) noheap S.n v h n hc w _ nosig us R0 (fun _ _ => ⟨rfl, rfl⟩) (RepL.dull' _ _ hra)) fun e w' hh => ?_
          obtain ⟨u, I', σ', rfl, hle, hs0, hfr, hrep⟩ := hh
          rw [lim_high hlow] at hle hs0
          have hs := hs0.step (fun _ _ => ⟨rfl, rfl⟩) hfr hle
          obtain ⟨s1, s2⟩ := Step.thawOwn R F hs
          refine ⟨u, v, _, _, rfl, ?_, set_f _ _ _ _ rfl, (pu_rep hpu hrep).ext s2⟩
          rw [set_h, set_n]
          simp only [hown, if_true]
          exact s1
        · have hra : RepL w I nosig as us.toList := args_imm has hr fun v v' u hv ht hr' => noown1 (by
            simp only [List.any_eq_true, not_exists, not_and, Bool.not_eq_true] at hown
            exact hown v hv) ht hr'
          refine Calls.mono (hC g (dullL as) noheap S.n v h n hc w I nosig us (Rel.noheap R.imm R.glob) (fun _ _ => ⟨rfl, rfl⟩) (RepL.dull' _ _ hra)) fun e w' hh => ?_
          obtain ⟨u, I', σ', rfl, hle, hs0, hfr, hrep⟩ := hh
          rw [lim_high hlow] at hle hs0
          have hs := hs0.step (fun _ _ => ⟨rfl, rfl⟩) hfr hle
          obtain ⟨s1, s2⟩ := Step.thaw R F hs
          refine ⟨u, v, I', _, rfl, ?_, set_f _ _ _ _ rfl, hrep.ext s2⟩
          rw [set_h, set_n]
          simp only [hown, if_false, Bool.false_eq_true]
          exact s1
      · split at he
        case h_2 => cases he
        rename_i v h n hc
        split at he
        case h_2 => cases he
        rename_i v' hv'
        split at he
        · cases he
        rename_i hcond
        simp only [Option.some.injEq] at he
        subst he
        by_cases hown : args.any V.own1 = true
        · have hsc : v'.scalar = true := by
            simpa [hown] using hcond
          have hra : RepL w (fun b => I b ∨ Owns σ S.h b) nosig as us.toList := args_imm has hr fun v v' u _ ht hr' => imm_rep R (fun b hb => .inl hb) (fun b hb => .inr hb) depth v v' u ht hr'
          have R0 : Rel w (fun b => I b ∨ Owns σ S.h b) nosig noheap := Rel.noheap (fun b hb => by
            rcases hb with hb | hb
            · exact R.imm b hb
            · exact R.ownedLt hb) (R.glob.sub fun _ hb => .inl hb)
          refine Calls.mono (Calls.prim hC hK.1 hc R0 (RepL.dull' _ _ hra)) fun e w' hh => ?_
          obtain ⟨u, I', σ', rfl, hs, hrep⟩ := hh
          have hrv := imm_rep (J := fun b => I' b ∨ Owns σ' h b) hs.rel (fun b hb => .inl hb) (fun b hb => .inr hb) depth v v' u hv' hrep
          refine ⟨u, v'.dull, I, σ, rfl, ?_, rfl, (scalar_rep hsc hrv).dull⟩
          rw [set_h, set_n]
          exact Step.inner R hs (fun b hb => .inl hb) (fun b hb => hb) (fun b hb => .inl hb) S.n
        · have hra : RepL w I nosig as us.toList := args_imm has hr fun v v' u hv ht hr' => noown1 (by
            simp only [List.any_eq_true, not_exists, not_and, Bool.not_eq_true] at hown
            exact hown v hv) ht hr'
          refine Calls.mono (Calls.prim hC hK.1 hc (Rel.noheap R.imm R.glob) (RepL.dull' _ _ hra)) fun e w' hh => ?_
          obtain ⟨u, I', σ', rfl, hs, hrep⟩ := hh
          have hrv := imm_rep (J := fun b => I' b ∨ Owns σ' h b) hs.rel (fun b hb => .inl hb) (fun b hb => .inr hb) depth v v' u hv' hrep
          refine ⟨u, v'.dull, _, σ, rfl, ?_, rfl, (hrv.ext Ext.free).dull⟩
          rw [set_h, set_n]
          refine Step.inner R hs (fun b hb => hb) (fun b hb => .inl (hs.ext.imp b hb)) (fun b hb => ?_) S.n
          rcases hb with hb | hb
          · rcases hs.inew b hb with hx | hx | hx
            · exact .inl hx
            · exact .inr ⟨hx, hs.rel.imm b hb⟩
            · exact absurd hx noOwns
          · rcases hs.own b hb with hx | hx
            · exact .inr ⟨hx, hs.rel.ownedLt hb⟩
            · exact absurd hx noOwns
end Go.Abs
namespace Go.Abs
open Go
theorem evCore_n {X : Env} {fid : FuncId} {o : Oper} {ρ : Operand → V} {h0 h1 : Heap} {n0 n1 : Nat} {v : V} (h : evCore X fid o ρ h0 n0 = some (v, h1, n1)) : n1 = n0 ∨ n1 = n0 + 1 := by
  unfold evCore at h
  dsimp (zeta := true) only at h
  repeat' split at h
  all_goals first
    | (cases h; done)
    | (simp only [Option.some.injEq, Prod.mk.injEq] at h; exact .inl h.2.2.symm)
    | (simp only [Option.some.injEq, Prod.mk.injEq] at h; exact .inr h.2.2.symm)
    | (obtain ⟨_, _, _, _, _, _, _, hn⟩ := convB_some h; exact .inr hn)
section
variable {w w1 w2 w' : World} {I I1 I2 I' : Nat → Prop} {σ σ1 σ2 σ' : Sig} {h h1 h2 h' : Heap} {n n1 n2 n' p m m' : Nat}
theorem Step.join (s : Step w I σ h n w1 I1 σ1 h1 n1) (s' : Step w1 I1 σ1 h1 p w2 I2 σ2 h2 n2) (hp : n ≤ p) (hn : n1 ≤ n2) : Step w I σ h n w2 I2 σ2 h2 n2 where
  ext := s.ext.trans s'.ext
  rel := s'.rel
  os := s'.os.trans s.os
  tape := s'.tape.trans s.tape
  output := s'.output.trans s.output
  size := Nat.le_trans s.size s'.size
  frame := fun b hb ho => (s'.frame b (Nat.lt_of_lt_of_le hb s.size) (fun hx => by
    rcases s.own b hx with hx | hx
    · omega
    · exact ho hx)).trans (s.frame b hb ho)
  own := fun b hb => by
    rcases s'.own b hb with hx | hx
    · exact .inl (Nat.le_trans s.size hx)
    · exact s.own b hx
  inew := fun b hb => by
    rcases s'.inew b hb with hx | hx | hx
    · exact s.inew b hx
    · exact .inr (.inl (Nat.le_trans s.size hx))
    · exact .inr (s.own b hx)
  le := Nat.le_trans s.le hn
  sigs := fun id hid => by
    have l1 := s.le; have l2 := s'.le
    rw [s'.sigs id (by omega), s.sigs id (by omega)]
  news := fun id hid hz => by
    have l1 := s.le; have l2 := s'.le
    exact s'.news id (by omega) (s.news id (by omega) hz)
theorem Step.widen (s : Step w I σ h n w' I' σ' h' n') (hm : m ≤ n) (hm' : n' ≤ m') : Step w I σ h m w' I' σ' h' m' :=
  { s with
    le := by have := s.le; omega
    sigs := fun id hid => s.sigs id (by omega)
    news := fun id hid hz => s.news id (by omega) hz }
theorem RepL.append {cs ds : List V} {us vs : List Value} (hc : RepL w I σ cs us) (hd : RepL w I σ ds vs) : RepL w I σ (cs ++ ds) (us ++ vs) := by
  induction cs generalizing us with
  | nil => simp only [RepL] at hc; subst hc; simpa using hd
  | cons c cs ih =>
    simp only [RepL] at hc
    obtain ⟨u, r, rfl, h1, h2⟩ := hc
    simp only [List.cons_append, RepL]
    exact ⟨u, r ++ vs, rfl, h1, ih h2⟩
end
def GoodF (X : Env) (g : FuncId) : Prop := ∃ fn b, X.P.funcs[g]? = some fn ∧ fn.body = some b ∧ (fn.name == "runtime.NumGoroutine") = false
theorem enter_run {X : Env} {g : FuncId} (hg : GoodF X g) (args : Array Value) (w : World) : (callFunc g args).run X.P w = .ok (.enter g args) w := by
  obtain ⟨fn, b, hf, hb, hn⟩ := hg
  simp only [beq_eq_false_iff_ne, ne_eq] at hn
  simp [callFunc, hf, hb, hn]
theorem ev_setn (S : St) (m : Nat) : ({ S with n := m } : St).ev = S.ev := by
  funext x; cases x <;> rfl
section
variable {X : Env} {C : CallT} {fid : FuncId} {n0 j nt : Nat} {o : Oper} {S S1 : St} {w : World} {I : Nat → Prop} {σ : Sig} {a : Act}
def Left (o : Oper) (a : Act) (w : World) (I : Nat → Prop) (σ : Sig) (S S1 : St) (n0 j : Nat) (a' : Act) (w' : World) : Prop :=
  ∃ u v I' σ', a' = a.put o.dst u ∧ Rep w' I' σ' v u ∧ S1.f = (S.set o.dst v).f ∧ Step w I σ S.h n0 w' I' σ' S1.h S1.n ∧ S.n ≤ S1.n ∧ Fresh σ' S1.h S1.n ∧
    (∀ q, q ≠ j → n0 + q < S.n → S.h (n0 + q) = none → σ (n0 + q) = none → S1.h (n0 + q) = none ∧ σ' (n0 + q) = none)
theorem sim_step (hC : CallOk X C) (hK : CloneOk X) (hG : ∀ fid dst g args S S1, evCall X C fid dst g args S = some S1 → GoodF X g) (hB : opB X nt o = true) (he : stepOp X C fid n0 j o S = some S1)
    (R : Rel w I σ S.h) (F : FRel w I σ S.f a) (fr : Fresh σ S.h S.n) (hn : S.h (n0 + j) = none) (hsn : σ (n0 + j) = none) (hlt : n0 + j < S.n) (Q : Exit → Act → World → Prop) :
    o.wp X.P a w (Left o a w I σ S S1 n0 j) Q := by
  have op : (∀ x args tys, o.op ≠ .call ⟨.value x, args, tys⟩) → o.wp X.P a w (Left o a w I σ S S1 n0 j) Q := by
    intro hne
    unfold stepOp at he
    split at he
    · rename_i x args tys ho; exact absurd ho (hne x args tys)
    · split at he
      case h_2 => cases he
      rename_i v0 h0 n1 hc
      simp only [Option.some.injEq] at he
      subst he
      have hnn := evCore_n hc
      have hev : evOp X fid o { S with n := n0 + j } = some (({ S with h := h0, n := n1 } : St).set o.dst v0) := by
        unfold evOp
        rw [ev_setn, hc]
      obtain ⟨nx, w', I', σ', u, v, hrun, hnx, hst, hf, hrep⟩ := sim_op (S := { S with n := n0 + j }) hB R F hn hsn fid hev
      rw [set_h, set_n] at hst
      have hfin : Left o a w I σ S (({ S with h := h0 } : St).set o.dst v0) n0 j (a.put o.dst u) w' := by
        refine ⟨u, v, I', σ', rfl, hrep, ?_, ?_, by rw [set_n]; exact Nat.le_refl _, ?_, fun q hq hql h1 h2 => ⟨?_, ?_⟩⟩
        · have e1 : (({ S with h := h0, n := n1 } : St).set o.dst v0).f = (({ S with h := h0 } : St).set o.dst v0).f := by cases o.dst <;> rfl
          have e2 : (({ S with n := n0 + j } : St).set o.dst v).f = (S.set o.dst v).f := by cases o.dst <;> rfl
          rw [← e1, ← e2]; exact hf
        · rw [set_h, set_n]
          exact hst.widen (by simp) (by simp only; omega)
        · intro id hid
          rw [set_n] at hid
          have := fr id hid
          rw [set_h]
          refine ⟨hst.news id (by simp only at hid ⊢; omega) this.1, ?_⟩
          rw [hst.sigs id (by simp only at hid ⊢; omega)]; exact this.2
        · rw [set_h]
          exact hst.news (n0 + q) (by simp only; omega) h1
        · rw [hst.sigs (n0 + q) (by simp only; omega)]; exact h2
      unfold Oper.wp
      rw [hrun]
      rcases hnx with rfl | ⟨rfl, rfl⟩
      · exact hfin
      · exact hfin
  by_cases hc : ∃ x args tys, o.op = .call ⟨.value x, args, tys⟩
  · obtain ⟨x, args, tys, ho⟩ := hc
    unfold stepOp at he
    simp only [ho] at he
    have hops : Opds o := by
      unfold opB at hB
      rw [Bool.and_eq_true, Bool.and_eq_true] at hB
      exact fun x hm => List.all_eq_true.1 hB.1.2 x hm
    split at he
    case h_2 => cases he
    rename_i g first caps hx
    have hgood := hG _ _ _ _ _ _ he
    have hxr : Rep w I σ (S.ev x) (a.eval x) := ev_rep (S := S) F (hops x (by simp [ho, Op.operands, Call.operands]))
    rw [hx] at hxr
    simp only [Rep] at hxr
    obtain ⟨us, vs, hxe, h1, h2⟩ := hxr
    have hargs : RepL w I σ (args.toList.map S.ev) (args.map a.eval).toList := by
      rw [RepL_iff]
      refine ⟨by simp, fun i c u hc hu => ?_⟩
      rw [List.getElem?_map] at hc
      rw [Array.getElem?_toList, Array.getElem?_map] at hu
      cases hi : args[i]? with
      | none => simp [hi] at hu
      | some y =>
        rw [Array.getElem?_toList, hi] at hc
        rw [hi] at hu
        simp at hc hu; subst hc; subst hu
        exact ev_rep (S := S) F (hops y (by
          have := Array.mem_of_getElem? hi
          simp [ho, Op.operands, Call.operands, this]))
    have hall : RepL w I σ (first ++ args.toList.map S.ev ++ caps) (us ++ args.map a.eval ++ vs).toList := by
      simp only [Array.toList_append]
      exact (h1.append hargs).append h2
    have hrun : (execOp a.eval o).run X.P w = .ok (.enter g (us ++ args.map a.eval ++ vs)) w := by
      simp only [execOp, ho, resolve, hxe, Deferred.ofValue]
      simp [invoke, enter_run hgood]
    unfold Oper.wp
    rw [hrun]
    simp only [Oper.upon]
    refine Calls.mono (sim_call hC hK he R fr _ hall) fun e w' hh => ?_
    obtain ⟨u, v, I', σ', rfl, hst, hf, hrep⟩ := hh
    refine ⟨u, v, I', σ', rfl, hrep, hf, hst.widen (by omega) (Nat.le_refl _), hst.le, hst.fresh fr, fun q hq hql h1 h2 => ⟨hst.news _ (.inl hql) h1, ?_⟩⟩
    rw [hst.sigs _ (.inl hql)]; exact h2
  · exact op fun x args tys ho => hc ⟨x, args, tys, ho⟩
end
end Go.Abs
