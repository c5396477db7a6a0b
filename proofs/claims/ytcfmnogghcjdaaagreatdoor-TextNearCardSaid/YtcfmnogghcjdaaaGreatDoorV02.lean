/- Part of a proof: A12, A13, A14, A15, A16, A17. -/
import Derived.Test.YtcfmnogghcjdaaaGreatDoorV01
import Derived.Deep.AppendSrc
import Derived.Laws.BytesString
import Derived.Lib.ConvBytes
set_option linter.all false
set_option maxRecDepth 100000
set_option maxHeartbeats 20000000
namespace Go.Abs
open Go
def flat (es : List V) : List V := es.flatMap V.cells
theorem flat_cons (e : V) (es : List V) : flat (e :: es) = e.cells ++ flat es := rfl
theorem flat_append (es xs : List V) : flat (es ++ xs) = flat es ++ flat xs := by simp [flat]
theorem flat_length {es : List V} {k : Nat} (h : ∀ e ∈ es, e.cells.length = k) : (flat es).length = es.length * k := by
  induction es with
  | nil => simp [flat]
  | cons e es ih =>
    rw [flat_cons, List.length_append, ih (fun x hx => h x (by simp [hx])), h e (by simp), List.length_cons, Nat.add_mul]
    omega
section
variable {w w' : World} {I I' : Nat → Prop} {σ σ' : Sig}
theorem RepC.append {cs ds : List V} {us vs : List Value} (h1 : RepC w I σ cs us) (h2 : RepC w I σ ds vs) : RepC w I σ (cs ++ ds) (us ++ vs) := by
  induction cs generalizing us with
  | nil => simp only [RepC] at h1; subst h1; simpa using h2
  | cons c cs ih =>
    simp only [RepC] at h1
    obtain ⟨u, r, rfl, h3, h4, h5⟩ := h1
    simp only [List.cons_append, RepC]
    exact ⟨u, r ++ vs, rfl, h3, h4, ih h5⟩
theorem RepC.split {cs ds : List V} {us : List Value} (h : RepC w I σ (cs ++ ds) us) : ∃ us1 us2, us = us1 ++ us2 ∧ RepC w I σ cs us1 ∧ RepC w I σ ds us2 := by
  induction cs generalizing us with
  | nil => exact ⟨[], us, rfl, by simp [RepC], by simpa using h⟩
  | cons c cs ih =>
    simp only [List.cons_append, RepC] at h
    obtain ⟨u, r, rfl, h3, h4, h5⟩ := h
    obtain ⟨us1, us2, rfl, h6, h7⟩ := ih h5
    exact ⟨u :: us1, us2, rfl, by simp only [RepC]; exact ⟨u, us1, rfl, h3, h4, h6⟩, h7⟩
theorem flat_row (E : Ext w I σ w' I' σ') {k b : Nat} : ∀ {es : List V} {us : List Value} {o : Nat}, (∀ e ∈ es, e.cells.length = k) → RepC w I σ (flat es) us → (∀ j u, us[j]? = some u → w'.cell? ⟨b, o + j, none⟩ = some u) → RepRow w' I' σ' es k b o
  | [], _, _, _, _, _ => by simp [RepRow]
  | e :: es, us, o, hk, hr, hc => by
    rw [flat_cons] at hr
    obtain ⟨us1, us2, rfl, h1, h2⟩ := hr.split
    have hl : us1.length = k := by rw [← ((RepC_iff _ _).1 h1).1]; exact hk e (by simp)
    rw [RepRow_cons]
    refine ⟨hk e (by simp), fun j c hj => ?_, flat_row E (fun x hx => hk x (by simp [hx])) h2 (fun j u hu => ?_)⟩
    · obtain ⟨u, hu, h3, h4⟩ := h1.get hj
      have hjl : j < us1.length := (List.getElem?_eq_some_iff.1 hu).1
      exact ⟨u, hc j u (by rw [List.getElem?_append_left hjl]; exact hu), h3, h4.ext E⟩
    · have := hc (k + j) u (by rw [List.getElem?_append_right (by omega), hl]; simpa using hu)
      rwa [show o + (k + j) = o + k + j by omega] at this
theorem row_flat {k b : Nat} : ∀ {es : List V} {o : Nat}, RepRow w I σ es k b o → ∃ us : List Value, us.length = es.length * k ∧ (∀ j u, us[j]? = some u → w.cell? ⟨b, o + j, none⟩ = some u) ∧ RepC w I σ (flat es) us
  | [], o, _ => ⟨[], by simp, by simp, by simp [flat, RepC]⟩
  | e :: es, o, h => by
    rw [RepRow_cons] at h
    obtain ⟨h1, h2, h3⟩ := h
    obtain ⟨us1, hl1, hu1, hr1⟩ := h2.vals
    obtain ⟨us2, hl2, hu2, hr2⟩ := row_flat h3
    refine ⟨us1 ++ us2, by rw [List.length_append, hl1, hl2, h1, List.length_cons, Nat.add_mul]; omega, fun j u hu => ?_, by rw [flat_cons]; exact hr1.append hr2⟩
    by_cases hj : j < us1.length
    · rw [List.getElem?_append_left hj] at hu; exact hu1 j u hu
    · rw [List.getElem?_append_right (by omega)] at hu
      have := hu2 _ u hu
      rwa [show o + k + (j - us1.length) = o + j by omega] at this
theorem RepRow.lens {es : List V} {k b o : Nat} (h : RepRow w I σ es k b o) : ∀ e ∈ es, e.cells.length = k := by
  intro e he
  obtain ⟨i, hi, rfl⟩ := List.mem_iff_getElem.1 he
  exact (h.get (i := i) (by simp)).1
theorem flat_replicate (n : Nat) (v : V) : flat (List.replicate n v) = (List.replicate n v.cells).flatten := by
  induction n with
  | zero => rfl
  | succ n ih => rw [List.replicate_succ, flat_cons, ih, List.replicate_succ, List.flatten_cons]
theorem rep_replicate {cs : List V} {us : List Value} (h : RepC w I σ cs us) (n : Nat) : RepC w I σ (List.replicate n cs).flatten (List.replicate n us).flatten := by
  induction n with
  | zero => simp [RepC]
  | succ n ih => rw [List.replicate_succ, List.replicate_succ, List.flatten_cons, List.flatten_cons]; exact h.append ih
theorem flatten_replicate_get {α : Type} (l : List α) (hp : 0 < l.length) : ∀ (n j : Nat), (List.replicate n l).flatten[j]? = if j < n * l.length then l[j % l.length]? else none
  | 0, j => by simp
  | n + 1, j => by
    rw [List.replicate_succ, List.flatten_cons]
    by_cases hj : j < l.length
    · rw [List.getElem?_append_left hj, if_pos (by rw [Nat.add_mul]; omega), Nat.mod_eq_of_lt hj]
    · rw [List.getElem?_append_right (by omega), flatten_replicate_get l hp n (j - l.length)]
      by_cases h2 : j - l.length < n * l.length
      · rw [if_pos h2, if_pos (by rw [Nat.add_mul]; omega), ← Nat.mod_eq_sub_mod (a := j) (b := l.length) (by omega)]
      · rw [if_neg h2, if_neg (by rw [Nat.add_mul]; omega)]
theorem made_list (z : Array Value) (k n : Nat) (hk : z.size = k) (hp : 0 < k) : ((Array.range (n * k)).map (z[· % z.size]!)).toList = (List.replicate n z.toList).flatten := by
  subst hk
  apply List.ext_getElem?
  intro j
  rw [flatten_replicate_get z.toList (by simpa using hp)]
  simp only [Array.length_toList, Array.getElem?_toList, Array.getElem?_map]
  by_cases hj : j < n * z.size
  · rw [if_pos hj]
    have hm : j % z.size < z.size := Nat.mod_lt _ hp
    simp [Array.getElem?_range, hj, hm]
  · rw [if_neg hj]
    simp [Array.getElem?_range, hj]
theorem splice_rep {n : Nat} {vs xs : List V} {ys us : List Value} (h1 : RepC w I σ xs us) (h2 : RepC w I σ vs ys) (hle : n + vs.length ≤ xs.length) :
    RepC w I σ (splice n vs xs) (us.take n ++ ys ++ us.drop (n + ys.length)) := by
  have l1 := ((RepC_iff _ _).1 h1).1
  have l2 := ((RepC_iff _ _).1 h2).1
  rw [RepC_iff]
  refine ⟨by rw [splice_length]; simp; omega, fun j c u hc hu => ?_⟩
  rw [splice_get _ _ _ _ hle] at hc
  split at hc
  · rename_i hj
    rw [List.getElem?_append_left (by simp; omega), List.getElem?_append_right (by simp; omega)] at hu
    simp only [List.length_take] at hu
    rw [show j - min n us.length = j - n by omega] at hu
    exact ((RepC_iff _ _).1 h2).2 _ c u hc hu
  · rename_i hj
    by_cases hjn : j < n
    · rw [List.append_assoc, List.getElem?_append_left (by simp; omega), List.getElem?_take, if_pos hjn] at hu
      exact ((RepC_iff _ _).1 h1).2 _ c u hc hu
    · rw [List.getElem?_append_right (by simp; omega), List.getElem?_drop] at hu
      simp only [List.length_append, List.length_take] at hu
      rw [show n + ys.length + (j - (min n us.length + ys.length)) = j by omega] at hu
      exact ((RepC_iff _ _).1 h1).2 _ c u hc hu
theorem foldl_over : ∀ (vs : List Value) (off j0 : Nat) (cs : Array Value), off + j0 + vs.length ≤ cs.size →
    ((vs.zipIdx j0).foldl (fun cs (p : Value × Nat) => cs.setIfInBounds (off + p.2) p.1) cs).toList = cs.toList.take (off + j0) ++ vs ++ cs.toList.drop (off + j0 + vs.length)
  | [], off, j0, cs, h => by simp
  | v :: vs, off, j0, cs, h => by
    simp only [List.zipIdx_cons, List.foldl_cons]
    rw [foldl_over vs off (j0 + 1) (cs.setIfInBounds (off + j0) v) (by simp at h ⊢; omega)]
    have e := list_seg_step cs.toList (off + j0) v vs (by simp at h ⊢; omega)
    simpa [Array.toList_setIfInBounds, Nat.add_assoc] using e
theorem foldl_over' (u : Value) (off : Nat) (cs : Array Value) (h : off + u.cells.size ≤ cs.size) :
    u.cells.zipIdx.foldl (fun cs (p : Value × Nat) => cs.setIfInBounds (off + p.2) p.1) cs = over cs off u.cells.toList := by
  apply Array.ext'
  rw [← Array.foldl_toList]
  have : u.cells.zipIdx.toList = u.cells.toList.zipIdx := by simp
  rw [this]
  have := foldl_over u.cells.toList off 0 cs (by simpa using h)
  simpa [over] using this
theorem over_toList (c : Array Value) (p : Nat) (us : List Value) : (over c p us).toList = c.toList.take p ++ us ++ c.toList.drop (p + us.length) := rfl
theorem fillS_sim {offs : List (Nat × Nat)} {place : Nat → Option (Nat × Nat)} (hp : ∀ (i : Nat) x, offs[i]? = some x → place i = some x) (hpos : ∀ x ∈ offs, 0 < x.2) :
    ∀ {ps : List (Nat × V)} {cs cs' : List V} {us : Array Value} {ups : List (Nat × Value)}, RepC w I σ cs us.toList → RepL w I σ (ps.map (·.2)) (ups.map (·.2)) → ps.map (·.1) = ups.map (·.1) → fillS offs cs ps = some cs' →
      ∃ us' : Array Value, Instr.fill place us ups = some us' ∧ RepC w I σ cs' us'.toList
  | [], cs, cs', us, ups, hc, hr, hi, hf => by
    simp only [fillS, Option.some.injEq] at hf; subst hf
    cases ups with
    | nil => exact ⟨us, rfl, hc⟩
    | cons _ _ => simp at hi
  | (i, v) :: ps, cs, cs', us, ups, hc, hr, hi, hf => by
    cases ups with
    | nil => simp at hi
    | cons p ups =>
      obtain ⟨i', u⟩ := p
      simp only [List.map_cons, List.cons.injEq] at hi
      obtain ⟨rfl, hi⟩ := hi
      simp only [List.map_cons, RepL] at hr
      obtain ⟨u0, r, he, hv, hr⟩ := hr
      simp only [List.cons.injEq] at he
      obtain ⟨rfl, rfl⟩ := he
      simp only [fillS] at hf
      cases ho : offs[i]? with
      | none => simp [ho] at hf
      | some x =>
        obtain ⟨o, k⟩ := x
        simp only [ho] at hf
        split at hf
        · rename_i hcond
          simp only [Bool.and_eq_true, decide_eq_true_eq] at hcond
          have hcl := hv.cells hcond.1
          have hlen := ((RepC_iff _ _).1 hc).1
          have hul := ((RepC_iff _ _).1 hcl.2).1
          have husz : u.cells.size = k := by rw [hcl.1] at hul; simpa using hul.symm
          have hsz : us.size = cs.length := by simpa using hlen.symm
          have hnew := splice_rep (n := o) hc hcl.2 (by omega)
          rw [show us.toList.take o ++ u.cells.toList ++ us.toList.drop (o + u.cells.toList.length) = (over us o u.cells.toList).toList from rfl] at hnew
          obtain ⟨us', h1, h2⟩ := fillS_sim hp hpos hnew hr hi hf
          refine ⟨us', ?_, h2⟩
          simp only [Instr.fill, hp i _ ho]
          rw [if_neg]
          · rw [foldl_over' u o us (by omega)]; exact h1
          · simp only [Bool.or_eq_true, decide_eq_true_eq, not_or]
            exact ⟨by simpa using husz, by omega⟩
        · cases hf
end
section
variable {X : Env} {o : Oper} {a : Act} {w : World} {I : Nat → Prop} {σ : Sig} {S S1 : St}
theorem parts_rep {S : St} {a : Act} {o : Oper} (F : FRel w I σ S.f a) (hx : Opds o) (ps : List (Nat × Operand)) (hq : ∀ y ∈ ps, y.2 ∈ o.op.operands.toList) :
    RepL w I σ ((ps.map fun p => (p.1, S.ev p.2)).map (·.2)) ((ps.map fun p => (p.1, a.eval p.2)).map (·.2)) ∧ (ps.map fun p => (p.1, S.ev p.2)).map (·.1) = (ps.map fun p => (p.1, a.eval p.2)).map (·.1) := by
  refine ⟨?_, by simp⟩
  induction ps with
  | nil => simp [RepL]
  | cons p ps ih =>
    simp only [List.map_cons, RepL]
    exact ⟨_, _, rfl, ev_rep (S := S) F (hx p.2 (hq p (by simp))), ih (fun y hy => hq y (by simp [hy]))⟩
theorem zero_cells {P : Program} {t : TypeId} {x : TI} (T : TIOk P t x) {z : Value} (hz : zeroB x.zero z = true) : RepC w I σ x.zero.cells z.cells.toList := ((zero_rep T hz).cells T.zfit).2
theorem run_cellsOf {P : Program} {t : TypeId} (h : 0 < P.cellsOf t) (w : World) : (sizeOf t).run P w = .ok (P.cellsOf t) w := by
  unfold Program.cellsOf at h ⊢
  cases hi : P.info? t with
  | none => simp [hi] at h
  | some i => simp [sizeOf, typeInfo, hi]
theorem run_fplaces {P : Program} (w : World) : ∀ (fs : List Field), (∀ f ∈ fs, 0 < P.cellsOf f.type) →
    (fs.mapM fun f => Functor.map (Prod.mk f.offset) (sizeOf f.type)).run P w = .ok (fs.map fun f => (f.offset, P.cellsOf f.type)) w
  | [], _ => by simp
  | f :: fs, h => by
    simp [List.mapM_cons, run_cellsOf (h f (by simp)), run_fplaces w fs (fun x hx => h x (by simp [hx]))]
theorem sim_build {t : TypeId} {ps : Array (Nat × Operand)} {cs : List V} (ho : o.op = .build t ps) (T : TIOk X.P t (X.ti t)) (hTe : (X.ti t).arr = none ∨ TIOk X.P (X.ti t).elem (X.ti (X.ti t).elem)) (R : Rel w I σ S.h) (F : FRel w I σ S.f a) (hx : Opds o)
    (hf : ((X.ti t).arr = none ∧ fillS (X.ti t).flds (X.ti t).zero.cells (ps.toList.map fun p => (p.1, S.ev p.2)) = some cs ∧ (X.ti t).flds ≠ []) ∨
      ∃ m, (X.ti t).arr = some m ∧ fillS ((List.range m).map fun i => (i * (X.ti (X.ti t).elem).size, (X.ti (X.ti t).elem).size)) (X.ti t).zero.cells (ps.toList.map fun p => (p.1, S.ev p.2)) = some cs)
    (hs : S1 = S.set o.dst (.agg cs)) : Out X o a w I σ S S1 := by
  obtain ⟨z, hz, hb⟩ := run_zero T w
  have hzc := zero_cells (w := w) (I := I) (σ := σ) T hb
  have hpr := parts_rep F hx ps.toList (by intro y hy; simp only [ho, Op.operands]; exact List.mem_map_of_mem hy)
  obtain ⟨d, hd, hdb⟩ := T.und
  have hparts : (ps.map fun (p : Nat × Operand) => (p.1, a.eval p.2)).toList = ps.toList.map fun p => (p.1, a.eval p.2) := by simp
  rcases hf with ⟨hn, hf, hne⟩ | ⟨m, hm, hf⟩
  · cases d with
    | struct fs =>
      simp only [descB, Bool.and_eq_true, beq_iff_eq] at hdb
      obtain ⟨⟨⟨⟨_, hfl⟩, _⟩, _⟩, hpos⟩ := hdb
      have hpl : ∀ (i : Nat) x, (X.ti t).flds[i]? = some x → ((fs.map fun f => (f.offset, X.P.cellsOf f.type))[·]?) i = some x := by
        intro i x hi
        rw [hfl] at hi
        simpa using hi
      obtain ⟨us', h1, h2⟩ := fillS_sim hpl (fun x hx' => by
        rw [hfl] at hx'
        obtain ⟨f, hfm, rfl⟩ := List.mem_map.1 hx'
        simpa using List.all_eq_true.1 hpos f hfm) hzc hpr.1 hpr.2 hf
      refine Out.pure (u := .agg us') R ?_ (by simp only [Rep]; exact ⟨us', rfl, h2⟩) hs
      have hpm := run_fplaces (P := X.P) w fs.toList (fun f hf => of_decide_eq_true (List.all_eq_true.1 hpos f hf))
      simp only [Array.getElem?_map] at h1
      simp [execOp, ho, Instr.build, hz, run_underlying hd, Array.mapM_eq_mapM_toList, hpm, h1]
    | _ =>
      exfalso
      simp [descB] at hdb
      first
        | exact hne hdb.2
        | (rw [hn] at hdb; simp at hdb)
  · have hu := arr_spec T hm
    have Te := hTe.resolve_left (by rw [hm]; simp)
    obtain ⟨us', h1, h2⟩ := fillS_sim (place := fun i => some (i * (X.ti (X.ti t).elem).size, (X.ti (X.ti t).elem).size)) (fun i x hi => by
      rw [List.getElem?_map] at hi
      cases hr : (List.range m)[i]? with
      | none => simp [hr] at hi
      | some j =>
        have hj : j = i := by
          have := (List.getElem?_eq_some_iff.1 hr).2
          simpa using this.symm
        subst hj
        simpa [hr] using hi) (fun x hx' => by
      obtain ⟨i, _, rfl⟩ := List.mem_map.1 hx'
      exact Te.pos) hzc hpr.1 hpr.2 hf
    refine Out.pure (u := .agg us') R ?_ (by simp only [Rep]; exact ⟨us', rfl, h2⟩) hs
    simp [execOp, ho, Instr.build, hz, run_underlying hu, run_sizeOf Te, h1]
end
end Go.Abs
namespace Go.Abs
open Go
section
variable {X : Env} {o : Oper} {a : Act} {w : World} {I : Nat → Prop} {σ : Sig} {S S1 : St}
theorem flat_new {h : Heap} (R : Rel w I σ h) {n k : Nat} {es : List V} {keep : Bool} {us : List Value} {el : TypeId} (c : Array Value) (hn : h n = none) (hs : σ n = none)
    (hk : ∀ e ∈ es, e.cells.length = k) (hr : RepC w I (osig keep σ) (flat es) us) (hc : ∀ (j : Nat) u, us[j]? = some u → c[j]? = some u) :
    Step w I σ h n (w.alloc (.cells c el)) I (upd σ n (some (w.heap.size, 0, k))) (upd h n (some ⟨k, es, keep⟩)) (n + 1) := by
  have hlen : us.length = es.length * k := by rw [← ((RepC_iff _ _).1 hr).1, flat_length hk]
  refine new_sim R c hn hs ?_ ?_
  · by_cases h0 : us.length = 0
    · omega
    · have hlast : us[us.length - 1]? = some (us[us.length - 1]'(by omega)) := by simp
      have := (Array.getElem?_eq_some_iff.1 (hc _ _ hlast)).1
      omega
  · have E : Ext w I σ (w.alloc (.cells c el)) I (upd σ n (some (w.heap.size, 0, k))) := (Ext.alloc R.imm _).trans (Ext.sig' hs)
    refine flat_row (E.ofKeep keep) hk hr (fun j u hu => ?_)
    rw [cell_of_row _ _ _ _ _ _ (anew w (.cells c el))]
    simpa using hc j u hu
theorem hdr_rep (w : World) (I : Nat → Prop) (σ : Sig) {n k l cap : Nat} {c : Array Value} {el : TypeId} (hlc : l ≤ cap) (hm : cap ≤ maxLen) (hsz : cap * k ≤ c.size) :
    Rep (w.alloc (.cells c el)) I (upd σ n (some (w.heap.size, 0, k))) (.hdr n 0 l) (.slice (some ⟨w.heap.size, 0, none⟩) l cap) := by
  simp only [Rep]
  exact ⟨_, cap, rfl, hlc, hm, .inr ⟨w.heap.size, 0, k, c, el, (0, 0), by simp [upd], by simp, anew w _, by simpa using hsz⟩⟩
theorem sim_makeSlice {t : TypeId} {l c : Operand} {k1 k2 : IntKind} {n m : Int} (ho : o.op = .makeSlice t l c) (hu : X.P.underlying t = some (.slice (X.ti t).elem)) (T : TIOk X.P (X.ti t).elem (X.ti (X.ti t).elem)) (R : Rel w I σ S.h) (F : FRel w I σ S.f a) (hx : Opds o)
    (hn : S.h S.n = none) (hsn : σ S.n = none) (hl : S.ev l = .int k1 n) (hc : S.ev c = .int k2 m) (hb : 0 ≤ n ∧ n ≤ m ∧ m * (X.ti (X.ti t).elem).bytes ≤ 2 ^ 47 ∧ m ≤ 2 ^ 62)
    {kp : Bool} (hs : S1 = (S.new ⟨(X.ti (X.ti t).elem).size, List.replicate n.toNat (X.ti (X.ti t).elem).zero, kp⟩).set o.dst (.hdr S.n 0 n.toNat)) : Out X o a w I σ S S1 := by
  subst hs
  have h1 : Rep w I σ (S.ev l) (a.eval l) := ev_rep (S := S) F (hx l (by simp [ho, Op.operands]))
  have h2 : Rep w I σ (S.ev c) (a.eval c) := ev_rep (S := S) F (hx c (by simp [ho, Op.operands]))
  rw [hl] at h1; rw [hc] at h2
  have hl2 := rep_int h1; have hc2 := rep_int h2
  obtain ⟨i, z, hi, hisz, hib, hz, hzb⟩ := T.info
  have hzc := zero_cells (w := w) (I := I) (σ := osig kp σ) T hzb
  have hzsz : z.cells.size = (X.ti (X.ti t).elem).size := by
    have := ((RepC_iff _ _).1 hzc).1
    rw [T.zlen] at this; simpa using this.symm
  have hm0 : m = (m.toNat : Int) := by omega
  have hn0 : n = (n.toNat : Int) := by omega
  have hbytes : (i.bytes : Int) * m ≤ 281474976710656 := by
    rw [hib, Int.mul_comm]; omega
  have hrun := run_make (P := X.P) w t (X.ti t).elem i z hu hi hz k1 k2 n m hb.1 hb.2.1 hbytes (by omega)
  rw [hisz] at hrun
  have hmade : (madeCells z.cells (m.toNat * (X.ti (X.ti t).elem).size)).toList = (List.replicate m.toNat z.cells.toList).flatten := by
    unfold madeCells
    rw [← hzsz]
    exact made_list z.cells _ _ rfl (by rw [hzsz]; exact T.pos)
  have hall : ∀ e ∈ List.replicate n.toNat (X.ti (X.ti t).elem).zero, e.cells.length = (X.ti (X.ti t).elem).size := by
    intro e he; rw [List.eq_of_mem_replicate he]; exact T.zlen
  have hrep : RepC w I (osig kp σ) (flat (List.replicate n.toNat (X.ti (X.ti t).elem).zero)) (List.replicate n.toNat z.cells.toList).flatten := by
    rw [flat_replicate]; exact rep_replicate hzc n.toNat
  refine ⟨_, _, I, _, .slice (some ⟨w.heap.size, 0, none⟩) n.toNat m.toNat, .hdr S.n 0 n.toNat, ?_, .inl rfl, ?_, set_f _ _ _ _ rfl, hdr_rep w I σ (k := (X.ti (X.ti t).elem).size) (c := madeCells z.cells (m.toNat * (X.ti (X.ti t).elem).size)) (el := (X.ti t).elem) (by omega) (by simp only [maxLen]; omega) (by rw [size_madeCells]; exact Nat.le_refl _)⟩
  · simp [execOp, ho, hl2, hc2, hrun]
  · rw [set_h, set_n]
    refine flat_new R _ hn hsn hall hrep (fun j u hu' => ?_)
    have hlz : 0 < z.cells.toList.length := by simp [hzsz]; exact T.pos
    rw [flatten_replicate_get _ hlz] at hu'
    rw [← Array.getElem?_toList, hmade, flatten_replicate_get _ hlz]
    split at hu'
    · rename_i hj
      rw [if_pos (Nat.lt_of_lt_of_le hj (Nat.mul_le_mul_right _ (by omega)))]
      exact hu'
    · cases hu'
theorem sim_min {args : Array Operand} {tys : Array TypeId} {x y : Operand} {k : IntKind} {p q : Int} (mx : Bool) (ho : o.op = .call ⟨.builtin (if mx then .max else .min), args, tys⟩) (ha : args.toList = [x, y]) (R : Rel w I σ S.h) (F : FRel w I σ S.f a) (hx : Opds o)
    (h1 : S.ev x = .int k p) (h2 : S.ev y = .int k q) (hs : S1 = S.set o.dst (.int k (if mx then (if q > p then q else p) else (if q < p then q else p)))) : Out X o a w I σ S S1 := by
  have harg : args = #[x, y] := by rw [← ha]
  have r1 : Rep w I σ (S.ev x) (a.eval x) := ev_rep (S := S) F (hx x (by simp [ho, Op.operands, Call.operands, harg]))
  have r2 : Rep w I σ (S.ev y) (a.eval y) := ev_rep (S := S) F (hx y (by simp [ho, Op.operands, Call.operands, harg]))
  rw [h1] at r1; rw [h2] at r2
  refine Out.pure (u := .int k (if mx then (if q > p then q else p) else (if q < p then q else p))) R ?_ (by simp only [Rep]) hs
  cases mx
  · simp [execOp, ho, harg, resolve, invoke, builtin, rep_int r1, rep_int r2, Builtin.min_, Builtin.min2]
  · simp [execOp, ho, harg, resolve, invoke, builtin, rep_int r1, rep_int r2, Builtin.max_, Builtin.max2]
end
end Go.Abs
namespace Go.Abs
open Go
theorem flat_set {k : Nat} : ∀ {es : List V} (i : Nat) (v : V), (∀ e ∈ es, e.cells.length = k) → v.cells.length = k → i < es.length → flat (es.set i v) = splice (i * k) v.cells (flat es)
  | [], i, v, _, _, hi => by simp at hi
  | e :: es, 0, v, hk, hv, _ => by
    rw [List.set_cons_zero, flat_cons, flat_cons, Nat.zero_mul]
    have he := hk e (by simp)
    apply List.ext_getElem?
    intro j
    rw [splice_get _ _ _ _ (by rw [List.length_append]; omega)]
    by_cases hj : j < k
    · rw [if_pos (by omega), List.getElem?_append_left (by omega)]; simp
    · rw [if_neg (by omega), List.getElem?_append_right (by omega), List.getElem?_append_right (by omega), hv, he]
  | e :: es, i + 1, v, hk, hv, hi => by
    rw [List.set_cons_succ, flat_cons, flat_cons, flat_set i v (fun x hx => hk x (by simp [hx])) hv (by simpa using hi)]
    have he := hk e (by simp)
    have hfl := flat_length (fun x hx => hk x (by simp [hx]) : ∀ x ∈ es, x.cells.length = k)
    have hik : (i + 1) * k ≤ es.length * k := Nat.mul_le_mul_right _ (by simp at hi; omega)
    rw [Nat.add_mul] at hik
    apply List.ext_getElem?
    intro j
    rw [splice_get _ _ _ _ (by rw [List.length_append, Nat.add_mul]; omega)]
    by_cases hj : j < k
    · rw [List.getElem?_append_left (by omega), if_neg (by rw [Nat.add_mul]; omega), List.getElem?_append_left (by omega)]
    · rw [List.getElem?_append_right (by omega), splice_get _ _ _ _ (by omega), List.getElem?_append_right (by omega), he]
      by_cases h2 : i * k ≤ j - k ∧ j - k < i * k + v.cells.length
      · rw [if_pos h2, if_pos (by rw [Nat.add_mul]; omega)]
        congr 1; rw [Nat.add_mul]; omega
      · rw [if_neg h2, if_neg (by rw [Nat.add_mul]; omega)]
section
variable {w : World} {I : Nat → Prop} {σ : Sig}
theorem fits_len {v : V} {k : Nat} (h : v.fits k = true) : v.cells.length = k := by
  cases v <;> simp_all [V.fits, V.cells]
theorem fillE_sim {k : Nat} (hp : 0 < k) : ∀ {ps : List (Nat × V)} {es es' : List V} {us : Array Value} {ups : List (Nat × Value)}, (∀ e ∈ es, e.cells.length = k) → RepC w I σ (flat es) us.toList →
    RepL w I σ (ps.map (·.2)) (ups.map (·.2)) → ps.map (·.1) = ups.map (·.1) → fillE k es ps = some es' →
      ∃ us' : Array Value, Instr.fill (fun i => some (i * k, k)) us ups = some us' ∧ RepC w I σ (flat es') us'.toList ∧ (∀ e ∈ es', e.cells.length = k) ∧ es'.length = es.length
  | [], es, es', us, ups, hk, hc, hr, hi, hf => by
    simp only [fillE, Option.some.injEq] at hf; subst hf
    cases ups with
    | nil => exact ⟨us, rfl, hc, hk, rfl⟩
    | cons _ _ => simp at hi
  | (i, v) :: ps, es, es', us, ups, hk, hc, hr, hi, hf => by
    cases ups with
    | nil => simp at hi
    | cons p ups =>
      obtain ⟨i', u⟩ := p
      simp only [List.map_cons, List.cons.injEq] at hi
      obtain ⟨rfl, hi⟩ := hi
      simp only [List.map_cons, RepL] at hr
      obtain ⟨u0, r, he, hv, hr⟩ := hr
      simp only [List.cons.injEq] at he
      obtain ⟨rfl, rfl⟩ := he
      simp only [fillE] at hf
      split at hf
      · rename_i hcond
        simp only [Bool.and_eq_true, decide_eq_true_eq] at hcond
        have hcl := hv.cells hcond.1
        have hlen := ((RepC_iff _ _).1 hc).1
        rw [flat_length hk] at hlen
        have hul := ((RepC_iff _ _).1 hcl.2).1
        have husz : u.cells.size = k := by rw [hcl.1] at hul; simpa using hul.symm
        have hsz : us.size = es.length * k := by simpa using hlen.symm
        have hik : (i + 1) * k ≤ es.length * k := Nat.mul_le_mul_right _ hcond.2
        rw [Nat.add_mul] at hik
        have hnew := splice_rep (n := i * k) hc hcl.2 (by rw [flat_length hk, hcl.1]; omega)
        rw [show us.toList.take (i * k) ++ u.cells.toList ++ us.toList.drop (i * k + u.cells.toList.length) = (over us (i * k) u.cells.toList).toList from rfl] at hnew
        rw [← flat_set i v hk hcl.1 hcond.2] at hnew
        have hk' : ∀ e ∈ es.set i v, e.cells.length = k := by
          intro e he
          rcases List.mem_or_eq_of_mem_set he with h | h
          · exact hk e h
          · rw [h]; exact hcl.1
        obtain ⟨us', h1, h2, h3, h4⟩ := fillE_sim hp hk' hnew hr hi hf
        refine ⟨us', ?_, h2, h3, by rw [h4]; simp⟩
        simp only [Instr.fill]
        rw [if_neg]
        · rw [foldl_over' u (i * k) us (by omega)]; exact h1
        · simp only [Bool.or_eq_true, decide_eq_true_eq, not_or]
          exact ⟨by simpa using husz, by omega⟩
      · cases hf
theorem imm_new {h : Heap} (R : Rel w I σ h) (c : Array Value) (el : TypeId) (n : Nat) : Step w I σ h n (w.alloc (.cells c el)) (fun b => I b ∨ b = w.heap.size) σ h n := by
  have E : Ext w I σ (w.alloc (.cells c el)) (fun b => I b ∨ b = w.heap.size) σ :=
    (Ext.alloc R.imm _).trans ⟨fun _ _ => rfl, fun _ c _ fz hh => ⟨c, fz, hh, rfl⟩, fun b hb => .inl hb, fun _ _ hh => hh⟩
  have hOw : ∀ b, Owns σ h b → b < w.heap.size := fun b hb => by
    obtain ⟨_, c, el, hh⟩ := R.owned hb
    exact hh.lt
  refine ⟨E, R.keep E (fun b hb => ?_) (fun b hb => ⟨aold w _ b (hOw b hb), ?_⟩) (fun _ _ => rfl), rfl, rfl, rfl, by rw [alloc_size]; omega, fun b hb _ => aold w _ b hb, fun b hb => .inr hb, fun b hb => ?_, Nat.le_refl _, fun _ _ => rfl, fun _ _ hn => hn⟩
  · rw [alloc_size]
    rcases hb with hb | rfl
    · have := R.imm b hb; omega
    · omega
  · rintro (hi | rfl)
    · exact (R.owned hb).1 hi
    · have := hOw _ hb; omega
  · rcases hb with hb | rfl
    · exact .inl hb
    · exact .inr (.inl (Nat.le_refl _))
end
section
variable {X : Env} {o : Oper} {a : Act} {w : World} {I : Nat → Prop} {σ : Sig} {S S1 : St}
theorem buildSlice_run {t : TypeId} {n : Nat} (hu : X.P.underlying t = some (.slice (X.ti t).elem)) (T : TIOk X.P (X.ti t).elem (X.ti (X.ti t).elem)) (hcap : n * (X.ti (X.ti t).elem).size ≤ 2 ^ 24)
    {ps : List (Nat × V)} {es : List V} {ups : Array (Nat × Value)} {w : World} {J : Nat → Prop} {τ : Sig} (hr : RepL w J τ (ps.map (·.2)) (ups.toList.map (·.2))) (hi : ps.map (·.1) = ups.toList.map (·.1))
    (hf : fillE (X.ti (X.ti t).elem).size (List.replicate n (X.ti (X.ti t).elem).zero) ps = some es) :
    ∃ us : Array Value, (Instr.buildSlice t n ups).run X.P w = .ok (.slice (some ⟨w.heap.size, 0, none⟩) n n) (w.alloc (.cells us (X.ti t).elem)) ∧ RepC w J τ (flat es) us.toList ∧ (∀ e ∈ es, e.cells.length = (X.ti (X.ti t).elem).size) ∧ es.length = n := by
  obtain ⟨z, hz, hzb⟩ := run_zero T w
  have hzc := zero_cells (w := w) (I := J) (σ := τ) T hzb
  have hzsz : z.cells.size = (X.ti (X.ti t).elem).size := by
    have := ((RepC_iff _ _).1 hzc).1
    rw [T.zlen] at this; simpa using this.symm
  have hall : ∀ e ∈ List.replicate n (X.ti (X.ti t).elem).zero, e.cells.length = (X.ti (X.ti t).elem).size := by
    intro e he; rw [List.eq_of_mem_replicate he]; exact T.zlen
  have hrep : RepC w J τ (flat (List.replicate n (X.ti (X.ti t).elem).zero)) ((Array.range (n * (X.ti (X.ti t).elem).size)).map (z.cells[· % z.cells.size]!)).toList := by
    rw [flat_replicate, ← hzsz, made_list z.cells _ _ rfl (by rw [hzsz]; exact T.pos)]
    exact rep_replicate hzc n
  obtain ⟨us, h1, h2, h3, h4⟩ := fillE_sim T.pos hall hrep hr hi hf
  refine ⟨us, ?_, h2, h3, by rw [h4]; simp⟩
  have hc2 : ¬ (2 ^ 24 < n * (X.ti (X.ti t).elem).size) := by omega
  have hp := T.pos
  by_cases h0 : n = 0
  · subst h0
    have h1' : Instr.fill (fun i => some (i * (X.ti (X.ti t).elem).size, (X.ti (X.ti t).elem).size)) #[] ups.toList = some us := by
      simpa [Array.range_zero'] using h1
    simp [Instr.buildSlice, run_underlying hu, run_sizeOf T, newRow, h1', Array.range_zero']
  · have hne : n * (X.ti (X.ti t).elem).size ≠ 0 := by
      have := Nat.mul_pos (Nat.pos_of_ne_zero h0) hp; omega
    have hne2 : ¬ (n = 0 ∨ (X.ti (X.ti t).elem).size = 0) := by omega
    simp [Instr.buildSlice, run_underlying hu, run_sizeOf T, newRow, hc2, hz, h1]
    intro h; exact absurd h hne
theorem sim_buildSlice_keep {t : TypeId} {n : Nat} {ps : Array (Nat × Operand)} {es : List V} (ho : o.op = .buildSlice t n ps) (hu : X.P.underlying t = some (.slice (X.ti t).elem)) (T : TIOk X.P (X.ti t).elem (X.ti (X.ti t).elem)) (hcap : n * (X.ti (X.ti t).elem).size ≤ 2 ^ 24)
    (R : Rel w I σ S.h) (F : FRel w I σ S.f a) (hx : Opds o) (hn : S.h S.n = none) (hsn : σ S.n = none)
    (hf : fillE (X.ti (X.ti t).elem).size (List.replicate n (X.ti (X.ti t).elem).zero) (ps.toList.map fun p => (p.1, S.ev p.2)) = some es)
    (hs : S1 = (S.new ⟨(X.ti (X.ti t).elem).size, es, true⟩).set o.dst (.hdr S.n 0 n)) : Out X o a w I σ S S1 := by
  subst hs
  have hpr := parts_rep F hx ps.toList (by intro y hy; simp only [ho, Op.operands]; exact List.mem_map_of_mem hy)
  obtain ⟨us, hrun, hrep, hk, hlen⟩ := buildSlice_run (ups := ps.map fun p => (p.1, a.eval p.2)) hu T hcap (by simpa using hpr.1) (by simp) hf
  have hsz : us.size = n * (X.ti (X.ti t).elem).size := by
    have := ((RepC_iff _ _).1 hrep).1
    rw [flat_length hk, hlen] at this; simpa using this.symm
  have hnm : n ≤ maxLen := by
    have h1 : n * 1 ≤ n * (X.ti (X.ti t).elem).size := Nat.mul_le_mul_left _ T.pos
    simp only [maxLen]; omega
  refine ⟨_, _, I, _, .slice (some ⟨w.heap.size, 0, none⟩) n n, .hdr S.n 0 n, ?_, .inl rfl, ?_, set_f _ _ _ _ rfl, hdr_rep w I σ (k := (X.ti (X.ti t).elem).size) (c := us) (el := (X.ti t).elem) (Nat.le_refl _) hnm (by omega)⟩
  · simp [execOp, ho, hrun]
  · rw [set_h, set_n]
    exact flat_new R us hn hsn hk (us := us.toList) (by simpa [osig] using hrep) (fun j u hu' => by simpa using hu')
theorem give0_none {v v' : V} {h h' : Heap} (hg : give0 (fun _ => none) v = some (v', h')) : give0 h v = some (v', h) := by
  cases v <;> simp_all [give0]
theorem giveL_none {h : Heap} : ∀ {cs cs' : List V} {h' : Heap}, giveL (fun _ => none) cs = some (cs', h') → giveL h cs = some (cs', h)
  | [], _, _, hg => by simp only [giveL, Option.some.injEq, Prod.mk.injEq] at hg ⊢; exact ⟨hg.1, trivial⟩
  | c :: cs, _, _, hg => by
    have key : ∀ {c' : V} {h1 : Heap}, give0 (fun _ => none) c = some (c', h1) → h1 = fun _ => none := by
      intro c' h1 h2
      cases c <;> simp_all [give0]
    simp only [giveL] at hg ⊢
    split at hg
    case h_2 => cases hg
    rename_i c' h1 hc
    have := key hc
    subst this
    split at hg
    case h_2 => cases hg
    rename_i cs' h2 hcs
    simp only [Option.some.injEq, Prod.mk.injEq] at hg
    obtain ⟨rfl, _⟩ := hg
    simp only [give0_none (h := h) hc, giveL_none (h := h) hcs]
theorem give_none {v v' : V} {h h' : Heap} (hg : give (fun _ => none) v = some (v', h')) : give h v = some (v', h) := by
  cases v with
  | agg cs =>
    simp only [give] at hg ⊢
    split at hg
    case h_2 => cases hg
    rename_i cs' h1 hc
    simp only [Option.some.injEq, Prod.mk.injEq] at hg
    obtain ⟨rfl, _⟩ := hg
    simp only [giveL_none (h := h) hc]
  | _ => exact give0_none (by simpa [give] using hg)
theorem giveL_heap : ∀ {cs cs' : List V} {h' : Heap}, giveL (fun _ => none) cs = some (cs', h') → h' = fun _ => none
  | [], _, _, hg => by simp only [giveL, Option.some.injEq, Prod.mk.injEq] at hg; exact hg.2.symm
  | c :: cs, _, _, hg => by
    simp only [giveL] at hg
    split at hg
    case h_2 => cases hg
    rename_i c' h1 hc
    have : h1 = fun _ => none := by cases c <;> simp_all [give0]
    subst this
    split at hg
    case h_2 => cases hg
    rename_i cs' h2 hcs
    simp only [Option.some.injEq, Prod.mk.injEq] at hg
    obtain ⟨_, rfl⟩ := hg
    exact giveL_heap hcs
theorem give_heap {v v' : V} {h' : Heap} (hg : give (fun _ => none) v = some (v', h')) : h' = fun _ => none := by
  cases v with
  | agg cs =>
    simp only [give] at hg
    split at hg
    case h_2 => cases hg
    rename_i cs' h1 hc
    simp only [Option.some.injEq, Prod.mk.injEq] at hg
    obtain ⟨_, rfl⟩ := hg
    exact giveL_heap hc
  | _ => simp_all [give, give0]
theorem giveP_none {h : Heap} : ∀ {ps ps' : List (Nat × V)} {h' : Heap}, giveP (fun _ => none) ps = some (ps', h') → giveP h ps = some (ps', h)
  | [], _, _, hg => by simp only [giveP, Option.some.injEq, Prod.mk.injEq] at hg ⊢; exact ⟨hg.1, trivial⟩
  | (i, v) :: ps, _, _, hg => by
    simp only [giveP] at hg ⊢
    split at hg
    case h_2 => cases hg
    rename_i c' h1 hc
    have := give_heap hc
    subst this
    split at hg
    case h_2 => cases hg
    rename_i cs' h2 hcs
    simp only [Option.some.injEq, Prod.mk.injEq] at hg
    obtain ⟨rfl, _⟩ := hg
    simp only [give_none (h := h) hc, giveP_none (h := h) hcs]
theorem sim_buildSlice {t : TypeId} {n : Nat} {ps : Array (Nat × Operand)} {es : List V} {l : List (Nat × V)} {h : Heap} {th : Bool} (ho : o.op = .buildSlice t n ps) (hu : X.P.underlying t = some (.slice (X.ti t).elem)) (T : TIOk X.P (X.ti t).elem (X.ti (X.ti t).elem)) (hcap : n * (X.ti (X.ti t).elem).size ≤ 2 ^ 24)
    (R : Rel w I σ S.h) (F : FRel w I σ S.f a) (hx : Opds o) (hn : S.h S.n = none) (hsn : σ S.n = none)
    (hg : giveP S.h (ps.toList.map fun p => (p.1, S.ev p.2)) = some (l, h))
    (hf : fillE (X.ti (X.ti t).elem).size (List.replicate n (X.ti (X.ti t).elem).zero) l = some es)
    (hs : S1 = if th then (({ S with h := h } : St).new ⟨(X.ti (X.ti t).elem).size, es, false⟩).set o.dst (.hdr S.n 0 n) else ({ S with h := h } : St).set o.dst (.sl true es)) : Out X o a w I σ S S1 := by
  subst hs
  have hpr := parts_rep F hx ps.toList (by intro y hy; simp only [ho, Op.operands]; exact List.mem_map_of_mem hy)
  obtain ⟨I1, s1, r1, hi1, hsub⟩ := giveP_sim R hpr.1 hg S.n
  obtain ⟨us, hrun, hrep, hk, hlen⟩ := buildSlice_run (ups := ps.map fun p => (p.1, a.eval p.2)) hu T hcap (by simpa using r1) (by rw [hi1]; simp) hf
  have hsz : us.size = n * (X.ti (X.ti t).elem).size := by
    have := ((RepC_iff _ _).1 hrep).1
    rw [flat_length hk, hlen] at this; simpa using this.symm
  have hnm : n ≤ maxLen := by
    have h1 : n * 1 ≤ n * (X.ti (X.ti t).elem).size := Nat.mul_le_mul_left _ T.pos
    simp only [maxLen]; omega
  have hnh : h S.n = none := by
    cases hc : h S.n with
    | none => rfl
    | some ob => rw [hsub _ _ hc] at hn; cases hn
  cases th with
  | true =>
    refine ⟨_, _, I1, _, .slice (some ⟨w.heap.size, 0, none⟩) n n, .hdr S.n 0 n, ?_, .inl rfl, ?_, ?_, hdr_rep w I1 σ (k := (X.ti (X.ti t).elem).size) (c := us) (el := (X.ti t).elem) (Nat.le_refl _) hnm (by omega)⟩
    · simp [execOp, ho, hrun]
    · simp only [if_true]
      rw [set_h, set_n]
      exact s1.trans (flat_new s1.rel us hnh hsn hk (us := us.toList) (by simpa [osig] using hrep) (fun j u hu' => by simpa using hu'))
    · simp only [if_true]; exact set_f _ _ _ _ rfl
  | false =>
    refine ⟨_, w.alloc (.cells us (X.ti t).elem), (fun b => I1 b ∨ b = w.heap.size), σ, .slice (some ⟨w.heap.size, 0, none⟩) n n, .sl true es, ?_, .inl rfl, ?_, ?_, ?_⟩
    · simp [execOp, ho, hrun]
    · simp only [Bool.false_eq_true, if_false]
      rw [set_h, set_n]
      exact s1.trans (imm_new s1.rel us (X.ti t).elem S.n)
    · simp only [Bool.false_eq_true, if_false]; exact set_f _ _ _ _ rfl
    · simp only [Rep]
      refine ⟨_, n, by rw [hlen], by omega, hnm, fun _ => hlen.symm, .inr ⟨w.heap.size, 0, (X.ti (X.ti t).elem).size, rfl, .inr rfl, ?_⟩⟩
      refine flat_row (imm_new s1.rel us (X.ti t).elem S.n).ext.noid hk (us := us.toList) hrep (fun j u hu' => ?_)
      rw [cell_of_row _ _ _ _ _ _ (anew w (.cells us (X.ti t).elem))]
      simpa using hu'
end
end Go.Abs
namespace Go.Abs
open Go
section
variable {w w' : World} {I I' : Nat → Prop} {σ σ' : Sig} {h : Heap}
theorem osig_le {k1 k2 : Bool} (hk : k1 = true → k2 = true) : Ext w I (osig k1 σ) w I (osig k2 σ) := by
  cases k1
  · cases k2
    · exact .refl _ _ _
    · exact Ext.free
  · rw [hk rfl]; exact .refl _ _ _
theorem Ext.heap (hh : w'.heap = w.heap) : Ext w I σ w' I σ :=
  ⟨fun b _ => by rw [hh], fun b c el fz h => ⟨c, fz, by rw [hh]; exact h, rfl⟩, fun _ h => h, fun _ _ h => h⟩
theorem Step.drew (R : Rel w I σ h) (n : Nat) : Step w I σ h n w.drew I σ h n :=
  ⟨Ext.heap rfl, R.keep (Ext.heap rfl) (fun b hb => R.imm b hb) (fun b hb => ⟨rfl, (R.owned hb).1⟩) (fun _ _ => rfl), rfl, rfl, rfl, Nat.le_refl _, fun _ _ _ => rfl, fun _ hb => .inr hb, fun _ hb => .inl hb, Nat.le_refl _, fun _ _ => rfl, fun _ _ hn => hn⟩
theorem Step.kill (R : Rel w I σ h) (id n : Nat) : Step w I σ h n w I σ (upd h id none) n :=
  ⟨.refl _ _ _, R.kill id, rfl, rfl, rfl, Nat.le_refl _, fun _ _ _ => rfl, fun _ hb => .inr hb.of_upd, fun _ hb => .inl hb, Nat.le_refl _, fun _ _ => rfl, fun i _ hn => by unfold upd; split <;> simp_all⟩
theorem Step.nil (R : Rel w I σ h) {n k : Nat} {keep : Bool} (hn : h n = none) (hs : σ n = none) : Step w I σ h n w I σ (upd h n (some ⟨k, [], keep⟩)) (n + 1) :=
  ⟨.refl _ _ _, R.adoptNil hn hs, rfl, rfl, rfl, Nat.le_refl _, fun _ _ _ => rfl, fun b hb => by
    obtain ⟨id, ob, o, k', h1, h2⟩ := hb
    by_cases e : id = n
    · subst e; rw [hs] at h2; cases h2
    · exact .inr ⟨id, ob, o, k', by simpa [upd, e] using h1, h2⟩, fun _ hb => .inl hb, by omega, fun _ _ => rfl, fun id hid hnn => by simp [upd, hnn]; omega⟩
theorem Step.rebase (R : Rel w I σ h) {id n b o s : Nat} {ob : Ob} {kp : Bool} (hob : h id = some ob) (hsg : σ id = some (b, o, ob.k)) (hn : h n = none) (hs : σ n = none) (hk : ob.keep = true → kp = true) {c : Array Value} {el : TypeId}
    (hb : RowAt w b c el) (hle : o + ob.es.length * ob.k ≤ c.size) (hrow : RepRow w I (osig ob.keep σ) ob.es ob.k b o) (hsl : s ≤ ob.es.length) :
    Step w I σ h n w I (upd σ n (some (b, o + s * ob.k, ob.k))) (upd (upd h id none) n (some ⟨ob.k, ob.es.drop s, kp⟩)) (n + 1) := by
  have hown : Owns σ h b := ⟨id, ob, o, ob.k, hob, hsg⟩
  have hne : n ≠ id := fun e => by rw [e, hob] at hn; cases hn
  have hn' : upd h id none n = none := by simp [upd, hne, hn]
  have hseg := hrow.seg s (ob.es.length - s)
  rw [List.take_of_length_le (by simp)] at hseg
  have E : Ext w I σ w I (upd σ n (some (b, o + s * ob.k, ob.k))) := Ext.sig' hs
  have hsz : o + s * ob.k + (ob.es.drop s).length * ob.k ≤ c.size := by
    have : s * ob.k + (ob.es.length - s) * ob.k = ob.es.length * ob.k := by rw [← Nat.add_mul]; congr 1; omega
    simp; omega
  have R1 := (R.kill id).adopt (n := n) (b := b) (o := o + s * ob.k) (k := ob.k) (es := ob.es.drop s) (keep := kp) hn' hs hb (R.owned hown).1 (R.notOwn hob hsg) hsz
    ((hseg.extRow (E.ofKeep ob.keep) rfl).extRow (osig_le hk) rfl)
  refine ⟨E, R1, rfl, rfl, rfl, Nat.le_refl _, fun _ _ _ => rfl, fun b' hb' => ?_, fun _ hb => .inl hb, by omega, fun i hi => by simp [upd]; omega, fun i hi hin => by
    have : i ≠ n := by omega
    simp only [upd, this, if_false]
    split
    · rfl
    · exact hin⟩
  obtain ⟨i, ob', o', k', h1, h2⟩ := hb'
  by_cases e : i = n
  · subst e
    simp [upd] at h2
    obtain ⟨rfl, _⟩ := h2
    exact .inr hown
  · have h1' : upd h id none i = some ob' := by simpa [upd, e] using h1
    have h2' : σ i = some (b', o', k') := by simpa [upd, e] using h2
    exact .inr (Owns.of_upd ⟨i, ob', o', k', h1', h2'⟩)
theorem row_append {es xs : List V} {k b o : Nat} (h1 : RepRow w I σ es k b o) (h2 : RepRow w I σ xs k b (o + es.length * k)) : RepRow w I σ (es ++ xs) k b o := by
  rw [RepRow_iff] at h1 h2 ⊢
  intro i e hi
  by_cases hl : i < es.length
  · rw [List.getElem?_append_left hl] at hi; exact h1 i e hi
  · rw [List.getElem?_append_right (by omega)] at hi
    have := h2 _ e hi
    rwa [show o + es.length * k + (i - es.length) * k = o + i * k by rw [Nat.add_assoc, ← Nat.add_mul]; congr 2; omega] at this
theorem src_sim {P : Program} {tx : TypeId} (hk : (∃ e', P.underlying tx = some (.slice e')) ∨ P.underlying tx = some .string) (R : Rel w I σ h) {x : V} {u : Value} {xs : List V} {kx : Bool} (hr : Rep w I σ x u) (he : elems h x = some (xs, kx))
    {k : Nat} (hl : ∀ e ∈ xs, e.cells.length = k) (hsg : ∀ id s l, x = .hdr id s l → ∃ ob, h id = some ob ∧ (xs ≠ [] → ob.k = k)) :
    ∃ news, Src P k tx u xs.length news w ∧ RepC w I (osig kx σ) (flat xs) news := by
  have flen := flat_length hl
  have mk : ∀ {ad : Addr} {cap : Nat} {b o : Nat} {τ : Sig}, ad = ⟨b, o, none⟩ → RepRow w I τ xs k b o → ∃ news, Src P k tx (.slice (some ad) xs.length cap) xs.length news w ∧ RepC w I τ (flat xs) news := by
    intro ad cap b o τ had hrow
    subst had
    obtain ⟨us, h1, h2, h3⟩ := row_flat hrow
    refine ⟨us, ⟨hk, fun _ => rfl, run_firstCells_some w k xs.length _ _ cap us h1 (fun j v hv => by rw [add_at]; exact h2 j v hv), run_firstCells_some w.drew k xs.length _ _ cap us h1 (fun j v hv => by rw [add_at]; simpa using h2 j v hv), h1, h3.ones⟩, h3⟩
  have mk0 : ∀ {ad : Option Addr} {cap : Nat}, xs = [] → ∃ news, Src P k tx (.slice ad 0 cap) xs.length news w ∧ RepC w I (osig kx σ) (flat xs) news := by
    intro ad cap h0
    subst h0
    refine ⟨[], ⟨hk, fun _ => rfl, ?_, ?_, by simp, by simp⟩, by simp [flat, RepC]⟩
    · cases ad <;> simp [Builtin.firstCells, loadCells, loadCellsFrom]
    · cases ad <;> simp [Builtin.firstCells, loadCells, loadCellsFrom]
  cases x with
  | sl c es =>
    simp only [elems, Option.some.injEq, Prod.mk.injEq] at he
    obtain ⟨rfl, rfl⟩ := he
    simp only [Rep] at hr
    obtain ⟨ad, cap, rfl, _, _, _, h4⟩ := hr
    rcases h4 with h4 | ⟨b, o, k', rfl, hI, hrow⟩
    · subst h4; exact mk0 rfl
    · by_cases h0 : es = []
      · subst h0; exact mk0 rfl
      · have hkk : k' = k := by
          obtain ⟨e, he⟩ := List.exists_mem_of_ne_nil es h0
          rw [← hrow.lens e he]; exact hl e he
        subst hkk
        exact mk rfl hrow
  | hdr id s l =>
    obtain ⟨ob, hob, hkk⟩ := hsg id s l rfl
    simp only [elems, hob] at he
    split at he
    · rename_i hle
      simp only [Option.some.injEq, Prod.mk.injEq] at he
      obtain ⟨rfl, rfl⟩ := he
      have hxl : ((ob.es.drop s).take l).length = l := by simp; omega
      simp only [Rep] at hr
      obtain ⟨ad, cap, rfl, h1, _, h3⟩ := hr
      by_cases h0 : l = 0
      · subst h0; exact mk0 (by simp)
      · rcases h3 with h3 | ⟨b, o, k', c, el, fz, hs, rfl, _⟩
        · omega
        · have hi : ob.es[s]? = some (ob.es[s]'(by omega)) := by simp
          obtain ⟨b', o', c', el', hs', _, _, _, hrow⟩ := R.at hob hi
          rw [hs] at hs'
          simp only [Option.some.injEq, Prod.mk.injEq] at hs'
          obtain ⟨rfl, rfl, rfl⟩ := hs'
          have hne : (ob.es.drop s).take l ≠ [] := by intro hh; rw [hh] at hxl; simp at hxl; omega
          have hko := hkk hne
          have hseg := hrow.seg s l
          rw [hko] at hseg
          have := mk (ad := ⟨b, o + s * ob.k, none⟩) (cap := cap) (by rw [hko]) hseg
          rwa [hxl] at this ⊢
    · cases he
  | str s =>
    simp only [elems, Option.some.injEq, Prod.mk.injEq] at he
    obtain ⟨rfl, rfl⟩ := he
    obtain ⟨bs, rfl, rfl⟩ := rep_str hr
    have hsz : bs.data.toList.length = bs.size := Array.length_toList
    by_cases h0 : bs.data.toList = []
    · rw [h0]
      have hz : bs.size = 0 := by rw [← hsz, h0]; rfl
      have hex : bs.extract 0 0 = ByteArray.empty := by
        apply ByteArray.ext; simp [ByteArray.data_extract]
      refine ⟨[], ⟨hk, fun _ => by simp [Builtin.lenOf, hz], ?_, ?_, by simp, by simp⟩, by simp [flat, RepC]⟩
      · simp [Builtin.firstCells, hex]
      · simp [Builtin.firstCells, hex]
    · have hk1 : k = 1 := by
        obtain ⟨e, he⟩ := List.exists_mem_of_ne_nil _ h0
        have := hl (.int .u8 e.toNat) (List.mem_map.2 ⟨e, he, rfl⟩)
        simpa [V.cells] using this.symm
      subst hk1
      refine ⟨byteCells bs, ⟨hk, fun _ => by simp [Builtin.lenOf, hsz], ?_, ?_, ?_, ?_⟩, ?_⟩
      · rw [List.length_map, hsz]; exact firstCells_string bs w
      · rw [List.length_map, hsz]; exact firstCells_string bs w.drew
      · rw [byteCells_length, List.length_map, hsz, Nat.mul_one]
      · intro u hu
        obtain ⟨_, _, rfl⟩ := List.mem_map.1 hu
        rfl
      · rw [RepC_iff]
        have hfl : flat (bs.data.toList.map fun b => V.int .u8 b.toNat) = bs.data.toList.map fun b => V.int .u8 b.toNat := by
          generalize bs.data.toList = l
          induction l with
          | nil => rfl
          | cons b l ih => rw [List.map_cons, flat_cons, ih]; rfl
        rw [hfl]
        refine ⟨by rw [byteCells_length, List.length_map, hsz], fun j c u hc hu => ?_⟩
        unfold byteCells at hu
        rw [List.getElem?_map] at hc hu
        cases hb : bs.data.toList[j]? with
        | none => simp [hb] at hc
        | some b =>
          simp only [hb, Option.map_some, Option.some.injEq] at hc hu
          subst hc; subst hu
          exact ⟨rfl, by simp [Rep]⟩
  | _ => simp [elems] at he
theorem run_append_zero {P : Program} (t tx ty e : TypeId) (i : TypeInfo) (ht : P.underlying t = some (.slice e)) (hi : P.info? e = some i) (base : Option Addr) (sLen sCap : Nat) (hle : sLen ≤ sCap) (x : Value) (hs : Src P i.size tx x 0 [] w) :
    (Builtin.append_ #[t, tx] ty #[.slice base sLen sCap, x]).run P w = .ok (.slice base sLen sCap) w := by
  have hc := hs.cells
  cases base <;> rcases hs.kind with ⟨e', hk⟩ | hk <;> simp [Builtin.append_, run_underlying ht, run_underlying hk, sizeOf, typeInfo, hi, hs.len, hle, hc, storeCells]
theorem run_append_in {P : Program} (t tx ty e : TypeId) (i : TypeInfo) (ht : P.underlying t = some (.slice e)) (hi : P.info? e = some i) {b p sLen sCap : Nat} {x : Value} {n : Nat} {news : List Value} (hs : Src P i.size tx x n news w)
    (hroom : sLen + n ≤ sCap) {c : Array Value} {el : TypeId} (hb : RowAt w b c el) (hfit : p + sLen * i.size + news.length ≤ c.size) :
    (Builtin.append_ #[t, tx] ty #[.slice (some ⟨b, p, none⟩) sLen sCap, x]).run P w = .ok (.slice (some ⟨b, p, none⟩) (sLen + n) sCap) (w.setRow b (over c (p + sLen * i.size) news)) := by
  have hst := store_rows (P := P) (b := b) (p := p + sLen * i.size) news 0 c w hb (by simpa using hfit) fun v hv => hs.one v (by simpa using hv)
  simp only [Nat.add_zero] at hst
  rcases hs.kind with ⟨e', hk⟩ | hk <;> simp [Builtin.append_, run_underlying ht, run_underlying hk, sizeOf, typeInfo, hi, hs.len, hroom, hs.cells, Addr.add_lit, hst, over]
end
end Go.Abs
namespace Go.Abs
open Go
section
variable {w : World} {I : Nat → Prop} {σ : Sig} {h : Heap}
structure Based (w : World) (I : Nat → Prop) (σ : Sig) (id s l : Nat) (ob : Ob) (ad : Option Addr) (cap : Nat) : Prop where
  le : l ≤ cap
  max : cap ≤ maxLen
  place : cap = 0 ∨ ∃ b o c el, σ id = some (b, o, ob.k) ∧ ad = some ⟨b, o + s * ob.k, none⟩ ∧ RowAt w b c el ∧ o + ob.es.length * ob.k ≤ c.size ∧ o + (s + cap) * ob.k ≤ c.size ∧ RepRow w I (osig ob.keep σ) ob.es ob.k b o
theorem based (R : Rel w I σ h) {id s l : Nat} {ob : Ob} {u : Value} (hr : Rep w I σ (.hdr id s l) u) (hob : h id = some ob) : ∃ ad cap, u = .slice ad l cap ∧ Based w I σ id s l ob ad cap := by
  simp only [Rep] at hr
  obtain ⟨ad, cap, rfl, h1, h2, h3⟩ := hr
  refine ⟨ad, cap, rfl, h1, h2, ?_⟩
  rcases h3 with h3 | ⟨b, o, k, c, el, fz, hs, ha, hb, hle⟩
  · exact .inl h3
  · rcases R.obj id ob hob with ⟨_, hn⟩ | ⟨b', o', c', el', hs', hi, hb', hle', hrow⟩
    · rw [hs] at hn; cases hn
    · rw [hs] at hs'
      simp only [Option.some.injEq, Prod.mk.injEq] at hs'
      obtain ⟨rfl, rfl, rfl⟩ := hs'
      obtain ⟨fz', hb2⟩ := hb'.at
      rw [hb] at hb2
      simp only [Option.some.injEq, Obj.cells.injEq] at hb2
      obtain ⟨rfl, rfl, rfl⟩ := hb2
      exact .inr ⟨b, o, c, el, hs, ha, hb', hle', hle, hrow⟩
theorem Based.olds {P : Program} {id s l cap : Nat} {ob : Ob} {ad : Option Addr} (B : Based w I σ id s l ob ad cap) (hsl : s + l ≤ ob.es.length) :
    ∃ olds : List Value, olds.length = l * ob.k ∧ RepC w I (osig ob.keep σ) (flat ((ob.es.drop s).take l)) olds ∧ (Builtin.firstCells ob.k l (.slice ad l cap)).run P w.drew = .ok olds.toArray w.drew := by
  have hl := B.le
  by_cases h0 : l = 0
  · subst h0
    refine ⟨[], by simp, by simp [flat, RepC], ?_⟩
    cases ad <;> simp [Builtin.firstCells, loadCells, loadCellsFrom]
  · rcases B.place with hp | ⟨b, o, c, el, hs, rfl, hb, hle, hle2, hrow⟩
    · omega
    · obtain ⟨us, h1, h2, h3⟩ := row_flat (hrow.seg s l)
      have hln : ((ob.es.drop s).take l).length = l := by simp; omega
      rw [hln] at h1
      exact ⟨us, h1, h3, run_firstCells_some w.drew ob.k l _ _ cap us h1 (fun j v hv => by rw [add_at]; simpa using h2 j v hv)⟩
theorem zeroCells_size {z : Array Value} (n : Nat) : (Builtin.zeroCells z n).size = n * z.size := by
  have := size_madeCells z (n * z.size)
  unfold madeCells at this
  simp [Builtin.zeroCells]
theorem grown_size (olds news : List Value) (z : Array Value) (g n k : Nat) (hz : z.size = k) (ho : (olds ++ news).length = n * k) (hg : n ≤ g) :
    ((olds ++ news).toArray ++ Builtin.zeroCells z (g - n)).size = g * k := by
  rw [Array.size_append, zeroCells_size, hz]
  have : n * k + (g - n) * k = g * k := by rw [← Nat.add_mul]; congr 1; omega
  simp only [List.size_toArray]; omega
theorem grow_run {P : Program} {t tx ty e : TypeId} {x : TI} (ht : P.underlying t = some (.slice e)) (T : TIOk P e x) {ad : Option Addr} {l cap : Nat} {olds news : List Value} {u : Value} {n : Nat}
    (hold : (Builtin.firstCells x.size l (.slice ad l cap)).run P w.drew = .ok olds.toArray w.drew) (hol : olds.length = l * x.size) (hs : Src P x.size tx u n news w) (hg : cap < l + n) (hfit : (l + n) * x.bytes ≤ 2 ^ 47) (hmax : l + n ≤ 2 ^ 62) :
    ∃ (c : Array Value) (g : Nat), (Builtin.append_ #[t, tx] ty #[.slice ad l cap, u]).run P w = .ok (.slice (some ⟨w.heap.size, 0, none⟩) (l + n) g) (w.drew.alloc (.cells c e)) ∧ l + n ≤ g ∧ g ≤ maxLen ∧ g * x.size ≤ c.size ∧
      (∀ (j : Nat) v, (olds ++ news)[j]? = some v → c[j]? = some v) := by
  obtain ⟨i, z, hi, hisz, hib, hz, hzb⟩ := T.info
  have hzc := zero_cells (w := w) (I := fun _ => False) (σ := nosig) T hzb
  have hzsz : z.cells.size = x.size := by
    have := ((RepC_iff _ _).1 hzc).1
    rw [T.zlen] at this; simpa using this.symm
  have hrun := run_append_grow_src (w := w) t tx ty e i z ht hi hz ad l cap olds (by rw [hisz]; exact hold) u n news (by rw [hisz]; exact hs) hg (by omega)
    (by have := growslice_fits (bytes := i.bytes) hg (by rw [hib]; omega); omega)
  have hge := grownCap_ge w (l + n) cap e
  have hle := grownCap_le_maxLen w (l + n) cap e (by simp only [maxLen]; omega)
  have hlen : (olds ++ news).length = (l + n) * x.size := by rw [List.length_append, hol, hs.newsLen, Nat.add_mul]
  refine ⟨_, _, hrun, hge, hle, ?_, ?_⟩
  · rw [grown_size olds news z.cells _ _ _ hzsz hlen hge]; exact Nat.le_refl _
  · intro j v hv
    have hj := (List.getElem?_eq_some_iff.1 hv).1
    rw [Array.getElem?_append_left (by simpa using hj)]
    simpa using hv
theorem src_kind {P : Program} {k : Nat} {tx : TypeId} {u : Value} {n : Nat} {news : List Value} (h : Src P k tx u n news w) : (∃ e', P.underlying tx = some (.slice e')) ∨ P.underlying tx = some .string := h.kind
variable {P : Program} {t tx ty e : TypeId} {x : TI} {n : Nat} {xs : List V} {news : List Value} {y : Value}
theorem append_nothing (R : Rel w I σ h) (ht : P.underlying t = some (.slice e)) (T : TIOk P e x) {u : Value} (hb : Rep w I σ (.sl true []) u) {kp kx : Bool} (hkx : kx = true → kp = true) (hk : ∀ v ∈ xs, v.cells.length = x.size)
    (hs : Src P x.size tx y xs.length news w) (hr : RepC w I (osig kx σ) (flat xs) news) (hn : h n = none) (hsn : σ n = none) (hfit : xs.length * x.bytes ≤ 2 ^ 47) (hmax : xs.length ≤ 2 ^ 62) :
    ∃ v w' σ', (Builtin.append_ #[t, tx] ty #[u, y]).run P w = .ok v w' ∧ Step w I σ h n w' I σ' (upd h n (some ⟨x.size, xs, kp⟩)) (n + 1) ∧ Rep w' I σ' (.hdr n 0 xs.length) v := by
  simp only [Rep] at hb
  obtain ⟨ad, cap, rfl, _, _, hc, _⟩ := hb
  have hc0 : cap = 0 := by simpa using hc
  subst hc0
  obtain ⟨i, z, hi, hisz, hib, hz, hzb⟩ := T.info
  by_cases h0 : xs = []
  · subst h0
    have hnews : news = [] := by
      have := hs.newsLen; simp at this; exact this
    subst hnews
    refine ⟨_, w, σ, run_append_zero t tx ty e i ht hi ad 0 0 (Nat.le_refl _) y (by rw [hisz]; exact hs), Step.nil R hn hsn, ?_⟩
    simp only [Rep]
    exact ⟨ad, 0, rfl, by simp, by simp [maxLen], .inl rfl⟩
  · have hpos : 0 < xs.length := List.length_pos_iff.2 h0
    obtain ⟨c, g, hrun, hge, hle, hsz, hcs⟩ := grow_run ht T (ad := ad) (l := 0) (cap := 0) (olds := []) (ty := ty) (by cases ad <;> simp [Builtin.firstCells, loadCells, loadCellsFrom]) (by simp) hs (by omega) (by simpa using hfit) (by simpa using hmax)
    simp only [Nat.zero_add, List.nil_append] at hrun hge hcs
    refine ⟨_, _, _, hrun, (Step.drew R n).trans (flat_new (Step.drew R n).rel c hn hsn hk (us := news) ?_ hcs), ?_⟩
    · exact (RepC.ext' _ _ ((Ext.heap rfl : Ext w I (osig kx σ) w.drew I (osig kx σ)).trans (osig_le hkx)) hr)
    · have := hdr_rep w.drew I σ (n := n) (k := x.size) (l := xs.length) (cap := g) (c := c) (el := e) hge hle hsz
      simpa using this
theorem append_imm (R : Rel w I σ h) (ht : P.underlying t = some (.slice e)) (T : TIOk P e x) {u : Value} {es : List V} (hb : Rep w I σ (.sl true es) u) (hke : ∀ v ∈ es, v.cells.length = x.size) (hk : ∀ v ∈ xs, v.cells.length = x.size)
    (hs : Src P x.size tx y xs.length news w) (hr : RepC w I (osig false σ) (flat xs) news) (n : Nat) (hfit : (es.length + xs.length) * x.bytes ≤ 2 ^ 47) (hmax : es.length + xs.length ≤ 2 ^ 62) :
    ∃ v w' I', (Builtin.append_ #[t, tx] ty #[u, y]).run P w = .ok v w' ∧ Step w I σ h n w' I' σ h n ∧ Rep w' I' σ (.sl false (es ++ xs)) v := by
  have hb' := hb
  simp only [Rep] at hb
  obtain ⟨ad, cap, rfl, h1, h2, hc, h4⟩ := hb
  have hc0 : cap = es.length := by simpa using hc
  subst hc0
  obtain ⟨i, z, hi, hisz, hib, hz, hzb⟩ := T.info
  by_cases h0 : xs = []
  · subst h0
    have hnews : news = [] := by
      have := hs.newsLen; simp at this; exact this
    subst hnews
    refine ⟨_, w, I, run_append_zero t tx ty e i ht hi ad es.length es.length (Nat.le_refl _) y (by rw [hisz]; exact hs), Step.refl R n, ?_⟩
    rw [List.append_nil]
    simp only [Rep]
    exact ⟨ad, es.length, rfl, h1, h2, fun hh => (by cases hh), h4⟩
  · have hpos : 0 < xs.length := List.length_pos_iff.2 h0
    have hold : ∃ olds : List Value, olds.length = es.length * x.size ∧ RepC w I nosig (flat es) olds ∧ (Builtin.firstCells x.size es.length (.slice ad es.length es.length)).run P w.drew = .ok olds.toArray w.drew := by
      by_cases he : es = []
      · subst he
        refine ⟨[], by simp, by simp [flat, RepC], ?_⟩
        cases ad <;> simp [Builtin.firstCells, loadCells, loadCellsFrom]
      · rcases h4 with h4 | ⟨b, o, k', rfl, hI, hrow⟩
        · exact absurd h4 he
        · have hkk : k' = x.size := by
            obtain ⟨v, hv⟩ := List.exists_mem_of_ne_nil es he
            rw [← hrow.lens v hv]; exact hke v hv
          subst hkk
          obtain ⟨us, h1, h2, h3⟩ := row_flat hrow
          exact ⟨us, h1, h3, run_firstCells_some w.drew _ _ _ _ _ us h1 (fun j v hv => by rw [add_at]; simpa using h2 j v hv)⟩
    obtain ⟨olds, hol, hor, hof⟩ := hold
    obtain ⟨c, g, hrun, hge, hle, hsz, hcs⟩ := grow_run ht T (ty := ty) hof hol hs (by omega) hfit hmax
    have st := (Step.drew R n).trans (imm_new (Step.drew R n).rel c e n)
    refine ⟨_, _, _, hrun, st, ?_⟩
    simp only [Rep]
    refine ⟨_, g, by rw [List.length_append], by rw [List.length_append]; exact hge, hle, fun hh => (by cases hh), .inr ⟨w.heap.size, 0, x.size, rfl, .inr rfl, ?_⟩⟩
    refine flat_row st.ext.noid (us := olds ++ news) (fun v hv => ?_) (by rw [flat_append]; exact hor.append hr) (fun j v hv => ?_)
    · rcases List.mem_append.1 hv with hv | hv
      · exact hke v hv
      · exact hk v hv
    · have : (w.drew.alloc (.cells c e)).heap[w.heap.size]? = some (.cells c e) := anew w.drew (.cells c e)
      rw [cell_of_row _ _ _ _ _ _ this]
      simpa using hcs j v hv
theorem append_hdr (R : Rel w I σ h) (ht : P.underlying t = some (.slice e)) (T : TIOk P e x) {id s l : Nat} {ob : Ob} {u : Value} (hb : Rep w I σ (.hdr id s l) u) (hob : h id = some ob) (hok : ob.k = x.size) (hsl : s + l ≤ ob.es.length)
    {kp kx : Bool} (hkx : kx = true → kp = true) (hkb : ob.keep = true → kp = true) (hk : ∀ v ∈ xs, v.cells.length = x.size)
    (hs : Src P x.size tx y xs.length news w) (hr : RepC w I (osig kx σ) (flat xs) news) (hn : h n = none) (hsn : σ n = none) (hfit : (l + xs.length) * x.bytes ≤ 2 ^ 47) (hmax : l + xs.length ≤ 2 ^ 62) :
    ∃ v w' σ', (Builtin.append_ #[t, tx] ty #[u, y]).run P w = .ok v w' ∧ Step w I σ h n w' I σ' (upd (upd h id none) n (some ⟨x.size, (ob.es.drop s).take l ++ xs, kp⟩)) (n + 1) ∧ Rep w' I σ' (.hdr n 0 (l + xs.length)) v := by
  obtain ⟨ad, cap, rfl, B⟩ := based R hb hob
  obtain ⟨i, z, hi, hisz, hib, hz, hzb⟩ := T.info
  have hle := B.le
  have hne : n ≠ id := fun e => by rw [e, hob] at hn; cases hn
  have hn' : upd h id none n = none := by simp [upd, hne, hn]
  have hseglen : ((ob.es.drop s).take l).length = l := by simp; omega
  have hkh : n ≠ id ∧ True := ⟨hne, trivial⟩
  by_cases hg : cap < l + xs.length
  · obtain ⟨olds, hol, hor, hof⟩ := B.olds (P := P) hsl
    rw [hok] at hol hof
    obtain ⟨c, g, hrun, hge, hlem, hsz, hcs⟩ := grow_run ht T (ty := ty) hof hol hs hg hfit hmax
    have s1 := (Step.kill R id n).trans (Step.drew (R.kill id) n)
    have hes : ∀ v ∈ (ob.es.drop s).take l ++ xs, v.cells.length = x.size := by
      intro v hv
      rcases List.mem_append.1 hv with hv | hv
      · rcases B.place with hp | ⟨b, o, c, el, _, _, _, _, _, hrow⟩
        · have : l = 0 := by omega
          subst this; simp at hv
        · rw [← hok]; exact hrow.lens v (List.mem_of_mem_drop (List.mem_of_mem_take hv))
      · exact hk v hv
    have hE : ∀ {kk : Bool}, (kk = true → kp = true) → Ext w I (osig kk σ) w.drew I (osig kp σ) := fun hh => (Ext.heap rfl : Ext w I (osig _ σ) w.drew I (osig _ σ)).trans (osig_le hh)
    refine ⟨_, _, _, hrun, s1.trans (flat_new s1.rel c hn' hsn hes (us := olds ++ news) ?_ hcs), ?_⟩
    · rw [flat_append]
      exact (RepC.ext' _ _ (hE hkb) hor).append (RepC.ext' _ _ (hE hkx) hr)
    · have := hdr_rep w.drew I σ (n := n) (k := x.size) (l := l + xs.length) (cap := g) (c := c) (el := e) hge hlem hsz
      simpa using this
  · have hroom : l + xs.length ≤ cap := by omega
    rcases B.place with hp | ⟨b, o, c, el, hsg, rfl, hbl, hle1, hle2, hrow⟩
    · subst hp
      have h0 : xs = [] := List.eq_nil_of_length_eq_zero (by omega)
      have hl0 : l = 0 := by omega
      subst h0; subst hl0
      have hnews : news = [] := by
        have := hs.newsLen; simp at this; exact this
      subst hnews
      refine ⟨_, w, σ, run_append_zero t tx ty e i ht hi ad 0 0 (Nat.le_refl _) y (by rw [hisz]; exact hs), ?_, ?_⟩
      · have := (Step.kill R id n).trans (Step.nil (R.kill id) (k := x.size) (keep := kp) hn' hsn)
        simpa using this
      · simp only [Rep]
        exact ⟨ad, 0, rfl, by simp, by simp [maxLen], .inl rfl⟩
    · 
      have hcs : news.length = xs.length * x.size := hs.newsLen
      have hmul : (s + cap) * ob.k = s * ob.k + cap * ob.k := Nat.add_mul ..
      have hmul2 : (l + xs.length) * ob.k ≤ cap * ob.k := Nat.mul_le_mul_right _ hroom
      rw [Nat.add_mul] at hmul2
      have hmul3 : (s + l) * ob.k = s * ob.k + l * ob.k := Nat.add_mul ..
      have hfit2 : o + (s + l) * ob.k + news.length ≤ c.size := by rw [hcs, ← hok]; omega
      have hrun := run_append_in (w := w) (P := P) t tx ty e i ht hi (b := b) (p := o + s * ob.k) (sLen := l) (sCap := cap) (x := y) (n := xs.length) (news := news) (by rw [hisz]; exact hs) hroom hbl
        (by rw [hisz, ← hok]; omega)
      rw [hisz, ← hok, show o + s * ob.k + l * ob.k = o + (s + l) * ob.k by omega] at hrun
      have hI : ¬ I b := (R.owned ⟨id, ob, o, ob.k, hob, hsg⟩).1
      have E : Ext w I σ (w.setRow b (over c (o + (s + l) * ob.k) news)) I σ := Ext.setRow hI hbl (over_size hfit2)
      have hset : RowAt _ b (over c (o + (s + l) * ob.k) news) el := hbl.set (over_size hfit2)
      have hseg := hrow.seg 0 (s + l)
      simp only [List.drop_zero, Nat.zero_mul, Nat.add_zero] at hseg
      obtain ⟨us, hul, huc, hur⟩ := row_flat hseg
      have htl : (ob.es.take (s + l)).length = s + l := by simp; omega
      rw [htl] at hul
      have hrow' : RepRow (w.setRow b (over c (o + (s + l) * ob.k) news)) I (osig kp σ) (ob.es.take (s + l) ++ xs) ob.k b o := by
        refine flat_row (E.ofKeep kp) (us := us ++ news) (fun v hv => ?_) ?_ (fun j v hv => ?_)
        · rcases List.mem_append.1 hv with hv | hv
          · exact hrow.lens v (List.mem_of_mem_take hv)
          · rw [hok]; exact hk v hv
        · rw [flat_append]
          exact (RepC.ext' _ _ (osig_le hkb) hur).append (RepC.ext' _ _ (osig_le hkx) hr)
        · rw [hset.cell, over_get hfit2]
          by_cases hj : j < us.length
          · rw [List.getElem?_append_left hj] at hv
            rw [if_neg (by omega)]
            have := huc j v hv
            rwa [hbl.cell] at this
          · have hjl := (List.getElem?_eq_some_iff.1 hv).1
            rw [List.length_append] at hjl
            rw [List.getElem?_append_right (by omega)] at hv
            rw [if_pos (by omega), show o + j - (o + (s + l) * ob.k) = j - us.length by omega]
            exact hv
      have hle3 : o + (ob.es.take (s + l) ++ xs).length * ob.k ≤ c.size := by
        rw [List.length_append, htl, Nat.add_mul]
        rw [hcs, ← hok] at hfit2
        omega
      have s1 := R.write (keep := kp) hob hsg hbl (over_size hfit2) hle3 hrow' n
      have hob1 : upd h id (some (⟨ob.k, ob.es.take (s + l) ++ xs, kp⟩ : Ob)) id = some ⟨ob.k, ob.es.take (s + l) ++ xs, kp⟩ := by simp [upd]
      have hn1 : upd h id (some (⟨ob.k, ob.es.take (s + l) ++ xs, kp⟩ : Ob)) n = none := by simp [upd, hne, hn]
      have s2 := Step.rebase s1.rel (n := n) (s := s) (kp := kp) hob1 hsg hn1 hsn (fun hh => hh) hset (by rw [over_size hfit2]; exact hle3) hrow' (by rw [List.length_append, htl]; omega)
      have s3 := s1.trans s2
      have hdrop : (ob.es.take (s + l) ++ xs).drop s = (ob.es.drop s).take l ++ xs := by
        rw [List.drop_append_of_le_length (by rw [htl]; omega), List.drop_take]
        congr 2; omega
      refine ⟨_, _, upd σ n (some (b, o + s * ob.k, ob.k)), hrun, ?_, ?_⟩
      · have hupd : upd (upd h id (some (⟨ob.k, ob.es.take (s + l) ++ xs, kp⟩ : Ob))) id none = upd h id none := by
          funext q; simp only [upd]; split <;> rfl
        rw [hupd, hdrop] at s3
        rw [← hok]; exact s3
      · simp only [Rep]
        obtain ⟨fz, hset2⟩ := hset.at
        exact ⟨_, cap, rfl, hroom, B.max, .inr ⟨b, o + s * ob.k, ob.k, _, el, fz, by simp [upd], by simp, hset2, by rw [over_size hfit2, Nat.zero_add]; omega⟩⟩
theorem src_own {v : V} {xs : List V} {kx : Bool} (he : elems h v = some (xs, kx)) (R : Rel w I σ h) {k : Nat} (hl : ∀ e ∈ xs, e.cells.length = k) : ∀ id s l, v = .hdr id s l → ∃ ob, h id = some ob ∧ (xs ≠ [] → ob.k = k) := by
  rintro id s l rfl
  simp only [elems] at he
  cases hob : h id with
  | none => simp [hob] at he
  | some ob =>
    refine ⟨ob, rfl, fun hne => ?_⟩
    simp only [hob] at he
    split at he
    · simp only [Option.some.injEq, Prod.mk.injEq] at he
      obtain ⟨rfl, rfl⟩ := he
      obtain ⟨v, hv⟩ := List.exists_mem_of_ne_nil _ hne
      rw [← hl v hv]
      have hm := List.mem_of_mem_drop (List.mem_of_mem_take hv)
      obtain ⟨i, hi⟩ := List.getElem?_of_mem hm
      obtain ⟨b', o', c', el', _, _, _, _, hrow⟩ := R.at hob hi
      exact (hrow.lens v hm).symm
    · cases he
theorem list2 {α : Type} {a : Array α} {x y : α} (h : a.toList = [x, y]) : a = #[x, y] := by rw [← h]
theorem tys2 {α : Type} {a : Array α} {x y : α} {r : List α} (h : a.toList = x :: y :: r) : a[0]? = some x ∧ a[1]? = some y := by
  rw [← Array.getElem?_toList, ← Array.getElem?_toList, h]; simp
theorem append_tys {tys : Array TypeId} {t u : TypeId} {r : List TypeId} (ht : tys.toList = t :: u :: r) (ty : TypeId) (args : Array Value) : Builtin.append_ tys ty args = Builtin.append_ #[t, u] ty args := by
  simp [Builtin.append_, tys2 ht]
theorem copy_tys {tys : Array TypeId} {t u : TypeId} {r : List TypeId} (ht : tys.toList = t :: u :: r) (ty : TypeId) (args : Array Value) : Builtin.copy_ tys ty args = Builtin.copy_ #[t, u] ty args := by
  simp [Builtin.copy_, tys2 ht]
end
end Go.Abs
namespace Go.Abs
open Go
section
variable {X : Env} {o : Oper} {a : Act} {w : World} {I : Nat → Prop} {σ : Sig} {S S1 : St}
theorem all_len {xs : List V} {k : Nat} (h : (xs.all fun v => v.cells.length == k) = true) : ∀ v ∈ xs, v.cells.length = k := by
  intro v hv
  simpa using List.all_eq_true.1 h v hv
theorem sim_append {args : Array Operand} {tys : Array TypeId} (ho : o.op = .call ⟨.builtin .append, args, tys⟩) {t u : TypeId} {r : List TypeId} (hty : tys.toList = t :: u :: r)
    (hu : X.P.underlying t = some (.slice (X.ti t).elem)) (T : TIOk X.P (X.ti t).elem (X.ti (X.ti t).elem)) (huk0 : ((∃ e', X.P.underlying u = some (.slice e')) ∨ X.P.underlying u = some .string) ∨ (X.ti u).kind.isSome = true)
    (R : Rel w I σ S.h) (F : FRel w I σ S.f a) (hx : Opds o) (hn : S.h S.n = none) (hsn : σ S.n = none) (fid : FuncId) {v0 : V} {hh0 : Heap} {nn0 : Nat} (he : evCore X fid o S.ev S.h S.n = some (v0, hh0, nn0)) (hs1 : S1 = ({ S with h := hh0, n := nn0 } : St).set o.dst v0) : Out X o a w I σ S S1 := by
  have ht0 : tys.getD 0 0 = t := by
    have := (tys2 hty).1
    simp [Array.getD_eq_getD_getElem?, this]
  have ht1 : tys.getD 1 0 = u := by
    have := (tys2 hty).2
    simp [Array.getD_eq_getD_getElem?, this]
  simp only [evCore, ho, ht0, ht1] at he
  split at he
  case h_2 => cases he
  rename_i s x hargs
  cases hal : args.toList with
  | nil => simp [hal] at hargs
  | cons p q =>
  cases q with
  | nil => simp [hal] at hargs
  | cons q q2 =>
  cases q2 with
  | cons _ _ => simp [hal] at hargs
  | nil =>
  simp only [hal, List.map_cons, List.map_nil, List.cons.injEq, and_true] at hargs
  obtain ⟨rfl, rfl⟩ := hargs
  have harg := list2 hal
  have r1 : Rep w I σ (S.ev p) (a.eval p) := ev_rep (S := S) F (hx p (by simp [ho, Op.operands, Call.operands, harg]))
  have r2 : Rep w I σ (S.ev q) (a.eval q) := ev_rep (S := S) F (hx q (by simp [ho, Op.operands, Call.operands, harg]))
  have hrun : ∀ {v : Value} {w' : World}, (Builtin.append_ #[t, u] o.type #[a.eval p, a.eval q]).run X.P w = .ok v w' → (execOp a.eval o).run X.P w = .ok (.value v) w' := by
    intro v w' hh
    simp [execOp, ho, harg, resolve, invoke, builtin, append_tys hty, hh]
  cases he1 : elems S.h (S.ev p) with
  | none => simp [he1] at he
  | some y1 =>
  obtain ⟨es, kb⟩ := y1
  cases he2 : elems S.h (S.ev q) with
  | none => simp [he1, he2] at he
  | some y2 =>
  obtain ⟨xs, kx⟩ := y2
  simp only [he1, he2] at he
  split at he
  · cases he
  rename_i hc1
  simp only [Bool.or_eq_true, Bool.and_eq_true, Bool.not_eq_true', not_or, not_and, Bool.not_eq_false] at hc1
  obtain ⟨⟨hc1, hlen⟩, hknd⟩ := hc1
  have huk := huk0.resolve_right (by simpa using hknd)
  have hxl := all_len hlen
  split at he
  case isFalse => cases he
  rename_i hfit
  have hkb : kb = true → X.keepT fid (X.ti t).elem = true := fun h => hc1 (.inl h)
  have hkx : kx = true → X.keepT fid (X.ti t).elem = true := fun h => hc1 (.inr h)
  obtain ⟨news, hsrc, hnr⟩ := src_sim huk R r2 he2 hxl (src_own he2 R hxl)
  split at he
  · 
    rename_i hp
    simp only [Option.some.injEq, Prod.mk.injEq] at he
    obtain ⟨rfl, rfl, rfl⟩ := he
    subst hs1
    rw [hp] at r1
    have h0 : es = [] := by rw [hp] at he1; simp only [elems, Option.some.injEq, Prod.mk.injEq] at he1; exact he1.1.symm
    subst h0
    obtain ⟨v, w', σ', h1, h2, h3⟩ := append_nothing (ty := o.type) R hu T r1 hkx hxl hsrc hnr hn hsn (by simpa using hfit.1) (by simpa using hfit.2)
    refine ⟨_, w', I, σ', v, _, hrun h1, .inl rfl, ?_, set_f _ _ _ _ rfl, h3⟩
    rw [set_h, set_n]; exact h2
  · rename_i es' hne hp
    split at he
    · cases he
    rename_i hc2
    simp only [Bool.or_eq_true, Bool.not_eq_true', not_or, Bool.not_eq_true, Bool.not_eq_false] at hc2
    simp only [Option.some.injEq, Prod.mk.injEq] at he
    obtain ⟨rfl, rfl, rfl⟩ := he
    subst hs1
    rw [hp] at r1
    have h0 : es = es' ∧ kb = false := by rw [hp] at he1; simp only [elems, Option.some.injEq, Prod.mk.injEq] at he1; exact ⟨he1.1.symm, he1.2.symm⟩
    obtain ⟨rfl, _⟩ := h0
    rw [hc2.1] at hnr
    obtain ⟨v, w', I', h1, h2, h3⟩ := append_imm (ty := o.type) R hu T r1 (all_len hc2.2) hxl hsrc hnr S.n hfit.1 hfit.2
    refine ⟨_, w', I', σ, v, _, hrun h1, .inl rfl, ?_, rfl, h3⟩
    rw [set_h, set_n]; exact h2
  · rename_i id s l hp
    split at he
    case h_2 => cases he
    rename_i ob hob
    split at he
    case isFalse => cases he
    rename_i hk
    simp only [Option.some.injEq, Prod.mk.injEq] at he
    obtain ⟨rfl, rfl, rfl⟩ := he
    subst hs1
    rw [hp] at r1
    rw [hp] at he1
    simp only [elems, hob] at he1
    split at he1
    case isFalse => cases he1
    rename_i hsl
    simp only [Option.some.injEq, Prod.mk.injEq] at he1
    obtain ⟨rfl, rfl⟩ := he1
    have hseglen : ((ob.es.drop s).take l).length = l := by simp; omega
    rw [hseglen] at hfit ⊢
    obtain ⟨v, w', σ', h1, h2, h3⟩ := append_hdr (ty := o.type) R hu T r1 hob hk hsl hkx hkb hxl hsrc hnr hn hsn hfit.1 hfit.2
    refine ⟨_, w', I, σ', v, _, hrun h1, .inl rfl, ?_, set_f _ _ _ _ rfl, h3⟩
    rw [set_h, set_n]; exact h2
  · cases he
theorem first_sim {P : Program} {h : Heap} (R : Rel w I σ h) {x : V} {u : Value} {xs : List V} {kx : Bool} (hr : Rep w I σ x u) (he : elems h x = some (xs, kx)) (hns : x.isStr = false)
    {k : Nat} (hl : ∀ e ∈ xs, e.cells.length = k) (m : Nat) (hm : m ≤ xs.length) :
    (∀ w', (Builtin.lenOf u).run P w' = .ok xs.length w') ∧ ∃ news : List Value, news.length = m * k ∧ (Builtin.firstCells k m u).run P w = .ok news.toArray w ∧ RepC w I (osig kx σ) (flat (xs.take m)) news := by
  have mk : ∀ {ad : Addr} {n cap : Nat} {b o : Nat} {τ : Sig}, ad = ⟨b, o, none⟩ → RepRow w I τ xs k b o → ∃ news : List Value, news.length = m * k ∧ (Builtin.firstCells k m (.slice (some ad) n cap)).run P w = .ok news.toArray w ∧ RepC w I τ (flat (xs.take m)) news := by
    intro ad n cap b o τ had hrow
    subst had
    have hs := hrow.seg 0 m
    simp only [List.drop_zero, Nat.zero_mul, Nat.add_zero] at hs
    obtain ⟨us, h1, h2, h3⟩ := row_flat hs
    have : (xs.take m).length = m := by simp; omega
    rw [this] at h1
    exact ⟨us, h1, run_firstCells_some w k m _ _ cap us h1 (fun j v hv => by rw [add_at]; exact h2 j v hv), h3⟩
  have mk0 : ∀ {ad : Option Addr} {n cap : Nat}, xs = [] → ∃ news : List Value, news.length = m * k ∧ (Builtin.firstCells k m (.slice ad n cap)).run P w = .ok news.toArray w ∧ RepC w I (osig kx σ) (flat (xs.take m)) news := by
    intro ad n cap h0
    subst h0
    have : m = 0 := by simpa using hm
    subst this
    refine ⟨[], by simp, ?_, by simp [flat, RepC]⟩
    cases ad <;> simp [Builtin.firstCells, loadCells, loadCellsFrom]
  cases x with
  | sl c es =>
    simp only [elems, Option.some.injEq, Prod.mk.injEq] at he
    obtain ⟨rfl, rfl⟩ := he
    simp only [Rep] at hr
    obtain ⟨ad, cap, rfl, _, _, _, h4⟩ := hr
    refine ⟨fun w' => by simp [Builtin.lenOf], ?_⟩
    rcases h4 with h4 | ⟨b, o, k', rfl, hI, hrow⟩
    · exact mk0 h4
    · by_cases h0 : es = []
      · exact mk0 h0
      · have hkk : k' = k := by
          obtain ⟨e, he⟩ := List.exists_mem_of_ne_nil es h0
          rw [← hrow.lens e he]; exact hl e he
        subst hkk
        exact mk rfl hrow
  | hdr id s l =>
    have hso := src_own (h := h) (v := .hdr id s l) he R hl id s l rfl
    obtain ⟨ob, hob, hko⟩ := hso
    simp only [elems, hob] at he
    split at he
    case isFalse => cases he
    rename_i hsl
    simp only [Option.some.injEq, Prod.mk.injEq] at he
    obtain ⟨rfl, rfl⟩ := he
    obtain ⟨ad, cap, rfl, B⟩ := based R hr hob
    have hln : ((ob.es.drop s).take l).length = l := by simp; omega
    refine ⟨fun w' => by rw [hln]; simp [Builtin.lenOf], ?_⟩
    by_cases h0 : (ob.es.drop s).take l = []
    · exact mk0 h0
    · rcases B.place with hp | ⟨b, o, c, el, hs, rfl, hb, hle, hle2, hrow⟩
      · exfalso
        have := B.le
        rw [hp] at this
        apply h0
        have : l = 0 := by omega
        subst this; simp
      · have hk' := hko h0
        have := hrow.seg s l
        rw [hk'] at this
        exact mk (by rw [hk']) this
  | str s => cases hns
  | _ => simp [elems] at he
theorem sim_copy {args : Array Operand} {tys : Array TypeId} (ho : o.op = .call ⟨.builtin .copy, args, tys⟩) {t u : TypeId} {r : List TypeId} (hty : tys.toList = t :: u :: r)
    (hu : X.P.underlying t = some (.slice (X.ti t).elem)) (T : TIOk X.P (X.ti t).elem (X.ti (X.ti t).elem))
    (R : Rel w I σ S.h) (F : FRel w I σ S.f a) (hx : Opds o) (fid : FuncId) {v0 : V} {hh0 : Heap} {nn0 : Nat} (he : evCore X fid o S.ev S.h S.n = some (v0, hh0, nn0)) (hs1 : S1 = ({ S with h := hh0, n := nn0 } : St).set o.dst v0) : Out X o a w I σ S S1 := by
  have ht0 : tys.getD 0 0 = t := by
    have := (tys2 hty).1
    simp [Array.getD_eq_getD_getElem?, this]
  simp only [evCore, ho, ht0] at he
  split at he
  case h_2 => cases he
  rename_i id s l x hargs
  cases hal : args.toList with
  | nil => simp [hal] at hargs
  | cons p q =>
  cases q with
  | nil => simp [hal] at hargs
  | cons q q2 =>
  cases q2 with
  | cons _ _ => simp [hal] at hargs
  | nil =>
  simp only [hal, List.map_cons, List.map_nil, List.cons.injEq, and_true] at hargs
  obtain ⟨hp, rfl⟩ := hargs
  have harg := list2 hal
  have r1 : Rep w I σ (S.ev p) (a.eval p) := ev_rep (S := S) F (hx p (by simp [ho, Op.operands, Call.operands, harg]))
  have r2 : Rep w I σ (S.ev q) (a.eval q) := ev_rep (S := S) F (hx q (by simp [ho, Op.operands, Call.operands, harg]))
  rw [hp] at r1
  cases hob : S.h id with
  | none => simp [hob] at he
  | some ob =>
  cases he2 : elems S.h (S.ev q) with
  | none => simp [hob, he2] at he
  | some y2 =>
  obtain ⟨xs, kx⟩ := y2
  simp only [hob, he2] at he
  split at he
  · cases he
  rename_i hc1
  simp only [Bool.or_eq_true, Bool.and_eq_true, Bool.not_eq_true', not_or, not_and, Bool.not_eq_false, Bool.not_eq_true] at hc1
  obtain ⟨⟨hns, hkx⟩, hlen⟩ := hc1
  have hxl := all_len hlen
  split at he
  case isFalse => cases he
  rename_i hfit
  simp only [Option.some.injEq, Prod.mk.injEq] at he
  obtain ⟨rfl, rfl, rfl⟩ := he
  subst hs1
  obtain ⟨hln, news, hnl, hfc, hnr⟩ := first_sim (P := X.P) R r2 he2 hns hxl (min xs.length l) (Nat.min_le_left _ _)
  obtain ⟨ad, cap, hpv, B⟩ := based R r1 hob
  have hrun : ∀ {v : Value} {w' : World}, (Builtin.copy_ #[t, u] o.type #[a.eval p, a.eval q]).run X.P w = .ok v w' → (execOp a.eval o).run X.P w = .ok (.value v) w' := by
    intro v w' hh
    simp [execOp, ho, harg, resolve, invoke, builtin, copy_tys hty, hh]
  have hmin : Nat.min xs.length l = min xs.length l := rfl
  have hsz := run_sizeOf T w
  by_cases h0 : min xs.length l = 0
  · refine ⟨.value (.int .i64 ((min xs.length l : Nat) : Int)), w, I, σ, _, .int .i64 ((min xs.length l : Nat) : Int), ?_, .inl rfl, ?_, set_f _ _ _ _ rfl, by simp [Rep]⟩
    · have hnews : news = [] := by
        rw [h0] at hnl; simpa using hnl
      subst hnews
      rw [h0] at hfc ⊢
      apply hrun
      cases ad with
      | none => simp [Builtin.copy_, run_underlying hu, hpv, hln, hmin, h0, hsz, ← hfit.2, hfc, goInt]
      | some ad => simp [Builtin.copy_, run_underlying hu, hpv, hln, hmin, h0, hsz, ← hfit.2, hfc, goInt, storeCells]
    · rw [set_h, set_n]
      have : upd S.h id (some { ob with es := ob.es.take s ++ xs.take (min xs.length l) ++ ob.es.drop (s + min xs.length l) }) = S.h := by
        funext i
        simp only [upd, h0, List.take_zero, List.append_nil, Nat.add_zero, List.take_append_drop]
        split
        · rename_i e; subst e; exact hob.symm
        · rfl
      rw [this]
      exact Step.refl R _
  · have hle := B.le
    rcases B.place with hp0 | ⟨b, of, c, el, hsg, rfl, hbl, hle1, hle2, hrow⟩
    · omega
    · generalize hm : min xs.length l = m at *
      have hml : m ≤ l := by omega
      have hmx : m ≤ xs.length := by omega
      have hI : ¬ I b := (R.owned ⟨id, ob, of, ob.k, hob, hsg⟩).1
      have hmul : (s + l) * ob.k ≤ ob.es.length * ob.k := Nat.mul_le_mul_right _ hfit.1
      have hmul2 : m * ob.k ≤ l * ob.k := Nat.mul_le_mul_right _ hml
      rw [Nat.add_mul] at hmul
      have hfit2 : of + s * ob.k + news.length ≤ c.size := by rw [hnl]; omega
      have E : Ext w I σ (w.setRow b (over c (of + s * ob.k) news)) I σ := Ext.setRow hI hbl (over_size hfit2)
      have hset : RowAt _ b (over c (of + s * ob.k) news) el := hbl.set (over_size hfit2)
      have hst := store_rows (P := X.P) (b := b) (p := of + s * ob.k) news 0 c w hbl (by simpa using hfit2) fun v hv => hnr.ones v (by simpa using hv)
      simp only [Nat.add_zero] at hst
      obtain ⟨us, hul, huc, hur⟩ := row_flat hrow
      have hrow' : RepRow (w.setRow b (over c (of + s * ob.k) news)) I (osig ob.keep σ) (ob.es.take s ++ xs.take m ++ ob.es.drop (s + m)) ob.k b of := by
        have hA := hrow.seg 0 s
        simp only [List.drop_zero, Nat.zero_mul, Nat.add_zero] at hA
        obtain ⟨ua, hual, huac, huar⟩ := row_flat hA
        have hC := hrow.seg (s + m) (ob.es.length - (s + m))
        rw [List.take_of_length_le (by simp)] at hC
        obtain ⟨uc, hucl, hucc, hucr⟩ := row_flat hC
        have htl : (ob.es.take s).length = s := by simp; omega
        have hdl : (ob.es.drop (s + m)).length = ob.es.length - (s + m) := by simp
        rw [htl] at hual
        rw [hdl] at hucl
        have hsplit : (s + m) * ob.k = s * ob.k + m * ob.k := Nat.add_mul ..
        refine flat_row (E.ofKeep ob.keep) (us := ua ++ news ++ uc) (fun v hv => ?_) ?_ (fun j v hv => ?_)
        · rcases List.mem_append.1 hv with hv | hv
          · rcases List.mem_append.1 hv with hv | hv
            · exact hrow.lens v (List.mem_of_mem_take hv)
            · exact hxl v (List.mem_of_mem_take hv)
          · exact hrow.lens v (List.mem_of_mem_drop hv)
        · rw [flat_append, flat_append]
          exact (huar.append (RepC.ext' _ _ (osig_le hkx) hnr)).append hucr
        · rw [hset.cell, over_get hfit2]
          have hjl := (List.getElem?_eq_some_iff.1 hv).1
          rw [List.length_append, List.length_append] at hjl
          by_cases hj : j < ua.length
          · rw [List.append_assoc, List.getElem?_append_left hj] at hv
            rw [if_neg (by omega)]
            have := huac j v hv
            rwa [hbl.cell] at this
          · by_cases hj2 : j < (ua ++ news).length
            · rw [List.getElem?_append_left hj2, List.getElem?_append_right (by omega)] at hv
              rw [List.length_append] at hj2
              rw [if_pos (by omega), show of + j - (of + s * ob.k) = j - ua.length by omega]
              exact hv
            · rw [List.getElem?_append_right (by omega), List.length_append] at hv
              rw [List.length_append] at hj2
              rw [if_neg (by omega)]
              have := hucc _ v hv
              rw [hbl.cell] at this
              rwa [show of + (s + m) * ob.k + (j - (ua.length + news.length)) = of + j by omega] at this
      have hlen2 : (ob.es.take s ++ xs.take m ++ ob.es.drop (s + m)).length = ob.es.length := by simp; omega
      have s1 := R.write (keep := ob.keep) hob hsg hbl (over_size hfit2) (by rw [hlen2]; exact hle1) hrow' S.n
      refine ⟨.value (.int .i64 ((m : Nat) : Int)), w.setRow b (over c (of + s * ob.k) news), I, σ, _, .int .i64 ((m : Nat) : Int), ?_, .inl rfl, ?_, set_f _ _ _ _ rfl, by simp [Rep]⟩
      rotate_left
      · rw [set_h, set_n]; exact s1
      · apply hrun
        simp [Builtin.copy_, run_underlying hu, hpv, hln, hmin, hm, hsz, ← hfit.2, hfc, goInt, hst, over]
theorem bytesOf_spec : ∀ {xs : List V} {s : List UInt8}, bytesOf xs = some s → ∃ ns : List Int, xs = ns.map (V.int .u8) ∧ s = ns.map fun n => UInt8.ofNat n.toNat
  | [], s, h => by
    simp only [bytesOf, List.map_nil, allSome, Option.some.injEq] at h
    subst h
    exact ⟨[], rfl, rfl⟩
  | x :: xs, s, h => by
    unfold bytesOf at h
    simp only [List.map_cons] at h
    cases hx : byteOf x with
    | none => simp [hx, allSome] at h
    | some b =>
      simp only [hx, allSome] at h
      split at h
      case h_2 => cases h
      rename_i l hl
      simp only [Option.some.injEq] at h
      subst h
      obtain ⟨ns, rfl, rfl⟩ := bytesOf_spec (xs := xs) hl
      unfold byteOf at hx
      split at hx
      · rename_i n
        simp only [Option.some.injEq] at hx
        subst hx
        exact ⟨n :: ns, rfl, rfl⟩
      · cases hx
theorem flat_ints : ∀ ns : List Int, flat (ns.map (V.int .u8)) = ns.map (V.int .u8)
  | [] => rfl
  | n :: ns => by
    have := flat_ints ns
    simp only [flat, List.map_cons, List.flatMap_cons, V.cells] at this ⊢
    rw [this]; rfl
theorem foldl_push (ns : List Int) : ∀ s : ByteArray, (ns.foldl (fun r n => r.push (UInt8.ofNat n.toNat)) s).data.toList = s.data.toList ++ ns.map fun n => UInt8.ofNat n.toNat := by
  induction ns with
  | nil => intro s; simp
  | cons n ns ih => intro s; rw [List.foldl_cons, ih]; simp [ByteArray.push]
theorem bytes_sim {P : Program} {h : Heap} (R : Rel w I σ h) {x : V} {u : Value} {xs : List V} {kx : Bool} {s : List UInt8} (hr : Rep w I σ x u) (he : elems h x = some (xs, kx)) (hns : x.isStr = false) (hb : bytesOf xs = some s)
    {src dst e : TypeId} (hs : P.underlying src = some (.slice e)) (hue : P.underlying e = some (.int .u8)) (hd : P.underlying dst = some .string) : ∃ y : ByteArray, (convert src dst u).run P w = .ok (.string y) w ∧ y.data.toList = s := by
  obtain ⟨ns, rfl, rfl⟩ := bytesOf_spec hb
  have hl : ∀ e ∈ ns.map (V.int .u8), e.cells.length = 1 := by
    intro e he
    obtain ⟨n, _, rfl⟩ := List.mem_map.1 he
    rfl
  obtain ⟨h1, news, h2, h3, h4⟩ := first_sim (P := P) R hr he hns hl ns.length (by simp)
  rw [List.take_of_length_le (by simp), flat_ints] at h4
  have hnews : news = ns.map (Value.int .u8) := by
    rw [RepC_iff] at h4
    refine List.ext_getElem? fun j => ?_
    by_cases hj : j < ns.length
    · have hj' : j < news.length := by omega
      have := (h4.2 j (V.int .u8 ns[j]) news[j] (by simp [hj]) (List.getElem?_eq_getElem hj')).2
      simp only [Rep] at this
      rw [List.getElem?_eq_getElem hj', this]; simp [hj]
    · rw [List.getElem?_eq_none (by omega), List.getElem?_eq_none (by simp; omega)]
  subst hnews
  have hu : ∃ ad cap, u = .slice ad ns.length cap := by
    cases x with
    | sl c es =>
      simp only [elems, Option.some.injEq, Prod.mk.injEq] at he
      obtain ⟨rfl, _⟩ := he
      simp only [Rep] at hr
      obtain ⟨ad, cap, rfl, _⟩ := hr
      exact ⟨ad, cap, by simp⟩
    | hdr id st l =>
      simp only [Rep] at hr
      obtain ⟨ad, cap, rfl, _⟩ := hr
      have := h1 w
      simp [Builtin.lenOf] at this
      subst this
      exact ⟨ad, cap, rfl⟩
    | str s => cases hns
    | _ => simp [elems] at he
  obtain ⟨ad, cap, rfl⟩ := hu
  rw [run_convert_bytes_string w src dst e ad _ cap hs hue hd]
  cases ad with
  | none =>
    have : ns = [] := by
      simp [Builtin.firstCells] at h3
      exact h3
    subst this
    exact ⟨.empty, by simp [Conv.bytesToString], rfl⟩
  | some a =>
    refine ⟨_, run_bytesToString w a _ cap ns ?_, ?_⟩
    · simpa [Builtin.firstCells] using h3
    · rw [foldl_push]; rfl
theorem sim_bytes {s d : TypeId} {x : Operand} {es : List V} {kx : Bool} {bs : List UInt8} (ho : o.op = .convert s d x) {e : TypeId} (hs : X.P.underlying s = some (.slice e)) (hue : X.P.underlying e = some (.int .u8)) (hd : X.P.underlying d = some .string)
    (R : Rel w I σ S.h) (F : FRel w I σ S.f a) (hx : Opds o) (he : elems S.h (S.ev x) = some (es, kx)) (hns : (S.ev x).isStr = false) (hb : bytesOf es = some bs) (hs1 : S1 = S.set o.dst (.str bs)) : Out X o a w I σ S S1 := by
  have h1 : Rep w I σ (S.ev x) (a.eval x) := ev_rep (S := S) F (hx x (by simp [ho, Op.operands]))
  obtain ⟨y, hy, rfl⟩ := bytes_sim R h1 he hns hb hs hue hd
  exact Out.pure (u := .string y) R (by simp [execOp, ho, hy]) (by simp only [Rep]; exact ⟨y, rfl, rfl⟩) hs1
theorem new_at {h : Heap} (R : Rel w I σ h) {w2 : World} {n k : Nat} {es : List V} {keep : Bool} {us : List Value} {c : Array Value} {el : TypeId} (hz : w2.heap.size = w.heap.size + 1) (hold : ∀ b, b < w.heap.size → w2.heap[b]? = w.heap[b]?)
    (hat : RowAt w2 w.heap.size c el) (h1 : w2.os = w.os) (h2 : w2.tape = w.tape) (h3 : w2.output = w.output) (hn : h n = none) (hs : σ n = none)
    (hk : ∀ e ∈ es, e.cells.length = k) (hr : RepC w I (osig keep σ) (flat es) us) (hc : ∀ (j : Nat) u, us[j]? = some u → c[j]? = some u) :
    Step w I σ h n w2 I (upd σ n (some (w.heap.size, 0, k))) (upd h n (some ⟨k, es, keep⟩)) (n + 1) := by
  have hlen : us.length = es.length * k := by rw [← ((RepC_iff _ _).1 hr).1, flat_length hk]
  have hle : es.length * k ≤ c.size := by
    by_cases h0 : us.length = 0
    · omega
    · have hlast : us[us.length - 1]? = some (us[us.length - 1]'(by omega)) := by simp
      have := (Array.getElem?_eq_some_iff.1 (hc _ _ hlast)).1
      omega
  have E0 : Ext w I σ w2 I σ :=
    ⟨fun b hb => hold b (R.imm b hb), fun b c el fz h => ⟨c, fz, by rw [hold b (Array.getElem?_eq_some_iff.1 h).1]; exact h, rfl⟩, fun _ h => h, fun _ _ h => h⟩
  have E : Ext w I σ w2 I (upd σ n (some (w.heap.size, 0, k))) := E0.trans (Ext.sig' hs)
  have R0 : Rel w2 I σ h := R.keep E0 (fun b hb => by rw [hz]; have := R.imm b hb; omega) (fun b hb => by
    obtain ⟨hi, c, el, hh⟩ := R.owned hb
    exact ⟨hold b hh.lt, hi⟩) (fun _ _ => rfl)
  have hnI : ¬ I w.heap.size := fun hi => by have := R.imm _ hi; omega
  have hnO : ¬ Owns σ h w.heap.size := fun ho => by
    obtain ⟨_, c', el', hh⟩ := R.owned ho
    have := hh.lt
    omega
  have hrow : RepRow w2 I (osig keep (upd σ n (some (w.heap.size, 0, k)))) es k w.heap.size 0 := flat_row (E.ofKeep keep) hk hr fun j u hu => by
    rw [hat.cell]
    simpa using hc j u hu
  have R1 := R0.adopt (n := n) (b := w.heap.size) (o := 0) (k := k) (es := es) (keep := keep) hn hs hat hnI hnO (by omega) hrow
  refine ⟨E, R1, h1, h2, h3, by omega, fun b hb _ => hold b hb, fun b hb => ?_, fun _ hb => .inl hb, by omega, fun id hid => by simp [upd]; omega, fun id hid hnn => by simp [upd, hnn]; omega⟩
  obtain ⟨id, ob, o, k', h1, h2⟩ := hb
  by_cases e : id = n
  · subst e
    simp [upd] at h2
    left; omega
  · right
    exact ⟨id, ob, o, k', by simpa [upd, e] using h1, by simpa [upd, e] using h2⟩
theorem sim_tobytes {s d : TypeId} {x : Operand} {bs : List UInt8} (ho : o.op = .convert s d x) (hsrc : (X.P.underlying s).isSome = true) (hd : X.P.underlying d = some (.slice (X.ti d).elem)) (T : TIOk X.P (X.ti d).elem (X.ti (X.ti d).elem))
    (hk : (X.ti (X.ti d).elem).kind = some .u8) (R : Rel w I σ S.h) (F : FRel w I σ S.f a) (hx : Opds o) (hn : S.h S.n = none) (hsn : σ S.n = none) (he : S.ev x = .str bs) (hl : bs.length ≤ 2 ^ 62)
    (hs : S1 = (S.new ⟨1, bs.map fun c => .int .u8 c.toNat, false⟩).set o.dst (.hdr S.n 0 bs.length)) : Out X o a w I σ S S1 := by
  subst hs
  have h1 : Rep w I σ (S.ev x) (a.eval x) := ev_rep (S := S) F (hx x (by simp [ho, Op.operands]))
  rw [he] at h1
  simp only [Rep] at h1
  obtain ⟨y, hu, rfl⟩ := h1
  obtain ⟨ds, hds⟩ := Option.isSome_iff_exists.1 hsrc
  obtain ⟨e, hue, hb⟩ := T.und
  have hde : e = .int .u8 := by
    cases e <;> simp_all [descB]
  subst hde
  have hrun := Lib.run_convert_string_bytes (P := X.P) w s d (X.ti d).elem y hds hd hue
  have hy : y.data.toList.length = y.size := by rw [Array.length_toList]; rfl
  have hold : ∀ b, b < w.heap.size → (Lib.bytesWorld w (X.ti d).elem y).heap[b]? = w.heap[b]? := fun b hb => Lib.bytesWorld_at_old w _ y b hb
  have hnew := Lib.bytesWorld_at_new w (X.ti d).elem y
  have hat : RowAt (Lib.bytesWorld w (X.ti d).elem y) w.heap.size (Lib.bytesCells w (X.ti d).elem y) (X.ti d).elem := ⟨_, hnew, .inr (Nat.le_refl _)⟩
  have hfl : flat (y.data.toList.map fun c => V.int .u8 c.toNat) = y.data.toList.map fun c => V.int .u8 c.toNat := by
    have := flat_ints (y.data.toList.map fun c => (c.toNat : Int))
    simpa [List.map_map, Function.comp_def] using this
  have hall : ∀ e ∈ (y.data.toList.map fun c => V.int .u8 c.toNat), e.cells.length = 1 := by
    intro e he
    obtain ⟨n, _, rfl⟩ := List.mem_map.1 he
    rfl
  have hrep : RepC w I (osig false σ) (flat (y.data.toList.map fun c => V.int .u8 c.toNat)) (y.data.toList.map fun c => Value.int .u8 c.toNat) := by
    rw [hfl, RepC_iff]
    refine ⟨by simp, fun j c u hc hu => ?_⟩
    simp only [List.getElem?_map, Option.map_eq_some_iff] at hc hu
    obtain ⟨b, hb, rfl⟩ := hc
    obtain ⟨b', hb', rfl⟩ := hu
    rw [hb] at hb'
    cases hb'
    exact ⟨rfl, by simp [Rep]⟩
  have hcell : ∀ (j : Nat) u, (y.data.toList.map fun c => Value.int .u8 c.toNat)[j]? = some u → (Lib.bytesCells w (X.ti d).elem y)[j]? = some u := by
    intro j u hu
    have hj := (List.getElem?_eq_some_iff.1 hu).1
    simp only [List.length_map, hy] at hj
    rw [← hu]
    unfold Lib.bytesCells
    rw [Array.getElem?_append_left (by rw [Array.size_map]; exact hj)]
    simp
  refine ⟨_, Lib.bytesWorld w (X.ti d).elem y, I, upd σ S.n (some (w.heap.size, 0, 1)), .slice (some ⟨w.heap.size, 0, none⟩) y.size (grownCap w y.size 0 (X.ti d).elem), .hdr S.n 0 y.data.toList.length, by simp [execOp, ho, hu, hrun], .inl rfl, ?_, set_f _ _ _ _ rfl, ?_⟩
  · rw [set_h, set_n]
    exact new_at R (Lib.bytesWorld_size w _ y) hold hat rfl rfl rfl hn hsn hall hrep hcell
  · simp only [Rep]
    refine ⟨_, _, by rw [hy], by rw [hy]; exact grownCap_ge w _ 0 _, grownCap_le_maxLen w _ 0 _ (by rw [← hy]; simp only [maxLen]; omega), .inr ⟨w.heap.size, 0, 1, _, _, _, by simp [upd], by simp, hnew, ?_⟩⟩
    have := grownCap_ge w y.size 0 (X.ti d).elem
    have hsz : y.data.size = y.size := rfl
    unfold Lib.bytesCells
    rw [Array.size_append, Array.size_map, Array.size_replicate, hsz]
    omega
end
end Go.Abs
