/- Indexes, slices, lengths, literals. -/
import Derived.Test.YtcbddnmodlhnaaaA10
set_option linter.unusedVariables false
set_option linter.unusedSimpArgs false
namespace Go.Abs
open Go

theorem sliceB_spec {P : Program} {t : TypeId} {x : TI} (h : sliceB P t x = true) : P.underlying t = some (.slice x.elem) := by
  unfold sliceB at h
  split at h
  · rename_i e he
    have := beq_iff_eq.1 h
    rw [he, this]
  · cases h

section
variable {X : Env} {o : Oper} {a : Act} {w : World} {I : Nat → Prop} {σ : Sig} {S S1 : St}

theorem sim_index_sl {t : TypeId} {x ix : Operand} (ho : o.op = .indexAddr t x ix) (hu : X.P.underlying t = some (.slice (X.ti t).elem)) (T : TIOk X.P (X.ti t).elem (X.ti (X.ti t).elem)) (R : Rel w I σ S.h) (F : FRel w I σ S.f a) (hx : Opds o)
    {c : Bool} {es : List V} {k : IntKind} {n : Int} {e : V} (he : S.ev x = .sl c es) (hi : S.ev ix = .int k n) (h0 : 0 ≤ n ∧ n < es.length) (hg : es[n.toNat]? = some e) (hk : e.cells.length = (X.ti (X.ti t).elem).size)
    (hs : S1 = S.set o.dst (.ref e.cells)) : Out X o a w I σ S S1 := by
  have h1 : Rep w I σ (S.ev x) (a.eval x) := ev_rep (S := S) F (hx x (by simp [ho, Op.operands]))
  have h2 : Rep w I σ (S.ev ix) (a.eval ix) := ev_rep (S := S) F (hx ix (by simp [ho, Op.operands]))
  rw [he] at h1; rw [hi] at h2
  have hi2 := rep_int h2
  simp only [Rep] at h1
  obtain ⟨ad, cap, hsl, _, _, _, hr⟩ := h1
  rcases hr with hr | ⟨b, of, kk, rfl, hI, hrow⟩
  · subst hr; simp at hg
  · have hgk := hrow.get hg
    have hkk : kk = (X.ti (X.ti t).elem).size := by rw [← hk]; exact hgk.1.symm
    refine Out.pure (u := .pointer (some ⟨b, of + n.toNat * (X.ti (X.ti t).elem).size, none⟩)) R ?_ ?_ hs
    · simp [execOp, ho, hsl, hi2, Instr.indexAt, run_underlying hu, asIntOf, h0, run_sizeOf T, add_at]
    · simp only [Rep]
      exact ⟨b, _, rfl, hI, by rw [RepAt_iff, ← hkk]; exact hgk.2⟩

theorem sim_index_hdr {t : TypeId} {x ix : Operand} (ho : o.op = .indexAddr t x ix) (hu : X.P.underlying t = some (.slice (X.ti t).elem)) (T : TIOk X.P (X.ti t).elem (X.ti (X.ti t).elem)) (R : Rel w I σ S.h) (F : FRel w I σ S.f a) (hx : Opds o)
    {id s l : Nat} {k : IntKind} {n : Int} {ob : Ob} (he : S.ev x = .hdr id s l) (hi : S.ev ix = .int k n) (h0 : 0 ≤ n ∧ n < l) (hg : S.h id = some ob) (hk : ob.k = (X.ti (X.ti t).elem).size)
    (hs : S1 = S.set o.dst (.ptr id (s + n.toNat) 0)) : Out X o a w I σ S S1 := by
  have h1 : Rep w I σ (S.ev x) (a.eval x) := ev_rep (S := S) F (hx x (by simp [ho, Op.operands]))
  have h2 : Rep w I σ (S.ev ix) (a.eval ix) := ev_rep (S := S) F (hx ix (by simp [ho, Op.operands]))
  rw [he] at h1; rw [hi] at h2
  have hi2 := rep_int h2
  simp only [Rep] at h1
  obtain ⟨ad, cap, hsl, hlc, _, hr⟩ := h1
  rcases hr with hr | ⟨b, of, kk, c, el, fz, hsg, rfl, hb, _⟩
  · omega
  · have hkk : kk = ob.k := by
      rcases R.obj id ob hg with ⟨_, hn⟩ | ⟨b', o', c', el', hs', _⟩
      · rw [hn] at hsg; cases hsg
      · rw [hs'] at hsg; simp at hsg; exact hsg.2.2.symm
    refine Out.pure (u := .pointer (some ⟨b, of + s * kk + n.toNat * kk, none⟩)) R ?_ ?_ hs
    · simp [execOp, ho, hsl, hi2, Instr.indexAt, run_underlying hu, asIntOf, h0, run_sizeOf T, add_at, hkk, hk]
    · simp only [Rep]
      exact ⟨b, of, kk, hsg, by rw [Nat.add_mul]; simp [Nat.add_assoc]⟩

theorem arr_spec {P : Program} {t : TypeId} {x : TI} (T : TIOk P t x) {m : Nat} (h : x.arr = some m) : P.underlying t = some (.array m x.elem) := by
  obtain ⟨d, hd, hb⟩ := T.und
  rw [hd]
  cases d <;> simp_all [descB]

theorem sim_index_arr {t : TypeId} {x ix : Operand} (ho : o.op = .indexAddr t x ix) (T0 : TIOk X.P t (X.ti t)) (T : TIOk X.P (X.ti t).elem (X.ti (X.ti t).elem)) (R : Rel w I σ S.h) (F : FRel w I σ S.f a) (hx : Opds o)
    {id j f m : Nat} {k : IntKind} {n : Int} (he : S.ev x = .ptr id j f) (hi : S.ev ix = .int k n) (hm : (X.ti t).arr = some m) (h0 : 0 ≤ n ∧ n < m)
    (hs : S1 = S.set o.dst (.ptr id j (f + n.toNat * (X.ti (X.ti t).elem).size))) : Out X o a w I σ S S1 := by
  have h1 : Rep w I σ (S.ev x) (a.eval x) := ev_rep (S := S) F (hx x (by simp [ho, Op.operands]))
  have h2 : Rep w I σ (S.ev ix) (a.eval ix) := ev_rep (S := S) F (hx ix (by simp [ho, Op.operands]))
  rw [he] at h1; rw [hi] at h2
  have hi2 := rep_int h2
  simp only [Rep] at h1
  obtain ⟨b, of, kk, hsg, hp⟩ := h1
  have hu := arr_spec T0 hm
  refine Out.pure (u := .pointer (some ⟨b, of + j * kk + f + n.toNat * (X.ti (X.ti t).elem).size, none⟩)) R ?_ ?_ hs
  · simp [execOp, ho, hp, hi2, Instr.indexAt, run_underlying hu, asIntOf, h0, run_sizeOf T, add_at, Instr.sureAddr]
  · simp only [Rep]
    exact ⟨b, of, kk, hsg, by simp [Nat.add_assoc]⟩

theorem run_part {P : Program} {t : TypeId} {x : TI} (T : TIOk P t x) {cs : List V} {us : Array Value} (hc : RepC w I σ cs us.toList) {f : Nat} {v : V} (hv : part x cs f = some v) :
    ∃ u, (Go.part t us f).run P w = .ok u w ∧ Rep w I σ v u := by
  have hl := ((RepC_iff _ _).1 hc).1
  unfold part at hv
  by_cases ha : x.agg = true
  · rw [if_pos ha] at hv
    split at hv
    · rename_i hle
      simp only [Option.some.injEq] at hv; subst hv
      refine ⟨.agg (us.extract f (f + x.size)), by simp [Go.part, run_isAgg T, ha, run_sizeOf T], ?_⟩
      simp only [Rep]
      refine ⟨_, rfl, ?_⟩
      rw [RepC_iff]
      refine ⟨by simp at hl ⊢; omega, fun j c u hcj huj => ?_⟩
      rw [List.getElem?_take] at hcj
      split at hcj
      · rename_i hj
        rw [List.getElem?_drop] at hcj
        have huj' : us.toList[f + j]? = some u := by
          simp only [Array.toList_extract, List.extract_eq_take_drop, List.getElem?_take, List.getElem?_drop] at huj
          split at huj
          · exact huj
          · cases huj
        exact ((RepC_iff _ _).1 hc).2 (f + j) c u hcj huj'
      · cases hcj
    · cases hv
  · rw [if_neg ha] at hv
    have ha' : x.agg = false := by simpa using ha
    obtain ⟨u, h1, _, h3⟩ := hc.get hv
    exact ⟨u, by have h1' : us[f]? = some u := by simpa using h1
                 simp [Go.part, run_isAgg T, ha', h1'], h3⟩

theorem sim_index_agg {t : TypeId} {x ix : Operand} (ho : o.op = .index t x ix) (T0 : TIOk X.P t (X.ti t)) (T : TIOk X.P (X.ti t).elem (X.ti (X.ti t).elem)) (R : Rel w I σ S.h) (F : FRel w I σ S.f a) (hx : Opds o)
    {cs : List V} {m : Nat} {k : IntKind} {n : Int} {v : V} (he : S.ev x = .agg cs) (hi : S.ev ix = .int k n) (hm : (X.ti t).arr = some m) (h0 : 0 ≤ n ∧ n < m)
    (hv : part (X.ti (X.ti t).elem) cs (n.toNat * (X.ti (X.ti t).elem).size) = some v) (hs : S1 = S.set o.dst v) : Out X o a w I σ S S1 := by
  have h1 : Rep w I σ (S.ev x) (a.eval x) := ev_rep (S := S) F (hx x (by simp [ho, Op.operands]))
  have h2 : Rep w I σ (S.ev ix) (a.eval ix) := ev_rep (S := S) F (hx ix (by simp [ho, Op.operands]))
  rw [he] at h1; rw [hi] at h2
  have hi2 := rep_int h2
  simp only [Rep] at h1
  obtain ⟨us, hp, hc⟩ := h1
  have hu := arr_spec T0 hm
  obtain ⟨u, hrun, hr⟩ := run_part T hc hv
  refine Out.pure (u := u) R ?_ hr hs
  simp [execOp, ho, hp, hi2, Instr.index, run_underlying hu, asIntOf, h0, run_sizeOf T, hrun]

theorem sim_index_str {t : TypeId} {x ix : Operand} (ho : o.op = .index t x ix) (hu : X.P.underlying t = some .string) (R : Rel w I σ S.h) (F : FRel w I σ S.f a) (hx : Opds o)
    {s : List UInt8} {k : IntKind} {n : Int} {b : UInt8} (he : S.ev x = .str s) (hi : S.ev ix = .int k n) (h0 : 0 ≤ n) (hg : s[n.toNat]? = some b) (hs : S1 = S.set o.dst (.int .u8 b.toNat)) : Out X o a w I σ S S1 := by
  have h1 : Rep w I σ (S.ev x) (a.eval x) := ev_rep (S := S) F (hx x (by simp [ho, Op.operands]))
  have h2 : Rep w I σ (S.ev ix) (a.eval ix) := ev_rep (S := S) F (hx ix (by simp [ho, Op.operands]))
  rw [he] at h1; rw [hi] at h2
  have hi2 := rep_int h2
  obtain ⟨bs, hb, rfl⟩ := rep_str h1
  have hg' : bs[n.toNat]? = some b := by
    have hl : n.toNat < bs.data.toList.length := (List.getElem?_eq_some_iff.1 hg).1
    have hl' : n.toNat < bs.size := by simpa using hl
    rw [getElem?_pos bs n.toNat hl']
    have := (List.getElem?_eq_some_iff.1 hg).2
    simp at this
    rw [← this]; rfl
  refine Out.pure (u := .int .u8 b.toNat) R ?_ (by simp [Rep]) hs
  simp [execOp, ho, hb, hi2, Instr.index, run_underlying hu, asIntOf, h0, hg']

theorem sim_len {args : Array Operand} {tys : Array TypeId} {x : Operand} {m : Nat} (ho : o.op = .call ⟨.builtin .len, args, tys⟩) (ha : args.toList = [x]) {t : TypeId} (ht : tys[0]? = some t)
    (hu : ((∃ e, X.P.underlying t = some (.slice e)) ∧ (X.ti t).isStr = false) ∨ (X.P.underlying t = some .string ∧ (X.ti t).isStr = true)) (R : Rel w I σ S.h) (F : FRel w I σ S.f a) (hx : Opds o)
    (hst : (S.ev x).isStr = (X.ti t).isStr) (hl : lenV (S.ev x) = some m) (hs : S1 = S.set o.dst (.int .i64 m)) : Out X o a w I σ S S1 := by
  have harg : args = #[x] := by rw [← ha]
  have h1 : Rep w I σ (S.ev x) (a.eval x) := ev_rep (S := S) F (hx x (by simp [ho, Op.operands, Call.operands, harg]))
  refine Out.pure (u := .int .i64 m) R ?_ (by simp [Rep]) hs
  have hrun : (Builtin.len_ tys o.type #[a.eval x]).run X.P w = .ok (.int .i64 m) w := by
    rcases hu with ⟨⟨e, hu⟩, hn⟩ | ⟨hu, hn⟩
    · unfold lenV at hl
      split at hl
      · rename_i c es he
        rw [he] at h1; simp only [Rep] at h1
        obtain ⟨ad, cap, hv, _⟩ := h1
        simp only [Option.some.injEq] at hl; subst hl
        simp [Builtin.len_, ht, hv, run_underlying hu, goInt]
      · rename_i id s l he
        rw [he] at h1; simp only [Rep] at h1
        obtain ⟨ad, cap, hv, _⟩ := h1
        simp only [Option.some.injEq] at hl; subst hl
        simp [Builtin.len_, ht, hv, run_underlying hu, goInt]
      · rename_i s he; rw [he, hn] at hst; cases hst
      · cases hl
    · cases he : S.ev x with
      | str s =>
        rw [he] at h1 hl
        obtain ⟨bs, hb, rfl⟩ := rep_str h1
        simp only [lenV, Option.some.injEq] at hl; subst hl
        have : bs.data.toList.length = bs.size := Array.length_toList
        rw [this]
        simp [Builtin.len_, ht, hb, run_underlying hu, goInt]
      | _ => rw [he, hn] at hst; cases hst
  simp [execOp, ho, harg, resolve, invoke, builtin, hrun]

theorem bnd_spec {d m q : Nat} {v : Option V} (h : bnd d v m = some q) : (v = none ∧ q = d) ∨ ∃ k n, v = some (.int k n) ∧ 0 ≤ n ∧ n ≤ m ∧ q = n.toNat := by
  unfold bnd at h
  split at h
  · simp only [Option.some.injEq] at h; exact .inl ⟨rfl, h.symm⟩
  · rename_i k n
    split at h
    · rename_i hn
      simp only [Option.some.injEq] at h
      exact .inr ⟨k, n, rfl, hn.1, hn.2, h.symm⟩
    · cases h
  · cases h

theorem bounds_run {P : Program} {isS : Bool} {lo hi : Option V} {ulo uhi : Option Value} {n cap l h : Nat} (hb : bounds lo hi n = some (l, h)) (hn : n ≤ cap) (w : World)
    (hlo : ∀ v, lo = some v → ∃ u, ulo = some u ∧ Rep w I σ v u) (hlo' : lo = none → ulo = none) (hhi : ∀ v, hi = some v → ∃ u, uhi = some u ∧ Rep w I σ v u) (hhi' : hi = none → uhi = none) :
    (Instr.sliceBounds isS n cap ulo uhi none).run P w = .ok (l, h, cap) w ∧ l ≤ h ∧ h ≤ n := by
  unfold bounds at hb
  cases h1 : bnd n hi n with
  | none => simp [h1] at hb
  | some q =>
    simp only [h1] at hb
    cases h2 : bnd 0 lo q with
    | none => simp [h2] at hb
    | some p =>
      simp only [h2, Option.some.injEq, Prod.mk.injEq] at hb
      obtain ⟨rfl, rfl⟩ := hb
      rcases bnd_spec h1 with ⟨rfl, rfl⟩ | ⟨k, m, rfl, ha, hb', rfl⟩
      · rw [hhi' rfl]
        rcases bnd_spec h2 with ⟨rfl, rfl⟩ | ⟨k, m, rfl, ha, hb', rfl⟩
        · rw [hlo' rfl]
          exact ⟨by simp [Instr.sliceBounds], by omega, by omega⟩
        · obtain ⟨u, rfl, hr⟩ := hlo _ rfl
          rw [rep_int hr]
          exact ⟨by simp [Instr.sliceBounds, Instr.sliceBound, asIntOf, ha, hb'], by omega, by omega⟩
      · obtain ⟨u, rfl, hr⟩ := hhi _ rfl
        rw [rep_int hr]
        have hc : m ≤ (cap : Int) := by omega
        rcases bnd_spec h2 with ⟨rfl, rfl⟩ | ⟨k', m', rfl, ha', hb2, rfl⟩
        · rw [hlo' rfl]
          exact ⟨by simp [Instr.sliceBounds, Instr.sliceBound, asIntOf, ha, hc], by omega, by omega⟩
        · obtain ⟨u, rfl, hr⟩ := hlo _ rfl
          rw [rep_int hr]
          have hb3 : m' ≤ max m 0 := by omega
          exact ⟨by simp [Instr.sliceBounds, Instr.sliceBound, asIntOf, ha, hc, ha', hb3], by omega, by omega⟩

theorem bounds3_run {P : Program} {isS : Bool} {lo hi : Option V} {k1 k2 : IntKind} {q : Int} {ulo : Option Value} {n cap l h : Nat} (hb : bounds lo hi n = some (l, h)) (hh : hi = some (.int k2 q)) (hn : n ≤ cap) (w : World)
    (hlo : ∀ v, lo = some v → ∃ u, ulo = some u ∧ Rep w I σ v u) (hlo' : lo = none → ulo = none) :
    (Instr.sliceBounds isS n cap ulo (some (.int k2 q)) (some (.int k1 q))).run P w = .ok (l, h, h) w ∧ l ≤ h ∧ h ≤ n := by
  unfold bounds at hb
  cases h1 : bnd n hi n with
  | none => simp [h1] at hb
  | some z =>
    simp only [h1] at hb
    cases h2 : bnd 0 lo z with
    | none => simp [h2] at hb
    | some p =>
      simp only [h2, Option.some.injEq, Prod.mk.injEq] at hb
      obtain ⟨rfl, rfl⟩ := hb
      rcases bnd_spec h1 with ⟨h0, _⟩ | ⟨k, m, h0, ha, hb', rfl⟩
      · rw [hh] at h0; cases h0
      · rw [hh] at h0
        simp only [Option.some.injEq, V.int.injEq] at h0
        obtain ⟨rfl, rfl⟩ := h0
        have hc : q ≤ (cap : Int) := by omega
        have hq : q ≤ max q 0 := by omega
        rcases bnd_spec h2 with ⟨rfl, rfl⟩ | ⟨k', m', rfl, ha', hb2, rfl⟩
        · rw [hlo' rfl]
          exact ⟨by simp [Instr.sliceBounds, Instr.sliceBound, asIntOf, ha, hc, hq], by omega, by omega⟩
        · obtain ⟨u, rfl, hr⟩ := hlo _ rfl
          rw [rep_int hr]
          have hb3 : m' ≤ max q 0 := by omega
          exact ⟨by simp [Instr.sliceBounds, Instr.sliceBound, asIntOf, ha, hc, hq, ha', hb3], by omega, by omega⟩

/-- what the cut of a slice value stands for -/
theorem cut_sl {c : Bool} {es : List V} {u : Value} {kk l h m : Nat} (h1 : Rep w I σ (.sl c es) u) (hall : es.all (fun e => e.cells.length == kk) = true) (hlh : l ≤ h) (hhn : h ≤ es.length) (c' : Bool) (hm : h ≤ m) (hc' : c' = true → m = h) :
    ∃ ad cap, u = .slice ad es.length cap ∧ es.length ≤ cap ∧ (m ≤ cap → Rep w I σ (.sl c' ((es.take h).drop l)) (.slice (if m = l then ad else ad.map (·.add (l * kk))) (h - l) (m - l))) := by
  simp only [Rep] at h1
  obtain ⟨ad, cap, hsl, hle, hmx, _, hr⟩ := h1
  refine ⟨ad, cap, hsl, hle, fun hmc => ?_⟩
  simp only [Rep]
  have hlen : ((es.take h).drop l).length = h - l := by simp; omega
  refine ⟨_, _, by rw [hlen], by omega, by omega, fun hc => by have := hc' hc; omega, ?_⟩
  by_cases he : h = l
  · left; subst he; simp
  · right
    have hne : es ≠ [] := by intro h0; subst h0; simp at hhn; omega
    rcases hr with hr | ⟨b, of, k, rfl, hI, hrow⟩
    · exact absurd hr hne
    · have hk : k = kk := by
        cases es with
        | nil => exact absurd rfl hne
        | cons e es =>
          have := (hrow.get (i := 0) (e := e) (by simp)).1
          have h2 := List.all_eq_true.1 hall e (by simp)
          simp at h2
          omega
      subst hk
      have hrow' := hrow.seg l (h - l)
      refine ⟨b, of + l * k, k, ?_, hI, by rw [List.drop_take]; exact hrow'⟩
      rw [if_neg (by omega)]
      simp [add_at]

theorem opt_rep {S : St} {a : Act} {o : Oper} (F : FRel w I σ S.f a) (hx : Opds o) (q : Option Operand) (hq : ∀ y, q = some y → y ∈ o.op.operands.toList) :
    (∀ v, q.map S.ev = some v → ∃ u, q.map a.eval = some u ∧ Rep w I σ v u) ∧ (q.map S.ev = none → q.map a.eval = none) := by
  cases q with
  | none => simp
  | some y =>
    refine ⟨fun v hv => ⟨a.eval y, rfl, ?_⟩, by simp⟩
    simp at hv; subst hv
    exact ev_rep (S := S) F (hx y (hq y rfl))

theorem sim_slice_sl {t : TypeId} {x : Operand} {lo hi : Option Operand} (ho : o.op = .slice t x lo hi none) (R : Rel w I σ S.h) (F : FRel w I σ S.f a) (hx : Opds o)
    (hu : X.P.underlying t = some (.slice (X.ti t).elem)) (T : TIOk X.P (X.ti t).elem (X.ti (X.ti t).elem)) {c : Bool} {es : List V} {l h : Nat} (he : S.ev x = .sl c es)
    (hall : es.all (fun e => e.cells.length == (X.ti (X.ti t).elem).size) = true) (hb : bounds (lo.map S.ev) (hi.map S.ev) es.length = some (l, h)) (hs : S1 = S.set o.dst (.sl false ((es.take h).drop l))) : Out X o a w I σ S S1 := by
  have h1 : Rep w I σ (S.ev x) (a.eval x) := ev_rep (S := S) F (hx x (by simp [ho, Op.operands]))
  have olo := opt_rep F hx lo (by intro y hy; subst hy; simp [ho, Op.operands])
  have ohi := opt_rep F hx hi (by intro y hy; subst hy; simp [ho, Op.operands])
  rw [he] at h1
  have hcap : ∃ ad cap, a.eval x = .slice ad es.length cap ∧ es.length ≤ cap := by
    simp only [Rep] at h1; obtain ⟨ad, cap, e1, e2, _⟩ := h1; exact ⟨ad, cap, e1, e2⟩
  obtain ⟨ad, cap, hsl, hle⟩ := hcap
  have hbr := bounds_run (isS := true) (P := X.P) hb hle w olo.1 olo.2 ohi.1 ohi.2
  obtain ⟨ad', cap', e1, e2, e3⟩ := cut_sl h1 hall hbr.2.1 hbr.2.2 false (m := cap) (by omega) (by simp)
  rw [hsl] at e1; simp at e1; obtain ⟨rfl, rfl⟩ := e1
  refine Out.pure (u := _) R ?_ (e3 (Nat.le_refl _)) hs
  simp [execOp, ho, hsl, Instr.sliceAt, Instr.slice, run_underlying hu, hbr.1, run_sizeOf T]

theorem sim_slice3_sl {t : TypeId} {x m : Operand} {lo hi : Option Operand} (ho : o.op = .slice t x lo hi (some m)) (R : Rel w I σ S.h) (F : FRel w I σ S.f a) (hx : Opds o)
    (hu : X.P.underlying t = some (.slice (X.ti t).elem)) (T : TIOk X.P (X.ti t).elem (X.ti (X.ti t).elem)) {c : Bool} {es : List V} {l h : Nat} {k1 k2 : IntKind} {q : Int} (he : S.ev x = .sl c es)
    (hall : es.all (fun e => e.cells.length == (X.ti (X.ti t).elem).size) = true) (hm : S.ev m = .int k1 q) (hh : hi.map S.ev = some (.int k2 q)) (hb : bounds (lo.map S.ev) (hi.map S.ev) es.length = some (l, h))
    (hs : S1 = S.set o.dst (.sl true ((es.take h).drop l))) : Out X o a w I σ S S1 := by
  have h1 : Rep w I σ (S.ev x) (a.eval x) := ev_rep (S := S) F (hx x (by simp [ho, Op.operands]))
  have h2 : Rep w I σ (S.ev m) (a.eval m) := ev_rep (S := S) F (hx m (by simp [ho, Op.operands]))
  have olo := opt_rep F hx lo (by intro y hy; subst hy; simp [ho, Op.operands])
  have ohi := opt_rep F hx hi (by intro y hy; subst hy; simp [ho, Op.operands])
  rw [he] at h1
  rw [hm] at h2
  have hm2 := rep_int h2
  obtain ⟨uh, hu1, hu2⟩ := ohi.1 _ hh
  have hu3 := rep_int hu2
  subst hu3
  have hcap : ∃ ad cap, a.eval x = .slice ad es.length cap ∧ es.length ≤ cap := by
    simp only [Rep] at h1; obtain ⟨ad, cap, e1, e2, _⟩ := h1; exact ⟨ad, cap, e1, e2⟩
  obtain ⟨ad, cap, hsl, hle⟩ := hcap
  have hbr := bounds3_run (isS := true) (P := X.P) (k1 := k1) (k2 := k2) (q := q) hb hh hle w olo.1 olo.2
  obtain ⟨ad', cap', e1, e2, e3⟩ := cut_sl h1 hall hbr.2.1 hbr.2.2 true (m := h) (Nat.le_refl _) (by simp)
  rw [hsl] at e1; simp at e1; obtain ⟨rfl, rfl⟩ := e1
  refine Out.pure (u := _) R ?_ (e3 (by omega)) hs
  simp [execOp, ho, hsl, Instr.sliceAt, Instr.slice, run_underlying hu, hm2, hu1, hbr.1, run_sizeOf T]

theorem cut_hdr {h : Heap} (R : Rel w I σ h) {id s n : Nat} {u : Value} {kk l hh m : Nat} {ob : Ob} (h1 : Rep w I σ (.hdr id s n) u) (hob : h id = some ob) (hk : ob.k = kk) (hlh : l ≤ hh) (hhn : hh ≤ n) (hm : hh ≤ m) :
    ∃ ad cap, u = .slice ad n cap ∧ n ≤ cap ∧ (m ≤ cap → Rep w I σ (.hdr id (s + l) (hh - l)) (.slice (if m = l then ad else ad.map (·.add (l * kk))) (hh - l) (m - l))) := by
  simp only [Rep] at h1
  obtain ⟨ad, cap, hsl, hle, hmx, hr⟩ := h1
  refine ⟨ad, cap, hsl, hle, fun hmc => ?_⟩
  simp only [Rep]
  refine ⟨_, _, rfl, by omega, by omega, ?_⟩
  by_cases he : m = l
  · left; omega
  · right
    rcases hr with hr | ⟨b, of, k, c, el, fz, hsg, rfl, hb, hcl⟩
    · omega
    · have hkk : k = ob.k := by
        rcases R.obj id ob hob with ⟨_, hn⟩ | ⟨b', o', c', el', hs', _⟩
        · rw [hn] at hsg; cases hsg
        · rw [hs'] at hsg; simp at hsg; exact hsg.2.2.symm
      refine ⟨b, of, k, c, el, fz, hsg, ?_, hb, ?_⟩
      · rw [if_neg he, ← hk, ← hkk]
        simp [add_at, Nat.add_mul, Nat.add_assoc]
      · have : (s + l + (m - l)) * k ≤ (s + cap) * k := Nat.mul_le_mul_right _ (by omega)
        omega

theorem sim_slice_hdr {t : TypeId} {x : Operand} {lo hi : Option Operand} (ho : o.op = .slice t x lo hi none) (R : Rel w I σ S.h) (F : FRel w I σ S.f a) (hx : Opds o)
    (hu : X.P.underlying t = some (.slice (X.ti t).elem)) (T : TIOk X.P (X.ti t).elem (X.ti (X.ti t).elem)) {id s n l h : Nat} {ob : Ob} (he : S.ev x = .hdr id s n) (hob : S.h id = some ob) (hk : ob.k = (X.ti (X.ti t).elem).size)
    (hb : bounds (lo.map S.ev) (hi.map S.ev) n = some (l, h)) (hs : S1 = S.set o.dst (.hdr id (s + l) (h - l))) : Out X o a w I σ S S1 := by
  have h1 : Rep w I σ (S.ev x) (a.eval x) := ev_rep (S := S) F (hx x (by simp [ho, Op.operands]))
  have olo := opt_rep F hx lo (by intro y hy; subst hy; simp [ho, Op.operands])
  have ohi := opt_rep F hx hi (by intro y hy; subst hy; simp [ho, Op.operands])
  rw [he] at h1
  have hcap : ∃ ad cap, a.eval x = .slice ad n cap ∧ n ≤ cap := by
    simp only [Rep] at h1; obtain ⟨ad, cap, e1, e2, _⟩ := h1; exact ⟨ad, cap, e1, e2⟩
  obtain ⟨ad, cap, hsl, hle⟩ := hcap
  have hbr := bounds_run (isS := true) (P := X.P) hb hle w olo.1 olo.2 ohi.1 ohi.2
  obtain ⟨ad', cap', e1, e2, e3⟩ := cut_hdr R h1 hob hk hbr.2.1 hbr.2.2 (m := cap) (by omega)
  rw [hsl] at e1; simp at e1; obtain ⟨rfl, rfl⟩ := e1
  refine Out.pure (u := _) R ?_ (e3 (Nat.le_refl _)) hs
  simp [execOp, ho, hsl, Instr.sliceAt, Instr.slice, run_underlying hu, hbr.1, run_sizeOf T]

theorem sim_slice3_hdr {t : TypeId} {x m : Operand} {lo hi : Option Operand} (ho : o.op = .slice t x lo hi (some m)) (R : Rel w I σ S.h) (F : FRel w I σ S.f a) (hx : Opds o)
    (hu : X.P.underlying t = some (.slice (X.ti t).elem)) (T : TIOk X.P (X.ti t).elem (X.ti (X.ti t).elem)) {id s n l h : Nat} {ob : Ob} {k1 k2 : IntKind} {q : Int} (he : S.ev x = .hdr id s n) (hob : S.h id = some ob) (hk : ob.k = (X.ti (X.ti t).elem).size)
    (hm : S.ev m = .int k1 q) (hh : hi.map S.ev = some (.int k2 q)) (hb : bounds (lo.map S.ev) (hi.map S.ev) n = some (l, h)) (hs : S1 = S.set o.dst (.hdr id (s + l) (h - l))) : Out X o a w I σ S S1 := by
  have h1 : Rep w I σ (S.ev x) (a.eval x) := ev_rep (S := S) F (hx x (by simp [ho, Op.operands]))
  have h2 : Rep w I σ (S.ev m) (a.eval m) := ev_rep (S := S) F (hx m (by simp [ho, Op.operands]))
  have olo := opt_rep F hx lo (by intro y hy; subst hy; simp [ho, Op.operands])
  have ohi := opt_rep F hx hi (by intro y hy; subst hy; simp [ho, Op.operands])
  rw [he] at h1
  rw [hm] at h2
  have hm2 := rep_int h2
  obtain ⟨uh, hu1, hu2⟩ := ohi.1 _ hh
  have hu3 := rep_int hu2
  subst hu3
  have hcap : ∃ ad cap, a.eval x = .slice ad n cap ∧ n ≤ cap := by
    simp only [Rep] at h1; obtain ⟨ad, cap, e1, e2, _⟩ := h1; exact ⟨ad, cap, e1, e2⟩
  obtain ⟨ad, cap, hsl, hle⟩ := hcap
  have hbr := bounds3_run (isS := true) (P := X.P) (k1 := k1) (k2 := k2) (q := q) hb hh hle w olo.1 olo.2
  obtain ⟨ad', cap', e1, e2, e3⟩ := cut_hdr R h1 hob hk hbr.2.1 hbr.2.2 (m := h) (Nat.le_refl _)
  rw [hsl] at e1; simp at e1; obtain ⟨rfl, rfl⟩ := e1
  refine Out.pure (u := _) R ?_ (e3 (by omega)) hs
  simp [execOp, ho, hsl, Instr.sliceAt, Instr.slice, run_underlying hu, hm2, hu1, hbr.1, run_sizeOf T]

theorem sim_slice_str {t : TypeId} {x : Operand} {lo hi : Option Operand} (ho : o.op = .slice t x lo hi none) (R : Rel w I σ S.h) (F : FRel w I σ S.f a) (hx : Opds o)
    (hu : X.P.underlying t = some .string) {s : List UInt8} {l h : Nat} (he : S.ev x = .str s) (hb : bounds (lo.map S.ev) (hi.map S.ev) s.length = some (l, h)) (hs : S1 = S.set o.dst (.str ((s.take h).drop l))) : Out X o a w I σ S S1 := by
  have h1 : Rep w I σ (S.ev x) (a.eval x) := ev_rep (S := S) F (hx x (by simp [ho, Op.operands]))
  have olo := opt_rep F hx lo (by intro y hy; subst hy; simp [ho, Op.operands])
  have ohi := opt_rep F hx hi (by intro y hy; subst hy; simp [ho, Op.operands])
  rw [he] at h1
  obtain ⟨bs, hbs, rfl⟩ := rep_str h1
  have hl : bs.data.toList.length = bs.size := Array.length_toList
  rw [hl] at hb
  have hbr := bounds_run (isS := false) (P := X.P) hb (Nat.le_refl _) w olo.1 olo.2 ohi.1 ohi.2
  refine Out.pure (u := .string (bs.extract l h)) R ?_ ?_ hs
  · simp [execOp, ho, hbs, Instr.sliceAt, Instr.slice, run_underlying hu, hbr.1]
  · simp only [Rep]
    exact ⟨_, rfl, by simp [ByteArray.data_extract, List.extract_eq_take_drop, List.drop_take]⟩

end
end Go.Abs
