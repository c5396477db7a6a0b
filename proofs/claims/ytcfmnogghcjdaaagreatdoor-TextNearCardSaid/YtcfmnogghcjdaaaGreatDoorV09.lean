/- Part of a proof: P4, P5, P6, P7, T1, S0. -/
import Derived.Test.YtcfmnogghcjdaaaGreatDoorV08
set_option linter.all false
set_option maxRecDepth 100000
set_option maxHeartbeats 20000000
namespace Go.Abs
open Go
def pc (C : CallT) (g : FuncId) (az : List V) : Option V :=
  match C g az (fun _ => none) 0 with
  | some (v, h, _) => (toImm h depth v).map V.dull
  | none => none
structure MC {α : Type} (F : CallT → Option α) : Prop where
  mono : ∀ (c d : CallT), (∀ g a h k r, c g a h k = some r → d g a h k = some r) → ∀ v, F c = some v → F d = some v
  cont : ∀ (c : Nat → CallT) (d : CallT), (∀ n g a h k r, c n g a h k = some r → c (n + 1) g a h k = some r) → (∀ g a h k r, d g a h k = some r → ∃ n, c n g a h k = some r) → ∀ v, F d = some v → ∃ n, F (c n) = some v
theorem chain_le {c : Nat → CallT} (hc : ∀ n g a h k r, c n g a h k = some r → c (n + 1) g a h k = some r) {n m : Nat} (h : n ≤ m) : ∀ g a h k r, c n g a h k = some r → c m g a h k = some r := by
  induction h with
  | refl => exact fun _ _ _ _ _ h => h
  | step _ ih => exact fun g a h k r hr => hc _ g a h k r (ih g a h k r hr)
theorem MC.const {α : Type} (o : Option α) : MC fun _ => o := ⟨fun _ _ _ _ h => h, fun _ _ _ _ _ h => ⟨0, h⟩⟩
theorem MC.bind {α β : Type} {F : CallT → Option α} {G : α → CallT → Option β} (hF : MC F) (hG : ∀ a, MC (G a)) : MC fun C => (F C).bind fun a => G a C := by
  refine ⟨fun c d h v hv => ?_, fun c d hc hd v hv => ?_⟩
  · obtain ⟨a, h1, h2⟩ := Option.bind_eq_some_iff.1 hv
    exact Option.bind_eq_some_iff.2 ⟨a, hF.mono c d h a h1, (hG a).mono c d h v h2⟩
  · obtain ⟨a, h1, h2⟩ := Option.bind_eq_some_iff.1 hv
    obtain ⟨n1, g1⟩ := hF.cont c d hc hd a h1
    obtain ⟨n2, g2⟩ := (hG a).cont c d hc hd v h2
    exact ⟨max n1 n2, Option.bind_eq_some_iff.2 ⟨a, hF.mono _ _ (chain_le hc (Nat.le_max_left n1 n2)) a g1, (hG a).mono _ _ (chain_le hc (Nat.le_max_right n1 n2)) v g2⟩⟩
theorem MC.pc (g : FuncId) (az : List V) : MC fun C => pc C g az := by
  refine ⟨fun c d h v hv => ?_, fun c d hc hd v hv => ?_⟩
  · unfold Abs.pc at hv ⊢
    split at hv
    · rename_i h1
      rw [h _ _ _ _ _ h1]; exact hv
    · cases hv
  · unfold Abs.pc at hv ⊢
    split at hv
    · rename_i h1
      obtain ⟨n, hn⟩ := hd _ _ _ _ _ h1
      exact ⟨n, by rw [hn]; exact hv⟩
    · cases hv
def mapO {α β : Type} (f : α → CallT → Option β) : List α → CallT → Option (List β)
  | [], _ => some []
  | x :: l, C => (f x C).bind fun y => (mapO f l C).bind fun r => some (y :: r)
theorem MC.mapO {α β : Type} {f : α → CallT → Option β} (hf : ∀ x, MC (f x)) : ∀ l, MC (mapO f l)
  | [] => MC.const _
  | x :: l => MC.bind (hf x) fun y => MC.bind (MC.mapO hf l) fun r => MC.const _
theorem mapO_get {α β : Type} {f : α → CallT → Option β} {C : CallT} : ∀ {l : List α} {r : List β}, mapO f l C = some r → r.length = l.length ∧ ∀ (i : Nat) x, l[i]? = some x → ∃ y, r[i]? = some y ∧ f x C = some y
  | [], r, h => by simp only [mapO, Option.some.injEq] at h; subst h; exact ⟨rfl, by simp⟩
  | x :: l, r, h => by
    simp only [mapO] at h
    obtain ⟨y, h1, h2⟩ := Option.bind_eq_some_iff.1 h
    obtain ⟨r', h3, h4⟩ := Option.bind_eq_some_iff.1 h2
    simp only [Option.some.injEq] at h4
    subst h4
    obtain ⟨h5, h6⟩ := mapO_get h3
    refine ⟨by simp [h5], fun i z hz => ?_⟩
    cases i with
    | zero => simp at hz; subst hz; exact ⟨y, rfl, h1⟩
    | succ i => exact h6 i z (by simpa using hz)
theorem mapO_of {α β : Type} {f : α → CallT → Option β} {C : CallT} {g : α → β} : ∀ {l : List α}, (∀ x ∈ l, f x C = some (g x)) → mapO f l C = some (l.map g)
  | [], _ => rfl
  | x :: l, h => by
    simp only [mapO, h x (by simp), mapO_of (l := l) (fun y hy => h y (by simp [hy])), Option.bind_some, List.map_cons]
section
variable {w w' : World} {I J : Nat → Prop}
theorem Ext.ofBelow (hI : ∀ b, I b → b < w.heap.size) (h : RowKit.Below w.heap.size w w') : Ext w I nosig w' I nosig :=
  ⟨fun b hb => h.block b (hI b hb), fun b c el fz hb => ⟨c, fz, by rw [h.block b (Array.getElem?_eq_some_iff.1 hb).1]; exact hb, rfl⟩, fun _ h => h, fun _ _ h => h⟩
theorem Rel.ofExt (R : Rel w I nosig Abs.noheap) {I' : Nat → Prop} (E : Ext w I nosig w' I' nosig) (hI' : ∀ b, I' b → b < w'.heap.size) : Rel w' I' nosig Abs.noheap := Rel.noheap hI' (R.glob.ext E)
theorem Rel.below (R : Rel w I nosig Abs.noheap) (h : RowKit.Below w.heap.size w w') : Rel w' I nosig Abs.noheap :=
  R.ofExt (Ext.ofBelow R.imm h) fun b hb => Nat.lt_of_lt_of_le (R.imm b hb) h.size
theorem Step.ofBelow (R : Rel w I nosig Abs.noheap) (h : RowKit.Below w.heap.size w w') (hIJ : ∀ b, I b → J b) (hJ : ∀ b, J b → I b ∨ (w.heap.size ≤ b ∧ b < w'.heap.size)) : Step w I nosig Abs.noheap 0 w' J nosig Abs.noheap 0 := by
  have E : Ext w I nosig w' J nosig := ⟨(Ext.ofBelow R.imm h).blk, (Ext.ofBelow R.imm h).grow, hIJ, fun _ _ h => h⟩
  refine ⟨E, R.ofExt E fun b hb => ?_, h.os, h.tape, h.output, h.size, fun b hb _ => h.block b hb, fun b hb => absurd hb noOwns, fun b hb => ?_, Nat.le_refl _, fun _ _ => rfl, fun _ _ h => h⟩
  · rcases hJ b hb with hb | hb
    · exact Nat.lt_of_lt_of_le (R.imm b hb) h.size
    · exact hb.2
  · rcases hJ b hb with hb | hb
    · exact .inl hb
    · exact .inr (.inl hb.1)
theorem CallOk.pc {X : Env} {C : CallT} (hC : CallOk X C) {g : FuncId} {az : List V} {r : V} (hc : pc C g az = some r) {us : Array Value} (R : Rel w I nosig Abs.noheap) (hr : RepL w I nosig az us.toList) :
    Calls X.P g us w fun e w' => ∃ u J, e = .returned u ∧ RowKit.Below w.heap.size w w' ∧ Ext w I nosig w' J nosig ∧ Rel w' J nosig Abs.noheap ∧ (∀ b, J b → I b ∨ w.heap.size ≤ b) ∧ Rep w' J nosig r u := by
  unfold Abs.pc at hc
  split at hc
  case h_2 => cases hc
  rename_i v h k hv
  obtain ⟨v', hi, rfl⟩ := Option.map_eq_some_iff.1 hc
  refine (hC g az _ 0 v h k hv w I nosig us R (fun _ _ => ⟨rfl, rfl⟩) hr).mono fun e w' hh => ?_
  obtain ⟨u, I', σ', rfl, hle, st, hfr, hrep⟩ := hh
  have hrep' := imm_rep (J := fun b => I' b ∨ Owns σ' h b) st.rel (fun b hb => .inl hb) (fun b hb => .inr hb) depth v v' u hi hrep
  refine ⟨u, fun b => I' b ∨ Owns σ' h b, rfl, ⟨st.os, st.tape, st.output, st.size, fun b hb => st.frame b hb noOwns⟩, ?E, ?R, fun b hb => ?_, hrep'.dull' _ _⟩
  case E => exact ⟨st.blk, st.grow, fun b hb => .inl (st.imp b hb), fun _ _ h => h⟩
  case R =>
    refine Rel.noheap (fun b hb => ?_) (st.rel.glob.sub fun b hb => .inl hb)
    rcases hb with hb | hb
    · exact st.rel.imm b hb
    · exact st.rel.ownedLt hb
  · rcases hb with hb | hb
    · rcases st.inew b hb with hb | hb | hb
      · exact .inl hb
      · exact .inr hb
      · exact absurd hb noOwns
    · rcases st.own b hb with hb | hb
      · exact .inr hb
      · exact absurd hb noOwns
end
theorem str_eq {x : ByteArray} {s : List UInt8} (h : x.data.toList = s) : x = ⟨s.toArray⟩ := by subst h; simp
end Go.Abs
namespace Go.Proofs.YtcfmnogghcjdaaaGreatDoor
open Go Go.RowKit Go.Abs Go.Sort
def itoaRun (_ : CallT) : List V → Option V
  | [.int .i64 n] => if -9223372036854775808 ≤ n ∧ n ≤ 9223372036854775807 then some (.str (Lib.itoa n)) else none
  | _ => none
def atoiRun (_ : CallT) : List V → Option V
  | [.str s] => if s.length ≤ 281474976710656 then (match Lib.atoiAll s with
    | .ok v => some (.tup [.int .i64 v, .ifc false])
    | .range => some (.tup [.int .i64 (Lib.atoiSat s), .ifc true])
    | _ => some (.tup [.int .i64 0, .ifc true])) else none
  | _ => none
def splitRun (_ : CallT) : List V → Option V
  | [.str s, .str [c]] => if s.length < 4294967281 then some (.sl false ((Lib.split s [c]).map .str)) else none
  | _ => none
def strOf : V → Option (List UInt8)
  | .str s => some s
  | _ => none
def numO (n : Int) (C : CallT) : Option (List UInt8) := (pc C 36 [.int .i64 n]).bind strOf
def evOf : V → Option Ev
  | .agg [.int .i64 a, .int .i64 b, .int .i64 c, .int .i64 d] => some ⟨a, b, c, d⟩
  | _ => none
def kindsVV : V := .agg (kindsL.map .str)
def isKinds : V → Bool
  | .agg [.str a0, .str a1, .str a2, .str a3, .str a4, .str a5, .str a6, .str a7, .str a8, .str a9, .str a10] => [a0, a1, a2, a3, a4, a5, a6, a7, a8, a9, a10] == kindsL
  | _ => false
def evLineO (v : V) (C : CallT) : Option (Ev × List UInt8) :=
  (evOf v).bind fun e => (numO e.at_ C).bind fun a => (numO e.rep C).bind fun r => (numO e.det C).bind fun d => some (e, kindsL.getD (kindOf e.kind) [] ++ [32] ++ a ++ [32] ++ r ++ [32] ++ d ++ [10])
def eventsRun (C : CallT) : List V → Option V
  | [.sl _ es] => if es.length ≤ 1000000000 then (pc C 35 []).bind fun ks => if isKinds ks then (mapO evLineO es C).bind fun ls => if ((ls.map (·.2)).flatten).length ≤ 140737488355328 then some (.str (ls.map (·.2)).flatten) else none else none else none
  | _ => none
def rowO (v : V) (C : CallT) : Option (List UInt8) :=
  match v with
  | .agg [c0, c1] => (pc C 30 [.agg [c0, c1]]).bind strOf
  | _ => none
def formatRun (C : CallT) : List V → Option V
  | [.agg us, .agg ts, .sl c l] => if us.length = 16 ∧ ts.length = 3 then
      (pc C 27 [.agg (us ++ ts ++ [.sl c l])]).bind fun r => match r with
        | .int .i64 er => if er ≠ 0 then some (.tup [.str [], .int .i64 er]) else
          (pc C 28 [.agg (us ++ ts ++ [.sl c l])]).bind fun r => match r with
            | .sl _ rows => if rows.length ≤ 1000000000 then (mapO rowO rows C).bind fun ss => if ss.flatten.length ≤ 140737488355328 then some (.tup [.str ss.flatten, .int .i64 0]) else none else none
            | _ => none
        | _ => none
    else none
  | _ => none
theorem mc_if {α : Type} {p : Prop} [Decidable p] {F G : CallT → Option α} (hF : MC F) (hG : MC G) : MC fun C => if p then F C else G C := by
  split
  · exact hF
  · exact hG
theorem mc_num (n : Int) : MC (numO n) := MC.bind (MC.pc _ _) fun _ => MC.const _
theorem mc_line (v : V) : MC (evLineO v) := MC.bind (MC.const _) fun e => MC.bind (mc_num _) fun a => MC.bind (mc_num _) fun r => MC.bind (mc_num _) fun d => MC.const _
theorem mc_events (az : List V) : MC fun C => eventsRun C az := by
  unfold eventsRun
  split
  · exact mc_if (MC.bind (MC.pc _ _) fun ks => mc_if (MC.bind (MC.mapO mc_line _) fun ls => mc_if (MC.const _) (MC.const _)) (MC.const _)) (MC.const _)
  · exact MC.const _
theorem mc_row (v : V) : MC (rowO v) := by
  unfold rowO
  split
  · exact MC.bind (MC.pc _ _) fun _ => MC.const _
  · exact MC.const _
theorem mc_format (az : List V) : MC fun C => formatRun C az := by
  unfold formatRun
  split
  · refine mc_if (MC.bind (MC.pc _ _) fun r => ?_) (MC.const _)
    split
    · refine mc_if (MC.const _) (MC.bind (MC.pc _ _) fun r => ?_)
      split
      · exact mc_if (MC.bind (MC.mapO mc_row _) fun ls => mc_if (MC.const _) (MC.const _)) (MC.const _)
      · exact MC.const _
    · exact MC.const _
  · exact MC.const _
def mkPrim (run : CallT → List V → Option V) (h : ∀ az, MC fun C => run C az) : Prim :=
  ⟨run, fun c d az v hcd hv => (h az).mono c d hcd v hv, fun c d az v hc hd hv => (h az).cont c d hc hd v hv⟩
def itoaP : Prim := mkPrim itoaRun fun _ => MC.const _
def atoiP : Prim := mkPrim atoiRun fun _ => MC.const _
def splitP : Prim := mkPrim splitRun fun _ => MC.const _
def eventsP : Prim := mkPrim eventsRun mc_events
def formatP : Prim := mkPrim formatRun mc_format
def deadP : Prim := mkPrim (fun _ _ => none) fun _ => MC.const _
def primD (g : FuncId) : Option Prim :=
  if g = 56 then some itoaP else if g = 59 then some atoiP else if g = 32 then some splitP else if g = 17 then some eventsP else if g = 15 then some formatP else if g = 54 ∨ g = 77 ∨ g = 87 ∨ g = 31 then some deadP else none
variable {w w' : World} {I J : Nat → Prop}
theorem repL_one {v : V} {us : Array Value} (h : RepL w I nosig [v] us.toList) : ∃ u, us = #[u] ∧ Rep w I nosig v u := by
  simp only [RepL] at h
  obtain ⟨u, r, h1, h2, rfl⟩ := h
  exact ⟨u, by rw [← Array.toArray_toList (xs := us), h1], h2⟩
theorem repL_two {v v2 : V} {us : Array Value} (h : RepL w I nosig [v, v2] us.toList) : ∃ u u2, us = #[u, u2] ∧ Rep w I nosig v u ∧ Rep w I nosig v2 u2 := by
  simp only [RepL] at h
  obtain ⟨u, r, h1, h2, u2, r2, rfl, h3, rfl⟩ := h
  exact ⟨u, u2, by rw [← Array.toArray_toList (xs := us), h1], h2, h3⟩
theorem repL_three {v v2 v3 : V} {us : Array Value} (h : RepL w I nosig [v, v2, v3] us.toList) : ∃ u u2 u3, us = #[u, u2, u3] ∧ Rep w I nosig v u ∧ Rep w I nosig v2 u2 ∧ Rep w I nosig v3 u3 := by
  simp only [RepL] at h
  obtain ⟨u, r, h1, h2, u2, r2, rfl, h3, u3, r3, rfl, h4, rfl⟩ := h
  exact ⟨u, u2, u3, by rw [← Array.toArray_toList (xs := us), h1], h2, h3, h4⟩
def Does (X : Env) (g : FuncId) (run : CallT → List V → Option V) : Prop :=
  ∀ C, CallOk X C → ∀ args v, run C args = some v → ∀ w I (us : Array Value), Rel w I nosig noheap → RepL w I nosig args us.toList →
    Calls X.P g us w fun e w' => ∃ u I', e = .returned u ∧ Step w I nosig noheap 0 w' I' nosig noheap 0 ∧ Rep w' I' nosig v u
theorem glob_cell {b : Nat} {ev : Value} (h : ∃ ob, w.heap[b]? = some ob ∧ ∃ cs t fz, ob = .cells cs t fz ∧ cs[0]? = some ev) : w.cell? ⟨b, 0, none⟩ = some ev := by
  obtain ⟨ob, h1, cs, t, fz, rfl, h2⟩ := h
  rw [Lib.cell_of_heap h1]; exact h2
theorem tab_of (R : Rel w I nosig noheap) : Lib.TabIs Tryz.prog w "internal/strconv.uint64pow10" .u64 Lib.pow10Tab := by
  obtain ⟨_, ob, h1, t, fz, rfl⟩ := R.glob 3 _ rfl
  show w.var? Tryz.prog "internal/strconv.uint64pow10" = _
  unfold World.var?
  rw [show Tryz.prog.globalNamed "internal/strconv.uint64pow10" = some 3 by kernel_rfl]
  simp only [Option.bind_some, h1]
theorem err_of (R : Rel w I nosig noheap) {b : Nat} (hb : b = 1 ∨ b = 2) : ∃ ev, w.cell? ⟨b, 0, none⟩ = some ev ∧ (ev = .nilIface ∨ ∃ te pe, ev = .iface te pe) := by
  rcases hb with rfl | rfl
  · obtain ⟨_, ob, h1, cs, t, fz, ev, rfl, h2, h3⟩ := R.glob 1 _ rfl
    exact ⟨ev, glob_cell ⟨_, h1, _, _, _, rfl, h2⟩, h3⟩
  · obtain ⟨_, ob, h1, cs, t, fz, ev, rfl, h2, h3⟩ := R.glob 2 _ rfl
    exact ⟨ev, glob_cell ⟨_, h1, _, _, _, rfl, h2⟩, h3⟩
theorem maxLen_of (R : Rel w I nosig noheap) : ∃ m, w.cell? ⟨0, 0, none⟩ = some (.int .i64 m) := by
  obtain ⟨_, ob, h1, cs, t, fz, m, rfl, h2⟩ := R.glob 0 _ rfl
  exact ⟨m, glob_cell ⟨_, h1, _, _, _, rfl, h2⟩⟩
theorem rep_tup2 {σ : Sig} {a b : V} {x y : Value} (h1 : Rep w I σ a x) (h2 : Rep w I σ b y) : Rep w I σ (.tup [a, b]) (.tuple #[x, y]) := by
  simp only [Rep, RepL]
  exact ⟨#[x, y], rfl, x, [y], rfl, h1, y, [], rfl, h2, rfl⟩
theorem below_grow (k : Nat) (os : Array Obj) : Below w.heap.size w (grow (w.drewN k) os) :=
  ⟨rfl, rfl, rfl, by simp [grow, World.drewN], fun b hb => by simp [grow, World.drewN, Array.getElem?_append, hb]⟩
theorem stepId (R : Rel w I nosig noheap) (h : Below w.heap.size w w') : Step w I nosig noheap 0 w' I nosig noheap 0 := Step.ofBelow R h (fun _ h => h) fun _ h => .inl h
theorem itoa_does {X : Env} (hP : X.P = Tryz.prog) : Does X 56 itoaRun := by
  intro C hC args v hv w I us R hr
  unfold itoaRun at hv
  split at hv
  case h_2 => cases hv
  rename_i n
  split at hv
  case isFalse => cases hv
  rename_i hn
  simp only [Option.some.injEq] at hv
  subst hv
  obtain ⟨u, rfl, h1⟩ := repL_one hr
  simp only [Rep] at h1
  subst h1
  rw [hP]
  refine (Tryz.strconv_Itoa n hn.1 hn.2 w (tab_of R)).mono fun e w' hh => ?_
  obtain ⟨rfl, k, os, rfl⟩ := hh
  exact ⟨_, I, rfl, stepId R (below_grow k os), by simp [Rep]⟩
theorem syn_of {e : Lib.NumEnd Int} (h1 : ∀ v, e = .ok v → False) (h2 : e = .range → False) : e = Lib.atoiAll [] := by
  cases e
  · exact absurd rfl (fun h => h1 _ h)
  · rfl
  · exact absurd rfl (fun h => h2 h)
theorem atoi_does {X : Env} (hP : X.P = Tryz.prog) : Does X 59 atoiRun := by
  intro C hC args v hv w I us R hr
  unfold atoiRun at hv
  split at hv
  case h_2 => cases hv
  rename_i s
  split at hv
  case isFalse => cases hv
  rename_i hlen
  obtain ⟨u, rfl, h1⟩ := repL_one hr
  simp only [Rep] at h1
  obtain ⟨x, rfl, hx⟩ := h1
  have hsz : x.size = s.length := by rw [← hx]; exact Lib.size_eq x
  rw [hP]
  split at hv
  · rename_i m hm
    simp only [Option.some.injEq] at hv
    subst hv
    refine (Tryz.strconv_Atoi_ok x (by omega) m (by rw [hx]; exact hm) w).mono fun e w' hh => ?_
    obtain ⟨rfl, hh⟩ := hh
    refine ⟨_, I, rfl, stepId R ?_, rep_tup2 (by simp [Rep]) (by simp [Rep, ifcRep])⟩
    rcases hh with rfl | ⟨t, rfl⟩
    · exact Below.refl _ _
    · exact Lib.bytesWorld_below w 5 t
  · rename_i hm
    simp only [Option.some.injEq] at hv
    subst hv
    obtain ⟨ev, h1, h2⟩ := err_of R (.inr rfl)
    refine (Tryz.strconv_Atoi_range x (by omega) (by rw [hx]; exact hm) ev w h1 h2).mono fun e w' hh => ?_
    obtain ⟨N, rfl, _, _, hb⟩ := hh
    exact ⟨_, I, rfl, stepId R hb, rep_tup2 (by simp [Rep, hx]) (by simp [Rep, ifcRep])⟩
  · rename_i hm1 hm2
    have hm := syn_of hm1 hm2
    simp only [Option.some.injEq] at hv
    subst hv
    obtain ⟨ev, h1, h2⟩ := err_of R (.inl rfl)
    refine (Tryz.strconv_Atoi_syntax x (by omega) (by rw [hx]; exact hm) ev w h1 h2).mono fun e w' hh => ?_
    obtain ⟨N, rfl, _, _, hb⟩ := hh
    exact ⟨_, I, rfl, stepId R hb, rep_tup2 (by simp [Rep]) (by simp [Rep, ifcRep])⟩
theorem split_lists (x : ByteArray) (c : UInt8) : (Lib.splitB ⟨#[c]⟩ 0 (Lib.countB x ⟨#[c]⟩) x).map (·.data.toList) = Lib.split x.data.toList [c] := Lib.splitB_data _ _ _ _
theorem split_does {X : Env} (hP : X.P = Tryz.prog) : Does X 32 splitRun := by
  intro C hC args v hv w I us R hr
  unfold splitRun at hv
  split at hv
  case h_2 => cases hv
  rename_i s c
  split at hv
  case isFalse => cases hv
  rename_i hlen
  simp only [Option.some.injEq] at hv
  subst hv
  obtain ⟨u, u2, rfl, h1, h2⟩ := repL_two hr
  simp only [Rep] at h1 h2
  obtain ⟨x, rfl, rfl⟩ := h1
  obtain ⟨y, rfl, hy⟩ := h2
  have hy' := str_eq hy
  subst hy'
  have hsz : x.size = x.data.toList.length := Lib.size_eq x
  obtain ⟨m, hm⟩ := maxLen_of R
  have hL := split_lists x c
  have hN : (Lib.splitB ⟨#[c]⟩ 0 (Lib.countB x ⟨#[c]⟩) x).length = Lib.countB x ⟨#[c]⟩ + 1 := Lib.splitB_all ⟨#[c]⟩ (Nat.le_refl _) 0 _ x rfl
  have hC' : Lib.countB x ⟨#[c]⟩ ≤ x.size := Lib.countB_le ⟨#[c]⟩ (Nat.le_refl _) _ x (Nat.le_refl _)
  rw [hP]
  refine (Tryz.strings_Split x ⟨[c].toArray⟩ m w (by omega) hm (Nat.le_refl _)).mono fun e w' hh => ?_
  obtain ⟨rfl, rfl⟩ := hh
  rw [show ([c].toArray : Array UInt8) = #[c] from rfl]
  generalize hps : Lib.splitB ⟨#[c]⟩ 0 (Lib.countB x ⟨#[c]⟩) x = ps at *
  generalize hn : Lib.countB x ⟨#[c]⟩ = n at *
  refine ⟨_, fun b => I b ∨ b = w.heap.size, rfl, Step.ofBelow R ((Below.refl _ _).alloc (Nat.le_refl _) _) (fun b hb => .inl hb) (fun b hb => ?_), ?_⟩
  · rcases hb with hb | rfl
    · exact .inl hb
    · exact .inr ⟨Nat.le_refl _, by simp⟩
  · simp only [Rep]
    have hl : ((Lib.split x.data.toList [c]).map V.str).length = n + 1 := by rw [← hL]; simp [hN]
    refine ⟨some ⟨w.heap.size, 0, none⟩, n + 1, by rw [hl], by omega, by unfold maxLen; omega, (fun h => by cases h), .inr ⟨w.heap.size, 0, 1, rfl, .inr rfl, ?_⟩⟩
    rw [RepRow_iff]
    intro i e hi
    rw [← hL, List.map_map, List.getElem?_map] at hi
    obtain ⟨p, hp, rfl⟩ := Option.map_eq_some_iff.1 hi
    refine ⟨rfl, fun j cc hj => ?_⟩
    simp only [Function.comp_apply, V.cells] at hj
    cases j with
    | succ j => simp at hj
    | zero =>
      simp only [List.getElem?_cons_zero, Option.some.injEq] at hj
      subst hj
      refine ⟨.string p, ?_, rfl, by simp [Rep]⟩
      rw [Lib.cell_of_heap (heap_alloc_new _ _)]
      simp [hp]
end Go.Proofs.YtcfmnogghcjdaaaGreatDoor
namespace Go.Proofs.YtcfmnogghcjdaaaGreatDoor
open Go Go.RowKit Go.Abs Go.Sort
variable {w w' : World} {I J : Nat → Prop}
theorem evOf_eq {v : V} {e : Ev} (h : evOf v = some e) : v = .agg [.int .i64 e.at_, .int .i64 e.kind, .int .i64 e.rep, .int .i64 e.det] := by
  unfold evOf at h
  split at h
  · simp only [Option.some.injEq] at h
    subst h
    rfl
  · cases h
theorem strOf_eq {v : V} {s : List UInt8} (h : strOf v = some s) : v = .str s := by
  unfold strOf at h
  split at h
  · simp only [Option.some.injEq] at h
    subst h
    rfl
  · cases h
theorem isKinds_eq {v : V} (h : isKinds v = true) : v = .agg (kindsL.map .str) := by
  unfold isKinds at h
  split at h
  · have := eq_of_beq h
    rw [← this]; rfl
  · cases h
theorem repC_strs {σ : Sig} : ∀ {ks : List (List UInt8)} {us : List Value}, RepC w I σ (ks.map .str) us → us = ks.map fun s => .string ⟨s.toArray⟩
  | [], us, h => by simpa [RepC] using h
  | k :: ks, us, h => by
    simp only [List.map_cons, RepC] at h
    obtain ⟨u, r, rfl, _, h1, h2⟩ := h
    simp only [Rep] at h1
    obtain ⟨x, rfl, hx⟩ := h1
    rw [repC_strs h2, str_eq hx]
    rfl
theorem num_calls {X : Env} (hP : X.P = Tryz.prog) {C : CallT} (hC : CallOk X C) {n : Int} {s : List UInt8} (h : numO n C = some s) (R : Rel w I nosig noheap) :
    Calls Tryz.prog 36 #[.int .i64 n] w fun e w' => e = .returned (.string ⟨s.toArray⟩) ∧ Below w.heap.size w w' := by
  obtain ⟨v, h1, h2⟩ := Option.bind_eq_some_iff.1 h
  have := strOf_eq h2
  subst this
  rw [← hP]
  refine (hC.pc h1 (us := #[.int .i64 n]) R ?_).mono fun e w' hh => ?_
  · simp only [RepL]
    exact ⟨_, [], rfl, by simp [Rep], rfl⟩
  · obtain ⟨u, J, rfl, hb, _, _, _, hr⟩ := hh
    simp only [Rep] at hr
    obtain ⟨x, rfl, hx⟩ := hr
    rw [str_eq hx]
    exact ⟨rfl, hb⟩
theorem events_does {X : Env} (hP : X.P = Tryz.prog) : Does X 17 eventsRun := by
  intro C hC args v hv w I us R hr
  unfold eventsRun at hv
  split at hv
  case h_2 => cases hv
  rename_i c es
  split at hv
  case isFalse => cases hv
  rename_i hmax
  obtain ⟨ks, hks, hv⟩ := Option.bind_eq_some_iff.1 hv
  split at hv
  case isFalse => cases hv
  rename_i hki
  have := isKinds_eq hki
  subst this
  obtain ⟨ls, hls, hv⟩ := Option.bind_eq_some_iff.1 hv
  split at hv
  case isFalse => cases hv
  rename_i hlen
  simp only [Option.some.injEq] at hv
  subst hv
  obtain ⟨hll, hget⟩ := mapO_get hls
  obtain ⟨u, rfl, h1⟩ := repL_one hr
  simp only [Rep] at h1
  obtain ⟨a, cap, rfl, hcap, _, _, hmem⟩ := h1
  have key : ∀ (i : Nat) y, ls[i]? = some y → ∃ e, es[i]? = some (.agg [.int .i64 y.1.at_, .int .i64 y.1.kind, .int .i64 y.1.rep, .int .i64 y.1.det]) ∧ y = (y.1, evLine (fun n => (numO n C).getD []) y.1) ∧
      (numO y.1.at_ C).isSome ∧ (numO y.1.rep C).isSome ∧ (numO y.1.det C).isSome ∧ e = () := by
    intro i y hy
    have hi : i < es.length := by rw [← hll]; exact (List.getElem?_eq_some_iff.1 hy).1
    obtain ⟨y', h1, h2⟩ := hget i es[i] (by simp [hi])
    rw [hy] at h1
    simp only [Option.some.injEq] at h1
    subst h1
    unfold evLineO at h2
    obtain ⟨e, h3, h2⟩ := Option.bind_eq_some_iff.1 h2
    obtain ⟨n1, g1, h2⟩ := Option.bind_eq_some_iff.1 h2
    obtain ⟨n2, g2, h2⟩ := Option.bind_eq_some_iff.1 h2
    obtain ⟨n3, g3, h2⟩ := Option.bind_eq_some_iff.1 h2
    simp only [Option.some.injEq] at h2
    subst h2
    refine ⟨(), ?_, ?_, by simp [g1], by simp [g2], by simp [g3], rfl⟩
    · rw [← evOf_eq h3]; simp [hi]
    · simp [evLine, g1, g2, g3]
  have htext : (ls.map (·.2)).flatten = evText (fun n => (numO n C).getD []) (ls.map (·.1)) := by
    unfold evText
    congr 1
    rw [List.map_map]
    apply List.map_congr_left
    intro y hy
    obtain ⟨i, hi⟩ := List.mem_iff_getElem?.1 hy
    obtain ⟨_, _, h, _⟩ := key i y hi
    rw [h]; rfl
  have hel : (ls.map (·.1)).length = es.length := by simp [hll]
  rw [hP]
  have W := events_walk w (fun n => (numO n C).getD []) a cap (ls.map (·.1)) (by omega) (by omega) ?ha ?hkinds ?hnum (by rw [← htext]; exact hlen)
  case ha =>
    rcases hmem with he | ⟨b, o, k, rfl, hI, hrow⟩
    · left
      subst he
      simp at hll
      simp [hll]
    · right
      refine ⟨b, o, rfl, R.imm b hI, ?_⟩
      rw [RepRow_iff] at hrow
      intro i e hi
      rw [List.getElem?_map] at hi
      obtain ⟨y, hy, rfl⟩ := Option.map_eq_some_iff.1 hi
      obtain ⟨_, h1, _⟩ := key i y hy
      obtain ⟨hk, hat⟩ := hrow i _ h1
      simp only [V.cells, List.length_cons, List.length_nil] at hk hat
      subst hk
      have g : ∀ j n, [V.int .i64 y.1.at_, .int .i64 y.1.kind, .int .i64 y.1.rep, .int .i64 y.1.det][j]? = some (.int .i64 n) → w.cell? ⟨b, o + i * 4 + j, none⟩ = some (.int .i64 n) := by
        intro j n hj
        obtain ⟨u, g1, _, g3⟩ := hat j _ hj
        simp only [Rep] at g3
        subst g3
        exact g1
      exact ⟨g 0 _ rfl, g 1 _ rfl, g 2 _ rfl, g 3 _ rfl⟩
  case hkinds =>
    intro W hW
    rw [← hP]
    refine (hC.pc hks (us := #[]) (R.below hW) (by simp [RepL])).mono fun e w' hh => ?_
    obtain ⟨u, J, rfl, hb, _, _, _, hr⟩ := hh
    simp only [Rep] at hr
    obtain ⟨us, rfl, hc⟩ := hr
    have := repC_strs hc
    refine ⟨?_, hb⟩
    rw [← Array.toArray_toList (xs := us), this]
    rfl
  case hnum =>
    intro W hW e he n hn
    obtain ⟨y, hy, rfl⟩ := List.mem_map.1 he
    obtain ⟨i, hi⟩ := List.mem_iff_getElem?.1 hy
    obtain ⟨_, _, _, h1, h2, h3, _⟩ := key i y hi
    have hs : (numO n C).isSome := by rcases hn with rfl | rfl | rfl <;> assumption
    obtain ⟨s, hs⟩ := Option.isSome_iff_exists.1 hs
    have := num_calls hP hC hs (R.below hW)
    simpa [hs] using this
  rw [hel] at W
  refine W.mono fun e w' hh => ?_
  obtain ⟨rfl, hb⟩ := hh
  exact ⟨_, I, rfl, stepId R hb, by simp [Rep, htext]⟩
end Go.Proofs.YtcfmnogghcjdaaaGreatDoor
namespace Go.Proofs.YtcfmnogghcjdaaaGreatDoor
open Go Go.RowKit Go.Abs Go.Sort
variable {w w' : World} {I J : Nat → Prop}
theorem repC_one {σ : Sig} {vs : List V} {us : List Value} (h : RepC w I σ vs us) : ∀ u ∈ us, u.oneCell' = true := by
  rw [RepC_iff] at h
  intro u hu
  obtain ⟨j, hj⟩ := List.mem_iff_getElem?.1 hu
  have hlt : j < vs.length := by rw [h.1]; exact (List.getElem?_eq_some_iff.1 hj).1
  exact (h.2 j vs[j] u (by simp [hlt]) hj).1
theorem format_does {X : Env} (hP : X.P = Tryz.prog) : Does X 15 formatRun := by
  intro C hC args v hv w I us R hr
  unfold formatRun at hv
  split at hv
  case h_2 => cases hv
  rename_i az bs c l
  split at hv
  case isFalse => cases hv
  rename_i hlens
  obtain ⟨r0, hr0, hv⟩ := Option.bind_eq_some_iff.1 hv
  split at hv
  case h_2 => cases hv
  rename_i er
  obtain ⟨u, u2, u3, rfl, h1, h2, h3⟩ := repL_three hr
  have h3' := h3
  simp only [Rep] at h1 h2
  obtain ⟨usv, rfl, h1⟩ := h1
  obtain ⟨tsv, rfl, h2⟩ := h2
  simp only [Rep] at h3
  obtain ⟨la, lc, rfl, _⟩ := h3
  have hs := RepC_app (RepC_app h1 h2) (RepC_one (I := I) (w := w) (v := .sl c l) (u := .slice la l.length lc) rfl h3')
  have n1 : usv.toList.length = 16 := by rw [RepC_iff] at h1; omega
  have n2 : tsv.toList.length = 3 := by rw [RepC_iff] at h2; omega
  obtain ⟨usl⟩ := usv
  obtain ⟨tsl⟩ := tsv
  simp only at n1 n2 h1 h2 hs
  match usl, n1, hs with
  | [x0, x1, x2, x3, x4, x5, x6, x7, x8, x9, x10, x11, x12, x13, x14, x15], _, hs =>
  match tsl, n2, hs with
  | [y0, y1, y2], _, hs =>
  have hone : (#[x0, x1, x2, x3, x4, x5, x6, x7, x8, x9, x10, x11, x12, x13, x14, x15, y0, y1, y2, .slice la l.length lc] : Array Value).all (·.oneCell') = true := by
    rw [Array.all_eq_true_iff_forall_mem]
    intro u hu
    exact repC_one hs u (by simpa using hu)
  have hS : Rep w I nosig (.agg (az ++ bs ++ [.sl c l])) (.agg #[x0, x1, x2, x3, x4, x5, x6, x7, x8, x9, x10, x11, x12, x13, x14, x15, y0, y1, y2, .slice la l.length lc]) := by
    simp only [Rep]
    exact ⟨_, rfl, hs⟩
  have hSW : ∀ W, Below w.heap.size w W → RepL W I nosig [.agg (az ++ bs ++ [.sl c l])] (#[.agg #[x0, x1, x2, x3, x4, x5, x6, x7, x8, x9, x10, x11, x12, x13, x14, x15, y0, y1, y2, .slice la l.length lc]] : Array Value).toList := by
    intro W hW
    simp only [RepL]
    exact ⟨_, [], rfl, hS.ext (Ext.ofBelow R.imm hW), rfl⟩
  have hcheck : ∀ W, Below w.heap.size w W → Calls Tryz.prog 27 #[.agg #[x0, x1, x2, x3, x4, x5, x6, x7, x8, x9, x10, x11, x12, x13, x14, x15, y0, y1, y2, .slice la l.length lc]] W fun e w' => e = .returned (.int .i64 er) ∧ Below W.heap.size W w' := by
    intro W hW
    rw [← hP]
    refine (hC.pc hr0 (R.below hW) (hSW W hW)).mono fun e w' hh => ?_
    obtain ⟨u, J, rfl, hb, _, _, _, hr⟩ := hh
    simp only [Rep] at hr
    subst hr
    exact ⟨rfl, hb⟩
  rw [hP]
  split at hv
  · rename_i her
    simp only [Option.some.injEq] at hv
    subst hv
    refine (format_err w x0 x1 x2 x3 x4 x5 x6 x7 x8 x9 x10 x11 x12 x13 x14 x15 y0 y1 y2 la l.length lc hone er her hcheck).mono fun e w' hh => ?_
    obtain ⟨rfl, hb⟩ := hh
    exact ⟨_, I, rfl, stepId R hb, rep_tup2 (by simp [Rep]) (by simp [Rep])⟩
  · rename_i her
    have her : er = 0 := Classical.byContradiction her
    subst her
    obtain ⟨r1, hr1, hv⟩ := Option.bind_eq_some_iff.1 hv
    split at hv
    case h_2 => cases hv
    rename_i cr rows
    split at hv
    case isFalse => cases hv
    rename_i hmax
    obtain ⟨ss, hss, hv⟩ := Option.bind_eq_some_iff.1 hv
    split at hv
    case isFalse => cases hv
    rename_i hlen
    simp only [Option.some.injEq] at hv
    subst hv
    obtain ⟨hll, hget⟩ := mapO_get hss
    refine (format_ok w x0 x1 x2 x3 x4 x5 x6 x7 x8 x9 x10 x11 x12 x13 x14 x15 y0 y1 y2 la l.length lc hone ss (by omega) hcheck ?_ hlen).mono fun e w' hh => ?_
    · intro W hW
      rw [← hP]
      refine (hC.pc hr1 (R.below hW) (hSW W hW)).mono fun e w' hh => ?_
      obtain ⟨u, J, rfl, hb, hE, hRJ, hJ, hr⟩ := hh
      simp only [Rep] at hr
      obtain ⟨a, cap, rfl, hcap, _, _, hmem⟩ := hr
      refine ⟨a, cap, by rw [hll], by omega, hb, ?_⟩
      rcases hmem with he | ⟨b, o, k, rfl, hJb, hrow⟩
      · left
        subst he
        simpa using hll
      · right
        refine ⟨b, o, rfl, ?_, hRJ.imm b hJb, fun i s hi => ?_⟩
        · rcases hJ b hJb with h | h
          · exact .inl (R.imm b h)
          · exact .inr h
        rw [RepRow_iff] at hrow
        have hil : i < rows.length := by rw [← hll]; exact (List.getElem?_eq_some_iff.1 hi).1
        have hri : rows[i]? = some rows[i] := by simp [hil]
        obtain ⟨s', h4, h5⟩ := hget i _ hri
        rw [hi] at h4
        simp only [Option.some.injEq] at h4
        subst h4
        unfold rowO at h5
        split at h5
        case h_2 => cases h5
        rename_i c0 c1 heq
        obtain ⟨sv, h6, h7⟩ := Option.bind_eq_some_iff.1 h5
        have := strOf_eq h7
        subst this
        obtain ⟨hk, hat⟩ := hrow i _ hri
        rw [heq] at hk hat
        simp only [V.cells, List.length_cons, List.length_nil] at hk hat
        subst hk
        obtain ⟨v0, g1, g2, g3⟩ := hat 0 c0 rfl
        obtain ⟨v1, g4, g5, g6⟩ := hat 1 c1 rfl
        refine ⟨v0, v1, g2, g5, g1, g4, fun W' hK => ?_⟩
        have hE' : Ext w' J nosig W' J nosig := ⟨fun b hb => hK.block b (hRJ.imm b hb) (by
          rcases hJ b hb with h | h
          · exact .inl (R.imm b h)
          · exact .inr h), hK.grow, fun _ h => h, fun _ _ h => h⟩
        rw [← hP]
        refine (hC.pc h6 (hRJ.ofExt hE' fun b hb => Nat.lt_of_lt_of_le (hRJ.imm b hb) hK.size) (us := #[.agg #[v0, v1]]) ?_).mono fun e w'' hh => ?_
        · simp only [RepL]
          refine ⟨_, [], rfl, ?_, rfl⟩
          simp only [Rep]
          refine ⟨_, rfl, ?_⟩
          simp only [RepC]
          exact ⟨v0, [v1], rfl, g2, g3.ext hE', v1, [], rfl, g5, g6.ext hE', rfl⟩
        · obtain ⟨u, J', rfl, hb', _, _, _, hr⟩ := hh
          simp only [Rep] at hr
          obtain ⟨x, rfl, hx⟩ := hr
          rw [str_eq hx]
          exact ⟨rfl, hb'⟩
    · obtain ⟨rfl, hb⟩ := hh
      exact ⟨_, I, rfl, stepId R hb, rep_tup2 (by simp [Rep]) (by simp [Rep])⟩
theorem primOk {X : Env} (hP : X.P = Tryz.prog) (hX : X.prim = primD) : PrimOk X := by
  intro g pr hg C hC args v hv w I us R hr
  rw [hX] at hg
  unfold primD at hg
  split at hg
  · rename_i h; subst h; simp only [Option.some.injEq] at hg; subst hg; exact itoa_does hP C hC args v hv w I us R hr
  split at hg
  · rename_i h; subst h; simp only [Option.some.injEq] at hg; subst hg; exact atoi_does hP C hC args v hv w I us R hr
  split at hg
  · rename_i h; subst h; simp only [Option.some.injEq] at hg; subst hg; exact split_does hP C hC args v hv w I us R hr
  split at hg
  · rename_i h; subst h; simp only [Option.some.injEq] at hg; subst hg; exact events_does hP C hC args v hv w I us R hr
  split at hg
  · rename_i h; subst h; simp only [Option.some.injEq] at hg; subst hg; exact format_does hP C hC args v hv w I us R hr
  split at hg
  · simp only [Option.some.injEq] at hg; subst hg; simp [deadP, mkPrim] at hv
  · cases hg
end Go.Proofs.YtcfmnogghcjdaaaGreatDoor
namespace Go.Proofs.YtcfmnogghcjdaaaGreatDoor
open Go Go.Abs
def ti : TypeId → TI
  | 2 => ⟨1, 8, false, .int .i64 0, 0, [], none, some .i64, [0]⟩   
  | 3 => ⟨1, 8, false, .int .i64 0, 0, [], none, some .i64, [0]⟩   
  | 4 => ⟨1, 1, false, .bool false, 0, [], none, none, [1]⟩   
  | 5 => ⟨1, 1, false, .int .u8 0, 0, [], none, some .u8, [0]⟩   
  | 9 => ⟨1, 16, false, .str [], 0, [], none, none, [2]⟩   
  | 21 => ⟨1, 4, false, .int .i32 0, 0, [], none, some .i32, [0]⟩   
  | 22 => ⟨1, 24, false, .sl true [], 3, [], none, none, []⟩   
  | 27 => ⟨1, 8, false, .int .i64 0, 0, [], none, some .i64, [0]⟩   
  | 30 => ⟨1, 24, false, .sl true [], 111, [], none, none, []⟩   
  | 31 => ⟨1, 24, false, .sl true [], 34, [], none, none, []⟩   
  | 33 => ⟨3, 72, true, .agg [.sl true [], .sl true [], .sl true []], 0, [(0, 1), (1, 1), (2, 1)], none, none, []⟩   
  | 34 => ⟨1, 24, false, .sl true [], 135, [], none, none, []⟩   
  | 35 => ⟨1, 24, false, .sl true [], 155, [], none, none, []⟩   
  | 36 => ⟨1, 24, false, .sl true [], 154, [], none, none, []⟩   
  | 38 => ⟨2, 48, true, .agg [.sl true [], .sl true []], 0, [(0, 1), (1, 1)], none, none, []⟩   
  | 39 => ⟨1, 24, false, .sl true [], 160, [], none, none, []⟩   
  | 41 => ⟨6, 144, true, .agg [.sl true [], .sl true [], .sl true [], .sl true [], .sl true [], .sl true []], 0, [(0, 1), (1, 1), (2, 1), (3, 2), (5, 1)], none, none, []⟩   
  | 43 => ⟨16, 288, true, .agg [.sl true [], .sl true [], .sl true [], .sl true [], .sl true [], .sl true [], .sl true [], .sl true [], .sl true [], .sl true [], .int .i64 0, .int .i64 0, .int .i64 0, .int .i64 0, .int .i64 0, .int .i64 0], 0, [(0, 3), (3, 1), (4, 6), (10, 1), (11, 1), (12, 1), (13, 1), (14, 1), (15, 1)], none, none, []⟩   
  | 46 => ⟨1, 24, false, .sl true [], 77, [], none, none, []⟩   
  | 47 => ⟨1, 24, false, .sl true [], 80, [], none, none, []⟩   
  | 48 => ⟨1, 24, false, .sl true [], 82, [], none, none, []⟩   
  | 50 => ⟨3, 72, true, .agg [.sl true [], .sl true [], .sl true []], 0, [(0, 1), (1, 1), (2, 1)], none, none, []⟩   
  | 52 => ⟨1, 24, false, .sl true [], 61, [], none, none, []⟩   
  | 55 => ⟨1, 24, false, .sl true [], 5, [], none, none, []⟩   
  | 61 => ⟨3, 24, true, .agg [.int .i64 0, .int .i64 0, .bool false], 0, [(0, 1), (1, 1), (2, 1)], none, none, [0, 0, 1]⟩   
  | 64 => ⟨4, 32, true, .agg [.int .i64 0, .int .i64 0, .int .i64 0, .int .i64 0], 0, [(0, 1), (1, 1), (2, 1), (3, 1)], none, none, [0, 0, 0, 0]⟩   
  | 65 => ⟨1, 24, false, .sl true [], 64, [], none, none, []⟩   
  | 67 => ⟨2, 32, true, .agg [.sl true [], .int .i64 0], 0, [(0, 1), (1, 1)], none, none, []⟩   
  | 68 => ⟨1, 24, false, .sl true [], 9, [], none, none, []⟩   
  | 69 => ⟨1, 24, false, .sl true [], 22, [], none, none, []⟩   
  | 77 => ⟨6, 48, true, .agg [.int .i64 0, .int .i64 0, .int .i64 0, .int .i64 0, .int .i64 0, .int .i64 0], 0, [(0, 1), (1, 1), (2, 1), (3, 1), (4, 1), (5, 1)], none, none, [0, 0, 0, 0, 0, 0]⟩   
  | 80 => ⟨3, 24, true, .agg [.int .i64 0, .int .i64 0, .int .i64 0], 0, [(0, 1), (1, 1), (2, 1)], none, none, [0, 0, 0]⟩   
  | 82 => ⟨2, 16, true, .agg [.int .i64 0, .bool false], 0, [(0, 1), (1, 1)], none, none, [0, 1]⟩   
  | 85 => ⟨20, 384, true, .agg [.sl true [], .sl true [], .sl true [], .sl true [], .sl true [], .sl true [], .sl true [], .sl true [], .sl true [], .sl true [], .int .i64 0, .int .i64 0, .int .i64 0, .int .i64 0, .int .i64 0, .int .i64 0, .sl true [], .sl true [], .sl true [], .sl true []], 0, [(0, 16), (16, 3), (19, 1)], none, none, []⟩   
  | 87 => ⟨1, 8, false, .nilp, 89, [], none, none, [3]⟩   
  | 89 => ⟨2, 32, true, .agg [.nilp, .sl true []], 0, [(0, 1), (1, 1)], none, none, []⟩   
  | 90 => ⟨1, 24, false, .sl true [], 93, [], none, none, []⟩   
  | 93 => ⟨2, 32, true, .agg [.int .i64 0, .sl true []], 0, [(0, 1), (1, 1)], none, none, []⟩   
  | 95 => ⟨1, 16, false, .ifc false, 0, [], none, none, [4]⟩   
  | 103 => ⟨11, 176, true, .agg [.str [], .str [], .str [], .str [], .str [], .str [], .str [], .str [], .str [], .str [], .str []], 9, [], some 11, none, [9]⟩   
  | 111 => ⟨5, 40, true, .agg [.int .i64 0, .int .i64 0, .int .i64 0, .int .i64 0, .int .i64 0], 0, [(0, 1), (1, 1), (2, 1), (3, 1), (4, 1)], none, none, [0, 0, 0, 0, 0]⟩   
  | 119 => ⟨21, 392, true, .agg [.int .i64 0, .sl true [], .sl true [], .sl true [], .sl true [], .sl true [], .sl true [], .sl true [], .sl true [], .sl true [], .sl true [], .int .i64 0, .int .i64 0, .int .i64 0, .int .i64 0, .int .i64 0, .int .i64 0, .sl true [], .sl true [], .sl true [], .sl true []], 0, [(0, 1), (1, 16), (17, 3), (20, 1)], none, none, []⟩   
  | 122 => ⟨1, 24, false, .sl true [], 134, [], none, none, []⟩   
  | 127 => ⟨6, 96, true, .agg [.str [], .str [], .str [], .str [], .str [], .str []], 9, [], some 6, none, [9]⟩   
  | 129 => ⟨1, 8, false, .nilp, 5, [], none, none, [3]⟩   
  | 134 => ⟨1, 8, false, .nilp, 3, [], none, none, [3]⟩   
  | 135 => ⟨1, 2, false, .int .u16 0, 0, [], none, some .u16, [0]⟩   
  | 137 => ⟨1, 24, false, .sl true [], 30, [], none, none, []⟩   
  | 146 => ⟨1, 8, false, .bad, 0, [], none, none, []⟩   
  | 151 => ⟨4, 4, true, .agg [.bool false, .bool false, .bool false, .bool false], 4, [], some 4, none, [9]⟩   
  | 154 => ⟨3, 24, true, .agg [.int .i64 0, .int .i64 0, .bool false], 0, [(0, 1), (1, 1), (2, 1)], none, none, [0, 0, 1]⟩   
  | 155 => ⟨1, 24, false, .sl true [], 157, [], none, none, []⟩   
  | 157 => ⟨4, 24, true, .agg [.int .u8 0, .int .u16 0, .int .i64 0, .int .i64 0], 0, [(0, 1), (1, 1), (2, 1), (3, 1)], none, none, [0, 0, 0, 0]⟩   
  | 160 => ⟨3, 40, true, .agg [.int .i64 0, .int .i64 0, .sl true []], 0, [(0, 1), (1, 1), (2, 1)], none, none, []⟩   
  | 175 => ⟨24, 24, true, .agg [.int .u8 0, .int .u8 0, .int .u8 0, .int .u8 0, .int .u8 0, .int .u8 0, .int .u8 0, .int .u8 0, .int .u8 0, .int .u8 0, .int .u8 0, .int .u8 0, .int .u8 0, .int .u8 0, .int .u8 0, .int .u8 0, .int .u8 0, .int .u8 0, .int .u8 0, .int .u8 0, .int .u8 0, .int .u8 0, .int .u8 0, .int .u8 0], 5, [], some 24, none, [9]⟩   
  | 176 => ⟨1, 8, false, .int .u64 0, 0, [], none, some .u64, [0]⟩   
  | 181 => ⟨1, 8, false, .int .u64 0, 0, [], none, some .u64, [0]⟩   
  | 186 => ⟨3, 48, true, .agg [.str [], .str [], .ifc false], 0, [(0, 1), (1, 1), (2, 1)], none, none, []⟩   
  | 188 => ⟨20, 160, true, .agg [.int .u64 0, .int .u64 0, .int .u64 0, .int .u64 0, .int .u64 0, .int .u64 0, .int .u64 0, .int .u64 0, .int .u64 0, .int .u64 0, .int .u64 0, .int .u64 0, .int .u64 0, .int .u64 0, .int .u64 0, .int .u64 0, .int .u64 0, .int .u64 0, .int .u64 0, .int .u64 0], 176, [], some 20, none, [9]⟩   
  | 189 => ⟨1, 4, false, .int .u32 0, 0, [], none, some .u32, [0]⟩   
  | 190 => ⟨65, 65, true, .agg [.int .u8 0, .int .u8 0, .int .u8 0, .int .u8 0, .int .u8 0, .int .u8 0, .int .u8 0, .int .u8 0, .int .u8 0, .int .u8 0, .int .u8 0, .int .u8 0, .int .u8 0, .int .u8 0, .int .u8 0, .int .u8 0, .int .u8 0, .int .u8 0, .int .u8 0, .int .u8 0, .int .u8 0, .int .u8 0, .int .u8 0, .int .u8 0, .int .u8 0, .int .u8 0, .int .u8 0, .int .u8 0, .int .u8 0, .int .u8 0, .int .u8 0, .int .u8 0, .int .u8 0, .int .u8 0, .int .u8 0, .int .u8 0, .int .u8 0, .int .u8 0, .int .u8 0, .int .u8 0, .int .u8 0, .int .u8 0, .int .u8 0, .int .u8 0, .int .u8 0, .int .u8 0, .int .u8 0, .int .u8 0, .int .u8 0, .int .u8 0, .int .u8 0, .int .u8 0, .int .u8 0, .int .u8 0, .int .u8 0, .int .u8 0, .int .u8 0, .int .u8 0, .int .u8 0, .int .u8 0, .int .u8 0, .int .u8 0, .int .u8 0, .int .u8 0, .int .u8 0], 5, [], some 65, none, [9]⟩   
  | 192 => ⟨256, 256, true, .agg [.int .u8 0, .int .u8 0, .int .u8 0, .int .u8 0, .int .u8 0, .int .u8 0, .int .u8 0, .int .u8 0, .int .u8 0, .int .u8 0, .int .u8 0, .int .u8 0, .int .u8 0, .int .u8 0, .int .u8 0, .int .u8 0, .int .u8 0, .int .u8 0, .int .u8 0, .int .u8 0, .int .u8 0, .int .u8 0, .int .u8 0, .int .u8 0, .int .u8 0, .int .u8 0, .int .u8 0, .int .u8 0, .int .u8 0, .int .u8 0, .int .u8 0, .int .u8 0, .int .u8 0, .int .u8 0, .int .u8 0, .int .u8 0, .int .u8 0, .int .u8 0, .int .u8 0, .int .u8 0, .int .u8 0, .int .u8 0, .int .u8 0, .int .u8 0, .int .u8 0, .int .u8 0, .int .u8 0, .int .u8 0, .int .u8 0, .int .u8 0, .int .u8 0, .int .u8 0, .int .u8 0, .int .u8 0, .int .u8 0, .int .u8 0, .int .u8 0, .int .u8 0, .int .u8 0, .int .u8 0, .int .u8 0, .int .u8 0, .int .u8 0, .int .u8 0, .int .u8 0, .int .u8 0, .int .u8 0, .int .u8 0, .int .u8 0, .int .u8 0, .int .u8 0, .int .u8 0, .int .u8 0, .int .u8 0, .int .u8 0, .int .u8 0, .int .u8 0, .int .u8 0, .int .u8 0, .int .u8 0, .int .u8 0, .int .u8 0, .int .u8 0, .int .u8 0, .int .u8 0, .int .u8 0, .int .u8 0, .int .u8 0, .int .u8 0, .int .u8 0, .int .u8 0, .int .u8 0, .int .u8 0, .int .u8 0, .int .u8 0, .int .u8 0, .int .u8 0, .int .u8 0, .int .u8 0, .int .u8 0, .int .u8 0, .int .u8 0, .int .u8 0, .int .u8 0, .int .u8 0, .int .u8 0, .int .u8 0, .int .u8 0, .int .u8 0, .int .u8 0, .int .u8 0, .int .u8 0, .int .u8 0, .int .u8 0, .int .u8 0, .int .u8 0, .int .u8 0, .int .u8 0, .int .u8 0, .int .u8 0, .int .u8 0, .int .u8 0, .int .u8 0, .int .u8 0, .int .u8 0, .int .u8 0, .int .u8 0, .int .u8 0, .int .u8 0, .int .u8 0, .int .u8 0, .int .u8 0, .int .u8 0, .int .u8 0, .int .u8 0, .int .u8 0, .int .u8 0, .int .u8 0, .int .u8 0, .int .u8 0, .int .u8 0, .int .u8 0, .int .u8 0, .int .u8 0, .int .u8 0, .int .u8 0, .int .u8 0, .int .u8 0, .int .u8 0, .int .u8 0, .int .u8 0, .int .u8 0, .int .u8 0, .int .u8 0, .int .u8 0, .int .u8 0, .int .u8 0, .int .u8 0, .int .u8 0, .int .u8 0, .int .u8 0, .int .u8 0, .int .u8 0, .int .u8 0, .int .u8 0, .int .u8 0, .int .u8 0, .int .u8 0, .int .u8 0, .int .u8 0, .int .u8 0, .int .u8 0, .int .u8 0, .int .u8 0, .int .u8 0, .int .u8 0, .int .u8 0, .int .u8 0, .int .u8 0, .int .u8 0, .int .u8 0, .int .u8 0, .int .u8 0, .int .u8 0, .int .u8 0, .int .u8 0, .int .u8 0, .int .u8 0, .int .u8 0, .int .u8 0, .int .u8 0, .int .u8 0, .int .u8 0, .int .u8 0, .int .u8 0, .int .u8 0, .int .u8 0, .int .u8 0, .int .u8 0, .int .u8 0, .int .u8 0, .int .u8 0, .int .u8 0, .int .u8 0, .int .u8 0, .int .u8 0, .int .u8 0, .int .u8 0, .int .u8 0, .int .u8 0, .int .u8 0, .int .u8 0, .int .u8 0, .int .u8 0, .int .u8 0, .int .u8 0, .int .u8 0, .int .u8 0, .int .u8 0, .int .u8 0, .int .u8 0, .int .u8 0, .int .u8 0, .int .u8 0, .int .u8 0, .int .u8 0, .int .u8 0, .int .u8 0, .int .u8 0, .int .u8 0, .int .u8 0, .int .u8 0, .int .u8 0, .int .u8 0, .int .u8 0, .int .u8 0, .int .u8 0, .int .u8 0, .int .u8 0, .int .u8 0, .int .u8 0, .int .u8 0, .int .u8 0, .int .u8 0, .int .u8 0, .int .u8 0, .int .u8 0, .int .u8 0, .int .u8 0, .int .u8 0, .int .u8 0, .int .u8 0, .int .u8 0, .int .u8 0, .int .u8 0, .int .u8 0], 5, [], some 256, none, [9]⟩   
  | 194 => ⟨2, 2, true, .agg [.int .u8 0, .int .u8 0], 0, [(0, 1), (1, 1)], none, none, [0, 0]⟩   
  | 195 => ⟨32, 32, true, .agg [.int .u8 0, .int .u8 0, .int .u8 0, .int .u8 0, .int .u8 0, .int .u8 0, .int .u8 0, .int .u8 0, .int .u8 0, .int .u8 0, .int .u8 0, .int .u8 0, .int .u8 0, .int .u8 0, .int .u8 0, .int .u8 0, .int .u8 0, .int .u8 0, .int .u8 0, .int .u8 0, .int .u8 0, .int .u8 0, .int .u8 0, .int .u8 0, .int .u8 0, .int .u8 0, .int .u8 0, .int .u8 0, .int .u8 0, .int .u8 0, .int .u8 0, .int .u8 0], 194, [], some 16, none, [9]⟩   
  | 201 => ⟨1, 16, true, .agg [.str []], 0, [(0, 1)], none, none, [2]⟩   
  | 203 => ⟨32, 32, true, .agg [.int .u8 0, .int .u8 0, .int .u8 0, .int .u8 0, .int .u8 0, .int .u8 0, .int .u8 0, .int .u8 0, .int .u8 0, .int .u8 0, .int .u8 0, .int .u8 0, .int .u8 0, .int .u8 0, .int .u8 0, .int .u8 0, .int .u8 0, .int .u8 0, .int .u8 0, .int .u8 0, .int .u8 0, .int .u8 0, .int .u8 0, .int .u8 0, .int .u8 0, .int .u8 0, .int .u8 0, .int .u8 0, .int .u8 0, .int .u8 0, .int .u8 0, .int .u8 0], 5, [], some 32, none, [9]⟩   
  | 204 => ⟨64, 64, true, .agg [.int .u8 0, .int .u8 0, .int .u8 0, .int .u8 0, .int .u8 0, .int .u8 0, .int .u8 0, .int .u8 0, .int .u8 0, .int .u8 0, .int .u8 0, .int .u8 0, .int .u8 0, .int .u8 0, .int .u8 0, .int .u8 0, .int .u8 0, .int .u8 0, .int .u8 0, .int .u8 0, .int .u8 0, .int .u8 0, .int .u8 0, .int .u8 0, .int .u8 0, .int .u8 0, .int .u8 0, .int .u8 0, .int .u8 0, .int .u8 0, .int .u8 0, .int .u8 0, .int .u8 0, .int .u8 0, .int .u8 0, .int .u8 0, .int .u8 0, .int .u8 0, .int .u8 0, .int .u8 0, .int .u8 0, .int .u8 0, .int .u8 0, .int .u8 0, .int .u8 0, .int .u8 0, .int .u8 0, .int .u8 0, .int .u8 0, .int .u8 0, .int .u8 0, .int .u8 0, .int .u8 0, .int .u8 0, .int .u8 0, .int .u8 0, .int .u8 0, .int .u8 0, .int .u8 0, .int .u8 0, .int .u8 0, .int .u8 0, .int .u8 0, .int .u8 0], 5, [], some 64, none, [9]⟩   
  | _ => default
attribute [simp] ti.eq_1 ti.eq_2 ti.eq_3 ti.eq_4 ti.eq_5 ti.eq_6 ti.eq_7 ti.eq_8 ti.eq_9 ti.eq_10 ti.eq_11 ti.eq_12 ti.eq_13 ti.eq_14 ti.eq_15 ti.eq_16 ti.eq_17 ti.eq_18 ti.eq_19 ti.eq_20 ti.eq_21 ti.eq_22 ti.eq_23 ti.eq_24 ti.eq_25 ti.eq_26 ti.eq_27 ti.eq_28 ti.eq_29 ti.eq_30
attribute [simp] ti.eq_31 ti.eq_32 ti.eq_33 ti.eq_34 ti.eq_35 ti.eq_36 ti.eq_37 ti.eq_38 ti.eq_39 ti.eq_40 ti.eq_41 ti.eq_42 ti.eq_43 ti.eq_44 ti.eq_45 ti.eq_46 ti.eq_47 ti.eq_48 ti.eq_49 ti.eq_50 ti.eq_51 ti.eq_52 ti.eq_53 ti.eq_54 ti.eq_55 ti.eq_56 ti.eq_57 ti.eq_58 ti.eq_59 ti.eq_60
attribute [simp] ti.eq_61 ti.eq_62 ti.eq_63 ti.eq_64 ti.eq_65 ti.eq_66 ti.eq_67
def cl : FuncId → Option TypeId
  | _ => none
def byL : FuncId → Bool
  | 7 => true
  | 50 => true
  | 51 => true
  | 52 => true
  | 60 => true
  | 61 => true
  | _ => false
def ioL : FuncId → Bool
  | 9 => true
  | 10 => true
  | 11 => true
  | 12 => true
  | 21 => true
  | 22 => true
  | 23 => true
  | 29 => true
  | 31 => true
  | 34 => true
  | 39 => true
  | 40 => true
  | 41 => true
  | 47 => true
  | 54 => true
  | 62 => true
  | 64 => true
  | _ => false
def lowL : FuncId → Bool
  | 4 => true
  | 8 => true
  | 9 => true
  | 11 => true
  | 12 => true
  | 16 => true
  | 18 => true
  | 20 => true
  | 21 => true
  | 25 => true
  | 27 => true
  | 28 => true
  | 30 => true
  | 33 => true
  | 39 => true
  | 40 => true
  | 46 => true
  | 58 => true
  | 65 => true
  | 66 => true
  | 67 => true
  | 69 => true
  | 70 => true
  | 79 => true
  | 80 => true
  | 81 => true
  | _ => false
def thL : FuncId → Nat → Bool
  | 18, d => d == 18 || d == 34
  | 28, d => d == 20
  | 39, d => d == 8
  | 41, d => d == 102 || d == 113 || d == 134
  | _, _ => false
def flL : FuncId → Nat → Bool
  | 3, d => d == 81
  | 8, d => d == 88
  | 9, d => d == 38
  | 11, d => d == 26 || d == 51 || d == 69
  | 12, d => d == 24
  | 18, d => d == 31 || d == 48 || d == 63 || d == 64 || d == 79 || d == 88 || d == 89 || d == 104 || d == 112 || d == 113 || d == 126 || d == 136 || d == 137
  | 28, d => d == 51 || d == 70 || d == 90
  | 33, d => d == 52
  | 34, d => d == 76 || d == 97 || d == 126 || d == 154
  | 38, d => d == 20 || d == 29
  | 39, d => d == 17 || d == 24
  | 41, d => d == 43 || d == 137 || d == 163 || d == 180 || d == 200 || d == 207
  | 46, d => d == 30
  | 47, d => d == 100 || d == 178 || d == 201 || d == 222
  | 50, d => d == 16
  | 69, d => d == 64
  | _, _ => false
def kpL : FuncId → TypeId → Bool
  | 28, t => t == 134
  | 34, t => t == 134
  | 50, t => t == 134
  | 51, t => t == 134
  | 52, t => t == 134
  | 61, t => t == 134
  | _, _ => false
def mkL : FuncId → Nat → Mask
  | _ => fun _ => []
def omL : FuncId → Mask
  | 34 => [(0, 16, 77), (0, 17, 80), (0, 18, 82), (0, 19, 61)]
  | 47 => [(0, 17, 77), (0, 18, 80), (0, 19, 82), (0, 20, 61)]
  | _ => []
@[simp] def nmR4 (k : Nat) : Option Norm := if k = 21 then some ⟨[5, 6, 7, 8, 9, 10, 11], [⟨.box 5, 5, 0, false⟩], false, 1100⟩ else none
@[simp] def nmR8 (k : Nat) : Option Norm := if k = 13 then some ⟨[8, 9, 10, 11], [⟨.slot 10, 10, 1, false⟩], false, 1100⟩ else if k = 19 then some ⟨[8, 9, 10, 11, 12], [⟨.slot 10, 10, 1, false⟩], false, 1100⟩ else none
@[simp] def nmR9 (k : Nat) : Option Norm := if k = 7 then some ⟨[0, 1, 4, 5, 6], [⟨.box 0, 0, 0, false⟩, ⟨.box 4, 4, 0, false⟩, ⟨.box 5, 5, 0, false⟩, ⟨.cell 5 3, 1000, 1, false⟩], true, 1101⟩ else none
@[simp] def nmR11 (k : Nat) : Option Norm := if k = 7 then some ⟨[0, 1, 4, 5, 6], [⟨.box 0, 0, 0, false⟩, ⟨.box 4, 4, 0, false⟩, ⟨.box 5, 5, 0, false⟩, ⟨.cell 5 0, 1000, 6, false⟩, ⟨.cell 5 1, 1001, 3, false⟩, ⟨.cell 5 2, 1002, 2, false⟩], true, 1103⟩ else if k = 17 then some ⟨[0, 1, 4, 5, 8], [⟨.box 0, 0, 0, false⟩, ⟨.box 4, 4, 0, false⟩, ⟨.box 5, 5, 0, false⟩, ⟨.cell 5 0, 1000, 6, false⟩, ⟨.cell 5 1, 1001, 3, false⟩, ⟨.cell 5 2, 1002, 2, false⟩], true, 1103⟩ else if k = 25 then some ⟨[0, 4, 5, 9], [⟨.box 0, 0, 0, false⟩, ⟨.box 4, 4, 0, false⟩, ⟨.box 5, 5, 0, false⟩, ⟨.cell 5 0, 1000, 6, false⟩, ⟨.cell 5 1, 1001, 3, false⟩, ⟨.cell 5 2, 1002, 2, false⟩], true, 1103⟩ else none
@[simp] def nmR12 (k : Nat) : Option Norm := if k = 7 then some ⟨[0, 5, 6], [⟨.box 0, 0, 0, false⟩, ⟨.slot 5, 5, 3, false⟩], true, 1100⟩ else none
@[simp] def nmR16 (k : Nat) : Option Norm := if k = 13 then some ⟨[2, 3, 7, 8, 9, 10, 23, 24, 25], [⟨.box 2, 2, 0, false⟩, ⟨.box 3, 3, 0, false⟩, ⟨.box 9, 9, 0, false⟩, ⟨.cell 9 16, 1000, 6, false⟩, ⟨.cell 9 17, 1001, 3, false⟩, ⟨.cell 9 18, 1002, 2, false⟩, ⟨.cell 9 19, 1003, 3, false⟩], false, 1104⟩ else none
@[simp] def nmR18 (k : Nat) : Option Norm := if k = 9 then some ⟨[2, 4, 8, 9, 10], [⟨.box 4, 4, 0, false⟩, ⟨.slot 8, 8, 1, false⟩, ⟨.slot 9, 9, 1, false⟩], false, 1100⟩ else if k = 19 then some ⟨[2, 4, 8, 9, 12], [⟨.box 4, 4, 0, false⟩, ⟨.slot 8, 8, 1, false⟩, ⟨.slot 9, 9, 1, false⟩], false, 1100⟩ else if k = 29 then some ⟨[2, 4, 8, 9, 14], [⟨.box 4, 4, 0, false⟩, ⟨.slot 8, 8, 1, false⟩, ⟨.slot 9, 9, 1, false⟩], false, 1100⟩ else if k = 39 then some ⟨[2, 8, 9, 16], [⟨.slot 8, 8, 1, false⟩, ⟨.slot 9, 9, 1, false⟩], false, 1100⟩ else none
@[simp] def nmR20 (k : Nat) : Option Norm := if k = 5 then some ⟨[0, 1, 5], [], false, 1100⟩ else none
@[simp] def nmR21 (k : Nat) : Option Norm := if k = 7 then some ⟨[0, 2, 3, 13, 14, 15], [⟨.box 0, 0, 0, false⟩, ⟨.box 2, 2, 0, false⟩, ⟨.box 3, 3, 0, false⟩, ⟨.cell 3 0, 1000, 5, false⟩, ⟨.cell 3 2, 1001, 1, false⟩], true, 1102⟩ else if k = 17 then some ⟨[0, 2, 3, 6], [⟨.box 0, 0, 0, false⟩, ⟨.box 2, 2, 0, false⟩, ⟨.box 3, 3, 0, false⟩, ⟨.cell 3 0, 1000, 5, false⟩, ⟨.cell 3 2, 1001, 1, false⟩], true, 1102⟩ else if k = 45 then some ⟨[0, 2, 3, 101, 102], [⟨.box 0, 0, 0, false⟩, ⟨.box 2, 2, 0, false⟩, ⟨.box 3, 3, 0, false⟩, ⟨.cell 3 0, 1000, 5, false⟩, ⟨.cell 3 2, 1001, 1, false⟩], true, 1102⟩ else none
@[simp] def nmR25 (k : Nat) : Option Norm := if k = 9 then some ⟨[2, 3, 7, 8, 9], [⟨.box 2, 2, 0, false⟩, ⟨.box 3, 3, 0, false⟩, ⟨.box 8, 8, 0, false⟩, ⟨.cell 8 17, 1000, 6, false⟩, ⟨.cell 8 18, 1001, 3, false⟩, ⟨.cell 8 19, 1002, 2, false⟩, ⟨.cell 8 20, 1003, 3, false⟩], false, 1104⟩ else none
@[simp] def nmR27 (k : Nat) : Option Norm := if k = 9 then some ⟨[45, 46, 47], [], false, 1100⟩ else none
@[simp] def nmR28 (k : Nat) : Option Norm := if k = 7 then some ⟨[1, 3, 23, 24, 25], [⟨.box 1, 1, 0, false⟩, ⟨.slot 3, 3, 2, false⟩], false, 1100⟩ else if k = 17 then some ⟨[1, 3, 38, 39, 40], [⟨.box 1, 1, 0, false⟩, ⟨.slot 3, 3, 2, false⟩], false, 1100⟩ else if k = 27 then some ⟨[1, 3, 58, 59, 60], [⟨.box 1, 1, 0, false⟩, ⟨.slot 3, 3, 2, false⟩], false, 1100⟩ else if k = 37 then some ⟨[3, 76, 77, 78], [⟨.slot 3, 3, 2, false⟩], false, 1100⟩ else none
@[simp] def nmR30 (k : Nat) : Option Norm := if k = 7 then some ⟨[3, 11, 12, 13], [], false, 1100⟩ else none
@[simp] def nmR33 (k : Nat) : Option Norm := if k = 15 then some ⟨[2, 6, 25, 26, 27], [⟨.box 2, 2, 0, false⟩, ⟨.box 6, 6, 0, false⟩, ⟨.cell 6 1, 1000, 1, false⟩], false, 1101⟩ else none
@[simp] def nmR39 (k : Nat) : Option Norm := if k = 7 then some ⟨[0, 3, 4], [⟨.box 0, 0, 0, false⟩, ⟨.slot 3, 3, 1, false⟩], true, 1100⟩ else none
@[simp] def nmR40 (k : Nat) : Option Norm := if k = 7 then some ⟨[0, 5, 6], [⟨.box 0, 0, 0, false⟩, ⟨.slot 5, 5, 1, false⟩], true, 1100⟩ else none
@[simp] def nmR46 (k : Nat) : Option Norm := if k = 9 then some ⟨[0, 1, 5, 6, 7], [⟨.slot 5, 5, 1, false⟩], false, 1100⟩ else none
@[simp] def nmR58 (k : Nat) : Option Norm := if k = 5 then some ⟨[0, 1, 7, 8], [], false, 1100⟩ else none
@[simp] def nmR65 (k : Nat) : Option Norm := if k = 7 then some ⟨[0, 2, 4, 15, 16], [⟨.box 2, 2, 0, false⟩, ⟨.box 4, 4, 0, false⟩, ⟨.cell 4 0, 1000, 1, false⟩, ⟨.cell 4 1, 1001, 3, false⟩], false, 1102⟩ else if k = 17 then some ⟨[2, 4, 25, 26, 27], [⟨.box 2, 2, 0, false⟩, ⟨.box 4, 4, 0, false⟩, ⟨.cell 4 0, 1000, 1, false⟩, ⟨.cell 4 1, 1001, 3, false⟩], false, 1102⟩ else if k = 25 then some ⟨[2, 4, 8, 25, 26, 27, 31, 32, 33], [⟨.box 2, 2, 0, false⟩, ⟨.box 4, 4, 0, false⟩, ⟨.slot 8, 8, 4, false⟩, ⟨.cell 4 0, 1000, 1, false⟩, ⟨.cell 4 1, 1001, 3, false⟩], false, 1102⟩ else none
@[simp] def nmR66 (k : Nat) : Option Norm := if k = 7 then some ⟨[3, 6, 7, 8], [⟨.slot 3, 3, 1, false⟩], false, 1100⟩ else none
@[simp] def nmR67 (k : Nat) : Option Norm := if k = 5 then some ⟨[1, 8, 9, 10], [⟨.box 1, 1, 0, false⟩], false, 1100⟩ else if k = 17 then some ⟨[1, 19, 20, 21], [⟨.box 1, 1, 0, false⟩], false, 1100⟩ else none
@[simp] def nmR69 (k : Nat) : Option Norm := if k = 9 then some ⟨[3, 4, 5], [⟨.slot 4, 4, 1, false⟩], false, 1100⟩ else if k = 17 then some ⟨[3, 4, 5, 6, 7, 8], [⟨.slot 4, 4, 1, false⟩], false, 1100⟩ else none
@[simp] def nmR70 (k : Nat) : Option Norm := if k = 5 then some ⟨[0, 1, 7, 8], [], false, 1100⟩ else none
@[simp] def nmR79 (k : Nat) : Option Norm := if k = 9 then some ⟨[1, 18, 19, 20], [⟨.box 1, 1, 0, false⟩], false, 1100⟩ else if k = 21 then some ⟨[1, 29, 30, 31], [⟨.box 1, 1, 0, false⟩], false, 1100⟩ else none
@[simp] def nmR80 (k : Nat) : Option Norm := if k = 5 then some ⟨[0, 1, 7, 8, 9], [], false, 1100⟩ else none
@[simp] def nmR81 (k : Nat) : Option Norm := if k = 5 then some ⟨[5, 6, 7], [], false, 1100⟩ else none
def nmL : FuncId → Nat → Option Norm
  | 4 => nmR4
  | 8 => nmR8
  | 9 => nmR9
  | 11 => nmR11
  | 12 => nmR12
  | 16 => nmR16
  | 18 => nmR18
  | 20 => nmR20
  | 21 => nmR21
  | 25 => nmR25
  | 27 => nmR27
  | 28 => nmR28
  | 30 => nmR30
  | 33 => nmR33
  | 39 => nmR39
  | 40 => nmR40
  | 46 => nmR46
  | 58 => nmR58
  | 65 => nmR65
  | 66 => nmR66
  | 67 => nmR67
  | 69 => nmR69
  | 70 => nmR70
  | 79 => nmR79
  | 80 => nmR80
  | 81 => nmR81
  | _ => fun _ => none
@[simp] def exR3 (r : Nat) : List (Nat × Nat) := if r = 16 then [(10, 0), (10, 5)] else []
@[simp] def exR9 (r : Nat) : List (Nat × Nat) := if r = 5 then [(1, 4)] else []
@[simp] def exR11 (r : Nat) : List (Nat × Nat) := if r = 10 then [(1, 4), (1, 7), (1, 9)] else if r = 14 then [(1, 4), (1, 6)] else []
@[simp] def exR16 (r : Nat) : List (Nat × Nat) := if r = 20 then [(3, 7), (5, 7), (5, 8)] else []
@[simp] def exR18 (r : Nat) : List (Nat × Nat) := if r = 7 then [(5, 0), (7, 0), (9, 0), (11, 0), (13, 0), (15, 0)] else if r = 12 then [(5, 0), (7, 0), (9, 0)] else if r = 17 then [(5, 0), (7, 0)] else if r = 22 then [(5, 0), (7, 0), (9, 0)] else []
@[simp] def exR21 (r : Nat) : List (Nat × Nat) := if r = 5 then [(1, 5), (1, 6)] else if r = 15 then [(1, 8), (1, 10)] else if r = 18 then [(1, 4), (1, 7)] else []
@[simp] def exR25 (r : Nat) : List (Nat × Nat) := if r = 16 then [(7, 13), (11, 13), (11, 14)] else []
@[simp] def exR28 (r : Nat) : List (Nat × Nat) := if r = 1 then [(6, 0), (6, 2)] else []
@[simp] def exR33 (r : Nat) : List (Nat × Nat) := if r = 3 then [(2, 0), (3, 0)] else []
@[simp] def exR34 (r : Nat) : List (Nat × Nat) := if r = 3 then [(4, 8)] else if r = 7 then [(4, 0)] else if r = 13 then [(1, 0)] else []
@[simp] def exR41 (r : Nat) : List (Nat × Nat) := if r = 8 then [(3, 7), (3, 10), (3, 13), (4, 7), (4, 10), (4, 13)] else if r = 13 then [(8, 0), (9, 0)] else if r = 16 then [(8, 0), (9, 0)] else []
@[simp] def exR45 (r : Nat) : List (Nat × Nat) := if r = 4 then [(6, 0), (6, 2)] else []
def exL : FuncId → Nat → List (Nat × Nat)
  | 3 => exR3
  | 9 => exR9
  | 11 => exR11
  | 16 => exR16
  | 18 => exR18
  | 21 => exR21
  | 25 => exR25
  | 28 => exR28
  | 33 => exR33
  | 34 => exR34
  | 41 => exR41
  | 45 => exR45
  | _ => fun _ => []
noncomputable def X : Env := { P := Tryz.prog, ti := ti, thaw := thL, byref := byL, inout := ioL, clone := cl, keepT := kpL, exc := exL, norm := nmL, low := lowL, mask := mkL, omask := omL, flat := flL, prim := primD }
@[simp] theorem X_P : X.P = Tryz.prog := rfl
@[simp] theorem X_ti : X.ti = ti := rfl
abbrev Xa (f : FuncId) : Prop := X.clone f = none ∧ X.byref f = false ∧ X.inout f = false ∧ X.low f = false ∧ X.omask f = []
abbrev Xl (f : FuncId) : Prop := X.clone f = none ∧ X.byref f = false ∧ X.inout f = false ∧ X.low f = true ∧ X.omask f = []
abbrev Xt (f : FuncId) : Prop := X.thaw f = fun _ => false
abbrev Xf (f : FuncId) : Prop := X.flat f = fun _ => false
abbrev Xk (f : FuncId) : Prop := X.keepT f = fun _ => false
abbrev Xm (f : FuncId) : Prop := X.mask f = fun _ => []
abbrev Xn (f : FuncId) : Prop := X.norm f = fun _ => none
abbrev Xe (f : FuncId) : Prop := X.exc f = fun _ => []
abbrev Xd (f : FuncId) : Prop := Xa f ∧ Xt f ∧ Xf f ∧ Xk f ∧ Xm f ∧ Xn f ∧ Xe f
@[simp] theorem X3 : Xa 3 ∧ Xt 3 ∧ (∀ d : Nat, X.flat 3 d = (d == 81)) ∧ Xk 3 ∧ Xm 3 ∧ Xn 3 ∧ X.exc 3 = exR3 := by and_intros <;> first | rfl | exact fun _ => rfl
@[simp] theorem X4 : Xl 4 ∧ Xt 4 ∧ Xf 4 ∧ Xk 4 ∧ Xm 4 ∧ X.norm 4 = nmR4 ∧ Xe 4 := by and_intros <;> first | rfl | exact fun _ => rfl
@[simp] theorem X5 : Xd 5 := by and_intros <;> rfl
@[simp] theorem X6 : Xd 6 := by and_intros <;> rfl
@[simp] theorem X7 : X.clone 7 = none ∧ X.byref 7 = true ∧ X.inout 7 = false ∧ X.low 7 = false ∧ X.omask 7 = [] ∧ Xt 7 ∧ Xf 7 ∧ Xk 7 ∧ Xm 7 ∧ Xn 7 ∧ Xe 7 := by and_intros <;> first | rfl | exact fun _ => rfl
@[simp] theorem X8 : Xl 8 ∧ Xt 8 ∧ (∀ d : Nat, X.flat 8 d = (d == 88)) ∧ Xk 8 ∧ Xm 8 ∧ X.norm 8 = nmR8 ∧ Xe 8 := by and_intros <;> first | rfl | exact fun _ => rfl
@[simp] theorem X9 : X.clone 9 = none ∧ X.byref 9 = false ∧ X.inout 9 = true ∧ X.low 9 = true ∧ X.omask 9 = [] ∧ Xt 9 ∧ (∀ d : Nat, X.flat 9 d = (d == 38)) ∧ Xk 9 ∧ Xm 9 ∧ X.norm 9 = nmR9 ∧ X.exc 9 = exR9 := by and_intros <;> first | rfl | exact fun _ => rfl
@[simp] theorem X10 : X.clone 10 = none ∧ X.byref 10 = false ∧ X.inout 10 = true ∧ X.low 10 = false ∧ X.omask 10 = [] ∧ Xt 10 ∧ Xf 10 ∧ Xk 10 ∧ Xm 10 ∧ Xn 10 ∧ Xe 10 := by and_intros <;> first | rfl | exact fun _ => rfl
@[simp] theorem X11 : X.clone 11 = none ∧ X.byref 11 = false ∧ X.inout 11 = true ∧ X.low 11 = true ∧ X.omask 11 = [] ∧ Xt 11 ∧ (∀ d : Nat, X.flat 11 d = (d == 26 || d == 51 || d == 69)) ∧ Xk 11 ∧ Xm 11 ∧ X.norm 11 = nmR11 ∧ X.exc 11 = exR11 := by and_intros <;> first | rfl | exact fun _ => rfl
@[simp] theorem X12 : X.clone 12 = none ∧ X.byref 12 = false ∧ X.inout 12 = true ∧ X.low 12 = true ∧ X.omask 12 = [] ∧ Xt 12 ∧ (∀ d : Nat, X.flat 12 d = (d == 24)) ∧ Xk 12 ∧ Xm 12 ∧ X.norm 12 = nmR12 ∧ Xe 12 := by and_intros <;> first | rfl | exact fun _ => rfl
@[simp] theorem X13 : Xd 13 := by and_intros <;> rfl
@[simp] theorem X14 : Xd 14 := by and_intros <;> rfl
@[simp] theorem X15 : Xd 15 := by and_intros <;> rfl
@[simp] theorem X16 : Xl 16 ∧ Xt 16 ∧ Xf 16 ∧ Xk 16 ∧ Xm 16 ∧ X.norm 16 = nmR16 ∧ X.exc 16 = exR16 := by and_intros <;> first | rfl | exact fun _ => rfl
@[simp] theorem X17 : Xd 17 := by and_intros <;> rfl
@[simp] theorem X18 : Xl 18 ∧ (∀ d : Nat, X.thaw 18 d = (d == 18 || d == 34)) ∧ (∀ d : Nat, X.flat 18 d = (d == 31 || d == 48 || d == 63 || d == 64 || d == 79 || d == 88 || d == 89 || d == 104 || d == 112 || d == 113 || d == 126 || d == 136 || d == 137)) ∧ Xk 18 ∧ Xm 18 ∧ X.norm 18 = nmR18 ∧ X.exc 18 = exR18 := by and_intros <;> first | rfl | exact fun _ => rfl
@[simp] theorem X19 : Xd 19 := by and_intros <;> rfl
@[simp] theorem X20 : Xl 20 ∧ Xt 20 ∧ Xf 20 ∧ Xk 20 ∧ Xm 20 ∧ X.norm 20 = nmR20 ∧ Xe 20 := by and_intros <;> first | rfl | exact fun _ => rfl
@[simp] theorem X21 : X.clone 21 = none ∧ X.byref 21 = false ∧ X.inout 21 = true ∧ X.low 21 = true ∧ X.omask 21 = [] ∧ Xt 21 ∧ Xf 21 ∧ Xk 21 ∧ Xm 21 ∧ X.norm 21 = nmR21 ∧ X.exc 21 = exR21 := by and_intros <;> first | rfl | exact fun _ => rfl
@[simp] theorem X22 : X.clone 22 = none ∧ X.byref 22 = false ∧ X.inout 22 = true ∧ X.low 22 = false ∧ X.omask 22 = [] ∧ Xt 22 ∧ Xf 22 ∧ Xk 22 ∧ Xm 22 ∧ Xn 22 ∧ Xe 22 := by and_intros <;> first | rfl | exact fun _ => rfl
@[simp] theorem X23 : X.clone 23 = none ∧ X.byref 23 = false ∧ X.inout 23 = true ∧ X.low 23 = false ∧ X.omask 23 = [] ∧ Xt 23 ∧ Xf 23 ∧ Xk 23 ∧ Xm 23 ∧ Xn 23 ∧ Xe 23 := by and_intros <;> first | rfl | exact fun _ => rfl
@[simp] theorem X24 : Xd 24 := by and_intros <;> rfl
@[simp] theorem X25 : Xl 25 ∧ Xt 25 ∧ Xf 25 ∧ Xk 25 ∧ Xm 25 ∧ X.norm 25 = nmR25 ∧ X.exc 25 = exR25 := by and_intros <;> first | rfl | exact fun _ => rfl
@[simp] theorem X26 : Xd 26 := by and_intros <;> rfl
@[simp] theorem X27 : Xl 27 ∧ Xt 27 ∧ Xf 27 ∧ Xk 27 ∧ Xm 27 ∧ X.norm 27 = nmR27 ∧ Xe 27 := by and_intros <;> first | rfl | exact fun _ => rfl
@[simp] theorem X28 : Xl 28 ∧ (∀ d : Nat, X.thaw 28 d = (d == 20)) ∧ (∀ d : Nat, X.flat 28 d = (d == 51 || d == 70 || d == 90)) ∧ (∀ t : TypeId, X.keepT 28 t = (t == 134)) ∧ Xm 28 ∧ X.norm 28 = nmR28 ∧ X.exc 28 = exR28 := by and_intros <;> first | rfl | exact fun _ => rfl
@[simp] theorem X30 : Xl 30 ∧ Xt 30 ∧ Xf 30 ∧ Xk 30 ∧ Xm 30 ∧ X.norm 30 = nmR30 ∧ Xe 30 := by and_intros <;> first | rfl | exact fun _ => rfl
@[simp] theorem X32 : Xd 32 := by and_intros <;> rfl
@[simp] theorem X33 : Xl 33 ∧ Xt 33 ∧ (∀ d : Nat, X.flat 33 d = (d == 52)) ∧ Xk 33 ∧ Xm 33 ∧ X.norm 33 = nmR33 ∧ X.exc 33 = exR33 := by and_intros <;> first | rfl | exact fun _ => rfl
@[simp] theorem X34 : X.clone 34 = none ∧ X.byref 34 = false ∧ X.inout 34 = true ∧ X.low 34 = false ∧ X.omask 34 = [(0, 16, 77), (0, 17, 80), (0, 18, 82), (0, 19, 61)] ∧ Xt 34 ∧ (∀ d : Nat, X.flat 34 d = (d == 76 || d == 97 || d == 126 || d == 154)) ∧ (∀ t : TypeId, X.keepT 34 t = (t == 134)) ∧ Xm 34 ∧ Xn 34 ∧ X.exc 34 = exR34 := by and_intros <;> first | rfl | exact fun _ => rfl
@[simp] theorem X35 : Xd 35 := by and_intros <;> rfl
@[simp] theorem X36 : Xd 36 := by and_intros <;> rfl
@[simp] theorem X37 : Xd 37 := by and_intros <;> rfl
@[simp] theorem X38 : Xa 38 ∧ Xt 38 ∧ (∀ d : Nat, X.flat 38 d = (d == 20 || d == 29)) ∧ Xk 38 ∧ Xm 38 ∧ Xn 38 ∧ Xe 38 := by and_intros <;> first | rfl | exact fun _ => rfl
@[simp] theorem X39 : X.clone 39 = none ∧ X.byref 39 = false ∧ X.inout 39 = true ∧ X.low 39 = true ∧ X.omask 39 = [] ∧ (∀ d : Nat, X.thaw 39 d = (d == 8)) ∧ (∀ d : Nat, X.flat 39 d = (d == 17 || d == 24)) ∧ Xk 39 ∧ Xm 39 ∧ X.norm 39 = nmR39 ∧ Xe 39 := by and_intros <;> first | rfl | exact fun _ => rfl
@[simp] theorem X40 : X.clone 40 = none ∧ X.byref 40 = false ∧ X.inout 40 = true ∧ X.low 40 = true ∧ X.omask 40 = [] ∧ Xt 40 ∧ Xf 40 ∧ Xk 40 ∧ Xm 40 ∧ X.norm 40 = nmR40 ∧ Xe 40 := by and_intros <;> first | rfl | exact fun _ => rfl
@[simp] theorem X41 : X.clone 41 = none ∧ X.byref 41 = false ∧ X.inout 41 = true ∧ X.low 41 = false ∧ X.omask 41 = [] ∧ (∀ d : Nat, X.thaw 41 d = (d == 102 || d == 113 || d == 134)) ∧ (∀ d : Nat, X.flat 41 d = (d == 43 || d == 137 || d == 163 || d == 180 || d == 200 || d == 207)) ∧ Xk 41 ∧ Xm 41 ∧ Xn 41 ∧ X.exc 41 = exR41 := by and_intros <;> first | rfl | exact fun _ => rfl
@[simp] theorem X42 : Xd 42 := by and_intros <;> rfl
@[simp] theorem X43 : Xd 43 := by and_intros <;> rfl
@[simp] theorem X44 : Xd 44 := by and_intros <;> rfl
@[simp] theorem X45 : Xa 45 ∧ Xt 45 ∧ Xf 45 ∧ Xk 45 ∧ Xm 45 ∧ Xn 45 ∧ X.exc 45 = exR45 := by and_intros <;> first | rfl | exact fun _ => rfl
@[simp] theorem X46 : Xl 46 ∧ Xt 46 ∧ (∀ d : Nat, X.flat 46 d = (d == 30)) ∧ Xk 46 ∧ Xm 46 ∧ X.norm 46 = nmR46 ∧ Xe 46 := by and_intros <;> first | rfl | exact fun _ => rfl
@[simp] theorem X47 : X.clone 47 = none ∧ X.byref 47 = false ∧ X.inout 47 = true ∧ X.low 47 = false ∧ X.omask 47 = [(0, 17, 77), (0, 18, 80), (0, 19, 82), (0, 20, 61)] ∧ Xt 47 ∧ (∀ d : Nat, X.flat 47 d = (d == 100 || d == 178 || d == 201 || d == 222)) ∧ Xk 47 ∧ Xm 47 ∧ Xn 47 ∧ Xe 47 := by and_intros <;> first | rfl | exact fun _ => rfl
@[simp] theorem X48 : Xd 48 := by and_intros <;> rfl
@[simp] theorem X49 : Xd 49 := by and_intros <;> rfl
@[simp] theorem X50 : X.clone 50 = none ∧ X.byref 50 = true ∧ X.inout 50 = false ∧ X.low 50 = false ∧ X.omask 50 = [] ∧ Xt 50 ∧ (∀ d : Nat, X.flat 50 d = (d == 16)) ∧ (∀ t : TypeId, X.keepT 50 t = (t == 134)) ∧ Xm 50 ∧ Xn 50 ∧ Xe 50 := by and_intros <;> first | rfl | exact fun _ => rfl
@[simp] theorem X51 : X.clone 51 = none ∧ X.byref 51 = true ∧ X.inout 51 = false ∧ X.low 51 = false ∧ X.omask 51 = [] ∧ Xt 51 ∧ Xf 51 ∧ (∀ t : TypeId, X.keepT 51 t = (t == 134)) ∧ Xm 51 ∧ Xn 51 ∧ Xe 51 := by and_intros <;> first | rfl | exact fun _ => rfl
@[simp] theorem X52 : X.clone 52 = none ∧ X.byref 52 = true ∧ X.inout 52 = false ∧ X.low 52 = false ∧ X.omask 52 = [] ∧ Xt 52 ∧ Xf 52 ∧ (∀ t : TypeId, X.keepT 52 t = (t == 134)) ∧ Xm 52 ∧ Xn 52 ∧ Xe 52 := by and_intros <;> first | rfl | exact fun _ => rfl
@[simp] theorem X53 : Xd 53 := by and_intros <;> rfl
@[simp] theorem X55 : Xd 55 := by and_intros <;> rfl
@[simp] theorem X56 : Xd 56 := by and_intros <;> rfl
@[simp] theorem X58 : Xl 58 ∧ Xt 58 ∧ Xf 58 ∧ Xk 58 ∧ Xm 58 ∧ X.norm 58 = nmR58 ∧ Xe 58 := by and_intros <;> first | rfl | exact fun _ => rfl
@[simp] theorem X59 : Xd 59 := by and_intros <;> rfl
@[simp] theorem X60 : X.clone 60 = none ∧ X.byref 60 = true ∧ X.inout 60 = false ∧ X.low 60 = false ∧ X.omask 60 = [] ∧ Xt 60 ∧ Xf 60 ∧ Xk 60 ∧ Xm 60 ∧ Xn 60 ∧ Xe 60 := by and_intros <;> first | rfl | exact fun _ => rfl
@[simp] theorem X61 : X.clone 61 = none ∧ X.byref 61 = true ∧ X.inout 61 = false ∧ X.low 61 = false ∧ X.omask 61 = [] ∧ Xt 61 ∧ Xf 61 ∧ (∀ t : TypeId, X.keepT 61 t = (t == 134)) ∧ Xm 61 ∧ Xn 61 ∧ Xe 61 := by and_intros <;> first | rfl | exact fun _ => rfl
@[simp] theorem X62 : X.clone 62 = none ∧ X.byref 62 = false ∧ X.inout 62 = true ∧ X.low 62 = false ∧ X.omask 62 = [] ∧ Xt 62 ∧ Xf 62 ∧ Xk 62 ∧ Xm 62 ∧ Xn 62 ∧ Xe 62 := by and_intros <;> first | rfl | exact fun _ => rfl
@[simp] theorem X63 : Xd 63 := by and_intros <;> rfl
@[simp] theorem X64 : X.clone 64 = none ∧ X.byref 64 = false ∧ X.inout 64 = true ∧ X.low 64 = false ∧ X.omask 64 = [] ∧ Xt 64 ∧ Xf 64 ∧ Xk 64 ∧ Xm 64 ∧ Xn 64 ∧ Xe 64 := by and_intros <;> first | rfl | exact fun _ => rfl
@[simp] theorem X65 : Xl 65 ∧ Xt 65 ∧ Xf 65 ∧ Xk 65 ∧ Xm 65 ∧ X.norm 65 = nmR65 ∧ Xe 65 := by and_intros <;> first | rfl | exact fun _ => rfl
@[simp] theorem X66 : Xl 66 ∧ Xt 66 ∧ Xf 66 ∧ Xk 66 ∧ Xm 66 ∧ X.norm 66 = nmR66 ∧ Xe 66 := by and_intros <;> first | rfl | exact fun _ => rfl
@[simp] theorem X67 : Xl 67 ∧ Xt 67 ∧ Xf 67 ∧ Xk 67 ∧ Xm 67 ∧ X.norm 67 = nmR67 ∧ Xe 67 := by and_intros <;> first | rfl | exact fun _ => rfl
@[simp] theorem X68 : Xd 68 := by and_intros <;> rfl
@[simp] theorem X69 : Xl 69 ∧ Xt 69 ∧ (∀ d : Nat, X.flat 69 d = (d == 64)) ∧ Xk 69 ∧ Xm 69 ∧ X.norm 69 = nmR69 ∧ Xe 69 := by and_intros <;> first | rfl | exact fun _ => rfl
@[simp] theorem X70 : Xl 70 ∧ Xt 70 ∧ Xf 70 ∧ Xk 70 ∧ Xm 70 ∧ X.norm 70 = nmR70 ∧ Xe 70 := by and_intros <;> first | rfl | exact fun _ => rfl
@[simp] theorem X78 : Xd 78 := by and_intros <;> rfl
@[simp] theorem X79 : Xl 79 ∧ Xt 79 ∧ Xf 79 ∧ Xk 79 ∧ Xm 79 ∧ X.norm 79 = nmR79 ∧ Xe 79 := by and_intros <;> first | rfl | exact fun _ => rfl
@[simp] theorem X80 : Xl 80 ∧ Xt 80 ∧ Xf 80 ∧ Xk 80 ∧ Xm 80 ∧ X.norm 80 = nmR80 ∧ Xe 80 := by and_intros <;> first | rfl | exact fun _ => rfl
@[simp] theorem X81 : Xl 81 ∧ Xt 81 ∧ Xf 81 ∧ Xk 81 ∧ Xm 81 ∧ X.norm 81 = nmR81 ∧ Xe 81 := by and_intros <;> first | rfl | exact fun _ => rfl
@[simp] theorem X92 : Xd 92 := by and_intros <;> rfl
end Go.Proofs.YtcfmnogghcjdaaaGreatDoor
namespace Go.Proofs.YtcfmnogghcjdaaaGreatDoor
open Go Go.Abs Go.Abs.Api
theorem wrap_i64 {n : Int} (h : -9223372036854775808 ≤ n ∧ n ≤ 9223372036854775807) : IntKind.i64.wrap n = n := by
  simp only [IntKind.wrap, IntKind.signed, IntKind.bits, Bool.true_and]
  split <;> rename_i hc <;> simp at hc <;> omega
theorem wrap_u8 {n : Int} (h : 0 ≤ n ∧ n ≤ 255) : IntKind.u8.wrap n = n := by
  simp only [IntKind.wrap, IntKind.signed, IntKind.bits, Bool.false_and]
  simp
  omega
theorem wrapN (i : Nat) (h : (i : Int) + 1 ≤ 9223372036854775807) : IntKind.i64.wrap ((i : Int) + 1) = (i : Int) + 1 := wrap_i64 (by omega)
theorem take_up {α : Type} {a b : List α} {i : Nat} (h1 : i < a.length) (h2 : i < b.length) (h : a.take i = b.take i) (he : a[i] = b[i]) : a.take (i + 1) = b.take (i + 1) := by
  rw [List.take_add_one, List.take_add_one, h]
  simp [h1, h2, he]
theorem take_all {α : Type} {a b : List α} {i : Nat} (h1 : ¬ i < a.length) (h2 : a.length = b.length) (h : a.take i = b.take i) : a = b := by
  rwa [List.take_of_length_le (by omega), List.take_of_length_le (by omega)] at h
theorem take_snoc {α : Type} {a : List α} {i : Nat} (h : i < a.length) : a.take (i + 1) = a.take i ++ [a[i]] := by
  rw [List.take_add_one]; simp [h]
@[simp] theorem take_map_len {α β : Type} (f : α → β) (l : List α) : (l.map f).take l.length = l.map f := by rw [← List.length_map (f := f), List.take_length]
theorem all_at {α : Type} {p : α → Bool} {l : List α} {i : Nat} (h : i < l.length) (hp : p l[i] = false) : l.all p = false := by
  rw [← Bool.not_eq_true, List.all_eq_true]
  intro hall
  have := hall _ (List.getElem_mem h)
  rw [hp] at this; cases this
theorem all_up {α : Type} {p : α → Bool} {l : List α} {i : Nat} (h : i < l.length) : (l.take (i + 1)).all p = ((l.take i).all p && p l[i]) := by
  rw [take_snoc h, List.all_append]; simp
noncomputable def callV (X : Env) (fx : FuncId) (v : V) (d : Option Nat) (args : List V) (S : St) : Option St := match v with
  | .fn g first caps => evCall X (callL X) fx d g (first ++ args ++ caps) S
  | _ => none
@[simp] theorem callV_fn (X : Env) (fx : FuncId) (g : FuncId) (a b : List V) (d : Option Nat) (args : List V) (S : St) : callV X fx (.fn g a b) d args S = evCall X (callL X) fx d g (a ++ args ++ b) S := rfl
section
variable {X : Env} {fx : FuncId} {dsts : List (Option Nat)} {n0 kk n : Nat} {r : List Oper} {ff : Nat → V} {hp : Heap} {K : St → Prop} {d : Nat} {ty : TypeId} {ps : String} {af : Array Edge}
@[simp ↓] theorem ops_callv (d : Option Nat) (t : Nat) (args : Array Operand) (tys : Array TypeId) : OpsP X fx dsts n0 kk (⟨d, .call ⟨.value (.tmp t), args, tys⟩, ty, ps, af, none⟩ :: r) ⟨ff, hp, n⟩ K =
    bindP (Go.Abs.mark (callV X fx (ff t) d (args.toList.map (evF ff)) ⟨ff, hp, n⟩)) fun S1 => OpsP X fx dsts n0 (kk + 1) r ⟨S1.f, S1.h, S1.n⟩ K := by
  rw [OpsP_cons, show evF ff = (⟨ff, hp, n⟩ : St).ev from evF_eq ⟨ff, hp, n⟩]
  show bindP (match (⟨ff, hp, n⟩ : St).ev (.tmp t) with
    | .fn g first caps => evCall X (callL X) fx d g (first ++ args.toList.map (⟨ff, hp, n⟩ : St).ev ++ caps) ⟨ff, hp, n⟩
    | _ => none) _ = _
  rfl
end
@[simp ↓] theorem rd_indexAddr (X : Env) (fid : FuncId) (d : Nat) (t : TypeId) (a ix : Operand) (ty : TypeId) (ps : String) (af : Array Edge) (g : Option (Nat × Bool)) (S1 T : St) (m : Nat) : rdP X fid (some ⟨some d, .indexAddr t a ix, ty, ps, af, g⟩) S1 T m =
    ∃ v, (match evF S1.f ix with
    | .int _ n => match evF S1.f a with
      | .sl _ es => if (0 ≤ n ∧ n < es.length) ∧ (X.ti t).arr = none then (match es[n.toNat]? with | some e => if e.cells.length = (X.ti (X.ti t).elem).size then some ((.ref e.cells), T.h, m) else none | none => none) else none
      | .hdr id s l => if (0 ≤ n ∧ n < l) ∧ (X.ti t).arr = none then (match T.h id with | some ob => if ob.k = (X.ti (X.ti t).elem).size then some ((.ptr id (s + n.toNat) 0), T.h, m) else none | none => none) else none
      | .ptr id j f => match (X.ti t).arr with
        | some k => if 0 ≤ n ∧ n < k then some ((.ptr id j (f + n.toNat * (X.ti (X.ti t).elem).size)), T.h, m) else none
        | none => none
      | _ => none
    | _ => none) = some (v, T.h, m) ∧ S1.f d = v := by
  unfold rdP
  rw [evF_eq]
  apply propext
  constructor
  · rintro ⟨o, v, h, h1, h2⟩
    simp only [Option.some.injEq] at h
    subst h
    exact ⟨v, h1, h2 d rfl⟩
  · rintro ⟨v, h1, h2⟩
    refine ⟨_, v, rfl, h1, fun d' h => ?_⟩
    simp only [Option.some.injEq] at h
    subst h; exact h2
def loopU (X : Env) (f : FuncId) (b : Code) (Q : Ex → St → Prop) : Ex → St → Prop
  | .normal, S => Wp X f (.loop b) S Q
  | e, S => Q e S
@[simp ↓] theorem loopU_normal (X : Env) (f : FuncId) (b : Code) (Q : Ex → St → Prop) (S : St) : loopU X f b Q .normal S = Wp X f (.loop b) S Q := rfl
@[simp ↓] theorem loopU_exit (X : Env) (f : FuncId) (b : Code) (Q : Ex → St → Prop) (S : St) (i : Nat) : loopU X f b Q (.exit i) S = Q (.exit i) S := rfl
@[simp ↓] theorem loopU_ret (X : Env) (f : FuncId) (b : Code) (Q : Ex → St → Prop) (S : St) : loopU X f b Q .ret S = Q .ret S := rfl
theorem Wp_unroll {X : Env} {f : FuncId} {b : Code} {S : St} {Q : Ex → St → Prop} : Wp X f (.loop b) S Q = bindP (Go.Abs.mark (normS X f (2 * codeFirst b + 1) S)) fun S1 => Wp X f b S1 (loopU X f b Q) := by
  unfold Wp Go.Abs.mark
  rw [ev_loop]
  cases hn : normS X f (2 * codeFirst b + 1) S with
  | none => simp [bindP]
  | some S1 =>
    simp only [bindP]
    apply propext
    constructor
    · rintro ⟨e, S2, h, hq⟩
      cases hb : ev X f b S1 with
      | none => rw [hb] at h; cases h
      | some x =>
        obtain ⟨e3, S3⟩ := x
        rw [hb] at h
        refine ⟨e3, S3, rfl, ?_⟩
        cases e3 with
        | normal => exact ⟨e, S2, h, hq⟩
        | exit i =>
          simp only [Option.some.injEq, Prod.mk.injEq] at h
          obtain ⟨rfl, rfl⟩ := h; exact hq
        | ret =>
          simp only [Option.some.injEq, Prod.mk.injEq] at h
          obtain ⟨rfl, rfl⟩ := h; exact hq
    · rintro ⟨e, S2, h, hq⟩
      rw [h]
      cases e with
      | normal =>
        obtain ⟨e3, S3, h3, hq3⟩ := hq
        exact ⟨e3, S3, h3, hq3⟩
      | exit i => exact ⟨_, _, rfl, hq⟩
      | ret => exact ⟨_, _, rfl, hq⟩
theorem emod_tmod {v n : Int} (h : 0 < n) : v % n = if v.tmod n < 0 then v.tmod n + n else v.tmod n := by
  have h1 := Int.emod_nonneg v (show n ≠ 0 by omega)
  have h2 := Int.emod_lt_of_pos v h
  rcases Int.lt_or_le v 0 with hv | hv
  · have e := Int.tmod_eq_emod (a := v) (b := n)
    by_cases hd : n ∣ v
    · have : v % n = 0 := Int.emod_eq_zero_of_dvd hd
      rw [if_pos (.inr hd), this] at e
      rw [e, this]; simp
    · rw [if_neg (by
        rintro (h | h)
        · omega
        · exact hd h)] at e
      have hne : v % n ≠ 0 := fun h => hd (Int.dvd_of_emod_eq_zero h)
      rw [e, Int.natAbs_of_nonneg (by omega), if_pos (by omega)]
      omega
  · rw [Int.tmod_eq_emod_of_nonneg hv, if_neg (by omega)]
end Go.Proofs.YtcfmnogghcjdaaaGreatDoor
