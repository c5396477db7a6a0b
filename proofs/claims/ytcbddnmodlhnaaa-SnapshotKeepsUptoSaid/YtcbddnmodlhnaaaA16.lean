/- append and copy: the simulation. -/
import Derived.Test.YtcbddnmodlhnaaaA15
set_option linter.unusedVariables false
set_option linter.unusedSimpArgs false
namespace Go.Abs
open Go

section
variable {w : World} {I : Nat → Prop} {σ : Sig} {h : Heap}

/-- where a slice of an object lies, and its cells -/
structure Based (w : World) (I : Nat → Prop) (σ : Sig) (id s l : Nat) (ob : Ob) (ad : Option Addr) (cap : Nat) : Prop where
  le : l ≤ cap
  max : cap ≤ maxLen
  place : cap = 0 ∨ ∃ b o c el, σ id = some (b, o, ob.k) ∧ ad = some ⟨b, o + s * ob.k, none⟩ ∧ w.heap[b]? = some (Obj.cells c el (0, 0)) ∧ o + ob.es.length * ob.k ≤ c.size ∧ o + (s + cap) * ob.k ≤ c.size ∧ RepRow w I (osig ob.keep σ) ob.es ob.k b o

theorem based (R : Rel w I σ h) {id s l : Nat} {ob : Ob} {u : Value} (hr : Rep w I σ (.hdr id s l) u) (hob : h id = some ob) : ∃ ad cap, u = .slice ad l cap ∧ Based w I σ id s l ob ad cap := by
  simp only [Rep] at hr
  obtain ⟨ad, cap, rfl, h1, h2, h3⟩ := hr
  refine ⟨ad, cap, rfl, h1, h2, ?_⟩
  rcases h3 with h3 | ⟨b, o, k, c, el, fz, hs, ha, hb, hle⟩
  · exact .inl h3
  · rcases R.obj id ob hob with ⟨_, hn⟩ | ⟨b', o', c', el', hs', hi, hb', hle', hrow⟩
    · rw [hs] at hn; cases hn
    · rw [hs] at hs'
      simp only [Option.some.injEq, Prod.mk.injEq] at hs'
      obtain ⟨rfl, rfl, rfl⟩ := hs'
      rw [hb] at hb'
      simp only [Option.some.injEq, Obj.cells.injEq] at hb'
      obtain ⟨rfl, rfl, rfl⟩ := hb'
      exact .inr ⟨b, o, c, el, hs, ha, hb, hle', hle, hrow⟩

/-- the cells that a slice holds -/
theorem Based.olds {P : Program} {id s l cap : Nat} {ob : Ob} {ad : Option Addr} (B : Based w I σ id s l ob ad cap) (hsl : s + l ≤ ob.es.length) :
    ∃ olds : List Value, olds.length = l * ob.k ∧ RepC w I (osig ob.keep σ) (flat ((ob.es.drop s).take l)) olds ∧ (Builtin.firstCells ob.k l (.slice ad l cap)).run P w.drew = .ok olds.toArray w.drew := by
  have hl := B.le
  by_cases h0 : l = 0
  · subst h0
    refine ⟨[], by simp, by simp [flat, RepC], ?_⟩
    cases ad <;> simp [Builtin.firstCells, loadCells, loadCellsFrom]
  · rcases B.place with hp | ⟨b, o, c, el, hs, rfl, hb, hle, hle2, hrow⟩
    · omega
    · obtain ⟨us, h1, h2, h3⟩ := row_flat (hrow.seg s l)
      have hln : ((ob.es.drop s).take l).length = l := by simp; omega
      rw [hln] at h1
      exact ⟨us, h1, h3, run_firstCells_some w.drew ob.k l _ _ cap us h1 (fun j v hv => by rw [add_at]; simpa using h2 j v hv)⟩

theorem zeroCells_size {z : Array Value} (n : Nat) : (Builtin.zeroCells z n).size = n * z.size := by
  have := size_madeCells z (n * z.size)
  unfold madeCells at this
  simp [Builtin.zeroCells]

theorem grown_size (olds news : List Value) (z : Array Value) (g n k : Nat) (hz : z.size = k) (ho : (olds ++ news).length = n * k) (hg : n ≤ g) :
    ((olds ++ news).toArray ++ Builtin.zeroCells z (g - n)).size = g * k := by
  rw [Array.size_append, zeroCells_size, hz]
  have : n * k + (g - n) * k = g * k := by rw [← Nat.add_mul]; congr 1; omega
  simp only [List.size_toArray]; omega

/-- THE NEW ROW of an append -/
theorem grow_run {P : Program} {t tx ty e : TypeId} {x : TI} (ht : P.underlying t = some (.slice e)) (T : TIOk P e x) {ad : Option Addr} {l cap : Nat} {olds news : List Value} {u : Value} {n : Nat}
    (hold : (Builtin.firstCells x.size l (.slice ad l cap)).run P w.drew = .ok olds.toArray w.drew) (hol : olds.length = l * x.size) (hs : Src P x.size tx u n news w) (hg : cap < l + n) (hfit : (l + n) * x.bytes ≤ 2 ^ 47) (hmax : l + n ≤ 2 ^ 62) :
    ∃ (c : Array Value) (g : Nat), (Builtin.append_ #[t, tx] ty #[.slice ad l cap, u]).run P w = .ok (.slice (some ⟨w.heap.size, 0, none⟩) (l + n) g) (w.drew.alloc (.cells c e)) ∧ l + n ≤ g ∧ g ≤ maxLen ∧ g * x.size ≤ c.size ∧
      (∀ (j : Nat) v, (olds ++ news)[j]? = some v → c[j]? = some v) := by
  obtain ⟨i, z, hi, hisz, hib, hz, hzb⟩ := T.info
  have hzc := zero_cells (w := w) (I := fun _ => False) (σ := nosig) T hzb
  have hzsz : z.cells.size = x.size := by
    have := ((RepC_iff _ _).1 hzc).1
    rw [T.zlen] at this; simpa using this.symm
  have hrun := run_append_grow_src (w := w) t tx ty e i z ht hi hz ad l cap olds (by rw [hisz]; exact hold) u n news (by rw [hisz]; exact hs) hg (by omega)
    (by have := growslice_fits (bytes := i.bytes) hg (by rw [hib]; omega); omega)
  have hge := grownCap_ge w (l + n) cap e
  have hle := grownCap_le_maxLen w (l + n) cap e (by simp only [maxLen]; omega)
  have hlen : (olds ++ news).length = (l + n) * x.size := by rw [List.length_append, hol, hs.newsLen, Nat.add_mul]
  refine ⟨_, _, hrun, hge, hle, ?_, ?_⟩
  · rw [grown_size olds news z.cells _ _ _ hzsz hlen hge]; exact Nat.le_refl _
  · intro j v hv
    have hj := (List.getElem?_eq_some_iff.1 hv).1
    rw [Array.getElem?_append_left (by simpa using hj)]
    simpa using hv

theorem src_kind {P : Program} {k : Nat} {tx : TypeId} {u : Value} {n : Nat} {news : List Value} (h : Src P k tx u n news w) : (∃ e', P.underlying tx = some (.slice e')) ∨ P.underlying tx = some .string := h.kind

variable {P : Program} {t tx ty e : TypeId} {x : TI} {n : Nat} {xs : List V} {news : List Value} {y : Value}

/-- an append to nothing -/
theorem append_nothing (R : Rel w I σ h) (ht : P.underlying t = some (.slice e)) (T : TIOk P e x) {u : Value} (hb : Rep w I σ (.sl true []) u) {kp kx : Bool} (hkx : kx = true → kp = true) (hk : ∀ v ∈ xs, v.cells.length = x.size)
    (hs : Src P x.size tx y xs.length news w) (hr : RepC w I (osig kx σ) (flat xs) news) (hn : h n = none) (hsn : σ n = none) (hfit : xs.length * x.bytes ≤ 2 ^ 47) (hmax : xs.length ≤ 2 ^ 62) :
    ∃ v w' σ', (Builtin.append_ #[t, tx] ty #[u, y]).run P w = .ok v w' ∧ Step w I σ h n w' I σ' (upd h n (some ⟨x.size, xs, kp⟩)) (n + 1) ∧ Rep w' I σ' (.hdr n 0 xs.length) v := by
  simp only [Rep] at hb
  obtain ⟨ad, cap, rfl, _, _, hc, _⟩ := hb
  have hc0 : cap = 0 := by simpa using hc
  subst hc0
  obtain ⟨i, z, hi, hisz, hib, hz, hzb⟩ := T.info
  by_cases h0 : xs = []
  · subst h0
    have hnews : news = [] := by
      have := hs.newsLen; simp at this; exact this
    subst hnews
    refine ⟨_, w, σ, run_append_zero t tx ty e i ht hi ad 0 0 (Nat.le_refl _) y (by rw [hisz]; exact hs), Step.nil R hn hsn, ?_⟩
    simp only [Rep]
    exact ⟨ad, 0, rfl, by simp, by simp [maxLen], .inl rfl⟩
  · have hpos : 0 < xs.length := List.length_pos_iff.2 h0
    obtain ⟨c, g, hrun, hge, hle, hsz, hcs⟩ := grow_run ht T (ad := ad) (l := 0) (cap := 0) (olds := []) (ty := ty) (by cases ad <;> simp [Builtin.firstCells, loadCells, loadCellsFrom]) (by simp) hs (by omega) (by simpa using hfit) (by simpa using hmax)
    simp only [Nat.zero_add, List.nil_append] at hrun hge hcs
    refine ⟨_, _, _, hrun, (Step.drew R n).trans (flat_new (Step.drew R n).rel c hn hsn hk (us := news) ?_ hcs), ?_⟩
    · exact (RepC.ext' _ _ ((Ext.heap rfl : Ext w I (osig kx σ) w.drew I (osig kx σ)).trans (osig_le hkx)) hr)
    · have := hdr_rep w.drew I σ (n := n) (k := x.size) (l := xs.length) (cap := g) (c := c) (el := e) hge hle hsz
      simpa using this

/-- an append to an immutable slice that has no room -/
theorem append_imm (R : Rel w I σ h) (ht : P.underlying t = some (.slice e)) (T : TIOk P e x) {u : Value} {es : List V} (hb : Rep w I σ (.sl true es) u) (hke : ∀ v ∈ es, v.cells.length = x.size) (hk : ∀ v ∈ xs, v.cells.length = x.size)
    (hs : Src P x.size tx y xs.length news w) (hr : RepC w I (osig false σ) (flat xs) news) (n : Nat) (hfit : (es.length + xs.length) * x.bytes ≤ 2 ^ 47) (hmax : es.length + xs.length ≤ 2 ^ 62) :
    ∃ v w' I', (Builtin.append_ #[t, tx] ty #[u, y]).run P w = .ok v w' ∧ Step w I σ h n w' I' σ h n ∧ Rep w' I' σ (.sl false (es ++ xs)) v := by
  have hb' := hb
  simp only [Rep] at hb
  obtain ⟨ad, cap, rfl, h1, h2, hc, h4⟩ := hb
  have hc0 : cap = es.length := by simpa using hc
  subst hc0
  obtain ⟨i, z, hi, hisz, hib, hz, hzb⟩ := T.info
  by_cases h0 : xs = []
  · subst h0
    have hnews : news = [] := by
      have := hs.newsLen; simp at this; exact this
    subst hnews
    refine ⟨_, w, I, run_append_zero t tx ty e i ht hi ad es.length es.length (Nat.le_refl _) y (by rw [hisz]; exact hs), Step.refl R n, ?_⟩
    rw [List.append_nil]
    simp only [Rep]
    exact ⟨ad, es.length, rfl, h1, h2, fun hh => (by cases hh), h4⟩
  · have hpos : 0 < xs.length := List.length_pos_iff.2 h0
    have hold : ∃ olds : List Value, olds.length = es.length * x.size ∧ RepC w I nosig (flat es) olds ∧ (Builtin.firstCells x.size es.length (.slice ad es.length es.length)).run P w.drew = .ok olds.toArray w.drew := by
      by_cases he : es = []
      · subst he
        refine ⟨[], by simp, by simp [flat, RepC], ?_⟩
        cases ad <;> simp [Builtin.firstCells, loadCells, loadCellsFrom]
      · rcases h4 with h4 | ⟨b, o, k', rfl, hI, hrow⟩
        · exact absurd h4 he
        · have hkk : k' = x.size := by
            obtain ⟨v, hv⟩ := List.exists_mem_of_ne_nil es he
            rw [← hrow.lens v hv]; exact hke v hv
          subst hkk
          obtain ⟨us, h1, h2, h3⟩ := row_flat hrow
          exact ⟨us, h1, h3, run_firstCells_some w.drew _ _ _ _ _ us h1 (fun j v hv => by rw [add_at]; simpa using h2 j v hv)⟩
    obtain ⟨olds, hol, hor, hof⟩ := hold
    obtain ⟨c, g, hrun, hge, hle, hsz, hcs⟩ := grow_run ht T (ty := ty) hof hol hs (by omega) hfit hmax
    have st := (Step.drew R n).trans (imm_new (Step.drew R n).rel c e n)
    refine ⟨_, _, _, hrun, st, ?_⟩
    simp only [Rep]
    refine ⟨_, g, by rw [List.length_append], by rw [List.length_append]; exact hge, hle, fun hh => (by cases hh), .inr ⟨w.heap.size, 0, x.size, rfl, .inr rfl, ?_⟩⟩
    refine flat_row st.ext.noid (us := olds ++ news) (fun v hv => ?_) (by rw [flat_append]; exact hor.append hr) (fun j v hv => ?_)
    · rcases List.mem_append.1 hv with hv | hv
      · exact hke v hv
      · exact hk v hv
    · have : (w.drew.alloc (.cells c e)).heap[w.heap.size]? = some (.cells c e) := anew w.drew (.cells c e)
      rw [cell_of_row _ _ _ _ _ _ this]
      simpa using hcs j v hv

/-- an append to a slice of an object -/
theorem append_hdr (R : Rel w I σ h) (ht : P.underlying t = some (.slice e)) (T : TIOk P e x) {id s l : Nat} {ob : Ob} {u : Value} (hb : Rep w I σ (.hdr id s l) u) (hob : h id = some ob) (hok : ob.k = x.size) (hsl : s + l ≤ ob.es.length)
    {kp kx : Bool} (hkx : kx = true → kp = true) (hkb : ob.keep = true → kp = true) (hk : ∀ v ∈ xs, v.cells.length = x.size)
    (hs : Src P x.size tx y xs.length news w) (hr : RepC w I (osig kx σ) (flat xs) news) (hn : h n = none) (hsn : σ n = none) (hfit : (l + xs.length) * x.bytes ≤ 2 ^ 47) (hmax : l + xs.length ≤ 2 ^ 62) :
    ∃ v w' σ', (Builtin.append_ #[t, tx] ty #[u, y]).run P w = .ok v w' ∧ Step w I σ h n w' I σ' (upd (upd h id none) n (some ⟨x.size, (ob.es.drop s).take l ++ xs, kp⟩)) (n + 1) ∧ Rep w' I σ' (.hdr n 0 (l + xs.length)) v := by
  obtain ⟨ad, cap, rfl, B⟩ := based R hb hob
  obtain ⟨i, z, hi, hisz, hib, hz, hzb⟩ := T.info
  have hle := B.le
  have hne : n ≠ id := fun e => by rw [e, hob] at hn; cases hn
  have hn' : upd h id none n = none := by simp [upd, hne, hn]
  have hseglen : ((ob.es.drop s).take l).length = l := by simp; omega
  have hkh : n ≠ id ∧ True := ⟨hne, trivial⟩
  by_cases hg : cap < l + xs.length
  · obtain ⟨olds, hol, hor, hof⟩ := B.olds (P := P) hsl
    rw [hok] at hol hof
    obtain ⟨c, g, hrun, hge, hlem, hsz, hcs⟩ := grow_run ht T (ty := ty) hof hol hs hg hfit hmax
    have s1 := (Step.kill R id n).trans (Step.drew (R.kill id) n)
    have hes : ∀ v ∈ (ob.es.drop s).take l ++ xs, v.cells.length = x.size := by
      intro v hv
      rcases List.mem_append.1 hv with hv | hv
      · rcases B.place with hp | ⟨b, o, c, el, _, _, _, _, _, hrow⟩
        · have : l = 0 := by omega
          subst this; simp at hv
        · rw [← hok]; exact hrow.lens v (List.mem_of_mem_drop (List.mem_of_mem_take hv))
      · exact hk v hv
    have hE : ∀ {kk : Bool}, (kk = true → kp = true) → Ext w I (osig kk σ) w.drew I (osig kp σ) := fun hh => (Ext.heap rfl : Ext w I (osig _ σ) w.drew I (osig _ σ)).trans (osig_le hh)
    refine ⟨_, _, _, hrun, s1.trans (flat_new s1.rel c hn' hsn hes (us := olds ++ news) ?_ hcs), ?_⟩
    · rw [flat_append]
      exact (RepC.ext' _ _ (hE hkb) hor).append (RepC.ext' _ _ (hE hkx) hr)
    · have := hdr_rep w.drew I σ (n := n) (k := x.size) (l := l + xs.length) (cap := g) (c := c) (el := e) hge hlem hsz
      simpa using this
  · have hroom : l + xs.length ≤ cap := by omega
    rcases B.place with hp | ⟨b, o, c, el, hsg, rfl, hbl, hle1, hle2, hrow⟩
    · subst hp
      have h0 : xs = [] := List.eq_nil_of_length_eq_zero (by omega)
      have hl0 : l = 0 := by omega
      subst h0; subst hl0
      have hnews : news = [] := by
        have := hs.newsLen; simp at this; exact this
      subst hnews
      refine ⟨_, w, σ, run_append_zero t tx ty e i ht hi ad 0 0 (Nat.le_refl _) y (by rw [hisz]; exact hs), ?_, ?_⟩
      · have := (Step.kill R id n).trans (Step.nil (R.kill id) (k := x.size) (keep := kp) hn' hsn)
        simpa using this
      · simp only [Rep]
        exact ⟨ad, 0, rfl, by simp, by simp [maxLen], .inl rfl⟩
    · -- in place
      have hcs : news.length = xs.length * x.size := hs.newsLen
      have hmul : (s + cap) * ob.k = s * ob.k + cap * ob.k := Nat.add_mul ..
      have hmul2 : (l + xs.length) * ob.k ≤ cap * ob.k := Nat.mul_le_mul_right _ hroom
      rw [Nat.add_mul] at hmul2
      have hmul3 : (s + l) * ob.k = s * ob.k + l * ob.k := Nat.add_mul ..
      have hfit2 : o + (s + l) * ob.k + news.length ≤ c.size := by rw [hcs, ← hok]; omega
      have hrun := run_append_in (w := w) (P := P) t tx ty e i ht hi (b := b) (p := o + s * ob.k) (sLen := l) (sCap := cap) (x := y) (n := xs.length) (news := news) (by rw [hisz]; exact hs) hroom hbl
        (by rw [hisz, ← hok]; omega)
      rw [hisz, ← hok, show o + s * ob.k + l * ob.k = o + (s + l) * ob.k by omega] at hrun
      have hI : ¬ I b := (R.owned ⟨id, ob, o, ob.k, hob, hsg⟩).1
      have E : Ext w I σ (w.setRow b (over c (o + (s + l) * ob.k) news)) I σ := Ext.setRow hI hbl (over_size hfit2)
      have hset := setRow_heap w b c (over c (o + (s + l) * ob.k) news) el (0, 0) hbl
      -- the row after it
      have hseg := hrow.seg 0 (s + l)
      simp only [List.drop_zero, Nat.zero_mul, Nat.add_zero] at hseg
      obtain ⟨us, hul, huc, hur⟩ := row_flat hseg
      have htl : (ob.es.take (s + l)).length = s + l := by simp; omega
      rw [htl] at hul
      have hrow' : RepRow (w.setRow b (over c (o + (s + l) * ob.k) news)) I (osig kp σ) (ob.es.take (s + l) ++ xs) ob.k b o := by
        refine flat_row (E.ofKeep kp) (us := us ++ news) (fun v hv => ?_) ?_ (fun j v hv => ?_)
        · rcases List.mem_append.1 hv with hv | hv
          · exact hrow.lens v (List.mem_of_mem_take hv)
          · rw [hok]; exact hk v hv
        · rw [flat_append]
          exact (RepC.ext' _ _ (osig_le hkb) hur).append (RepC.ext' _ _ (osig_le hkx) hr)
        · rw [cell_of_row _ _ _ _ _ _ hset, over_get hfit2]
          by_cases hj : j < us.length
          · rw [List.getElem?_append_left hj] at hv
            rw [if_neg (by omega)]
            have := huc j v hv
            rwa [cell_of_row _ _ _ _ _ _ hbl] at this
          · have hjl := (List.getElem?_eq_some_iff.1 hv).1
            rw [List.length_append] at hjl
            rw [List.getElem?_append_right (by omega)] at hv
            rw [if_pos (by omega), show o + j - (o + (s + l) * ob.k) = j - us.length by omega]
            exact hv
      have hle3 : o + (ob.es.take (s + l) ++ xs).length * ob.k ≤ c.size := by
        rw [List.length_append, htl, Nat.add_mul]
        rw [hcs, ← hok] at hfit2
        omega
      have s1 := R.write (keep := kp) hob hsg hbl (over_size hfit2) hle3 hrow' n
      have hob1 : upd h id (some (⟨ob.k, ob.es.take (s + l) ++ xs, kp⟩ : Ob)) id = some ⟨ob.k, ob.es.take (s + l) ++ xs, kp⟩ := by simp [upd]
      have hn1 : upd h id (some (⟨ob.k, ob.es.take (s + l) ++ xs, kp⟩ : Ob)) n = none := by simp [upd, hne, hn]
      have s2 := Step.rebase s1.rel (n := n) (s := s) (kp := kp) hob1 hsg hn1 hsn (fun hh => hh) hset (by rw [over_size hfit2]; exact hle3) hrow' (by rw [List.length_append, htl]; omega)
      have s3 := s1.trans s2
      have hdrop : (ob.es.take (s + l) ++ xs).drop s = (ob.es.drop s).take l ++ xs := by
        rw [List.drop_append_of_le_length (by rw [htl]; omega), List.drop_take]
        congr 2; omega
      refine ⟨_, _, upd σ n (some (b, o + s * ob.k, ob.k)), hrun, ?_, ?_⟩
      · have hupd : upd (upd h id (some (⟨ob.k, ob.es.take (s + l) ++ xs, kp⟩ : Ob))) id none = upd h id none := by
          funext q; simp only [upd]; split <;> rfl
        rw [hupd, hdrop] at s3
        rw [← hok]; exact s3
      · simp only [Rep]
        exact ⟨_, cap, rfl, hroom, B.max, .inr ⟨b, o + s * ob.k, ob.k, _, el, (0, 0), by simp [upd], by simp, hset, by rw [over_size hfit2, Nat.zero_add]; omega⟩⟩

theorem src_own {v : V} {xs : List V} {kx : Bool} (he : elems h v = some (xs, kx)) (R : Rel w I σ h) {k : Nat} (hl : ∀ e ∈ xs, e.cells.length = k) : ∀ id s l, v = .hdr id s l → ∃ ob, h id = some ob ∧ (xs ≠ [] → ob.k = k) := by
  rintro id s l rfl
  simp only [elems] at he
  cases hob : h id with
  | none => simp [hob] at he
  | some ob =>
    refine ⟨ob, rfl, fun hne => ?_⟩
    simp only [hob] at he
    split at he
    · simp only [Option.some.injEq, Prod.mk.injEq] at he
      obtain ⟨rfl, rfl⟩ := he
      obtain ⟨v, hv⟩ := List.exists_mem_of_ne_nil _ hne
      rw [← hl v hv]
      have hm := List.mem_of_mem_drop (List.mem_of_mem_take hv)
      obtain ⟨i, hi⟩ := List.getElem?_of_mem hm
      obtain ⟨b', o', c', el', _, _, _, _, hrow⟩ := R.at hob hi
      exact (hrow.lens v hm).symm
    · cases he

theorem list2 {α : Type} {a : Array α} {x y : α} (h : a.toList = [x, y]) : a = #[x, y] := by rw [← h]

theorem tys2 {α : Type} {a : Array α} {x y : α} {r : List α} (h : a.toList = x :: y :: r) : a[0]? = some x ∧ a[1]? = some y := by
  rw [← Array.getElem?_toList, ← Array.getElem?_toList, h]; simp

theorem append_tys {tys : Array TypeId} {t u : TypeId} {r : List TypeId} (ht : tys.toList = t :: u :: r) (ty : TypeId) (args : Array Value) : Builtin.append_ tys ty args = Builtin.append_ #[t, u] ty args := by
  simp [Builtin.append_, tys2 ht]

theorem copy_tys {tys : Array TypeId} {t u : TypeId} {r : List TypeId} (ht : tys.toList = t :: u :: r) (ty : TypeId) (args : Array Value) : Builtin.copy_ tys ty args = Builtin.copy_ #[t, u] ty args := by
  simp [Builtin.copy_, tys2 ht]

end
end Go.Abs
