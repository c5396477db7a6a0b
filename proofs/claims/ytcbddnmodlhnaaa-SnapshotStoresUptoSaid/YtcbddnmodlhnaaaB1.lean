/- What the operations look at and what they leave alone. -/
import Derived.Test.YtcbddnmodlhnaaaA22
namespace Go.Abs
open Go

theorem map_same {α β : Type} {f g : α → β} {l : List α} (h : ∀ x ∈ l, f x = g x) : l.map f = l.map g := List.map_congr_left h

/-- an operation looks at its operands only -/
theorem evCore_congr {X : Env} {fid : FuncId} {o : Oper} {ρ ρ' : Operand → V} (h : ∀ x ∈ o.op.operands.toList, ρ x = ρ' x) (h0 : Heap) (n0 : Nat) : evCore X fid o ρ h0 n0 = evCore X fid o ρ' h0 n0 := by
  obtain ⟨dst, op, ty, pos, after, guard⟩ := o
  have pairs : ∀ ps : Array (Nat × Operand), (∀ x ∈ ps.toList.map (·.2), ρ x = ρ' x) → (ps.toList.map fun p => (p.1, ρ p.2)) = ps.toList.map fun p => (p.1, ρ' p.2) := fun ps hp =>
    List.map_congr_left fun p hm => by rw [hp p.2 (List.mem_map_of_mem hm)]
  have opt : ∀ q : Option Operand, (∀ x, q = some x → ρ x = ρ' x) → q.map ρ = q.map ρ' := fun q hq => by
    cases q with
    | none => rfl
    | some x => simp [hq x rfl]
  cases op with
  | build t ps =>
    have := pairs ps (by simpa [Op.operands] using h)
    simp only [evCore, this]
  | buildSlice t n ps =>
    have := pairs ps (by simpa [Op.operands] using h)
    simp only [evCore, this]
  | makeFunc c p q =>
    cases c with
    | func g =>
      have h1 : p.toList.map ρ = p.toList.map ρ' := map_same fun x hx => h x (by simp [Op.operands] at hx ⊢; exact .inl hx)
      have h2 : q.toList.map ρ = q.toList.map ρ' := map_same fun x hx => h x (by simp [Op.operands] at hx ⊢; exact .inr hx)
      simp only [evCore, h1, h2]
    | _ => simp only [evCore]
  | slice t x lo hi mx =>
    have hx : ρ x = ρ' x := h x (by simp [Op.operands])
    have h1 := opt lo (fun y hy => h y (by simp [Op.operands, hy]))
    have h2 := opt hi (fun y hy => h y (by simp [Op.operands, hy]))
    cases mx with
    | none =>
      simp only [evCore, hx, h1, h2]
      cases ρ' x with
      | hdr id s n => cases hh : h0 id <;> simp only [hh]
      | _ => rfl
    | some m =>
      have h3 : ρ m = ρ' m := h m (by simp [Op.operands])
      simp only [evCore, hx, h1, h2, h3]
      cases ρ' x with
      | hdr id s n => cases hh : h0 id <;> simp only [hh, h3]
      | _ => rfl
  | call c =>
    obtain ⟨cal, args, tys⟩ := c
    have ha : args.toList.map ρ = args.toList.map ρ' := map_same fun x hx => h x (by simp [Op.operands, Call.operands] at hx ⊢; first | exact hx | exact .inl hx | exact .inr hx | simp [hx])
    cases cal with
    | builtin b => cases b <;> simp only [evCore, ha]
    | _ => simp only [evCore]
  | _ => first
    | (simp only [evCore]; done)
    | (simp only [Op.operands, List.mem_cons, List.not_mem_nil, or_false, forall_eq_or_imp, forall_eq] at h; simp only [evCore, h])

/-- nothing comes to life but the new object -/
theorem give0_sub {h h' : Heap} {v v' : V} (hg : give0 h v = some (v', h')) : ∀ id, h id = none → h' id = none := by
  intro id hid
  unfold give0 at hg
  split at hg
  · split at hg
    · split at hg
      · simp only [Option.some.injEq, Prod.mk.injEq] at hg
        rw [← hg.2]; simp [upd, hid]
      · cases hg
    · cases hg
  · split at hg
    · simp only [Option.some.injEq, Prod.mk.injEq] at hg
      rw [← hg.2]; exact hid
    · cases hg

theorem giveL_sub : ∀ {cs cs' : List V} {h h' : Heap}, giveL h cs = some (cs', h') → ∀ id, h id = none → h' id = none
  | [], cs', h, h', hg, id, hid => by
    simp only [giveL, Option.some.injEq, Prod.mk.injEq] at hg
    rw [← hg.2]; exact hid
  | c :: cs, cs', h, h', hg, id, hid => by
    simp only [giveL] at hg
    split at hg
    · rename_i h1
      split at hg
      · rename_i h2
        simp only [Option.some.injEq, Prod.mk.injEq] at hg
        rw [← hg.2]
        exact giveL_sub h2 id (give0_sub h1 id hid)
      · cases hg
    · cases hg

theorem give_sub {h h' : Heap} {v v' : V} (hg : give h v = some (v', h')) : ∀ id, h id = none → h' id = none := by
  unfold give at hg
  split at hg
  · split at hg
    · rename_i h1
      simp only [Option.some.injEq, Prod.mk.injEq] at hg
      rw [← hg.2]
      exact giveL_sub h1
    · cases hg
  · exact give0_sub hg

theorem giveP_sub : ∀ {ps ps' : List (Nat × V)} {h h' : Heap}, giveP h ps = some (ps', h') → ∀ id, h id = none → h' id = none
  | [], ps', h, h', hg, id, hid => by
    simp only [giveP, Option.some.injEq, Prod.mk.injEq] at hg
    rw [← hg.2]; exact hid
  | (i, v) :: ps, ps', h, h', hg, id, hid => by
    simp only [giveP] at hg
    split at hg
    · rename_i h1
      split at hg
      · rename_i h2
        simp only [Option.some.injEq, Prod.mk.injEq] at hg
        rw [← hg.2]
        exact giveP_sub h2 id (give_sub h1 id hid)
      · cases hg
    · cases hg

theorem keep_sub {h h' : Heap} {k : Bool} {x v' : V} (hg : (if k = true then some (x, h) else give h x) = some (v', h')) : ∀ id, h id = none → h' id = none := by
  intro id hid
  split at hg
  · simp only [Option.some.injEq, Prod.mk.injEq] at hg
    rw [← hg.2]; exact hid
  · exact give_sub hg id hid

theorem evCore_news {X : Env} {fid : FuncId} {o : Oper} {ρ : Operand → V} {h0 h1 : Heap} {n0 n1 : Nat} {v : V} (h : evCore X fid o ρ h0 n0 = some (v, h1, n1)) : ∀ id, id ≠ n0 → h0 id = none → h1 id = none := by
  intro id hne hid
  have hu : ∀ (hh : Heap) ob, hh id = none → upd hh n0 (some ob) id = none := fun hh ob hz => by simp [upd, hne, hz]
  have hk : ∀ (hh : Heap) i, hh id = none → upd hh i none id = none := fun hh i hz => by simp [upd, hz]
  have hs : ∀ (hh : Heap) i (ob ob' : Ob), hh i = some ob' → hh id = none → upd hh i (some ob) id = none := fun hh i ob ob' h1 hz => by
    have : id ≠ i := fun e => by rw [e, h1] at hz; cases hz
    simp [upd, this, hz]
  unfold evCore at h
  dsimp (zeta := true) only at h
  repeat' split at h
  all_goals first
    | (cases h; done)
    | (simp only [Option.some.injEq, Prod.mk.injEq] at h
       obtain ⟨_, rfl, _⟩ := h
       first
         | exact hid
         | exact hu _ _ hid
         | exact hu _ _ (hk _ _ hid)
         | exact hu _ _ (giveP_sub (by assumption) id hid)
         | exact giveP_sub (by assumption) id hid
         | exact hs _ _ _ _ (by assumption) hid
         | exact hs _ _ _ _ (by assumption) (keep_sub (by assumption) id hid))

/-- calls bring nothing to life below the number from which on they number -/
def CallNews (C : CallT) : Prop := ∀ g args h k v h' k', C g args h k = some (v, h', k') → k ≤ k' ∧ ∀ id, id < k → h id = none → h' id = none

end Go.Abs
