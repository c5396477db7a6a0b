/- Operations by what they do to the heap. -/
import Derived.Test.YtcbddnmodlhnaaaB1
set_option linter.unusedVariables false
set_option linter.unusedSimpArgs false
namespace Go.Abs
open Go

/-- 0: looks at no heap; 1: reads; 2: makes one new object; 3: anything -/
def cls (X : Env) (fid : FuncId) (o : Oper) : Nat :=
  match o.op with
  | .move _ | .assign _ | .pick .. | .build .. | .nilCheck _ | .binOp .. | .unOp .. | .convert .. | .makeFunc .. | .fieldAddr .. | .index .. | .extract .. => 0
  | .call ⟨.builtin .len, _, _⟩ | .call ⟨.builtin .min, _, _⟩ | .call ⟨.builtin .max, _, _⟩ => 0
  | .load .. | .slice .. | .indexAddr .. => 1
  | .call ⟨.value (.func g), _, _⟩ => if (X.clone g).isNone && !X.byref g && !o.dst.any (X.thaw fid) then 1 else 3
  | .alloc _ | .box .. | .makeSlice .. => 2
  | .buildSlice t _ ps => if X.keepT (X.ti t).elem then 2 else if ps.isEmpty then (if o.dst.any (X.thaw fid) then 2 else 0) else 3
  | _ => 3

def Sub (h h' : Heap) : Prop := ∀ id ob, h id = some ob → h' id = some ob

section
variable {X : Env} {fid : FuncId} {o : Oper} {ρ : Operand → V} {h h1 : Heap} {n n1 : Nat} {v : V}

theorem core0 (hc : cls X fid o = 0) (he : evCore X fid o ρ h n = some (v, h1, n1)) : h1 = h ∧ ∀ h' n', evCore X fid o ρ h' n' = some (v, h', n') := by
  obtain ⟨dst, op, ty, pos, after, guard⟩ := o
  cases op with
  | call c =>
    obtain ⟨cal, args, tys⟩ := c
    cases cal with
    | value x => simp [evCore] at he
    | builtin b =>
      cases b with
      | len | min | max =>
        unfold evCore at he ⊢
        dsimp only at he ⊢
        repeat' split at he
        all_goals first
          | (cases he; done)
          | (simp only [Option.some.injEq, Prod.mk.injEq] at he
             obtain ⟨rfl, rfl, rfl⟩ := he
             refine ⟨rfl, fun h' n' => ?_⟩
             simp only [*, if_true, if_false])
      | _ => simp [cls] at hc
    | _ => simp [evCore] at he
  | makeFunc c p q =>
    cases c <;> simp only [evCore, Option.some.injEq, Prod.mk.injEq, reduceCtorEq] at he
    obtain ⟨rfl, rfl, rfl⟩ := he
    exact ⟨rfl, fun h' n' => by simp only [evCore]⟩
  | move | assign | pick | build | nilCheck | binOp | unOp | convert | fieldAddr | index | extract =>
    unfold evCore at he ⊢
    dsimp only at he ⊢
    repeat' split at he
    all_goals first
      | (cases he; done)
      | (simp only [Option.some.injEq, Prod.mk.injEq] at he
         obtain ⟨rfl, rfl, rfl⟩ := he
         refine ⟨rfl, fun h' n' => ?_⟩
         first
           | rfl
           | (simp only [*, if_true]; done)
           | (simp [*]; done))
  | buildSlice t m ps =>
    simp only [cls] at hc
    split at hc
    · cases hc
    · rename_i hk
      split at hc
      · rename_i hps
        split at hc
        · cases hc
        · rename_i hth
          have hnil : ps.toList = [] := by simpa using hps
          simp only [evCore, hk, Bool.false_eq_true, if_false, hnil, List.map_nil, giveP, fillE, hth, Option.some.injEq, Prod.mk.injEq] at he
          obtain ⟨rfl, rfl, rfl⟩ := he
          exact ⟨rfl, fun h' n' => by simp only [evCore, hk, Bool.false_eq_true, if_false, hnil, List.map_nil, giveP, fillE, hth]⟩
      · cases hc
  | _ => simp [cls] at hc

theorem core1 (hc : cls X fid o = 1) (hne : ∀ x args tys, o.op ≠ .call ⟨.value x, args, tys⟩) (he : evCore X fid o ρ h n = some (v, h1, n1)) : h1 = h ∧ ∀ h' n', Sub h h' → evCore X fid o ρ h' n' = some (v, h', n') := by
  obtain ⟨dst, op, ty, pos, after, guard⟩ := o
  cases op with
  | call c =>
    obtain ⟨cal, args, tys⟩ := c
    cases cal with
    | value x => exact absurd rfl (hne x args tys)
    | builtin b => cases b <;> simp [cls] at hc
    | _ => simp [evCore] at he
  | slice t x lo hi mx =>
    simp only [evCore] at he
    split at he
    case isFalse => cases he
    rename_i hstr
    cases hx : ρ x with
    | sl c es =>
      simp only [hx] at he
      cases mx with
      | none =>
        simp only at he
        repeat' split at he
        all_goals first
          | (cases he; done)
          | (simp only [Option.some.injEq, Prod.mk.injEq] at he
             obtain ⟨rfl, rfl, rfl⟩ := he
             refine ⟨rfl, fun h' n' hs => ?_⟩
             simp only [evCore]
             rw [if_pos hstr]
             clear hstr
             first
               | (simp only [*, if_true]; done)
               | (simp_all only [if_true]; done)
               | (simp_all; done))
      | some m =>
        simp only at he
        repeat' split at he
        all_goals first
          | (cases he; done)
          | (simp only [Option.some.injEq, Prod.mk.injEq] at he
             obtain ⟨rfl, rfl, rfl⟩ := he
             refine ⟨rfl, fun h' n' hs => ?_⟩
             simp only [evCore]
             rw [if_pos hstr]
             clear hstr
             first
               | (simp only [*, if_true]; done)
               | (simp_all only [if_true]; done)
               | (simp_all; done))
    | hdr id s m =>
      simp only [hx] at he
      cases hob : h id with
      | none => cases mx <;> simp [hob] at he
      | some ob =>
      cases mx with
      | none =>
        simp only [hob] at he
        repeat' split at he
        all_goals first
          | (cases he; done)
          | (simp only [Option.some.injEq, Prod.mk.injEq] at he
             obtain ⟨rfl, rfl, rfl⟩ := he
             refine ⟨rfl, fun h' n' hs => ?_⟩
             have hob' := hs _ _ hob
             simp only [evCore]
             rw [if_pos hstr]
             clear hstr hob
             first
               | (simp only [*, if_true]; done)
               | (simp_all only [if_true]; done)
               | (simp_all; done))
      | some y =>
        simp only [hob] at he
        repeat' split at he
        all_goals first
          | (cases he; done)
          | (simp only [Option.some.injEq, Prod.mk.injEq] at he
             obtain ⟨rfl, rfl, rfl⟩ := he
             refine ⟨rfl, fun h' n' hs => ?_⟩
             have hob' := hs _ _ hob
             simp only [evCore]
             rw [if_pos hstr]
             clear hstr hob
             first
               | (simp only [*, if_true]; done)
               | (simp_all only [if_true]; done)
               | (simp_all; done))
    | str s =>
      simp only [hx] at he
      cases mx with
      | none =>
        simp only at he
        split at he
        · rename_i hb
          simp only [Option.some.injEq, Prod.mk.injEq] at he
          obtain ⟨rfl, rfl, rfl⟩ := he
          refine ⟨rfl, fun h' n' hs => ?_⟩
          simp only [evCore]
          rw [if_pos hstr]
          simp only [hx, hb]
        · cases he
      | some m => cases he
    | _ => simp [hx] at he
  | load | indexAddr =>
    unfold evCore at he ⊢
    dsimp only at he ⊢
    repeat' split at he
    all_goals first
      | (cases he; done)
      | (simp only [Option.some.injEq, Prod.mk.injEq] at he
         obtain ⟨rfl, rfl, rfl⟩ := he
         refine ⟨rfl, fun h' n' hs => ?_⟩
         first
           | (simp only [*, if_true]; done)
           | (simp only [*, hs _ _ (by assumption), if_true]; done)
           | (simp [*]; done)
           | (simp [*, hs _ _ (by assumption)]; done))
  | buildSlice t m ps =>
    simp only [cls] at hc
    split at hc
    · cases hc
    · split at hc
      · split at hc <;> cases hc
      · cases hc
  | _ => simp [cls] at hc

theorem core2 (hc : cls X fid o = 2) (he : evCore X fid o ρ h n = some (v, h1, n1)) : ∃ ob, h1 = upd h n (some ob) ∧ ∀ h', evCore X fid o ρ h' n = some (v, upd h' n (some ob), n + 1) := by
  obtain ⟨dst, op, ty, pos, after, guard⟩ := o
  cases op with
  | call c =>
    obtain ⟨cal, args, tys⟩ := c
    cases cal with
    | value x => simp [evCore] at he
    | builtin b => cases b <;> simp [cls] at hc
    | _ => simp [evCore] at he
  | alloc t =>
    simp only [evCore, Option.some.injEq, Prod.mk.injEq] at he
    obtain ⟨rfl, rfl, rfl⟩ := he
    exact ⟨_, rfl, fun h' => rfl⟩
  | box t x =>
    simp only [evCore] at he
    split at he
    · rename_i hf
      simp only [Option.some.injEq, Prod.mk.injEq] at he
      obtain ⟨rfl, rfl, rfl⟩ := he
      exact ⟨_, rfl, fun h' => by simp only [evCore, hf, if_true]⟩
    · cases he
  | makeSlice t l c =>
    simp only [evCore] at he
    split at he
    · rename_i p q hl hc'
      split at he
      · rename_i hb
        simp only [Option.some.injEq, Prod.mk.injEq] at he
        obtain ⟨rfl, rfl, rfl⟩ := he
        exact ⟨_, rfl, fun h' => by simp only [evCore, hl, hc']; rw [if_pos hb]⟩
      · cases he
    · cases he
  | buildSlice t m ps =>
    simp only [cls] at hc
    split at hc
    · rename_i hk
      simp only [evCore, hk, if_true] at he
      split at he
      · rename_i es hf
        simp only [Option.some.injEq, Prod.mk.injEq] at he
        obtain ⟨rfl, rfl, rfl⟩ := he
        exact ⟨_, rfl, fun h' => by simp only [evCore, hk, if_true, hf]⟩
      · cases he
    · rename_i hk
      split at hc
      · rename_i hps
        split at hc
        · rename_i hth
          have hnil : ps.toList = [] := by simpa using hps
          simp only [evCore, hk, Bool.false_eq_true, if_false, hnil, List.map_nil, giveP, fillE, hth, if_true, Option.some.injEq, Prod.mk.injEq] at he
          obtain ⟨rfl, rfl, rfl⟩ := he
          exact ⟨_, rfl, fun h' => by simp only [evCore, hk, Bool.false_eq_true, if_false, hnil, List.map_nil, giveP, fillE, hth, if_true]⟩
        · cases hc
      · cases hc
  | _ => simp [cls] at hc

theorem toImm_sub {h' : Heap} (hs : Sub h h') : ∀ {d : Nat} {v v' : V}, toImm h d v = some v' → toImm h' d v = some v' := by
  intro d
  induction d with
  | zero =>
    intro v v' ht
    cases v with
    | fn g a b => cases a <;> cases b <;> simp_all [toImm]
    | _ => first | (simp [toImm] at ht; done) | (simpa [toImm] using ht)
  | succ d ih =>
    have key : ∀ {cs l : List V}, allSome (cs.map (toImm h d)) = some l → allSome (cs.map (toImm h' d)) = some l := by
      intro cs
      induction cs with
      | nil => intro l hl; exact hl
      | cons c cs ih2 =>
        intro l hl
        simp only [List.map_cons] at hl ⊢
        cases hc : toImm h d c with
        | none => simp [hc, allSome] at hl
        | some c' =>
          simp only [hc, allSome] at hl
          split at hl
          · rename_i l' hl'
            simp only [allSome, ih hc, ih2 hl']
            exact hl
          · cases hl
    intro v v' ht
    cases v with
    | agg cs =>
      obtain ⟨l, rfl, hl⟩ := toImm_agg ht
      rw [toImm]
      simp only [key hl]
    | tup cs =>
      obtain ⟨l, rfl, hl⟩ := toImm_tup ht
      rw [toImm]
      simp only [key hl]
    | hdr id s l =>
      rw [toImm] at ht ⊢
      split at ht
      · rename_i ob hob
        rw [hs _ _ hob]
        simp only
        split at ht
        · rename_i hle
          simp only [hle, if_true]
          split at ht
          · rename_i hk
            simp only [hk, if_true]
            split at ht
            · rename_i l' hl'
              simp only [key hl']; exact ht
            · cases ht
          · rename_i hk
            simp only [hk, if_false]; exact ht
        · cases ht
      · cases ht
    | fn g a b => cases a <;> cases b <;> simp_all [toImm]
    | _ => first | (simp [toImm] at ht; done) | (simpa [toImm] using ht)

theorem allSome_sub {h' : Heap} (hs : Sub h h') {d : Nat} : ∀ {l r : List V}, allSome (l.map (toImm h d)) = some r → allSome (l.map (toImm h' d)) = some r
  | [], _, hl => hl
  | c :: cs, r, hl => by
    simp only [List.map_cons] at hl ⊢
    cases hc : toImm h d c with
    | none => simp [hc, allSome] at hl
    | some c' =>
      simp only [hc, allSome] at hl
      split at hl
      · rename_i l' hl'
        simp only [allSome, toImm_sub hs hc, allSome_sub hs hl']
        exact hl
      · cases hl
end

section
variable {X : Env} {C : CallT} {fid : FuncId} {dst : Option Nat} {g : FuncId} {args : List V} {S S1 : St}

theorem set_eta (S : St) : ({ S with h := S.h, n := S.n } : St) = S := rfl

theorem call_any (he : evCall X C fid dst g args S = some S1) : ∃ v, S1 = ({ S with h := S1.h, n := S1.n } : St).set dst v ∧
    ∀ S' : St, S'.h = S.h → S'.n = S.n → evCall X C fid dst g args S' = some (({ S' with h := S1.h, n := S1.n } : St).set dst v) := by
  unfold evCall at he ⊢
  have hn : ∀ (S : St) v, (S.set dst v).n = S.n := fun S v => set_n S dst v
  have hh : ∀ (S : St) v, (S.set dst v).h = S.h := fun S v => set_h S dst v
  split at he
  · rename_i t hcl
    split at he
    case h_2 => cases he
    split at he
    case h_2 => cases he
    rename_i es kx hel
    split at he
    · cases he
    rename_i hcond
    simp only [Option.some.injEq] at he
    subst he
    refine ⟨_, by rw [hh, hn]; rfl, fun S' h1 h2 => ?_⟩
    simp only [h1, hel]
    rw [if_neg hcond]
    simp only [St.new, h1, h2, hh, hn]
  · split at he
    · rename_i hb
      split at he
      case h_2 => cases he
      rename_i v h n hc
      simp only [Option.some.injEq] at he
      subst he
      refine ⟨v, by rw [hh, hn], fun S' h1 h2 => ?_⟩
      simp only [hb, if_true, h1, h2, hc, hh, hn]
    · rename_i hb
      split at he
      case h_2 => cases he
      rename_i as has
      split at he
      · rename_i hth
        split at he
        · cases he
        rename_i hown
        split at he
        case h_2 => cases he
        rename_i v h n hc
        simp only [Option.some.injEq] at he
        subst he
        refine ⟨v, by rw [hh, hn], fun S' h1 h2 => ?_⟩
        simp only [hb, Bool.false_eq_true, if_false, h1, has, hth, if_true, h2, hc, hh, hn]
        rw [if_neg hown]
      · rename_i hth
        split at he
        case h_2 => cases he
        rename_i v h n hc
        split at he
        case h_2 => cases he
        rename_i v' hv'
        split at he
        · cases he
        rename_i hcond
        simp only [Option.some.injEq] at he
        subst he
        refine ⟨v'.dull, by rw [hh, hn], fun S' h1 h2 => ?_⟩
        simp only [hb, Bool.false_eq_true, if_false, h1, has, hth, hc, hv', hh, hn]
        rw [if_neg hcond, ← h1, ← h2]

theorem call_pure (hp : ((X.clone g).isNone && !X.byref g && !dst.any (X.thaw fid)) = true) (he : evCall X C fid dst g args S = some S1) : ∃ v, S1 = S.set dst v ∧
    ∀ S' : St, Sub S.h S'.h → evCall X C fid dst g args S' = some (S'.set dst v) := by
  simp only [Bool.and_eq_true, Bool.not_eq_true', Option.isNone_iff_eq_none] at hp
  obtain ⟨⟨hcl, hb⟩, hth⟩ := hp
  unfold evCall at he ⊢
  simp only [hcl, hb, hth, Bool.false_eq_true, if_false] at he ⊢
  split at he
  case h_2 => cases he
  rename_i as has
  split at he
  case h_2 => cases he
  rename_i v h n hc
  split at he
  case h_2 => cases he
  rename_i v' hv'
  split at he
  · cases he
  rename_i hcond
  simp only [Option.some.injEq] at he
  subst he
  refine ⟨v'.dull, rfl, fun S' hs => ?_⟩
  simp only [allSome_sub hs has, hc, hv']
  rw [if_neg hcond]
end

section
variable {X : Env} {C : CallT} {fid : FuncId} {n0 j : Nat} {o : Oper} {S S1 : St}

/-- the two states give the operation the same operands -/
def Alike (o : Oper) (S S' : St) : Prop := ∀ x ∈ o.op.operands.toList, S'.ev x = S.ev x

theorem stepOp_op (hne : ∀ x args tys, o.op ≠ .call ⟨.value x, args, tys⟩) : stepOp X C fid n0 j o S = (match evCore X fid o S.ev S.h (n0 + j) with
    | some (v, h, _) => some (({ S with h := h } : St).set o.dst v)
    | none => none) := by
  unfold stepOp
  split
  · rename_i x args tys ho; exact absurd ho (hne x args tys)
  · rfl

theorem step0 (hc : cls X fid o = 0) (he : stepOp X C fid n0 j o S = some S1) : ∃ v, S1 = S.set o.dst v ∧ ∀ S', Alike o S S' → stepOp X C fid n0 j o S' = some (S'.set o.dst v) := by
  have hne : ∀ x args tys, o.op ≠ .call ⟨.value x, args, tys⟩ := by
    intro x args tys ho
    simp only [cls, ho] at hc
    cases x with
    | func g => simp only at hc; split at hc <;> cases hc
    | _ => cases hc
  rw [stepOp_op hne] at he
  split at he
  case h_2 => cases he
  rename_i v h m hev
  simp only [Option.some.injEq] at he
  subst he
  obtain ⟨rfl, h2⟩ := core0 hc hev
  refine ⟨v, rfl, fun S' ha => ?_⟩
  rw [stepOp_op hne, evCore_congr ha, h2]

theorem step1 (hc : cls X fid o = 1) (he : stepOp X C fid n0 j o S = some S1) : ∃ v, S1 = S.set o.dst v ∧ ∀ S', Alike o S S' → Sub S.h S'.h → stepOp X C fid n0 j o S' = some (S'.set o.dst v) := by
  by_cases hcall : ∃ x args tys, o.op = .call ⟨.value x, args, tys⟩
  · obtain ⟨x, args, tys, ho⟩ := hcall
    simp only [cls, ho] at hc
    cases x with
    | func g =>
      simp only at hc
      split at hc
      · rename_i hp
        have hev : ∀ S : St, S.ev (.func g) = .fn g [] [] := fun _ => rfl
        unfold stepOp at he
        simp only [ho, hev] at he
        obtain ⟨v, h1, h2⟩ := call_pure hp he
        refine ⟨v, h1, fun S' ha hs => ?_⟩
        have hargs : args.toList.map S'.ev = args.toList.map S.ev := map_same fun x hx => ha x (by simp [ho, Op.operands, Call.operands] at hx ⊢; exact .inr hx)
        unfold stepOp
        simp only [ho, hev, hargs]
        exact h2 S' hs
      · cases hc
    | _ => cases hc
  · have hne : ∀ x args tys, o.op ≠ .call ⟨.value x, args, tys⟩ := fun x args tys ho => hcall ⟨x, args, tys, ho⟩
    rw [stepOp_op hne] at he
    split at he
    case h_2 => cases he
    rename_i v h m hev
    simp only [Option.some.injEq] at he
    subst he
    obtain ⟨rfl, h2⟩ := core1 hc hne hev
    refine ⟨v, rfl, fun S' ha hs => ?_⟩
    rw [stepOp_op hne, evCore_congr ha, h2 _ _ hs]

theorem step2 (hc : cls X fid o = 2) (he : stepOp X C fid n0 j o S = some S1) : ∃ v ob, S1 = ({ S with h := upd S.h (n0 + j) (some ob) } : St).set o.dst v ∧
    ∀ S', Alike o S S' → stepOp X C fid n0 j o S' = some (({ S' with h := upd S'.h (n0 + j) (some ob) } : St).set o.dst v) := by
  have hne : ∀ x args tys, o.op ≠ .call ⟨.value x, args, tys⟩ := by
    intro x args tys ho
    simp only [cls, ho] at hc
    cases x with
    | func g => simp only at hc; split at hc <;> cases hc
    | _ => cases hc
  rw [stepOp_op hne] at he
  split at he
  case h_2 => cases he
  rename_i v h m hev
  simp only [Option.some.injEq] at he
  subst he
  obtain ⟨ob, rfl, h2⟩ := core2 hc hev
  refine ⟨v, ob, rfl, fun S' ha => ?_⟩
  rw [stepOp_op hne, evCore_congr ha, h2]

theorem step3 (he : stepOp X C fid n0 j o S = some S1) : ∃ v, S1 = ({ S with h := S1.h, n := S1.n } : St).set o.dst v ∧
    ∀ S', Alike o S S' → S'.h = S.h → S'.n = S.n → stepOp X C fid n0 j o S' = some (({ S' with h := S1.h, n := S1.n } : St).set o.dst v) := by
  by_cases hcall : ∃ x args tys, o.op = .call ⟨.value x, args, tys⟩
  · obtain ⟨x, args, tys, ho⟩ := hcall
    unfold stepOp at he
    simp only [ho] at he
    split at he
    case h_2 => cases he
    rename_i g first caps hx
    obtain ⟨v, h1, h2⟩ := call_any he
    refine ⟨v, h1, fun S' ha hh hn => ?_⟩
    have hargs : args.toList.map S'.ev = args.toList.map S.ev := map_same fun x hx => ha x (by simp [ho, Op.operands, Call.operands] at hx ⊢; exact .inr hx)
    have hxx : S'.ev x = .fn g first caps := by rw [← hx]; exact ha x (by simp [ho, Op.operands, Call.operands])
    unfold stepOp
    simp only [ho, hxx, hargs]
    exact h2 S' hh hn
  · have hne : ∀ x args tys, o.op ≠ .call ⟨.value x, args, tys⟩ := fun x args tys ho => hcall ⟨x, args, tys, ho⟩
    rw [stepOp_op hne] at he
    split at he
    case h_2 => cases he
    rename_i v h m hev
    simp only [Option.some.injEq] at he
    subst he
    refine ⟨v, by rw [set_h, set_n], fun S' ha hh hn => ?_⟩
    rw [stepOp_op hne, evCore_congr ha, hh, hev, set_h, set_n, ← hn]

end
end Go.Abs
