/- More fuel, more answers; what comes with enough of it. No program of Go is named here. -/
import Derived.Test.YtmfhdhiaokejdaaAb19
namespace Go.Ab
open Go
set_option linter.unusedSimpArgs false
set_option linter.unusedVariables false

structure Orc.le (c c' : Orc) : Prop where
  dat : ∀ f a r, c.dat f a = some r → c'.dat f a = some r
  hpc : ∀ k d f a hp r, c.hpc k d f a hp = some r → c'.hpc k d f a hp = some r
theorem Orc.le.refl (c : Orc) : c.le c := ⟨fun _ _ _ h => h, fun _ _ _ _ _ _ h => h⟩
theorem Orc.le.trans {a b c : Orc} (h : a.le b) (h' : b.le c) : a.le c := ⟨fun _ _ _ x => h'.dat _ _ _ (h.dat _ _ _ x), fun _ _ _ _ _ _ x => h'.hpc _ _ _ _ _ _ (h.hpc _ _ _ _ _ _ x)⟩

theorem runF_bind {α β : Type} (p : Prog α) (f : α → Prog β) : ∀ (hp : Hp) (R W : List Facet), (p.bind f).runF hp R W = match p.runF hp R W with | some (a, hp', R', W') => (f a).runF hp' R' W' | none => none := by
  induction p with
  | ret a => intro hp R W; rfl
  | get x k ih => intro hp R W; exact ih _ hp _ _
  | put x o k ih => intro hp R W; exact ih _ _ _
  | hdr x k ih => intro hp R W; exact ih _ hp _ _
  | getC x off k ih =>
    intro hp R W
    simp only [Prog.bind, Prog.runF]
    cases cellOf (hp x) off with
    | none => rfl
    | some v => exact ih v hp _ _
  | putC x off v k ih =>
    intro hp R W
    simp only [Prog.bind, Prog.runF]
    cases setCellOf (hp x) off v with
    | none => rfl
    | some o => exact ih _ _ _
  | ext g k ih =>
    intro hp R W
    simp only [Prog.bind, Prog.runF]
    cases g hp with
    | none => rfl
    | some q => exact ih _ _ _ _
  | fail => intro hp R W; rfl

section
variable {P : Program} {E : Cfg} {k : Nat} {call call' : Orc} {all : Array Oper}

theorem callP_mono (hle : call.le call') {d f : Nat} {args : List AV} {hp : Hp} : (∀ r, (callP P E k d call f args).run hp = some r → (callP P E k d call' f args).run hp = some r) ∧
    (∀ R W r, (callP P E k d call f args).runF hp R W = some r → (callP P E k d call' f args).runF hp R W = some r) := by
  unfold callP
  by_cases h1 : okFn P f = true
  · rw [if_pos h1, if_pos h1]
    by_cases h2 : E.hp f = true
    · rw [if_pos h2, if_pos h2]
      constructor
      · intro r h
        simp only [Prog.run] at h ⊢
        cases hg : call.hpc k d f args hp with
        | none => rw [hg] at h; cases h
        | some q => rw [hg] at h; rw [hle.hpc _ _ _ _ _ _ hg]; exact h
      · intro R W r h
        simp only [Prog.runF] at h ⊢
        cases hg : call.hpc k d f args hp with
        | none => rw [hg] at h; cases h
        | some q => rw [hg] at h; rw [hle.hpc _ _ _ _ _ _ hg]; exact h
    · rw [if_neg h2, if_neg h2]
      constructor
      · intro r h
        rw [run_bind] at h ⊢
        cases ha : (argsP P (!flatF P f) (ptys P f) args).run hp with
        | none => rw [ha] at h; cases h
        | some q =>
          rw [ha] at h
          simp only at h ⊢
          cases hd : call.dat f q.1 with
          | none => rw [hd] at h; simp [Prog.run] at h
          | some rs => rw [hd] at h; rw [hle.dat _ _ _ hd]; exact h
      · intro R W r h
        rw [runF_bind] at h ⊢
        cases ha : (argsP P (!flatF P f) (ptys P f) args).runF hp R W with
        | none => rw [ha] at h; cases h
        | some q =>
          rw [ha] at h
          simp only at h ⊢
          cases hd : call.dat f q.1 with
          | none => rw [hd] at h; simp [Prog.runF] at h
          | some rs => rw [hd] at h; rw [hle.dat _ _ _ hd]; exact h
  · rw [if_neg h1, if_neg h1]
    exact ⟨fun _ h => h, fun _ _ _ h => h⟩

theorem evOp_mono (hle : call.le call') {fr : Nat → AV} {o : Oper} {hp : Hp} : (∀ r, (evOp P E k call fr o).run hp = some r → (evOp P E k call' fr o).run hp = some r) ∧
    (∀ R W r, (evOp P E k call fr o).runF hp R W = some r → (evOp P E k call' fr o).runF hp R W = some r) := by
  obtain ⟨dst, op, type, pos, after, guard⟩ := o
  cases op
  case call c =>
    obtain ⟨callee, args, argTypes⟩ := c
    simp only [evOp]
    split
    · exact ⟨fun _ h => h, fun _ _ _ h => h⟩
    · exact ⟨fun _ h => h, fun _ _ _ h => h⟩
    · exact callP_mono hle
    · exact ⟨fun _ h => h, fun _ _ _ h => h⟩
  all_goals exact ⟨fun _ h => h, fun _ _ _ h => h⟩

theorem evOps_mono (hle : call.le call') : ∀ (os : List Oper) (st : AS) (r : AS), evOps P E k call all os st = some r → evOps P E k call' all os st = some r
  | [], _, _, h => h
  | o :: os, st, r, h => by
    simp only [evOps] at h ⊢
    split at h
    · split at h
      · rename_i v hp hr
        rw [(evOp_mono hle).1 _ hr]
        exact evOps_mono hle os _ r h
      · cases h
    · exact evOps_mono hle os _ r h
    · cases h
theorem stepF_mono (hle : call.le call') {o : Oper} {st : AS} {r : AS × Foot} (h : stepF P E k call all o st = some r) : stepF P E k call' all o st = some r := by
  unfold stepF at h ⊢
  split at h
  · split at h
    · rename_i v hp R W hr
      rw [(evOp_mono hle).2 _ _ _ hr]
      exact h
    · cases h
  · exact h
  · cases h
theorem runDraw_mono (hle : call.le call') : ∀ (os : List Oper) (st : AS) (acc : List Foot) (r : AS × List Foot), runDraw P E k call all os st acc = some r → runDraw P E k call' all os st acc = some r
  | [], _, _, _, h => h
  | o :: os, st, acc, r, h => by
    simp only [runDraw] at h ⊢
    split at h
    · rename_i st' f hs
      rw [stepF_mono hle hs]
      exact runDraw_mono hle os _ _ r h
    · cases h
theorem evRegion_mono (hle : call.le call') {draw : Bool} {st r : AS} (h : evRegion P E k call all draw st = some r) : evRegion P E k call' all draw st = some r := by
  unfold evRegion at h ⊢
  cases draw with
  | true =>
    simp only [if_true] at h ⊢
    split at h
    · rename_i st' fs hr
      rw [runDraw_mono hle _ _ _ _ hr]
      exact h
    · cases h
  | false =>
    simp only [Bool.false_eq_true, if_false] at h ⊢
    exact evOps_mono hle _ _ _ h

theorem evC_mono (hle : call.le call') : ∀ (n m : Nat), n ≤ m → ∀ (c : Code) (st : AS) (r : Ex × AS), evC P E k call n c st = some r → evC P E k call' m c st = some r
  | 0, _, _, c, st, r, h => by simp [evC] at h
  | n + 1, 0, hnm, _, _, _, _ => by omega
  | n + 1, m + 1, hnm, c, st, r, h => by
    have ih := evC_mono hle n m (by omega)
    cases c with
    | skip => exact h
    | label l => exact h
    | region id ops d =>
      simp only [evC] at h ⊢
      cases hr : evRegion P E k call ops d st with
      | none => rw [hr] at h; cases h
      | some s => rw [hr] at h; rw [evRegion_mono hle hr]; exact h
    | seq x y =>
      simp only [evC] at h ⊢
      split at h
      · rename_i s h1
        rw [ih x st _ h1]
        exact ih y s r h
      · rename_i hne
        rw [ih x st _ h]
        split
        · rename_i s hs
          simp only [Option.some.injEq] at hs
          subst hs
          exact (hne s h).elim
        · rfl
    | cond c x y =>
      simp only [evC] at h ⊢
      split at h
      · split at h
        · rename_i ht; rw [if_pos ht]; exact ih x st r h
        · rename_i ht; rw [if_neg ht]; exact ih y st r h
      · cases h
    | block id x =>
      simp only [evC] at h ⊢
      split at h
      · rename_i i s h1
        rw [ih x st _ h1]
        exact h
      · rename_i hne
        rw [ih x st _ h]
        split
        · rename_i i s hs
          simp only [Option.some.injEq] at hs
          subst hs
          exact (hne i s h).elim
        · rfl
    | loop x =>
      simp only [evC] at h ⊢
      split at h
      · rename_i s h1
        rw [ih x st _ h1]
        exact ih (.loop x) s r h
      · rename_i hne
        rw [ih x st _ h]
        split
        · rename_i s hs
          simp only [Option.some.injEq] at hs
          subst hs
          exact (hne s h).elim
        · rfl
    | exit id => exact h
    | ret => exact h
    | _ => simp [evC] at h

theorem evFn_mono (hle : call.le call') {n m : Nat} (hnm : n ≤ m) {fn : Func} {args rs : List AV} (h : evFn P E call n fn args = some rs) : evFn P E call' m fn args = some rs := by
  unfold evFn at h ⊢
  split at h
  · split at h
    · rename_i hc
      rw [if_pos hc]
      split at h
      · cases h
      · rename_i e st hne hev
        rw [evC_mono hle n m hnm _ _ _ hev]
        cases e with
        | exit i => exact (hne i rfl).elim
        | normal => exact h
        | ret => exact h
      · cases h
    · cases h
  · cases h
theorem evFnH_mono (hle : call.le call') {n m : Nat} (hnm : n ≤ m) {fn : Func} {d : Nat} {args : List AV} {hp : Hp} {r : AV × Hp} (h : evFnH P E call n fn k d args hp = some r) : evFnH P E call' m fn k d args hp = some r := by
  unfold evFnH at h ⊢
  split at h
  · split at h
    · rename_i hc
      rw [if_pos hc]
      split at h
      · cases h
      · rename_i e st hne hev
        rw [evC_mono hle n m hnm _ _ _ hev]
        cases e with
        | exit i => exact (hne i rfl).elim
        | normal => exact h
        | ret => exact h
      · cases h
    · cases h
  · cases h

theorem evCall_succ (X : Orc) : ∀ n, (evCall P E X n).le (evCall P E X (n + 1))
  | 0 => ⟨fun f a r h => by simp only [evCall] at h ⊢; rw [h], fun k d f a hp r h => by simp only [evCall] at h ⊢; rw [h]⟩
  | n + 1 => by
    have ih := evCall_succ X n
    constructor
    · intro f a r h
      rw [evCall] at h ⊢
      simp only at h ⊢
      split at h
      · rename_i rs hx; exact h
      · rename_i hx
        split at h
        · exact evFn_mono ih (Nat.le_succ n) h
        · cases h
    · intro k d f a hp r h
      rw [evCall] at h ⊢
      simp only at h ⊢
      split at h
      · rename_i rs hx; exact h
      · rename_i hx
        split at h
        · exact evFnH_mono ih (Nat.le_succ n) h
        · cases h
theorem evCall_le (X : Orc) {n m : Nat} (h : n ≤ m) : (evCall P E X n).le (evCall P E X m) := by
  induction m with
  | zero => have : n = 0 := by omega
            subst this; exact .refl _
  | succ m ih =>
    by_cases e : n = m + 1
    · subst e; exact .refl _
    · exact (ih (by omega)).trans (evCall_succ X m)
end
end Go.Ab
