/- What comes with enough fuel, as one oracle. No program of Go is named here. -/
import Derived.Test.YtmfhdhiaokejdaaAb20
namespace Go.Ab
open Go
set_option linter.unusedSimpArgs false
set_option linter.unusedVariables false

open Classical in
/-- What calls come to, with enough fuel. -/
noncomputable def lim (P : Program) (E : Cfg) (X : Orc) : Orc where
  dat := fun f a => if h : ∃ r n, (evCall P E X n).dat f a = some r then some (Classical.choose h) else none
  hpc := fun k d f a hp => if h : ∃ r n, (evCall P E X n).hpc k d f a hp = some r then some (Classical.choose h) else none

section
variable {P : Program} {E : Cfg} {X : Orc} {k : Nat} {all : Array Oper}

theorem lim_dat {f : Nat} {a : List AV} {r : List AV} : (lim P E X).dat f a = some r ↔ ∃ n, (evCall P E X n).dat f a = some r := by
  simp only [lim]
  constructor
  · intro h
    split at h
    · rename_i hex
      have := Classical.choose_spec hex
      simp only [Option.some.injEq] at h
      rw [h] at this
      exact this
    · cases h
  · rintro ⟨n, h⟩
    have hex : ∃ r n, (evCall P E X n).dat f a = some r := ⟨r, n, h⟩
    rw [dif_pos hex]
    obtain ⟨m, hm⟩ := Classical.choose_spec hex
    have h1 := (evCall_le X (Nat.le_max_left n m)).dat _ _ _ h
    have h2 := (evCall_le X (Nat.le_max_right n m)).dat _ _ _ hm
    rw [h1] at h2
    exact h2.symm
theorem lim_hpc {d f : Nat} {a : List AV} {hp : Hp} {r : AV × Hp} : (lim P E X).hpc k d f a hp = some r ↔ ∃ n, (evCall P E X n).hpc k d f a hp = some r := by
  simp only [lim]
  constructor
  · intro h
    split at h
    · rename_i hex
      have := Classical.choose_spec hex
      simp only [Option.some.injEq] at h
      rw [h] at this
      exact this
    · cases h
  · rintro ⟨n, h⟩
    have hex : ∃ r n, (evCall P E X n).hpc k d f a hp = some r := ⟨r, n, h⟩
    rw [dif_pos hex]
    obtain ⟨m, hm⟩ := Classical.choose_spec hex
    have h1 := (evCall_le X (Nat.le_max_left n m)).hpc _ _ _ _ _ _ h
    have h2 := (evCall_le X (Nat.le_max_right n m)).hpc _ _ _ _ _ _ hm
    rw [h1] at h2
    exact h2.symm

theorem lim_ok (hm : P.follows .mixedOrders = true) (hE : EqLaw P E.eq) (hX : OrcOk P X) : OrcOk P (lim P E X) := by
  refine ⟨fun f args rs h => ?_, fun k d f args hp v hp' h => ?_⟩
  · obtain ⟨n, h⟩ := lim_dat.1 h
    exact (evCall_ok hm hE hX n).1 f args rs h
  · obtain ⟨n, h⟩ := lim_hpc.1 h
    exact (evCall_ok hm hE hX n).2 k d f args hp v hp' h

theorem callP_lim {d f : Nat} {args : List AV} {hp : Hp} : (∀ r, (callP P E k d (lim P E X) f args).run hp = some r → ∃ n, (callP P E k d (evCall P E X n) f args).run hp = some r) ∧
    (∀ R W r, (callP P E k d (lim P E X) f args).runF hp R W = some r → ∃ n, (callP P E k d (evCall P E X n) f args).runF hp R W = some r) := by
  unfold callP
  by_cases h1 : okFn P f = true
  · simp only [if_pos h1]
    by_cases h2 : E.hp f = true
    · simp only [if_pos h2]
      constructor
      · intro r h
        simp only [Prog.run] at h ⊢
        cases hg : (lim P E X).hpc k d f args hp with
        | none => rw [hg] at h; cases h
        | some q =>
          obtain ⟨n, hn⟩ := lim_hpc.1 hg
          rw [hg] at h
          exact ⟨n, by rw [hn]; exact h⟩
      · intro R W r h
        simp only [Prog.runF] at h ⊢
        cases hg : (lim P E X).hpc k d f args hp with
        | none => rw [hg] at h; cases h
        | some q =>
          obtain ⟨n, hn⟩ := lim_hpc.1 hg
          rw [hg] at h
          exact ⟨n, by rw [hn]; exact h⟩
    · simp only [if_neg h2]
      constructor
      · intro r h
        simp only [run_bind] at h ⊢
        cases ha : (argsP P (!flatF P f) (ptys P f) args).run hp with
        | none => rw [ha] at h; cases h
        | some q =>
          rw [ha] at h
          simp only at h ⊢
          cases hd : (lim P E X).dat f q.1 with
          | none => rw [hd] at h; simp [Prog.run] at h
          | some rs =>
            obtain ⟨n, hn⟩ := lim_dat.1 hd
            rw [hd] at h
            exact ⟨n, by rw [hn]; exact h⟩
      · intro R W r h
        simp only [runF_bind] at h ⊢
        cases ha : (argsP P (!flatF P f) (ptys P f) args).runF hp R W with
        | none => rw [ha] at h; cases h
        | some q =>
          rw [ha] at h
          simp only at h ⊢
          cases hd : (lim P E X).dat f q.1 with
          | none => rw [hd] at h; simp [Prog.runF] at h
          | some rs =>
            obtain ⟨n, hn⟩ := lim_dat.1 hd
            rw [hd] at h
            exact ⟨n, by rw [hn]; exact h⟩
  · simp only [if_neg h1]
    exact ⟨fun _ h => ⟨0, h⟩, fun _ _ _ h => ⟨0, h⟩⟩

theorem evOp_lim {fr : Nat → AV} {o : Oper} {hp : Hp} : (∀ r, (evOp P E k (lim P E X) fr o).run hp = some r → ∃ n, (evOp P E k (evCall P E X n) fr o).run hp = some r) ∧
    (∀ R W r, (evOp P E k (lim P E X) fr o).runF hp R W = some r → ∃ n, (evOp P E k (evCall P E X n) fr o).runF hp R W = some r) := by
  obtain ⟨dst, op, type, pos, after, guard⟩ := o
  cases op
  case call c =>
    obtain ⟨callee, args, argTypes⟩ := c
    simp only [evOp]
    split
    · exact ⟨fun _ h => ⟨0, h⟩, fun _ _ _ h => ⟨0, h⟩⟩
    · exact ⟨fun _ h => ⟨0, h⟩, fun _ _ _ h => ⟨0, h⟩⟩
    · exact callP_lim
    · exact ⟨fun _ h => ⟨0, h⟩, fun _ _ _ h => ⟨0, h⟩⟩
  all_goals exact ⟨fun _ h => ⟨0, h⟩, fun _ _ _ h => ⟨0, h⟩⟩

theorem evOps_lim : ∀ (os : List Oper) (st : AS) (r : AS), evOps P E k (lim P E X) all os st = some r → ∃ n, evOps P E k (evCall P E X n) all os st = some r
  | [], _, _, h => ⟨0, h⟩
  | o :: os, st, r, h => by
    simp only [evOps] at h ⊢
    split at h
    · split at h
      · rename_i v hp hr
        obtain ⟨n, hn⟩ := evOp_lim.1 _ hr
        obtain ⟨m, hm⟩ := evOps_lim os _ r h
        refine ⟨max n m, ?_⟩
        rw [(evOp_mono (evCall_le X (Nat.le_max_left n m))).1 _ hn]
        exact evOps_mono (evCall_le X (Nat.le_max_right n m)) _ _ _ hm
      · cases h
    · exact evOps_lim os _ r h
    · cases h
theorem stepF_lim {o : Oper} {st : AS} {r : AS × Foot} (h : stepF P E k (lim P E X) all o st = some r) : ∃ n, stepF P E k (evCall P E X n) all o st = some r := by
  unfold stepF at h ⊢
  split at h
  · split at h
    · rename_i v hp R W hr
      obtain ⟨n, hn⟩ := evOp_lim.2 _ _ _ hr
      exact ⟨n, by rw [hn]; exact h⟩
    · cases h
  · exact ⟨0, h⟩
  · cases h
theorem runDraw_lim : ∀ (os : List Oper) (st : AS) (acc : List Foot) (r : AS × List Foot), runDraw P E k (lim P E X) all os st acc = some r → ∃ n, runDraw P E k (evCall P E X n) all os st acc = some r
  | [], _, _, _, h => ⟨0, h⟩
  | o :: os, st, acc, r, h => by
    simp only [runDraw] at h ⊢
    split at h
    · rename_i st' f hs
      obtain ⟨n, hn⟩ := stepF_lim hs
      obtain ⟨m, hm⟩ := runDraw_lim os _ _ r h
      refine ⟨max n m, ?_⟩
      rw [stepF_mono (evCall_le X (Nat.le_max_left n m)) hn]
      exact runDraw_mono (evCall_le X (Nat.le_max_right n m)) _ _ _ _ hm
    · cases h
theorem evRegion_lim {draw : Bool} {st r : AS} (h : evRegion P E k (lim P E X) all draw st = some r) : ∃ n, evRegion P E k (evCall P E X n) all draw st = some r := by
  unfold evRegion at h ⊢
  cases draw with
  | true =>
    simp only [if_true] at h ⊢
    split at h
    · rename_i st' fs hr
      obtain ⟨n, hn⟩ := runDraw_lim _ _ _ _ hr
      exact ⟨n, by rw [hn]; exact h⟩
    · cases h
  | false =>
    simp only [Bool.false_eq_true, if_false] at h ⊢
    exact evOps_lim _ _ _ h

theorem evC_lim : ∀ (g : Nat) (c : Code) (st : AS) (r : Ex × AS), evC P E k (lim P E X) g c st = some r → ∃ n, evC P E k (evCall P E X n) g c st = some r
  | 0, c, st, r, h => by simp [evC] at h
  | g + 1, c, st, r, h => by
    have ih := evC_lim g
    have up : ∀ {n m : Nat} {c : Code} {st : AS} {r : Ex × AS}, n ≤ m → evC P E k (evCall P E X n) g c st = some r → evC P E k (evCall P E X m) g c st = some r := fun hnm h => evC_mono (evCall_le X hnm) g g (Nat.le_refl _) _ _ _ h
    cases c with
    | skip => exact ⟨0, h⟩
    | label l => exact ⟨0, h⟩
    | region id ops d =>
      simp only [evC] at h ⊢
      cases hr : evRegion P E k (lim P E X) ops d st with
      | none => rw [hr] at h; cases h
      | some s =>
        obtain ⟨n, hn⟩ := evRegion_lim hr
        rw [hr] at h
        exact ⟨n, by rw [hn]; exact h⟩
    | seq x y =>
      simp only [evC] at h ⊢
      split at h
      · rename_i s h1
        obtain ⟨n, hn⟩ := ih x st _ h1
        obtain ⟨m, hm⟩ := ih y s r h
        exact ⟨max n m, by rw [up (Nat.le_max_left n m) hn]; exact up (Nat.le_max_right n m) hm⟩
      · rename_i hne
        obtain ⟨n, hn⟩ := ih x st _ h
        refine ⟨n, ?_⟩
        rw [hn]
        split
        · rename_i s hs
          simp only [Option.some.injEq] at hs
          subst hs
          exact (hne s h).elim
        · rfl
    | cond c x y =>
      simp only [evC] at h ⊢
      split at h
      · rename_i t hc
        cases t with
        | true => simp only [if_true] at h ⊢; exact ih x st r h
        | false => simp only [Bool.false_eq_true, if_false] at h ⊢; exact ih y st r h
      · cases h
    | block id x =>
      simp only [evC] at h ⊢
      split at h
      · rename_i i s h1
        obtain ⟨n, hn⟩ := ih x st _ h1
        exact ⟨n, by rw [hn]; exact h⟩
      · rename_i hne
        obtain ⟨n, hn⟩ := ih x st _ h
        refine ⟨n, ?_⟩
        rw [hn]
        split
        · rename_i i s hs
          simp only [Option.some.injEq] at hs
          subst hs
          exact (hne i s h).elim
        · rfl
    | loop x =>
      simp only [evC] at h ⊢
      split at h
      · rename_i s h1
        obtain ⟨n, hn⟩ := ih x st _ h1
        obtain ⟨m, hm⟩ := ih (.loop x) s r h
        exact ⟨max n m, by rw [up (Nat.le_max_left n m) hn]; exact up (Nat.le_max_right n m) hm⟩
      · rename_i hne
        obtain ⟨n, hn⟩ := ih x st _ h
        refine ⟨n, ?_⟩
        rw [hn]
        split
        · rename_i s hs
          simp only [Option.some.injEq] at hs
          subst hs
          exact (hne s h).elim
        · rfl
    | exit id => exact ⟨0, h⟩
    | ret => exact ⟨0, h⟩
    | _ => simp [evC] at h

/-- A function's contract, from its body. -/
theorem lim_fn {f n : Nat} {fn : Func} {args rs : List AV} (hf : P.funcs[f]? = some fn) (hx : X.dat f args = none) (h : evFn P E (lim P E X) n fn args = some rs) : (lim P E X).dat f args = some rs := by
  have h0 : ∃ m, evFn P E (evCall P E X m) n fn args = some rs := by
    unfold evFn at h ⊢
    cases hb : fn.body with
    | none => rw [hb] at h; cases h
    | some c =>
      rw [hb] at h
      simp only at h ⊢
      split at h
      · rename_i hc
        simp only [hc, if_true]
        split at h
        · cases h
        · rename_i e st hne hev
          obtain ⟨m, hm⟩ := evC_lim _ _ _ _ hev
          refine ⟨m, ?_⟩
          rw [hm]
          cases e with
          | exit i => exact (hne i rfl).elim
          | normal => exact h
          | ret => exact h
        · cases h
      · cases h
  obtain ⟨m, hm⟩ := h0
  refine lim_dat.2 ⟨max n m + 1, ?_⟩
  rw [evCall]
  simp only
  rw [hx, hf]
  exact evFn_mono (evCall_le X (Nat.le_max_right n m)) (Nat.le_max_left n m) hm
theorem lim_fnH {f n d : Nat} {fn : Func} {args : List AV} {hp : Hp} {r : AV × Hp} (hf : P.funcs[f]? = some fn) (hx : X.hpc k d f args hp = none) (h : evFnH P E (lim P E X) n fn k d args hp = some r) : (lim P E X).hpc k d f args hp = some r := by
  have h0 : ∃ m, evFnH P E (evCall P E X m) n fn k d args hp = some r := by
    unfold evFnH at h ⊢
    cases hb : fn.body with
    | none => rw [hb] at h; cases h
    | some c =>
      rw [hb] at h
      simp only at h ⊢
      split at h
      · rename_i hc
        simp only [hc, if_true]
        split at h
        · cases h
        · rename_i e st hne hev
          obtain ⟨m, hm⟩ := evC_lim _ _ _ _ hev
          refine ⟨m, ?_⟩
          rw [hm]
          cases e with
          | exit i => exact (hne i rfl).elim
          | normal => exact h
          | ret => exact h
        · cases h
      · cases h
  obtain ⟨m, hm⟩ := h0
  refine lim_hpc.2 ⟨max n m + 1, ?_⟩
  rw [evCall]
  simp only
  rw [hx, hf]
  exact evFnH_mono (evCall_le X (Nat.le_max_right n m)) (Nat.le_max_left n m) hm
end
end Go.Ab
