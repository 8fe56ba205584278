/- A region in the order of its text. No program of Go is named here. -/
import Derived.Test.YtmfhdhiaokejdaaAb14
namespace Go.Ab
open Go
set_option linter.unusedSimpArgs false
set_option linter.unusedVariables false

/-- Where a walk began. -/
structure Base where
  I : Nat → Prop
  m : Mp
  hp : Hp
  w : World

/-- The abstract state of a frame, and the frame. -/
def StR (k N : Nat) (K : Nat → Prop) (B : Base) (st : AS) (a : Act) (w : World) : Prop :=
  ∃ I m, Gam I K m st.hp w ∧ Ext B.I K B.m B.hp B.w I m st.hp w ∧ (∀ t, Rep k I m st.hp w (st.fr t) (a.eval (.tmp t))) ∧ a.tmps.size = N ∧ a.defers = []

section
variable {P : Program} {K : Nat → Prop} {k N : Nat} {B : Base} {E : Cfg} {call : Orc}

theorem put_size (a : Act) (d : Option Nat) (u : Value) : (a.put d u).tmps.size = a.tmps.size := by cases d <;> simp [Act.put]
theorem put_defers (a : Act) (d : Option Nat) (u : Value) : (a.put d u).defers = a.defers := by cases d <;> rfl
theorem put_eval (a : Act) (d : Nat) (u : Value) (t : Nat) (hd : d < a.tmps.size) : (a.put (some d) u).eval (.tmp t) = if t = d then u else a.eval (.tmp t) := by
  by_cases h : t = d
  · subst h
    simp [Act.put, Act.eval, hd]
  · have h' : d ≠ t := fun e => h e.symm
    simp [Act.put, Act.eval, h, Array.getElem?_setIfInBounds_ne h']

theorem setd_ok {I : Nat → Prop} {m : Mp} {hp : Hp} {w : World} {fr : Nat → AV} {a : Act} {d : Option Nat} {v : AV} {u : Value} (hf : ∀ t, Rep k I m hp w (fr t) (a.eval (.tmp t))) (hv : Rep k I m hp w v u) (hd : ∀ x, d = some x → x < a.tmps.size) :
    ∀ t, Rep k I m hp w (setd fr d v t) ((a.put d u).eval (.tmp t)) := by
  intro t
  cases d with
  | none => exact hf t
  | some d =>
    rw [put_eval a d u t (hd d rfl)]
    simp only [setd]
    split
    · exact hv
    · exact hf t

theorem StR.op (hE : EqLaw P E.eq) (hC : OrcOk P call) {st : AS} {a : Act} {w : World} (S : StR k N K B st a w) {o : Oper} {v : AV} {hp' : Hp} (hd : ∀ x, o.dst = some x → x < N) (h : (evOp P E k call st.fr o).run st.hp = some (v, hp')) :
    OpR P o a w (fun u w' => StR k N K B ⟨setd st.fr o.dst v, hp'⟩ (a.put o.dst u) w') := by
  obtain ⟨I, m, G, E0, hf, hs, hdf⟩ := S
  have := evOp_ok hE hC G hf h
  unfold OpR at this ⊢
  have key : ∀ u w', (∃ I' m', Sim I' K m' hp' w' v k I m st.hp w u) → StR k N K B ⟨setd st.fr o.dst v, hp'⟩ (a.put o.dst u) w' := by
    rintro u w' ⟨I', m', G', E', R'⟩
    exact ⟨I', m', G', E0.trans E', setd_ok (fun t => Rep.mono E' _ _ _ (hf t)) R' (fun x hx => by rw [hs]; exact hd x hx), by rw [put_size]; exact hs, by rw [put_defers]; exact hdf⟩
  split at this
  · exact key _ _ this
  · exact key _ _ this
  · exact this.mono fun e w' he => by obtain ⟨u, e1, h2⟩ := he; exact ⟨u, e1, key _ _ h2⟩
  · exact this.elim

theorem StR.skip {st : AS} {a : Act} {w : World} (S : StR k N K B st a w) {d : Option Nat} (hd : ∀ x, d = some x → x < N) : StR k N K B ⟨setd st.fr d (.sc undef), st.hp⟩ (a.put d undef) w := by
  obtain ⟨I, m, G, E0, hf, hs, hdf⟩ := S
  exact ⟨I, m, G, E0, setd_ok hf (by simp only [Rep]) (fun x hx => by rw [hs]; exact hd x hx), by rw [put_size]; exact hs, by rw [put_defers]; exact hdf⟩

theorem StR.guard {st : AS} {a : Act} {w : World} (S : StR k N K B st a w) {all : Array Oper} {o : Oper} {b : Bool} (h : guardA all st.fr o = some b) : Region.wanted o (yielded all a.tmps) = b := by
  obtain ⟨I, m, G, E0, hf, hs, hdf⟩ := S
  unfold guardA at h
  unfold Region.wanted
  split at h
  · rename_i hg; rw [hg]; simpa using h
  · rename_i j want hg
    rw [hg]
    simp only
    split at h
    · rename_i d hd
      have hr := hf d
      unfold yielded
      rw [hd]
      simp only [Option.bind_some]
      simp only [Act.eval, Array.getD_eq_getD_getElem?] at hr
      split at h
      · rename_i c hc
        rw [hc] at hr
        simp only [Rep] at hr
        cases ht : a.tmps[d]? with
        | none => rw [ht] at hr; simp [undef] at hr
        | some u =>
          rw [ht] at hr
          simp only [Option.getD_some] at hr
          subst hr
          simp only [Option.some.injEq] at h
          rw [← h]
          cases c <;> cases want <;> rfl
      · rename_i c hc
        rw [hc] at hr
        simp only [Rep] at hr
        simp only [Option.some.injEq] at h
        rw [← h]
        cases ht : a.tmps[d]? with
        | none => rfl
        | some u =>
          rw [ht] at hr
          simp only [Option.getD_some] at hr
          subst hr
          rfl
      · cases h
    · cases h

theorem evOps_ok (hE : EqLaw P E.eq) (hC : OrcOk P call) {all : Array Oper} {Q : Exit → Act → World → Prop} : ∀ (os : List Oper) (n : Nat) {st st' : AS} {a : Act} {w : World}, (∀ j, os[j]? = all[n + j]?) → (∀ o ∈ os, ∀ x, o.dst = some x → x < N) →
    StR k N K B st a w → evOps P E k call all os st = some st' → (∀ a' w', StR k N K B st' a' w' → Q .normal a' w') → wpOps P all Q (List.range' n os.length) a w
  | [], n, st, st', a, w, _, _, S, h, hQ => by
    simp only [evOps, Option.some.injEq] at h
    subst h
    exact hQ a w S
  | o :: os, n, st, st', a, w, hl, hd, S, h, hQ => by
    have h0 : all[n]? = some o := by simpa using (hl 0).symm
    have hl' : ∀ j, os[j]? = all[n + 1 + j]? := fun j => by have := hl (j + 1); simpa [Nat.add_assoc, Nat.add_comm 1 j] using this
    have hd' : ∀ o ∈ os, ∀ x, o.dst = some x → x < N := fun p hp => hd p (List.mem_cons_of_mem _ hp)
    have hdo := hd o (List.mem_cons_self ..)
    simp only [evOps] at h
    simp only [List.length_cons, List.range'_succ, wpOps, h0]
    split at h
    · rename_i hg
      rw [S.guard hg, if_pos rfl]
      split at h
      · rename_i v hp hr
        refine .inl ((S.op hE hC hdo hr).wp fun u w' S' => ?_)
        exact evOps_ok hE hC os (n + 1) hl' hd' S' h hQ
      · cases h
    · rename_i hg
      rw [S.guard hg]
      simp only [Bool.false_eq_true, if_false]
      exact evOps_ok hE hC os (n + 1) hl' hd' (S.skip hdo) h hQ
    · cases h

theorem region_text (hE : EqLaw P E.eq) (hC : OrcOk P call) {all : Array Oper} {Q : Exit → Act → World → Prop} {st st' : AS} {a : Act} {w : World} {id : Nat} (hd : ∀ o ∈ all.toList, ∀ x, o.dst = some x → x < N) (S : StR k N K B st a w) (h : evOps P E k call all all.toList st = some st') (hQ : ∀ a' w', StR k N K B st' a' w' → Q .normal a' w') :
    (Code.region id all false).wp P Q a w := by
  refine wp_region ?_
  have := evOps_ok hE hC (Q := Q) all.toList 0 (by simp) hd S h hQ
  rwa [Array.length_toList, ← List.range_eq_range'] at this
end
end Go.Ab
