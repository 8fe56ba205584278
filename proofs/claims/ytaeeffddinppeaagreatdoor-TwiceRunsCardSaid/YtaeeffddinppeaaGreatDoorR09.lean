/- A part of the proof: Ab24, Ab25. -/
import Derived.Test.YtaeeffddinppeaaGreatDoorR03
set_option linter.unusedSimpArgs false
set_option linter.unusedVariables false
namespace Go.Ab
open Go
theorem run_getCsN (x : Nm) (hp : Hp) : ∀ n off : Nat, (getCs x off (n + 1)).run hp = match hp x with
    | .box _ cells _ => if off + (n + 1) ≤ cells.length then some ((cells.drop off).take (n + 1), hp) else none
    | _ => none
  | 0, off => by
    simp only [getCs, Prog.run, cellOf]
    cases hp x with
    | no _ => rfl
    | arr _ _ _ _ _ => rfl
    | box g cells f =>
      simp only
      by_cases h : off < cells.length
      · rw [List.getElem?_eq_getElem h, if_pos (by omega)]
        simp only [Prog.bind, Prog.run, Option.some.injEq, Prod.mk.injEq, and_true]
        rw [List.drop_eq_getElem_cons h]; rfl
      · rw [List.getElem?_eq_none (by omega), if_neg (by omega)]
  | n + 1, off => by
    have ih := run_getCsN x hp n (off + 1)
    rw [getCs]
    simp only [Prog.run, cellOf]
    cases he : hp x with
    | no _ => rfl
    | arr _ _ _ _ _ => rfl
    | box g cells f =>
      simp only [he] at ih ⊢
      by_cases h : off < cells.length
      · rw [List.getElem?_eq_getElem h]
        simp only [run_bind, ih]
        by_cases h2 : off + 1 + (n + 1) ≤ cells.length
        · rw [if_pos h2, if_pos (by omega)]
          simp only [Prog.run, Option.some.injEq, Prod.mk.injEq, and_true]
          rw [List.drop_eq_getElem_cons h]; rfl
        · rw [if_neg h2, if_neg (by omega)]
      · rw [List.getElem?_eq_none (by omega), if_neg (by omega)]
def facetsC (x : Nm) (off : Nat) : Nat → List Facet → List Facet
  | 0, R => R
  | n + 1, R => facetsC x (off + 1) n (.cl x off :: .hd x :: R)
theorem runF_getCsN (x : Nm) (hp : Hp) : ∀ (n off : Nat) (R W : List Facet), (getCs x off (n + 1)).runF hp R W = match hp x with
    | .box _ cells _ => if off + (n + 1) ≤ cells.length then some ((cells.drop off).take (n + 1), hp, facetsC x off (n + 1) R, W) else none
    | _ => none
  | 0, off, R, W => by
    simp only [getCs, Prog.runF, cellOf]
    cases hp x with
    | no _ => rfl
    | arr _ _ _ _ _ => rfl
    | box g cells f =>
      simp only
      by_cases h : off < cells.length
      · rw [List.getElem?_eq_getElem h, if_pos (by omega)]
        simp only [Prog.bind, Prog.runF, facetsC, Option.some.injEq, Prod.mk.injEq, and_true]
        rw [List.drop_eq_getElem_cons h]; rfl
      · rw [List.getElem?_eq_none (by omega), if_neg (by omega)]
  | n + 1, off, R, W => by
    have ih := fun R W => runF_getCsN x hp n (off + 1) R W
    rw [getCs]
    simp only [Prog.runF, cellOf]
    cases he : hp x with
    | no _ => rfl
    | arr _ _ _ _ _ => rfl
    | box g cells f =>
      simp only [he] at ih ⊢
      by_cases h : off < cells.length
      · rw [List.getElem?_eq_getElem h]
        simp only [runF_bind, ih]
        by_cases h2 : off + 1 + (n + 1) ≤ cells.length
        · rw [if_pos h2, if_pos (by omega)]
          simp only [Prog.runF, facetsC, Option.some.injEq, Prod.mk.injEq, and_true]
          rw [List.drop_eq_getElem_cons h]; rfl
        · rw [if_neg h2, if_neg (by omega)]
      · rw [List.getElem?_eq_none (by omega), if_neg (by omega)]
theorem putCs_one (x : Nm) (off : Nat) (v : AV) : putCs x off [v] = .putC x off v (.ret .any) := rfl
def putX (x : Nm) (off : Nat) (vs : List AV) (hp : Hp) : Option (AV × Hp) := (putCs x off vs).run hp
theorem run_putCsN (x : Nm) (v u : AV) (vs : List AV) (off : Nat) (hp : Hp) : (putCs x off (v :: u :: vs)).run hp = match hp x with
    | .box g cells f => if off + (v :: u :: vs).length ≤ cells.length then some (.any, upd hp x (.box g (splice cells off (v :: u :: vs)) f)) else putX x off (v :: u :: vs) hp
    | _ => putX x off (v :: u :: vs) hp := by
  cases he : hp x with
  | no _ => rfl
  | arr _ _ _ _ _ => rfl
  | box g cells f =>
    simp only
    split
    · rename_i h
      obtain ⟨hp', h1, rfl⟩ := run_putCs (v :: u :: vs) off cells hp he h
      exact h1
    · rfl
end Go.Ab
namespace Go.Ab
open Go
def facetsW (x : Nm) (off : Nat) : Nat → List Facet → List Facet
  | 0, W => W
  | n + 1, W => facetsW x (off + 1) n (.cl x off :: W)
def facetsH (x : Nm) : Nat → List Facet → List Facet
  | 0, R => R
  | n + 1, R => facetsH x n (.hd x :: R)
theorem runF_putCs {x : Nm} {g : Nat} {f : Bool} : ∀ (vs : List AV) (off : Nat) (cells : List AV) (hp : Hp) (R W : List Facet), hp x = .box g cells f → off + vs.length ≤ cells.length →
    ∃ hp', (putCs x off vs).runF hp R W = some (.any, hp', facetsH x vs.length R, facetsW x off vs.length W) ∧ hp' = upd hp x (.box g (splice cells off vs) f)
  | [], off, cells, hp, R, W, hx, _ => by
    refine ⟨hp, rfl, ?_⟩
    rw [splice_nil cells off, ← hx]
    funext y; by_cases hy : y = x <;> simp [upd, hy]
  | v :: vs, off, cells, hp, R, W, hx, h => by
    have hlt : off < cells.length := by simp at h; omega
    obtain ⟨hp', h1, h2⟩ := runF_putCs vs (off + 1) (cells.set off v) (upd hp x (.box g (cells.set off v) f)) (.hd x :: R) (.cl x off :: W) (upd_same _ _ _) (by simp at h ⊢; omega)
    refine ⟨hp', by simp only [putCs, Prog.runF, hx, setCellOf, hlt, if_true, h1, List.length_cons, facetsH, facetsW], ?_⟩
    rw [h2, splice_cons cells off v vs (by simp at h; omega)]
    funext y; by_cases hy : y = x <;> simp [upd, hy]
def putXF (x : Nm) (off : Nat) (vs : List AV) (hp : Hp) (R W : List Facet) : Option (AV × Hp × List Facet × List Facet) := (putCs x off vs).runF hp R W
theorem runF_putCsN (x : Nm) (v u : AV) (vs : List AV) (off : Nat) (hp : Hp) (R W : List Facet) : (putCs x off (v :: u :: vs)).runF hp R W = match hp x with
    | .box g cells f => if off + (v :: u :: vs).length ≤ cells.length then some (.any, upd hp x (.box g (splice cells off (v :: u :: vs)) f), facetsH x (v :: u :: vs).length R, facetsW x off (v :: u :: vs).length W) else putXF x off (v :: u :: vs) hp R W
    | _ => putXF x off (v :: u :: vs) hp R W := by
  cases he : hp x with
  | no _ => rfl
  | arr _ _ _ _ _ => rfl
  | box g cells f =>
    simp only
    split
    · rename_i h
      obtain ⟨hp', h1, rfl⟩ := runF_putCs (v :: u :: vs) off cells hp R W he h
      exact h1
    · rfl
end Go.Ab
