/- Structs of plain cells that are held against each other. -/
import Derived.Test.YtmfhdhiaokejdaaFy
import Derived.Laws.StructEq
namespace Go.Proofs.Ytmfhdhiaokejdaa
open Go Go.Ab
set_option linter.unusedSimpArgs false
set_option linter.unusedVariables false
/-- Fields of one plain cell each, in order. -/
def flatFs (P : Program) : Nat → List Field → Bool
  | _, [] => true
  | k, f :: fs => f.offset == k && f.name != "_" && !isAggB P f.type && tOk P f.type && flatFs P (k + 1) fs
theorem run_part {P : Program} {w : World} {t : TypeId} {us : List Value} {off : Nat} {v : Value} (ha : isAggB P t = false) (ho : tOk P t = true) (hv : us[off]? = some v) : (part t ⟨us⟩ off).run P w = .ok v w := by
  unfold tOk at ho
  simp only [Bool.and_eq_true] at ho
  obtain ⟨_, hu⟩ := ho
  obtain ⟨d, hd⟩ := Option.isSome_iff_exists.1 hu
  have hg : (isAgg t).run P w = .ok false w := by
    unfold isAggB at ha
    rw [hd] at ha
    unfold isAgg
    rw [Sem.run_bind, run_underlying hd]
    cases d <;> simp at ha <;> rfl
  simp [part, Sem.run_bind, hg, Result.andThen, hv]
theorem cell_eq {P : Program} {w : World} {t : TypeId} {d : Nat} {u v : Value} {r : Bool} (h1 : cellFits P t (.sc u) = true) (h2 : cellFits P t (.sc v) = true) (h : eqV (.sc u) (.sc v) = some r) : (Op.equalIn (d + 1) t u v).run P w = .ok r w := by
  unfold eqV at h
  split at h
  · rename_i k a k' a' e1 e2
    cases e1; cases e2
    split at h
    · rename_i hk
      subst hk
      cases h
      simp only [cellFits] at h1
      obtain ⟨q, hq⟩ := Option.isSome_iff_exists.1 h1
      unfold intK at hq
      split at hq
      · rename_i hu; exact run_equalIn_int w d t k _ a a' hu
      · cases hq
    · cases h
  · rename_i a a' e1 e2
    cases e1; cases e2
    cases h
    simp only [cellFits, strB] at h1
    split at h1
    · rename_i hu
      rw [run_equalIn_string w d t a a' hu, ByteArray.toList_eq, ByteArray.toList_eq]
      congr 1
      rw [Bool.eq_iff_iff]
      simp only [beq_iff_eq, decide_eq_true_eq]
      constructor
      · intro e; exact ByteArray.ext (Array.ext' e)
      · intro e; rw [e]
    · cases h1
  · rename_i a a' e1 e2
    cases e1; cases e2
    cases h
    simp only [cellFits, bolB] at h1
    split at h1
    · rename_i hu; exact run_equalIn_bool' w d t a a' hu
    · cases h1
  · cases h
theorem fields_eq {P : Program} {w : World} {d : Nat} (us vs : List Value) : ∀ (fs : List Field) (k : Nat) (b : Bool), flatFs P k fs = true → fitsL P (fs.map (·.type)) ((us.drop k).map .sc) = true → fitsL P (fs.map (·.type)) ((vs.drop k).map .sc) = true →
    eqL ((us.drop k).map .sc) ((vs.drop k).map .sc) = some b → (Op.eqFields (d + 1) ⟨us⟩ ⟨vs⟩ fs).run P w = .ok b w
  | [], k, b, _, h1, h2, h => by
    cases hu : us.drop k with
    | cons x xs => rw [hu] at h1; simp [fitsL] at h1
    | nil =>
      cases hv : vs.drop k with
      | cons x xs => rw [hv] at h2; simp [fitsL] at h2
      | nil =>
        rw [hu, hv] at h
        simp only [List.map_nil, eqL, Option.some.injEq] at h
        subst h
        simp [Op.eqFields]
  | f :: fs, k, b, hf, h1, h2, h => by
    simp only [flatFs, Bool.and_eq_true, beq_iff_eq, bne_iff_ne, ne_eq, Bool.not_eq_true'] at hf
    obtain ⟨⟨⟨⟨ho, hn⟩, ha⟩, ht⟩, hrest⟩ := hf
    cases hu : us.drop k with
    | nil => rw [hu] at h1; simp [fitsL] at h1
    | cons x xs =>
      cases hv : vs.drop k with
      | nil => rw [hv] at h2; simp [fitsL] at h2
      | cons y ys =>
        have hx : us[k]? = some x := by have := List.getElem?_drop (xs := us) (i := k) (j := 0); rw [hu] at this; simpa using this.symm
        have hy : vs[k]? = some y := by have := List.getElem?_drop (xs := vs) (i := k) (j := 0); rw [hv] at this; simpa using this.symm
        have hxs : us.drop (k + 1) = xs := by rw [← List.drop_drop, hu]; rfl
        have hys : vs.drop (k + 1) = ys := by rw [← List.drop_drop, hv]; rfl
        rw [hu] at h1 h
        rw [hv] at h2 h
        simp only [List.map_cons, fitsL, Bool.and_eq_true] at h1 h2
        simp only [List.map_cons, eqL] at h
        split at h
        · rename_i p q hp hq
          cases h
          have hc := cell_eq (w := w) (d := d) h1.1 h2.1 hp
          have ih := fields_eq (w := w) (d := d) us vs fs (k + 1) q hrest (by rw [hxs]; exact h1.2) (by rw [hys]; exact h2.2) (by rw [hxs, hys]; exact hq)
          unfold Op.eqFields
          rw [if_pos hn, ho]
          simp only [Sem.run_bind, run_part ha ht hx, run_part ha ht hy, Result.andThen_ok, hc]
          cases p with
          | true => simpa using ih
          | false => simp
        · cases h
theorem struct_law {P : Program} {t : TypeId} (ht : P.underlying t = some (.struct (P.fieldsOf t))) (hs : P.stoodInHeld t = false) (hg : P.eqGuardType P.depth t = false) (hf : flatFs P 0 (P.fieldsOf t).toList = true) (htc : tcs P t = (P.fieldsOf t).toList.map (·.type))
    (w : World) (x y : Operand) (us vs : List Value) (b : Bool) (h1 : fitsL P (tcs P t) (us.map .sc) = true) (h2 : fitsL P (tcs P t) (vs.map .sc) = true) (h : eqL (us.map .sc) (vs.map .sc) = some b) :
    (do eqGuard .eql t x y (.agg ⟨us⟩) (.agg ⟨vs⟩); binOp .eql t (.agg ⟨us⟩) (.agg ⟨vs⟩) : Sem Value).run P w = .ok (.bool b) w ∧
    (do eqGuard .neq t x y (.agg ⟨us⟩) (.agg ⟨vs⟩); binOp .neq t (.agg ⟨us⟩) (.agg ⟨vs⟩) : Sem Value).run P w = .ok (.bool (!b)) w := by
  rw [htc] at h1 h2
  have hq : (Op.equalIn 10000 t (.agg ⟨us⟩) (.agg ⟨vs⟩)).run P w = .ok b w := by
    have e : (10000 : Nat) = 9998 + 1 + 1 := rfl
    rw [e, run_equalIn_struct w (9998 + 1) t ⟨us⟩ ⟨vs⟩ ht hs]
    exact fields_eq us vs _ 0 b hf h1 h2 h
  constructor
  · simp only [Sem.run_bind, run_eqGuard_agg w .eql t x y ⟨us⟩ ⟨vs⟩ hg, Result.andThen_ok, run_eql_struct, hq]
  · simp only [Sem.run_bind, run_eqGuard_agg w .neq t x y ⟨us⟩ ⟨vs⟩ hg, Result.andThen_ok, run_neq_struct, hq]
theorem E31_law : EqLaw Try.prog E31.eq := by
  intro t ht w x y us vs b h1 h2 h
  simp only [E31, Bool.or_eq_true, beq_iff_eq] at ht
  rcases ht with rfl | rfl
  · exact struct_law (by kernel_rfl) (by kernel_rfl) (by kernel_rfl) (by kernel_rfl) (by kernel_rfl) w x y us vs b h1 h2 h
  · exact struct_law (by kernel_rfl) (by kernel_rfl) (by kernel_rfl) (by kernel_rfl) (by kernel_rfl) w x y us vs b h1 h2 h
theorem L31_ok : DatOk Try.prog (lim Try.prog E31 X31) := (lim_ok mixed0 E31_law X31_ok).1
end Go.Proofs.Ytmfhdhiaokejdaa
