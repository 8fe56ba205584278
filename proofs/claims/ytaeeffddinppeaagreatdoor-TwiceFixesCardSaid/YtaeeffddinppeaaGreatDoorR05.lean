/- A part of the proof: EqD. -/
import Derived.Test.YtaeeffddinppeaaGreatDoorR03
import Derived.Laws.StructEq
import Derived.ChangeKeysEq
set_option linter.unusedSimpArgs false
set_option linter.unusedVariables false
namespace Go.Ab
open Go
theorem run_part {P : Program} {w : World} {t : TypeId} {us : List Value} {off : Nat} {v : Value} (ha : isAggB P t = false) (ho : tOk P t = true) (hv : us[off]? = some v) : (part t ⟨us⟩ off).run P w = .ok v w := by
  unfold tOk at ho
  simp only [Bool.and_eq_true] at ho
  obtain ⟨_, hu⟩ := ho
  obtain ⟨d, hd⟩ := Option.isSome_iff_exists.1 hu
  have hg : (isAgg t).run P w = .ok false w := by
    unfold isAggB at ha
    rw [hd] at ha
    unfold isAgg
    rw [Sem.run_bind, run_underlying hd]
    cases d <;> simp at ha <;> rfl
  simp [part, Sem.run_bind, hg, Result.andThen, hv]
theorem cell_eq {P : Program} {w : World} {t : TypeId} {d : Nat} {u v : Value} {r : Bool} (h1 : cellFits P t (.sc u) = true) (h2 : cellFits P t (.sc v) = true) (h : eqV (.sc u) (.sc v) = some r) : (Op.equalIn (d + 1) t u v).run P w = .ok r w := by
  unfold eqV at h
  split at h
  · rename_i k a k' a' e1 e2
    cases e1; cases e2
    split at h
    · rename_i hk
      subst hk
      cases h
      simp only [cellFits] at h1
      obtain ⟨q, hq⟩ := Option.isSome_iff_exists.1 h1
      unfold intK at hq
      split at hq
      · rename_i hu; exact run_equalIn_int w d t k _ a a' hu
      · cases hq
    · cases h
  · rename_i a a' e1 e2
    cases e1; cases e2
    cases h
    simp only [cellFits, strB] at h1
    split at h1
    · rename_i hu
      rw [run_equalIn_string w d t a a' hu, ByteArray.toList_eq, ByteArray.toList_eq]
      congr 1
      rw [Bool.eq_iff_iff]
      simp only [beq_iff_eq, decide_eq_true_eq]
      constructor
      · intro e; exact ByteArray.ext (Array.ext' e)
      · intro e; rw [e]
    · cases h1
  · rename_i a a' e1 e2
    cases e1; cases e2
    cases h
    simp only [cellFits, bolB] at h1
    split at h1
    · rename_i hu; exact run_equalIn_bool' w d t a a' hu
    · cases h1
  · cases h
theorem run_part_arr {P : Program} {w : World} {t e : TypeId} {n : Nat} {i : TypeInfo} {us : List Value} {off : Nat} (hu : P.underlying t = some (.array n e)) (hi : P.info? t = some i) : (part t ⟨us⟩ off).run P w = .ok (.agg ((⟨us⟩ : Array Value).extract off (off + P.cellsOf t))) w := by
  simp [part, isAgg, run_underlying hu, run_sizeOf w hi]
theorem eqL_split : ∀ (n : Nat) {xs ys : List AV} {b : Bool}, eqL xs ys = some b → ∃ p q, eqL (xs.take n) (ys.take n) = some p ∧ eqL (xs.drop n) (ys.drop n) = some q ∧ b = (p && q)
  | 0, xs, ys, b, h => ⟨true, b, by simp [eqL], by simpa using h, by simp⟩
  | n + 1, [], [], b, h => by simp only [eqL, Option.some.injEq] at h; subst h; exact ⟨true, true, by simp [eqL], by simp [eqL], rfl⟩
  | n + 1, x :: xs, y :: ys, b, h => by
    simp only [eqL] at h
    split at h
    · rename_i u v hv hl
      cases h
      obtain ⟨p, q, h1, h2, rfl⟩ := eqL_split n hl
      exact ⟨u && p, q, by simp only [List.take_succ_cons, eqL, hv, h1], by simpa using h2, by simp [Bool.and_assoc]⟩
    · cases h
  | n + 1, [], _ :: _, _, h => by simp [eqL] at h
  | n + 1, _ :: _, [], _, h => by simp [eqL] at h
theorem fitsL_split {P : Program} : ∀ {ts ts' : List TypeId} {xs : List AV}, fitsL P (ts ++ ts') xs = true → fitsL P ts (xs.take ts.length) = true ∧ fitsL P ts' (xs.drop ts.length) = true
  | [], ts', xs, h => ⟨by simp [fitsL], by simpa using h⟩
  | t :: ts, ts', [], h => by simp [fitsL] at h
  | t :: ts, ts', x :: xs, h => by
    simp only [List.cons_append, fitsL, Bool.and_eq_true] at h
    obtain ⟨h1, h2⟩ := fitsL_split h.2
    exact ⟨by simp only [List.length_cons, List.take_succ_cons, fitsL, h.1, h1, Bool.and_self], by simpa using h2⟩
theorem get_drop {us : List Value} {k : Nat} {x : Value} {xs : List Value} (h : us.drop k = x :: xs) : us[k]? = some x ∧ us.drop (k + 1) = xs := by
  refine ⟨by have := List.getElem?_drop (xs := us) (i := k) (j := 0); rw [h] at this; simpa using this.symm, by rw [← List.drop_drop, h]; rfl⟩
theorem items_eq {P : Program} {w : World} {d : Nat} {e : TypeId} (ha : isAggB P e = false) (ht : tOk P e = true) (us vs : List Value) : ∀ (m k : Nat) (b : Bool), fitsL P (List.replicate m e) ((us.drop k).map .sc) = true → fitsL P (List.replicate m e) ((vs.drop k).map .sc) = true →
    eqL ((us.drop k).map .sc) ((vs.drop k).map .sc) = some b → (Op.eqItems (d + 1) e 1 ⟨us⟩ ⟨vs⟩ (List.range' k m)).run P w = .ok b w
  | 0, k, b, h1, h2, h => by
    cases hu : us.drop k with
    | cons x xs => rw [hu] at h1; simp [fitsL] at h1
    | nil =>
      cases hv : vs.drop k with
      | cons x xs => rw [hv] at h2; simp [fitsL] at h2
      | nil =>
        rw [hu, hv] at h
        simp only [List.map_nil, eqL, Option.some.injEq] at h
        subst h
        simp [Op.eqItems]
  | m + 1, k, b, h1, h2, h => by
    cases hu : us.drop k with
    | nil => rw [hu] at h1; simp [fitsL, List.replicate_succ] at h1
    | cons x xs =>
      cases hv : vs.drop k with
      | nil => rw [hv] at h2; simp [fitsL, List.replicate_succ] at h2
      | cons y ys =>
        obtain ⟨hx, hxs⟩ := get_drop hu
        obtain ⟨hy, hys⟩ := get_drop hv
        rw [hu] at h1 h
        rw [hv] at h2 h
        simp only [List.map_cons, List.replicate_succ, fitsL, Bool.and_eq_true] at h1 h2
        simp only [List.map_cons, eqL] at h
        split at h
        · rename_i p q hp hq
          cases h
          have hc := cell_eq (w := w) (d := d) h1.1 h2.1 hp
          have ih := items_eq (w := w) (d := d) ha ht us vs m (k + 1) q (by rw [hxs]; exact h1.2) (by rw [hys]; exact h2.2) (by rw [hxs, hys]; exact hq)
          rw [List.range'_succ]
          unfold Op.eqItems
          simp only [Nat.mul_one, Sem.run_bind, run_part ha ht hx, run_part ha ht hy, Result.andThen_ok, hc]
          cases p with
          | true => simpa using ih
          | false => simp
        · cases h
def arrPl (P : Program) (t : TypeId) : Bool := match P.underlying t with
  | some (.array n e) => !isAggB P e && tOk P e && P.cellsOf e == 1 && P.cellsOf t == n && (P.info? e).isSome && (P.info? t).isSome
  | _ => false
def typesOf (P : Program) (t : TypeId) : List TypeId := match P.underlying t with
  | some (.array n e) => List.replicate n e
  | _ => [t]
def flatFs (P : Program) : Nat → List Field → Bool
  | _, [] => true
  | k, f :: fs => f.offset == k && f.name != "_" && ((!isAggB P f.type && tOk P f.type && typesOf P f.type == [f.type] && flatFs P (k + 1) fs) || (arrPl P f.type && flatFs P (k + P.cellsOf f.type) fs))
theorem arr_eq {P : Program} {w : World} {d : Nat} {t : TypeId} (h : arrPl P t = true) (us vs : List Value) (b : Bool) (h1 : fitsL P (typesOf P t) (us.map .sc) = true) (h2 : fitsL P (typesOf P t) (vs.map .sc) = true) (h3 : eqL (us.map .sc) (vs.map .sc) = some b) :
    (Op.equalIn (d + 2) t (.agg ⟨us⟩) (.agg ⟨vs⟩)).run P w = .ok b w := by
  unfold arrPl at h
  split at h
  · rename_i n e hu
    simp only [Bool.and_eq_true, Bool.not_eq_true', beq_iff_eq] at h
    obtain ⟨⟨⟨⟨⟨ha, ht⟩, hs⟩, hn⟩, hi⟩, _⟩ := h
    obtain ⟨i, hi⟩ := Option.isSome_iff_exists.1 hi
    unfold typesOf at h1 h2
    rw [hu] at h1 h2
    rw [run_equalIn_array w (d + 1) ⟨us⟩ ⟨vs⟩ hu hi, hs, List.range_eq_range']
    exact items_eq ha ht us vs n 0 b h1 h2 h3
  · cases h
theorem ext_list {us : List Value} {k n : Nat} : (⟨us⟩ : Array Value).extract k (k + n) = ⟨(us.drop k).take n⟩ := by
  apply Array.toList_inj.1
  rw [Array.toList_extract]
  simp [List.extract]
theorem fields_eq {P : Program} {w : World} {d : Nat} (us vs : List Value) : ∀ (fs : List Field) (k : Nat) (b : Bool), flatFs P k fs = true → fitsL P (fs.flatMap fun f => typesOf P f.type) ((us.drop k).map .sc) = true → fitsL P (fs.flatMap fun f => typesOf P f.type) ((vs.drop k).map .sc) = true →
    eqL ((us.drop k).map .sc) ((vs.drop k).map .sc) = some b → (Op.eqFields (d + 2) ⟨us⟩ ⟨vs⟩ fs).run P w = .ok b w
  | [], k, b, _, h1, h2, h => by
    cases hu : us.drop k with
    | cons x xs => rw [hu] at h1; simp [fitsL] at h1
    | nil =>
      cases hv : vs.drop k with
      | cons x xs => rw [hv] at h2; simp [fitsL] at h2
      | nil =>
        rw [hu, hv] at h
        simp only [List.map_nil, eqL, Option.some.injEq] at h
        subst h
        simp [Op.eqFields]
  | f :: fs, k, b, hf, h1, h2, h => by
    simp only [flatFs, Bool.and_eq_true, Bool.or_eq_true, beq_iff_eq, bne_iff_ne, ne_eq, Bool.not_eq_true'] at hf
    obtain ⟨⟨ho, hn⟩, hc⟩ := hf
    simp only [List.flatMap_cons] at h1 h2
    obtain ⟨a1, a2⟩ := fitsL_split h1
    obtain ⟨b1, b2⟩ := fitsL_split h2
    obtain ⟨p, q, e1, e2, rfl⟩ := eqL_split (typesOf P f.type).length h
    rw [← List.map_take] at a1 b1
    rw [← List.map_take, ← List.map_take] at e1
    rw [← List.map_drop, List.drop_drop] at a2 b2
    rw [← List.map_drop, ← List.map_drop, List.drop_drop, List.drop_drop] at e2
    have fin : ∀ x y, (part f.type ⟨us⟩ f.offset).run P w = .ok x w → (part f.type ⟨vs⟩ f.offset).run P w = .ok y w → (Op.equalIn (d + 2) f.type x y).run P w = .ok p w → (Op.eqFields (d + 2) ⟨us⟩ ⟨vs⟩ fs).run P w = .ok q w → (Op.eqFields (d + 2) ⟨us⟩ ⟨vs⟩ (f :: fs)).run P w = .ok (p && q) w := by
      intro x y r1 r2 r3 r4
      unfold Op.eqFields
      rw [if_pos hn]
      simp only [Sem.run_bind, r1, r2, Result.andThen_ok, r3]
      cases p with
      | true => simpa using r4
      | false => simp
    rcases hc with ⟨⟨⟨ha, ht⟩, hty⟩, hrest⟩ | ⟨harr, hrest⟩
    · rw [hty] at a1 b1 e1 a2 b2 e2
      simp only [List.length_cons, List.length_nil, Nat.zero_add] at a1 b1 e1 a2 b2 e2
      cases hu : us.drop k with
      | nil => rw [hu] at a1; simp [fitsL] at a1
      | cons x xs =>
        cases hv : vs.drop k with
        | nil => rw [hv] at b1; simp [fitsL] at b1
        | cons y ys =>
          obtain ⟨hx, hxs⟩ := get_drop hu
          obtain ⟨hy, hys⟩ := get_drop hv
          rw [hu] at a1 e1
          rw [hv] at b1 e1
          simp only [List.take_succ_cons, List.take_zero, List.map_cons, List.map_nil, fitsL, Bool.and_true] at a1 b1
          have hp : eqV (.sc x) (.sc y) = some p := by
            simp only [List.take_succ_cons, List.take_zero, List.map_cons, List.map_nil, eqL] at e1
            split at e1
            · rename_i p' q' g1 g2
              cases g2
              simp only [Bool.and_true, Option.some.injEq] at e1
              rw [g1, e1]
            · cases e1
          exact fin x y (by rw [ho]; exact run_part ha ht hx) (by rw [ho]; exact run_part ha ht hy) (cell_eq a1 b1 hp) (fields_eq us vs fs (k + 1) q hrest a2 b2 e2)
    · have harr' := harr
      unfold arrPl at harr'
      split at harr'
      · rename_i n e hu
        simp only [Bool.and_eq_true, Bool.not_eq_true', beq_iff_eq] at harr'
        obtain ⟨_, hi⟩ := harr'
        obtain ⟨i, hi⟩ := Option.isSome_iff_exists.1 hi
        have hlen : (typesOf P f.type).length = P.cellsOf f.type := by
          unfold typesOf
          rw [hu]
          have : P.cellsOf f.type = n := by
            have hq := harr
            unfold arrPl at hq
            rw [hu] at hq
            simp only [Bool.and_eq_true, Bool.not_eq_true', beq_iff_eq] at hq
            exact hq.1.1.2
          simp [this]
        rw [hlen] at a1 b1 e1 a2 b2 e2
        exact fin _ _ (by rw [ho, run_part_arr hu hi, ext_list]) (by rw [ho, run_part_arr hu hi, ext_list]) (arr_eq harr _ _ p a1 b1 e1) (fields_eq us vs fs (k + P.cellsOf f.type) q hrest a2 b2 e2)
      · cases harr'
theorem struct_law {P : Program} {t : TypeId} (ht : P.underlying t = some (.struct (P.fieldsOf t))) (hs : P.stoodInHeld t = false) (hg : P.eqGuardType P.depth t = false) (hf : flatFs P 0 (P.fieldsOf t).toList = true) (htc : tcs P t = (P.fieldsOf t).toList.flatMap fun f => typesOf P f.type)
    (w : World) (x y : Operand) (us vs : List Value) (b : Bool) (h1 : fitsL P (tcs P t) (us.map .sc) = true) (h2 : fitsL P (tcs P t) (vs.map .sc) = true) (h : eqL (us.map .sc) (vs.map .sc) = some b) :
    (do eqGuard .eql t x y (.agg ⟨us⟩) (.agg ⟨vs⟩); binOp .eql t (.agg ⟨us⟩) (.agg ⟨vs⟩) : Sem Value).run P w = .ok (.bool b) w ∧
    (do eqGuard .neq t x y (.agg ⟨us⟩) (.agg ⟨vs⟩); binOp .neq t (.agg ⟨us⟩) (.agg ⟨vs⟩) : Sem Value).run P w = .ok (.bool (!b)) w := by
  rw [htc] at h1 h2
  have hq : (Op.equalIn 10000 t (.agg ⟨us⟩) (.agg ⟨vs⟩)).run P w = .ok b w := by
    have e : (10000 : Nat) = 9997 + 2 + 1 := rfl
    rw [e, run_equalIn_struct w (9997 + 2) t ⟨us⟩ ⟨vs⟩ ht hs]
    exact fields_eq us vs _ 0 b hf h1 h2 h
  constructor
  · simp only [Sem.run_bind, run_eqGuard_agg w .eql t x y ⟨us⟩ ⟨vs⟩ hg, Result.andThen_ok, run_eql_struct, hq]
  · simp only [Sem.run_bind, run_eqGuard_agg w .neq t x y ⟨us⟩ ⟨vs⟩ hg, Result.andThen_ok, run_neq_struct, hq]
theorem array_law {P : Program} {t : TypeId} (ht : arrPl P t = true) (hg : P.eqGuardType P.depth t = false) (htc : tcs P t = typesOf P t)
    (w : World) (x y : Operand) (us vs : List Value) (b : Bool) (h1 : fitsL P (tcs P t) (us.map .sc) = true) (h2 : fitsL P (tcs P t) (vs.map .sc) = true) (h : eqL (us.map .sc) (vs.map .sc) = some b) :
    (do eqGuard .eql t x y (.agg ⟨us⟩) (.agg ⟨vs⟩); binOp .eql t (.agg ⟨us⟩) (.agg ⟨vs⟩) : Sem Value).run P w = .ok (.bool b) w ∧
    (do eqGuard .neq t x y (.agg ⟨us⟩) (.agg ⟨vs⟩); binOp .neq t (.agg ⟨us⟩) (.agg ⟨vs⟩) : Sem Value).run P w = .ok (.bool (!b)) w := by
  rw [htc] at h1 h2
  have hq : (Op.equalIn 10000 t (.agg ⟨us⟩) (.agg ⟨vs⟩)).run P w = .ok b w := arr_eq (d := 9998) ht us vs b h1 h2 h
  constructor
  · simp only [Sem.run_bind, run_eqGuard_agg w .eql t x y ⟨us⟩ ⟨vs⟩ hg, Result.andThen_ok, run_eql_struct, hq]
  · simp only [Sem.run_bind, run_eqGuard_agg w .neq t x y ⟨us⟩ ⟨vs⟩ hg, Result.andThen_ok, run_neq_struct, hq]
end Go.Ab
